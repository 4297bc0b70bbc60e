/- The statements' helpers for lists of structs. The tree: small laws of lists of slots. Chapter 17's own answer: its blocks; At, End, Parent, Below. Chapter 17's own answer: Root, Child. Chapter 17's own answer: Move, Swap. Chapter 17's own answer: Swap, Remove. hold: its blocks; New, Slots, AddNode, DropNode, Get, pair, Below, Used, Tree. hold: Root, Child, Set, derived, Copy, Mint. Laws that the statement's proof leans on. -/
import Derived.Test.YtpplknmmjlgadaaGreatGz4
import Derived.Test.YtpplknmmjlgadaaGreatGz8
import Derived.Test.YtpplknmmjlgadaaGreatGz1
import Derived.Test.YtpplknmmjlgadaaGreatGz6
import Derived.Test.YtpplknmmjlgadaaGreatGz7
/- The statements' helpers for lists of structs. -/
set_option linter.unusedVariables false
set_option linter.unusedSimpArgs false
namespace Go.Proofs.YtpplknmmjlgadaaGreat.Tr
open Go.RowKit
set_option maxRecDepth 20000
instance : EQ Tryz.prog 44 [some .i64, some .i64, some .i64] := ⟨by kernel_rfl⟩

set_option pp.deepTerms false
set_option pp.deepTerms.threshold 4
set_option maxHeartbeats 400000 in
theorem sameNodes_any {α : Type} [DecidableEq α] (enc : α → List Value) (hin : ∀ x y, enc x = enc y → x = y) (hk : ∀ x, AllK [some .i64, some .i64, some .i64] (enc x)) (v u : Value) (xs ys : List α) (l : List Chunk) (h1 : RowSl l v 3 enc xs) (h2 : RowSl l u 3 enc ys) (hx : xs.length ≤ 1000000) :
    Fn Tryz.prog 20 [v, u] l fun r l' => r = .bool (decide (xs = ys)) ∧ l' = l := by
  obtain ⟨a, ca, rfl, h1⟩ := h1
  obtain ⟨a', ca', rfl, h2⟩ := h2
  refine fn_of_body Tryz.func20 rfl rfl fun E => ?_
  simp only [argF, Tryz.ntmps20]
  by_cases hl : xs.length = ys.length
  · refine gz ?_
    refine k_loop (α := Nat) (fun k => [(0, .slice a xs.length ca), (1, .slice a' ys.length ca'), (5, .int .i64 k)]) (fun k => l) (fun k => k ≤ xs.length ∧ ∀ j, j < k → xs[j]? = ys[j]?) (fun k => xs.length - k) 0 ⟨Nat.zero_le _, fun j h => by omega⟩ ⟨rfl, rfl, rfl, trivial⟩ .refl ?_
    rintro k ⟨hk2, hj⟩
    by_cases hlt : k < xs.length
    · obtain ⟨b, off, cs, t, fz, rfl, hm, hc⟩ := h1 (by omega)
      obtain ⟨b', off', cs', t', fz', rfl, hm', hc'⟩ := h2 (by omega)
      obtain ⟨x, e1⟩ : ∃ x, xs[k]? = some x := ⟨_, List.getElem?_eq_getElem hlt⟩
      obtain ⟨y, e2⟩ : ∃ y, ys[k]? = some y := ⟨_, List.getElem?_eq_getElem (show k < ys.length by omega)⟩
      obtain ⟨g1, g2⟩ := hc k x e1
      obtain ⟨g1', g2'⟩ := hc' k y e2
      refine gz ?_
      refine c_draw [(0, true), (1, true), (2, true), (3, true), (4, true), (5, true), (6, true), (7, true), (8, true)] [[], [], [0, 1], [0, 1, 2], [], [], [4, 5], [4, 5, 6], [0, 1, 2, 3, 4, 5, 6, 7]] _ (by kernel_rfl) (by kernel_rfl) zAtt (fun _ h => h) ?_
      refine pz ?_
      apply pl_q
      · exact q_loadA rfl hm g1 g2
      · rfl
      · rfl
      · rfl
      refine pz ?_
      apply pl_q
      · exact q_loadA rfl hm' g1' g2'
      · rfl
      · rfl
      · rfl
      refine pz ?_
      apply pl_q
      · exact q_neagg rfl rfl (hk x) (hk y)
      · rfl
      · rfl
      · rfl
      by_cases hxy : x = y
      · rw [show (!eqCells (enc x) (enc y)) = false by rw [hxy, eqCells_self (hk y)]; rfl]
        refine pz ?_
        refine gz ?_
        exact k_next (k + 1) ⟨by omega, fun j hjk => by
          by_cases e : j = k
          · subst e; rw [e1, e2, hxy]
          · exact hj j (by omega)⟩ (by omega) ⟨rfl, rfl, rfl, trivial⟩ .refl
      · rw [show (!eqCells (enc x) (enc y)) = true by
          cases h : eqCells (enc x) (enc y) with
          | false => rfl
          | true => exact absurd (hin _ _ ((eqCells_iff (hk x) (hk y)).1 h)) hxy]
        refine pz ?_
        refine gz ?_
        refine k_ret [] rfl .refl (by exact zRes) ⟨?_, rfl⟩
        rw [show decide (xs = ys) = false from decide_eq_false fun e => by subst e; rw [e1] at e2; exact hxy (by cases e2; rfl)]; rfl
    · obtain rfl : k = xs.length := by omega
      refine gz ?_
      refine k_ret [] rfl .refl (by exact zRes) ⟨?_, rfl⟩
      rw [show decide (xs = ys) = true from decide_eq_true (List.ext_getElem? fun j => by
        by_cases h : j < xs.length
        · exact hj j h
        · rw [List.getElem?_eq_none (by omega), List.getElem?_eq_none (by omega)])]; rfl
  · refine gz ?_
    refine k_ret [] rfl .refl (by exact zRes) ⟨?_, rfl⟩
    rw [show decide (xs = ys) = false from decide_eq_false fun e => hl (by rw [e])]; rfl
set_option pp.deepTerms false
set_option pp.deepTerms.threshold 4
set_option maxHeartbeats 400000 in
theorem overNodes_any (v : Value) (n : Nat) (xs : List Value) (cs F : List Chunk) (h : OwnSl 44 3 v n xs cs) (hn : n ≤ 1000000) :
    Fn Tryz.prog 54 [v] (cs ++ F) fun r l' => r = .tuple #[] ∧ ∃ X, l' = X ++ F := by
  refine fn_of_body Tryz.func54 rfl rfl fun E => ?_
  simp only [argF, Tryz.ntmps54]
  obtain ⟨hlen, h⟩ := h
  rcases h with ⟨rfl, rfl, rfl⟩ | ⟨gb, cap, sp, rfl, rfl, hnc, hcm, hcl⟩
  · refine gz ?_
    refine k_loop (α := Unit) (fun k => [(0, .slice none 0 0), (2, .int .i64 0)]) (fun k => F) (fun k => True) (fun k => 0) () trivial ⟨rfl, rfl, trivial⟩ .refl ?_
    rintro _ _
    refine gz ?_
    refine t_e (e_litA (k := 3) rfl rfl rfl (by decide) (by decide)) rfl rfl rfl ?_
    rintro _ _ ⟨bl, _, rfl, rfl⟩
    refine t_e (e_appX (k := 3) (X := []) (cs := []) (n := 0) (xs := []) rfl rfl rfl (OwnSl.nil _ _) rfl (by simp [Value.oneCell']) (by omega) (by decide)) rfl rfl rfl ?_
    rintro v' _ ⟨cs', hown', rfl⟩
    have hv1 : v'.oneCell' = true := hown'.one
    refine gz ?_
    exact k_ret [] rfl .refl (by exact zRes) ⟨rfl, cs', rfl⟩
  · simp only [List.cons_append, List.nil_append]
    refine gz ?_
    refine k_loop (α := Nat × Array Value) (fun x => [(0, .slice (some ⟨gb, 0, none⟩) n cap), (2, .int .i64 x.1)]) (fun x => (gb, .cells x.2 44 (0, 0)) :: F) (fun x => x.1 ≤ n ∧ x.2.size = cap * 3) (fun x => n - x.1) (0, (xs ++ sp).toArray) ⟨Nat.zero_le _, by simpa using hcl⟩ ⟨rfl, rfl, trivial⟩ .refl ?_
    rintro ⟨k, ys⟩ ⟨hk, hy⟩
    simp only at hk hy ⊢
    by_cases hlt : k < n
    · refine gz ?_
      refine t_n (e_storeA (cs := ys) (n := 3) rfl rfl rfl (by simp [Value.oneCell']) (by exact zUpd) (by omega)) rfl rfl ?_
      rintro _ _ ⟨rfl, rfl⟩
      generalize hz : setFrom ys _ _ = zs
      refine gz ?_
      exact k_next (k + 1, zs) ⟨by simp only; omega, by simp only; rw [← hz, setFrom_size]; exact hy⟩ (by simp only; omega) ⟨rfl, rfl, trivial⟩ .refl
    · obtain rfl : k = n := by omega
      refine gz ?_
      refine t_e (e_litA (k := 3) rfl rfl rfl (by decide) (by decide)) rfl rfl rfl ?_
      rintro _ _ ⟨bl, _, rfl, rfl⟩
      refine t_e (e_appX (k := 3) (X := []) (cs := [(gb, _)]) (F := F) (n := k) (xs := ys.toList.take (k * 3)) rfl rfl rfl ⟨by simp; omega, .inr ⟨gb, cap, ys.toList.drop (k * 3), rfl, by rw [List.take_append_drop], hnc, hcm, by rw [List.take_append_drop]; simpa using hy⟩⟩ rfl (by simp [Value.oneCell']) (by omega) (by decide)) rfl rfl rfl ?_
      rintro v' _ ⟨cs', hown', rfl⟩
      have hv1 : v'.oneCell' = true := hown'.one
      refine gz ?_
      exact k_ret [] rfl .refl (by exact zRes) ⟨rfl, cs', rfl⟩
set_option pp.deepTerms false
set_option pp.deepTerms.threshold 4
set_option maxHeartbeats 400000 in
theorem sameSlots_any {α : Type} [DecidableEq α] (enc : α → List Value) (hin : ∀ x y, enc x = enc y → x = y) (hk : ∀ x, AllK [some .i64, some .i64] (enc x)) (v u : Value) (xs ys : List α) (l : List Chunk) (h1 : RowSl l v 2 enc xs) (h2 : RowSl l u 2 enc ys) (hx : xs.length ≤ 1000000) :
    Fn Tryz.prog 21 [v, u] l fun r l' => r = .bool (decide (xs = ys)) ∧ l' = l := by
  obtain ⟨a, ca, rfl, h1⟩ := h1
  obtain ⟨a', ca', rfl, h2⟩ := h2
  refine fn_of_body Tryz.func21 rfl rfl fun E => ?_
  simp only [argF, Tryz.ntmps21]
  by_cases hl : xs.length = ys.length
  · refine gz ?_
    refine k_loop (α := Nat) (fun k => [(0, .slice a xs.length ca), (1, .slice a' ys.length ca'), (5, .int .i64 k)]) (fun k => l) (fun k => k ≤ xs.length ∧ ∀ j, j < k → xs[j]? = ys[j]?) (fun k => xs.length - k) 0 ⟨Nat.zero_le _, fun j h => by omega⟩ ⟨rfl, rfl, rfl, trivial⟩ .refl ?_
    rintro k ⟨hk2, hj⟩
    by_cases hlt : k < xs.length
    · obtain ⟨b, off, cs, t, fz, rfl, hm, hc⟩ := h1 (by omega)
      obtain ⟨b', off', cs', t', fz', rfl, hm', hc'⟩ := h2 (by omega)
      obtain ⟨x, e1⟩ : ∃ x, xs[k]? = some x := ⟨_, List.getElem?_eq_getElem hlt⟩
      obtain ⟨y, e2⟩ : ∃ y, ys[k]? = some y := ⟨_, List.getElem?_eq_getElem (show k < ys.length by omega)⟩
      obtain ⟨g1, g2⟩ := hc k x e1
      obtain ⟨g1', g2'⟩ := hc' k y e2
      refine gz ?_
      refine c_draw [(0, true), (1, true), (2, true), (3, true), (4, true), (5, true), (6, true), (7, true), (8, true)] [[], [], [0, 1], [0, 1, 2], [], [], [4, 5], [4, 5, 6], [0, 1, 2, 3, 4, 5, 6, 7]] _ (by kernel_rfl) (by kernel_rfl) zAtt (fun _ h => h) ?_
      refine pz ?_
      apply pl_q
      · exact q_loadA rfl hm g1 g2
      · rfl
      · rfl
      · rfl
      refine pz ?_
      apply pl_q
      · exact q_loadA rfl hm' g1' g2'
      · rfl
      · rfl
      · rfl
      refine pz ?_
      apply pl_q
      · exact q_neagg rfl rfl (hk x) (hk y)
      · rfl
      · rfl
      · rfl
      by_cases hxy : x = y
      · rw [show (!eqCells (enc x) (enc y)) = false by rw [hxy, eqCells_self (hk y)]; rfl]
        refine pz ?_
        refine gz ?_
        exact k_next (k + 1) ⟨by omega, fun j hjk => by
          by_cases e : j = k
          · subst e; rw [e1, e2, hxy]
          · exact hj j (by omega)⟩ (by omega) ⟨rfl, rfl, rfl, trivial⟩ .refl
      · rw [show (!eqCells (enc x) (enc y)) = true by
          cases h : eqCells (enc x) (enc y) with
          | false => rfl
          | true => exact absurd (hin _ _ ((eqCells_iff (hk x) (hk y)).1 h)) hxy]
        refine pz ?_
        refine gz ?_
        refine k_ret [] rfl .refl (by exact zRes) ⟨?_, rfl⟩
        rw [show decide (xs = ys) = false from decide_eq_false fun e => by subst e; rw [e1] at e2; exact hxy (by cases e2; rfl)]; rfl
    · obtain rfl : k = xs.length := by omega
      refine gz ?_
      refine k_ret [] rfl .refl (by exact zRes) ⟨?_, rfl⟩
      rw [show decide (xs = ys) = true from decide_eq_true (List.ext_getElem? fun j => by
        by_cases h : j < xs.length
        · exact hj j h
        · rw [List.getElem?_eq_none (by omega), List.getElem?_eq_none (by omega)])]; rfl
  · refine gz ?_
    refine k_ret [] rfl .refl (by exact zRes) ⟨?_, rfl⟩
    rw [show decide (xs = ys) = false from decide_eq_false fun e => hl (by rw [e])]; rfl
set_option pp.deepTerms false
set_option pp.deepTerms.threshold 4
set_option maxHeartbeats 400000 in
theorem overSlots_any (v : Value) (n : Nat) (xs : List Value) (cs F : List Chunk) (h : OwnSl 30 2 v n xs cs) (hn : n ≤ 1000000) :
    Fn Tryz.prog 55 [v] (cs ++ F) fun r l' => r = .tuple #[] ∧ ∃ X, l' = X ++ F := by
  refine fn_of_body Tryz.func55 rfl rfl fun E => ?_
  simp only [argF, Tryz.ntmps55]
  obtain ⟨hlen, h⟩ := h
  rcases h with ⟨rfl, rfl, rfl⟩ | ⟨gb, cap, sp, rfl, rfl, hnc, hcm, hcl⟩
  · refine gz ?_
    refine k_loop (α := Unit) (fun k => [(0, .slice none 0 0), (2, .int .i64 0)]) (fun k => F) (fun k => True) (fun k => 0) () trivial ⟨rfl, rfl, trivial⟩ .refl ?_
    rintro _ _
    refine gz ?_
    refine t_e (e_litA (k := 2) rfl rfl rfl (by decide) (by decide)) rfl rfl rfl ?_
    rintro _ _ ⟨bl, _, rfl, rfl⟩
    refine t_e (e_appX (k := 2) (X := []) (cs := []) (n := 0) (xs := []) rfl rfl rfl (OwnSl.nil _ _) rfl (by simp [Value.oneCell']) (by omega) (by decide)) rfl rfl rfl ?_
    rintro v' _ ⟨cs', hown', rfl⟩
    have hv1 : v'.oneCell' = true := hown'.one
    refine gz ?_
    exact k_ret [] rfl .refl (by exact zRes) ⟨rfl, cs', rfl⟩
  · simp only [List.cons_append, List.nil_append]
    refine gz ?_
    refine k_loop (α := Nat × Array Value) (fun x => [(0, .slice (some ⟨gb, 0, none⟩) n cap), (2, .int .i64 x.1)]) (fun x => (gb, .cells x.2 30 (0, 0)) :: F) (fun x => x.1 ≤ n ∧ x.2.size = cap * 2) (fun x => n - x.1) (0, (xs ++ sp).toArray) ⟨Nat.zero_le _, by simpa using hcl⟩ ⟨rfl, rfl, trivial⟩ .refl ?_
    rintro ⟨k, ys⟩ ⟨hk, hy⟩
    simp only at hk hy ⊢
    by_cases hlt : k < n
    · refine gz ?_
      refine t_n (e_storeA (cs := ys) (n := 2) rfl rfl rfl (by simp [Value.oneCell']) (by exact zUpd) (by omega)) rfl rfl ?_
      rintro _ _ ⟨rfl, rfl⟩
      generalize hz : setFrom ys _ _ = zs
      refine gz ?_
      exact k_next (k + 1, zs) ⟨by simp only; omega, by simp only; rw [← hz, setFrom_size]; exact hy⟩ (by simp only; omega) ⟨rfl, rfl, trivial⟩ .refl
    · obtain rfl : k = n := by omega
      refine gz ?_
      refine t_e (e_litA (k := 2) rfl rfl rfl (by decide) (by decide)) rfl rfl rfl ?_
      rintro _ _ ⟨bl, _, rfl, rfl⟩
      refine t_e (e_appX (k := 2) (X := []) (cs := [(gb, _)]) (F := F) (n := k) (xs := ys.toList.take (k * 2)) rfl rfl rfl ⟨by simp; omega, .inr ⟨gb, cap, ys.toList.drop (k * 2), rfl, by rw [List.take_append_drop], hnc, hcm, by rw [List.take_append_drop]; simpa using hy⟩⟩ rfl (by simp [Value.oneCell']) (by omega) (by decide)) rfl rfl rfl ?_
      rintro v' _ ⟨cs', hown', rfl⟩
      have hv1 : v'.oneCell' = true := hown'.one
      refine gz ?_
      exact k_ret [] rfl .refl (by exact zRes) ⟨rfl, cs', rfl⟩
end Go.Proofs.YtpplknmmjlgadaaGreat.Tr

/- The tree: small laws of lists of slots. -/
set_option linter.unusedVariables false
set_option linter.unusedSimpArgs false
namespace Go.Proofs.YtpplknmmjlgadaaGreat
open Go.RowKit
theorem OwnSl.nodes {v : Value} {D : Tr.DT} {cs l : List Chunk} (h : OwnSl 44 3 v D.length (Tr.ncs D) cs) (hs : ∀ c, c ∈ cs → c ∈ l) : RowSl l v 3 Tr.nV D := OwnSl.rowSl (enc := Tr.nV) h (fun _ => rfl) hs
end Go.Proofs.YtpplknmmjlgadaaGreat
namespace Go.Proofs.YtpplknmmjlgadaaGreat.Tr
open Go.RowKit

theorem encT_inj : ∀ x y, encT x = encT y → x = y := encT_ok.inj
theorem encT_k : ∀ x, AllK [some .i64, some .i64] (encT x) := fun a => ⟨_, _, rfl, ⟨_, rfl⟩, _, _, rfl, ⟨_, rfl⟩, rfl⟩
theorem node_cells {cs : Array Value} {k : Nat} {x : SlotT × Int} (h : k + 3 ≤ cs.size) (e : cs.extract k (k + 3) = List.toArray (nV x)) : cs[k + 2]? = some (.int .i64 x.2) ∧ k + 2 ≤ cs.size ∧ cs.extract k (k + 2) = List.toArray (encT x.1) := by
  obtain ⟨h1, h2, h3⟩ := acts_cells h e
  refine ⟨h3, by omega, ?_⟩
  apply Array.ext_getElem?
  intro j
  rw [Array.getElem?_extract]
  by_cases hj : j < 2
  · rw [if_pos (by omega)]
    match j, hj with
    | 0, _ => rw [Nat.add_zero, h1]; rfl
    | 1, _ => rw [h2]; rfl
  · rw [if_neg (by omega), List.getElem?_toArray, List.getElem?_eq_none (by simp; omega)]
abbrev twD (e : Int) (B : DT) : DT := B.takeWhile fun x => decide (e < x.2)
theorem tw_cons_t {e : Int} {x : SlotT × Int} {B : DT} (h : e < x.2) : twD e (x :: B) = x :: twD e B := List.takeWhile_cons_of_pos (by simpa using h)
theorem tw_cons_f {e : Int} {x : SlotT × Int} {B : DT} (h : ¬ e < x.2) : twD e (x :: B) = [] := List.takeWhile_cons_of_neg (by simpa using h)
theorem eqT_t (x : SlotT) : eqCells (encT x) (encT x) = true := eqCells_self (encT_k x)
theorem eqT_f {x y : SlotT} (h : x ≠ y) : eqCells (encT x) (encT y) = false := by
  cases h2 : eqCells (encT x) (encT y) with
  | false => rfl
  | true => exact absurd (encT_inj _ _ ((eqCells_iff (encT_k _) (encT_k _)).1 h2)) h
theorem at_split {D : DT} {j : Nat} {x : SlotT × Int} (h : D[j]? = some x) : D = D.take j ++ x :: D.drop (j + 1) ∧ (D.take j).length = j := by
  have hl := (List.getElem?_eq_some_iff.1 h).1
  have h1 := List.take_append_drop j D
  rw [List.drop_eq_getElem_cons hl] at h1
  rw [List.getElem?_eq_getElem hl] at h
  rw [Option.some.inj h] at h1
  exact ⟨h1.symm, by simp; omega⟩
theorem nodup_at {D : DT} (h : (D.map Prod.fst).Nodup) {k i : Nat} {x y : SlotT × Int} (hk : k < i) (h1 : D[k]? = some y) (h2 : D[i]? = some x) : y.1 ≠ x.1 := fun e => by
  have hi : i < D.length := (List.getElem?_eq_some_iff.1 h2).1
  rw [List.nodup_iff_pairwise_ne, List.pairwise_iff_getElem] at h
  refine h k i (by simp; omega) (by simpa using hi) hk ?_
  rw [List.getElem_map, List.getElem_map]
  rw [List.getElem?_eq_getElem (by omega)] at h1 h2
  rw [Option.some.inj h1, Option.some.inj h2, e]
theorem slot_inj {D : DT} (hn : (D.map Prod.fst).Nodup) {i j : Nat} {x y : SlotT × Int} (hx : D[i]? = some x) (hy : D[j]? = some y) (e : x.1 = y.1) : i = j := by
  by_cases h1 : i < j
  · exact absurd e (nodup_at hn h1 hx hy)
  · by_cases h2 : j < i
    · exact absurd e.symm (nodup_at hn h2 hy hx)
    · omega
end Go.Proofs.YtpplknmmjlgadaaGreat.Tr

/- Chapter 17's own answer: its blocks; At, End, Parent, Below. -/
set_option linter.unusedVariables false
set_option linter.unusedSimpArgs false
namespace Go.Proofs.YtpplknmmjlgadaaGreat.Tr
open Go.RowKit
set_option maxRecDepth 20000

abbrev rcC (b : Nat) (v : Value) : Chunk := (b, .cells #[v] 85 (0, 0))
def IsR (b : Nat) (D : DT) (lr : List Chunk) : Prop := ∃ v cs, lr = rcC b v :: cs ∧ OwnSl 44 3 v D.length (ncs D) cs
/-- the list can be read in l -/
theorem IsR.view {b : Nat} {D : DT} {lr l : List Chunk} (h : IsR b D lr) (hs : ∀ c, c ∈ lr → c ∈ l) : ∃ p cap, rcC b (.slice p D.length cap) ∈ l ∧ RowSl l (.slice p D.length cap) 3 nV D ∧ (0 < D.length → ∃ bB off xs t fz, p = some ⟨bB, off, none⟩ ∧ (bB, Obj.cells xs t fz) ∈ l ∧ ∀ i x, D[i]? = some x → xs[off + i * 3 + 2]? = some (.int .i64 x.2) ∧ off + i * 3 + 2 ≤ xs.size ∧ xs.extract (off + i * 3) (off + i * 3 + 2) = List.toArray (encT x.1)) := by
  obtain ⟨v, cs, rfl, ho⟩ := h
  have hSN := ho.nodes (l := l) fun c hc => hs c (.tail _ hc)
  have hSN0 := hSN
  obtain ⟨p, cap, rfl, hR⟩ := hSN
  refine ⟨p, cap, hs _ (.head _), hSN0, fun h0 => ?_⟩
  obtain ⟨bB, off, xs, t, fz, h1, h2, h3⟩ := hR h0
  exact ⟨bB, off, xs, t, fz, h1, h2, fun i x hx => node_cells (h3 i x hx).1 (h3 i x hx).2⟩
def idxD (D : DT) (s : SlotT) : Int := match splitD s D with
  | none => -1
  | some (A, _, _) => (A.length : Nat)
theorem idx_hit {D : DT} {s : SlotT} {k : Nat} {x : SlotT × Int} (hx : D[k]? = some x) (hs : x.1 = s) (hn : ∀ j y, j < k → D[j]? = some y → y.1 ≠ s) : idxD D s = (k : Nat) ∧ splitD s D = some (D.take k, x.2, D.drop (k + 1)) := by
  obtain ⟨h1, h2⟩ := at_split hx
  have e : splitD s D = some (D.take k, x.2, D.drop (k + 1)) := by
    have h3 : D = D.take k ++ (s, x.2) :: D.drop (k + 1) := by rw [← hs]; exact h1
    have h4 : splitD s (D.take k ++ (s, x.2) :: D.drop (k + 1)) = some (D.take k, x.2, D.drop (k + 1)) := splitD_of fun y hy => by
      obtain ⟨j, hj⟩ := List.mem_iff_getElem?.1 hy
      rw [List.getElem?_take] at hj
      split at hj
      · exact hn j y (by assumption) hj
      · cases hj
    rw [← h3] at h4; exact h4
  refine ⟨?_, e⟩
  unfold idxD; rw [e]; simp only; rw [h2]
theorem idx_none {D : DT} {s : SlotT} (hn : ∀ y, y ∈ D → y.1 ≠ s) : idxD D s = -1 := by unfold idxD; rw [splitD_none.2 hn]
theorem idx_of {D A B : DT} {s : SlotT} {d : Int} (h : splitD s D = some (A, d, B)) : idxD D s = (A.length : Nat) ∧ D = A ++ (s, d) :: B ∧ D[A.length]? = some (s, d) := by
  refine ⟨by unfold idxD; rw [h], (splitD_some h).1, ?_⟩
  rw [(splitD_some h).1, List.getElem?_append_right (Nat.le_refl _), Nat.sub_self]; rfl
theorem idx_neg {D : DT} {s : SlotT} (h : splitD s D = none) : idxD D s = -1 := by unfold idxD; rw [h]
set_option pp.deepTerms false
set_option pp.deepTerms.threshold 4
set_option maxHeartbeats 400000
theorem rat_any (b : Nat) (D : DT) (lr : List Chunk) (hr : IsR b D lr) (hn : D.length ≤ 1000000) (s : SlotT) (l : List Chunk) (hsub : ∀ c, c ∈ lr → c ∈ l) :
    Fn Tryz.prog 93 [.pointer (some ⟨b, 0, none⟩), .agg (List.toArray (encT s))] l fun v l' => v = .int .i64 (idxD D s) ∧ l' = l := by
  obtain ⟨p, cap, hm, _, hR⟩ := hr.view hsub
  refine fn_of_body Tryz.func93 rfl rfl fun E => ?_
  simp only [argF, Tryz.ntmps93]
  refine gz ?_
  (first | refine t_e (e_box1 rfl rfl) rfl rfl rfl ?_ | refine t_e (e_boxA rfl) rfl rfl rfl ?_); rintro _ _ ⟨b3, _, rfl, rfl⟩
  refine gz ?_
  refine k_loop (α := Nat) (fun k => [(0, .pointer (some ⟨b, 0, none⟩)), (3, .pointer (some ⟨b3, 0, none⟩)), (5, .int .i64 k)]) (fun _ => slC b3 s :: l) (fun k => k ≤ D.length ∧ ∀ j y, j < k → D[j]? = some y → y.1 ≠ s) (fun k => D.length - k) 0 ⟨Nat.zero_le _, fun j y h => by omega⟩ ⟨rfl, rfl, rfl, trivial⟩ .refl ?_
  rintro k ⟨hk, hj⟩
  by_cases hlt : k < D.length
  · obtain ⟨bB, off, xs, t, fz, rfl, hmr, hc⟩ := hR (by omega)
    obtain ⟨x, hx⟩ : ∃ x, D[k]? = some x := ⟨_, List.getElem?_eq_getElem hlt⟩
    obtain ⟨g0, g1, g2⟩ := hc k x hx
    refine gz ?_
    refine c_draw [(0, true), (1, true), (2, true), (3, true), (4, true), (5, true), (6, true), (7, true), (8, true), (9, true)] [[], [0], [0, 1], [0, 1, 2], [], [0, 1, 2, 3, 4], [0, 1, 2, 3, 4, 5], [0, 1, 2, 3, 4, 5, 6], [], [0, 1, 2, 3, 4, 5, 6, 7, 8]] _ (by kernel_rfl) (by kernel_rfl) zAtt (fun _ h => h) ?_
    refine pz ?_
    apply pl_q
    · exact q_loadA rfl (.tail _ hmr) g1 g2
    · rfl
    · rfl
    · rfl
    refine pz ?_
    apply pl_q
    · exact q_eqagg rfl rfl (encT_k x.1) (encT_k s)
    · rfl
    · rfl
    · rfl
    by_cases hxs : x.1 = s
    · rw [hxs, eqT_t, (idx_hit hx hxs hj).1]
      refine pz ?_
      refine gz ?_
      exact k_ret [] rfl (.drop .refl) (by exact zRes) ⟨rfl, rfl⟩
    · rw [eqT_f hxs]
      refine pz ?_
      refine gz ?_
      refine k_next (k + 1) ⟨by omega, fun j y h1 h2 => ?_⟩ (by omega) ⟨rfl, rfl, rfl, trivial⟩ .refl
      by_cases e : j = k
      · rw [e, hx] at h2; cases h2; exact hxs
      · exact hj j y (by omega) h2
  · obtain rfl : k = D.length := by omega
    rw [idx_none fun y hy => by
      obtain ⟨j, hjy⟩ := List.mem_iff_getElem?.1 hy
      exact hj j y (List.getElem?_eq_some_iff.1 hjy).1 hjy]
    refine gz ?_
    exact k_ret [] rfl (.drop .refl) (by exact zRes) ⟨rfl, rfl⟩
theorem tw_len {e : Int} {B : DT} {k : Nat} (h1 : ∀ j y, j < k → B[j]? = some y → e < y.2) (h2 : ∀ y, B[k]? = some y → ¬ e < y.2) (hk : k ≤ B.length) : (twD e B).length = k := by
  induction B generalizing k with
  | nil => simp at hk; subst hk; rfl
  | cons x r ih =>
    cases k with
    | zero => rw [tw_cons_f (h2 x rfl)]; rfl
    | succ k =>
      rw [tw_cons_t (h1 0 x (by omega) rfl), List.length_cons, ih (k := k) (fun j y h3 h4 => h1 (j + 1) y (by omega) (by simpa using h4)) (fun y h3 => h2 y (by simpa using h3)) (by simp at hk; omega)]
theorem rend_any (b : Nat) (D : DT) (lr : List Chunk) (hr : IsR b D lr) (hn : D.length ≤ 1000000) (A B : DT) (s : SlotT × Int) (hD : D = A ++ s :: B) (l : List Chunk) (hsub : ∀ c, c ∈ lr → c ∈ l) :
    Fn Tryz.prog 94 [.pointer (some ⟨b, 0, none⟩), .int .i64 (A.length : Nat)] l fun v l' => v = .int .i64 ((A.length + 1 + (twD s.2 B).length : Nat) : Int) ∧ l' = l := by
  obtain ⟨p, cap, hm, _, hR⟩ := hr.view hsub
  have hlD : D.length = A.length + 1 + B.length := by rw [hD]; simp; omega
  have hs : D[A.length]? = some s := by rw [hD, List.getElem?_append_right (Nat.le_refl _), Nat.sub_self]; rfl
  have hBk : ∀ k, D[A.length + 1 + k]? = B[k]? := fun k => by rw [hD, List.getElem?_append_right (by omega), show A.length + 1 + k - A.length = k + 1 by omega]; rfl
  obtain ⟨bB, off, xs, t, fz, rfl, hmr, hc⟩ := hR (by omega)
  obtain ⟨f0, f1, f2⟩ := hc _ s hs
  refine fn_of_body Tryz.func94 rfl rfl fun E => ?_
  simp only [argF, Tryz.ntmps94]
  refine gz ?_
  refine k_loop (α := Nat) (fun k => [(0, .pointer (some ⟨b, 0, none⟩)), (1, .int .i64 (A.length : Nat)), (5, .int .i64 ((A.length + 1 + k : Nat) : Int))]) (fun _ => l) (fun k => k ≤ B.length ∧ ∀ j y, j < k → B[j]? = some y → s.2 < y.2) (fun k => B.length - k) 0 ⟨Nat.zero_le _, fun j y h => by omega⟩ ⟨rfl, rfl, rfl, trivial⟩ .refl ?_
  rintro k ⟨hk, hj⟩
  by_cases hlt : k < B.length
  · obtain ⟨x, hx⟩ : ∃ x, B[k]? = some x := ⟨_, List.getElem?_eq_getElem hlt⟩
    obtain ⟨g0, g1, g2⟩ := hc _ x ((hBk k).trans hx)
    refine gz ?_
    refine c_draw [(0, true), (1, true), (2, true), (3, true), (4, true), (5, true), (6, true), (7, true), (8, true), (9, true), (10, true), (11, true), (12, true), (13, true), (14, true), (15, true), (16, true), (17, true), (18, true), (19, true), (20, true), (21, true), (22, true), (23, true), (24, true), (25, true)] [[], [], [1], [1, 2], [1, 2, 3], [1, 2, 3, 4], [0, 1, 2, 3, 4, 5], [0, 1, 2, 3, 4, 5, 6], [0, 1, 2, 3, 4, 5, 6, 7], [0, 1, 2, 3, 4, 5, 6, 7, 8], [0, 1, 2, 3, 4, 5, 6, 7, 8, 9], [0, 1, 2, 3, 4, 5, 6, 7, 8, 9, 10], [0, 1, 2, 3, 4, 5, 6, 7], [0, 1, 2, 3, 4, 5, 6, 7, 8, 9, 10, 11, 12], [0, 1, 2, 3, 4, 5, 6, 7, 8, 9, 10, 11, 12, 13], [0, 1, 2, 3, 4, 5, 6, 7, 8, 9, 10, 11, 12, 13, 14], [0, 1, 2, 3, 4, 5, 6, 7], [0, 1, 2, 3, 4, 5, 6, 7, 16], [0, 1, 2, 3, 4, 5, 6, 7, 16, 17], [0, 1, 2, 3, 4, 5, 6, 7, 16, 17, 18], [0, 1, 2, 3, 4, 5, 6, 7], [0, 1, 2, 3, 4, 5, 6, 7, 16, 17, 18, 19, 20], [0, 1, 2, 3, 4, 5, 6, 7, 16, 17, 18, 19, 20, 21], [0, 1, 2, 3, 4, 5, 6, 7, 16, 17, 18, 19, 20, 21, 22], [0, 1, 2, 3, 4, 5, 6, 7, 8, 9, 10, 11, 12, 13, 14, 15, 16, 17, 18, 19, 20, 21, 22, 23], [0, 1, 2, 3, 4, 5, 6, 7, 8, 9, 10, 11, 12, 13, 14, 15, 16, 17, 18, 19, 20, 21, 22, 23, 24]] _ (by kernel_rfl) (by kernel_rfl) zAtt (fun _ h => h) ?_
    refine pz ?_
    by_cases hxs : s.2 < x.2
    · refine gz ?_
      refine k_next (k + 1) ⟨by omega, fun j y h1 h2 => ?_⟩ (by omega) ⟨rfl, rfl, by exact some_int (by omega), trivial⟩ .refl
      by_cases e : j = k
      · rw [e, hx] at h2; cases h2; exact hxs
      · exact hj j y (by omega) h2
    · rw [tw_len (k := k) hj (fun y hy => by rw [hx] at hy; cases hy; exact hxs) hk]
      refine gz ?_
      exact k_ret [] rfl .refl (by exact zRes) ⟨rfl, rfl⟩
  · obtain rfl : k = B.length := by omega
    rw [tw_len (k := B.length) hj (fun y hy => by simp at hy) hk]
    refine gz ?_
    refine c_draw [(0, true), (1, true), (2, true), (3, true), (4, true), (5, true), (6, true), (7, true), (8, true), (9, true), (10, true), (11, true), (12, true), (13, true), (14, true), (15, true), (16, true), (17, true), (18, true), (19, true), (20, true), (21, true), (22, true), (23, true), (24, true), (25, true)] [[], [], [1], [1, 2], [1, 2, 3], [1, 2, 3, 4], [0, 1, 2, 3, 4, 5], [0, 1, 2, 3, 4, 5, 6], [0, 1, 2, 3, 4, 5, 6, 7], [0, 1, 2, 3, 4, 5, 6, 7, 8], [0, 1, 2, 3, 4, 5, 6, 7, 8, 9], [0, 1, 2, 3, 4, 5, 6, 7, 8, 9, 10], [0, 1, 2, 3, 4, 5, 6, 7], [0, 1, 2, 3, 4, 5, 6, 7, 8, 9, 10, 11, 12], [0, 1, 2, 3, 4, 5, 6, 7, 8, 9, 10, 11, 12, 13], [0, 1, 2, 3, 4, 5, 6, 7, 8, 9, 10, 11, 12, 13, 14], [0, 1, 2, 3, 4, 5, 6, 7], [0, 1, 2, 3, 4, 5, 6, 7, 16], [0, 1, 2, 3, 4, 5, 6, 7, 16, 17], [0, 1, 2, 3, 4, 5, 6, 7, 16, 17, 18], [0, 1, 2, 3, 4, 5, 6, 7], [0, 1, 2, 3, 4, 5, 6, 7, 16, 17, 18, 19, 20], [0, 1, 2, 3, 4, 5, 6, 7, 16, 17, 18, 19, 20, 21], [0, 1, 2, 3, 4, 5, 6, 7, 16, 17, 18, 19, 20, 21, 22], [0, 1, 2, 3, 4, 5, 6, 7, 8, 9, 10, 11, 12, 13, 14, 15, 16, 17, 18, 19, 20, 21, 22, 23], [0, 1, 2, 3, 4, 5, 6, 7, 8, 9, 10, 11, 12, 13, 14, 15, 16, 17, 18, 19, 20, 21, 22, 23, 24]] _ (by kernel_rfl) (by kernel_rfl) zAtt (fun _ h => h) ?_
    refine pz ?_
    refine gz ?_
    exact k_ret [] rfl .refl (by exact zRes) ⟨rfl, rfl⟩
theorem rbelow_any (b : Nat) (D : DT) (lr : List Chunk) (hr : IsR b D lr) (hn : D.length ≤ 1000000) (s : SlotT) (l : List Chunk) (hsub : ∀ c, c ∈ lr → c ∈ l) :
    Fn Tryz.prog 49 [.pointer (some ⟨b, 0, none⟩), .agg (List.toArray (encT s))] l fun v l' => ∃ cs, OwnSl 30 2 v (belowD D s).length (scs (belowD D s)) cs ∧ l' = cs ++ l := by
  obtain ⟨p, cap, hm, _, hR⟩ := hr.view hsub
  refine fn_of_body Tryz.func49 rfl rfl fun E => ?_
  simp only [argF, Tryz.ntmps49]
  refine gz ?_
  (first | refine t_e (e_box1 rfl rfl) rfl rfl rfl ?_ | refine t_e (e_boxA rfl) rfl rfl rfl ?_); rintro _ _ ⟨b3, _, rfl, rfl⟩
  refine gz ?_
  refine t_q (q_call rfl rfl fun l2 hl => rat_any b D lr hr hn s l2 fun c hc => hl c (.tail _ (hsub c hc))) rfl rfl rfl ?_
  cases hsp : splitD s D with
  | none =>
    rw [idx_neg hsp, show belowD D s = [] by unfold belowD; rw [hsp]]
    refine gz ?_
    exact k_ret [] rfl (.drop .refl) (by exact zRes) ⟨[], OwnSl.nil _ _, rfl⟩
  | some z =>
    obtain ⟨A, d, B⟩ := z
    obtain ⟨e1, e2, e3⟩ := idx_of hsp
    have hlA : A.length < D.length := by rw [e2]; simp
    rw [e1, show belowD D s = (twD d B).map Prod.fst by unfold belowD; rw [hsp]]
    obtain ⟨bB, off, xs, t, fz, rfl, hmr, hc⟩ := hR (by omega)
    obtain ⟨tw, htw⟩ : ∃ tw, tw = twD d B := ⟨_, rfl⟩
    have htB : tw <+: B := by rw [htw]; exact List.takeWhile_prefix _
    have hlB : tw.length ≤ 1000000 := by have := htB.length_le; have h9 := congrArg List.length e2; simp at h9; omega
    have hAk : ∀ k y, tw[k]? = some y → D[A.length + 1 + k]? = some y := fun k y hk => by
      obtain ⟨r, hr⟩ := htB
      rw [e2, List.getElem?_append_right (by omega), show A.length + 1 + k - A.length = k + 1 by omega, List.getElem?_cons_succ, ← hr, List.getElem?_append_left (List.getElem?_eq_some_iff.1 hk).1]; exact hk
    rw [← htw]
    refine gz ?_
    refine k_loop (α := Nat × Value × List Chunk) (fun x => [(0, .pointer (some ⟨b, 0, none⟩)), (5, .int .i64 (A.length : Nat)), (6, x.2.1), (7, .int .i64 ((A.length + 1 + x.1 : Nat) : Int))]) (fun x => x.2.2 ++ (slC b3 s :: l)) (fun x => x.1 ≤ tw.length ∧ OwnSl 30 2 x.2.1 ((tw.take x.1).map Prod.fst).length (scs ((tw.take x.1).map Prod.fst)) x.2.2) (fun x => tw.length - x.1) (0, .slice none 0 0, []) ⟨Nat.zero_le _, OwnSl.nil _ _⟩ ⟨rfl, rfl, rfl, rfl, trivial⟩ .refl ?_
    rintro ⟨k, v, cv⟩ ⟨hk, ho⟩
    dsimp only at hk ho ⊢
    have hE := fun l2 (hl : ∀ c, c ∈ cv ++ (slC b3 s :: l) → c ∈ l2) => rend_any b D lr hr hn A B (s, d) e2 l2 fun c hc => hl c (List.mem_append_right _ (.tail _ (hsub c hc)))
    simp only at hE
    rw [← htw] at hE
    by_cases hlt : k < tw.length
    · obtain ⟨x, hx⟩ : ∃ x, tw[k]? = some x := ⟨_, List.getElem?_eq_getElem hlt⟩
      obtain ⟨g0, g1, g2⟩ := hc _ x (hAk k x hx)
      have htk : (tw.take (k + 1)).map Prod.fst = (tw.take k).map Prod.fst ++ [x.1] := by rw [List.take_add_one, hx, List.map_append]; rfl
      have hb9 : A.length + 1 + k < D.length := (List.getElem?_eq_some_iff.1 (hAk k x hx)).1
      have hm2 : rcC b (.slice (some ⟨bB, off, none⟩) D.length cap) ∈ cv ++ (slC b3 s :: l) := List.mem_append_right _ (.tail _ hm)
      refine gz ?_
      refine t_q (q_call rfl rfl hE) rfl rfl rfl ?_
      refine gz ?_
      refine t_q (q_loadA rfl (List.mem_append_right _ (.tail _ hmr)) g1 g2) rfl rfl rfl ?_
      refine gz ?_
      refine t_e (e_litA (k := 2) rfl rfl rfl (by decide) (by decide)) rfl rfl rfl ?_
      rintro _ _ ⟨bl, _, rfl, rfl⟩
      refine t_e (e_appX (k := 2) (X := []) (cs := cv) (F := slC b3 s :: l) (xs := scs ((tw.take k).map Prod.fst)) (n := ((tw.take k).map Prod.fst).length) (ws := encT x.1) rfl rfl rfl ho rfl (by simp [Value.oneCell']) (by simp; omega) (by decide)) rfl rfl rfl ?_
      rintro v2 _ ⟨cv2, ho2, rfl⟩
      have hv1 : v2.oneCell' = true := ho2.one
      refine gz ?_
      exact k_next (k + 1, v2, cv2) ⟨by simp only; omega, by simp only; rw [htk, scs_snoc, List.length_append]; exact ho2⟩ (by simp only; omega) ⟨rfl, rfl, rfl, by exact some_int (by omega), trivial⟩ .refl
    · obtain rfl : k = tw.length := by omega
      rw [List.take_length] at ho
      refine gz ?_
      refine t_q (q_call rfl rfl hE) rfl rfl rfl ?_
      refine gz ?_
      refine k_ret [] rfl (l' := cv ++ l) (Keep.trans (.of_perm List.perm_middle) (.drop .refl)) (by exact zRes) ?_
      exact ⟨cv, ho, rfl⟩
end Go.Proofs.YtpplknmmjlgadaaGreat.Tr

/- Chapter 17's own answer: Root, Child. -/
set_option linter.unusedVariables false
set_option linter.unusedSimpArgs false
namespace Go.Proofs.YtpplknmmjlgadaaGreat.Tr
open Go.RowKit
set_option maxRecDepth 20000

set_option pp.deepTerms false
set_option pp.deepTerms.threshold 4
set_option maxHeartbeats 400000
theorem ncs_ones {D : DT} : ∀ u ∈ ncs D, u.oneCell' = true := fun u hu => by
  obtain ⟨x, _, hx⟩ := List.mem_flatMap.1 hu
  simp only [nV, List.mem_cons, List.not_mem_nil, or_false] at hx
  rcases hx with rfl | rfl | rfl <;> rfl
theorem nV_ones (x : SlotT × Int) : ∀ u ∈ nV x, u.oneCell' = true := fun u hx => by
  simp only [nV, List.mem_cons, List.not_mem_nil, or_false] at hx
  rcases hx with rfl | rfl | rfl <;> rfl
theorem keep_new (x : Chunk) (c2 cs G : List Chunk) : Keep (c2 ++ (x :: (cs ++ G))) ((x :: c2) ++ G) :=
  ⟨cs, by
    have h1 : (c2 ++ (x :: (cs ++ G))).Perm (x :: (c2 ++ (cs ++ G))) := List.perm_middle
    have h2 : (c2 ++ (cs ++ G)).Perm (cs ++ (c2 ++ G)) := List.perm_append_comm_assoc c2 cs G
    exact (h1.trans ((h2.cons x).trans List.perm_middle.symm))⟩
theorem rroot_any (b : Nat) (D : DT) (lr : List Chunk) (hr : IsR b D lr) (hn : D.length ≤ 1000000) (s : SlotT) (G : List Chunk) :
    Fn Tryz.prog 81 [.pointer (some ⟨b, 0, none⟩), .agg (List.toArray (encT s))] (lr ++ G) fun v l' => v = .int .i64 (rootD D s).1 ∧ ∃ lr', IsR b (rootD D s).2 lr' ∧ l' = lr' ++ G := by
  have hr0 := hr
  obtain ⟨v, cs, rfl, ho⟩ := hr
  have hv1 : v.oneCell' = true := ho.one
  refine fn_of_body Tryz.func81 rfl rfl fun E => ?_
  simp only [argF, Tryz.ntmps81]
  refine gz ?_
  (first | refine t_e (e_box1 rfl rfl) rfl rfl rfl ?_ | refine t_e (e_boxA rfl) rfl rfl rfl ?_); rintro _ _ ⟨b3, _, rfl, rfl⟩
  refine gz ?_
  refine t_q (q_call rfl rfl fun l2 hl => rat_any b D _ hr0 hn s l2 fun c hc => hl c (.tail _ (List.mem_append_left _ hc))) rfl rfl rfl ?_
  cases hsp : splitD s D with
  | some z =>
    obtain ⟨A, d, B⟩ := z
    obtain ⟨e1, e2, e3⟩ := idx_of hsp
    rw [e1, show rootD D s = (11, D) by unfold rootD hasD; rw [hsp]; rfl]
    refine gz ?_
    exact k_ret [] rfl (.drop .refl) (by exact zRes) ⟨rfl, _, hr0, rfl⟩
  | none =>
    rw [idx_neg hsp, show rootD D s = (0, D ++ [(s, 0)]) by unfold rootD hasD; rw [hsp]; rfl]
    simp only [List.cons_append]
    refine gz ?_
    refine c_draw2 [(0, true), (1, true), (2, true), (3, true), (4, true), (6, true), (7, true), (5, false), (8, false), (9, false), (10, true), (11, true), (12, false)] [[], [], [1], [1, 2], [1, 2, 3], [1, 2, 3, 4], [], [6], [6, 7], [1, 2, 3, 4, 5, 6, 7, 8], [0, 1, 2, 3, 4, 5, 6, 7, 8, 9], [0, 1, 2, 3, 4, 5, 6, 7, 8, 9, 10], [0, 1, 2, 3, 4, 5, 6, 7, 8, 9, 10, 11]] 5 8 ([slC b3 s]) (by kernel_rfl) (by kernel_rfl) zAtt zHR ?_
    refine pz ?_
    apply pl_s (S := [rcC b v]); (· exact zLd); (· exact sing_mem (.tail _ (.head _))); (· rfl); (· rfl); (· rfl)
    refine pz ?_
    refine pl_alt [(8, false), (5, false), (9, false), (10, true), (11, true), (12, false)] zAtt (List.Perm.swap _ _ _) (by kernel_rfl) ?_ ?_
    · skip
      apply pl_eS
      · exact e_copy (k := 3) (e := 44) (n := D.length) (xs := ncs D) (cs := cs) (zs := [.int .i64 0, .int .i64 0, .int .i64 0]) rfl rfl rfl ho (fun c hc => .tail _ (.tail _ (List.mem_append_left _ hc))) ncs_ones hn (by decide)
      · rfl
      · rfl
      · rfl
      · rintro _ _ ⟨c1, _, rfl⟩ c hc
        exact List.mem_append_right _ (by rw [List.mem_singleton.1 hc]; exact .head _)
      · rintro _ _ ⟨c1, _, rfl⟩ x hx _ c hc
        exact List.mem_append_right _ (by rw [List.mem_singleton.1 hx] at hc; rw [List.mem_singleton.1 hc]; exact .tail _ (.head _))
      rintro v1 _ ⟨c1, ho1, rfl⟩
      refine pz ?_
      apply pl_eS
      · exact e_litA (k := 3) (e := 44) (ws := nV (s, 0)) (zs := [.int .i64 0, .int .i64 0, .int .i64 0]) rfl rfl rfl (by decide) (by decide)
      · rfl
      · rfl
      · rfl
      · rintro _ _ ⟨bl, _, _, rfl⟩ c hc
        exact .tail _ (List.mem_append_right _ (by rw [List.mem_singleton.1 hc]; exact .head _))
      · rintro _ _ ⟨bl, _, rfl, rfl⟩ x hx _ c hc
        exact .tail _ (List.mem_append_right _ (by rw [List.mem_singleton.1 hx] at hc; rw [List.mem_singleton.1 hc]; exact .tail _ (.head _)))
      rintro _ _ ⟨bl, _, rfl, rfl⟩
      refine pz ?_
      apply pl_eS
      · exact e_appX (k := 3) (X := []) (cs := c1) (F := slC b3 s :: rcC b v :: (cs ++ G)) (xs := ncs D) (n := D.length) (zs := [.int .i64 0, .int .i64 0, .int .i64 0]) (ws := nV (s, 0)) rfl rfl rfl ho1 rfl (nV_ones _) hn (by decide)
      · rfl
      · rfl
      · rfl
      · rintro _ _ ⟨c2, _, rfl⟩ c hc
        exact List.mem_append_right c2 (by rw [List.mem_singleton.1 hc]; exact .head _)
      · exact fun _ _ _ x hx ha => anc_all (by kernel_rfl) hx ha
      rintro v2 _ ⟨c2, ho2, rfl⟩
      have hv2 : v2.oneCell' = true := ho2.one
      refine pz ?_
      apply pl_nS
      · exact e_store (b := b) (off := 0) rfl rfl hv2 (upd_pre (.there .here) c2) (by simp)
      · rfl
      · rfl
      · rintro _ _ ⟨rfl, rfl⟩ c hc
        exact List.mem_append_right _ (by rw [List.mem_singleton.1 hc]; exact .head _)
      · exact fun _ _ _ x hx ha => anc_all (by kernel_rfl) hx ha
      rintro _ _ ⟨rfl, rfl⟩
      refine pz ?_
      refine gz ?_
      exact k_ret [] rfl (l' := rcC b v2 :: c2 ++ G) (Keep.trans (.of_perm List.perm_middle) (.drop (keep_new _ c2 cs G))) (by exact zRes) ⟨rfl, _, ⟨_, _, rfl, by rw [List.length_append, ncs_snoc]; exact ho2⟩, rfl⟩
    · skip
      apply pl_eS
      · exact e_litA (k := 3) (e := 44) (ws := nV (s, 0)) (zs := [.int .i64 0, .int .i64 0, .int .i64 0]) rfl rfl rfl (by decide) (by decide)
      · rfl
      · rfl
      · rfl
      · rintro _ _ ⟨bl, _, _, rfl⟩ c hc
        exact .tail _ ((by rw [List.mem_singleton.1 hc]; exact .head _))
      · rintro _ _ ⟨bl, _, rfl, rfl⟩ x hx _ c hc
        exact .tail _ ((by rw [List.mem_singleton.1 hx] at hc; rw [List.mem_singleton.1 hc]; exact .tail _ (.head _)))
      rintro _ _ ⟨bl, _, rfl, rfl⟩
      refine pz ?_
      apply pl_eS
      · exact e_copy (k := 3) (e := 44) (n := D.length) (xs := ncs D) (cs := cs) (zs := [.int .i64 0, .int .i64 0, .int .i64 0]) rfl rfl rfl ho (fun c hc => .tail _ (.tail _ (.tail _ (List.mem_append_left _ hc)))) ncs_ones hn (by decide)
      · rfl
      · rfl
      · rfl
      · rintro _ _ ⟨c1, _, rfl⟩ c hc
        exact List.mem_append_right _ (by rw [List.mem_singleton.1 hc]; exact .tail _ (.head _))
      · rintro _ _ ⟨c1, _, rfl⟩ x hx _ c hc
        exact List.mem_append_right _ (by rw [List.mem_singleton.1 hx] at hc; rw [List.mem_singleton.1 hc]; exact .tail _ (.tail _ (.head _)))
      rintro v1 _ ⟨c1, ho1, rfl⟩
      refine pz ?_
      apply pl_eS
      · exact e_appY (k := 3) (cs := c1) (F := slC b3 s :: rcC b v :: (cs ++ G)) (xs := ncs D) (n := D.length) (zs := [.int .i64 0, .int .i64 0, .int .i64 0]) (ws := nV (s, 0)) rfl rfl rfl ho1 rfl (nV_ones _) hn (by decide)
      · rfl
      · rfl
      · rfl
      · rintro _ _ ⟨c2, _, rfl⟩ c hc
        exact List.mem_append_right c2 (by rw [List.mem_singleton.1 hc]; exact .head _)
      · exact fun _ _ _ x hx ha => anc_all (by kernel_rfl) hx ha
      rintro v2 _ ⟨c2, ho2, rfl⟩
      have hv2 : v2.oneCell' = true := ho2.one
      refine pz ?_
      apply pl_nS
      · exact e_store (b := b) (off := 0) rfl rfl hv2 (upd_pre (.there .here) c2) (by simp)
      · rfl
      · rfl
      · rintro _ _ ⟨rfl, rfl⟩ c hc
        exact List.mem_append_right _ (by rw [List.mem_singleton.1 hc]; exact .head _)
      · exact fun _ _ _ x hx ha => anc_all (by kernel_rfl) hx ha
      rintro _ _ ⟨rfl, rfl⟩
      refine pz ?_
      refine gz ?_
      exact k_ret [] rfl (l' := rcC b v2 :: c2 ++ G) (Keep.trans (.of_perm List.perm_middle) (.drop (keep_new _ c2 cs G))) (by exact zRes) ⟨rfl, _, ⟨_, _, rfl, by rw [List.length_append, ncs_snoc]; exact ho2⟩, rfl⟩
theorem ncs_app (A B : DT) : ncs (A ++ B) = ncs A ++ ncs B := List.flatMap_append
theorem ncs_l (A : DT) : (ncs A).length = A.length * 3 := by
  induction A with
  | nil => rfl
  | cons x r ih => rw [show x :: r = [x] ++ r from rfl, ncs_app, List.length_append, ih, List.length_append, Nat.add_mul]; rfl
theorem ncs_fst {A B : DT} {sp : List Value} {j : Nat} {u : Value} (h : (ncs A)[j]? = some u) : (List.toArray (ncs (A ++ B) ++ sp))[0 + j]? = some u := by
  have hl := (List.getElem?_eq_some_iff.1 h).1
  rw [Nat.zero_add, List.getElem?_toArray, ncs_app, List.append_assoc, List.getElem?_append_left hl]; exact h
theorem ncs_snd {A B : DT} {sp : List Value} {j : Nat} {u : Value} (h : (ncs B)[j]? = some u) : (List.toArray (ncs (A ++ B) ++ sp))[A.length * 3 + j]? = some u := by
  have hl := (List.getElem?_eq_some_iff.1 h).1
  rw [List.getElem?_toArray, ncs_app, List.append_assoc, List.getElem?_append_right (by rw [ncs_l]; omega), ncs_l, Nat.add_sub_cancel_left, List.getElem?_append_left hl]; exact h
theorem ncs_dep {A B : DT} {x : SlotT × Int} {sp : List Value} : (List.toArray (ncs (A ++ x :: B) ++ sp))[A.length * 3 + 2]? = some (.int .i64 x.2) := ncs_snd (B := x :: B) rfl
theorem rchild_any (b : Nat) (D : DT) (lr : List Chunk) (hr : IsR b D lr) (hn : D.length ≤ 900000) (hd : SmallD D) (par s : SlotT) (G : List Chunk) :
    Fn Tryz.prog 83 [.pointer (some ⟨b, 0, none⟩), .agg (List.toArray (encT par)), .agg (List.toArray (encT s))] (lr ++ G) fun v l' => v = .int .i64 (childD D par s).1 ∧ ∃ lr', IsR b (childD D par s).2 lr' ∧ l' = lr' ++ G := by
  have hr0 := hr
  obtain ⟨v, cs, rfl, ho⟩ := hr
  have hv1 : v.oneCell' = true := ho.one
  refine fn_of_body Tryz.func83 rfl rfl fun E => ?_
  simp only [argF, Tryz.ntmps83]
  refine gz ?_
  (first | refine t_e (e_box1 rfl rfl) rfl rfl rfl ?_ | refine t_e (e_boxA rfl) rfl rfl rfl ?_); rintro _ _ ⟨b4, _, rfl, rfl⟩
  refine gz ?_
  (first | refine t_e (e_box1 rfl rfl) rfl rfl rfl ?_ | refine t_e (e_boxA rfl) rfl rfl rfl ?_); rintro _ _ ⟨b5, _, rfl, rfl⟩
  refine gz ?_
  refine t_q (q_call rfl rfl fun l2 hl => rat_any b D _ hr0 (by omega) par l2 fun c hc => hl c (.tail _ (.tail _ (List.mem_append_left _ hc)))) rfl rfl rfl ?_
  cases hsp : splitD par D with
  | none =>
    rw [idx_neg hsp, show childD D par s = (10, D) by unfold childD; rw [hsp]]
    refine gz ?_
    exact k_ret [] rfl (.drop (.drop .refl)) (by exact zRes) ⟨rfl, _, hr0, rfl⟩
  | some z =>
    obtain ⟨A, d, B⟩ := z
    obtain ⟨e1, e2, e3⟩ := idx_of hsp
    have hdd := hd (par, d) (List.mem_of_getElem? e3)
    simp only at hdd
    rw [e1]
    refine gz ?_
    refine t_q (q_call rfl rfl fun l2 hl => rat_any b D _ hr0 (by omega) s l2 fun c hc => hl c (.tail _ (.tail _ (List.mem_append_left _ hc)))) rfl rfl rfl ?_
    cases hss : splitD s D with
    | some z =>
      obtain ⟨A2, d2, B2⟩ := z
      obtain ⟨f1, f2, f3⟩ := idx_of hss
      rw [f1, show childD D par s = (11, D) by unfold childD hasD; rw [hsp, hss]; rfl]
      refine gz ?_
      exact k_ret [] rfl (.drop (.drop .refl)) (by exact zRes) ⟨rfl, _, hr0, rfl⟩
    | none =>
      rw [idx_neg hss, show childD D par s = (0, A ++ (par, d) :: (s, d + 1) :: B) by unfold childD hasD; rw [hsp, hss]; rfl]
      have hlD : D.length = A.length + 1 + B.length := by rw [e2]; simp; omega
      rcases ho.2 with ⟨_, h0, _⟩ | ⟨gb, cap, sp, rfl, rfl, hnc, hcm, hcl⟩
      · omega
      have hg : (List.toArray (ncs D ++ sp))[A.length * 3 + 2]? = some (.int .i64 d) := by rw [e2]; exact ncs_dep
      have hn1 : ∀ j u, (ncs (A ++ [(par, d)]))[j]? = some u → (List.toArray (ncs D ++ sp))[0 + j]? = some u := fun j u h => by
        rw [e2, show A ++ (par, d) :: B = (A ++ [(par, d)]) ++ B by simp]; exact ncs_fst h
      have hn2 : ∀ j u, (ncs B)[j]? = some u → (List.toArray (ncs D ++ sp))[(A.length + 1) * 3 + j]? = some u := fun j u h => by
        rw [e2, show A ++ (par, d) :: B = (A ++ [(par, d)]) ++ B by simp, show A.length + 1 = (A ++ [(par, d)]).length by simp]; exact ncs_snd h
      have hbl : ∀ j u, (ncs B)[j]? = some u → A.length + 1 < cap := fun j u h => by
        have := (List.getElem?_eq_some_iff.1 h).1
        rw [ncs_l] at this
        omega
      obtain ⟨off', hoff⟩ : ∃ o, (if cap = A.length + 1 then 0 else 0 + (A.length + 1) * 3) = o := ⟨_, rfl⟩
      have hn3 : ∀ j u, (ncs B)[j]? = some u → (List.toArray (ncs D ++ sp))[off' + j]? = some u := fun j u h => by
        have := hbl j u h
        rw [← hoff, if_neg (by omega), Nat.zero_add]; exact hn2 j u h
      generalize hL0 : slC b5 s :: slC b4 par :: rcC b (.slice (some ⟨gb, 0, none⟩) D.length cap) :: (gb, .cells (List.toArray (ncs D ++ sp)) 44 (0, 0)) :: G = L0
      simp only [List.cons_append, List.nil_append]
      have hm1 : rcC b (.slice (some ⟨gb, 0, none⟩) D.length cap) ∈ L0 := by rw [← hL0]; exact .tail _ (.tail _ (.head _))
      have hm2 : (gb, Obj.cells (List.toArray (ncs D ++ sp)) 44 (0, 0)) ∈ L0 := by rw [← hL0]; exact .tail _ (.tail _ (.tail _ (.head _)))
      have hm3 : slC b5 s ∈ L0 := by rw [← hL0]; exact .head _
      rw [hL0]
      refine gz ?_
      refine t_q (q_slice (l0 := 0) (h0 := A.length + 1) (m0 := cap) (off' := 0) (n' := A.length + 1) (c' := cap) rfl .none (.some rfl (by omega) (by omega)) .none (by simp) (by omega) (by omega) (by omega) (by simp) (by omega) (by omega)) rfl rfl rfl ?_
      refine t_e (ce_append (k := 3) (e := 44) (xs := []) (cs := []) (F := L0) (news := ncs (A ++ [(par, d)])) (zs := [.int .i64 0, .int .i64 0, .int .i64 0]) (cl := List.toArray (ncs D ++ sp)) rfl rfl rfl (OwnSl.nil _ _) hm2 hn1 (by rw [ncs_l]; simp) ncs_ones (by unfold maxLen; omega) (by omega)) rfl rfl rfl ?_
      rintro v1 _ ⟨c1, ho1, rfl⟩
      rw [List.nil_append, Nat.zero_add] at ho1
      refine gz ?_
      refine c_draw [(0, true), (1, true), (2, true), (3, true), (4, true), (5, true), (6, true), (7, true), (8, true), (9, true), (10, true), (11, true), (12, false), (13, false), (14, true)] [[], [], [], [2], [2, 3], [2, 3, 4], [], [2, 3, 4, 5, 6], [2, 3, 4, 5, 6, 7], [2, 3, 4, 5, 6, 7, 8], [2, 3, 4, 5, 6, 7, 8, 9], [1, 2, 3, 4, 5, 6, 7, 8, 9, 10], [1, 2, 3, 4, 5, 6, 7, 8, 9, 10, 11], [0, 1, 2, 3, 4, 5, 6, 7, 8, 9, 10, 11, 12], [0, 1, 2, 3, 4, 5, 6, 7, 8, 9, 10, 11, 12, 13]] (L0) (by kernel_rfl) (by kernel_rfl) zAtt (fun c hc => List.mem_append_right c1 hc) ?_
      refine pz ?_
      apply pl_e
      · exact e_litA (k := 3) (e := 44) (ws := nV (s, d + 1)) (zs := [.int .i64 0, .int .i64 0, .int .i64 0]) rfl rfl rfl (by decide) (by decide)
      · rfl
      · rfl
      · rfl
      · rintro _ _ ⟨bl, _, _, rfl⟩ c hc
        exact .tail _ (List.mem_append_right c1 hc)
      rintro _ _ ⟨bl, _, rfl, rfl⟩
      refine pz ?_
      apply pl_e
      · exact e_appX (k := 3) (X := []) (cs := c1) (F := L0) (xs := ncs (A ++ [(par, d)])) (n := A.length + 1) (zs := [.int .i64 0, .int .i64 0, .int .i64 0]) (ws := nV (s, d + 1)) rfl rfl rfl ho1 rfl (nV_ones _) (by omega) (by decide)
      · rfl
      · rfl
      · rfl
      · rintro _ _ ⟨c2, _, rfl⟩ c hc
        exact List.mem_append_right c2 hc
      rintro v2 _ ⟨c2, ho2, rfl⟩
      have hv2 : v2.oneCell' = true := ho2.one
      simp only [List.nil_append]
      have hm4 : rcC b (.slice (some ⟨gb, 0, none⟩) D.length cap) ∈ c2 ++ L0 := List.mem_append_right c2 hm1
      refine pz ?_
      refine gz ?_
      refine t_q (q_slice (l0 := A.length + 1) (h0 := D.length) (m0 := cap) (off' := off') (n' := B.length) rfl (.some rfl (by omega) (by omega)) .none .none (by simp) (by omega) (by omega) (by omega) hoff (by omega) rfl) rfl rfl rfl ?_
      refine t_e (ce_append (k := 3) (e := 44) (m := B.length) (xs := ncs (A ++ [(par, d)]) ++ nV (s, d + 1)) (cs := c2) (F := L0) (news := ncs B) (zs := [.int .i64 0, .int .i64 0, .int .i64 0]) (cl := List.toArray (ncs D ++ sp)) rfl rfl rfl ho2 (List.mem_append_right c2 hm2) hn3 (ncs_l B) ncs_ones (by unfold maxLen; omega) (by omega)) rfl rfl rfl ?_
      rintro v3 _ ⟨c3, ho3, rfl⟩
      have hv3 : v3.oneCell' = true := ho3.one
      rw [← hL0]
      refine gz ?_
      refine t_n (e_store (b := b) (off := 0) rfl rfl hv3 (upd_pre (.there (.there .here)) c3) (by simp)) rfl rfl ?_
      rintro _ _ ⟨rfl, rfl⟩
      refine gz ?_
      refine k_ret [] rfl (l' := rcC b v3 :: c3 ++ G) (Keep.trans (.of_perm List.perm_middle) (.drop (Keep.trans (.of_perm List.perm_middle) (.drop (keep_new _ c3 [(gb, .cells (List.toArray (ncs D ++ sp)) 44 (0, 0))] G))))) (by exact zRes) ⟨rfl, _, ⟨_, _, rfl, ?_⟩, rfl⟩
      have e5 : ncs (A ++ [(par, d)]) ++ nV (s, d + 1) ++ ncs B = ncs (A ++ (par, d) :: (s, d + 1) :: B) := by
        rw [← ncs_snoc, ← ncs_app]; simp
      rw [e5] at ho3
      have e6 : (A ++ (par, d) :: (s, d + 1) :: B).length = A.length + 1 + 1 + B.length := by simp; omega
      rw [e6]; exact ho3
end Go.Proofs.YtpplknmmjlgadaaGreat.Tr

/- Chapter 17's own answer: Move, Swap. -/
set_option linter.unusedVariables false
set_option linter.unusedSimpArgs false
namespace Go.Proofs.YtpplknmmjlgadaaGreat.Tr
open Go.RowKit
set_option maxRecDepth 20000

set_option pp.deepTerms false
set_option pp.deepTerms.threshold 4
set_option maxHeartbeats 400000
theorem set_mid (X Y : List Value) (u0 u1 w0 w1 : Value) : setFrom (List.toArray (X ++ u0 :: u1 :: Y)) X.length [w0, w1] = List.toArray (X ++ w0 :: w1 :: Y) := by
  simp only [setFrom]
  apply Array.toList_inj.1
  simp only [Array.toList_setIfInBounds]
  rw [show (X ++ u0 :: u1 :: Y).set X.length w0 = X ++ w0 :: u1 :: Y by simp, List.set_append_right _ _ (by omega), Nat.add_sub_cancel_left]
  rfl
def setD (D : DT) (k : Nat) (s : SlotT) : DT := D.modify k fun x => (s, x.2)
theorem setD_mid (A B : DT) (x : SlotT × Int) (s : SlotT) : setD (A ++ x :: B) A.length s = A ++ (s, x.2) :: B := modify_mid _ _ _ _
theorem setD_len (D : DT) (k : Nat) (s : SlotT) : (setD D k s).length = D.length := List.length_modify ..
theorem setD_at (D : DT) (k j : Nat) (s : SlotT) : (setD D k s)[j]? = if k = j then D[j]?.map (fun x => (s, x.2)) else D[j]? := by
  unfold setD; rw [List.getElem?_modify]
  split
  · rfl
  · cases D[j]? <;> rfl
theorem set_ncs (D : DT) (k : Nat) (s : SlotT) (sp : List Value) (hk : k < D.length) : setFrom (List.toArray (ncs D ++ sp)) (k * 3) (encT s) = List.toArray (ncs (setD D k s) ++ sp) := by
  obtain ⟨x, hx⟩ : ∃ x, D[k]? = some x := ⟨_, List.getElem?_eq_getElem hk⟩
  obtain ⟨h1, h2⟩ := at_split hx
  generalize D.take k = A at h1 h2
  generalize D.drop (k + 1) = B at h1
  subst h1 h2
  rw [setD_mid, ncs_app, ncs_app, ← ncs_l A, List.append_assoc, List.append_assoc]
  exact set_mid (ncs A) _ _ _ _ _
theorem swap_at {D : DT} (hnd : (D.map Prod.fst).Nodup) {a c : SlotT} {D1 D2 : DT} (h1 : (∃ A d B, splitD a D = some (A, d, B) ∧ D1 = setD D A.length c) ∨ (splitD a D = none ∧ D1 = D)) (h2 : (∃ A d B, splitD c D = some (A, d, B) ∧ D2 = setD D1 A.length a) ∨ (splitD c D = none ∧ D2 = D1)) : D2 = swapD D a c := by
  apply List.ext_getElem?
  intro j
  unfold swapD
  rw [List.getElem?_map]
  cases hx : D[j]? with
  | none =>
    have hl : D.length ≤ j := List.getElem?_eq_none_iff.1 hx
    have hl1 : D1.length = D.length := by rcases h1 with ⟨A, d, B, _, rfl⟩ | ⟨_, rfl⟩ <;> simp [setD_len]
    have hl2 : D2.length = D1.length := by rcases h2 with ⟨A, d, B, _, rfl⟩ | ⟨_, rfl⟩ <;> simp [setD_len]
    rw [List.getElem?_eq_none (by omega)]; rfl
  | some x =>
    have k1 : D1[j]? = some (if x.1 = a then (c, x.2) else x) := by
      rcases h1 with ⟨A, d, B, e, rfl⟩ | ⟨e, rfl⟩
      · obtain ⟨_, _, e3⟩ := idx_of e
        rw [setD_at, hx]
        by_cases hj : A.length = j
        · rw [if_pos hj]; rw [hj, hx] at e3; cases e3; simp
        · rw [if_neg hj, if_neg fun h => hj (slot_inj hnd e3 hx h.symm)]
      · rw [hx, if_neg (splitD_none.1 e x (List.mem_of_getElem? hx))]
    rcases h2 with ⟨A, d, B, e, rfl⟩ | ⟨e, rfl⟩
    · obtain ⟨_, _, e3⟩ := idx_of e
      rw [setD_at, k1]
      by_cases hj : A.length = j
      · rw [if_pos hj]; rw [hj, hx] at e3; cases e3
        unfold swpS
        by_cases h : c = a
        · subst h; simp
        · simp [h]
      · rw [if_neg hj]
        have hn : x.1 ≠ c := fun h => hj (slot_inj hnd e3 hx h.symm)
        show some _ = some (swpS a c x)
        rw [show swpS a c x = if x.1 = a then (c, x.2) else x by unfold swpS; rw [if_neg hn]]
    · have hn : x.1 ≠ c := splitD_none.1 e x (List.mem_of_getElem? hx)
      rw [k1]
      show some _ = some (swpS a c x)
      rw [show swpS a c x = if x.1 = a then (c, x.2) else x by unfold swpS; rw [if_neg hn]]
theorem keep_new3 (x1 x2 x : Chunk) (c3 cs G : List Chunk) : Keep (c3 ++ (x1 :: x2 :: x :: (cs ++ G))) ((x :: c3) ++ G) :=
  Keep.trans (.of_perm List.perm_middle) (.drop (Keep.trans (.of_perm List.perm_middle) (.drop (keep_new x c3 cs G))))
theorem rmove_any (b : Nat) (D : DT) (lr : List Chunk) (hr : IsR b D lr) (hn : D.length ≤ 900000) (a c : SlotT) (G : List Chunk) :
    Fn Tryz.prog 88 [.pointer (some ⟨b, 0, none⟩), .agg (List.toArray (encT a)), .agg (List.toArray (encT c))] (lr ++ G) fun v l' => v = .int .i64 (moveD D a c).1 ∧ ∃ lr', IsR b (moveD D a c).2 lr' ∧ l' = lr' ++ G := by
  have hr0 := hr
  obtain ⟨v, cs, rfl, ho⟩ := hr
  have hv1 : v.oneCell' = true := ho.one
  refine fn_of_body Tryz.func88 rfl rfl fun E => ?_
  simp only [argF, Tryz.ntmps88]
  refine gz ?_
  (first | refine t_e (e_box1 rfl rfl) rfl rfl rfl ?_ | refine t_e (e_boxA rfl) rfl rfl rfl ?_); rintro _ _ ⟨b4, _, rfl, rfl⟩
  refine gz ?_
  (first | refine t_e (e_box1 rfl rfl) rfl rfl rfl ?_ | refine t_e (e_boxA rfl) rfl rfl rfl ?_); rintro _ _ ⟨b5, _, rfl, rfl⟩
  refine gz ?_
  refine t_q (q_call rfl rfl fun l2 hl => rat_any b D _ hr0 (by omega) a l2 fun c hc => hl c (.tail _ (.tail _ (List.mem_append_left _ hc)))) rfl rfl rfl ?_
  cases hsp : splitD a D with
  | none =>
    rw [idx_neg hsp, show moveD D a c = (10, D) by unfold moveD; rw [hsp]]
    refine gz ?_
    exact k_ret [] rfl (.drop (.drop .refl)) (by exact zRes) ⟨rfl, _, hr0, rfl⟩
  | some z =>
    obtain ⟨A, d, B⟩ := z
    obtain ⟨e1, e2, e3⟩ := idx_of hsp
    have hlA : A.length < D.length := by rw [e2]; simp
    rw [e1]
    refine gz ?_
    refine t_q (q_call rfl rfl fun l2 hl => rat_any b D _ hr0 (by omega) c l2 fun c hc => hl c (.tail _ (.tail _ (List.mem_append_left _ hc)))) rfl rfl rfl ?_
    cases hss : splitD c D with
    | some z =>
      obtain ⟨A2, d2, B2⟩ := z
      obtain ⟨f1, f2, f3⟩ := idx_of hss
      rw [f1, show moveD D a c = (11, D) by unfold moveD hasD; rw [hsp, hss]; rfl]
      refine gz ?_
      exact k_ret [] rfl (.drop (.drop .refl)) (by exact zRes) ⟨rfl, _, hr0, rfl⟩
    | none =>
      rw [idx_neg hss, show moveD D a c = (0, setD D A.length c) by unfold moveD hasD; rw [hsp, hss, e2, setD_mid]; rfl]
      simp only [List.cons_append]
      refine gz ?_
      refine t_e (e_copy (k := 3) (e := 44) (n := D.length) (xs := ncs D) (cs := cs) (zs := [.int .i64 0, .int .i64 0, .int .i64 0]) rfl rfl rfl ho (fun c hc => .tail _ (.tail _ (.tail _ (List.mem_append_left _ hc)))) ncs_ones (by omega) (by decide)) rfl rfl rfl ?_
      rintro v1 _ ⟨c1, ho1, rfl⟩
      have hv2 : v1.oneCell' = true := ho1.one
      refine gz ?_
      refine t_n (e_store (b := b) (off := 0) (l' := c1 ++ (slC b5 c :: slC b4 a :: rcC b v1 :: (cs ++ G))) rfl rfl hv2 (upd_pre (.there (.there .here)) c1) (by simp)) rfl rfl ?_
      rintro _ _ ⟨rfl, rfl⟩
      refine gz ?_
      rcases ho1.2 with ⟨_, h0, _⟩ | ⟨gb, cap, sp, rfl, rfl, hnc, hcm, hcl⟩
      · omega
      refine c_draw [(0, true), (1, true), (2, true), (3, true), (4, true), (5, true), (6, true), (7, true), (8, false)] [[], [0], [0, 1], [0, 1, 2], [], [], [0, 1, 2, 3, 4, 5], [0, 1, 2, 3, 4, 5, 6], [0, 1, 2, 3, 4, 5, 6, 7]] _ (by kernel_rfl) (by kernel_rfl) zAtt (fun c hc => List.mem_append_right _ hc) ?_
      refine pz ?_
      apply pl_n
      · exact e_storeA (b := gb) (off := A.length * 3) (cs := List.toArray (ncs D ++ sp)) (n := 2) rfl rfl rfl (by simp [Value.oneCell']) .here (by rw [List.size_toArray, List.length_append, ncs_l]; omega)
      · rfl
      · rfl
      · rintro _ _ ⟨rfl, rfl⟩ c hc
        exact .tail _ hc
      rintro _ _ ⟨rfl, rfl⟩
      rw [set_ncs D A.length c sp hlA]
      refine pz ?_
      refine gz ?_
      refine k_ret [] rfl (l' := rcC b (.slice (some ⟨gb, 0, none⟩) D.length cap) :: [(gb, .cells (List.toArray (ncs (setD D A.length c) ++ sp)) 44 (0, 0))] ++ G) (keep_new3 _ _ _ [_] cs G) (by exact zRes) ⟨rfl, _, ⟨_, _, rfl, ?_⟩, rfl⟩
      rw [setD_len]
      refine ⟨by rw [ncs_l, setD_len], .inr ⟨gb, cap, sp, rfl, rfl, hnc, hcm, ?_⟩⟩
      rw [List.length_append, ncs_l, setD_len, ← hcl, List.length_append, ncs_l]
end Go.Proofs.YtpplknmmjlgadaaGreat.Tr

/- Chapter 17's own answer: Swap, Remove. -/
set_option linter.unusedVariables false
set_option linter.unusedSimpArgs false
namespace Go.Proofs.YtpplknmmjlgadaaGreat.Tr
open Go.RowKit
set_option maxRecDepth 20000

set_option pp.deepTerms false
set_option pp.deepTerms.threshold 4
set_option maxHeartbeats 400000
theorem rswap_any (b : Nat) (D : DT) (lr : List Chunk) (hr : IsR b D lr) (hn : D.length ≤ 900000) (hnd : (D.map Prod.fst).Nodup) (a c : SlotT) (G : List Chunk) :
    Fn Tryz.prog 90 [.pointer (some ⟨b, 0, none⟩), .agg (List.toArray (encT a)), .agg (List.toArray (encT c))] (lr ++ G) fun v l' => v = .tuple #[] ∧ ∃ lr', IsR b (swapD D a c) lr' ∧ l' = lr' ++ G := by
  have hr0 := hr
  obtain ⟨v, cs, rfl, ho⟩ := hr
  have hv1 : v.oneCell' = true := ho.one
  refine fn_of_body Tryz.func90 rfl rfl fun E => ?_
  simp only [argF, Tryz.ntmps90]
  refine gz ?_
  (first | refine t_e (e_box1 rfl rfl) rfl rfl rfl ?_ | refine t_e (e_boxA rfl) rfl rfl rfl ?_); rintro _ _ ⟨b4, _, rfl, rfl⟩
  refine gz ?_
  (first | refine t_e (e_box1 rfl rfl) rfl rfl rfl ?_ | refine t_e (e_boxA rfl) rfl rfl rfl ?_); rintro _ _ ⟨b5, _, rfl, rfl⟩
  refine gz ?_
  refine c_draw [(0, true), (1, true), (2, true), (3, true), (4, true), (5, true), (6, true), (7, true)] [[], [], [0, 1], [], [], [0, 1, 2, 3, 4], [0, 1, 2, 3, 4, 5], [0, 1, 2, 3, 4, 5, 6]] _ (by kernel_rfl) (by kernel_rfl) zAtt (fun _ h => h) ?_
  refine pz ?_
  apply pl_q
  · exact q_call rfl rfl fun l2 hl => rat_any b D _ hr0 (by omega) a l2 fun c hc => hl c (.tail _ (.tail _ (List.mem_append_left _ hc)))
  · rfl
  · rfl
  · rfl
  refine pz ?_
  apply pl_q
  · exact q_call rfl rfl fun l2 hl => rat_any b D _ hr0 (by omega) c l2 fun c hc => hl c (.tail _ (.tail _ (List.mem_append_left _ hc)))
  · rfl
  · rfl
  · rfl
  refine pz ?_
  simp only [List.cons_append]
  refine gz ?_
  refine t_e (e_copy (k := 3) (e := 44) (n := D.length) (xs := ncs D) (cs := cs) (zs := [.int .i64 0, .int .i64 0, .int .i64 0]) rfl rfl rfl ho (fun c hc => .tail _ (.tail _ (.tail _ (List.mem_append_left _ hc)))) ncs_ones (by omega) (by decide)) rfl rfl rfl ?_
  rintro v1 _ ⟨c1, ho1, rfl⟩
  have hv2 : v1.oneCell' = true := ho1.one
  refine gz ?_
  refine t_n (e_store (b := b) (off := 0) (l' := c1 ++ (slC b5 c :: slC b4 a :: rcC b v1 :: (cs ++ G))) rfl rfl hv2 (upd_pre (.there (.there .here)) c1) (by simp)) rfl rfl ?_
  rintro _ _ ⟨rfl, rfl⟩
  rcases ho1.2 with ⟨rfl, h0, rfl⟩ | ⟨gb, cap, sp, rfl, rfl, hnc, hcm, hcl⟩
  · obtain rfl : D = [] := List.eq_nil_of_length_eq_zero h0
    rw [show idxD [] a = -1 from idx_none (by simp), show idxD [] c = -1 from idx_none (by simp)]
    refine gz ?_
    exact k_ret [] rfl (l' := [rcC b (.slice none 0 0)] ++ G) (keep_new3 _ _ _ [] cs G) (by exact zRes) ⟨rfl, _, ⟨_, _, rfl, OwnSl.nil _ _⟩, rfl⟩
  simp only [List.cons_append, List.nil_append]
  have hfin : ∀ D' : DT, D'.length = D.length → D' = swapD D a c → ∃ lr', IsR b (swapD D a c) lr' ∧ rcC b (.slice (some ⟨gb, 0, none⟩) D.length cap) :: [(gb, Obj.cells (List.toArray (ncs D' ++ sp)) 44 (0, 0))] ++ G = lr' ++ G := fun D' h1 h2 => by
    refine ⟨_, ⟨_, _, rfl, ?_⟩, rfl⟩
    rw [← h2, h1]
    refine ⟨by rw [ncs_l, h1], .inr ⟨gb, cap, sp, rfl, rfl, hnc, hcm, ?_⟩⟩
    rw [List.length_append, ncs_l, h1, ← hcl, List.length_append, ncs_l]
  have ha : (∃ A d B, splitD a D = some (A, d, B) ∧ idxD D a = (A.length : Nat) ∧ A.length < D.length) ∨ (splitD a D = none ∧ idxD D a = -1) := by
    cases h : splitD a D with
    | none => exact .inr ⟨rfl, idx_neg h⟩
    | some z => obtain ⟨A, d, B⟩ := z; obtain ⟨h1, h2, _⟩ := idx_of h; exact .inl ⟨A, d, B, rfl, h1, by rw [h2]; simp⟩
  have hc : (∃ A d B, splitD c D = some (A, d, B) ∧ idxD D c = (A.length : Nat) ∧ A.length < D.length) ∨ (splitD c D = none ∧ idxD D c = -1) := by
    cases h : splitD c D with
    | none => exact .inr ⟨rfl, idx_neg h⟩
    | some z => obtain ⟨A, d, B⟩ := z; obtain ⟨h1, h2, _⟩ := idx_of h; exact .inl ⟨A, d, B, rfl, h1, by rw [h2]; simp⟩
  rcases ha with ⟨A, d, B, hsa, hia, hla⟩ | ⟨hsa, hia⟩
  · rw [hia]
    refine gz ?_
    refine c_draw [(0, true), (1, true), (2, true), (3, true), (4, true), (5, true), (6, true), (7, true), (8, false)] [[], [0], [0, 1], [0, 1, 2], [], [], [0, 1, 2, 3, 4, 5], [0, 1, 2, 3, 4, 5, 6], [0, 1, 2, 3, 4, 5, 6, 7]] _ (by kernel_rfl) (by kernel_rfl) zAtt (fun c hc => List.Mem.tail _ hc) ?_
    refine pz ?_
    apply pl_n
    · exact e_storeA (b := gb) (off := A.length * 3) (cs := List.toArray (ncs D ++ sp)) (n := 2) rfl rfl rfl (by simp [Value.oneCell']) .here (by rw [List.size_toArray, List.length_append, ncs_l]; omega)
    · rfl
    · rfl
    · rintro _ _ ⟨rfl, rfl⟩ c hc
      exact .tail _ hc
    rintro _ _ ⟨rfl, rfl⟩
    rw [set_ncs D A.length c sp hla]
    refine pz ?_
    rcases hc with ⟨A2, d2, B2, hsc, hic, hlc⟩ | ⟨hsc, hic⟩
    · rw [hic]
      refine gz ?_
      refine c_draw [(0, true), (1, true), (2, true), (3, true), (4, true), (5, true), (6, true), (7, true), (8, false)] [[], [0], [0, 1], [0, 1, 2], [], [], [0, 1, 2, 3, 4, 5], [0, 1, 2, 3, 4, 5, 6], [0, 1, 2, 3, 4, 5, 6, 7]] _ (by kernel_rfl) (by kernel_rfl) zAtt (fun c hc => List.Mem.tail _ hc) ?_
      refine pz ?_
      apply pl_n
      · exact e_storeA (b := gb) (off := A2.length * 3) (cs := List.toArray (ncs (setD D A.length c) ++ sp)) (n := 2) rfl rfl rfl (by simp [Value.oneCell']) .here (by rw [List.size_toArray, List.length_append, ncs_l, setD_len]; omega)
      · rfl
      · rfl
      · rintro _ _ ⟨rfl, rfl⟩ c hc
        exact .tail _ hc
      rintro _ _ ⟨rfl, rfl⟩
      rw [set_ncs _ A2.length a sp (by rw [setD_len]; exact hlc)]
      refine pz ?_
      refine gz ?_
      exact k_ret [] rfl (keep_new3 _ _ _ [_] cs G) (by exact zRes) ⟨rfl, hfin _ (by rw [setD_len, setD_len]) (swap_at hnd (.inl ⟨A, d, B, hsa, rfl⟩) (.inl ⟨A2, d2, B2, hsc, rfl⟩))⟩
    · rw [hic]
      refine gz ?_
      exact k_ret [] rfl (keep_new3 _ _ _ [_] cs G) (by exact zRes) ⟨rfl, hfin _ (by rw [setD_len]) (swap_at hnd (.inl ⟨A, d, B, hsa, rfl⟩) (.inr ⟨hsc, rfl⟩))⟩
  · rw [hia]
    rcases hc with ⟨A2, d2, B2, hsc, hic, hlc⟩ | ⟨hsc, hic⟩
    · rw [hic]
      refine gz ?_
      refine c_draw [(0, true), (1, true), (2, true), (3, true), (4, true), (5, true), (6, true), (7, true), (8, false)] [[], [0], [0, 1], [0, 1, 2], [], [], [0, 1, 2, 3, 4, 5], [0, 1, 2, 3, 4, 5, 6], [0, 1, 2, 3, 4, 5, 6, 7]] _ (by kernel_rfl) (by kernel_rfl) zAtt (fun c hc => List.Mem.tail _ hc) ?_
      refine pz ?_
      apply pl_n
      · exact e_storeA (b := gb) (off := A2.length * 3) (cs := List.toArray (ncs D ++ sp)) (n := 2) rfl rfl rfl (by simp [Value.oneCell']) .here (by rw [List.size_toArray, List.length_append, ncs_l]; omega)
      · rfl
      · rfl
      · rintro _ _ ⟨rfl, rfl⟩ c hc
        exact .tail _ hc
      rintro _ _ ⟨rfl, rfl⟩
      rw [set_ncs _ A2.length a sp hlc]
      refine pz ?_
      refine gz ?_
      exact k_ret [] rfl (keep_new3 _ _ _ [_] cs G) (by exact zRes) ⟨rfl, hfin _ (by rw [setD_len]) (swap_at hnd (.inr ⟨hsa, rfl⟩) (.inl ⟨A2, d2, B2, hsc, rfl⟩))⟩
    · rw [hic]
      refine gz ?_
      exact k_ret [] rfl (keep_new3 _ _ _ [_] cs G) (by exact zRes) ⟨rfl, hfin _ rfl (swap_at hnd (.inr ⟨hsa, rfl⟩) (.inr ⟨hsc, rfl⟩))⟩
theorem decW_at {d : Int} {B : DT} {k : Nat} {x : SlotT × Int} (h : B[k]? = some x) : (decW d B)[k]? = some (if k < (twD d B).length then (x.1, x.2 - 1) else x) := by
  have e : B = twD d B ++ B.dropWhile fun x => decide (d < x.2) := (List.takeWhile_append_dropWhile ..).symm
  unfold decW
  by_cases hk : k < (twD d B).length
  · rw [if_pos hk, List.getElem?_append_left (by rw [List.length_map]; exact hk), List.getElem?_map]
    rw [e, List.getElem?_append_left hk] at h
    show Option.map _ (twD d B)[k]? = _
    rw [h]; rfl
  · rw [if_neg hk, List.getElem?_append_right (by rw [List.length_map]; exact Nat.le_of_not_lt hk), List.length_map]
    rw [e, List.getElem?_append_right (Nat.le_of_not_lt hk)] at h
    exact h
theorem rremove_any (b : Nat) (D : DT) (lr : List Chunk) (hr : IsR b D lr) (hn : D.length ≤ 900000) (hd : SmallD D) (s : SlotT) (G : List Chunk) :
    Fn Tryz.prog 91 [.pointer (some ⟨b, 0, none⟩), .agg (List.toArray (encT s))] (lr ++ G) fun v l' => v = .int .i64 (removeD D s).1 ∧ ∃ lr', IsR b (removeD D s).2 lr' ∧ l' = lr' ++ G := by
  have hr0 := hr
  obtain ⟨v, cs, rfl, ho⟩ := hr
  have hv1 : v.oneCell' = true := ho.one
  refine fn_of_body Tryz.func91 rfl rfl fun E => ?_
  simp only [argF, Tryz.ntmps91]
  refine gz ?_
  (first | refine t_e (e_box1 rfl rfl) rfl rfl rfl ?_ | refine t_e (e_boxA rfl) rfl rfl rfl ?_); rintro _ _ ⟨b3, _, rfl, rfl⟩
  refine gz ?_
  refine t_q (q_call rfl rfl fun l2 hl => rat_any b D _ hr0 (by omega) s l2 fun c hc => hl c (.tail _ (List.mem_append_left _ hc))) rfl rfl rfl ?_
  cases hsp : splitD s D with
  | none =>
    rw [idx_neg hsp, show removeD D s = (10, D) by unfold removeD; rw [hsp]]
    refine gz ?_
    exact k_ret [] rfl (.drop .refl) (by exact zRes) ⟨rfl, _, hr0, rfl⟩
  | some z =>
    obtain ⟨A, d, B⟩ := z
    obtain ⟨e1, e2, e3⟩ := idx_of hsp
    have hlD : D.length = A.length + 1 + B.length := by rw [e2]; simp; omega
    rw [e1, show removeD D s = (0, A ++ decW d B) by unfold removeD; rw [hsp]]
    refine gz ?_
    refine t_q (q_call rfl rfl fun l2 hl => rend_any b D _ hr0 (by omega) A B (s, d) e2 l2 fun c hc => hl c (.tail _ (List.mem_append_left _ hc))) rfl rfl rfl ?_
    simp only
    have htl : (twD d B).length ≤ B.length := (List.takeWhile_prefix _).length_le
    have hRS := ho.nodes (l := slC b3 s :: (rcC b v :: cs ++ G)) fun c hc => .tail _ (.tail _ (List.mem_append_left _ hc))
    obtain ⟨p, cap, rfl, hR⟩ := hRS
    obtain ⟨bB, off, xs, t, fz, rfl, hmr, hc⟩ := hR (by omega)
    have hm : rcC b (.slice (some ⟨bB, off, none⟩) D.length cap) ∈ slC b3 s :: (rcC b (.slice (some ⟨bB, off, none⟩) D.length cap) :: cs ++ G) := .tail _ (.head _)
    generalize hF : slC b3 s :: (rcC b (.slice (some ⟨bB, off, none⟩) D.length cap) :: cs ++ G) = F at hm hmr
    obtain ⟨R, hRd⟩ : ∃ R, R = A ++ decW d B := ⟨_, rfl⟩
    have hlR : R.length = A.length + B.length := by rw [hRd, List.length_append, decW_len]
    obtain ⟨cnt, hcnt⟩ : ∃ cnt : Nat → Nat, cnt = fun i => if i ≤ A.length then i else i - 1 := ⟨_, rfl⟩
    rw [← hRd]
    refine gz ?_
    refine k_loop (α := Nat × Value × List Chunk) (fun x => [(0, .pointer (some ⟨b, 0, none⟩)), (5, .int .i64 (A.length : Nat)), (6, .int .i64 ((A.length + 1 + (twD d B).length : Nat) : Int)), (7, x.2.1), (8, .int .i64 x.1)]) (fun x => x.2.2 ++ F) (fun x => x.1 ≤ D.length ∧ OwnSl 44 3 x.2.1 (R.take (cnt x.1)).length (ncs (R.take (cnt x.1))) x.2.2) (fun x => D.length - x.1) (0, .slice none 0 0, []) ⟨Nat.zero_le _, by rw [hcnt]; exact OwnSl.nil _ _⟩ ⟨rfl, rfl, rfl, rfl, rfl, trivial⟩ .refl ?_
    rintro ⟨i, w, cv⟩ ⟨hi, hw⟩
    dsimp only at hi hw ⊢
    have hm2 : rcC b (.slice (some ⟨bB, off, none⟩) D.length cap) ∈ cv ++ F := List.mem_append_right _ hm
    by_cases hlt : i < D.length
    · obtain ⟨x, hx⟩ : ∃ x, D[i]? = some x := ⟨_, List.getElem?_eq_getElem hlt⟩
      obtain ⟨g1, g2⟩ := hc i x hx
      have hdx := hd x (List.mem_of_getElem? hx)
      refine gz ?_
      refine t_q (q_loadA rfl (List.mem_append_right _ hmr) g1 g2) rfl rfl rfl ?_
      refine t_e e_alloc rfl rfl rfl ?_; rintro _ _ ⟨b9, _, rfl, rfl⟩
      refine gz ?_
      rcases Nat.lt_trichotomy i A.length with h1 | h1 | h1
      · have hc1 : cnt (i + 1) = cnt i + 1 := by rw [hcnt]; simp only; rw [if_pos (by omega), if_pos (by omega)]
        have hRi : R[cnt i]? = some x := by
          rw [hcnt, hRd]; simp only; rw [if_pos (by omega), List.getElem?_append_left h1]
          rw [e2, List.getElem?_append_left h1] at hx; exact hx
        refine gz ?_
        refine t_e (e_litA (k := 3) (e := 44) (ws := nV x) (zs := [.int .i64 0, .int .i64 0, .int .i64 0]) rfl rfl rfl (by decide) (by decide)) rfl rfl rfl ?_
        rintro _ _ ⟨bl, _, rfl, rfl⟩
        refine t_e (e_appX (k := 3) (X := [(b9, .cells (List.toArray (nV x)) 44 (0, 0))]) (cs := cv) (F := F) (xs := ncs (R.take (cnt i))) (n := (R.take (cnt i)).length) (zs := [.int .i64 0, .int .i64 0, .int .i64 0]) (ws := nV x) rfl rfl rfl hw rfl (nV_ones _) (by rw [List.length_take]; omega) (by decide)) rfl rfl rfl ?_
        rintro w2 _ ⟨cv2, hw2, rfl⟩
        have hw1 : w2.oneCell' = true := hw2.one
        refine gz ?_
        refine k_next (i + 1, w2, cv2) ⟨by simp only; omega, ?_⟩ (by simp only; omega) ⟨rfl, rfl, rfl, rfl, rfl, trivial⟩ (.drop .refl)
        simp only
        rw [hc1, List.take_add_one, hRi, Option.toList_some, ncs_snoc, List.length_append]; exact hw2
      · have hc1 : cnt (i + 1) = cnt i := by rw [hcnt]; simp only; rw [if_neg (by omega), if_pos (by omega)]; rfl
        refine gz ?_
        refine k_next (i + 1, w, cv) ⟨by simp only; omega, ?_⟩ (by simp only; omega) ⟨rfl, rfl, rfl, rfl, rfl, trivial⟩ (.drop .refl)
        simp only
        rw [hc1]; exact hw
      · have hc1 : cnt (i + 1) = cnt i + 1 := by rw [hcnt]; simp only; rw [if_neg (by omega), if_neg (by omega)]; omega
        have hBx : B[i - 1 - A.length]? = some x := by
          rw [e2, List.getElem?_append_right (by omega), show i - A.length = (i - 1 - A.length) + 1 by omega, List.getElem?_cons_succ] at hx; exact hx
        have hRi0 : R[cnt i]? = some (if i - 1 - A.length < (twD d B).length then (x.1, x.2 - 1) else x) := by
          rw [hcnt, hRd]; simp only; rw [if_neg (by omega), List.getElem?_append_right (by omega)]; exact decW_at hBx
        by_cases h2 : i < A.length + 1 + (twD d B).length
        · have hRi : R[cnt i]? = some (x.1, x.2 - 1) := by rw [hRi0, if_pos (by omega)]
          refine gz ?_
          refine t_e (e_litA (k := 3) (e := 44) (ws := nV (x.1, x.2 - 1)) (zs := [.int .i64 0, .int .i64 0, .int .i64 0]) rfl rfl rfl (by decide) (by decide)) rfl rfl rfl ?_
          rintro _ _ ⟨bl, _, rfl, rfl⟩
          refine t_e (e_appX (k := 3) (X := [(b9, .cells (List.toArray (nV (x.1, x.2 - 1))) 44 (0, 0))]) (cs := cv) (F := F) (xs := ncs (R.take (cnt i))) (n := (R.take (cnt i)).length) (zs := [.int .i64 0, .int .i64 0, .int .i64 0]) (ws := nV (x.1, x.2 - 1)) rfl rfl rfl hw rfl (nV_ones _) (by rw [List.length_take]; omega) (by decide)) rfl rfl rfl ?_
          rintro w2 _ ⟨cv2, hw2, rfl⟩
          have hw1 : w2.oneCell' = true := hw2.one
          refine gz ?_
          refine k_next (i + 1, w2, cv2) ⟨by simp only; omega, ?_⟩ (by simp only; omega) ⟨rfl, rfl, rfl, rfl, rfl, trivial⟩ (.drop .refl)
          simp only
          rw [hc1, List.take_add_one, hRi, Option.toList_some, ncs_snoc, List.length_append]; exact hw2
        · have hRi : R[cnt i]? = some x := by rw [hRi0, if_neg (by omega)]
          refine gz ?_
          refine t_e (e_litA (k := 3) (e := 44) (ws := nV x) (zs := [.int .i64 0, .int .i64 0, .int .i64 0]) rfl rfl rfl (by decide) (by decide)) rfl rfl rfl ?_
          rintro _ _ ⟨bl, _, rfl, rfl⟩
          refine t_e (e_appX (k := 3) (X := [(b9, .cells (List.toArray (nV x)) 44 (0, 0))]) (cs := cv) (F := F) (xs := ncs (R.take (cnt i))) (n := (R.take (cnt i)).length) (zs := [.int .i64 0, .int .i64 0, .int .i64 0]) (ws := nV x) rfl rfl rfl hw rfl (nV_ones _) (by rw [List.length_take]; omega) (by decide)) rfl rfl rfl ?_
          rintro w2 _ ⟨cv2, hw2, rfl⟩
          have hw1 : w2.oneCell' = true := hw2.one
          refine gz ?_
          refine k_next (i + 1, w2, cv2) ⟨by simp only; omega, ?_⟩ (by simp only; omega) ⟨rfl, rfl, rfl, rfl, rfl, trivial⟩ (.drop .refl)
          simp only
          rw [hc1, List.take_add_one, hRi, Option.toList_some, ncs_snoc, List.length_append]; exact hw2
    · obtain rfl : i = D.length := by omega
      have hcl : cnt D.length = R.length := by rw [hcnt]; simp only; rw [if_neg (by omega)]; omega
      rw [hcl, List.take_length] at hw
      have hw1 : w.oneCell' = true := hw.one
      refine gz ?_
      rw [← hF]
      refine t_n (e_store (b := b) (off := 0) (l' := cv ++ (slC b3 s :: (rcC b w :: cs ++ G))) rfl rfl hw1 (upd_pre (.there .here) cv) (by simp)) rfl rfl ?_
      rintro _ _ ⟨rfl, rfl⟩
      refine gz ?_
      exact k_ret [] rfl (l' := rcC b w :: cv ++ G) (Keep.trans (.of_perm List.perm_middle) (.drop (keep_new _ cv cs G))) (by exact zRes) ⟨rfl, _, ⟨_, _, rfl, hw⟩, rfl⟩
end Go.Proofs.YtpplknmmjlgadaaGreat.Tr

/- hold: its blocks; New, Slots, AddNode, DropNode, Get, pair, Below, Used, Tree. -/
-- GU
set_option linter.unusedVariables false
set_option linter.unusedSimpArgs false
namespace Go.Proofs.YtpplknmmjlgadaaGreat
open Go.RowKit
set_option maxRecDepth 20000

abbrev hoC (b bs bt : Nat) : Chunk := (b, .cells (List.toArray [.pointer (some ⟨bs, 0, none⟩), .pointer (some ⟨bt, 0, none⟩)]) 93 (0, 0))
structure HB (b bs bt : Nat) (H : HS) (ls lt lq : List Chunk) : Prop where
  eq : lq = hoC b bs bt :: (ls ++ lt)
  s : IsS bs H.1 ls
  t : Tr.IsT bt H.2 lt
def IsH (b : Nat) (H : HS) (lq : List Chunk) : Prop := ∃ bs bt ls lt, HB b bs bt H ls lt lq
theorem HB.h {b bs bt : Nat} {H : HS} {ls lt lq : List Chunk} (h : HB b bs bt H ls lt lq) : hoC b bs bt ∈ lq := by rw [h.eq]; exact .head _
theorem HB.m1 {b bs bt : Nat} {H : HS} {ls lt lq : List Chunk} (h : HB b bs bt H ls lt lq) : ∀ c, c ∈ ls → c ∈ lq := fun c hc => by rw [h.eq]; exact .tail _ (List.mem_append_left _ hc)
theorem HB.m2 {b bs bt : Nat} {H : HS} {ls lt lq : List Chunk} (h : HB b bs bt H ls lt lq) : ∀ c, c ∈ lt → c ∈ lq := fun c hc => by rw [h.eq]; exact .tail _ (List.mem_append_right _ hc)
theorem InvH.small {H : HS} {n : Nat} (h : InvH H n) (hn : n ≤ 1000) : H.1.length ≤ 2000 ∧ H.2.length ≤ 1000 ∧ Tr.SmallD H.2 := ⟨by have := h.len; omega, by have := h.tree.len; omega, h.tree.small (by omega)⟩
set_option pp.deepTerms false
set_option pp.deepTerms.threshold 4
set_option maxHeartbeats 400000
theorem hnew_any (l : List Chunk) : Fn Tryz.prog 28 [] l fun v l' => ∃ b, v = .pointer (some ⟨b, 0, none⟩) ∧ ∃ lq, IsH b ([], []) lq ∧ l' = lq ++ l := by
  refine fn_of_body Tryz.func28 rfl rfl fun E => ?_
  simp only [argF, Tryz.ntmps28]
  refine gzU ?_
  refine t_e (e_call0 rfl rfl (new_any _)) rfl rfl rfl ?_
  rintro _ _ ⟨bs, rfl, ls, hs, rfl⟩
  refine gzU ?_
  refine t_e (e_call0 rfl rfl (Tr.new_any _)) rfl rfl rfl ?_
  rintro _ _ ⟨bt, rfl, lt, ht, rfl⟩
  refine gzU ?_
  (first | refine t_e (e_box1 rfl rfl) rfl rfl rfl ?_ | refine t_e (e_boxA rfl) rfl rfl rfl ?_); rintro _ _ ⟨b, _, rfl, rfl⟩
  refine gzU ?_
  exact k_ret [] rfl (l' := (hoC b bs bt :: (ls ++ lt)) ++ l) (keep_ac (A := hoC b bs bt :: (lt ++ (ls ++ l))) []) (by exact zRes) ⟨b, rfl, _, ⟨bs, bt, ls, lt, rfl, hs, ht⟩, rfl⟩
theorem hslots_any (b bs bt : Nat) (l : List Chunk) (hm : hoC b bs bt ∈ l) : Fn Tryz.prog 51 [.pointer (some ⟨b, 0, none⟩)] l fun v l' => v = .pointer (some ⟨bs, 0, none⟩) ∧ l' = l := by
  refine fn_of_body Tryz.func51 rfl rfl fun E => ?_
  simp only [argF, Tryz.ntmps51]
  refine gzU ?_
  exact k_ret [] rfl .refl (by exact zRes) ⟨rfl, rfl⟩
theorem haddN_any (b : Nat) (H : HS) (lq : List Chunk) (hq : IsH b H lq) (id n : Int) (G : List Chunk) :
    Fn Tryz.prog 29 [.pointer (some ⟨b, 0, none⟩), .int .i64 id, .int .i64 n] (lq ++ G) fun v l' => v = .int .i64 (addN H.1 id n).1 ∧ ∃ lq', IsH b ((addN H.1 id n).2, H.2) lq' ∧ l' = lq' ++ G := by
  obtain ⟨bs, bt, ls, lt, rfl, hs, ht⟩ := hq
  refine fn_of_body Tryz.func29 rfl rfl fun E => ?_
  simp only [argF, Tryz.ntmps29]
  simp only [List.cons_append, List.append_assoc]
  refine gzU ?_
  refine t_q (q_call rfl rfl fun l2 hl => hslots_any b bs bt l2 (hl _ (.head _))) rfl rfl rfl ?_
  refine gzU ?_
  refine t_e (e_call rfl rfl (Fn.mvP (fun A => hoC b bs bt :: (A ++ (lt ++ G))) (add_any bs H.1 ls hs id n (hoC b bs bt :: (lt ++ G))))) rfl rfl rfl ?_
  rintro _ _ ⟨rfl, ls', hs', rfl⟩
  refine gzU ?_
  exact k_ret [] rfl (l' := (hoC b bs bt :: (ls' ++ lt)) ++ G) (.of_perm (.of_eq (by simp))) (by exact zRes) ⟨rfl, _, ⟨bs, bt, ls', lt, rfl, hs', ht⟩, rfl⟩
theorem hdropN_any (b : Nat) (H : HS) (lq : List Chunk) (hq : IsH b H lq) (id : Int) (G : List Chunk) :
    Fn Tryz.prog 45 [.pointer (some ⟨b, 0, none⟩), .int .i64 id] (lq ++ G) fun v l' => v = .int .i64 (dropN H.1 id).1 ∧ ∃ lq', IsH b ((dropN H.1 id).2, H.2) lq' ∧ l' = lq' ++ G := by
  obtain ⟨bs, bt, ls, lt, rfl, hs, ht⟩ := hq
  refine fn_of_body Tryz.func45 rfl rfl fun E => ?_
  simp only [argF, Tryz.ntmps45]
  simp only [List.cons_append, List.append_assoc]
  refine gzU ?_
  refine t_q (q_call rfl rfl fun l2 hl => hslots_any b bs bt l2 (hl _ (.head _))) rfl rfl rfl ?_
  refine gzU ?_
  refine t_e (e_call rfl rfl (Fn.mvP (fun A => hoC b bs bt :: (A ++ (lt ++ G))) (drop_any bs H.1 ls hs id (hoC b bs bt :: (lt ++ G))))) rfl rfl rfl ?_
  rintro _ _ ⟨rfl, ls', hs', rfl⟩
  refine gzU ?_
  exact k_ret [] rfl (l' := (hoC b bs bt :: (ls' ++ lt)) ++ G) (.of_perm (.of_eq (by simp))) (by exact zRes) ⟨rfl, _, ⟨bs, bt, ls', lt, rfl, hs', ht⟩, rfl⟩
theorem hget_any (b : Nat) (H : HS) (lq : List Chunk) (hq : IsH b H lq) (s : slT) (l : List Chunk) (hsub : ∀ c, c ∈ lq → c ∈ l) :
    Fn Tryz.prog 17 [.pointer (some ⟨b, 0, none⟩), .agg (List.toArray (encT s))] l fun v l' => v = .tuple #[.agg (List.toArray (encC (getD' H.1 s).1)), .int .i64 (getD' H.1 s).2] ∧ l' = l := by
  obtain ⟨bs, bt, ls, lt, hb⟩ := hq
  refine fn_of_body Tryz.func17 rfl rfl fun E => ?_
  simp only [argF, Tryz.ntmps17]
  refine gzU ?_
  (first | refine t_e (e_box1 rfl rfl) rfl rfl rfl ?_ | refine t_e (e_boxA rfl) rfl rfl rfl ?_); rintro _ _ ⟨b3, _, rfl, rfl⟩
  refine gzU ?_
  refine t_e e_alloc rfl rfl rfl ?_; rintro _ _ ⟨b4, _, rfl, rfl⟩
  refine gzU ?_
  refine c_draw [(0, true), (1, true), (2, true), (3, true), (4, true), (5, true), (6, false), (7, true)] [[], [0], [], [0, 1, 2], [0, 1, 2, 3], [0, 1, 2, 3], [0, 1, 2, 3, 4, 5], [0, 1, 2, 3, 4, 5, 6]] (slC b3 s :: l) (by kernel_rfl) (by kernel_rfl) zAtt zHR ?_
  refine pzU ?_
  refine pl_h (q_call rfl rfl fun l2 hl => hslots_any b bs bt l2 (hl _ (.tail _ (hsub _ hb.h)))) rfl rfl rfl ?_
  refine pzU ?_
  refine pl_h (q_call rfl rfl fun l2 hl => get_any bs H.1 ls hb.s s l2 fun c hc => hl _ (.tail _ (hsub _ (hb.m1 c hc)))) rfl rfl rfl ?_
  refine pzU ?_
  refine gzU ?_
  exact k_ret2 [] (capC b4 (getD' H.1 s).1 :: slC b3 s :: l) rfl (l' := l) .refl (by exact zRes) (.drop (.drop .refl)) ⟨rfl, rfl⟩
def pairE (D : SD) (a c : slT) : Int := if (getD' D a).2 = 0 then (getD' D c).2 else (getD' D a).2
theorem hpair_any (b : Nat) (H : HS) (lq : List Chunk) (hq : IsH b H lq) (a c : slT) (l : List Chunk) (hsub : ∀ c, c ∈ lq → c ∈ l) :
    Fn Tryz.prog 62 [.pointer (some ⟨b, 0, none⟩), .agg (List.toArray (encT a)), .agg (List.toArray (encT c))] l fun v l' => v = .tuple #[.agg (List.toArray (encC (getD' H.1 a).1)), .agg (List.toArray (encC (getD' H.1 c).1)), .int .i64 (pairE H.1 a c)] ∧ l' = l := by
  refine fn_of_body Tryz.func62 rfl rfl fun E => ?_
  simp only [argF, Tryz.ntmps62]
  refine gzU ?_
  (first | refine t_e (e_box1 rfl rfl) rfl rfl rfl ?_ | refine t_e (e_boxA rfl) rfl rfl rfl ?_); rintro _ _ ⟨b4, _, rfl, rfl⟩
  refine gzU ?_
  (first | refine t_e (e_box1 rfl rfl) rfl rfl rfl ?_ | refine t_e (e_boxA rfl) rfl rfl rfl ?_); rintro _ _ ⟨b5, _, rfl, rfl⟩
  refine gzU ?_
  refine t_e e_alloc rfl rfl rfl ?_; rintro _ _ ⟨b6, _, rfl, rfl⟩
  refine gzU ?_
  refine t_e e_alloc rfl rfl rfl ?_; rintro _ _ ⟨b7, _, rfl, rfl⟩
  refine gzU ?_
  refine t_q (q_call rfl rfl fun l2 hl => hget_any b H lq hq a l2 fun c hc => hl c (.tail _ (.tail _ (.tail _ (.tail _ (hsub c hc)))))) rfl rfl rfl ?_
  refine gzU ?_
  refine t_e e_alloc rfl rfl rfl ?_; rintro _ _ ⟨b9, _, rfl, rfl⟩
  refine gzU ?_
  refine t_q (q_call rfl rfl fun l2 hl => hget_any b H lq hq c l2 fun c hc => hl c (.tail _ (.tail _ (.tail _ (.tail _ (.tail _ (hsub c hc))))))) rfl rfl rfl ?_
  refine gzU ?_
  refine t_e e_alloc rfl rfl rfl ?_; rintro _ _ ⟨b11, _, rfl, rfl⟩
  refine gzU ?_
  unfold pairE
  by_cases h : (getD' H.1 a).2 = 0
  case' pos => rw [if_pos h]
  case' neg => rw [if_neg h]
  all_goals
    refine gzU ?_
    refine c_draw [(0, true), (1, true), (2, true), (3, false), (4, false), (5, true)] [[], [], [], [0], [0, 1, 3], [0, 1, 2, 3, 4]] ([capC b11 (getD' H.1 c).1, capC b9 (getD' H.1 a).1]) (by kernel_rfl) (by kernel_rfl) zAtt zHR ?_
    refine pzU ?_
    refine gzU ?_
    exact k_ret2 [] (capC b7 (getD' H.1 c).1 :: capC b6 (getD' H.1 a).1 :: l) rfl (l' := l) (.drop (.drop (.pick .here (.pick .here (.drop (.drop .refl)))))) (by exact zRes) (.drop (.drop .refl)) ⟨rfl, rfl⟩
theorem hbelow_any (b : Nat) (H : HS) (lq : List Chunk) (hq : IsH b H lq) (hn : H.2.length ≤ 1000) (s : slT) (l : List Chunk) (hsub : ∀ c, c ∈ lq → c ∈ l) :
    Fn Tryz.prog 16 [.pointer (some ⟨b, 0, none⟩), .agg (List.toArray (encT s))] l fun v l' => ∃ cs, OwnSl 30 2 v (Tr.belowD H.2 s).length (Tr.scs (Tr.belowD H.2 s)) cs ∧ l' = cs ++ l := by
  obtain ⟨bs, bt, ls, lt, hb⟩ := hq
  have hm := hsub _ hb.h
  refine fn_of_body Tryz.func16 rfl rfl fun E => ?_
  simp only [argF, Tryz.ntmps16]
  refine gzU ?_
  (first | refine t_e (e_box1 rfl rfl) rfl rfl rfl ?_ | refine t_e (e_boxA rfl) rfl rfl rfl ?_); rintro _ _ ⟨b3, _, rfl, rfl⟩
  refine gzU ?_
  refine c_draw [(0, true), (1, true), (2, true), (3, true), (4, true), (5, false), (6, true)] [[], [0], [0, 1], [0, 1, 2], [], [0, 1, 2, 3, 4], [0, 1, 2, 3, 4, 5]] (slC b3 s :: l) (by kernel_rfl) (by kernel_rfl) zAtt zHR ?_
  refine pzU ?_
  apply pl_e
  · exact e_call0 rfl rfl (Tr.belowOf_any bt H.2 lt hb.t (by omega) s _ fun c hc => .tail _ (hsub _ (hb.m2 c hc)))
  · rfl
  · rfl
  · rfl
  · rintro _ _ ⟨cs, _, rfl⟩ x hx
    exact List.mem_append_right _ hx
  rintro v _ ⟨cs, ho, rfl⟩
  refine pzU ?_
  refine gzU ?_
  refine k_ret [] rfl (l' := cs ++ l) (keep_ac (A := cs ++ (slC b3 s :: l)) [slC b3 s]) (by exact zRes) ?_
  exact ⟨cs, ho, rfl⟩
theorem hused_any (b : Nat) (H : HS) (lq : List Chunk) (hq : IsH b H lq) (hn : H.1.length ≤ 2000) (l : List Chunk) (hsub : ∀ c, c ∈ lq → c ∈ l) :
    Fn Tryz.prog 13 [.pointer (some ⟨b, 0, none⟩)] l fun v l' => ∃ cs, OwnSl 46 10 v (usedD H.1).length (hcs (usedD H.1)) cs ∧ l' = cs ++ l := by
  obtain ⟨bs, bt, ls, lt, hb⟩ := hq
  refine fn_of_body Tryz.func13 rfl rfl fun E => ?_
  simp only [argF, Tryz.ntmps13]
  refine gzU ?_
  refine t_q (q_call rfl rfl fun l2 hl => hslots_any b bs bt l2 (hl _ (hsub _ hb.h))) rfl rfl rfl ?_
  refine gzU ?_
  refine t_e (e_call0 rfl rfl (all_any bs H.1 ls hb.s (by omega) _ fun c hc => hsub _ (hb.m1 c hc))) rfl rfl rfl ?_
  rintro v _ ⟨cs, ho, rfl⟩
  refine gzU ?_
  refine k_ret [] rfl (l' := cs ++ l) .refl (by exact zRes) ?_
  exact ⟨cs, ho, rfl⟩
theorem htree_any (b : Nat) (H : HS) (lq : List Chunk) (hq : IsH b H lq) (hn : H.2.length ≤ 1000) (l : List Chunk) (hsub : ∀ c, c ∈ lq → c ∈ l) :
    Fn Tryz.prog 14 [.pointer (some ⟨b, 0, none⟩)] l fun v l' => ∃ cs, OwnSl 44 3 v H.2.length (Tr.ncs H.2) cs ∧ l' = cs ++ l := by
  obtain ⟨bs, bt, ls, lt, hb⟩ := hq
  have hm := hsub _ hb.h
  refine fn_of_body Tryz.func14 rfl rfl fun E => ?_
  simp only [argF, Tryz.ntmps14]
  refine gzU ?_
  refine t_e (e_call0 rfl rfl (Tr.all_any bt H.2 lt hb.t (by omega) _ fun c hc => hsub _ (hb.m2 c hc))) rfl rfl rfl ?_
  rintro v _ ⟨cs, ho, rfl⟩
  refine gzU ?_
  refine k_ret [] rfl (l' := cs ++ l) .refl (by exact zRes) ?_
  exact ⟨cs, ho, rfl⟩
end Go.Proofs.YtpplknmmjlgadaaGreat

/- hold: Root, Child, Set, derived, Copy, Mint. -/
-- GU
set_option linter.unusedVariables false
set_option linter.unusedSimpArgs false
namespace Go.Proofs.YtpplknmmjlgadaaGreat
open Go.RowKit
set_option maxRecDepth 20000

theorem get_e {D : SD} {s : slT} : (okD D s = true ∧ getD' D s = (atD D s, 0)) ∨ (okD D s = false ∧ getD' D s = (capZ, 3)) := by
  unfold getD'
  cases okD D s with
  | false => exact .inr ⟨rfl, rfl⟩
  | true => exact .inl ⟨rfl, rfl⟩
theorem get_t {D : SD} {s : slT} (h : okD D s = true) : getD' D s = (atD D s, 0) := by unfold getD'; rw [h]; rfl
theorem get_f {D : SD} {s : slT} (h : okD D s = false) : getD' D s = (capZ, 3) := by unfold getD'; rw [h]; rfl
theorem pair_t {D : SD} {a c : slT} (ha : okD D a = true) (hc : okD D c = true) : pairE D a c = 0 := by unfold pairE; rw [get_t ha, get_t hc]; rfl
theorem pair_f {D : SD} {a c : slT} (h : okD D a = false ∨ okD D c = false) : pairE D a c = 3 := by
  unfold pairE
  rcases h with h | h
  · rw [get_f h]; rfl
  · rw [get_f h]; split
    · rfl
    · rename_i h2
      rcases get_e (D := D) (s := a) with ⟨_, h3⟩ | ⟨_, h3⟩
      · rw [h3] at h2; exact absurd rfl h2
      · rw [h3]
theorem ok_or {D : SD} {a c : slT} (h : ¬ (okD D a = false ∨ okD D c = false)) : okD D a = true ∧ okD D c = true := by
  cases h1 : okD D a <;> cases h2 : okD D c <;> simp_all
set_option pp.deepTerms false
set_option pp.deepTerms.threshold 4
set_option maxHeartbeats 400000
theorem hroot_any (b : Nat) (H : HS) (n : Nat) (hI : InvH H n) (lq : List Chunk) (hq : IsH b H lq) (s : slT) (c : CapT) (G : List Chunk) :
    Fn Tryz.prog 30 [.pointer (some ⟨b, 0, none⟩), .agg (List.toArray (encT s)), .agg (List.toArray (encC c))] (lq ++ G) fun v l' => v = .int .i64 (rootH H s c).1 ∧ ∃ lq', IsH b (rootH H s c).2 lq' ∧ l' = lq' ++ G := by
  have hq0 := hq
  refine fn_of_body Tryz.func30 rfl rfl fun E => ?_
  simp only [argF, Tryz.ntmps30]
  refine gzU ?_
  (first | refine t_e (e_box1 rfl rfl) rfl rfl rfl ?_ | refine t_e (e_boxA rfl) rfl rfl rfl ?_); rintro _ _ ⟨b4, _, rfl, rfl⟩
  refine gzU ?_
  (first | refine t_e (e_box1 rfl rfl) rfl rfl rfl ?_ | refine t_e (e_boxA rfl) rfl rfl rfl ?_); rintro _ _ ⟨b5, _, rfl, rfl⟩
  refine gzU ?_
  refine t_q (q_call rfl rfl fun l2 hl => hget_any b H lq hq s l2 fun c hc => hl c (.tail _ (.tail _ (List.mem_append_left _ hc)))) rfl rfl rfl ?_
  have hret : ∀ (d : CapT) (B : Nat), Keep (capC B d :: capC b5 c :: slC b4 s :: (lq ++ G)) (lq ++ G) := fun _ _ => .drop (.drop (.drop .refl))
  cases hok : okD H.1 s with
  | false =>
    rw [get_f hok, show rootH H s c = (3, H) by unfold rootH; rw [if_pos hok]]
    refine gzU ?_
    refine t_e e_alloc rfl rfl rfl ?_; rintro _ _ ⟨b7, _, rfl, rfl⟩
    refine gzU ?_
    exact k_ret [] rfl (hret _ _) (by exact zRes) ⟨rfl, _, hq0, rfl⟩
  | true =>
  rw [get_t hok]
  have e0 : rootH H s c = if someC c = false then (5, H) else if (atD H.1 s).kind ≠ 0 then (11, H) else (0, (putD H.1 s c, (Tr.rootD H.2 s).2)) := by unfold rootH; rw [if_neg (by rw [hok]; decide)]
  rw [e0]
  refine gzU ?_
  refine t_e e_alloc rfl rfl rfl ?_; rintro _ _ ⟨b7, _, rfl, rfl⟩
  refine gzU ?_
  refine t_q (q_call rfl rfl fun l2 hl => mayC_any c l2) rfl rfl rfl ?_
  cases hm : mayC c with
  | false =>
    rw [if_pos (by unfold someC; rw [hm]; rfl)]
    refine gzU ?_
    exact k_ret [] rfl (hret _ _) (by exact zRes) ⟨rfl, _, hq0, rfl⟩
  | true =>
  by_cases hk : c.kind = 0
  · rw [if_pos (by unfold someC; rw [decide_eq_true hk, hm]; rfl)]
    refine gzU ?_
    exact k_ret [] rfl (hret _ _) (by exact zRes) ⟨rfl, _, hq0, rfl⟩
  rw [if_neg (by unfold someC; rw [decide_eq_false hk, hm]; decide)]
  by_cases hw : (atD H.1 s).kind ≠ 0
  · rw [if_pos hw]
    refine gzU ?_
    exact k_ret [] rfl (hret _ _) (by exact zRes) ⟨rfl, _, hq0, rfl⟩
  rw [if_neg hw]
  obtain ⟨bs, bt, ls, lt, rfl, hs, ht⟩ := hq
  have hr0 := (has_root (t := s) (hI.no (by simpa using hw))).1
  have H1 := Fn.mvP (fun A => capC b7 (atD H.1 s) :: capC b5 c :: slC b4 s :: hoC b bs bt :: (A ++ (lt ++ G))) (set_any bs H.1 ls hs s c (capC b7 (atD H.1 s) :: capC b5 c :: slC b4 s :: hoC b bs bt :: (lt ++ G)))
  have H2 := fun ls => Fn.mvP (fun A => capC b7 (atD H.1 s) :: capC b5 c :: slC b4 s :: hoC b bs bt :: (ls ++ (A ++ G))) (Tr.root_any bt H.2 lt ht s (capC b7 (atD H.1 s) :: capC b5 c :: slC b4 s :: hoC b bs bt :: (ls ++ G)))
  rw [set_ok hok hm] at H1
  rw [hr0] at H2
  simp only [List.cons_append, List.append_assoc]
  refine gzU ?_
  refine c_draw [(0, true), (1, true), (2, true), (3, true), (4, true), (5, true), (6, false)] [[], [0], [0, 1], [0, 1, 2], [], [], [0, 1, 2, 3, 4, 5]] ([capC b5 c, slC b4 s, hoC b bs bt]) (by kernel_rfl) (by kernel_rfl) zAtt zHR ?_
  refine pzU ?_
  apply pl_e
  · exact e_call rfl rfl H1
  · rfl
  · rfl
  · rfl
  · rintro _ _ ⟨_, ls', _, rfl⟩
    exact zHR
  rintro _ _ ⟨rfl, ls', hs', rfl⟩
  refine pzU ?_
  refine gzU ?_
  refine c_draw [(0, true), (1, true), (2, true), (3, true), (4, true), (5, false), (6, true)] [[], [0], [0, 1], [0, 1, 2], [], [0, 1, 2, 3, 4], [0, 1, 2, 3, 4, 5]] ([slC b4 s, hoC b bs bt]) (by kernel_rfl) (by kernel_rfl) zAtt zHR ?_
  refine pzU ?_
  apply pl_e
  · exact e_call rfl rfl (H2 ls')
  · rfl
  · rfl
  · rfl
  · rintro _ _ ⟨_, lt', _, rfl⟩
    exact zHR
  rintro _ _ ⟨rfl, lt', ht', rfl⟩
  refine pzU ?_
  refine gzU ?_
  exact k_ret [] rfl (l' := (hoC b bs bt :: (ls' ++ lt')) ++ G) (.drop (.drop (.drop (.of_perm (.of_eq (by simp)))))) (by exact zRes) ⟨rfl, _, ⟨bs, bt, ls', lt', rfl, hs', ht'⟩, rfl⟩
theorem hchild_any (b : Nat) (H : HS) (n : Nat) (hI : InvH H n) (hn : n ≤ 1000) (lq : List Chunk) (hq : IsH b H lq) (p s : slT) (c : CapT) (G : List Chunk) :
    Fn Tryz.prog 35 [.pointer (some ⟨b, 0, none⟩), .agg (List.toArray (encT p)), .agg (List.toArray (encT s)), .agg (List.toArray (encC c))] (lq ++ G) fun v l' => v = .int .i64 (childH H p s c).1 ∧ ∃ lq', IsH b (childH H p s c).2 lq' ∧ l' = lq' ++ G := by
  have hq0 := hq
  refine fn_of_body Tryz.func35 rfl rfl fun E => ?_
  simp only [argF, Tryz.ntmps35]
  refine gzU ?_
  (first | refine t_e (e_box1 rfl rfl) rfl rfl rfl ?_ | refine t_e (e_boxA rfl) rfl rfl rfl ?_); rintro _ _ ⟨b5, _, rfl, rfl⟩
  refine gzU ?_
  (first | refine t_e (e_box1 rfl rfl) rfl rfl rfl ?_ | refine t_e (e_boxA rfl) rfl rfl rfl ?_); rintro _ _ ⟨b6, _, rfl, rfl⟩
  refine gzU ?_
  (first | refine t_e (e_box1 rfl rfl) rfl rfl rfl ?_ | refine t_e (e_boxA rfl) rfl rfl rfl ?_); rintro _ _ ⟨b7, _, rfl, rfl⟩
  refine gzU ?_
  refine t_q (q_call rfl rfl fun l2 hl => hpair_any b H lq hq p s l2 fun c hc => hl c (.tail _ (.tail _ (.tail _ (List.mem_append_left _ hc))))) rfl rfl rfl ?_
  have hret : ∀ (d e : CapT) (B C : Nat), Keep (capC B d :: capC C e :: capC b7 c :: slC b6 s :: slC b5 p :: (lq ++ G)) (lq ++ G) := fun _ _ _ _ => .drop (.drop (.drop (.drop (.drop .refl))))
  by_cases hok : okD H.1 p = false ∨ okD H.1 s = false
  · rw [pair_f hok, show childH H p s c = (3, H) by unfold childH; rw [if_pos hok]]
    refine gzU ?_
    refine t_e e_alloc rfl rfl rfl ?_; rintro _ _ ⟨b9, _, rfl, rfl⟩
    refine t_e e_alloc rfl rfl rfl ?_; rintro _ _ ⟨b10, _, rfl, rfl⟩
    refine gzU ?_
    exact k_ret [] rfl (hret _ _ _ _) (by exact zRes) ⟨rfl, _, hq0, rfl⟩
  obtain ⟨okp, oks⟩ := ok_or hok
  rw [pair_t okp oks, get_t okp, get_t oks]
  have e0 : childH H p s c = if someC c = false then (5, H) else if (atD H.1 p).kind = 0 then (10, H) else if (atD H.1 s).kind ≠ 0 then (11, H) else (0, (putD H.1 s c, (Tr.childD H.2 p s).2)) := by unfold childH; rw [if_neg hok]
  rw [e0]
  refine gzU ?_
  refine t_e e_alloc rfl rfl rfl ?_; rintro _ _ ⟨b9, _, rfl, rfl⟩
  refine t_e e_alloc rfl rfl rfl ?_; rintro _ _ ⟨b10, _, rfl, rfl⟩
  refine gzU ?_
  refine t_q (q_call rfl rfl fun l2 hl => mayC_any c l2) rfl rfl rfl ?_
  cases hm : mayC c with
  | false =>
    rw [if_pos (by unfold someC; rw [hm]; rfl)]
    refine gzU ?_
    exact k_ret [] rfl (hret _ _ _ _) (by exact zRes) ⟨rfl, _, hq0, rfl⟩
  | true =>
  by_cases hk : c.kind = 0
  · rw [if_pos (by unfold someC; rw [decide_eq_true hk, hm]; rfl)]
    refine gzU ?_
    exact k_ret [] rfl (hret _ _ _ _) (by exact zRes) ⟨rfl, _, hq0, rfl⟩
  rw [if_neg (by unfold someC; rw [decide_eq_false hk, hm]; decide)]
  by_cases hp : (atD H.1 p).kind = 0
  · rw [if_pos hp]
    refine gzU ?_
    exact k_ret [] rfl (hret _ _ _ _) (by exact zRes) ⟨rfl, _, hq0, rfl⟩
  rw [if_neg hp]
  by_cases hw : (atD H.1 s).kind ≠ 0
  · rw [if_pos hw]
    refine gzU ?_
    exact k_ret [] rfl (hret _ _ _ _) (by exact zRes) ⟨rfl, _, hq0, rfl⟩
  rw [if_neg hw]
  obtain ⟨bs, bt, ls, lt, rfl, hs, ht⟩ := hq
  have hr0 := (has_child (t := s) ((hI.link p).2 ⟨okp, hp⟩) (hI.no (by simpa using hw))).1
  obtain ⟨X, hX⟩ : ∃ X, X = [capC b10 (atD H.1 s), capC b9 (atD H.1 p), capC b7 c, slC b6 s, slC b5 p, hoC b bs bt] := ⟨_, rfl⟩
  have H1 := Fn.mvP (fun A => X ++ (A ++ (lt ++ G))) (set_any bs H.1 ls hs s c (X ++ (lt ++ G)))
  have H2 := fun ls => Fn.mvP (fun A => X ++ (ls ++ (A ++ G))) (Tr.child_any bt H.2 lt ht (hI.small hn).2.2 p s (X ++ (ls ++ G)))
  rw [set_ok oks hm] at H1
  rw [hr0] at H2
  rw [hX] at H1 H2
  simp only [List.cons_append, List.append_assoc, List.nil_append] at H1 H2 ⊢
  refine gzU ?_
  refine c_draw [(0, true), (1, true), (2, true), (3, true), (4, true), (5, true), (6, false)] [[], [0], [0, 1], [0, 1, 2], [], [], [0, 1, 2, 3, 4, 5]] ([capC b7 c, slC b6 s, hoC b bs bt]) (by kernel_rfl) (by kernel_rfl) zAtt zHR ?_
  refine pzU ?_
  apply pl_e
  · exact e_call rfl rfl H1
  · rfl
  · rfl
  · rfl
  · rintro _ _ ⟨_, ls', _, rfl⟩
    exact zHR
  rintro _ _ ⟨rfl, ls', hs', rfl⟩
  refine pzU ?_
  refine gzU ?_
  refine c_draw [(0, true), (1, true), (2, true), (3, true), (4, true), (5, true), (6, false), (7, true)] [[], [0], [0, 1], [0, 1, 2], [], [], [0, 1, 2, 3, 4, 5], [0, 1, 2, 3, 4, 5, 6]] ([slC b6 s, slC b5 p, hoC b bs bt]) (by kernel_rfl) (by kernel_rfl) zAtt zHR ?_
  refine pzU ?_
  apply pl_e
  · exact e_call rfl rfl (H2 ls')
  · rfl
  · rfl
  · rfl
  · rintro _ _ ⟨_, lt', _, rfl⟩
    exact zHR
  rintro _ _ ⟨rfl, lt', ht', rfl⟩
  refine pzU ?_
  refine gzU ?_
  exact k_ret [] rfl (l' := (hoC b bs bt :: (ls' ++ lt')) ++ G) (.drop (.drop (.drop (.drop (.drop (.of_perm (.of_eq (by simp)))))))) (by exact zRes) ⟨rfl, _, ⟨bs, bt, ls', lt', rfl, hs', ht'⟩, rfl⟩
theorem alike_may {a c : CapT} (h : alikeB a c = true) : mayC c = true := by
  unfold alikeB at h
  simp only [Bool.and_eq_true] at h
  exact h.1.1.1.2
theorem hset_any (b : Nat) (H : HS) (n : Nat) (hI : InvH H n) (lq : List Chunk) (hq : IsH b H lq) (s : slT) (c : CapT) (G : List Chunk) :
    Fn Tryz.prog 37 [.pointer (some ⟨b, 0, none⟩), .agg (List.toArray (encT s)), .agg (List.toArray (encC c))] (lq ++ G) fun v l' => v = .int .i64 (setH H s c).1 ∧ ∃ lq', IsH b (setH H s c).2 lq' ∧ l' = lq' ++ G := by
  have hq0 := hq
  refine fn_of_body Tryz.func37 rfl rfl fun E => ?_
  simp only [argF, Tryz.ntmps37]
  refine gzU ?_
  (first | refine t_e (e_box1 rfl rfl) rfl rfl rfl ?_ | refine t_e (e_boxA rfl) rfl rfl rfl ?_); rintro _ _ ⟨b4, _, rfl, rfl⟩
  refine gzU ?_
  (first | refine t_e (e_box1 rfl rfl) rfl rfl rfl ?_ | refine t_e (e_boxA rfl) rfl rfl rfl ?_); rintro _ _ ⟨b5, _, rfl, rfl⟩
  refine gzU ?_
  refine t_q (q_call rfl rfl fun l2 hl => hget_any b H lq hq s l2 fun c hc => hl c (.tail _ (.tail _ (List.mem_append_left _ hc)))) rfl rfl rfl ?_
  have hret : ∀ (d : CapT) (B : Nat), Keep (capC B d :: capC b5 c :: slC b4 s :: (lq ++ G)) (lq ++ G) := fun _ _ => .drop (.drop (.drop .refl))
  cases hok : okD H.1 s with
  | false =>
    rw [get_f hok, show setH H s c = (3, H) by unfold setH; rw [if_pos hok]]
    refine gzU ?_
    refine t_e e_alloc rfl rfl rfl ?_; rintro _ _ ⟨b7, _, rfl, rfl⟩
    refine gzU ?_
    exact k_ret [] rfl (hret _ _) (by exact zRes) ⟨rfl, _, hq0, rfl⟩
  | true =>
  rw [get_t hok]
  have e0 : setH H s c = if (atD H.1 s).kind = 0 then (10, H) else if alikeB (atD H.1 s) c = false then (5, H) else (0, (putD H.1 s c, H.2)) := by unfold setH; rw [if_neg (by rw [hok]; decide)]
  rw [e0]
  refine gzU ?_
  refine t_e e_alloc rfl rfl rfl ?_; rintro _ _ ⟨b7, _, rfl, rfl⟩
  refine gzU ?_
  by_cases hw : (atD H.1 s).kind = 0
  · rw [if_pos hw]
    refine gzU ?_
    exact k_ret [] rfl (hret _ _) (by exact zRes) ⟨rfl, _, hq0, rfl⟩
  rw [if_neg hw]
  refine gzU ?_
  refine t_q (q_call rfl rfl fun l2 hl => alike_any (atD H.1 s) c l2) rfl rfl rfl ?_
  cases ha : alikeB (atD H.1 s) c with
  | false =>
    rw [if_pos rfl]
    refine gzU ?_
    exact k_ret [] rfl (hret _ _) (by exact zRes) ⟨rfl, _, hq0, rfl⟩
  | true =>
  rw [if_neg (by decide)]
  obtain ⟨bs, bt, ls, lt, rfl, hs, ht⟩ := hq
  obtain ⟨X, hX⟩ : ∃ X, X = [capC b7 (atD H.1 s), capC b5 c, slC b4 s, hoC b bs bt] := ⟨_, rfl⟩
  have H1 := Fn.mvP (fun A => X ++ (A ++ (lt ++ G))) (set_any bs H.1 ls hs s c (X ++ (lt ++ G)))
  rw [set_ok hok (alike_may ha)] at H1
  rw [hX] at H1
  simp only [List.cons_append, List.append_assoc, List.nil_append] at H1 ⊢
  refine gzU ?_
  refine c_draw [(0, true), (1, true), (2, true), (3, true), (4, true), (5, true), (6, false), (7, true)] [[], [0], [0, 1], [0, 1, 2], [], [], [0, 1, 2, 3, 4, 5], [0, 1, 2, 3, 4, 5, 6]] ([capC b5 c, slC b4 s, hoC b bs bt]) (by kernel_rfl) (by kernel_rfl) zAtt zHR ?_
  refine pzU ?_
  apply pl_e
  · exact e_call rfl rfl H1
  · rfl
  · rfl
  · rfl
  · rintro _ _ ⟨_, ls', _, rfl⟩
    exact zHR
  rintro _ _ ⟨rfl, ls', hs', rfl⟩
  refine pzU ?_
  refine gzU ?_
  exact k_ret [] rfl (l' := (hoC b bs bt :: (ls' ++ lt)) ++ G) (.drop (.drop (.drop (.of_perm (.of_eq (by simp)))))) (by exact zRes) ⟨rfl, _, ⟨bs, bt, ls', lt, rfl, hs', ht⟩, rfl⟩
theorem hderived_any (b : Nat) (H : HS) (n : Nat) (hI : InvH H n) (hn : n ≤ 1000) (lq : List Chunk) (hq : IsH b H lq) (a c : slT) (gf : Nat) [EN Tryz.prog gf] (cs : List Value) (r : CapT → CapT × Int) (hr : ∀ d, CapW d → CapW (r d).1) (X : List Chunk)
    (hf : ∀ d l2, CapW d → (∀ x, x ∈ X → x ∈ l2) → Fn Tryz.prog gf ([.agg (List.toArray (encC d))] ++ cs) l2 fun v l' => v = .tuple #[.agg (List.toArray (encC (r d).1)), .int .i64 (r d).2] ∧ l' = l2) (G : List Chunk) (hX : ∀ x, x ∈ X → x ∈ G) :
    Fn Tryz.prog 67 [.pointer (some ⟨b, 0, none⟩), .agg (List.toArray (encT a)), .agg (List.toArray (encT c)), .func (.func gf) #[] (List.toArray cs)] (lq ++ G) fun v l' => v = .int .i64 (derH H a c (r (atD H.1 a))).1 ∧ ∃ lq', IsH b (derH H a c (r (atD H.1 a))).2 lq' ∧ l' = lq' ++ G := by
  refine fn_of_body Tryz.func67 rfl rfl fun E => ?_
  simp only [argF, Tryz.ntmps67]
  refine gzU ?_
  (first | refine t_e (e_box1 rfl rfl) rfl rfl rfl ?_ | refine t_e (e_boxA rfl) rfl rfl rfl ?_); rintro _ _ ⟨b5, _, rfl, rfl⟩
  refine gzU ?_
  (first | refine t_e (e_box1 rfl rfl) rfl rfl rfl ?_ | refine t_e (e_boxA rfl) rfl rfl rfl ?_); rintro _ _ ⟨b6, _, rfl, rfl⟩
  refine gzU ?_
  refine t_q (q_call rfl rfl fun l2 hl => hpair_any b H lq hq a c l2 fun c hc => hl c (.tail _ (.tail _ (List.mem_append_left _ hc)))) rfl rfl rfl ?_
  have hret : ∀ (d e : CapT) (B C : Nat), Keep (capC B d :: capC C e :: slC b6 c :: slC b5 a :: (lq ++ G)) (lq ++ G) := fun _ _ _ _ => .drop (.drop (.drop (.drop .refl)))
  by_cases hok : okD H.1 a = false ∨ okD H.1 c = false
  · rw [pair_f hok]
    have e1 : fromE H a c = 3 := by unfold fromE; rw [if_pos hok]
    rw [show derH H a c (r (atD H.1 a)) = (3, H) by unfold derH; rw [if_pos (by rw [e1]; decide), e1]]
    refine gzU ?_
    refine t_e e_alloc rfl rfl rfl ?_; rintro _ _ ⟨b9, _, rfl, rfl⟩
    refine t_e e_alloc rfl rfl rfl ?_; rintro _ _ ⟨b10, _, rfl, rfl⟩
    refine gzU ?_
    exact k_ret [] rfl (hret _ _ _ _) (by exact zRes) ⟨rfl, _, hq, rfl⟩
  obtain ⟨oka, okc⟩ := ok_or hok
  rw [pair_t oka okc, get_t oka, get_t okc]
  refine gzU ?_
  refine t_e e_alloc rfl rfl rfl ?_; rintro _ _ ⟨b9, _, rfl, rfl⟩
  refine t_e e_alloc rfl rfl rfl ?_; rintro _ _ ⟨b10, _, rfl, rfl⟩
  refine gzU ?_
  by_cases hp : (atD H.1 a).kind = 0
  · have e1 : fromE H a c = 10 := by unfold fromE; rw [if_neg hok, if_pos hp]
    rw [show derH H a c (r (atD H.1 a)) = (10, H) by unfold derH; rw [if_pos (by rw [e1]; decide), e1]]
    refine gzU ?_
    exact k_ret [] rfl (hret _ _ _ _) (by exact zRes) ⟨rfl, _, hq, rfl⟩
  by_cases hw : (atD H.1 c).kind ≠ 0
  · have e1 : fromE H a c = 11 := by unfold fromE; rw [if_neg hok, if_neg hp, if_pos hw]
    rw [show derH H a c (r (atD H.1 a)) = (11, H) by unfold derH; rw [if_pos (by rw [e1]; decide), e1]]
    refine gzU ?_
    exact k_ret [] rfl (hret _ _ _ _) (by exact zRes) ⟨rfl, _, hq, rfl⟩
  have e1 : fromE H a c = 0 := by unfold fromE; rw [if_neg hok, if_neg hp, if_neg hw]
  have hwa := (hI.at a).2
  have hwr := hr _ hwa
  refine gzU ?_
  refine t_q (q_callC rfl rfl fun l2 hl => by simpa using hf (atD H.1 a) l2 hwa fun x hx => hl x (.tail _ (.tail _ (.tail _ (.tail _ (List.mem_append_right _ (hX x hx))))))) rfl rfl rfl ?_
  by_cases he : (r (atD H.1 a)).2 ≠ 0
  · rw [show derH H a c (r (atD H.1 a)) = ((r (atD H.1 a)).2, H) by unfold derH; rw [if_neg (by rw [e1]; decide), if_pos he]]
    refine gzU ?_
    refine t_e e_alloc rfl rfl rfl ?_; rintro _ _ ⟨b12, _, rfl, rfl⟩
    refine gzU ?_
    exact k_ret [] rfl (.drop (hret _ _ _ _)) (by exact zRes) ⟨rfl, _, hq, rfl⟩
  have he0 : (r (atD H.1 a)).2 = 0 := by simpa using he
  rw [show derH H a c (r (atD H.1 a)) = childH H a c (r (atD H.1 a)).1 by unfold derH; rw [if_neg (by rw [e1]; decide), if_neg he]]
  rw [he0]
  refine gzU ?_
  refine t_e e_alloc rfl rfl rfl ?_; rintro _ _ ⟨b12, _, rfl, rfl⟩
  refine gzU ?_
  refine t_e (e_call rfl rfl (Fn.mvP (fun A => capC b12 (r (atD H.1 a)).1 :: capC b10 (atD H.1 c) :: capC b9 (atD H.1 a) :: slC b6 c :: slC b5 a :: (A ++ G)) (hchild_any b H n hI hn lq hq a c (r (atD H.1 a)).1 (capC b12 (r (atD H.1 a)).1 :: capC b10 (atD H.1 c) :: capC b9 (atD H.1 a) :: slC b6 c :: slC b5 a :: G)))) rfl rfl rfl ?_
  rintro _ _ ⟨rfl, lq', hq', rfl⟩
  refine gzU ?_
  exact k_ret [] rfl (l' := lq' ++ G) (.drop (.drop (.drop (.drop (.drop .refl))))) (by exact zRes) ⟨rfl, _, hq', rfl⟩
end Go.Proofs.YtpplknmmjlgadaaGreat
