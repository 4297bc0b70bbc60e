/- The statements' helpers for lists of structs. The tree: small laws of lists of slots. hold: its blocks; New, Slots, AddNode, DropNode, Get, pair, Below, Used, Tree. hold: Root, Child, Set, derived, Copy, Mint. hold: Copy, Mint, Move, Swap, Clear. hold: those alike, Final. hold: an act of both. hold: start, played, awake. hold: of none; HoldNone. Laws that the statement's proof leans on. -/
import Derived.Test.YtpplknmmjlgadaaGz4
import Derived.Test.YtpplknmmjlgadaaGz7
import Derived.Test.YtpplknmmjlgadaaGz1
import Derived.Test.YtpplknmmjlgadaaGz6
import Derived.Test.YtpplknmmjlgadaaGz5
/- The statements' helpers for lists of structs. -/
set_option linter.unusedVariables false
set_option linter.unusedSimpArgs false
namespace Go.Proofs.Ytpplknmmjlgadaa.Tr
open Go.RowKit
set_option maxRecDepth 20000
set_option maxRecDepth 20000
instance : EQ Try.prog 99 [some .i64, some .i64, some .i64] := ⟨by kernel_rfl⟩

set_option pp.deepTerms false
set_option pp.deepTerms.threshold 4
set_option pp.deepTerms false
set_option pp.deepTerms.threshold 4
set_option pp.deepTerms false
set_option pp.deepTerms.threshold 4
set_option maxHeartbeats 400000 in
theorem sameSlots_any {α : Type} [DecidableEq α] (enc : α → List Value) (hin : ∀ x y, enc x = enc y → x = y) (hk : ∀ x, AllK [some .i64, some .i64] (enc x)) (v u : Value) (xs ys : List α) (l : List Chunk) (h1 : RowSl l v 2 enc xs) (h2 : RowSl l u 2 enc ys) (hx : xs.length ≤ 1000000) :
    Fn Try.prog 43 [v, u] l fun r l' => r = .bool (decide (xs = ys)) ∧ l' = l := by
  obtain ⟨a, ca, rfl, h1⟩ := h1
  obtain ⟨a', ca', rfl, h2⟩ := h2
  refine fn_of_body Try.func43 rfl rfl fun E => ?_
  simp only [argF, Try.ntmps43]
  by_cases hl : xs.length = ys.length
  · refine gz ?_
    refine k_loop (α := Nat) (fun k => [(0, .slice a xs.length ca), (1, .slice a' ys.length ca'), (5, .int .i64 k)]) (fun k => l) (fun k => k ≤ xs.length ∧ ∀ j, j < k → xs[j]? = ys[j]?) (fun k => xs.length - k) 0 ⟨Nat.zero_le _, fun j h => by omega⟩ ⟨rfl, rfl, rfl, trivial⟩ .refl ?_
    rintro k ⟨hk2, hj⟩
    by_cases hlt : k < xs.length
    · obtain ⟨b, off, cs, t, fz, rfl, hm, hc⟩ := h1 (by omega)
      obtain ⟨b', off', cs', t', fz', rfl, hm', hc'⟩ := h2 (by omega)
      obtain ⟨x, e1⟩ : ∃ x, xs[k]? = some x := ⟨_, List.getElem?_eq_getElem hlt⟩
      obtain ⟨y, e2⟩ : ∃ y, ys[k]? = some y := ⟨_, List.getElem?_eq_getElem (show k < ys.length by omega)⟩
      obtain ⟨g1, g2⟩ := hc k x e1
      obtain ⟨g1', g2'⟩ := hc' k y e2
      refine gz ?_
      refine c_draw [(0, true), (1, true), (2, true), (3, true), (4, true), (5, true), (6, true), (7, true), (8, true)] [[], [], [0, 1], [0, 1, 2], [], [], [4, 5], [4, 5, 6], [0, 1, 2, 3, 4, 5, 6, 7]] _ (by kernel_rfl) (by kernel_rfl) zAtt (fun _ h => h) ?_
      refine pz ?_
      apply pl_q
      · exact q_loadA rfl hm g1 g2
      · rfl
      · rfl
      · rfl
      refine pz ?_
      apply pl_q
      · exact q_loadA rfl hm' g1' g2'
      · rfl
      · rfl
      · rfl
      refine pz ?_
      apply pl_q
      · exact q_neagg rfl rfl (hk x) (hk y)
      · rfl
      · rfl
      · rfl
      by_cases hxy : x = y
      · rw [show (!eqCells (enc x) (enc y)) = false by rw [hxy, eqCells_self (hk y)]; rfl]
        refine pz ?_
        refine gz ?_
        exact k_next (k + 1) ⟨by omega, fun j hjk => by
          by_cases e : j = k
          · subst e; rw [e1, e2, hxy]
          · exact hj j (by omega)⟩ (by omega) ⟨rfl, rfl, rfl, trivial⟩ .refl
      · rw [show (!eqCells (enc x) (enc y)) = true by
          cases h : eqCells (enc x) (enc y) with
          | false => rfl
          | true => exact absurd (hin _ _ ((eqCells_iff (hk x) (hk y)).1 h)) hxy]
        refine pz ?_
        refine gz ?_
        refine k_ret [] rfl .refl (by exact zRes) ⟨?_, rfl⟩
        rw [show decide (xs = ys) = false from decide_eq_false fun e => by subst e; rw [e1] at e2; exact hxy (by cases e2; rfl)]; rfl
    · obtain rfl : k = xs.length := by omega
      refine gz ?_
      refine k_ret [] rfl .refl (by exact zRes) ⟨?_, rfl⟩
      rw [show decide (xs = ys) = true from decide_eq_true (List.ext_getElem? fun j => by
        by_cases h : j < xs.length
        · exact hj j h
        · rw [List.getElem?_eq_none (by omega), List.getElem?_eq_none (by omega)])]; rfl
  · refine gz ?_
    refine k_ret [] rfl .refl (by exact zRes) ⟨?_, rfl⟩
    rw [show decide (xs = ys) = false from decide_eq_false fun e => hl (by rw [e])]; rfl
set_option pp.deepTerms false
set_option pp.deepTerms.threshold 4
end Go.Proofs.Ytpplknmmjlgadaa.Tr

/- The tree: small laws of lists of slots. -/
set_option linter.unusedVariables false
set_option linter.unusedSimpArgs false
namespace Go.Proofs.Ytpplknmmjlgadaa
open Go.RowKit
set_option maxRecDepth 20000
theorem OwnSl.nodes {v : Value} {D : Tr.DT} {cs l : List Chunk} (h : OwnSl 99 3 v D.length (Tr.ncs D) cs) (hs : ∀ c, c ∈ cs → c ∈ l) : RowSl l v 3 Tr.nV D := OwnSl.rowSl (enc := Tr.nV) h (fun _ => rfl) hs
end Go.Proofs.Ytpplknmmjlgadaa
namespace Go.Proofs.Ytpplknmmjlgadaa.Tr
open Go.RowKit
set_option maxRecDepth 20000

theorem encT_inj : ∀ x y, encT x = encT y → x = y := encT_ok.inj
theorem encT_k : ∀ x, AllK [some .i64, some .i64] (encT x) := fun a => ⟨_, _, rfl, ⟨_, rfl⟩, _, _, rfl, ⟨_, rfl⟩, rfl⟩
theorem node_cells {cs : Array Value} {k : Nat} {x : SlotT × Int} (h : k + 3 ≤ cs.size) (e : cs.extract k (k + 3) = List.toArray (nV x)) : cs[k + 2]? = some (.int .i64 x.2) ∧ k + 2 ≤ cs.size ∧ cs.extract k (k + 2) = List.toArray (encT x.1) := by
  obtain ⟨h1, h2, h3⟩ := acts_cells h e
  refine ⟨h3, by omega, ?_⟩
  apply Array.ext_getElem?
  intro j
  rw [Array.getElem?_extract]
  by_cases hj : j < 2
  · rw [if_pos (by omega)]
    match j, hj with
    | 0, _ => rw [Nat.add_zero, h1]; rfl
    | 1, _ => rw [h2]; rfl
  · rw [if_neg (by omega), List.getElem?_toArray, List.getElem?_eq_none (by simp; omega)]
abbrev twD (e : Int) (B : DT) : DT := B.takeWhile fun x => decide (e < x.2)
theorem tw_cons_t {e : Int} {x : SlotT × Int} {B : DT} (h : e < x.2) : twD e (x :: B) = x :: twD e B := List.takeWhile_cons_of_pos (by simpa using h)
theorem tw_cons_f {e : Int} {x : SlotT × Int} {B : DT} (h : ¬ e < x.2) : twD e (x :: B) = [] := List.takeWhile_cons_of_neg (by simpa using h)
theorem eqT_t (x : SlotT) : eqCells (encT x) (encT x) = true := eqCells_self (encT_k x)
theorem eqT_f {x y : SlotT} (h : x ≠ y) : eqCells (encT x) (encT y) = false := by
  cases h2 : eqCells (encT x) (encT y) with
  | false => rfl
  | true => exact absurd (encT_inj _ _ ((eqCells_iff (encT_k _) (encT_k _)).1 h2)) h
theorem at_split {D : DT} {j : Nat} {x : SlotT × Int} (h : D[j]? = some x) : D = D.take j ++ x :: D.drop (j + 1) ∧ (D.take j).length = j := by
  have hl := (List.getElem?_eq_some_iff.1 h).1
  have h1 := List.take_append_drop j D
  rw [List.drop_eq_getElem_cons hl] at h1
  rw [List.getElem?_eq_getElem hl] at h
  rw [Option.some.inj h] at h1
  exact ⟨h1.symm, by simp; omega⟩
theorem nodup_at {D : DT} (h : (D.map Prod.fst).Nodup) {k i : Nat} {x y : SlotT × Int} (hk : k < i) (h1 : D[k]? = some y) (h2 : D[i]? = some x) : y.1 ≠ x.1 := fun e => by
  have hi : i < D.length := (List.getElem?_eq_some_iff.1 h2).1
  rw [List.nodup_iff_pairwise_ne, List.pairwise_iff_getElem] at h
  refine h k i (by simp; omega) (by simpa using hi) hk ?_
  rw [List.getElem_map, List.getElem_map]
  rw [List.getElem?_eq_getElem (by omega)] at h1 h2
  rw [Option.some.inj h1, Option.some.inj h2, e]
theorem slot_inj {D : DT} (hn : (D.map Prod.fst).Nodup) {i j : Nat} {x y : SlotT × Int} (hx : D[i]? = some x) (hy : D[j]? = some y) (e : x.1 = y.1) : i = j := by
  by_cases h1 : i < j
  · exact absurd e (nodup_at hn h1 hx hy)
  · by_cases h2 : j < i
    · exact absurd e.symm (nodup_at hn h2 hy hx)
    · omega
end Go.Proofs.Ytpplknmmjlgadaa.Tr

/- hold: its blocks; New, Slots, AddNode, DropNode, Get, pair, Below, Used, Tree. -/
-- GU
set_option linter.unusedVariables false
set_option linter.unusedSimpArgs false
namespace Go.Proofs.Ytpplknmmjlgadaa
open Go.RowKit
set_option maxRecDepth 20000
set_option maxRecDepth 20000

abbrev hoC (b bs bt : Nat) : Chunk := (b, .cells (List.toArray [.pointer (some ⟨bs, 0, none⟩), .pointer (some ⟨bt, 0, none⟩)]) 53 (0, 0))
structure HB (b bs bt : Nat) (H : HS) (ls lt lq : List Chunk) : Prop where
  eq : lq = hoC b bs bt :: (ls ++ lt)
  s : IsS bs H.1 ls
  t : Tr.IsT bt H.2 lt
def IsH (b : Nat) (H : HS) (lq : List Chunk) : Prop := ∃ bs bt ls lt, HB b bs bt H ls lt lq
theorem HB.h {b bs bt : Nat} {H : HS} {ls lt lq : List Chunk} (h : HB b bs bt H ls lt lq) : hoC b bs bt ∈ lq := by rw [h.eq]; exact .head _
theorem HB.m1 {b bs bt : Nat} {H : HS} {ls lt lq : List Chunk} (h : HB b bs bt H ls lt lq) : ∀ c, c ∈ ls → c ∈ lq := fun c hc => by rw [h.eq]; exact .tail _ (List.mem_append_left _ hc)
theorem HB.m2 {b bs bt : Nat} {H : HS} {ls lt lq : List Chunk} (h : HB b bs bt H ls lt lq) : ∀ c, c ∈ lt → c ∈ lq := fun c hc => by rw [h.eq]; exact .tail _ (List.mem_append_right _ hc)
theorem InvH.small {H : HS} {n : Nat} (h : InvH H n) (hn : n ≤ 1000) : H.1.length ≤ 2000 ∧ H.2.length ≤ 1000 ∧ Tr.SmallD H.2 := ⟨by have := h.len; omega, by have := h.tree.len; omega, h.tree.small (by omega)⟩
set_option pp.deepTerms false
set_option pp.deepTerms.threshold 4
set_option maxHeartbeats 400000
theorem hnew_any (l : List Chunk) : Fn Try.prog 42 [] l fun v l' => ∃ b, v = .pointer (some ⟨b, 0, none⟩) ∧ ∃ lq, IsH b ([], []) lq ∧ l' = lq ++ l := by
  refine fn_of_body Try.func42 rfl rfl fun E => ?_
  simp only [argF, Try.ntmps42]
  refine gzU ?_
  refine t_e (e_call0 rfl rfl (new_any _)) rfl rfl rfl ?_
  rintro _ _ ⟨bs, rfl, ls, hs, rfl⟩
  refine gzU ?_
  refine t_e (e_call0 rfl rfl (Tr.new_any _)) rfl rfl rfl ?_
  rintro _ _ ⟨bt, rfl, lt, ht, rfl⟩
  refine gzU ?_
  (first | refine t_e (e_box1 rfl rfl) rfl rfl rfl ?_ | refine t_e (e_boxA rfl) rfl rfl rfl ?_); rintro _ _ ⟨b, _, rfl, rfl⟩
  refine gzU ?_
  exact k_ret [] rfl (l' := (hoC b bs bt :: (ls ++ lt)) ++ l) (keep_ac (A := hoC b bs bt :: (lt ++ (ls ++ l))) []) (by exact zRes) ⟨b, rfl, _, ⟨bs, bt, ls, lt, rfl, hs, ht⟩, rfl⟩
theorem hslots_any (b bs bt : Nat) (l : List Chunk) (hm : hoC b bs bt ∈ l) : Fn Try.prog 19 [.pointer (some ⟨b, 0, none⟩)] l fun v l' => v = .pointer (some ⟨bs, 0, none⟩) ∧ l' = l := by
  refine fn_of_body Try.func19 rfl rfl fun E => ?_
  simp only [argF, Try.ntmps19]
  refine gzU ?_
  exact k_ret [] rfl .refl (by exact zRes) ⟨rfl, rfl⟩
theorem haddN_any (b : Nat) (H : HS) (lq : List Chunk) (hq : IsH b H lq) (id n : Int) (G : List Chunk) :
    Fn Try.prog 13 [.pointer (some ⟨b, 0, none⟩), .int .i64 id, .int .i64 n] (lq ++ G) fun v l' => v = .int .i64 (addN H.1 id n).1 ∧ ∃ lq', IsH b ((addN H.1 id n).2, H.2) lq' ∧ l' = lq' ++ G := by
  obtain ⟨bs, bt, ls, lt, rfl, hs, ht⟩ := hq
  refine fn_of_body Try.func13 rfl rfl fun E => ?_
  simp only [argF, Try.ntmps13]
  simp only [List.cons_append, List.append_assoc]
  refine gzU ?_
  refine t_q (q_call rfl rfl fun l2 hl => hslots_any b bs bt l2 (hl _ (.head _))) rfl rfl rfl ?_
  refine gzU ?_
  refine t_e (e_call rfl rfl (Fn.mvP (fun A => hoC b bs bt :: (A ++ (lt ++ G))) (add_any bs H.1 ls hs id n (hoC b bs bt :: (lt ++ G))))) rfl rfl rfl ?_
  rintro _ _ ⟨rfl, ls', hs', rfl⟩
  refine gzU ?_
  exact k_ret [] rfl (l' := (hoC b bs bt :: (ls' ++ lt)) ++ G) (.of_perm (.of_eq (by simp))) (by exact zRes) ⟨rfl, _, ⟨bs, bt, ls', lt, rfl, hs', ht⟩, rfl⟩
theorem hdropN_any (b : Nat) (H : HS) (lq : List Chunk) (hq : IsH b H lq) (id : Int) (G : List Chunk) :
    Fn Try.prog 14 [.pointer (some ⟨b, 0, none⟩), .int .i64 id] (lq ++ G) fun v l' => v = .int .i64 (dropN H.1 id).1 ∧ ∃ lq', IsH b ((dropN H.1 id).2, H.2) lq' ∧ l' = lq' ++ G := by
  obtain ⟨bs, bt, ls, lt, rfl, hs, ht⟩ := hq
  refine fn_of_body Try.func14 rfl rfl fun E => ?_
  simp only [argF, Try.ntmps14]
  simp only [List.cons_append, List.append_assoc]
  refine gzU ?_
  refine t_q (q_call rfl rfl fun l2 hl => hslots_any b bs bt l2 (hl _ (.head _))) rfl rfl rfl ?_
  refine gzU ?_
  refine t_e (e_call rfl rfl (Fn.mvP (fun A => hoC b bs bt :: (A ++ (lt ++ G))) (drop_any bs H.1 ls hs id (hoC b bs bt :: (lt ++ G))))) rfl rfl rfl ?_
  rintro _ _ ⟨rfl, ls', hs', rfl⟩
  refine gzU ?_
  exact k_ret [] rfl (l' := (hoC b bs bt :: (ls' ++ lt)) ++ G) (.of_perm (.of_eq (by simp))) (by exact zRes) ⟨rfl, _, ⟨bs, bt, ls', lt, rfl, hs', ht⟩, rfl⟩
theorem hget_any (b : Nat) (H : HS) (lq : List Chunk) (hq : IsH b H lq) (s : slT) (l : List Chunk) (hsub : ∀ c, c ∈ lq → c ∈ l) :
    Fn Try.prog 4 [.pointer (some ⟨b, 0, none⟩), .agg (List.toArray (encT s))] l fun v l' => v = .tuple #[.agg (List.toArray (encC (getD' H.1 s).1)), .int .i64 (getD' H.1 s).2] ∧ l' = l := by
  obtain ⟨bs, bt, ls, lt, hb⟩ := hq
  refine fn_of_body Try.func4 rfl rfl fun E => ?_
  simp only [argF, Try.ntmps4]
  refine gzU ?_
  (first | refine t_e (e_box1 rfl rfl) rfl rfl rfl ?_ | refine t_e (e_boxA rfl) rfl rfl rfl ?_); rintro _ _ ⟨b3, _, rfl, rfl⟩
  refine gzU ?_
  refine t_e e_alloc rfl rfl rfl ?_; rintro _ _ ⟨b4, _, rfl, rfl⟩
  refine gzU ?_
  refine c_draw [(0, true), (1, true), (2, true), (3, true), (4, true), (5, true), (6, false), (7, true)] [[], [0], [], [0, 1, 2], [0, 1, 2, 3], [0, 1, 2, 3], [0, 1, 2, 3, 4, 5], [0, 1, 2, 3, 4, 5, 6]] (slC b3 s :: l) (by kernel_rfl) (by kernel_rfl) zAtt zHR ?_
  refine pzU ?_
  refine pl_h (q_call rfl rfl fun l2 hl => hslots_any b bs bt l2 (hl _ (.tail _ (hsub _ hb.h)))) rfl rfl rfl ?_
  refine pzU ?_
  refine pl_h (q_call rfl rfl fun l2 hl => get_any bs H.1 ls hb.s s l2 fun c hc => hl _ (.tail _ (hsub _ (hb.m1 c hc)))) rfl rfl rfl ?_
  refine pzU ?_
  refine gzU ?_
  exact k_ret2 [] (capC b4 (getD' H.1 s).1 :: slC b3 s :: l) rfl (l' := l) .refl (by exact zRes) (.drop (.drop .refl)) ⟨rfl, rfl⟩
def pairE (D : SD) (a c : slT) : Int := if (getD' D a).2 = 0 then (getD' D c).2 else (getD' D a).2
theorem hpair_any (b : Nat) (H : HS) (lq : List Chunk) (hq : IsH b H lq) (a c : slT) (l : List Chunk) (hsub : ∀ c, c ∈ lq → c ∈ l) :
    Fn Try.prog 26 [.pointer (some ⟨b, 0, none⟩), .agg (List.toArray (encT a)), .agg (List.toArray (encT c))] l fun v l' => v = .tuple #[.agg (List.toArray (encC (getD' H.1 a).1)), .agg (List.toArray (encC (getD' H.1 c).1)), .int .i64 (pairE H.1 a c)] ∧ l' = l := by
  refine fn_of_body Try.func26 rfl rfl fun E => ?_
  simp only [argF, Try.ntmps26]
  refine gzU ?_
  (first | refine t_e (e_box1 rfl rfl) rfl rfl rfl ?_ | refine t_e (e_boxA rfl) rfl rfl rfl ?_); rintro _ _ ⟨b4, _, rfl, rfl⟩
  refine gzU ?_
  (first | refine t_e (e_box1 rfl rfl) rfl rfl rfl ?_ | refine t_e (e_boxA rfl) rfl rfl rfl ?_); rintro _ _ ⟨b5, _, rfl, rfl⟩
  refine gzU ?_
  refine t_e e_alloc rfl rfl rfl ?_; rintro _ _ ⟨b6, _, rfl, rfl⟩
  refine gzU ?_
  refine t_e e_alloc rfl rfl rfl ?_; rintro _ _ ⟨b7, _, rfl, rfl⟩
  refine gzU ?_
  refine t_q (q_call rfl rfl fun l2 hl => hget_any b H lq hq a l2 fun c hc => hl c (.tail _ (.tail _ (.tail _ (.tail _ (hsub c hc)))))) rfl rfl rfl ?_
  refine gzU ?_
  refine t_e e_alloc rfl rfl rfl ?_; rintro _ _ ⟨b9, _, rfl, rfl⟩
  refine gzU ?_
  refine t_q (q_call rfl rfl fun l2 hl => hget_any b H lq hq c l2 fun c hc => hl c (.tail _ (.tail _ (.tail _ (.tail _ (.tail _ (hsub c hc))))))) rfl rfl rfl ?_
  refine gzU ?_
  refine t_e e_alloc rfl rfl rfl ?_; rintro _ _ ⟨b11, _, rfl, rfl⟩
  refine gzU ?_
  unfold pairE
  by_cases h : (getD' H.1 a).2 = 0
  case' pos => rw [if_pos h]
  case' neg => rw [if_neg h]
  all_goals
    refine gzU ?_
    refine c_draw [(0, true), (1, true), (2, true), (3, false), (4, false), (5, true)] [[], [], [], [0], [0, 1, 3], [0, 1, 2, 3, 4]] ([capC b11 (getD' H.1 c).1, capC b9 (getD' H.1 a).1]) (by kernel_rfl) (by kernel_rfl) zAtt zHR ?_
    refine pzU ?_
    refine gzU ?_
    exact k_ret2 [] (capC b7 (getD' H.1 c).1 :: capC b6 (getD' H.1 a).1 :: l) rfl (l' := l) (.drop (.drop (.pick .here (.pick .here (.drop (.drop .refl)))))) (by exact zRes) (.drop (.drop .refl)) ⟨rfl, rfl⟩
theorem hbelow_any (b : Nat) (H : HS) (lq : List Chunk) (hq : IsH b H lq) (hn : H.2.length ≤ 1000) (s : slT) (l : List Chunk) (hsub : ∀ c, c ∈ lq → c ∈ l) :
    Fn Try.prog 16 [.pointer (some ⟨b, 0, none⟩), .agg (List.toArray (encT s))] l fun v l' => ∃ cs, OwnSl 23 2 v (Tr.belowD H.2 s).length (Tr.scs (Tr.belowD H.2 s)) cs ∧ l' = cs ++ l := by
  obtain ⟨bs, bt, ls, lt, hb⟩ := hq
  have hm := hsub _ hb.h
  refine fn_of_body Try.func16 rfl rfl fun E => ?_
  simp only [argF, Try.ntmps16]
  refine gzU ?_
  (first | refine t_e (e_box1 rfl rfl) rfl rfl rfl ?_ | refine t_e (e_boxA rfl) rfl rfl rfl ?_); rintro _ _ ⟨b3, _, rfl, rfl⟩
  refine gzU ?_
  refine c_draw [(0, true), (1, true), (2, true), (3, true), (4, true), (5, false), (6, true)] [[], [0], [0, 1], [0, 1, 2], [], [0, 1, 2, 3, 4], [0, 1, 2, 3, 4, 5]] (slC b3 s :: l) (by kernel_rfl) (by kernel_rfl) zAtt zHR ?_
  refine pzU ?_
  apply pl_e
  · exact e_call0 rfl rfl (Tr.belowOf_any bt H.2 lt hb.t (by omega) s _ fun c hc => .tail _ (hsub _ (hb.m2 c hc)))
  · rfl
  · rfl
  · rfl
  · rintro _ _ ⟨cs, _, rfl⟩ x hx
    exact List.mem_append_right _ hx
  rintro v _ ⟨cs, ho, rfl⟩
  refine pzU ?_
  refine gzU ?_
  refine k_ret [] rfl (l' := cs ++ l) (keep_ac (A := cs ++ (slC b3 s :: l)) [slC b3 s]) (by exact zRes) ?_
  exact ⟨cs, ho, rfl⟩
theorem hused_any (b : Nat) (H : HS) (lq : List Chunk) (hq : IsH b H lq) (hn : H.1.length ≤ 2000) (l : List Chunk) (hsub : ∀ c, c ∈ lq → c ∈ l) :
    Fn Try.prog 17 [.pointer (some ⟨b, 0, none⟩)] l fun v l' => ∃ cs, OwnSl 93 10 v (usedD H.1).length (hcs (usedD H.1)) cs ∧ l' = cs ++ l := by
  obtain ⟨bs, bt, ls, lt, hb⟩ := hq
  refine fn_of_body Try.func17 rfl rfl fun E => ?_
  simp only [argF, Try.ntmps17]
  refine gzU ?_
  refine t_q (q_call rfl rfl fun l2 hl => hslots_any b bs bt l2 (hl _ (hsub _ hb.h))) rfl rfl rfl ?_
  refine gzU ?_
  refine t_e (e_call0 rfl rfl (all_any bs H.1 ls hb.s (by omega) _ fun c hc => hsub _ (hb.m1 c hc))) rfl rfl rfl ?_
  rintro v _ ⟨cs, ho, rfl⟩
  refine gzU ?_
  refine k_ret [] rfl (l' := cs ++ l) .refl (by exact zRes) ?_
  exact ⟨cs, ho, rfl⟩
theorem htree_any (b : Nat) (H : HS) (lq : List Chunk) (hq : IsH b H lq) (hn : H.2.length ≤ 1000) (l : List Chunk) (hsub : ∀ c, c ∈ lq → c ∈ l) :
    Fn Try.prog 18 [.pointer (some ⟨b, 0, none⟩)] l fun v l' => ∃ cs, OwnSl 99 3 v H.2.length (Tr.ncs H.2) cs ∧ l' = cs ++ l := by
  obtain ⟨bs, bt, ls, lt, hb⟩ := hq
  have hm := hsub _ hb.h
  refine fn_of_body Try.func18 rfl rfl fun E => ?_
  simp only [argF, Try.ntmps18]
  refine gzU ?_
  refine t_e (e_call0 rfl rfl (Tr.all_any bt H.2 lt hb.t (by omega) _ fun c hc => hsub _ (hb.m2 c hc))) rfl rfl rfl ?_
  rintro v _ ⟨cs, ho, rfl⟩
  refine gzU ?_
  refine k_ret [] rfl (l' := cs ++ l) .refl (by exact zRes) ?_
  exact ⟨cs, ho, rfl⟩
end Go.Proofs.Ytpplknmmjlgadaa

/- hold: Root, Child, Set, derived, Copy, Mint. -/
-- GU
set_option linter.unusedVariables false
set_option linter.unusedSimpArgs false
namespace Go.Proofs.Ytpplknmmjlgadaa
open Go.RowKit
set_option maxRecDepth 20000
set_option maxRecDepth 20000

theorem get_e {D : SD} {s : slT} : (okD D s = true ∧ getD' D s = (atD D s, 0)) ∨ (okD D s = false ∧ getD' D s = (capZ, 3)) := by
  unfold getD'
  cases okD D s with
  | false => exact .inr ⟨rfl, rfl⟩
  | true => exact .inl ⟨rfl, rfl⟩
theorem get_t {D : SD} {s : slT} (h : okD D s = true) : getD' D s = (atD D s, 0) := by unfold getD'; rw [h]; rfl
theorem get_f {D : SD} {s : slT} (h : okD D s = false) : getD' D s = (capZ, 3) := by unfold getD'; rw [h]; rfl
theorem pair_t {D : SD} {a c : slT} (ha : okD D a = true) (hc : okD D c = true) : pairE D a c = 0 := by unfold pairE; rw [get_t ha, get_t hc]; rfl
theorem pair_f {D : SD} {a c : slT} (h : okD D a = false ∨ okD D c = false) : pairE D a c = 3 := by
  unfold pairE
  rcases h with h | h
  · rw [get_f h]; rfl
  · rw [get_f h]; split
    · rfl
    · rename_i h2
      rcases get_e (D := D) (s := a) with ⟨_, h3⟩ | ⟨_, h3⟩
      · rw [h3] at h2; exact absurd rfl h2
      · rw [h3]
theorem ok_or {D : SD} {a c : slT} (h : ¬ (okD D a = false ∨ okD D c = false)) : okD D a = true ∧ okD D c = true := by
  cases h1 : okD D a <;> cases h2 : okD D c <;> simp_all
set_option pp.deepTerms false
set_option pp.deepTerms.threshold 4
set_option maxHeartbeats 400000
theorem hroot_any (b : Nat) (H : HS) (n : Nat) (hI : InvH H n) (lq : List Chunk) (hq : IsH b H lq) (s : slT) (c : CapT) (G : List Chunk) :
    Fn Try.prog 6 [.pointer (some ⟨b, 0, none⟩), .agg (List.toArray (encT s)), .agg (List.toArray (encC c))] (lq ++ G) fun v l' => v = .int .i64 (rootH H s c).1 ∧ ∃ lq', IsH b (rootH H s c).2 lq' ∧ l' = lq' ++ G := by
  have hq0 := hq
  refine fn_of_body Try.func6 rfl rfl fun E => ?_
  simp only [argF, Try.ntmps6]
  refine gzU ?_
  (first | refine t_e (e_box1 rfl rfl) rfl rfl rfl ?_ | refine t_e (e_boxA rfl) rfl rfl rfl ?_); rintro _ _ ⟨b4, _, rfl, rfl⟩
  refine gzU ?_
  (first | refine t_e (e_box1 rfl rfl) rfl rfl rfl ?_ | refine t_e (e_boxA rfl) rfl rfl rfl ?_); rintro _ _ ⟨b5, _, rfl, rfl⟩
  refine gzU ?_
  refine t_q (q_call rfl rfl fun l2 hl => hget_any b H lq hq s l2 fun c hc => hl c (.tail _ (.tail _ (List.mem_append_left _ hc)))) rfl rfl rfl ?_
  have hret : ∀ (d : CapT) (B : Nat), Keep (capC B d :: capC b5 c :: slC b4 s :: (lq ++ G)) (lq ++ G) := fun _ _ => .drop (.drop (.drop .refl))
  cases hok : okD H.1 s with
  | false =>
    rw [get_f hok, show rootH H s c = (3, H) by unfold rootH; rw [if_pos hok]]
    refine gzU ?_
    refine t_e e_alloc rfl rfl rfl ?_; rintro _ _ ⟨b7, _, rfl, rfl⟩
    refine gzU ?_
    exact k_ret [] rfl (hret _ _) (by exact zRes) ⟨rfl, _, hq0, rfl⟩
  | true =>
  rw [get_t hok]
  have e0 : rootH H s c = if someC c = false then (5, H) else if (atD H.1 s).kind ≠ 0 then (11, H) else (0, (putD H.1 s c, (Tr.rootD H.2 s).2)) := by unfold rootH; rw [if_neg (by rw [hok]; decide)]
  rw [e0]
  refine gzU ?_
  refine t_e e_alloc rfl rfl rfl ?_; rintro _ _ ⟨b7, _, rfl, rfl⟩
  refine gzU ?_
  refine t_q (q_call rfl rfl fun l2 hl => mayC_any c l2) rfl rfl rfl ?_
  cases hm : mayC c with
  | false =>
    rw [if_pos (by unfold someC; rw [hm]; rfl)]
    refine gzU ?_
    exact k_ret [] rfl (hret _ _) (by exact zRes) ⟨rfl, _, hq0, rfl⟩
  | true =>
  by_cases hk : c.kind = 0
  · rw [if_pos (by unfold someC; rw [decide_eq_true hk, hm]; rfl)]
    refine gzU ?_
    exact k_ret [] rfl (hret _ _) (by exact zRes) ⟨rfl, _, hq0, rfl⟩
  rw [if_neg (by unfold someC; rw [decide_eq_false hk, hm]; decide)]
  by_cases hw : (atD H.1 s).kind ≠ 0
  · rw [if_pos hw]
    refine gzU ?_
    exact k_ret [] rfl (hret _ _) (by exact zRes) ⟨rfl, _, hq0, rfl⟩
  rw [if_neg hw]
  obtain ⟨bs, bt, ls, lt, rfl, hs, ht⟩ := hq
  have hr0 := (has_root (t := s) (hI.no (by simpa using hw))).1
  have H1 := Fn.mvP (fun A => capC b7 (atD H.1 s) :: capC b5 c :: slC b4 s :: hoC b bs bt :: (A ++ (lt ++ G))) (set_any bs H.1 ls hs s c (capC b7 (atD H.1 s) :: capC b5 c :: slC b4 s :: hoC b bs bt :: (lt ++ G)))
  have H2 := fun ls => Fn.mvP (fun A => capC b7 (atD H.1 s) :: capC b5 c :: slC b4 s :: hoC b bs bt :: (ls ++ (A ++ G))) (Tr.root_any bt H.2 lt ht s (capC b7 (atD H.1 s) :: capC b5 c :: slC b4 s :: hoC b bs bt :: (ls ++ G)))
  rw [set_ok hok hm] at H1
  rw [hr0] at H2
  simp only [List.cons_append, List.append_assoc]
  refine gzU ?_
  refine c_draw [(0, true), (1, true), (2, true), (3, true), (4, true), (5, true), (6, false)] [[], [0], [0, 1], [0, 1, 2], [], [], [0, 1, 2, 3, 4, 5]] ([capC b5 c, slC b4 s, hoC b bs bt]) (by kernel_rfl) (by kernel_rfl) zAtt zHR ?_
  refine pzU ?_
  apply pl_e
  · exact e_call rfl rfl H1
  · rfl
  · rfl
  · rfl
  · rintro _ _ ⟨_, ls', _, rfl⟩
    exact zHR
  rintro _ _ ⟨rfl, ls', hs', rfl⟩
  refine pzU ?_
  refine gzU ?_
  refine c_draw [(0, true), (1, true), (2, true), (3, true), (4, true), (5, false), (6, true)] [[], [0], [0, 1], [0, 1, 2], [], [0, 1, 2, 3, 4], [0, 1, 2, 3, 4, 5]] ([slC b4 s, hoC b bs bt]) (by kernel_rfl) (by kernel_rfl) zAtt zHR ?_
  refine pzU ?_
  apply pl_e
  · exact e_call rfl rfl (H2 ls')
  · rfl
  · rfl
  · rfl
  · rintro _ _ ⟨_, lt', _, rfl⟩
    exact zHR
  rintro _ _ ⟨rfl, lt', ht', rfl⟩
  refine pzU ?_
  refine gzU ?_
  exact k_ret [] rfl (l' := (hoC b bs bt :: (ls' ++ lt')) ++ G) (.drop (.drop (.drop (.of_perm (.of_eq (by simp)))))) (by exact zRes) ⟨rfl, _, ⟨bs, bt, ls', lt', rfl, hs', ht'⟩, rfl⟩
theorem hchild_any (b : Nat) (H : HS) (n : Nat) (hI : InvH H n) (hn : n ≤ 1000) (lq : List Chunk) (hq : IsH b H lq) (p s : slT) (c : CapT) (G : List Chunk) :
    Fn Try.prog 7 [.pointer (some ⟨b, 0, none⟩), .agg (List.toArray (encT p)), .agg (List.toArray (encT s)), .agg (List.toArray (encC c))] (lq ++ G) fun v l' => v = .int .i64 (childH H p s c).1 ∧ ∃ lq', IsH b (childH H p s c).2 lq' ∧ l' = lq' ++ G := by
  have hq0 := hq
  refine fn_of_body Try.func7 rfl rfl fun E => ?_
  simp only [argF, Try.ntmps7]
  refine gzU ?_
  (first | refine t_e (e_box1 rfl rfl) rfl rfl rfl ?_ | refine t_e (e_boxA rfl) rfl rfl rfl ?_); rintro _ _ ⟨b5, _, rfl, rfl⟩
  refine gzU ?_
  (first | refine t_e (e_box1 rfl rfl) rfl rfl rfl ?_ | refine t_e (e_boxA rfl) rfl rfl rfl ?_); rintro _ _ ⟨b6, _, rfl, rfl⟩
  refine gzU ?_
  (first | refine t_e (e_box1 rfl rfl) rfl rfl rfl ?_ | refine t_e (e_boxA rfl) rfl rfl rfl ?_); rintro _ _ ⟨b7, _, rfl, rfl⟩
  refine gzU ?_
  refine t_q (q_call rfl rfl fun l2 hl => hpair_any b H lq hq p s l2 fun c hc => hl c (.tail _ (.tail _ (.tail _ (List.mem_append_left _ hc))))) rfl rfl rfl ?_
  have hret : ∀ (d e : CapT) (B C : Nat), Keep (capC B d :: capC C e :: capC b7 c :: slC b6 s :: slC b5 p :: (lq ++ G)) (lq ++ G) := fun _ _ _ _ => .drop (.drop (.drop (.drop (.drop .refl))))
  by_cases hok : okD H.1 p = false ∨ okD H.1 s = false
  · rw [pair_f hok, show childH H p s c = (3, H) by unfold childH; rw [if_pos hok]]
    refine gzU ?_
    refine t_e e_alloc rfl rfl rfl ?_; rintro _ _ ⟨b9, _, rfl, rfl⟩
    refine t_e e_alloc rfl rfl rfl ?_; rintro _ _ ⟨b10, _, rfl, rfl⟩
    refine gzU ?_
    exact k_ret [] rfl (hret _ _ _ _) (by exact zRes) ⟨rfl, _, hq0, rfl⟩
  obtain ⟨okp, oks⟩ := ok_or hok
  rw [pair_t okp oks, get_t okp, get_t oks]
  have e0 : childH H p s c = if someC c = false then (5, H) else if (atD H.1 p).kind = 0 then (10, H) else if (atD H.1 s).kind ≠ 0 then (11, H) else (0, (putD H.1 s c, (Tr.childD H.2 p s).2)) := by unfold childH; rw [if_neg hok]
  rw [e0]
  refine gzU ?_
  refine t_e e_alloc rfl rfl rfl ?_; rintro _ _ ⟨b9, _, rfl, rfl⟩
  refine t_e e_alloc rfl rfl rfl ?_; rintro _ _ ⟨b10, _, rfl, rfl⟩
  refine gzU ?_
  refine t_q (q_call rfl rfl fun l2 hl => mayC_any c l2) rfl rfl rfl ?_
  cases hm : mayC c with
  | false =>
    rw [if_pos (by unfold someC; rw [hm]; rfl)]
    refine gzU ?_
    exact k_ret [] rfl (hret _ _ _ _) (by exact zRes) ⟨rfl, _, hq0, rfl⟩
  | true =>
  by_cases hk : c.kind = 0
  · rw [if_pos (by unfold someC; rw [decide_eq_true hk, hm]; rfl)]
    refine gzU ?_
    exact k_ret [] rfl (hret _ _ _ _) (by exact zRes) ⟨rfl, _, hq0, rfl⟩
  rw [if_neg (by unfold someC; rw [decide_eq_false hk, hm]; decide)]
  by_cases hp : (atD H.1 p).kind = 0
  · rw [if_pos hp]
    refine gzU ?_
    exact k_ret [] rfl (hret _ _ _ _) (by exact zRes) ⟨rfl, _, hq0, rfl⟩
  rw [if_neg hp]
  by_cases hw : (atD H.1 s).kind ≠ 0
  · rw [if_pos hw]
    refine gzU ?_
    exact k_ret [] rfl (hret _ _ _ _) (by exact zRes) ⟨rfl, _, hq0, rfl⟩
  rw [if_neg hw]
  obtain ⟨bs, bt, ls, lt, rfl, hs, ht⟩ := hq
  have hr0 := (has_child (t := s) ((hI.link p).2 ⟨okp, hp⟩) (hI.no (by simpa using hw))).1
  obtain ⟨X, hX⟩ : ∃ X, X = [capC b10 (atD H.1 s), capC b9 (atD H.1 p), capC b7 c, slC b6 s, slC b5 p, hoC b bs bt] := ⟨_, rfl⟩
  have H1 := Fn.mvP (fun A => X ++ (A ++ (lt ++ G))) (set_any bs H.1 ls hs s c (X ++ (lt ++ G)))
  have H2 := fun ls => Fn.mvP (fun A => X ++ (ls ++ (A ++ G))) (Tr.child_any bt H.2 lt ht (hI.small hn).2.2 p s (X ++ (ls ++ G)))
  rw [set_ok oks hm] at H1
  rw [hr0] at H2
  rw [hX] at H1 H2
  simp only [List.cons_append, List.append_assoc, List.nil_append] at H1 H2 ⊢
  refine gzU ?_
  refine c_draw [(0, true), (1, true), (2, true), (3, true), (4, true), (5, true), (6, false)] [[], [0], [0, 1], [0, 1, 2], [], [], [0, 1, 2, 3, 4, 5]] ([capC b7 c, slC b6 s, hoC b bs bt]) (by kernel_rfl) (by kernel_rfl) zAtt zHR ?_
  refine pzU ?_
  apply pl_e
  · exact e_call rfl rfl H1
  · rfl
  · rfl
  · rfl
  · rintro _ _ ⟨_, ls', _, rfl⟩
    exact zHR
  rintro _ _ ⟨rfl, ls', hs', rfl⟩
  refine pzU ?_
  refine gzU ?_
  refine c_draw [(0, true), (1, true), (2, true), (3, true), (4, true), (5, true), (6, false), (7, true)] [[], [0], [0, 1], [0, 1, 2], [], [], [0, 1, 2, 3, 4, 5], [0, 1, 2, 3, 4, 5, 6]] ([slC b6 s, slC b5 p, hoC b bs bt]) (by kernel_rfl) (by kernel_rfl) zAtt zHR ?_
  refine pzU ?_
  apply pl_e
  · exact e_call rfl rfl (H2 ls')
  · rfl
  · rfl
  · rfl
  · rintro _ _ ⟨_, lt', _, rfl⟩
    exact zHR
  rintro _ _ ⟨rfl, lt', ht', rfl⟩
  refine pzU ?_
  refine gzU ?_
  exact k_ret [] rfl (l' := (hoC b bs bt :: (ls' ++ lt')) ++ G) (.drop (.drop (.drop (.drop (.drop (.of_perm (.of_eq (by simp)))))))) (by exact zRes) ⟨rfl, _, ⟨bs, bt, ls', lt', rfl, hs', ht'⟩, rfl⟩
theorem alike_may {a c : CapT} (h : alikeB a c = true) : mayC c = true := by
  unfold alikeB at h
  simp only [Bool.and_eq_true] at h
  exact h.1.1.1.2
theorem hset_any (b : Nat) (H : HS) (n : Nat) (hI : InvH H n) (lq : List Chunk) (hq : IsH b H lq) (s : slT) (c : CapT) (G : List Chunk) :
    Fn Try.prog 8 [.pointer (some ⟨b, 0, none⟩), .agg (List.toArray (encT s)), .agg (List.toArray (encC c))] (lq ++ G) fun v l' => v = .int .i64 (setH H s c).1 ∧ ∃ lq', IsH b (setH H s c).2 lq' ∧ l' = lq' ++ G := by
  have hq0 := hq
  refine fn_of_body Try.func8 rfl rfl fun E => ?_
  simp only [argF, Try.ntmps8]
  refine gzU ?_
  (first | refine t_e (e_box1 rfl rfl) rfl rfl rfl ?_ | refine t_e (e_boxA rfl) rfl rfl rfl ?_); rintro _ _ ⟨b4, _, rfl, rfl⟩
  refine gzU ?_
  (first | refine t_e (e_box1 rfl rfl) rfl rfl rfl ?_ | refine t_e (e_boxA rfl) rfl rfl rfl ?_); rintro _ _ ⟨b5, _, rfl, rfl⟩
  refine gzU ?_
  refine t_q (q_call rfl rfl fun l2 hl => hget_any b H lq hq s l2 fun c hc => hl c (.tail _ (.tail _ (List.mem_append_left _ hc)))) rfl rfl rfl ?_
  have hret : ∀ (d : CapT) (B : Nat), Keep (capC B d :: capC b5 c :: slC b4 s :: (lq ++ G)) (lq ++ G) := fun _ _ => .drop (.drop (.drop .refl))
  cases hok : okD H.1 s with
  | false =>
    rw [get_f hok, show setH H s c = (3, H) by unfold setH; rw [if_pos hok]]
    refine gzU ?_
    refine t_e e_alloc rfl rfl rfl ?_; rintro _ _ ⟨b7, _, rfl, rfl⟩
    refine gzU ?_
    exact k_ret [] rfl (hret _ _) (by exact zRes) ⟨rfl, _, hq0, rfl⟩
  | true =>
  rw [get_t hok]
  have e0 : setH H s c = if (atD H.1 s).kind = 0 then (10, H) else if alikeB (atD H.1 s) c = false then (5, H) else (0, (putD H.1 s c, H.2)) := by unfold setH; rw [if_neg (by rw [hok]; decide)]
  rw [e0]
  refine gzU ?_
  refine t_e e_alloc rfl rfl rfl ?_; rintro _ _ ⟨b7, _, rfl, rfl⟩
  refine gzU ?_
  by_cases hw : (atD H.1 s).kind = 0
  · rw [if_pos hw]
    refine gzU ?_
    exact k_ret [] rfl (hret _ _) (by exact zRes) ⟨rfl, _, hq0, rfl⟩
  rw [if_neg hw]
  refine gzU ?_
  refine t_q (q_call rfl rfl fun l2 hl => alike_any (atD H.1 s) c l2) rfl rfl rfl ?_
  cases ha : alikeB (atD H.1 s) c with
  | false =>
    rw [if_pos rfl]
    refine gzU ?_
    exact k_ret [] rfl (hret _ _) (by exact zRes) ⟨rfl, _, hq0, rfl⟩
  | true =>
  rw [if_neg (by decide)]
  obtain ⟨bs, bt, ls, lt, rfl, hs, ht⟩ := hq
  obtain ⟨X, hX⟩ : ∃ X, X = [capC b7 (atD H.1 s), capC b5 c, slC b4 s, hoC b bs bt] := ⟨_, rfl⟩
  have H1 := Fn.mvP (fun A => X ++ (A ++ (lt ++ G))) (set_any bs H.1 ls hs s c (X ++ (lt ++ G)))
  rw [set_ok hok (alike_may ha)] at H1
  rw [hX] at H1
  simp only [List.cons_append, List.append_assoc, List.nil_append] at H1 ⊢
  refine gzU ?_
  refine c_draw [(0, true), (1, true), (2, true), (3, true), (4, true), (5, true), (6, false), (7, true)] [[], [0], [0, 1], [0, 1, 2], [], [], [0, 1, 2, 3, 4, 5], [0, 1, 2, 3, 4, 5, 6]] ([capC b5 c, slC b4 s, hoC b bs bt]) (by kernel_rfl) (by kernel_rfl) zAtt zHR ?_
  refine pzU ?_
  apply pl_e
  · exact e_call rfl rfl H1
  · rfl
  · rfl
  · rfl
  · rintro _ _ ⟨_, ls', _, rfl⟩
    exact zHR
  rintro _ _ ⟨rfl, ls', hs', rfl⟩
  refine pzU ?_
  refine gzU ?_
  exact k_ret [] rfl (l' := (hoC b bs bt :: (ls' ++ lt)) ++ G) (.drop (.drop (.drop (.of_perm (.of_eq (by simp)))))) (by exact zRes) ⟨rfl, _, ⟨bs, bt, ls', lt, rfl, hs', ht⟩, rfl⟩
theorem hderived_any (b : Nat) (H : HS) (n : Nat) (hI : InvH H n) (hn : n ≤ 1000) (lq : List Chunk) (hq : IsH b H lq) (a c : slT) (gf : Nat) [EN Try.prog gf] (cs : List Value) (r : CapT → CapT × Int) (hr : ∀ d, CapW d → CapW (r d).1) (X : List Chunk)
    (hf : ∀ d l2, CapW d → (∀ x, x ∈ X → x ∈ l2) → Fn Try.prog gf ([.agg (List.toArray (encC d))] ++ cs) l2 fun v l' => v = .tuple #[.agg (List.toArray (encC (r d).1)), .int .i64 (r d).2] ∧ l' = l2) (G : List Chunk) (hX : ∀ x, x ∈ X → x ∈ G) :
    Fn Try.prog 29 [.pointer (some ⟨b, 0, none⟩), .agg (List.toArray (encT a)), .agg (List.toArray (encT c)), .func (.func gf) #[] (List.toArray cs)] (lq ++ G) fun v l' => v = .int .i64 (derH H a c (r (atD H.1 a))).1 ∧ ∃ lq', IsH b (derH H a c (r (atD H.1 a))).2 lq' ∧ l' = lq' ++ G := by
  refine fn_of_body Try.func29 rfl rfl fun E => ?_
  simp only [argF, Try.ntmps29]
  refine gzU ?_
  (first | refine t_e (e_box1 rfl rfl) rfl rfl rfl ?_ | refine t_e (e_boxA rfl) rfl rfl rfl ?_); rintro _ _ ⟨b5, _, rfl, rfl⟩
  refine gzU ?_
  (first | refine t_e (e_box1 rfl rfl) rfl rfl rfl ?_ | refine t_e (e_boxA rfl) rfl rfl rfl ?_); rintro _ _ ⟨b6, _, rfl, rfl⟩
  refine gzU ?_
  refine t_q (q_call rfl rfl fun l2 hl => hpair_any b H lq hq a c l2 fun c hc => hl c (.tail _ (.tail _ (List.mem_append_left _ hc)))) rfl rfl rfl ?_
  have hret : ∀ (d e : CapT) (B C : Nat), Keep (capC B d :: capC C e :: slC b6 c :: slC b5 a :: (lq ++ G)) (lq ++ G) := fun _ _ _ _ => .drop (.drop (.drop (.drop .refl)))
  by_cases hok : okD H.1 a = false ∨ okD H.1 c = false
  · rw [pair_f hok]
    have e1 : fromE H a c = 3 := by unfold fromE; rw [if_pos hok]
    rw [show derH H a c (r (atD H.1 a)) = (3, H) by unfold derH; rw [if_pos (by rw [e1]; decide), e1]]
    refine gzU ?_
    refine t_e e_alloc rfl rfl rfl ?_; rintro _ _ ⟨b9, _, rfl, rfl⟩
    refine t_e e_alloc rfl rfl rfl ?_; rintro _ _ ⟨b10, _, rfl, rfl⟩
    refine gzU ?_
    exact k_ret [] rfl (hret _ _ _ _) (by exact zRes) ⟨rfl, _, hq, rfl⟩
  obtain ⟨oka, okc⟩ := ok_or hok
  rw [pair_t oka okc, get_t oka, get_t okc]
  refine gzU ?_
  refine t_e e_alloc rfl rfl rfl ?_; rintro _ _ ⟨b9, _, rfl, rfl⟩
  refine t_e e_alloc rfl rfl rfl ?_; rintro _ _ ⟨b10, _, rfl, rfl⟩
  refine gzU ?_
  by_cases hp : (atD H.1 a).kind = 0
  · have e1 : fromE H a c = 10 := by unfold fromE; rw [if_neg hok, if_pos hp]
    rw [show derH H a c (r (atD H.1 a)) = (10, H) by unfold derH; rw [if_pos (by rw [e1]; decide), e1]]
    refine gzU ?_
    exact k_ret [] rfl (hret _ _ _ _) (by exact zRes) ⟨rfl, _, hq, rfl⟩
  by_cases hw : (atD H.1 c).kind ≠ 0
  · have e1 : fromE H a c = 11 := by unfold fromE; rw [if_neg hok, if_neg hp, if_pos hw]
    rw [show derH H a c (r (atD H.1 a)) = (11, H) by unfold derH; rw [if_pos (by rw [e1]; decide), e1]]
    refine gzU ?_
    exact k_ret [] rfl (hret _ _ _ _) (by exact zRes) ⟨rfl, _, hq, rfl⟩
  have e1 : fromE H a c = 0 := by unfold fromE; rw [if_neg hok, if_neg hp, if_neg hw]
  have hwa := (hI.at a).2
  have hwr := hr _ hwa
  refine gzU ?_
  refine t_q (q_callC rfl rfl fun l2 hl => by simpa using hf (atD H.1 a) l2 hwa fun x hx => hl x (.tail _ (.tail _ (.tail _ (.tail _ (List.mem_append_right _ (hX x hx))))))) rfl rfl rfl ?_
  by_cases he : (r (atD H.1 a)).2 ≠ 0
  · rw [show derH H a c (r (atD H.1 a)) = ((r (atD H.1 a)).2, H) by unfold derH; rw [if_neg (by rw [e1]; decide), if_pos he]]
    refine gzU ?_
    refine t_e e_alloc rfl rfl rfl ?_; rintro _ _ ⟨b12, _, rfl, rfl⟩
    refine gzU ?_
    exact k_ret [] rfl (.drop (hret _ _ _ _)) (by exact zRes) ⟨rfl, _, hq, rfl⟩
  have he0 : (r (atD H.1 a)).2 = 0 := by simpa using he
  rw [show derH H a c (r (atD H.1 a)) = childH H a c (r (atD H.1 a)).1 by unfold derH; rw [if_neg (by rw [e1]; decide), if_neg he]]
  rw [he0]
  refine gzU ?_
  refine t_e e_alloc rfl rfl rfl ?_; rintro _ _ ⟨b12, _, rfl, rfl⟩
  refine gzU ?_
  refine t_e (e_call rfl rfl (Fn.mvP (fun A => capC b12 (r (atD H.1 a)).1 :: capC b10 (atD H.1 c) :: capC b9 (atD H.1 a) :: slC b6 c :: slC b5 a :: (A ++ G)) (hchild_any b H n hI hn lq hq a c (r (atD H.1 a)).1 (capC b12 (r (atD H.1 a)).1 :: capC b10 (atD H.1 c) :: capC b9 (atD H.1 a) :: slC b6 c :: slC b5 a :: G)))) rfl rfl rfl ?_
  rintro _ _ ⟨rfl, lq', hq', rfl⟩
  refine gzU ?_
  exact k_ret [] rfl (l' := lq' ++ G) (.drop (.drop (.drop (.drop (.drop .refl))))) (by exact zRes) ⟨rfl, _, hq', rfl⟩
end Go.Proofs.Ytpplknmmjlgadaa

/- hold: Copy, Mint, Move, Swap, Clear. -/
-- GU
set_option linter.unusedVariables false
set_option linter.unusedSimpArgs false
namespace Go.Proofs.Ytpplknmmjlgadaa
open Go.RowKit
set_option maxRecDepth 20000
set_option maxRecDepth 20000

set_option pp.deepTerms false
set_option pp.deepTerms.threshold 4
set_option maxHeartbeats 400000
theorem hcopy1_any (c : CapT) (hw : CapW c) (b1 : Nat) (mask : Int) (l : List Chunk) (hm : inC b1 mask ∈ l) :
    Fn Try.prog 30 ([.agg (List.toArray (encC c))] ++ [.pointer (some ⟨b1, 0, none⟩)]) l fun v l' => v = .tuple #[.agg (List.toArray (encC (copyC c mask).1)), .int .i64 (copyC c mask).2] ∧ l' = l := by
  rw [show [Value.agg (List.toArray (encC c))] ++ [.pointer (some ⟨b1, 0, none⟩)] = [.agg (List.toArray (encC c)), .pointer (some ⟨b1, 0, none⟩)] from rfl]
  refine fn_of_body Try.func30 rfl rfl fun E => ?_
  simp only [argF, Try.ntmps30]
  refine gzU ?_
  (first | refine t_e (e_box1 rfl rfl) rfl rfl rfl ?_ | refine t_e (e_boxA rfl) rfl rfl rfl ?_); rintro _ _ ⟨b2, _, rfl, rfl⟩
  have hm2 : inC b1 mask ∈ capC b2 c :: l := .tail _ hm
  refine gzU ?_
  refine t_e e_alloc rfl rfl rfl ?_; rintro _ _ ⟨b3, _, rfl, rfl⟩
  have hm3 : inC b1 mask ∈ capC b3 capZ :: capC b2 c :: l := .tail _ (.tail _ hm)
  refine gzU ?_
  refine t_q (q_call rfl rfl fun l2 hl => copyderive_any c hw mask l2) rfl rfl rfl ?_
  refine gzU ?_
  exact k_ret2 [] (capC b3 (copyC c mask).1 :: capC b2 c :: l) rfl (l' := l) .refl (by exact zRes) (.drop (.drop .refl)) ⟨rfl, rfl⟩
theorem hmint1_any (c : CapT) (hw : CapW c) (b1 b2 : Nat) (mask : Int) (data : Nat) (hd : data < 18446744073709551616) (l : List Chunk) (hm : inC b1 mask ∈ l) (hm' : u64C b2 data ∈ l) :
    Fn Try.prog 32 ([.agg (List.toArray (encC c))] ++ [.pointer (some ⟨b1, 0, none⟩), .pointer (some ⟨b2, 0, none⟩)]) l fun v l' => v = .tuple #[.agg (List.toArray (encC (mintC c mask data).1)), .int .i64 (mintC c mask data).2] ∧ l' = l := by
  rw [show [Value.agg (List.toArray (encC c))] ++ [.pointer (some ⟨b1, 0, none⟩), .pointer (some ⟨b2, 0, none⟩)] = [.agg (List.toArray (encC c)), .pointer (some ⟨b1, 0, none⟩), .pointer (some ⟨b2, 0, none⟩)] from rfl]
  refine fn_of_body Try.func32 rfl rfl fun E => ?_
  simp only [argF, Try.ntmps32]
  refine gzU ?_
  (first | refine t_e (e_box1 rfl rfl) rfl rfl rfl ?_ | refine t_e (e_boxA rfl) rfl rfl rfl ?_); rintro _ _ ⟨b3, _, rfl, rfl⟩
  refine gzU ?_
  refine t_e e_alloc rfl rfl rfl ?_; rintro _ _ ⟨b4, _, rfl, rfl⟩
  have hm3 : inC b1 mask ∈ capC b4 capZ :: capC b3 c :: l := .tail _ (.tail _ hm)
  have hm4 : u64C b2 data ∈ capC b4 capZ :: capC b3 c :: l := .tail _ (.tail _ hm')
  refine gzU ?_
  refine t_q (q_call rfl rfl fun l2 hl => mint_any c hw mask data hd l2) rfl rfl rfl ?_
  refine gzU ?_
  exact k_ret2 [] (capC b4 (mintC c mask data).1 :: capC b3 c :: l) rfl (l' := l) .refl (by exact zRes) (.drop (.drop .refl)) ⟨rfl, rfl⟩
theorem hcopy_any (b : Nat) (H : HS) (n : Nat) (hI : InvH H n) (hn : n ≤ 1000) (lq : List Chunk) (hq : IsH b H lq) (a c : slT) (mask : Int) (G : List Chunk) :
    Fn Try.prog 9 [.pointer (some ⟨b, 0, none⟩), .agg (List.toArray (encT a)), .agg (List.toArray (encT c)), .int .i64 mask] (lq ++ G) fun v l' => v = .int .i64 (derH H a c (copyC (atD H.1 a) mask)).1 ∧ ∃ lq', IsH b (derH H a c (copyC (atD H.1 a) mask)).2 lq' ∧ l' = lq' ++ G := by
  refine fn_of_body Try.func9 rfl rfl fun E => ?_
  simp only [argF, Try.ntmps9]
  refine gzU ?_
  (first | refine t_e (e_box1 rfl rfl) rfl rfl rfl ?_ | refine t_e (e_boxA rfl) rfl rfl rfl ?_); rintro _ _ ⟨b5, _, rfl, rfl⟩
  refine gzU ?_
  (first | refine t_e (e_box1 rfl rfl) rfl rfl rfl ?_ | refine t_e (e_boxA rfl) rfl rfl rfl ?_); rintro _ _ ⟨b6, _, rfl, rfl⟩
  refine gzU ?_
  (first | refine t_e (e_box1 rfl rfl) rfl rfl rfl ?_ | refine t_e (e_boxA rfl) rfl rfl rfl ?_); rintro _ _ ⟨b7, _, rfl, rfl⟩
  refine gzU ?_
  refine t_e (e_call (vs := [.pointer (some ⟨b, 0, none⟩), .agg (List.toArray (encT a)), .agg (List.toArray (encT c)), .func (.func 30) #[] (List.toArray [.pointer (some ⟨b7, 0, none⟩)])]) rfl rfl (Fn.mvP (fun A => inC b7 mask :: slC b6 c :: slC b5 a :: (A ++ G)) (hderived_any b H n hI hn lq hq a c 30 [.pointer (some ⟨b7, 0, none⟩)] (fun d => copyC d mask) (fun d h => copy_w h mask) [inC b7 mask] (fun d l2 hd hx => hcopy1_any d hd b7 mask l2 (hx _ (.head _))) (inC b7 mask :: slC b6 c :: slC b5 a :: G) (sing_mem (.head _))))) rfl rfl rfl ?_
  rintro _ _ ⟨rfl, lq', hq', rfl⟩
  refine gzU ?_
  exact k_ret [] rfl (l' := lq' ++ G) (.drop (.drop (.drop .refl))) (by exact zRes) ⟨rfl, _, hq', rfl⟩
theorem hmint_any (b : Nat) (H : HS) (n : Nat) (hI : InvH H n) (hn : n ≤ 1000) (lq : List Chunk) (hq : IsH b H lq) (a c : slT) (mask : Int) (data : Nat) (hd : data < 18446744073709551616) (G : List Chunk) :
    Fn Try.prog 10 [.pointer (some ⟨b, 0, none⟩), .agg (List.toArray (encT a)), .agg (List.toArray (encT c)), .int .i64 mask, .int .u64 (data : Nat)] (lq ++ G) fun v l' => v = .int .i64 (derH H a c (mintC (atD H.1 a) mask data)).1 ∧ ∃ lq', IsH b (derH H a c (mintC (atD H.1 a) mask data)).2 lq' ∧ l' = lq' ++ G := by
  refine fn_of_body Try.func10 rfl rfl fun E => ?_
  simp only [argF, Try.ntmps10]
  refine gzU ?_
  (first | refine t_e (e_box1 rfl rfl) rfl rfl rfl ?_ | refine t_e (e_boxA rfl) rfl rfl rfl ?_); rintro _ _ ⟨b5, _, rfl, rfl⟩
  refine gzU ?_
  (first | refine t_e (e_box1 rfl rfl) rfl rfl rfl ?_ | refine t_e (e_boxA rfl) rfl rfl rfl ?_); rintro _ _ ⟨b6, _, rfl, rfl⟩
  refine gzU ?_
  (first | refine t_e (e_box1 rfl rfl) rfl rfl rfl ?_ | refine t_e (e_boxA rfl) rfl rfl rfl ?_); rintro _ _ ⟨b7, _, rfl, rfl⟩
  refine gzU ?_
  (first | refine t_e (e_box1 rfl rfl) rfl rfl rfl ?_ | refine t_e (e_boxA rfl) rfl rfl rfl ?_); rintro _ _ ⟨b8, _, rfl, rfl⟩
  refine gzU ?_
  refine t_e (e_call (vs := [.pointer (some ⟨b, 0, none⟩), .agg (List.toArray (encT a)), .agg (List.toArray (encT c)), .func (.func 32) #[] (List.toArray [.pointer (some ⟨b7, 0, none⟩), .pointer (some ⟨b8, 0, none⟩)])]) rfl rfl (Fn.mvP (fun A => u64C b8 data :: inC b7 mask :: slC b6 c :: slC b5 a :: (A ++ G)) (hderived_any b H n hI hn lq hq a c 32 [.pointer (some ⟨b7, 0, none⟩), .pointer (some ⟨b8, 0, none⟩)] (fun d => mintC d mask data) (fun d h => mint_w h mask data) [inC b7 mask, u64C b8 data] (fun d l2 hd2 hx => hmint1_any d hd2 b7 b8 mask data hd l2 (hx _ (.head _)) (hx _ (.tail _ (.head _)))) (u64C b8 data :: inC b7 mask :: slC b6 c :: slC b5 a :: G) (fun x hx => by
    rcases List.mem_cons.1 hx with rfl | hx
    · exact .tail _ (.head _)
    · rw [List.mem_singleton.1 hx]; exact .head _)))) rfl rfl rfl ?_
  rintro _ _ ⟨rfl, lq', hq', rfl⟩
  refine gzU ?_
  exact k_ret [] rfl (l' := lq' ++ G) (.drop (.drop (.drop (.drop .refl)))) (by exact zRes) ⟨rfl, _, hq', rfl⟩
theorem hmove_any (b : Nat) (H : HS) (n : Nat) (hI : InvH H n) (lq : List Chunk) (hq : IsH b H lq) (a c : slT) (G : List Chunk) :
    Fn Try.prog 11 [.pointer (some ⟨b, 0, none⟩), .agg (List.toArray (encT a)), .agg (List.toArray (encT c))] (lq ++ G) fun v l' => v = .int .i64 (moveH H a c).1 ∧ ∃ lq', IsH b (moveH H a c).2 lq' ∧ l' = lq' ++ G := by
  refine fn_of_body Try.func11 rfl rfl fun E => ?_
  simp only [argF, Try.ntmps11]
  refine gzU ?_
  (first | refine t_e (e_box1 rfl rfl) rfl rfl rfl ?_ | refine t_e (e_boxA rfl) rfl rfl rfl ?_); rintro _ _ ⟨b5, _, rfl, rfl⟩
  refine gzU ?_
  (first | refine t_e (e_box1 rfl rfl) rfl rfl rfl ?_ | refine t_e (e_boxA rfl) rfl rfl rfl ?_); rintro _ _ ⟨b6, _, rfl, rfl⟩
  refine gzU ?_
  refine t_q (q_call rfl rfl fun l2 hl => hpair_any b H lq hq a c l2 fun c hc => hl c (.tail _ (.tail _ (List.mem_append_left _ hc)))) rfl rfl rfl ?_
  have hret : ∀ (d e : CapT) (B C : Nat), Keep (capC B d :: capC C e :: slC b6 c :: slC b5 a :: (lq ++ G)) (lq ++ G) := fun _ _ _ _ => .drop (.drop (.drop (.drop .refl)))
  by_cases hok : okD H.1 a = false ∨ okD H.1 c = false
  · rw [pair_f hok]
    have e1 : fromE H a c = 3 := by unfold fromE; rw [if_pos hok]
    rw [show moveH H a c = (3, H) by unfold moveH; rw [if_pos (by rw [e1]; decide), e1]]
    refine gzU ?_
    refine t_e e_alloc rfl rfl rfl ?_; rintro _ _ ⟨b9, _, rfl, rfl⟩
    refine t_e e_alloc rfl rfl rfl ?_; rintro _ _ ⟨b10, _, rfl, rfl⟩
    refine gzU ?_
    exact k_ret [] rfl (hret _ _ _ _) (by exact zRes) ⟨rfl, _, hq, rfl⟩
  obtain ⟨oka, okc⟩ := ok_or hok
  rw [pair_t oka okc, get_t oka, get_t okc]
  refine gzU ?_
  refine t_e e_alloc rfl rfl rfl ?_; rintro _ _ ⟨b9, _, rfl, rfl⟩
  refine t_e e_alloc rfl rfl rfl ?_; rintro _ _ ⟨b10, _, rfl, rfl⟩
  refine gzU ?_
  by_cases hp : (atD H.1 a).kind = 0
  · have e1 : fromE H a c = 10 := by unfold fromE; rw [if_neg hok, if_pos hp]
    rw [show moveH H a c = (10, H) by unfold moveH; rw [if_pos (by rw [e1]; decide), e1]]
    refine gzU ?_
    exact k_ret [] rfl (hret _ _ _ _) (by exact zRes) ⟨rfl, _, hq, rfl⟩
  by_cases hw : (atD H.1 c).kind ≠ 0
  · have e1 : fromE H a c = 11 := by unfold fromE; rw [if_neg hok, if_neg hp, if_pos hw]
    rw [show moveH H a c = (11, H) by unfold moveH; rw [if_pos (by rw [e1]; decide), e1]]
    refine gzU ?_
    exact k_ret [] rfl (hret _ _ _ _) (by exact zRes) ⟨rfl, _, hq, rfl⟩
  have e1 : fromE H a c = 0 := by unfold fromE; rw [if_neg hok, if_neg hp, if_neg hw]
  rw [show moveH H a c = (0, (putD (putD H.1 a capZ) c (atD H.1 a), (Tr.moveD H.2 a c).2)) by unfold moveH; rw [if_neg (by rw [e1]; decide)]]
  obtain ⟨bs, bt, ls, lt, rfl, hs, ht⟩ := hq
  have hr0 := (has_move (t := c) hI.tree ((hI.link a).2 ⟨oka, hp⟩) (hI.no (by simpa using hw))).1
  obtain ⟨X, hX⟩ : ∃ X, X = [capC b10 (atD H.1 c), capC b9 (atD H.1 a), slC b6 c, slC b5 a, hoC b bs bt] := ⟨_, rfl⟩
  have H1 := Fn.mvP (fun A => X ++ (A ++ (lt ++ G))) (set_any bs H.1 ls hs a capZ (X ++ (lt ++ G)))
  have H2 := fun ls (hs : IsS bs (putD H.1 a capZ) ls) => Fn.mvP (fun A => X ++ (A ++ (lt ++ G))) (set_any bs _ ls hs c (atD H.1 a) (X ++ (lt ++ G)))
  have H3 := fun ls => Fn.mvP (fun A => X ++ (ls ++ (A ++ G))) (Tr.move_any bt H.2 lt ht a c (X ++ (ls ++ G)))
  rw [set_ok oka capZ_ok.1] at H1
  rw [set_ok (by rw [ok_put]; exact okc) (hI.at a).1] at H2
  rw [hr0] at H3
  rw [hX] at H1 H2 H3
  simp only [List.cons_append, List.append_assoc, List.nil_append] at H1 H2 H3 ⊢
  refine gzU ?_
  refine c_draw [(0, true), (1, true), (2, true), (3, true), (4, true), (5, true), (6, false)] [[], [0], [0, 1], [0, 1, 2], [], [], [0, 1, 2, 3, 4, 5]] ([slC b5 a, hoC b bs bt]) (by kernel_rfl) (by kernel_rfl) zAtt zHR ?_
  refine pzU ?_
  apply pl_e
  · exact e_call rfl rfl H1
  · rfl
  · rfl
  · rfl
  · rintro _ _ ⟨_, ls', _, rfl⟩
    exact zHR
  rintro _ _ ⟨rfl, ls', hs', rfl⟩
  refine pzU ?_
  refine gzU ?_
  refine c_draw [(0, true), (1, true), (2, true), (3, true), (4, true), (5, true), (6, false)] [[], [0], [0, 1], [0, 1, 2], [], [], [0, 1, 2, 3, 4, 5]] ([capC b9 (atD H.1 a), slC b6 c, hoC b bs bt]) (by kernel_rfl) (by kernel_rfl) zAtt zHR ?_
  refine pzU ?_
  apply pl_e
  · exact e_call rfl rfl (H2 ls' hs')
  · rfl
  · rfl
  · rfl
  · rintro _ _ ⟨_, ls2, _, rfl⟩
    exact zHR
  rintro _ _ ⟨rfl, ls2, hs2, rfl⟩
  refine pzU ?_
  refine gzU ?_
  refine c_draw [(0, true), (1, true), (2, true), (3, true), (4, true), (5, true), (6, false), (7, true)] [[], [0], [0, 1], [0, 1, 2], [], [], [0, 1, 2, 3, 4, 5], [0, 1, 2, 3, 4, 5, 6]] ([slC b6 c, slC b5 a, hoC b bs bt]) (by kernel_rfl) (by kernel_rfl) zAtt zHR ?_
  refine pzU ?_
  apply pl_e
  · exact e_call rfl rfl (H3 ls2)
  · rfl
  · rfl
  · rfl
  · rintro _ _ ⟨_, lt', _, rfl⟩
    exact zHR
  rintro _ _ ⟨rfl, lt', ht', rfl⟩
  refine pzU ?_
  refine gzU ?_
  exact k_ret [] rfl (l' := (hoC b bs bt :: (ls2 ++ lt')) ++ G) (.drop (.drop (.drop (.drop (.of_perm (.of_eq (by simp))))))) (by exact zRes) ⟨rfl, _, ⟨bs, bt, ls2, lt', rfl, hs2, ht'⟩, rfl⟩
theorem hswap_any (b : Nat) (H : HS) (n : Nat) (hI : InvH H n) (lq : List Chunk) (hq : IsH b H lq) (a c : slT) (G : List Chunk) :
    Fn Try.prog 12 [.pointer (some ⟨b, 0, none⟩), .agg (List.toArray (encT a)), .agg (List.toArray (encT c))] (lq ++ G) fun v l' => v = .int .i64 (swapH H a c).1 ∧ ∃ lq', IsH b (swapH H a c).2 lq' ∧ l' = lq' ++ G := by
  refine fn_of_body Try.func12 rfl rfl fun E => ?_
  simp only [argF, Try.ntmps12]
  refine gzU ?_
  (first | refine t_e (e_box1 rfl rfl) rfl rfl rfl ?_ | refine t_e (e_boxA rfl) rfl rfl rfl ?_); rintro _ _ ⟨b5, _, rfl, rfl⟩
  refine gzU ?_
  (first | refine t_e (e_box1 rfl rfl) rfl rfl rfl ?_ | refine t_e (e_boxA rfl) rfl rfl rfl ?_); rintro _ _ ⟨b6, _, rfl, rfl⟩
  refine gzU ?_
  refine t_q (q_call rfl rfl fun l2 hl => hpair_any b H lq hq a c l2 fun c hc => hl c (.tail _ (.tail _ (List.mem_append_left _ hc)))) rfl rfl rfl ?_
  have hret : ∀ (d e : CapT) (B C : Nat), Keep (capC B d :: capC C e :: slC b6 c :: slC b5 a :: (lq ++ G)) (lq ++ G) := fun _ _ _ _ => .drop (.drop (.drop (.drop .refl)))
  by_cases hok : okD H.1 a = false ∨ okD H.1 c = false
  · rw [pair_f hok, show swapH H a c = (3, H) by unfold swapH; rw [if_pos hok]]
    refine gzU ?_
    refine t_e e_alloc rfl rfl rfl ?_; rintro _ _ ⟨b9, _, rfl, rfl⟩
    refine t_e e_alloc rfl rfl rfl ?_; rintro _ _ ⟨b10, _, rfl, rfl⟩
    refine gzU ?_
    exact k_ret [] rfl (hret _ _ _ _) (by exact zRes) ⟨rfl, _, hq, rfl⟩
  obtain ⟨oka, okc⟩ := ok_or hok
  rw [pair_t oka okc, get_t oka, get_t okc, show swapH H a c = (0, (putD (putD H.1 a (atD H.1 c)) c (atD H.1 a), Tr.swapD H.2 a c)) by unfold swapH; rw [if_neg hok]]
  refine gzU ?_
  refine t_e e_alloc rfl rfl rfl ?_; rintro _ _ ⟨b9, _, rfl, rfl⟩
  refine t_e e_alloc rfl rfl rfl ?_; rintro _ _ ⟨b10, _, rfl, rfl⟩
  refine gzU ?_
  obtain ⟨bs, bt, ls, lt, rfl, hs, ht⟩ := hq
  obtain ⟨X, hX⟩ : ∃ X, X = [capC b10 (atD H.1 c), capC b9 (atD H.1 a), slC b6 c, slC b5 a, hoC b bs bt] := ⟨_, rfl⟩
  have H1 := Fn.mvP (fun A => X ++ (A ++ (lt ++ G))) (set_any bs H.1 ls hs a (atD H.1 c) (X ++ (lt ++ G)))
  have H2 := fun ls (hs : IsS bs (putD H.1 a (atD H.1 c)) ls) => Fn.mvP (fun A => X ++ (A ++ (lt ++ G))) (set_any bs _ ls hs c (atD H.1 a) (X ++ (lt ++ G)))
  have H3 := fun ls => Fn.mvP (fun A => X ++ (ls ++ (A ++ G))) (Tr.swap_any bt H.2 lt ht a c (X ++ (ls ++ G)))
  rw [set_ok oka (hI.at c).1] at H1
  rw [set_ok (by rw [ok_put]; exact okc) (hI.at a).1] at H2
  rw [hX] at H1 H2 H3
  simp only [List.cons_append, List.append_assoc, List.nil_append] at H1 H2 H3 ⊢
  refine gzU ?_
  refine c_draw [(0, true), (1, true), (2, true), (3, true), (4, true), (5, true), (6, false)] [[], [0], [0, 1], [0, 1, 2], [], [], [0, 1, 2, 3, 4, 5]] ([capC b10 (atD H.1 c), slC b5 a, hoC b bs bt]) (by kernel_rfl) (by kernel_rfl) zAtt zHR ?_
  refine pzU ?_
  apply pl_e
  · exact e_call rfl rfl H1
  · rfl
  · rfl
  · rfl
  · rintro _ _ ⟨_, ls', _, rfl⟩
    exact zHR
  rintro _ _ ⟨rfl, ls', hs', rfl⟩
  refine pzU ?_
  refine gzU ?_
  refine c_draw [(0, true), (1, true), (2, true), (3, true), (4, true), (5, true), (6, false)] [[], [0], [0, 1], [0, 1, 2], [], [], [0, 1, 2, 3, 4, 5]] ([capC b9 (atD H.1 a), slC b6 c, hoC b bs bt]) (by kernel_rfl) (by kernel_rfl) zAtt zHR ?_
  refine pzU ?_
  apply pl_e
  · exact e_call rfl rfl (H2 ls' hs')
  · rfl
  · rfl
  · rfl
  · rintro _ _ ⟨_, ls2, _, rfl⟩
    exact zHR
  rintro _ _ ⟨rfl, ls2, hs2, rfl⟩
  refine pzU ?_
  refine gzU ?_
  refine c_draw [(0, true), (1, true), (2, true), (3, true), (4, true), (5, true), (6, false), (7, true)] [[], [0], [0, 1], [0, 1, 2], [], [], [0, 1, 2, 3, 4, 5], [0, 1, 2, 3, 4, 5, 6]] ([slC b6 c, slC b5 a, hoC b bs bt]) (by kernel_rfl) (by kernel_rfl) zAtt zHR ?_
  refine pzU ?_
  apply pl_e
  · exact e_call rfl rfl (H3 ls2)
  · rfl
  · rfl
  · rfl
  · rintro _ _ ⟨_, lt', _, rfl⟩
    exact zHR
  rintro _ _ ⟨rfl, lt', ht', rfl⟩
  refine pzU ?_
  refine gzU ?_
  exact k_ret [] rfl (l' := (hoC b bs bt :: (ls2 ++ lt')) ++ G) (.drop (.drop (.drop (.drop (.of_perm (.of_eq (by simp))))))) (by exact zRes) ⟨rfl, _, ⟨bs, bt, ls2, lt', rfl, hs2, ht'⟩, rfl⟩
theorem hclear_any (b : Nat) (H : HS) (n : Nat) (hI : InvH H n) (hn : n ≤ 1000) (lq : List Chunk) (hq : IsH b H lq) (s : slT) (G : List Chunk) :
    Fn Try.prog 5 [.pointer (some ⟨b, 0, none⟩), .agg (List.toArray (encT s))] (lq ++ G) fun v l' => v = .tuple #[.agg (List.toArray (encC (clearH H s).1.1)), .int .i64 (clearH H s).1.2] ∧ ∃ lq', IsH b (clearH H s).2 lq' ∧ l' = lq' ++ G := by
  refine fn_of_body Try.func5 rfl rfl fun E => ?_
  simp only [argF, Try.ntmps5]
  refine gzU ?_
  (first | refine t_e (e_box1 rfl rfl) rfl rfl rfl ?_ | refine t_e (e_boxA rfl) rfl rfl rfl ?_); rintro _ _ ⟨b3, _, rfl, rfl⟩
  refine gzU ?_
  refine t_e e_alloc rfl rfl rfl ?_; rintro _ _ ⟨b4, _, rfl, rfl⟩
  refine gzU ?_
  refine t_q (q_call rfl rfl fun l2 hl => hget_any b H lq hq s l2 fun c hc => hl c (.tail _ (.tail _ (List.mem_append_left _ hc)))) rfl rfl rfl ?_
  have hK : ∀ (d2 c6 : CapT) (B : Nat), Keep (capC B d2 :: capC b4 c6 :: slC b3 s :: (lq ++ G)) (capC b4 c6 :: (lq ++ G)) := fun _ _ _ => .drop (.pick .here (.drop .refl))
  cases hok : okD H.1 s with
  | false =>
    rw [get_f hok, show clearH H s = ((capZ, 3), H) by unfold clearH; rw [if_pos hok]]
    refine gzU ?_
    refine t_e e_alloc rfl rfl rfl ?_; rintro _ _ ⟨b6, _, rfl, rfl⟩
    refine gzU ?_
    exact k_ret2 [] (capC b4 capZ :: (lq ++ G)) rfl (l' := lq ++ G) (hK capZ capZ b6) (by exact zRes) (.drop .refl) ⟨rfl, _, hq, rfl⟩
  | true =>
  rw [get_t hok]
  refine gzU ?_
  refine t_e e_alloc rfl rfl rfl ?_; rintro _ _ ⟨b6, _, rfl, rfl⟩
  refine gzU ?_
  by_cases hw : (atD H.1 s).kind = 0
  · rw [show clearH H s = ((capZ, 10), H) by unfold clearH; rw [if_neg (by rw [hok]; decide), if_pos hw]]
    refine gzU ?_
    exact k_ret2 [] (capC b4 capZ :: (lq ++ G)) rfl (l' := lq ++ G) (hK (atD H.1 s) capZ b6) (by exact zRes) (.drop .refl) ⟨rfl, _, hq, rfl⟩
  rw [show clearH H s = ((atD H.1 s, 0), (putD H.1 s capZ, (Tr.removeD H.2 s).2)) by unfold clearH; rw [if_neg (by rw [hok]; decide), if_neg hw]]
  obtain ⟨bs, bt, ls, lt, rfl, hs, ht⟩ := hq
  obtain ⟨X, hX⟩ : ∃ X, X = [capC b6 (atD H.1 s), capC b4 capZ, slC b3 s, hoC b bs bt] := ⟨_, rfl⟩
  have H1 := Fn.mvP (fun A => X ++ (A ++ (lt ++ G))) (set_any bs H.1 ls hs s capZ (X ++ (lt ++ G)))
  have H2 := fun ls => Fn.mvP (fun A => X ++ (ls ++ (A ++ G))) (Tr.remove_any bt H.2 lt ht (hI.small hn).2.2 s (X ++ (ls ++ G)))
  rw [set_ok hok capZ_ok.1] at H1
  rw [hX] at H1 H2
  simp only [List.cons_append, List.append_assoc, List.nil_append] at H1 H2 ⊢
  refine gzU ?_
  refine c_draw [(0, true), (1, true), (2, true), (3, true), (4, true), (5, true), (6, false)] [[], [0], [0, 1], [0, 1, 2], [], [], [0, 1, 2, 3, 4, 5]] ([slC b3 s, hoC b bs bt]) (by kernel_rfl) (by kernel_rfl) zAtt zHR ?_
  refine pzU ?_
  apply pl_e
  · exact e_call rfl rfl H1
  · rfl
  · rfl
  · rfl
  · rintro _ _ ⟨_, ls', _, rfl⟩
    exact zHR
  rintro _ _ ⟨rfl, ls', hs', rfl⟩
  refine pzU ?_
  refine gzU ?_
  refine c_draw [(0, true), (1, true), (2, true), (3, true), (4, true), (5, false)] [[], [0], [0, 1], [0, 1, 2], [], [0, 1, 2, 3, 4]] ([slC b3 s, hoC b bs bt]) (by kernel_rfl) (by kernel_rfl) zAtt zHR ?_
  refine pzU ?_
  apply pl_e
  · exact e_call rfl rfl (H2 ls')
  · rfl
  · rfl
  · rfl
  · rintro _ _ ⟨_, lt', _, rfl⟩
    exact zHR
  rintro _ _ ⟨rfl, lt', ht', rfl⟩
  refine pzU ?_
  refine gzU ?_
  exact k_ret2 [] (capC b4 (atD H.1 s) :: ((hoC b bs bt :: (ls' ++ lt')) ++ G)) rfl (l' := (hoC b bs bt :: (ls' ++ lt')) ++ G) (.drop (.pick .here (.drop (.of_perm (.of_eq (by simp)))))) (by exact zRes) (.drop .refl) ⟨rfl, _, ⟨bs, bt, ls', lt', rfl, hs', ht'⟩, rfl⟩
end Go.Proofs.Ytpplknmmjlgadaa

/- hold: those alike, Final. -/
-- GU
set_option linter.unusedVariables false
set_option linter.unusedSimpArgs false
namespace Go.Proofs.Ytpplknmmjlgadaa
open Go.RowKit
set_option maxRecDepth 20000
set_option maxRecDepth 20000

abbrev hpC (B b : Nat) : Chunk := (B, .cells #[.pointer (some ⟨b, 0, none⟩)] 29 (0, 0))
def likeP (s : slT) (c : CapT) (x : HdT) : Bool := !decide (x.1 = s) && alikeB x.2 c
def likes (D : SD) (s : slT) (c : CapT) (i : Nat) : List slT := (((usedD D).take i).filter (likeP s c)).map Prod.fst
theorem likes_snoc {D : SD} {s : slT} {c : CapT} {i : Nat} {x : HdT} (h : (usedD D)[i]? = some x) : likes D s c (i + 1) = if likeP s c x = true then likes D s c i ++ [x.1] else likes D s c i := by
  unfold likes
  rw [List.take_add_one, h, Option.toList_some, List.filter_append, List.map_append]
  by_cases hp : likeP s c x = true
  · rw [if_pos hp, List.filter_cons_of_pos (by exact hp)]; rfl
  · rw [if_neg hp, List.filter_cons_of_neg (by exact hp)]; simp
theorem likes_pre (D : SD) (s : slT) (c : CapT) (i : Nat) : likes D s c i <+: likes D s c (usedD D).length := by
  unfold likes
  rw [List.take_length]
  exact ((List.take_prefix i _).filter _).map _
theorem OwnSl.hds' {v : Value} {L : List HdT} {cs l : List Chunk} (h : OwnSl 93 10 v L.length (hcs L) cs) (hs : ∀ c, c ∈ cs → c ∈ l) : RowSl l v 10 encE L := OwnSl.rowSl (enc := encE) h (fun _ => rfl) hs
set_option pp.deepTerms false
set_option pp.deepTerms.threshold 4
set_option maxHeartbeats 400000
theorem halike_any (b : Nat) (s : slT) (c : CapT) (l : List Chunk) :
    Fn Try.prog 38 [.pointer (some ⟨b, 0, none⟩), .agg (List.toArray (encT s)), .agg (List.toArray (encC c))] l fun v l' =>
      ∃ B1 B2 B3, v = .func (.func 53) #[] #[.pointer (some ⟨B1, 0, none⟩), .pointer (some ⟨B2, 0, none⟩), .pointer (some ⟨B3, 0, none⟩)] ∧ l' = capC B3 c :: slC B2 s :: hpC B1 b :: l := by
  refine fn_of_body Try.func38 rfl rfl fun E => ?_
  simp only [argF, Try.ntmps38]
  refine gzU ?_
  (first | refine t_e (e_box1 rfl rfl) rfl rfl rfl ?_ | refine t_e (e_boxA rfl) rfl rfl rfl ?_); rintro _ _ ⟨b1, _, rfl, rfl⟩
  refine gzU ?_
  (first | refine t_e (e_box1 rfl rfl) rfl rfl rfl ?_ | refine t_e (e_boxA rfl) rfl rfl rfl ?_); rintro _ _ ⟨b2, _, rfl, rfl⟩
  refine gzU ?_
  (first | refine t_e (e_box1 rfl rfl) rfl rfl rfl ?_ | refine t_e (e_boxA rfl) rfl rfl rfl ?_); rintro _ _ ⟨b3, _, rfl, rfl⟩
  refine gzU ?_
  exact k_ret [] rfl .refl (by exact zRes) ⟨_, _, _, rfl, rfl⟩
theorem alike_iter (B1 B2 B3 b : Nat) (H : HS) (n : Nat) (hI : InvH H n) (hn : n ≤ 1000) (lq : List Chunk) (hq : IsH b H lq) (s : slT) (c : CapT) (hul : (usedD H.1).length ≤ 900000) :
    IterS Try.prog 53 [.pointer (some ⟨B1, 0, none⟩), .pointer (some ⟨B2, 0, none⟩), .pointer (some ⟨B3, 0, none⟩)] (fun y : slT => [.agg (List.toArray (encT y))]) (fun xs => xs = likes H.1 s c (usedD H.1).length) (fun pre => pre <+: likes H.1 s c (usedD H.1).length)
      (fun _ l => (∀ x, x ∈ [hpC B1 b, slC B2 s, capC B3 c] → x ∈ l) ∧ (∀ c, c ∈ lq → c ∈ l)) := by
  refine ⟨fun r I Ix G0 hneed hY l G hG h0 => ?_⟩
  obtain ⟨n1, n2⟩ := hneed _ _ G hG h0
  have m1 := n1 (hpC B1 b) (by simp)
  refine fn_of_body Try.func53 rfl rfl fun E => ?_
  simp only [argF, Try.ntmps53]
  refine gzU ?_
  refine t_e (e_call0 rfl rfl (hused_any b H lq hq (hI.small hn).1 _ n2)) rfl rfl rfl ?_
  rintro v _ ⟨cs, ho, rfl⟩
  obtain ⟨U, hU⟩ : ∃ U, usedD H.1 = U := ⟨_, rfl⟩
  have hlk := @likes_snoc H.1 s c
  have hlp := likes_pre H.1 s c
  rw [hU] at ho hul hlk hlp hY ⊢
  have hR := fun (l2 : List Chunk) (h : ∀ c, c ∈ cs → c ∈ l2) => ho.hds' h
  obtain ⟨p, cap, rfl⟩ := ho.shape
  refine gzU ?_
  refine k_loop (α := Nat × List Chunk) (fun x => [(0, .func (.yield r) #[] #[]), (2, .pointer (some ⟨B2, 0, none⟩)), (3, .pointer (some ⟨B3, 0, none⟩)), (8, .slice p U.length cap), (9, .int .i64 U.length), (10, .int .i64 x.1)]) (fun x => x.2 ++ (cs ++ G)) (fun x => x.1 ≤ U.length ∧ I (likes H.1 s c x.1) x.2) (fun x => U.length - x.1) (0, l) ⟨Nat.zero_le _, h0⟩ ⟨rfl, rfl, rfl, rfl, rfl, rfl, trivial⟩ (Keep.in_mid cs l G) ?_
  clear n1 n2 m1 h0
  rintro ⟨i, l⟩ ⟨hi, hI'⟩
  simp only at hi hI' ⊢
  by_cases hlt : i < U.length
  case neg =>
    obtain rfl : i = U.length := by omega
    refine gzU ?_
    exact k_ret [] rfl (l' := l ++ G) (keep_ac cs) (by exact zRes) ⟨l, rfl, .inl ⟨_, rfl, hI'⟩⟩
  obtain ⟨x, hx⟩ : ∃ x, U[i]? = some x := ⟨_, List.getElem?_eq_getElem hlt⟩
  have hsn := hlk hx
  obtain ⟨a0, cp, hv, hrow⟩ := hR (l ++ (cs ++ G)) (fun c hc => List.mem_append_right _ (List.mem_append_left _ hc))
  obtain ⟨gb, off, xs, ty, fz, rfl, hm, hc⟩ := hrow (by omega)
  obtain ⟨g1, g2⟩ := hc i x hx
  cases hv
  obtain ⟨n1, n2⟩ := hneed (likes H.1 s c i) l (cs ++ G) (fun c hc => List.mem_append_right _ (hG c hc)) hI'
  refine gzU ?_
  refine t_q (q_loadA rfl hm g1 g2) rfl rfl rfl ?_
  refine gzU ?_
  refine t_e e_alloc rfl rfl rfl ?_; rintro _ _ ⟨b6, _, rfl, rfl⟩
  have m2 : slC B2 s ∈ l ++ (cs ++ G) := n1 _ (by simp)
  have m3 : capC B3 c ∈ l ++ (cs ++ G) := n1 _ (by simp)
  refine gzU ?_
  refine t_q (q_eqagg rfl rfl (encT_k x.1) (encT_k s)) rfl rfl rfl ?_
  by_cases hxs : x.1 = s
  · rw [hxs, eqCells_self (encT_k s)]
    rw [if_neg (by unfold likeP; rw [decide_eq_true hxs]; simp)] at hsn
    refine gzU ?_
    exact k_next (i + 1, l) ⟨by simp only; omega, by rw [hsn]; exact hI'⟩ (by simp only; omega) ⟨rfl, rfl, rfl, rfl, rfl, rfl, trivial⟩ (.drop .refl)
  rw [eqT_f hxs]
  refine gzU ?_
  refine t_h (q_call rfl rfl fun l2 hl => alike_any x.2 c l2) rfl rfl rfl ?_
  cases ha : alikeB x.2 c with
  | false =>
    rw [if_neg (by unfold likeP; rw [ha]; simp)] at hsn
    refine gzU ?_
    exact k_next (i + 1, l) ⟨by simp only; omega, by rw [hsn]; exact hI'⟩ (by simp only; omega) ⟨rfl, rfl, rfl, rfl, rfl, rfl, trivial⟩ (.drop .refl)
  | true =>
  rw [if_pos (by unfold likeP; rw [ha, decide_eq_false hxs]; rfl)] at hsn
  have hp := hlp (i + 1)
  rw [hsn] at hp
  have hy := hY (likes H.1 s c i) x.1 l (hdC b6 x :: (cs ++ G)) (fun c hc => .tail _ (List.mem_append_right _ (hG c hc))) hI' hp
  refine gzU ?_
  refine s_keep (Keep.in_mid [hdC b6 x] l (cs ++ G)) ?_
  refine t_eh (e_yield rfl rfl hy) rfl rfl rfl ?_
  rintro w l' ⟨l1, rfl, ⟨rfl, hI2⟩ | ⟨rfl, hx2⟩⟩
  · refine gzU ?_
    exact k_next (i + 1, l1) ⟨by simp only; omega, by rw [hsn]; exact hI2⟩ (by simp only; omega) ⟨rfl, rfl, rfl, rfl, rfl, rfl, trivial⟩ (keep_ac [hdC b6 x])
  · refine gzU ?_
    exact k_ret [] rfl (l' := l1 ++ G) (keep_ac (hdC b6 x :: cs)) (by exact zRes) ⟨l1, rfl, .inr ⟨_, hp, hx2⟩⟩
theorem final_nil {H : HS} {s : slT} (h1 : okD H.1 s = true) (h2 : (atD H.1 s).kind ≠ 0) : finalH H s = decide (likes H.1 s (atD H.1 s) (usedD H.1).length = []) := by
  unfold finalH likes
  rw [Bool.eq_iff_iff, decide_eq_true_iff, h1, decide_eq_false h2, List.take_length, List.map_eq_nil_iff, List.filter_eq_nil_iff]
  simp only [Bool.not_false, Bool.true_and, Bool.and_true, List.all_eq_true]
  constructor
  · intro h x hx hl
    have := h x hx
    unfold likeP at hl
    cases hd : decide (x.1 = s) <;> cases ha : alikeB x.2 (atD H.1 s) <;> simp_all
  · intro h x hx
    have := h x hx
    unfold likeP at this
    cases hd : decide (x.1 = s) <;> cases ha : alikeB x.2 (atD H.1 s) <;> simp_all
theorem hfinal_any (b : Nat) (H : HS) (n : Nat) (hI : InvH H n) (hn : n ≤ 1000) (lq : List Chunk) (hq : IsH b H lq) (s : slT) (hul : (usedD H.1).length ≤ 900000) (l : List Chunk) (hsub : ∀ c, c ∈ lq → c ∈ l) :
    Fn Try.prog 15 [.pointer (some ⟨b, 0, none⟩), .agg (List.toArray (encT s))] l fun v l' => v = .bool (finalH H s) ∧ l' = l := by
  refine fn_of_body Try.func15 rfl rfl fun E => ?_
  simp only [argF, Try.ntmps15]
  refine gzU ?_
  (first | refine t_e (e_box1 rfl rfl) rfl rfl rfl ?_ | refine t_e (e_boxA rfl) rfl rfl rfl ?_); rintro _ _ ⟨b3, _, rfl, rfl⟩
  refine gzU ?_
  refine t_e e_alloc rfl rfl rfl ?_; rintro _ _ ⟨b4, _, rfl, rfl⟩
  refine gzU ?_
  refine t_q (q_call rfl rfl fun l2 hl => hget_any b H lq hq s l2 fun c hc => hl c (.tail _ (.tail _ (hsub c hc)))) rfl rfl rfl ?_
  cases hok : okD H.1 s with
  | false =>
    rw [get_f hok, show finalH H s = false by unfold finalH; rw [hok]; rfl]
    refine gzU ?_
    refine t_e e_alloc rfl rfl rfl ?_; rintro _ _ ⟨b5, _, rfl, rfl⟩
    refine gzU ?_
    exact k_ret2 [] ((b4, .cells (List.toArray [.bool false]) 4 (0, 0)) :: l) rfl (l' := l) (.drop (.pick .here (.drop .refl))) (by exact zRes) (.drop .refl) ⟨rfl, rfl⟩
  | true =>
  rw [get_t hok]
  refine gzU ?_
  refine t_e e_alloc rfl rfl rfl ?_; rintro _ _ ⟨b5, _, rfl, rfl⟩
  refine gzU ?_
  by_cases hw : (atD H.1 s).kind = 0
  · rw [show finalH H s = false by unfold finalH; rw [decide_eq_true hw]; simp]
    refine gzU ?_
    exact k_ret2 [] ((b4, .cells (List.toArray [.bool false]) 4 (0, 0)) :: l) rfl (l' := l) (.drop (.pick .here (.drop .refl))) (by exact zRes) (.drop .refl) ⟨rfl, rfl⟩
  rw [final_nil hok hw]
  refine gzU ?_
  refine t_e (e_call0 rfl rfl (halike_any b s (atD H.1 s) _)) rfl rfl rfl ?_
  rintro _ _ ⟨B1, B2, B3, rfl, rfl⟩
  refine gzU ?_
  refine c_range (α := slT) (ps := [24]) (lb := [.pointer (some ⟨B1, 0, none⟩), .pointer (some ⟨B2, 0, none⟩), .pointer (some ⟨B3, 0, none⟩)]) rfl (alike_iter B1 B2 B3 b H n hI hn lq hq s (atD H.1 s) hul) (fun _ => rfl) rfl
    (fun pre l => l = [capC B3 (atD H.1 s), slC B2 s, hpC B1 b, (b4, .cells (List.toArray [.bool false]) 4 (0, 0))] ∧ pre = [])
    (fun c pre l => c = .ret ∧ pre ≠ [] ∧ l = [(b4, .cells (List.toArray [.bool false]) 4 (0, 0))])
    _ (capC b5 (atD H.1 s) :: slC b3 s :: l) (fun pre l2 X2 hX h => ⟨fun x hx => by rw [h.1]; exact List.mem_append_left _ (by simp only [List.mem_cons, List.not_mem_nil, or_false] at hx ⊢; rcases hx with h | h | h <;> simp [h]), fun c hc => List.mem_append_right _ (hX _ (.tail _ (.tail _ (hsub _ hc))))⟩) (by exact zKeep) ⟨rfl, rfl⟩ ?_ ?_ ?_
  · rintro E r0 rec pre x l' T ⟨fn, tmps, D0, rfl⟩ hT ⟨rfl, rfl⟩ hsp
    simp only [putPs, List.cons_append, List.nil_append]
    refine gzU ?_
    refine p_begin (by exact zUpd) ?_
    refine gzU ?_
    refine p_round_ret [(b4, .cells (List.toArray [.bool false]) 4 (0, 0))] (by exact zKeep) ⟨rfl, by simp, rfl⟩
  · rintro D0 xs l' hS ⟨rfl, rfl⟩
    rw [← hS]
    simp only [List.cons_append, List.nil_append]
    refine gzU ?_
    exact k_ret2 [D0] ((b4, .cells (List.toArray [.bool true]) 4 (0, 0)) :: l) rfl (l' := l) (by exact zKeep) (by exact zRes) (.drop .refl) ⟨rfl, rfl⟩
  · rintro D0 c pre l' hsp ⟨rfl, hne, rfl⟩
    have hL : likes H.1 s (atD H.1 s) (usedD H.1).length ≠ [] := fun e => by rw [e] at hsp; exact hne (List.prefix_nil.1 hsp)
    rw [decide_eq_false hL]
    simp only [List.cons_append, List.nil_append]
    refine gzU ?_
    exact k_ret2 [D0] ((b4, .cells (List.toArray [.bool false]) 4 (0, 0)) :: l) rfl (l' := l) (by exact zKeep) (by exact zRes) (.drop .refl) ⟨rfl, rfl⟩
end Go.Proofs.Ytpplknmmjlgadaa

/- hold: an act of both. -/
-- GU
set_option linter.unusedVariables false
set_option linter.unusedSimpArgs false
namespace Go.Proofs.Ytpplknmmjlgadaa
open Go.RowKit
set_option maxRecDepth 20000
set_option maxRecDepth 20000

structure AcH where
  d : Int
  a : slT
  b : slT
  c : CapT
  n : Int
  w : Nat
abbrev encK (x : AcH) : List Value := [.int .i64 x.d, .int .i64 x.a.1, .int .i64 x.a.2, .int .i64 x.b.1, .int .i64 x.b.2, .int .i64 x.c.kind, .int .i64 x.c.obj, .int .i64 x.c.rights, .int .u64 x.c.badge, .int .i64 x.c.guard, .int .i64 x.c.bits, .int .i64 x.c.serial, .int .i64 x.c.page, .int .i64 x.n, .int .u64 (x.w : Nat)]
abbrev acC (B : Nat) (x : AcH) : Chunk := (B, .cells (List.toArray (encK x)) 28 (0, 0))
structure OkA (x : AcH) : Prop where
  c : CapW x.c
  w : x.w < 18446744073709551616
def actH (H : HS) (x : AcH) : HS :=
  if x.d = 0 then (rootH H x.a x.c).2 else if x.d = 1 then (childH H x.a x.b x.c).2 else if x.d = 2 then (setH H x.a x.c).2 else if x.d = 3 then (derH H x.a x.b (copyC (atD H.1 x.a) x.n)).2 else if x.d = 4 then (derH H x.a x.b (mintC (atD H.1 x.a) x.n x.w)).2
  else if x.d = 5 then (moveH H x.a x.b).2 else if x.d = 6 then (swapH H x.a x.b).2 else if x.d = 7 then (clearH H x.a).2 else if x.d = 8 then ((addN H.1 x.a.1 x.n).2, H.2) else if x.d = 9 then ((dropN H.1 x.a.1).2, H.2) else H
theorem InvH.act {H : HS} {n : Nat} (h : InvH H n) (x : AcH) (hx : OkA x) : InvH (actH H x) (n + 1) := by
  unfold actH
  split
  · exact h.root _ _ hx.c
  split
  · exact h.child _ _ _ hx.c
  split
  · exact (h.set _ _ hx.c).mono (by omega)
  split
  · exact h.der _ _ _ (copy_w (h.at _).2 _)
  split
  · exact h.der _ _ _ (mint_w (h.at _).2 _ _)
  split
  · exact (h.move _ _).mono (by omega)
  split
  · exact (h.swap _ _).mono (by omega)
  split
  · exact (h.clear _).mono (by omega)
  split
  · exact h.add _ _
  split
  · exact (h.drop _).mono (by omega)
  · exact h.mono (by omega)
theorem encC_k' (c : CapT) : AllK capK (encC c) := encC_k c
set_option pp.deepTerms false
set_option pp.deepTerms.threshold 4
set_option maxHeartbeats 400000
end Go.Proofs.Ytpplknmmjlgadaa

/- hold: start, played, awake. -/
-- GU
set_option linter.unusedVariables false
set_option linter.unusedSimpArgs false
namespace Go.Proofs.Ytpplknmmjlgadaa
open Go.RowKit
set_option maxRecDepth 20000
set_option maxRecDepth 20000

def stN : Nat → Int | 2 => 2 | _ => 4
def stD : Nat → SD | 0 => [] | k + 1 => (addN (stD k) ((k + 1 : Nat) : Int) (stN k)).2
theorem st_len : ∀ {k : Nat}, k < 3 → (stD k).length ≤ 3
  | 0, _ => by decide | 1, _ => by decide | 2, _ => by decide | n + 3, h => absurd h (by omega)
theorem ok_nil (s : slT) : okD [] s = false := by
  unfold okD sizeD
  rw [show findK Prod.fst ([] : SD) s.1 = none from rfl]
  by_cases h : 0 ≤ s.2
  · rw [decide_eq_true h, decide_eq_false (by simp only; omega)]; rfl
  · rw [decide_eq_false h]; rfl
theorem InvH.nil : InvH ([], []) 0 :=
  ⟨.none, List.Pairwise.nil, fun x hx => absurd hx (by simp), fun s => ⟨fun h => absurd h (by rw [Tr.hasD_no.2 fun x hx => absurd hx (by simp)]; decide), fun h => absurd h.1 (by rw [ok_nil]; decide)⟩, by simp⟩
theorem inv_st : ∀ k : Nat, InvH (stD k, []) k
  | 0 => InvH.nil
  | k + 1 => (inv_st k).add _ _
def H0 : HS := (stD 3, [])
theorem inv_0 : InvH H0 3 := inv_st 3
def playH (H : HS) (xs : List AcH) : HS := xs.foldl actH H
theorem playH_snoc (H : HS) (xs : List AcH) (x : AcH) : playH H (xs ++ [x]) = actH (playH H xs) x := by unfold playH; rw [List.foldl_append]; rfl
theorem inv_play {H : HS} {n : Nat} (h : InvH H n) : ∀ (xs : List AcH), (∀ x, x ∈ xs → OkA x) → InvH (playH H xs) (n + xs.length) := by
  intro xs
  induction xs generalizing H n with
  | nil => exact fun _ => h
  | cons x xs ih =>
    intro hx
    have := ih (h.act x (hx x (.head _))) fun y hy => hx y (.tail _ hy)
    rw [List.length_cons, show n + (xs.length + 1) = n + 1 + xs.length by omega]; exact this
set_option pp.deepTerms false
set_option pp.deepTerms.threshold 4
set_option maxHeartbeats 400000
theorem IsH.ulen {b n : Nat} {H : HS} {lq : List Chunk} (hq : IsH b H lq) (hI : InvH H n) (hn : n ≤ 1000) : (usedD H.1).length ≤ 32000 := by
  obtain ⟨bs, bt, ls, lt, hb⟩ := hq
  have h1 := usedD_len fun x hx => (hb.s.sz x hx).2
  have h2 := (hI.small hn).1
  omega
def W1 : HS := ((addN [] 7 4).2, [])
abbrev cA : CapT := ⟨8, 3, 7, 0, 0, 0, 0, 0⟩
abbrev cB : CapT := ⟨8, 3, 1, 0, 0, 0, 0, 0⟩
def W2 : HS := (rootH W1 (7, 0) cA).2
def W3 : HS := (derH W2 (7, 0) (7, 1) (copyC (atD W2.1 (7, 0)) 1)).2
theorem cA_w : CapW cA := ⟨by decide, by decide⟩
theorem inv_1 : InvH W1 1 := InvH.nil.add 7 4
theorem inv_2 : InvH W2 2 := inv_1.root _ _ cA_w
theorem inv_3 : InvH W3 3 := inv_2.der _ _ _ (copy_w (inv_2.at _).2 _)
theorem wk1 : (addN [] 7 4).1 = 0 := by decide +kernel
theorem wk2 : (rootH W1 (7, 0) cA).1 = 0 := by decide +kernel
theorem wk3 : (derH W2 (7, 0) (7, 1) (copyC (atD W2.1 (7, 0)) 1)).1 = 0 := by decide +kernel
theorem wk4 : getD' W3.1 (7, 1) = (cB, 0) := by kernel_rfl
theorem wk5 : finalH W3 (7, 0) = false := by decide +kernel
theorem wk6 : Tr.belowD W3.2 (7, 0) = [(7, 1)] := by decide +kernel
theorem awake_any (l : List Chunk) : Fn Try.prog 20 [] l fun v l' => v = .bool true ∧ ∃ X, l' = X ++ l := by
  refine fn_of_body Try.func20 rfl rfl fun E => ?_
  simp only [argF, Try.ntmps20]
  refine gzU ?_
  refine t_e (e_call0 rfl rfl (hnew_any _)) rfl rfl rfl ?_
  rintro _ _ ⟨b, rfl, lq, hq, rfl⟩
  have HA := haddN_any b ([], []) lq hq 7 4 l
  have HB := fun lq (hq : IsH b W1 lq) => hroot_any b W1 1 inv_1 lq hq (7, 0) cA l
  have HC := fun lq (hq : IsH b W2 lq) => hcopy_any b W2 2 inv_2 (by decide) lq hq (7, 0) (7, 1) 1 l
  rw [wk1] at HA
  rw [wk2] at HB
  rw [wk3] at HC
  refine gzU ?_
  refine t_eh (e_call0 rfl rfl HA) rfl rfl rfl ?_
  rintro _ _ ⟨rfl, lq, hq, rfl⟩
  refine gzU ?_
  refine t_eh (e_call rfl rfl (HB lq hq)) rfl rfl rfl ?_
  rintro _ _ ⟨rfl, lq, hq, rfl⟩
  refine gzU ?_
  refine t_eh (e_call rfl rfl (HC lq hq)) rfl rfl rfl ?_
  rintro _ _ ⟨rfl, lq, hq, rfl⟩
  have hul : (usedD W3.1).length ≤ 32000 := IsH.ulen (H := W3) hq inv_3 (by decide)
  have HG := fun l2 (h : ∀ c, c ∈ lq → c ∈ l2) => hget_any b W3 lq hq (7, 1) l2 h
  have HF := fun l2 (h : ∀ c, c ∈ lq → c ∈ l2) => hfinal_any b W3 3 inv_3 (by decide) lq hq (7, 0) (by omega) l2 h
  have HW := fun l2 (h : ∀ c, c ∈ lq → c ∈ l2) => hbelow_any b W3 lq hq (by decide) (7, 0) l2 h
  rw [wk4] at HG
  rw [wk5] at HF
  rw [wk6] at HW
  refine gzU ?_
  refine t_q (q_call rfl rfl fun l2 hl => HG l2 fun c hc => hl _ (List.mem_append_left _ hc)) rfl rfl rfl ?_
  refine gzU ?_
  refine t_e e_alloc rfl rfl rfl ?_; rintro _ _ ⟨b3, _, rfl, rfl⟩
  refine gzU ?_
  refine t_h (q_call rfl rfl fun l2 hl => HF l2 fun c hc => hl _ (.tail _ (List.mem_append_left _ hc))) rfl rfl rfl ?_
  refine gzU ?_
  refine t_eh (e_call0 rfl rfl (HW _ fun c hc => .tail _ (List.mem_append_left _ hc))) rfl rfl rfl ?_
  rintro v _ ⟨cs, ho, rfl⟩
  refine gzU ?_
  refine t_eh (e_litA (ws := encT (7, 1)) (k := 2) rfl rfl rfl (by decide) (by decide)) rfl rfl rfl ?_
  rintro _ _ ⟨bl, _, rfl, rfl⟩
  refine t_h (q_call rfl rfl fun l2 hl => Tr.sameSlots_any encT Tr.encT_inj Tr.encT_k _ _ [(7, 1)] [(7, 1)] l2 (OwnSl.rowSl (enc := encT) ho (fun _ => rfl) fun c hc => hl _ (.tail _ (List.mem_append_left _ hc))) ⟨_, 1, rfl, fun _ => ⟨bl, 0, _, _, _, rfl, hl _ (.head _), fun i x hx => ?_⟩⟩ (by decide)) rfl rfl rfl ?_
  · match i, hx with
    | 0, hx => cases hx; exact ⟨by simp, by simp⟩
  rw [decide_eq_true rfl]
  refine gzU ?_
  exact k_ret [] rfl (l' := (cs ++ lq) ++ l) (keep_ac (A := (bl, Obj.cells (List.toArray (encT (7, 1))) 23 (0, 0)) :: (cs ++ (capC b3 cB :: (lq ++ l)))) [(bl, Obj.cells (List.toArray (encT (7, 1))) 23 (0, 0)), capC b3 cB]) (by exact zRes) ⟨rfl, _, rfl⟩
end Go.Proofs.Ytpplknmmjlgadaa

/- hold: of none; HoldNone. -/
-- GU
set_option linter.unusedVariables false
set_option linter.unusedSimpArgs false
namespace Go.Proofs.Ytpplknmmjlgadaa
open Go.RowKit
set_option maxRecDepth 20000

set_option pp.deepTerms false
set_option pp.deepTerms.threshold 4
set_option maxHeartbeats 400000
theorem slots_no (l : List Chunk) : Fn Try.prog 19 [.pointer none] l fun v l' => v = .pointer none ∧ l' = l := by
  refine fn_of_body Try.func19 rfl rfl fun E => ?_
  simp only [argF, Try.ntmps19]
  refine gzU ?_
  exact k_ret [] rfl .refl (by exact zRes) ⟨rfl, rfl⟩
theorem addN_no (id n : Int) (l : List Chunk) : Fn Try.prog 13 [.pointer none, .int .i64 id, .int .i64 n] l fun v l' => v = .int .i64 1 ∧ l' = l := by
  refine fn_of_body Try.func13 rfl rfl fun E => ?_
  simp only [argF, Try.ntmps13]
  refine gzU ?_
  refine t_q (q_call rfl rfl fun l2 _ => slots_no l2) rfl rfl rfl ?_
  refine gzU ?_
  refine t_q (q_call rfl rfl fun l2 _ => add_nil id n l2) rfl rfl rfl ?_
  refine gzU ?_
  exact k_ret [] rfl .refl (by exact zRes) ⟨rfl, rfl⟩
theorem dropN_no (id : Int) (l : List Chunk) : Fn Try.prog 14 [.pointer none, .int .i64 id] l fun v l' => v = .int .i64 1 ∧ l' = l := by
  refine fn_of_body Try.func14 rfl rfl fun E => ?_
  simp only [argF, Try.ntmps14]
  refine gzU ?_
  refine t_q (q_call rfl rfl fun l2 _ => slots_no l2) rfl rfl rfl ?_
  refine gzU ?_
  refine t_q (q_call rfl rfl fun l2 _ => drop_nil id l2) rfl rfl rfl ?_
  refine gzU ?_
  exact k_ret [] rfl .refl (by exact zRes) ⟨rfl, rfl⟩
theorem get_no (s : slT) (l : List Chunk) : Fn Try.prog 4 [.pointer none, .agg (List.toArray (encT s))] l fun v l' => v = .tuple #[.agg (List.toArray (encC capZ)), .int .i64 1] ∧ l' = l := by
  refine fn_of_body Try.func4 rfl rfl fun E => ?_
  simp only [argF, Try.ntmps4]
  refine gzU ?_
  (first | refine t_e (e_box1 rfl rfl) rfl rfl rfl ?_ | refine t_e (e_boxA rfl) rfl rfl rfl ?_); rintro _ _ ⟨b3, _, rfl, rfl⟩
  refine gzU ?_
  refine t_e e_alloc rfl rfl rfl ?_; rintro _ _ ⟨b4, _, rfl, rfl⟩
  refine gzU ?_
  refine c_draw [(0, true), (1, true), (2, true), (3, true), (4, true), (5, true), (6, false), (7, true)] [[], [0], [], [0, 1, 2], [0, 1, 2, 3], [0, 1, 2, 3], [0, 1, 2, 3, 4, 5], [0, 1, 2, 3, 4, 5, 6]] (slC b3 s :: l) (by kernel_rfl) (by kernel_rfl) zAtt zHR ?_
  refine pzU ?_
  refine pl_h (q_call rfl rfl fun l2 hl => slots_no l2) rfl rfl rfl ?_
  refine pzU ?_
  refine pl_h (q_call rfl rfl fun l2 hl => get_nil s l2) rfl rfl rfl ?_
  refine pzU ?_
  refine gzU ?_
  exact k_ret2 [] (capC b4 capZ :: slC b3 s :: l) rfl (l' := l) .refl (by exact zRes) (.drop (.drop .refl)) ⟨rfl, rfl⟩
theorem pair_no (a c : slT) (l : List Chunk) : Fn Try.prog 26 [.pointer none, .agg (List.toArray (encT a)), .agg (List.toArray (encT c))] l fun v l' => v = .tuple #[.agg (List.toArray (encC capZ)), .agg (List.toArray (encC capZ)), .int .i64 1] ∧ l' = l := by
  refine fn_of_body Try.func26 rfl rfl fun E => ?_
  simp only [argF, Try.ntmps26]
  refine gzU ?_
  (first | refine t_e (e_box1 rfl rfl) rfl rfl rfl ?_ | refine t_e (e_boxA rfl) rfl rfl rfl ?_); rintro _ _ ⟨b4, _, rfl, rfl⟩
  refine gzU ?_
  (first | refine t_e (e_box1 rfl rfl) rfl rfl rfl ?_ | refine t_e (e_boxA rfl) rfl rfl rfl ?_); rintro _ _ ⟨b5, _, rfl, rfl⟩
  refine gzU ?_
  refine t_e e_alloc rfl rfl rfl ?_; rintro _ _ ⟨b6, _, rfl, rfl⟩
  refine gzU ?_
  refine t_e e_alloc rfl rfl rfl ?_; rintro _ _ ⟨b7, _, rfl, rfl⟩
  refine gzU ?_
  refine t_q (q_call rfl rfl fun l2 hl => get_no a l2) rfl rfl rfl ?_
  refine gzU ?_
  refine t_e e_alloc rfl rfl rfl ?_; rintro _ _ ⟨b9, _, rfl, rfl⟩
  refine gzU ?_
  refine t_q (q_call rfl rfl fun l2 hl => get_no c l2) rfl rfl rfl ?_
  refine gzU ?_
  refine t_e e_alloc rfl rfl rfl ?_; rintro _ _ ⟨b11, _, rfl, rfl⟩
  refine gzU ?_
  refine c_draw [(0, true), (1, true), (2, true), (3, false), (4, false), (5, true)] [[], [], [], [0], [0, 1, 3], [0, 1, 2, 3, 4]] ([capC b11 capZ, capC b9 capZ]) (by kernel_rfl) (by kernel_rfl) zAtt zHR ?_
  refine pzU ?_
  refine gzU ?_
  exact k_ret2 [] (capC b7 capZ :: capC b6 capZ :: l) rfl (l' := l) (.drop (.drop (.pick .here (.pick .here (.drop (.drop .refl)))))) (by exact zRes) (.drop (.drop .refl)) ⟨rfl, rfl⟩
theorem Root_no (s : slT) (c : CapT) (l : List Chunk) : Fn Try.prog 6 [.pointer none, .agg (List.toArray (encT s)), .agg (List.toArray (encC c))] l fun v l' => v = .int .i64 1 ∧ l' = l := by
  refine fn_of_body Try.func6 rfl rfl fun E => ?_
  simp only [argF, Try.ntmps6]
  refine gzU ?_
  (first | refine t_e (e_box1 rfl rfl) rfl rfl rfl ?_ | refine t_e (e_boxA rfl) rfl rfl rfl ?_); rintro _ _ ⟨b4, _, rfl, rfl⟩
  refine gzU ?_
  (first | refine t_e (e_box1 rfl rfl) rfl rfl rfl ?_ | refine t_e (e_boxA rfl) rfl rfl rfl ?_); rintro _ _ ⟨b5, _, rfl, rfl⟩
  refine gzU ?_
  refine t_q (q_call rfl rfl fun l2 hl => get_no s l2) rfl rfl rfl ?_
  refine gzU ?_
  refine t_e e_alloc rfl rfl rfl ?_; rintro _ _ ⟨b7, _, rfl, rfl⟩
  refine gzU ?_
  exact k_ret [] rfl (l' := l) (.drop (.drop (.drop .refl))) (by exact zRes) ⟨rfl, rfl⟩
theorem Set_no (s : slT) (c : CapT) (l : List Chunk) : Fn Try.prog 8 [.pointer none, .agg (List.toArray (encT s)), .agg (List.toArray (encC c))] l fun v l' => v = .int .i64 1 ∧ l' = l := by
  refine fn_of_body Try.func8 rfl rfl fun E => ?_
  simp only [argF, Try.ntmps8]
  refine gzU ?_
  (first | refine t_e (e_box1 rfl rfl) rfl rfl rfl ?_ | refine t_e (e_boxA rfl) rfl rfl rfl ?_); rintro _ _ ⟨b4, _, rfl, rfl⟩
  refine gzU ?_
  (first | refine t_e (e_box1 rfl rfl) rfl rfl rfl ?_ | refine t_e (e_boxA rfl) rfl rfl rfl ?_); rintro _ _ ⟨b5, _, rfl, rfl⟩
  refine gzU ?_
  refine t_q (q_call rfl rfl fun l2 hl => get_no s l2) rfl rfl rfl ?_
  refine gzU ?_
  refine t_e e_alloc rfl rfl rfl ?_; rintro _ _ ⟨b7, _, rfl, rfl⟩
  refine gzU ?_
  exact k_ret [] rfl (l' := l) (.drop (.drop (.drop .refl))) (by exact zRes) ⟨rfl, rfl⟩
theorem Child_no (p s : slT) (c : CapT) (l : List Chunk) : Fn Try.prog 7 [.pointer none, .agg (List.toArray (encT p)), .agg (List.toArray (encT s)), .agg (List.toArray (encC c))] l fun v l' => v = .int .i64 1 ∧ l' = l := by
  refine fn_of_body Try.func7 rfl rfl fun E => ?_
  simp only [argF, Try.ntmps7]
  refine gzU ?_
  (first | refine t_e (e_box1 rfl rfl) rfl rfl rfl ?_ | refine t_e (e_boxA rfl) rfl rfl rfl ?_); rintro _ _ ⟨b5, _, rfl, rfl⟩
  refine gzU ?_
  (first | refine t_e (e_box1 rfl rfl) rfl rfl rfl ?_ | refine t_e (e_boxA rfl) rfl rfl rfl ?_); rintro _ _ ⟨b6, _, rfl, rfl⟩
  refine gzU ?_
  (first | refine t_e (e_box1 rfl rfl) rfl rfl rfl ?_ | refine t_e (e_boxA rfl) rfl rfl rfl ?_); rintro _ _ ⟨b7, _, rfl, rfl⟩
  refine gzU ?_
  refine t_q (q_call rfl rfl fun l2 hl => pair_no p s l2) rfl rfl rfl ?_
  refine gzU ?_
  refine t_e e_alloc rfl rfl rfl ?_; rintro _ _ ⟨b9, _, rfl, rfl⟩
  refine t_e e_alloc rfl rfl rfl ?_; rintro _ _ ⟨b10, _, rfl, rfl⟩
  refine gzU ?_
  exact k_ret [] rfl (l' := l) (.drop (.drop (.drop (.drop (.drop .refl))))) (by exact zRes) ⟨rfl, rfl⟩
theorem derived_no (a c : slT) (f : Value) (hf : f.oneCell' = true) (l : List Chunk) : Fn Try.prog 29 [.pointer none, .agg (List.toArray (encT a)), .agg (List.toArray (encT c)), f] l fun v l' => v = .int .i64 1 ∧ l' = l := by
  refine fn_of_body Try.func29 rfl rfl fun E => ?_
  simp only [argF, Try.ntmps29]
  refine gzU ?_
  (first | refine t_e (e_box1 rfl rfl) rfl rfl rfl ?_ | refine t_e (e_boxA rfl) rfl rfl rfl ?_); rintro _ _ ⟨b5, _, rfl, rfl⟩
  refine gzU ?_
  (first | refine t_e (e_box1 rfl rfl) rfl rfl rfl ?_ | refine t_e (e_boxA rfl) rfl rfl rfl ?_); rintro _ _ ⟨b6, _, rfl, rfl⟩
  refine gzU ?_
  refine t_q (q_call rfl rfl fun l2 hl => pair_no a c l2) rfl rfl rfl ?_
  refine gzU ?_
  refine t_e e_alloc rfl rfl rfl ?_; rintro _ _ ⟨b9, _, rfl, rfl⟩
  refine t_e e_alloc rfl rfl rfl ?_; rintro _ _ ⟨b10, _, rfl, rfl⟩
  refine gzU ?_
  exact k_ret [] rfl (l' := l) (.drop (.drop (.drop (.drop .refl)))) (by exact zRes) ⟨rfl, rfl⟩
theorem Copy_no (a c : slT) (mask : Int) (l : List Chunk) : Fn Try.prog 9 [.pointer none, .agg (List.toArray (encT a)), .agg (List.toArray (encT c)), .int .i64 mask] l fun v l' => v = .int .i64 1 ∧ l' = l := by
  refine fn_of_body Try.func9 rfl rfl fun E => ?_
  simp only [argF, Try.ntmps9]
  refine gzU ?_
  (first | refine t_e (e_box1 rfl rfl) rfl rfl rfl ?_ | refine t_e (e_boxA rfl) rfl rfl rfl ?_); rintro _ _ ⟨b5, _, rfl, rfl⟩
  refine gzU ?_
  (first | refine t_e (e_box1 rfl rfl) rfl rfl rfl ?_ | refine t_e (e_boxA rfl) rfl rfl rfl ?_); rintro _ _ ⟨b6, _, rfl, rfl⟩
  refine gzU ?_
  (first | refine t_e (e_box1 rfl rfl) rfl rfl rfl ?_ | refine t_e (e_boxA rfl) rfl rfl rfl ?_); rintro _ _ ⟨b7, _, rfl, rfl⟩
  refine gzU ?_
  refine t_q (q_call rfl rfl fun l2 hl => derived_no a c _ rfl l2) rfl rfl rfl ?_
  refine gzU ?_
  exact k_ret [] rfl (l' := l) (.drop (.drop (.drop .refl))) (by exact zRes) ⟨rfl, rfl⟩
theorem Mint_no (a c : slT) (mask : Int) (data : Nat) (l : List Chunk) : Fn Try.prog 10 [.pointer none, .agg (List.toArray (encT a)), .agg (List.toArray (encT c)), .int .i64 mask, .int .u64 (data : Nat)] l fun v l' => v = .int .i64 1 ∧ l' = l := by
  refine fn_of_body Try.func10 rfl rfl fun E => ?_
  simp only [argF, Try.ntmps10]
  refine gzU ?_
  (first | refine t_e (e_box1 rfl rfl) rfl rfl rfl ?_ | refine t_e (e_boxA rfl) rfl rfl rfl ?_); rintro _ _ ⟨b5, _, rfl, rfl⟩
  refine gzU ?_
  (first | refine t_e (e_box1 rfl rfl) rfl rfl rfl ?_ | refine t_e (e_boxA rfl) rfl rfl rfl ?_); rintro _ _ ⟨b6, _, rfl, rfl⟩
  refine gzU ?_
  (first | refine t_e (e_box1 rfl rfl) rfl rfl rfl ?_ | refine t_e (e_boxA rfl) rfl rfl rfl ?_); rintro _ _ ⟨b7, _, rfl, rfl⟩
  refine gzU ?_
  (first | refine t_e (e_box1 rfl rfl) rfl rfl rfl ?_ | refine t_e (e_boxA rfl) rfl rfl rfl ?_); rintro _ _ ⟨b8, _, rfl, rfl⟩
  refine gzU ?_
  refine t_q (q_call rfl rfl fun l2 hl => derived_no a c _ rfl l2) rfl rfl rfl ?_
  refine gzU ?_
  exact k_ret [] rfl (l' := l) (.drop (.drop (.drop (.drop .refl)))) (by exact zRes) ⟨rfl, rfl⟩
theorem Move_no (a c : slT) (l : List Chunk) : Fn Try.prog 11 [.pointer none, .agg (List.toArray (encT a)), .agg (List.toArray (encT c))] l fun v l' => v = .int .i64 1 ∧ l' = l := by
  refine fn_of_body Try.func11 rfl rfl fun E => ?_
  simp only [argF, Try.ntmps11]
  refine gzU ?_
  (first | refine t_e (e_box1 rfl rfl) rfl rfl rfl ?_ | refine t_e (e_boxA rfl) rfl rfl rfl ?_); rintro _ _ ⟨b5, _, rfl, rfl⟩
  refine gzU ?_
  (first | refine t_e (e_box1 rfl rfl) rfl rfl rfl ?_ | refine t_e (e_boxA rfl) rfl rfl rfl ?_); rintro _ _ ⟨b6, _, rfl, rfl⟩
  refine gzU ?_
  refine t_q (q_call rfl rfl fun l2 hl => pair_no a c l2) rfl rfl rfl ?_
  refine gzU ?_
  refine t_e e_alloc rfl rfl rfl ?_; rintro _ _ ⟨b9, _, rfl, rfl⟩
  refine t_e e_alloc rfl rfl rfl ?_; rintro _ _ ⟨b10, _, rfl, rfl⟩
  refine gzU ?_
  exact k_ret [] rfl (l' := l) (.drop (.drop (.drop (.drop .refl)))) (by exact zRes) ⟨rfl, rfl⟩
theorem Swap_no (a c : slT) (l : List Chunk) : Fn Try.prog 12 [.pointer none, .agg (List.toArray (encT a)), .agg (List.toArray (encT c))] l fun v l' => v = .int .i64 1 ∧ l' = l := by
  refine fn_of_body Try.func12 rfl rfl fun E => ?_
  simp only [argF, Try.ntmps12]
  refine gzU ?_
  (first | refine t_e (e_box1 rfl rfl) rfl rfl rfl ?_ | refine t_e (e_boxA rfl) rfl rfl rfl ?_); rintro _ _ ⟨b5, _, rfl, rfl⟩
  refine gzU ?_
  (first | refine t_e (e_box1 rfl rfl) rfl rfl rfl ?_ | refine t_e (e_boxA rfl) rfl rfl rfl ?_); rintro _ _ ⟨b6, _, rfl, rfl⟩
  refine gzU ?_
  refine t_q (q_call rfl rfl fun l2 hl => pair_no a c l2) rfl rfl rfl ?_
  refine gzU ?_
  refine t_e e_alloc rfl rfl rfl ?_; rintro _ _ ⟨b9, _, rfl, rfl⟩
  refine t_e e_alloc rfl rfl rfl ?_; rintro _ _ ⟨b10, _, rfl, rfl⟩
  refine gzU ?_
  exact k_ret [] rfl (l' := l) (.drop (.drop (.drop (.drop .refl)))) (by exact zRes) ⟨rfl, rfl⟩
theorem Clear_no (s : slT) (l : List Chunk) : Fn Try.prog 5 [.pointer none, .agg (List.toArray (encT s))] l fun v l' => v = .tuple #[.agg (List.toArray (encC capZ)), .int .i64 1] ∧ l' = l := by
  refine fn_of_body Try.func5 rfl rfl fun E => ?_
  simp only [argF, Try.ntmps5]
  refine gzU ?_
  (first | refine t_e (e_box1 rfl rfl) rfl rfl rfl ?_ | refine t_e (e_boxA rfl) rfl rfl rfl ?_); rintro _ _ ⟨b3, _, rfl, rfl⟩
  refine gzU ?_
  refine t_e e_alloc rfl rfl rfl ?_; rintro _ _ ⟨b4, _, rfl, rfl⟩
  refine gzU ?_
  refine t_q (q_call rfl rfl fun l2 hl => get_no s l2) rfl rfl rfl ?_
  refine gzU ?_
  refine t_e e_alloc rfl rfl rfl ?_; rintro _ _ ⟨b6, _, rfl, rfl⟩
  refine gzU ?_
  exact k_ret2 [] (capC b4 capZ :: l) rfl (l' := l) (.drop (.pick .here (.drop .refl))) (by exact zRes) (.drop .refl) ⟨rfl, rfl⟩
theorem Final_no (s : slT) (l : List Chunk) : Fn Try.prog 15 [.pointer none, .agg (List.toArray (encT s))] l fun v l' => v = .bool false ∧ l' = l := by
  refine fn_of_body Try.func15 rfl rfl fun E => ?_
  simp only [argF, Try.ntmps15]
  refine gzU ?_
  (first | refine t_e (e_box1 rfl rfl) rfl rfl rfl ?_ | refine t_e (e_boxA rfl) rfl rfl rfl ?_); rintro _ _ ⟨b3, _, rfl, rfl⟩
  refine gzU ?_
  refine t_e e_alloc rfl rfl rfl ?_; rintro _ _ ⟨b4, _, rfl, rfl⟩
  refine gzU ?_
  refine t_q (q_call rfl rfl fun l2 hl => get_no s l2) rfl rfl rfl ?_
  refine gzU ?_
  refine t_e e_alloc rfl rfl rfl ?_; rintro _ _ ⟨b5, _, rfl, rfl⟩
  refine gzU ?_
  exact k_ret2 [] ((b4, .cells (List.toArray [.bool false]) 4 (0, 0)) :: l) rfl (l' := l) (.drop (.pick .here (.drop .refl))) (by exact zRes) (.drop .refl) ⟨rfl, rfl⟩
theorem Below_no (s : slT) (l : List Chunk) : Fn Try.prog 16 [.pointer none, .agg (List.toArray (encT s))] l fun v l' => v = .slice none 0 0 ∧ l' = l := by
  refine fn_of_body Try.func16 rfl rfl fun E => ?_
  simp only [argF, Try.ntmps16]
  refine gzU ?_
  (first | refine t_e (e_box1 rfl rfl) rfl rfl rfl ?_ | refine t_e (e_boxA rfl) rfl rfl rfl ?_); rintro _ _ ⟨b3, _, rfl, rfl⟩
  refine gzU ?_
  exact k_ret [] rfl (l' := l) (.drop .refl) (by exact zRes) ⟨rfl, rfl⟩
theorem Tree_no (l : List Chunk) : Fn Try.prog 18 [.pointer none] l fun v l' => v = .slice none 0 0 ∧ l' = l := by
  refine fn_of_body Try.func18 rfl rfl fun E => ?_
  simp only [argF, Try.ntmps18]
  refine gzU ?_
  exact k_ret [] rfl (l' := l) .refl (by exact zRes) ⟨rfl, rfl⟩
theorem Used_no (l : List Chunk) : Fn Try.prog 17 [.pointer none] l fun v l' => ∃ cs, OwnSl 93 10 v 0 [] cs ∧ l' = cs ++ l := by
  refine fn_of_body Try.func17 rfl rfl fun E => ?_
  simp only [argF, Try.ntmps17]
  refine gzU ?_
  refine t_q (q_call rfl rfl fun l2 _ => slots_no l2) rfl rfl rfl ?_
  refine gzU ?_
  refine t_e (e_call0 rfl rfl (all_nil _)) rfl rfl rfl ?_
  rintro v _ ⟨cs, ho, rfl⟩
  refine gzU ?_
  refine k_ret [] rfl (l' := cs ++ l) .refl (by exact zRes) ?_
  exact ⟨cs, ho, rfl⟩
theorem holdNone_any (x : AcH) (l : List Chunk) : Fn Try.prog 3 [.agg (List.toArray (encK x))] l fun v l' => v = .bool true ∧ ∃ c, l' = c ++ l := by
  refine fn_of_body Try.func3 rfl rfl fun E => ?_
  simp only [argF, Try.ntmps3]
  refine gzU ?_
  (first | refine t_e (e_box1 rfl rfl) rfl rfl rfl ?_ | refine t_e (e_boxA rfl) rfl rfl rfl ?_); rintro _ _ ⟨b1, _, rfl, rfl⟩
  refine gzU ?_
  refine t_q (q_call (vs := [.pointer none, .agg (List.toArray (encT x.a))]) rfl rfl fun l2 _ => get_no x.a l2) rfl rfl rfl ?_
  refine gzU ?_
  refine t_e e_alloc rfl rfl rfl ?_; rintro _ _ ⟨b4, _, rfl, rfl⟩
  refine gzU ?_
  refine t_q (q_call (vs := [.pointer none, .agg (List.toArray (encT x.a))]) rfl rfl fun l2 _ => Clear_no x.a l2) rfl rfl rfl ?_
  refine gzU ?_
  refine t_e e_alloc rfl rfl rfl ?_; rintro _ _ ⟨b6, _, rfl, rfl⟩
  refine gzU ?_
  refine t_q (q_eqagg (xs := encC capZ) (ys := encC capZ) rfl rfl (encC_k capZ) (encC_k capZ)) rfl rfl rfl ?_
  rw [eqCells_self (encC_k capZ)]
  refine gzU ?_
  refine t_h (q_eqagg (xs := encC capZ) (ys := encC capZ) rfl rfl (encC_k capZ) (encC_k capZ)) rfl rfl rfl ?_
  rw [eqCells_self (encC_k capZ)]
  refine gzU ?_
  refine t_h (q_call (vs := [.pointer none, .agg (List.toArray (encT x.a)), .agg (List.toArray (encC x.c))]) rfl rfl fun l2 _ => Root_no x.a x.c l2) rfl rfl rfl ?_
  refine gzU ?_
  refine t_h (q_call (vs := [.pointer none, .agg (List.toArray (encT x.a)), .agg (List.toArray (encT x.b)), .agg (List.toArray (encC x.c))]) rfl rfl fun l2 _ => Child_no x.a x.b x.c l2) rfl rfl rfl ?_
  refine gzU ?_
  refine t_h (q_call (vs := [.pointer none, .agg (List.toArray (encT x.a)), .agg (List.toArray (encC x.c))]) rfl rfl fun l2 _ => Set_no x.a x.c l2) rfl rfl rfl ?_
  refine gzU ?_
  refine t_h (q_call (vs := [.pointer none, .agg (List.toArray (encT x.a)), .agg (List.toArray (encT x.b)), .int .i64 x.n]) rfl rfl fun l2 _ => Copy_no x.a x.b x.n l2) rfl rfl rfl ?_
  refine gzU ?_
  refine t_h (q_call (vs := [.pointer none, .agg (List.toArray (encT x.a)), .agg (List.toArray (encT x.b)), .int .i64 x.n, .int .u64 (x.w : Nat)]) rfl rfl fun l2 _ => Mint_no x.a x.b x.n x.w l2) rfl rfl rfl ?_
  refine gzU ?_
  refine t_h (q_call (vs := [.pointer none, .agg (List.toArray (encT x.a)), .agg (List.toArray (encT x.b))]) rfl rfl fun l2 _ => Move_no x.a x.b l2) rfl rfl rfl ?_
  refine gzU ?_
  refine t_h (q_call (vs := [.pointer none, .agg (List.toArray (encT x.a)), .agg (List.toArray (encT x.b))]) rfl rfl fun l2 _ => Swap_no x.a x.b l2) rfl rfl rfl ?_
  refine gzU ?_
  refine t_h (q_call rfl rfl fun l2 _ => addN_no 1 1 l2) rfl rfl rfl ?_
  refine gzU ?_
  refine t_h (q_call rfl rfl fun l2 _ => dropN_no 1 l2) rfl rfl rfl ?_
  refine gzU ?_
  refine t_h (q_call (vs := [.pointer none, .agg (List.toArray (encT x.a))]) rfl rfl fun l2 _ => Final_no x.a l2) rfl rfl rfl ?_
  refine gzU ?_
  refine t_h (q_call (vs := [.pointer none, .agg (List.toArray (encT x.a))]) rfl rfl fun l2 _ => Below_no x.a l2) rfl rfl rfl ?_
  refine gzU ?_
  refine t_eh (e_call0 rfl rfl (Used_no _)) rfl rfl rfl ?_
  rintro v _ ⟨cs, ho, rfl⟩
  obtain ⟨p, cap, rfl⟩ := ho.shape
  refine gzU ?_
  refine t_h (q_call rfl rfl fun l2 _ => Tree_no l2) rfl rfl rfl ?_
  refine gzU ?_
  refine t_h (q_call rfl rfl fun l2 _ => slots_no l2) rfl rfl rfl ?_
  refine gzU ?_
  refine t_eh (e_call0 rfl rfl (awake_any _)) rfl rfl rfl ?_
  rintro _ _ ⟨rfl, cx, rfl⟩
  refine gzU ?_
  exact k_ret [] rfl (l' := (cx ++ cs) ++ l) (keep_ac (A := cx ++ (cs ++ (capC b6 capZ :: capC b4 capZ :: acC b1 x :: l))) [capC b6 capZ, capC b4 capZ, acC b1 x]) (by exact zRes) ⟨rfl, _, rfl⟩
theorem u64_of {a : Int} (h : (Lit.int .u64 a).wf = true) : ∃ n : Nat, a = n ∧ n < 18446744073709551616 := by
  simp [Lit.wf, IntKind.min, IntKind.max, IntKind.signed, IntKind.bits] at h
  exact ⟨a.toNat, by omega, by omega⟩
abbrev acK : List (Option IntKind) := [some .i64, some .i64, some .i64, some .i64, some .i64, some .i64, some .i64, some .i64, some .u64, some .i64, some .i64, some .i64, some .i64, some .i64, some .u64]
theorem holdNone_walk' (c0 : List Value) (w0 : AllIs acK c0) (W : World) :
    Calls Try.prog 3 #[.agg c0.toArray] W fun e W' => e = .returned (.bool true) ∧ Below W.heap.size W W' := by
  obtain ⟨_, _, rfl, ⟨d, rfl, _⟩, _, _, rfl, ⟨a1, rfl, _⟩, _, _, rfl, ⟨a2, rfl, _⟩, _, _, rfl, ⟨b1, rfl, _⟩, _, _, rfl, ⟨b2, rfl, _⟩, _, _, rfl, ⟨c0, rfl, _⟩, _, _, rfl, ⟨c1, rfl, _⟩, _, _, rfl, ⟨c2, rfl, _⟩, _, _, rfl, ⟨c3, rfl, w3⟩, _, _, rfl, ⟨c4, rfl, w4⟩, _, _, rfl, ⟨c5, rfl, _⟩, _, _, rfl, ⟨c6, rfl, _⟩, _, _, rfl, ⟨c7, rfl, _⟩, _, _, rfl, ⟨m, rfl, _⟩, _, _, rfl, ⟨w, rfl, ww⟩, rfl⟩ := w0
  obtain ⟨wn, rfl, hwn⟩ := u64_of ww
  exact law_walk (holdNone_any ⟨d, (a1, a2), (b1, b2), ⟨c0, c1, c2, c3, c4, c5, c6, c7⟩, m, wn⟩ (allOf W))
end Go.Proofs.Ytpplknmmjlgadaa
