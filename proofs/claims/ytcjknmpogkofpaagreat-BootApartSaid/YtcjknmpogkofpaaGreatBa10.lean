/- Chapter 15's own answer: Set, Drop. Chapter 15's own answer: Add. Chapter 15's own answer: Used. The statements' helpers for lists of structs. The tree as plain data and its blocks: nodes told by a function of their block; New, of. The tree: a node put behind another one. The tree: the two iterators. The tree: the links below one. The tree: All, Below. The tree: Root, Child, Has and those of no tree. The tree: Parent, Move. The tree: Move, Remove. The tree: Remove. The tree: Swap. The tree's plain law: acts, depths, slots. Laws that the statement's proof leans on. -/
import Derived.Test.YtcjknmpogkofpaaGreatBa9
import Derived.Test.YtcjknmpogkofpaaGreatBa5
import Derived.Test.YtcjknmpogkofpaaGreatBa6
/- Chapter 15's own answer: Set, Drop. -/
set_option linter.unusedVariables false
set_option linter.unusedSimpArgs false
namespace Go.Proofs.YtcjknmpogkofpaaGreat
open Go.RowKit
set_option maxRecDepth 20000
set_option maxRecDepth 20000

theorem ncs_app (A B : List NdS) : ncs (A ++ B) = ncs A ++ ncs B := List.flatMap_append
theorem ncs_l (A : List NdS) : (ncs A).length = A.length * 2 := by
  induction A with
  | nil => rfl
  | cons x r ih => rw [show x :: r = [x] ++ r from rfl, ncs_app, List.length_append, ih, List.length_append, Nat.add_mul]; rfl
theorem ncs_ones {S : List NdS} : ∀ u ∈ ncs S, u.oneCell' = true := fun u hu => by
  obtain ⟨x, _, hx⟩ := List.mem_flatMap.1 hu
  simp only [encN, List.mem_cons, List.not_mem_nil, or_false] at hx
  rcases hx with rfl | rfl <;> rfl
theorem encN_ones (x : NdS) : ∀ u ∈ encN x, u.oneCell' = true := fun u hx => by
  simp only [encN, List.mem_cons, List.not_mem_nil, or_false] at hx
  rcases hx with rfl | rfl <;> rfl
theorem ncs_fst {A B : List NdS} {sp : List Value} {j : Nat} {u : Value} (h : (ncs A)[j]? = some u) : (List.toArray (ncs (A ++ B) ++ sp))[0 + j]? = some u := by
  have hl := (List.getElem?_eq_some_iff.1 h).1
  rw [Nat.zero_add, List.getElem?_toArray, ncs_app, List.append_assoc, List.getElem?_append_left hl]; exact h
theorem ncs_snd {A B : List NdS} {sp : List Value} {j : Nat} {u : Value} (h : (ncs B)[j]? = some u) : (List.toArray (ncs (A ++ B) ++ sp))[A.length * 2 + j]? = some u := by
  have hl := (List.getElem?_eq_some_iff.1 h).1
  rw [List.getElem?_toArray, ncs_app, List.append_assoc, List.getElem?_append_right (by rw [ncs_l]; omega), ncs_l, Nat.add_sub_cancel_left, List.getElem?_append_left hl]; exact h
theorem asc_repl {A B : List NdS} {x y : NdS} (h : (A ++ x :: B).Pairwise fun x y => x.id < y.id) (hk : y.id = x.id) : (A ++ y :: B).Pairwise fun x y => x.id < y.id := by
  obtain ⟨h2, h3, h4⟩ := List.pairwise_append.1 h
  obtain ⟨h5, h6⟩ := List.pairwise_cons.1 h3
  refine List.pairwise_append.2 ⟨h2, List.pairwise_cons.2 ⟨fun z hz => by rw [hk]; exact h5 z hz, h6⟩, fun z hz w hw => ?_⟩
  rcases List.mem_cons.1 hw with rfl | hw
  · rw [hk]; exact h4 z hz x List.mem_cons_self
  · exact h4 z hz w (List.mem_cons_of_mem _ hw)
theorem asc_cut {A B : List NdS} {x : NdS} (h : (A ++ x :: B).Pairwise fun x y => x.id < y.id) : (A ++ B).Pairwise fun x y => x.id < y.id :=
  h.sublist (List.Sublist.append_left (List.sublist_cons_self _ _) _)
theorem keep_drop15 (x : Chunk) (c2 cs A B G : List Chunk) (y : Chunk) : Keep (c2 ++ (x :: (cs ++ (A ++ y :: B) ++ G))) ((x :: (c2 ++ (A ++ B))) ++ G) := by
  refine Keep.trans (.of_perm List.perm_middle) ?_
  refine Keep.trans (l := x :: (c2 ++ ((A ++ y :: B) ++ G))) ?_ ?_
  · exact ⟨cs, by
      have h : (c2 ++ (cs ++ (A ++ y :: B) ++ G)).Perm (cs ++ (c2 ++ ((A ++ y :: B) ++ G))) := by
        rw [List.append_assoc]; exact List.perm_append_comm_assoc _ _ _
      exact (h.cons x).trans List.perm_middle.symm⟩
  · obtain ⟨X, hX⟩ := keep_cut A B G y
    refine ⟨X, ?_⟩
    have h1 : (x :: (c2 ++ ((A ++ y :: B) ++ G))).Perm (x :: (c2 ++ (X ++ ((A ++ B) ++ G)))) := (hX.append_left c2).cons x
    refine h1.trans ?_
    have h2 : (x :: (c2 ++ (X ++ ((A ++ B) ++ G)))).Perm (X ++ (x :: (c2 ++ ((A ++ B) ++ G)))) := by
      have := (List.perm_append_comm_assoc c2 X ((A ++ B) ++ G)).cons x
      exact this.trans List.perm_middle.symm
    refine h2.trans (.of_eq ?_)
    simp
set_option pp.deepTerms false
set_option pp.deepTerms.threshold 4
set_option maxHeartbeats 400000
def ValD (D : SD) : Prop := ∀ x, x ∈ D → ∀ c, c ∈ x.2 → c.kind = 0 → c = capZ
end Go.Proofs.YtcjknmpogkofpaaGreat

/- Chapter 15's own answer: Add. -/
set_option linter.unusedVariables false
set_option linter.unusedSimpArgs false
namespace Go.Proofs.YtcjknmpogkofpaaGreat
open Go.RowKit
set_option maxRecDepth 20000
set_option maxRecDepth 20000

theorem ncs_snoc (S : List NdS) (x : NdS) : ncs (S ++ [x]) = ncs S ++ encN x := by simp [ncs]
theorem ins_asc {α : Type} {key : α → Int} {L : List α} {t : α} (h : L.Pairwise fun x y => key x < key y) (hn : findK key L (key t) = none) : (insK key L t).Pairwise fun x y => key x < key y := by
  obtain ⟨W, Z, e1, e2, hL, hall, hgt⟩ := ins_split h (findK_none.1 hn)
  have hi : insK key L t = W ++ t :: Z := by unfold insK; rw [e1, e2]
  rw [hL, List.pairwise_append] at h
  rw [hi]
  refine List.pairwise_append.2 ⟨h.1, List.pairwise_cons.2 ⟨fun x hx => hgt x hx, h.2.1⟩, fun x hx y hy => ?_⟩
  have h1 := hall x hx
  rcases List.mem_cons.1 hy with rfl | hy
  · exact h1
  · have := hgt y hy; omega
theorem keep_add16 (x y : Chunk) (cv cs W Z G : List Chunk) : Keep (cv ++ (y :: (x :: (cs ++ (W ++ Z) ++ G)))) ((x :: (cv ++ (W ++ y :: Z))) ++ G) := by
  refine ⟨cs, ?_⟩
  have e1 : (cv ++ (y :: (x :: (cs ++ (W ++ Z) ++ G)))) = cv ++ ([y] ++ ([x] ++ (cs ++ (W ++ (Z ++ G))))) := by simp
  have e2 : (cs ++ ((x :: (cv ++ (W ++ y :: Z))) ++ G)) = cs ++ ([x] ++ (cv ++ (W ++ ([y] ++ (Z ++ G))))) := by simp
  rw [e1, e2]
  have h1 : (cv ++ ([y] ++ ([x] ++ (cs ++ (W ++ (Z ++ G)))))).Perm (cv ++ ([x] ++ (cs ++ (W ++ ([y] ++ (Z ++ G)))))) := by
    refine List.Perm.append_left cv ?_
    refine (List.perm_append_comm_assoc [y] [x] _).trans (List.Perm.append_left [x] ?_)
    refine (List.perm_append_comm_assoc [y] cs _).trans (List.Perm.append_left cs ?_)
    exact List.perm_append_comm_assoc [y] W _
  refine h1.trans ?_
  refine (List.perm_append_comm_assoc cv [x] _).trans ?_
  have h2 : ([x] ++ (cv ++ (cs ++ (W ++ ([y] ++ (Z ++ G)))))).Perm ([x] ++ (cs ++ (cv ++ (W ++ ([y] ++ (Z ++ G)))))) := (List.perm_append_comm_assoc cv cs _).append_left [x]
  exact h2.trans (List.perm_append_comm_assoc [x] cs _)
set_option pp.deepTerms false
set_option pp.deepTerms.threshold 4
set_option maxHeartbeats 400000
end Go.Proofs.YtcjknmpogkofpaaGreat

/- Chapter 15's own answer: Used. -/
set_option linter.unusedVariables false
set_option linter.unusedSimpArgs false
namespace Go.Proofs.YtcjknmpogkofpaaGreat
open Go.RowKit
set_option maxRecDepth 20000
set_option maxRecDepth 20000

theorem encE_ones (t : HdT) : ∀ u ∈ encE t, u.oneCell' = true := by simp [Value.oneCell']
theorem eqC_zero {c : CapT} (h : c.kind ≠ 0) : eqC c capZ = false := by
  cases he : eqC c capZ with
  | false => rfl
  | true => exact absurd (by
      have : c = capZ := by simpa [eqC_iff] using he
      rw [this]) h
theorem ext_at {xs : Array Value} {o k j : Nat} {ys : List Value} {v : Value} (h : xs.extract o (o + k) = List.toArray ys) (hle : o + k ≤ xs.size) (hj : j < k) (hv : ys[j]? = some v) : xs[o + j]? = some v := by
  have h2 : (List.toArray ys)[j]? = ys[j]? := by simp
  rw [← hv, ← h2, ← h, Array.getElem?_extract, if_pos (by omega)]
set_option pp.deepTerms false
set_option pp.deepTerms.threshold 4
set_option maxHeartbeats 400000
end Go.Proofs.YtcjknmpogkofpaaGreat

/- The statements' helpers for lists of structs. -/
set_option linter.unusedVariables false
set_option linter.unusedSimpArgs false
namespace Go.Proofs.YtcjknmpogkofpaaGreat
open Go.RowKit
set_option maxRecDepth 20000
set_option maxRecDepth 20000

abbrev hdK : List (Option IntKind) := some .i64 :: some .i64 :: capK
instance : EQ Tryz.prog 220 hdK := ⟨by kernel_rfl⟩
theorem encE_k (h : HdT) : AllK hdK (encE h) := ⟨_, _, rfl, ⟨_, rfl⟩, _, _, rfl, ⟨_, rfl⟩, encC_k h.2⟩
theorem encE_inj (x y : HdT) (h : encE x = encE y) : x = y := by
  have e : ∀ z : HdT, encE z = [.int .i64 z.1.1, .int .i64 z.1.2] ++ encC z.2 := fun _ => rfl
  rw [e, e] at h
  obtain ⟨h1, h2⟩ := List.append_inj h rfl
  simp only [List.cons.injEq, Value.int.injEq, true_and, and_true] at h1
  exact Prod.ext (Prod.ext h1.1 h1.2) (encC_inj _ _ h2)
set_option pp.deepTerms false
set_option pp.deepTerms.threshold 4
set_option maxHeartbeats 400000 in
set_option maxRecDepth 20000 in
theorem sameHeld_any {α : Type} [DecidableEq α] (enc : α → List Value) (hin : ∀ x y, enc x = enc y → x = y) (hk : ∀ x, AllK hdK (enc x)) (v u : Value) (xs ys : List α) (l : List Chunk) (h1 : RowSl l v 10 enc xs) (h2 : RowSl l u 10 enc ys) (hx : xs.length ≤ 1000000) :
    Fn Tryz.prog 44 [v, u] l fun r l' => r = .bool (decide (xs = ys)) ∧ l' = l := by
  obtain ⟨a, ca, rfl, h1⟩ := h1
  obtain ⟨a', ca', rfl, h2⟩ := h2
  refine fn_of_body Tryz.func44 rfl rfl fun E => ?_
  simp only [argF, Tryz.ntmps44]
  by_cases hl : xs.length = ys.length
  · refine gz ?_
    refine k_loop (α := Nat) (fun k => [(0, .slice a xs.length ca), (1, .slice a' ys.length ca'), (5, .int .i64 k)]) (fun k => l) (fun k => k ≤ xs.length ∧ ∀ j, j < k → xs[j]? = ys[j]?) (fun k => xs.length - k) 0 ⟨Nat.zero_le _, fun j h => by omega⟩ ⟨rfl, rfl, rfl, trivial⟩ .refl ?_
    rintro k ⟨hk2, hj⟩
    by_cases hlt : k < xs.length
    · obtain ⟨b, off, cs, t, fz, rfl, hm, hc⟩ := h1 (by omega)
      obtain ⟨b', off', cs', t', fz', rfl, hm', hc'⟩ := h2 (by omega)
      obtain ⟨x, e1⟩ : ∃ x, xs[k]? = some x := ⟨_, List.getElem?_eq_getElem hlt⟩
      obtain ⟨y, e2⟩ : ∃ y, ys[k]? = some y := ⟨_, List.getElem?_eq_getElem (show k < ys.length by omega)⟩
      obtain ⟨g1, g2⟩ := hc k x e1
      obtain ⟨g1', g2'⟩ := hc' k y e2
      refine gz ?_
      refine c_draw [(0, true), (1, true), (2, true), (3, true), (4, true), (5, true), (6, true), (7, true), (8, true)] [[], [], [0, 1], [0, 1, 2], [], [], [4, 5], [4, 5, 6], [0, 1, 2, 3, 4, 5, 6, 7]] _ (by kernel_rfl) (by kernel_rfl) zAtt (fun _ h => h) ?_
      refine pz ?_
      apply pl_q
      · exact q_loadA rfl hm g1 g2
      · rfl
      · rfl
      · rfl
      refine pz ?_
      apply pl_q
      · exact q_loadA rfl hm' g1' g2'
      · rfl
      · rfl
      · rfl
      refine pz ?_
      apply pl_q
      · exact q_neagg rfl rfl (hk x) (hk y)
      · rfl
      · rfl
      · rfl
      by_cases hxy : x = y
      · rw [show (!eqCells (enc x) (enc y)) = false by rw [hxy, eqCells_self (hk y)]; rfl]
        refine pz ?_
        refine gz ?_
        exact k_next (k + 1) ⟨by omega, fun j hjk => by
          by_cases e : j = k
          · subst e; rw [e1, e2, hxy]
          · exact hj j (by omega)⟩ (by omega) ⟨rfl, rfl, rfl, trivial⟩ .refl
      · rw [show (!eqCells (enc x) (enc y)) = true by
          cases h : eqCells (enc x) (enc y) with
          | false => rfl
          | true => exact absurd (hin _ _ ((eqCells_iff (hk x) (hk y)).1 h)) hxy]
        refine pz ?_
        refine gz ?_
        refine k_ret [] rfl .refl (by exact zRes) ⟨?_, rfl⟩
        rw [show decide (xs = ys) = false from decide_eq_false fun e => by subst e; rw [e1] at e2; exact hxy (by cases e2; rfl)]; rfl
    · obtain rfl : k = xs.length := by omega
      refine gz ?_
      refine k_ret [] rfl .refl (by exact zRes) ⟨?_, rfl⟩
      rw [show decide (xs = ys) = true from decide_eq_true (List.ext_getElem? fun j => by
        by_cases h : j < xs.length
        · exact hj j h
        · rw [List.getElem?_eq_none (by omega), List.getElem?_eq_none (by omega)])]; rfl
  · refine gz ?_
    refine k_ret [] rfl .refl (by exact zRes) ⟨?_, rfl⟩
    rw [show decide (xs = ys) = false from decide_eq_false fun e => hl (by rw [e])]; rfl
set_option pp.deepTerms false
set_option pp.deepTerms.threshold 4
theorem ins_len (D : SD) (x : Int × List CapT) : (insK Prod.fst D x).length = D.length + 1 := (ins_perm D x).length_eq
theorem ValD.add {D : SD} (h : ValD D) (id n : Int) : ValD (addN D id n).2 := by
  unfold addN
  split
  · exact h
  split
  · exact h
  intro x hx c hc _
  rcases mem_ins.1 hx with rfl | hx
  · exact List.eq_of_mem_replicate hc
  · exact h x hx c hc (by assumption)
theorem ValD.drop {D : SD} (h : ValD D) (a : Int) : ValD (dropN D a).2 := by
  unfold dropN
  split
  · exact h
  · split
    · exact fun x hx => h x (List.mem_filter.1 hx).1
    · exact h
theorem ValD.set {D : SD} (h : ValD D) (s : slT) (c : CapT) : ValD (setD D s c).2 := by
  unfold setD
  split
  · split
    · rename_i hM
      intro x hx d hd h0
      obtain ⟨y, hy, rfl⟩ := List.mem_map.1 hx
      split at hd
      · rcases List.mem_or_eq_of_mem_set hd with hd | rfl
        · exact h y hy d hd h0
        · exact may_zero hM h0
      · exact h y hy d hd h0
    · exact h
  · exact h
def actX (D : SD) (x : ActS) : SD := if x.1.1 = 0 then (addN D x.2.1.1 x.1.2).2 else if x.1.1 = 1 then (dropN D x.2.1.1).2 else if x.1.1 = 3 then (setD D x.2.1 x.2.2).2 else D
theorem actX_val {D : SD} (h : ValD D) (x : ActS) : ValD (actX D x) := by
  unfold actX
  split
  · exact h.add _ _
  split
  · exact h.drop _
  split
  · exact h.set _ _
  · exact h
theorem actX_len (D : SD) (x : ActS) : (actX D x).length ≤ D.length + 1 := by
  unfold actX
  split
  · unfold addN
    split
    · simp
    split
    · simp
    · rw [ins_len]; simp
  split
  · unfold dropN
    split
    · simp
    · split
      · exact Nat.le_succ_of_le (List.length_filter_le ..)
      · simp
  split
  · unfold setD
    split
    · split
      · simp [putD]
      · simp
    · simp
  · simp
theorem RowSl.mono {α : Type} {l l' : List Chunk} {v : Value} {k : Nat} {enc : α → List Value} {xs : List α} (h : RowSl l v k enc xs) (hs : ∀ c, c ∈ l → c ∈ l') : RowSl l' v k enc xs := by
  obtain ⟨a, cap, h1, h2⟩ := h
  exact ⟨a, cap, h1, fun h0 => by
    obtain ⟨b, off, cs, t, fz, k1, k2, k3⟩ := h2 h0
    exact ⟨b, off, cs, t, fz, k1, hs _ k2, k3⟩⟩
end Go.Proofs.YtcjknmpogkofpaaGreat

/- The tree as plain data and its blocks: nodes told by a function of their block; New, of. -/
set_option linter.unusedVariables false
set_option linter.unusedSimpArgs false
namespace Go.Proofs.YtcjknmpogkofpaaGreat.Tr
open Go.RowKit
set_option maxRecDepth 20000
set_option maxRecDepth 20000

abbrev SlotT := Int × Int
abbrev encT (s : SlotT) : List Value := [.int .i64 s.1, .int .i64 s.2]
theorem encT_ok : EncOk encT [some .i64, some .i64] := ⟨fun a => ⟨_, _, rfl, ⟨_, rfl⟩, _, _, rfl, ⟨_, rfl⟩, rfl⟩, fun a b h => by
  simp only [encT, List.cons.injEq, Value.int.injEq, true_and, and_true] at h
  exact Prod.ext h.1 h.2⟩
structure NdT where
  sl : SlotT
  dp : Int
  pv : Nat
  nx : Nat
abbrev NdT.cells (x : NdT) : List Value := [.int .i64 x.sl.1, .int .i64 x.sl.2, .int .i64 x.dp, .pointer (some ⟨x.pv, 0, none⟩), .pointer (some ⟨x.nx, 0, none⟩)]
abbrev ndC (p : Nat) (x : NdT) : Chunk := (p, .cells (List.toArray x.cells) 323 (0, 0))
def chs (F : Nat → NdT) (all : List Nat) : List Chunk := all.map fun p => ndC p (F p)
theorem chs_mem {F : Nat → NdT} {all : List Nat} {p : Nat} (h : p ∈ all) : ndC p (F p) ∈ chs F all := List.mem_map.2 ⟨p, h, rfl⟩
theorem chs_congr {F F' : Nat → NdT} {all : List Nat} (h : ∀ p, p ∈ all → F p = F' p) : chs F all = chs F' all := List.map_congr_left fun p hp => by rw [h p hp]
theorem chs_upd {F : Nat → NdT} {all : List Nat} {p : Nat} (x : NdT) (hn : all.Nodup) (hp : p ∈ all) : Upd (chs F all) p (ndC p (F p)).2 (ndC p x).2 (chs (upd F p x) all) := by
  induction all with
  | nil => cases hp
  | cons q all ih =>
    rw [List.nodup_cons] at hn
    by_cases e : q = p
    · subst e
      have h1 : chs (upd F q x) all = chs F all := chs_congr fun r hr => upd_other _ _ _ _ fun e => hn.1 (e ▸ hr)
      show Upd (ndC q (F q) :: chs F all) q _ _ (ndC q (upd F q x q) :: chs (upd F q x) all)
      rw [upd_same, h1]
      exact .here
    · rcases List.mem_cons.1 hp with h | h
      · exact absurd h.symm e
      · show Upd (ndC q (F q) :: chs F all) p _ _ (ndC q (upd F p x q) :: chs (upd F p x) all)
        rw [upd_other _ _ _ _ e]
        exact .there (ih hn.2 h)
instance : EQ Tryz.prog 109 [some .i64, some .i64] := ⟨by kernel_rfl⟩
abbrev DT := List (SlotT × Int)
/-- one links to the next and back -/
def Adj (F : Nat → NdT) : List Nat → Prop
  | [] => True
  | [_] => True
  | a :: b :: r => (F a).nx = b ∧ (F b).pv = a ∧ Adj F (b :: r)
abbrev trC (b rb m : Nat) : Chunk := (b, .cells (List.toArray [.pointer (some ⟨rb, 0, none⟩), .map (some m)]) 321 (0, 0))
structure TB (b rb m : Nat) (F : Nat → NdT) (all os : List Nat) (es : List (EntS SlotT)) (clock : Nat) (lq : List Chunk) : Prop where
  eq : lq = trC b rb m :: (m, mapS encT es clock) :: chs F all
  nd : all.Nodup
  rin : rb ∈ all
  sub : ∀ p, p ∈ os → p ∈ all
  ond : (rb :: os).Nodup
  adj : Adj F (rb :: (os ++ [rb]))
  snd : (os.map fun p => (F p).sl).Nodup
  keys : KeysOk es clock
  get : ∀ s, getS s es = (os.find? fun p => decide ((F p).sl = s)).map fun p => .pointer (some ⟨p, 0, none⟩)
def dOf (F : Nat → NdT) (os : List Nat) : DT := os.map fun p => ((F p).sl, (F p).dp)
def IsT (b : Nat) (D : DT) (lq : List Chunk) : Prop := ∃ rb m F all os es clock, dOf F os = D ∧ TB b rb m F all os es clock lq
theorem TB.m1 {b rb m : Nat} {F : Nat → NdT} {all os : List Nat} {es : List (EntS SlotT)} {clock : Nat} {lq : List Chunk} (h : TB b rb m F all os es clock lq) : trC b rb m ∈ lq := by rw [h.eq]; exact .head _
theorem TB.m2 {b rb m : Nat} {F : Nat → NdT} {all os : List Nat} {es : List (EntS SlotT)} {clock : Nat} {lq : List Chunk} (h : TB b rb m F all os es clock lq) : (m, mapS encT es clock) ∈ lq := by rw [h.eq]; exact .tail _ (.head _)
theorem TB.m3 {b rb m : Nat} {F : Nat → NdT} {all os : List Nat} {es : List (EntS SlotT)} {clock : Nat} {lq : List Chunk} (h : TB b rb m F all os es clock lq) {p : Nat} (hp : p ∈ all) : ndC p (F p) ∈ lq := by rw [h.eq]; exact .tail _ (.tail _ (chs_mem hp))
/-- the block of a slot -/
def blk (F : Nat → NdT) (os : List Nat) (s : SlotT) : Option Nat := os.find? fun p => decide ((F p).sl = s)
theorem blk_some {F : Nat → NdT} {os : List Nat} {s : SlotT} {p : Nat} (h : blk F os s = some p) : p ∈ os ∧ (F p).sl = s :=
  ⟨List.mem_of_find?_eq_some h, by have := List.find?_some h; simpa using this⟩
def ptrO : Option Nat → Value
  | some p => .pointer (some ⟨p, 0, none⟩)
  | none => .pointer none
set_option pp.deepTerms false
set_option pp.deepTerms.threshold 4
set_option maxHeartbeats 400000
theorem of_any (b rb m : Nat) (F : Nat → NdT) (all os : List Nat) (es : List (EntS SlotT)) (clock : Nat) (lq : List Chunk) (s : SlotT) (hT : TB b rb m F all os es clock lq) (l : List Chunk) (hsub : ∀ c, c ∈ lq → c ∈ l) :
    Fn Tryz.prog 191 [.pointer (some ⟨b, 0, none⟩), .agg (List.toArray (encT s))] l fun v l' => v = ptrO (blk F os s) ∧ l' = l := by
  have h1 := hsub _ hT.m1
  have h2 := hsub _ hT.m2
  have hg : (getS s es).getD (.pointer none) = ptrO (blk F os s) := by
    rw [hT.get]; unfold blk; cases os.find? fun p => decide ((F p).sl = s) <;> rfl
  refine fn_of_body Tryz.func191 rfl rfl fun E => ?_
  simp only [argF, Tryz.ntmps191]
  refine gz ?_
  refine t_e (e_boxA rfl) rfl rfl rfl ?_
  rintro _ _ ⟨b3, hb3, rfl, rfl⟩
  refine gz ?_
  refine c_draw [(0, true), (1, true), (2, true), (3, true), (4, true), (5, true), (6, true)] [[], [0], [0, 1], [0, 1, 2], [], [0, 1, 2, 3, 4], [0, 1, 2, 3, 4, 5]] _ (by kernel_rfl) (by kernel_rfl) zAtt (fun _ h => h) ?_
  refine pz ?_
  apply pl_q
  · apply q_lookupS (enc := encT) (a := s) (es := es) (clock := clock) (ks := [some .i64, some .i64])
    · rfl
    · rfl
    · exact encT_ok
    · exact .tail _ h2
  · rfl
  · rfl
  · rfl
  rw [hg]
  refine pz ?_
  refine gz ?_
  exact k_ret [] rfl (.drop .refl) (by exact zRes) ⟨rfl, rfl⟩
theorem of_nil (s : SlotT) (l : List Chunk) : Fn Tryz.prog 191 [.pointer none, .agg (List.toArray (encT s))] l fun v l' => v = .pointer none ∧ l' = l := by
  refine fn_of_body Tryz.func191 rfl rfl fun E => ?_
  simp only [argF, Tryz.ntmps191]
  refine gz ?_
  refine t_e (e_boxA rfl) rfl rfl rfl ?_
  rintro _ _ ⟨b3, hb3, rfl, rfl⟩
  refine gz ?_
  exact k_ret [] rfl (.drop .refl) (by exact zRes) ⟨rfl, rfl⟩
theorem new_any (l : List Chunk) : Fn Tryz.prog 138 [] l fun v l' => ∃ b, v = .pointer (some ⟨b, 0, none⟩) ∧ ∃ lq, IsT b [] lq ∧ l' = lq ++ l := by
  refine fn_of_body Tryz.func138 rfl rfl fun E => ?_
  simp only [argF, Tryz.ntmps138]
  refine gz ?_
  refine t_e (e_boxA rfl) rfl rfl rfl ?_
  rintro _ _ ⟨rb, hrb, rfl, rfl⟩
  refine gz ?_
  refine t_e e_makeMap rfl rfl rfl ?_
  rintro _ _ ⟨m, hm, rfl, rfl⟩
  refine gz ?_
  refine t_e (e_boxA rfl) rfl rfl rfl ?_
  rintro _ _ ⟨b, hb, rfl, rfl⟩
  refine gz ?_
  exact k_ret [] rfl .refl (by exact zRes) ⟨b, rfl, [trC b rb m, (m, .map #[] 0), ndC rb ⟨(0, 0), 0, rb, rb⟩], ⟨rb, m, fun _ => ⟨(0, 0), 0, rb, rb⟩, [rb], [], [], 0, rfl, ⟨rfl, by simp, by simp, by simp, by simp, ⟨rfl, rfl, trivial⟩, by simp, ⟨by simp, by simp, by simp⟩, fun s => rfl⟩⟩, rfl⟩
end Go.Proofs.YtcjknmpogkofpaaGreat.Tr

/- The tree: a node put behind another one. -/
set_option linter.unusedVariables false
set_option linter.unusedSimpArgs false
namespace Go.Proofs.YtcjknmpogkofpaaGreat.Tr
open Go.RowKit
set_option maxRecDepth 20000
set_option maxRecDepth 20000

theorem adj_cons {F : Nat → NdT} {a b : Nat} {r : List Nat} : Adj F (a :: b :: r) ↔ (F a).nx = b ∧ (F b).pv = a ∧ Adj F (b :: r) := Iff.rfl
theorem adj_same {F F' : Nat → NdT} : ∀ {L : List Nat}, Adj F L → (∀ u, u ∈ L.dropLast → (F' u).nx = (F u).nx) → (∀ v, v ∈ L.tail → (F' v).pv = (F v).pv) → Adj F' L
  | [], _, _, _ => trivial
  | [_], _, _, _ => trivial
  | a :: b :: r, ⟨h1, h2, h3⟩, hn, hp => by
    refine ⟨by rw [hn a (by simp [List.dropLast]), h1], by rw [hp b (by simp), h2], adj_same h3 (fun u hu => hn u ?_) fun v hv => hp v ?_⟩
    · simp only [List.dropLast_cons_of_ne_nil (List.cons_ne_nil b r), List.mem_cons]; exact .inr hu
    · simp only [List.tail_cons] at hv ⊢; exact List.mem_cons_of_mem _ hv
theorem adj_insert {F F' : Nat → NdT} {p n x : Nat} {Z : List Nat} : ∀ {X : List Nat}, Adj F (X ++ p :: n :: Z) → (X ++ p :: n :: Z).dropLast.Nodup → (X ++ p :: n :: Z).tail.Nodup → x ∉ X ++ p :: n :: Z →
    (∀ u, u ≠ x → u ≠ p → (F' u).nx = (F u).nx) → (∀ v, v ≠ x → v ≠ n → (F' v).pv = (F v).pv) → (F' p).nx = x → (F' x).pv = p → (F' x).nx = n → (F' n).pv = x → Adj F' (X ++ p :: x :: n :: Z)
  | [], ⟨h1, h2, h3⟩, hs, ht, hx, hn, hp, k1, k2, k3, k4 => by
    refine ⟨k1, k2, k3, k4, adj_same h3 (fun u hu => hn u ?_ ?_) fun v hv => hp v ?_ ?_⟩
    · rintro rfl; exact hx (List.mem_cons_of_mem _ (List.dropLast_subset _ hu))
    · rintro rfl
      have : (u :: (n :: Z).dropLast).Nodup := by simpa using hs
      exact (List.nodup_cons.1 this).1 hu
    · rintro rfl; exact hx (by simp only [List.nil_append, List.mem_cons, List.tail_cons] at hv ⊢; exact .inr (.inr hv))
    · rintro rfl
      have : (v :: Z).Nodup := by simpa using ht
      exact (List.nodup_cons.1 this).1 hv
  | [a], ⟨h1, h2, h3⟩, hs, ht, hx, hn, hp, k1, k2, k3, k4 => by
    have hs1 : (a :: (p :: n :: Z).dropLast).Nodup := by simpa using hs
    have hs2 := List.nodup_cons.1 hs1
    have ht1 : (p :: n :: Z).Nodup := by simpa using ht
    have ht2 := List.nodup_cons.1 ht1
    refine ⟨by rw [hn a (fun e => hx (by simp [e])) (fun e => hs2.1 (by rw [e]; simp [List.dropLast]))]; exact h1, by rw [hp p (fun e => hx (by simp [e])) (fun e => ht2.1 (by rw [e]; simp))]; exact h2, ?_⟩
    exact adj_insert (X := []) h3 hs2.2 ht2.2 (fun h => hx (List.mem_cons_of_mem _ h)) hn hp k1 k2 k3 k4
  | a :: b :: X, ⟨h1, h2, h3⟩, hs, ht, hx, hn, hp, k1, k2, k3, k4 => by
    have hs1 : (a :: ((b :: X) ++ p :: n :: Z).dropLast).Nodup := by
      have : ((a :: b :: X) ++ p :: n :: Z).dropLast = a :: ((b :: X) ++ p :: n :: Z).dropLast := List.dropLast_cons_of_ne_nil (by simp)
      rwa [this] at hs
    have hs2 := List.nodup_cons.1 hs1
    have ht1 : (b :: (X ++ p :: n :: Z)).Nodup := ht
    have ht2 := List.nodup_cons.1 ht1
    have hpd : p ∈ ((b :: X) ++ p :: n :: Z).dropLast := by
      rw [List.dropLast_append_of_ne_nil (by simp)]
      exact List.mem_append_right _ (by simp [List.dropLast])
    refine ⟨by rw [hn a (fun e => hx (by simp [e])) (fun e => hs2.1 (by rw [e]; exact hpd))]; exact h1, by rw [hp b (fun e => hx (by simp [e])) (fun e => ht2.1 (by rw [e]; simp))]; exact h2, ?_⟩
    exact adj_insert (X := b :: X) h3 hs2.2 ht2.2 (fun h => hx (List.mem_cons_of_mem _ h)) hn hp k1 k2 k3 k4
theorem adj_at {F : Nat → NdT} {p n : Nat} {Z : List Nat} : ∀ {X : List Nat}, Adj F (X ++ p :: n :: Z) → (F p).nx = n ∧ (F n).pv = p
  | [], ⟨h1, h2, _⟩ => ⟨h1, h2⟩
  | [a], ⟨_, _, h⟩ => adj_at (X := []) h
  | a :: b :: X, ⟨_, _, h⟩ => adj_at (X := b :: X) h
theorem upd_left {l l' : List Chunk} {b : Nat} {o o' : Obj} (h : Upd l b o o' l') (r : List Chunk) : Upd (l ++ r) b o o' (l' ++ r) := by
  induction h with
  | here => exact .here
  | there _ ih => exact .there ih
theorem blk_none {F : Nat → NdT} {os : List Nat} {s : SlotT} (h : blk F os s = none) : ∀ p, p ∈ os → (F p).sl ≠ s := fun p hp e => by
  have := List.find?_eq_none.1 h p hp
  simp [e] at this
theorem fresh_nd {p : Nat} {F : Nat → NdT} {all : List Nat} {l : List Chunk} (hf : ∀ c, c ∈ l → c.1 ≠ p) (hs : ∀ c, c ∈ chs F all → c ∈ l) : p ∉ all := fun h => hf _ (hs _ (chs_mem h)) rfl
set_option pp.deepTerms false
set_option pp.deepTerms.threshold 4
set_option maxHeartbeats 400000
theorem put_any (b rb m : Nat) (F : Nat → NdT) (all os : List Nat) (es : List (EntS SlotT)) (clock : Nat) (lq : List Chunk) (hT : TB b rb m F all os es clock lq) (X Y : List Nat) (p : Nat) (hX : rb :: os = X ++ p :: Y) (s : SlotT) (dp : Int) (hs : blk F os s = none) (G : List Chunk) :
    Fn Tryz.prog 192 [.pointer (some ⟨b, 0, none⟩), .pointer (some ⟨p, 0, none⟩), .agg (List.toArray (encT s)), .int .i64 dp] (lq ++ G) fun v l' => v = .tuple #[] ∧ ∃ lq', IsT b ((dOf F os).take X.length ++ (s, dp) :: (dOf F os).drop X.length) lq' ∧ l' = lq' ++ G := by
  obtain ⟨n, Z, hnZ⟩ : ∃ n Z, Y ++ [rb] = n :: Z := by cases Y with | nil => exact ⟨_, _, rfl⟩ | cons y Y => exact ⟨_, _, rfl⟩
  have hL : rb :: (os ++ [rb]) = X ++ p :: n :: Z := by rw [← List.cons_append, hX, List.append_assoc, List.cons_append, hnZ]
  have hadj := hT.adj
  rw [hL] at hadj
  obtain ⟨hpn, hnp⟩ := adj_at hadj
  have hcyc : ∀ q, q ∈ X ++ p :: n :: Z → q ∈ all := fun q hq => by
    rw [← hL] at hq
    rcases List.mem_cons.1 hq with rfl | hq
    · exact hT.rin
    · rcases List.mem_append.1 hq with hq | hq
      · exact hT.sub q hq
      · rw [List.mem_singleton.1 hq]; exact hT.rin
  have hpa : p ∈ all := hcyc p (by simp)
  have hna : n ∈ all := hcyc n (by simp)
  refine fn_of_body Tryz.func192 rfl rfl fun E => ?_
  simp only [argF, Tryz.ntmps192]
  refine gz ?_
  refine t_e (e_boxA rfl) rfl rfl rfl ?_
  rintro _ _ ⟨b6, hb6, rfl, rfl⟩
  have hEq := hT.eq
  have hmp : ndC p (F p) ∈ lq ++ G := List.mem_append_left _ (hT.m3 hpa)
  refine gz ?_
  refine c_draw [(0, true), (1, true), (2, true), (3, true), (4, true), (5, true), (6, true), (7, true), (8, false), (9, true)] [[], [], [], [], [3], [3, 4], [3, 4, 5], [0, 1, 2, 3, 4, 5, 6], [0, 1, 2, 3, 4, 5, 6, 7], [0, 1, 2, 3, 4, 5, 6, 7, 8]] _ (by kernel_rfl) (by kernel_rfl) zAtt (fun _ h => h) ?_
  refine pz ?_
  apply pl_e
  · exact e_boxA rfl
  · rfl
  · rfl
  · rfl
  · rintro _ _ ⟨x, _, _, rfl⟩ c hc; exact .tail _ hc
  rintro _ _ ⟨x, hx, rfl, rfl⟩
  refine pz ?_
  have hxa : x ∉ all := fun h => hx _ (.tail _ (List.mem_append_left _ (hT.m3 h))) rfl
  rw [hpn]
  obtain ⟨F1, hF1⟩ : ∃ F1, F1 = upd F x ⟨s, dp, p, n⟩ := ⟨_, rfl⟩
  have e1x : F1 x = ⟨s, dp, p, n⟩ := by rw [hF1, upd_same]
  have e1o : ∀ q, q ≠ x → F1 q = F q := fun q hq => by rw [hF1, upd_other _ _ _ _ hq]
  have hpx : p ≠ x := fun e => hxa (e ▸ hpa)
  have hnx : n ≠ x := fun e => hxa (e ▸ hna)
  have hnd1 : (x :: all).Nodup := List.nodup_cons.2 ⟨hxa, hT.nd⟩
  have hc1 : chs F1 (x :: all) = ndC x ⟨s, dp, p, n⟩ :: chs F all := by
    show ndC x (F1 x) :: chs F1 all = _
    rw [e1x, chs_congr (F := F1) (F' := F) fun q hq => e1o q fun e => hxa (e ▸ hq)]
  refine p_keep (l' := trC b rb m :: (m, mapS encT es clock) :: (chs F1 (x :: all) ++ ((b6, .cells (List.toArray (encT s)) 109 (0, 0)) :: G))) (Keep.of_perm ?_) ?_
  · rw [hEq, hc1]
    refine (List.perm_append_comm_assoc [(x, _), (b6, _)] [trC b rb m, (m, mapS encT es clock)] (chs F all ++ G)).trans ?_
    refine List.Perm.cons _ (List.Perm.cons _ (List.Perm.cons _ ?_))
    exact (List.perm_middle (l₁ := chs F all)).symm
  have hmx : ndC x (F1 x) ∈ trC b rb m :: (m, mapS encT es clock) :: (chs F1 (x :: all) ++ ((b6, .cells (List.toArray (encT s)) 109 (0, 0)) :: G)) := .tail _ (.tail _ (List.mem_append_left _ (chs_mem (.head _))))
  rw [e1x] at hmx
  refine gz ?_
  refine c_draw [(0, true), (1, true), (2, true), (3, true), (4, true), (5, true), (6, true), (7, true), (8, true), (9, true), (10, true), (11, true), (12, false), (13, true), (14, true), (15, false)] [[], [0], [0, 1], [0, 1, 2], [], [4], [4, 5], [4, 5, 6], [], [], [0, 1, 2, 3, 4, 5, 6, 7, 8], [0, 1, 2, 3, 4, 5, 6, 7, 8, 10], [0, 1, 2, 3, 4, 5, 6, 7, 8, 10, 11], [0, 1, 2, 3, 4, 5, 6, 7, 8, 9, 10, 11, 12], [0, 1, 2, 3, 4, 5, 6, 7, 8, 9, 10, 11, 12, 13], [0, 1, 2, 3, 4, 5, 6, 7, 8, 9, 10, 11, 12, 13, 14]] ([]) (by kernel_rfl) (by kernel_rfl) zAtt zHR ?_
  refine pz ?_
  apply pl_s (S := [ndC x ⟨s, dp, p, n⟩])
  · exact q_load rfl (.head _) rfl
  · intro c hc; cases hc with
    | head => exact hmx
    | tail _ h => cases h
  · rfl
  · rfl
  · rfl
  refine pz ?_
  apply pl_s (S := [ndC x ⟨s, dp, p, n⟩])
  · exact q_load rfl (.head _) rfl
  · intro c hc; cases hc with
    | head => exact hmx
    | tail _ h => cases h
  · rfl
  · rfl
  · rfl
  refine pz ?_
  obtain ⟨F2, hF2⟩ : ∃ F2, F2 = upd F1 p { F1 p with nx := x } := ⟨_, rfl⟩
  obtain ⟨F3, hF3⟩ : ∃ F3, F3 = upd F2 n { F2 n with pv := x } := ⟨_, rfl⟩
  apply pl_nS
  · exact e_store (b := p) (off := 4) (cs := List.toArray (F1 p).cells) rfl rfl rfl (.there (.there (upd_left (chs_upd { F1 p with nx := x } hnd1 (List.mem_cons_of_mem _ hpa)) _))) (by simp)
  · rfl
  · rfl
  · intro _ _ _ c hc; cases hc
  · exact fun _ _ _ x hx ha => anc_all (by kernel_rfl) hx ha
  rintro _ _ ⟨rfl, rfl⟩
  rw [← hF2]
  refine pz ?_
  apply pl_nS
  · exact e_store (b := n) (off := 3) (cs := List.toArray (F2 n).cells) rfl rfl rfl (.there (.there (upd_left (chs_upd { F2 n with pv := x } hnd1 (List.mem_cons_of_mem _ hna)) _))) (by simp)
  · rfl
  · rfl
  · intro _ _ _ c hc; cases hc
  · exact fun _ _ _ x hx ha => anc_all (by kernel_rfl) hx ha
  rintro _ _ ⟨rfl, rfl⟩
  rw [← hF3]
  refine pz ?_
  have hm6 : (b6, Obj.cells (List.toArray (encT s)) 109 (0, 0)) ∈ chs F3 (x :: all) ++ ((b6, .cells (List.toArray (encT s)) 109 (0, 0)) :: G) := List.mem_append_right _ (.head _)
  refine gz ?_
  refine c_draw [(0, true), (1, true), (2, true), (3, true), (4, true), (5, true), (6, false)] [[], [0], [0, 1], [0, 1, 2], [], [], [0, 1, 2, 3, 4, 5]] ([trC b rb m]) (by kernel_rfl) (by kernel_rfl) zAtt zHR ?_
  refine pz ?_
  apply pl_s (S := [(b6, .cells (List.toArray (encT s)) 109 (0, 0))])
  · exact q_loadL rfl (.head _) (by (repeat (first | with_reducible apply LSub.done | with_reducible apply LSub.take | with_reducible apply LSub.drop)))
  · intro c hc; cases hc with
    | head => exact .tail _ (.tail _ hm6)
    | tail _ h => cases h
  · rfl
  · rfl
  · rfl
  refine pz ?_
  apply pl_nS
  · apply e_mapUpdateS (enc := encT) (a := s) (es := es) (clock := clock) (ks := [some .i64, some .i64])
    · rfl
    · rfl
    · rfl
    · exact encT_ok
    · exact zUpd
  · rfl
  · rfl
  · rintro _ _ ⟨rfl, rfl⟩ c hc
    cases hc with
    | head => exact .head _
    | tail _ h => cases h
  · exact fun _ _ _ x hx ha => anc_all (by kernel_rfl) hx ha
  rintro _ _ ⟨rfl, rfl⟩
  refine pz ?_
  refine gz ?_
  obtain ⟨A, hA, hos⟩ : ∃ A, X ++ [p] = rb :: A ∧ os = A ++ Y := by
    have h : rb :: os = (X ++ [p]) ++ Y := by rw [hX]; simp
    cases hXp : X ++ [p] with
    | nil => simp at hXp
    | cons a A =>
      rw [hXp, List.cons_append, List.cons.injEq] at h
      exact ⟨A, by rw [h.1], h.2⟩
  have hAl : A.length = X.length := by have := congrArg List.length hA; simp at this; omega
  have e3 : ∀ q, (F3 q).sl = (F1 q).sl ∧ (F3 q).dp = (F1 q).dp := fun q => by
    rw [hF3, hF2]; unfold upd
    split <;> split <;> simp_all
  have e3n : ∀ q, (F3 q).nx = if q = p then x else (F1 q).nx := fun q => by
    rw [hF3, hF2]; unfold upd
    split <;> split <;> simp_all
  have e3p : ∀ q, (F3 q).pv = if q = n then x else (F1 q).pv := fun q => by
    rw [hF3, hF2]; unfold upd
    split <;> split <;> simp_all
  have hosa : ∀ q, q ∈ os → q ≠ x := fun q hq e => hxa (e ▸ hT.sub q hq)
  have eo : ∀ q, q ∈ os → (F3 q).sl = (F q).sl ∧ (F3 q).dp = (F q).dp := fun q hq => by
    rw [(e3 q).1, (e3 q).2, e1o q (hosa q hq)]; exact ⟨rfl, rfl⟩
  have ex : (F3 x).sl = s ∧ (F3 x).dp = dp := by rw [(e3 x).1, (e3 x).2, e1x]; exact ⟨rfl, rfl⟩
  have hno := blk_none hs
  obtain ⟨lq', hlq'⟩ : ∃ lq', lq' = trC b rb m :: (m, mapS encT (setS s (.pointer (some ⟨x, 0, none⟩)) clock es).1 (setS s (.pointer (some ⟨x, 0, none⟩)) clock es).2) :: chs F3 (x :: all) := ⟨_, rfl⟩
  refine k_ret [] rfl (l' := lq' ++ G) ?_ (by exact zRes) ⟨rfl, lq', ⟨rb, m, F3, x :: all, A ++ x :: Y, _, _, ?_, ⟨hlq', hnd1, List.mem_cons_of_mem _ hT.rin, fun q hq => ?_, ?_, ?_, ?_, hT.keys.set _ _, fun s' => ?_⟩⟩, rfl⟩
  · rw [hlq']
    refine ⟨[(b6, .cells (List.toArray (encT s)) 109 (0, 0))], ?_⟩
    refine ((List.Perm.cons _ (List.Perm.cons _ List.perm_middle)).trans ?_)
    exact List.perm_append_comm_assoc [_, _] [_] _
  · unfold dOf
    rw [hos, List.map_append, List.map_cons, List.map_append, ← hAl]
    rw [List.take_left' (by simp), List.drop_left' (by simp), ex.1, ex.2]
    congr 1
    · apply List.map_congr_left
      intro q hq
      have := eo q (by rw [hos]; exact List.mem_append_left _ hq)
      rw [this.1, this.2]
    · congr 1
      apply List.map_congr_left
      intro q hq
      have := eo q (by rw [hos]; exact List.mem_append_right _ hq)
      rw [this.1, this.2]
  · rcases List.mem_append.1 hq with hq | hq
    · exact List.mem_cons_of_mem _ (hT.sub q (by rw [hos]; exact List.mem_append_left _ hq))
    · rcases List.mem_cons.1 hq with rfl | hq
      · exact .head _
      · exact List.mem_cons_of_mem _ (hT.sub q (by rw [hos]; exact List.mem_append_right _ hq))
  · have hp2 : (rb :: (A ++ x :: Y)).Perm (x :: (rb :: os)) := by
      rw [hos]
      exact (List.Perm.cons _ List.perm_middle).trans (List.Perm.swap _ _ _)
    rw [hp2.nodup_iff, List.nodup_cons]
    refine ⟨fun h => ?_, hT.ond⟩
    rcases List.mem_cons.1 h with h | h
    · exact hxa (h ▸ hT.rin)
    · exact hosa x h rfl
  · have hL2 : rb :: ((A ++ x :: Y) ++ [rb]) = X ++ p :: x :: n :: Z := by
      have : rb :: ((A ++ x :: Y) ++ [rb]) = (rb :: A) ++ (x :: (Y ++ [rb])) := by simp
      rw [this, ← hA, hnZ]; simp
    rw [hL2]
    refine adj_insert hadj ?_ ?_ (fun h => hxa (hcyc x h)) (fun u h1 h2 => ?_) (fun v h1 h2 => ?_) ?_ ?_ ?_ ?_
    · rw [← hL, ← List.cons_append, List.dropLast_concat]; exact hT.ond
    · rw [← hL, List.tail_cons, List.nodup_append]
      have := List.nodup_cons.1 hT.ond
      exact ⟨this.2, by simp, fun a ha c hc e => this.1 (by rw [List.mem_singleton.1 hc] at e; rw [← e]; exact ha)⟩
    · rw [e3n, if_neg h2, e1o u h1]
    · rw [e3p, if_neg h2, e1o v h1]
    · rw [e3n, if_pos rfl]
    · rw [e3p, if_neg (fun e => hnx e.symm), e1x]
    · rw [e3n, if_neg (fun e => hpx e.symm), e1x]
    · rw [e3p, if_pos rfl]
  · have hmp2 : ((A ++ x :: Y).map fun q => (F3 q).sl).Perm (s :: os.map fun q => (F q).sl) := by
      rw [hos, List.map_append, List.map_cons, List.map_append, ex.1]
      have h1 : A.map (fun q => (F3 q).sl) = A.map (fun q => (F q).sl) := List.map_congr_left fun q hq => (eo q (by rw [hos]; exact List.mem_append_left _ hq)).1
      have h2 : Y.map (fun q => (F3 q).sl) = Y.map (fun q => (F q).sl) := List.map_congr_left fun q hq => (eo q (by rw [hos]; exact List.mem_append_right _ hq)).1
      rw [h1, h2]
      exact List.perm_middle
    rw [hmp2.nodup_iff, List.nodup_cons]
    exact ⟨fun h => by obtain ⟨q, hq, e⟩ := List.mem_map.1 h; exact hno q hq e, hT.snd⟩
  · rw [getS_set]
    have hfA : ∀ B : List Nat, (∀ q, q ∈ B → q ∈ os) → B.find? (fun q => decide ((F3 q).sl = s')) = B.find? (fun q => decide ((F q).sl = s')) := fun B hB => by
      induction B with
      | nil => rfl
      | cons z B ih =>
        rw [List.find?_cons, List.find?_cons, (eo z (hB z List.mem_cons_self)).1, ih fun q hq => hB q (List.mem_cons_of_mem _ hq)]
    rw [List.find?_append, hfA A (fun q hq => by rw [hos]; exact List.mem_append_left _ hq), List.find?_cons, ex.1]
    by_cases hss : s' = s
    · rw [if_pos hss, decide_eq_true hss.symm]
      have : A.find? (fun q => decide ((F q).sl = s')) = none := List.find?_eq_none.2 fun q hq => by
        have := hno q (by rw [hos]; exact List.mem_append_left _ hq)
        simpa [hss] using this
      rw [this]; rfl
    · rw [if_neg hss, decide_eq_false (fun e => hss e.symm), hT.get, hos, List.find?_append, hfA Y (fun q hq => by rw [hos]; exact List.mem_append_right _ hq)]
end Go.Proofs.YtcjknmpogkofpaaGreat.Tr

/- The tree: the two iterators. -/
set_option linter.unusedVariables false
set_option linter.unusedSimpArgs false
namespace Go.Proofs.YtcjknmpogkofpaaGreat.Tr
open Go.RowKit
set_option maxRecDepth 20000
set_option maxRecDepth 20000

section
variable {P : Program} {ro : Option Nat} {N : Nat} {E : World} {ops : Array Oper} {Q : Exit → Act → World → Prop} {R : List Chunk} {tbl : List (List Nat)} {sw : Sw} {sp : Spec} {pl : List PlanOp} {o : Oper} {fr fr' : Fr} {ds : List Deferred} {l l' : List Chunk} {K : Value → List Chunk → Prop} {v : Value} {i : Nat} {k : Bool}
/-- an effect under a guard that is met, while special blocks are looked at -/
theorem pl_geS {d : Nat} (h : OpE P ro N fr l o K) (hw : gst ops fr o.guard = some true) (hd : o.dst = some d) (hb : Nat.blt d N = true) (hR : ∀ v l', K v l' → (∀ c, c ∈ R → c ∈ l')) (hS : ∀ v l', K v l' → ∀ x, x ∈ sp → ancOf tbl i x.1 = false → ∀ c, c ∈ x.2 → c ∈ l') (hk : ∀ v l', K v l' → PlanS P ro N E ops Q R tbl none sp pl ((d, v) :: fr) ds l') : PlanS P ro N E ops Q R tbl none sp ((i, false, o) :: pl) fr ds l := by
  rcases gst_some hw with ⟨h1, _⟩ | ⟨j, b, oj, dj, b', h1, h2, h3, h4, h5⟩
  · exact pl_eS h h1 hd hb hR hS hk
  · have : b' = b := by simpa using h5
    subst this
    exact .ge h h1 h2 h3 h4 (by rw [hd]; exact hb) hR hS fun v l' hkv => by rw [hd]; exact hk v l' hkv
end
theorem nep_t {q r : Nat} (h : q ≠ r) : (!decide ((⟨q, 0, none⟩ : Addr) = ⟨r, 0, none⟩)) = true := by
  rw [decide_eq_false (fun e => h (by injection e))]; rfl
theorem nep_f (q : Nat) : (!decide ((⟨q, 0, none⟩ : Addr) = ⟨q, 0, none⟩)) = false := by
  rw [decide_eq_true rfl]; rfl
theorem TB.nxt {b rb m : Nat} {F : Nat → NdT} {all os : List Nat} {es : List (EntS SlotT)} {clock : Nat} {lq : List Chunk} (h : TB b rb m F all os es clock lq) {X Y : List Nat} {p : Nat} (hX : rb :: os = X ++ p :: Y) : (F p).nx = Y.headD rb := by
  have hadj := h.adj
  rw [show rb :: (os ++ [rb]) = X ++ p :: (Y ++ [rb]) by rw [← List.cons_append, hX, List.append_assoc, List.cons_append]] at hadj
  cases Y with
  | nil => exact (adj_at (Z := []) hadj).1
  | cons y Y => exact (adj_at (Z := Y ++ [rb]) hadj).1
theorem TB.prv {b rb m : Nat} {F : Nat → NdT} {all os : List Nat} {es : List (EntS SlotT)} {clock : Nat} {lq : List Chunk} (h : TB b rb m F all os es clock lq) {X Y : List Nat} {p : Nat} (hX : rb :: os = X ++ p :: Y) : (F (Y.headD rb)).pv = p := by
  have hadj := h.adj
  rw [show rb :: (os ++ [rb]) = X ++ p :: (Y ++ [rb]) by rw [← List.cons_append, hX, List.append_assoc, List.cons_append]] at hadj
  cases Y with
  | nil => exact (adj_at (Z := []) hadj).2
  | cons y Y => exact (adj_at (Z := Y ++ [rb]) hadj).2
/-- what stands in a list of slots: ahead of a slot, its depth, behind it -/
def splitD (s : SlotT) : DT → Option (DT × Int × DT)
  | [] => none
  | x :: r => if x.1 = s then some ([], x.2, r) else (splitD s r).map fun y => (x :: y.1, y.2.1, y.2.2)
theorem split_blk {F : Nat → NdT} {s : SlotT} : ∀ {os : List Nat} {p : Nat}, blk F os s = some p → ∃ A B, os = A ++ p :: B ∧ splitD s (dOf F os) = some (dOf F A, (F p).dp, dOf F B)
  | [], _, h => by cases h
  | q :: os, p, h => by
    unfold blk at h
    rw [List.find?_cons] at h
    by_cases e : (F q).sl = s
    · rw [decide_eq_true e] at h
      cases h
      exact ⟨[], os, rfl, by show splitD s (((F q).sl, (F q).dp) :: dOf F os) = _; unfold splitD; rw [if_pos e]; rfl⟩
    · rw [decide_eq_false e] at h
      obtain ⟨A, B, rfl, h2⟩ := split_blk (os := os) h
      exact ⟨q :: A, B, rfl, by show splitD s (((F q).sl, (F q).dp) :: dOf F _) = _; unfold splitD; rw [if_neg e, h2]; rfl⟩
theorem split_none {F : Nat → NdT} {s : SlotT} : ∀ {os : List Nat}, blk F os s = none → splitD s (dOf F os) = none
  | [], _ => rfl
  | q :: os, h => by
    unfold blk at h
    rw [List.find?_cons] at h
    by_cases e : (F q).sl = s
    · rw [decide_eq_true e] at h; cases h
    · rw [decide_eq_false e] at h
      show splitD s (((F q).sl, (F q).dp) :: dOf F os) = none
      unfold splitD; rw [if_neg e, split_none (os := os) h]; rfl
set_option pp.deepTerms false
set_option pp.deepTerms.threshold 4
set_option maxHeartbeats 400000
abbrev bxT (B b : Nat) : Chunk := (B, .cells #[.pointer (some ⟨b, 0, none⟩)] 229 (0, 0))
abbrev bxL (B p : Nat) : Chunk := (B, .cells #[.pointer (some ⟨p, 0, none⟩)] 318 (0, 0))
theorem behind_any (b p : Nat) (l : List Chunk) : Fn Tryz.prog 176 [.pointer (some ⟨b, 0, none⟩), .pointer (some ⟨p, 0, none⟩)] l fun v l' => ∃ B1 B2, v = .func (.func 208) #[] #[.pointer (some ⟨B1, 0, none⟩), .pointer (some ⟨B2, 0, none⟩)] ∧ l' = bxL B1 p :: bxT B2 b :: l := by
  refine fn_of_body Tryz.func176 rfl rfl fun E => ?_
  simp only [argF, Tryz.ntmps176]
  refine gz ?_
  (first | refine t_e (e_box1 rfl rfl) rfl rfl rfl ?_ | refine t_e (e_boxA rfl) rfl rfl rfl ?_); rintro _ _ ⟨b2, _, rfl, rfl⟩
  refine gz ?_
  (first | refine t_e (e_box1 rfl rfl) rfl rfl rfl ?_ | refine t_e (e_boxA rfl) rfl rfl rfl ?_); rintro _ _ ⟨b3, _, rfl, rfl⟩
  refine gz ?_
  exact k_ret [] rfl .refl (by exact zRes) ⟨b3, b2, rfl, rfl⟩
/-- the links are as they were -/
def Nxs (F : Nat → NdT) (L : List Nat) (l : List Chunk) : Prop := ∀ q, q ∈ L → ∃ x : NdT, ndC q x ∈ l ∧ x.nx = (F q).nx
theorem behind_iter (B1 B2 b rb m p : Nat) (F : Nat → NdT) (all os : List Nat) (es : List (EntS SlotT)) (clock : Nat) (lq : List Chunk) (hT : TB b rb m F all os es clock lq) (X Y : List Nat) (hX : rb :: os = X ++ p :: Y) :
    IterS Tryz.prog 208 [.pointer (some ⟨B1, 0, none⟩), .pointer (some ⟨B2, 0, none⟩)] (fun q : Nat => [.pointer (some ⟨q, 0, none⟩)]) (fun xs => xs = Y) (fun pre => pre <+: Y)
      (fun pre l => bxL B1 p ∈ l ∧ bxT B2 b ∈ l ∧ trC b rb m ∈ l ∧ Nxs F (rb :: os) l) := by
  refine ⟨fun r I Ix G0 hneed hY l G hG h0 => ?_⟩
  have hpc : p ∈ rb :: os := by rw [hX]; simp
  obtain ⟨n1, n2, n3, n4⟩ := hneed _ _ G hG h0
  obtain ⟨xp, hxp, hxn⟩ := n4 p hpc
  refine fn_of_body Tryz.func208 rfl rfl fun E => ?_
  simp only [argF, Tryz.ntmps208]
  refine gz ?_
  rw [hxn, hT.nxt hX]
  refine gz ?_
  refine k_loop (α := List Nat × List Nat × List Chunk) (fun x => [(0, .func (.yield r) #[] #[]), (1, .pointer (some ⟨B1, 0, none⟩)), (2, .pointer (some ⟨B2, 0, none⟩)), (4, .pointer (some ⟨x.2.1.headD rb, 0, none⟩))]) (fun x => x.2.2 ++ G) (fun x => x.1 ++ x.2.1 = Y ∧ I x.1 x.2.2) (fun x => x.2.1.length) ([], Y, l) ⟨rfl, h0⟩ ⟨rfl, rfl, rfl, rfl, trivial⟩ .refl ?_
  rintro ⟨pre, suf, l⟩ ⟨hps, hI⟩
  simp only at hps hI ⊢
  obtain ⟨n1, n2, n3, n4⟩ := hneed _ _ G hG hI
  obtain ⟨xr, hxr, hxrn⟩ := n4 rb List.mem_cons_self
  cases suf with
  | nil =>
    rw [List.append_nil] at hps
    subst hps
    simp only [List.headD_nil]
    refine gz ?_
    refine t_q (q_neptr rfl rfl (by decide) hxr hxr) rfl rfl rfl ?_
    rw [nep_f]
    refine gz ?_
    exact k_ret [] rfl .refl (by exact zRes) ⟨l, rfl, .inl ⟨_, rfl, hI⟩⟩
  | cons q suf =>
    have hX2 : rb :: os = (X ++ p :: pre) ++ q :: suf := by rw [hX, ← hps]; simp
    have hqc : q ∈ rb :: os := by rw [hX2]; simp
    have hqr : q ≠ rb := fun e => by
      have hnd := hT.ond
      cases X with
      | nil => rw [List.nil_append, List.cons.injEq] at hX; rw [hX.2, ← hps, ← e] at hnd; simp at hnd
      | cons x X => rw [List.cons_append, List.cons.injEq] at hX; rw [hX.2, ← hps, ← e] at hnd; simp at hnd
    obtain ⟨xq, hxq, hxqn⟩ := n4 q hqc
    simp only [List.headD_cons]
    refine gz ?_
    refine t_q (q_neptr rfl rfl (by decide) hxq hxr) rfl rfl rfl ?_
    rw [nep_t hqr]
    refine gz ?_
    have hsp : pre ++ [q] <+: Y := ⟨suf, by rw [← hps]; simp⟩
    refine t_e (e_yield rfl rfl (hY pre q l G hG hI hsp)) rfl rfl rfl ?_
    rintro v l' ⟨l1, rfl, ⟨rfl, hI'⟩ | ⟨rfl, hx⟩⟩
    · obtain ⟨k1, k2, k3, k4⟩ := hneed _ _ G hG hI'
      obtain ⟨xq2, hxq2, hxqn2⟩ := k4 q hqc
      refine gz ?_
      rw [hxqn2, hT.nxt hX2]
      refine gz ?_
      exact k_next (pre ++ [q], suf, l1) ⟨by rw [← hps]; simp, hI'⟩ (by simp) ⟨rfl, rfl, rfl, rfl, trivial⟩ .refl
    · refine gz ?_
      exact k_ret [] rfl .refl (by exact zRes) ⟨l1, rfl, .inr ⟨_, hsp, hx⟩⟩
end Go.Proofs.YtcjknmpogkofpaaGreat.Tr

/- The tree: the links below one. -/
set_option linter.unusedVariables false
set_option linter.unusedSimpArgs false
namespace Go.Proofs.YtcjknmpogkofpaaGreat.Tr
open Go.RowKit
set_option maxRecDepth 20000
set_option maxRecDepth 20000

theorem tw_take {α : Type} {P : α → Bool} {pre : List α} {y : α} {Y : List α} (h1 : pre ++ [y] <+: Y) (h2 : pre <+: Y.takeWhile P) (hy : P y = true) : pre ++ [y] <+: Y.takeWhile P := by
  obtain ⟨r, rfl⟩ := h1
  have hp : ∀ x, x ∈ pre → P x = true := fun x hx => List.all_eq_true.1 (List.all_takeWhile (p := P)) x (h2.subset hx)
  rw [List.append_assoc, List.takeWhile_append_of_pos hp]
  show pre ++ [y] <+: pre ++ List.takeWhile P (y :: r)
  rw [List.takeWhile_cons_of_pos hy]
  exact ⟨r.takeWhile P, by simp⟩
theorem tw_stop {α : Type} {P : α → Bool} {pre : List α} {y : α} {Y : List α} (h1 : pre ++ [y] <+: Y) (h2 : pre <+: Y.takeWhile P) (hy : P y = false) : pre = Y.takeWhile P := by
  obtain ⟨r, rfl⟩ := h1
  have hp : ∀ x, x ∈ pre → P x = true := fun x hx => List.all_eq_true.1 (List.all_takeWhile (p := P)) x (h2.subset hx)
  rw [List.append_assoc, List.takeWhile_append_of_pos hp]
  show pre = pre ++ List.takeWhile P (y :: r)
  rw [List.takeWhile_cons_of_neg (by rw [hy]; simp), List.append_nil]
theorem tw_all {α : Type} {P : α → Bool} {Y : List α} (h2 : Y <+: Y.takeWhile P) : Y = Y.takeWhile P := (h2.sublist.eq_of_length_le (List.takeWhile_prefix P).length_le)
theorem Keep.in_mid (A B C : List Chunk) : Keep (A ++ (B ++ C)) (B ++ (A ++ C)) := Keep.of_perm (List.perm_append_comm_assoc A B C)
set_option pp.deepTerms false
set_option pp.deepTerms.threshold 4
set_option maxHeartbeats 400000
/-- the depths of those that did not come yet are as they were -/
def Dps (F : Nat → NdT) (L pre : List Nat) (l : List Chunk) : Prop := ∀ q, q ∈ L → ∃ x : NdT, ndC q x ∈ l ∧ x.nx = (F q).nx ∧ (q ∉ pre → x.dp = (F q).dp)
end Go.Proofs.YtcjknmpogkofpaaGreat.Tr

/- The tree: All, Below. -/
set_option linter.unusedVariables false
set_option linter.unusedSimpArgs false
namespace Go.Proofs.YtcjknmpogkofpaaGreat.Tr
open Go.RowKit
set_option maxRecDepth 20000
set_option maxRecDepth 20000

abbrev nV (x : SlotT × Int) : List Value := [.int .i64 x.1.1, .int .i64 x.1.2, .int .i64 x.2]
def ncs (D : DT) : List Value := D.flatMap nV
def scs (L : List SlotT) : List Value := L.flatMap encT
theorem ncs_snoc (D : DT) (x : SlotT × Int) : ncs (D ++ [x]) = ncs D ++ nV x := by simp [ncs]
theorem scs_snoc (D : List SlotT) (x : SlotT) : scs (D ++ [x]) = scs D ++ encT x := by simp [scs]
theorem dOf_snoc (F : Nat → NdT) (pre : List Nat) (y : Nat) : dOf F (pre ++ [y]) = dOf F pre ++ [((F y).sl, (F y).dp)] := by simp [dOf]
def belowD (D : DT) (s : SlotT) : List SlotT := match splitD s D with
  | none => []
  | some (_, d, B) => (B.takeWhile fun x => decide (d < x.2)).map Prod.fst
set_option pp.deepTerms false
set_option pp.deepTerms.threshold 4
set_option maxHeartbeats 400000
theorem all_any (b : Nat) (D : DT) (lq : List Chunk) (hq : IsT b D lq) (hn : D.length ≤ 1000000) (l : List Chunk) (hsub : ∀ c, c ∈ lq → c ∈ l) :
    Fn Tryz.prog 127 [.pointer (some ⟨b, 0, none⟩)] l fun v l' => ∃ cs, OwnSl 222 3 v D.length (ncs D) cs ∧ l' = cs ++ l := by
  obtain ⟨rb, m, F, all, os, es, clock, rfl, hT⟩ := hq
  have hnl : os.length ≤ 1000000 := by simpa [dOf] using hn
  have h1 := hsub _ hT.m1
  have hnod : ∀ q, q ∈ rb :: os → ndC q (F q) ∈ l := fun q hq => by
    rcases List.mem_cons.1 hq with rfl | hq
    · exact hsub _ (hT.m3 hT.rin)
    · exact hsub _ (hT.m3 (hT.sub q hq))
  refine fn_of_body Tryz.func127 rfl rfl fun E => ?_
  simp only [argF, Tryz.ntmps127]
  refine gz ?_
  refine t_e e_alloc rfl rfl rfl ?_; rintro _ _ ⟨b3, _, rfl, rfl⟩
  refine gz ?_
  refine t_e (e_call rfl rfl (behind_any _ _ _)) rfl rfl rfl ?_
  rintro v l' ⟨C1, C2, rfl, rfl⟩
  refine gz ?_
  refine c_range (α := Nat) (ps := [13]) (lb := [.pointer (some ⟨C1, 0, none⟩), .pointer (some ⟨C2, 0, none⟩)]) rfl (behind_iter C1 C2 b rb m rb F all os es clock lq hT [] os rfl) (fun _ => rfl) rfl
    (fun pre l => ∃ v cs, OwnSl 222 3 v pre.length (ncs (dOf F pre)) cs ∧ l = [bxL C1 rb, bxT C2 b, (b3, .cells #[v] 42 (0, 0))] ++ cs)
    (fun c pre l => False)
    _ l (fun pre l2 X2 hX h => by obtain ⟨v, cs, _, rfl⟩ := h; exact ⟨.head _, .tail _ (.head _), List.mem_append_right _ (hX _ h1), fun q hq => ⟨F q, List.mem_append_right _ (hX _ (hnod q hq)), rfl⟩⟩) (by exact zKeep) ⟨_, [], OwnSl.nil _ _, rfl⟩ ?_ ?_ ?_
  · rintro E r0 rec pre y l' T ⟨fn, tmps, Dd, rfl⟩ hT0 ⟨v, cs', hown, rfl⟩ hsp
    have hy : y ∈ rb :: os := List.mem_cons_of_mem _ (hsp.subset (by simp))
    have hyT := hT0 _ (hnod y hy)
    have hpl : pre.length ≤ 1000000 := by have := hsp.length_le; simp at this; omega
    simp only [putPs, List.cons_append, List.nil_append]
    refine gz ?_
    refine p_begin (.there (.there (.there (upd_mid _ _ _ _ _)))) ?_
    generalize hX1 : (r0, Obj.loop (recOf fn tmps _ _ _ Dd .busy none)) :: T = X1
    have hyX : ndC y (F y) ∈ X1 := by rw [← hX1]; exact .tail _ hyT
    refine gz ?_
    refine c_draw [(0, true), (1, true), (2, true), (3, true), (4, true), (5, true), (6, true), (7, true), (8, true), (9, true), (10, false), (11, false), (12, false)] [[], [], [1], [1, 2], [1, 2, 3], [], [5], [5, 6], [5, 6, 7], [1, 2, 3, 4, 5, 6, 7, 8], [1, 2, 3, 4, 5, 6, 7, 8, 9], [0, 1, 2, 3, 4, 5, 6, 7, 8, 9, 10], [0, 1, 2, 3, 4, 5, 6, 7, 8, 9, 10, 11]] ([]) (by kernel_rfl) (by kernel_rfl) zAtt zHR ?_
    refine pz ?_
    apply pl_s (S := [(b3, .cells #[v] 42 (0, 0))])
    · exact q_load rfl (.head _) rfl
    · intro c hc; cases hc with
      | head => exact .tail _ (.tail _ (.head _))
      | tail _ h => cases h
    · rfl
    · rfl
    · rfl
    refine pz ?_
    apply pl_s (S := [ndC y (F y)])
    · exact q_loadL rfl (.head _) (by (repeat (first | with_reducible apply LSub.done | with_reducible apply LSub.take | with_reducible apply LSub.drop)))
    · intro c hc; cases hc with
      | head => exact .tail _ (.tail _ (.tail _ (List.mem_append_right _ hyX)))
      | tail _ h => cases h
    · rfl
    · rfl
    · rfl
    refine pz ?_
    apply pl_s (S := [ndC y (F y)])
    · exact q_load rfl (.head _) rfl
    · intro c hc; cases hc with
      | head => exact .tail _ (.tail _ (.tail _ (List.mem_append_right _ hyX)))
      | tail _ h => cases h
    · rfl
    · rfl
    · rfl
    refine pz ?_
    apply pl_eS
    · apply e_litA (ws := nV ((F y).sl, (F y).dp)) (k := 3)
      · rfl
      · rfl
      · rfl
      · decide
      · decide
    · rfl
    · rfl
    · rfl
    · intro _ _ _ c hc; cases hc
    · rintro _ _ ⟨bl, _, rfl, rfl⟩ x hx _ c hc
      have h3 : ∀ o : Obj, (b3, o) ∈ (bl, Obj.cells (List.toArray (nV ((F y).sl, (F y).dp))) 222 (0, 0)) :: bxL C1 rb :: bxT C2 b :: (b3, o) :: (cs' ++ X1) := fun o => .tail _ (.tail _ (.tail _ (.head _)))
      simp only [List.mem_cons, List.not_mem_nil, or_false] at hx
      rcases hx with rfl | rfl | rfl <;> simp only [List.mem_cons, List.not_mem_nil, or_false] at hc <;> subst hc
      · exact .tail _ (.tail _ (.tail _ (.tail _ (List.mem_append_right _ hyX))))
      · exact .tail _ (.tail _ (.tail _ (.tail _ (List.mem_append_right _ hyX))))
      · exact h3 _
    rintro _ _ ⟨bl, _, rfl, rfl⟩
    refine pz ?_
    apply pl_eS
    · apply e_appX (k := 3) (X := [bxL C1 rb, bxT C2 b, (b3, .cells #[v] 42 (0, 0))]) (cs := cs') (xs := ncs (dOf F pre)) (n := pre.length) (zs := [.int .i64 0, .int .i64 0, .int .i64 0]) (ws := nV ((F y).sl, (F y).dp))
      · rfl
      · rfl
      · rfl
      · exact hown
      · rfl
      · simp [Value.oneCell']
      · omega
      · decide
    · rfl
    · rfl
    · rfl
    · intro _ _ _ c hc; cases hc
    · exact fun _ _ _ x hx ha => anc_all (by kernel_rfl) hx ha
    rintro v' _ ⟨c2, ho2, rfl⟩
    have hv1 : v'.oneCell' = true := ho2.one
    simp only [List.cons_append, List.nil_append]
    apply pl_nS
    · apply e_storeL (cs := [v])
      · rfl
      · rfl
      · exact hv1
      · exact zMem
      · exact .zero
      · exact zUpd
    · rfl
    · rfl
    · intro _ _ _ c hc; cases hc
    · exact fun _ _ _ x hx ha => anc_all (by kernel_rfl) hx ha
    rintro _ _ ⟨rfl, rfl⟩
    refine pz ?_
    refine gz ?_
    rw [← hX1]
    refine p_round _ (.refl) ⟨v', c2, ?_, rfl⟩
    rw [dOf_snoc, ncs_snoc, List.length_append]; exact ho2
  · rintro Dd xs l' rfl ⟨v, cs', hown, rfl⟩
    have hv1 : v.oneCell' = true := hown.one
    simp only [List.cons_append, List.nil_append]
    refine gz ?_
    refine k_ret2 [Dd] (cs' ++ l) rfl (l' := cs' ++ l) (by exact zKeep) (by exact zRes) .refl ?_
    exact ⟨cs', by rw [show (dOf F xs).length = xs.length by simp [dOf]]; exact hown, rfl⟩
  · rintro Dd c pre l' hsp h
    exact h.elim
theorem all_nil (l : List Chunk) : Fn Tryz.prog 127 [.pointer none] l fun v l' => v = .slice none 0 0 ∧ l' = l := by
  refine fn_of_body Tryz.func127 rfl rfl fun E => ?_
  simp only [argF, Tryz.ntmps127]
  refine gz ?_
  exact k_ret [] rfl .refl (by exact zRes) ⟨rfl, rfl⟩
theorem below_take {F : Nat → NdT} {d : Int} : ∀ (B : List Nat), ((dOf F B).takeWhile fun x => decide (d < x.2)).map Prod.fst = (B.takeWhile fun q => decide (d < (F q).dp)).map fun q => (F q).sl
  | [] => rfl
  | q :: B => by
    show (List.takeWhile _ (((F q).sl, (F q).dp) :: dOf F B)).map Prod.fst = _
    rw [List.takeWhile_cons, List.takeWhile_cons]
    by_cases h : d < (F q).dp
    · rw [decide_eq_true h]
      show _ :: List.map Prod.fst _ = _ :: List.map _ _
      rw [below_take B]
    · rw [decide_eq_false h]; rfl
end Go.Proofs.YtcjknmpogkofpaaGreat.Tr

/- The tree: Root, Child, Has and those of no tree. -/
set_option linter.unusedVariables false
set_option linter.unusedSimpArgs false
namespace Go.Proofs.YtcjknmpogkofpaaGreat.Tr
open Go.RowKit
set_option maxRecDepth 20000
set_option maxRecDepth 20000

theorem sing_mem {c : Chunk} {l : List Chunk} (h : c ∈ l) : ∀ x, x ∈ [c] → x ∈ l := fun x hx => by rw [List.mem_singleton.1 hx]; exact h
abbrev slC (B : Nat) (s : SlotT) : Chunk := (B, .cells (List.toArray (encT s)) 109 (0, 0))
def hasD (D : DT) (s : SlotT) : Bool := (splitD s D).isSome
def rootD (D : DT) (s : SlotT) : Int × DT := if hasD D s = true then (11, D) else (0, D ++ [(s, 0)])
def childD (D : DT) (par s : SlotT) : Int × DT := match splitD par D with
  | none => (10, D)
  | some (A, d, B) => if hasD D s = true then (11, D) else (0, A ++ (par, d) :: (s, d + 1) :: B)
theorem has_blk {F : Nat → NdT} {os : List Nat} {s : SlotT} : hasD (dOf F os) s = (blk F os s).isSome := by
  unfold hasD
  cases h : blk F os s with
  | none => rw [split_none h]; rfl
  | some p => obtain ⟨A, B, _, h2⟩ := split_blk h; rw [h2]; rfl
def SmallD (D : DT) : Prop := ∀ x, x ∈ D → -1000000 ≤ x.2 ∧ x.2 ≤ 1000000
theorem dOf_take {F : Nat → NdT} {A B : List Nat} (p : Nat) : (dOf F (A ++ p :: B)).take (A.length + 1) = dOf F A ++ [((F p).sl, (F p).dp)] := by
  unfold dOf
  rw [List.map_append, List.map_cons, List.take_append, List.take_of_length_le (by simp)]
  simp
theorem dOf_drop {F : Nat → NdT} {A B : List Nat} (p : Nat) : (dOf F (A ++ p :: B)).drop (A.length + 1) = dOf F B := by
  unfold dOf
  rw [List.map_append, List.map_cons, List.drop_append, List.drop_of_length_le (by simp)]
  simp
set_option pp.deepTerms false
set_option pp.deepTerms.threshold 4
set_option maxHeartbeats 400000
theorem root_any (b : Nat) (D : DT) (lq : List Chunk) (hq : IsT b D lq) (s : SlotT) (G : List Chunk) :
    Fn Tryz.prog 146 [.pointer (some ⟨b, 0, none⟩), .agg (List.toArray (encT s))] (lq ++ G) fun v l' => v = .int .i64 (rootD D s).1 ∧ ∃ lq', IsT b (rootD D s).2 lq' ∧ l' = lq' ++ G := by
  obtain ⟨rb, m, F, all, os, es, clock, rfl, hT⟩ := hq
  refine fn_of_body Tryz.func146 rfl rfl fun E => ?_
  simp only [argF, Tryz.ntmps146]
  refine gz ?_
  refine t_e (e_boxA rfl) rfl rfl rfl ?_
  rintro _ _ ⟨b3, hb3, rfl, rfl⟩
  refine s_keep (Keep.of_perm (l' := lq ++ (slC b3 s :: G)) List.perm_middle.symm) ?_
  have hsub : ∀ c, c ∈ lq → c ∈ lq ++ (slC b3 s :: G) := fun c hc => List.mem_append_left _ hc
  have hbm : slC b3 s ∈ lq ++ (slC b3 s :: G) := List.mem_append_right _ (.head _)
  refine gz ?_
  refine t_q (q_call (R := lq ++ (slC b3 s :: G)) rfl rfl fun l2 hl2 => of_any b rb m F all os es clock lq s hT l2 fun c hc => hl2 c (hsub c hc)) rfl rfl rfl ?_
  cases hbk : blk F os s with
  | some p =>
    rw [show rootD (dOf F os) s = (11, dOf F os) by unfold rootD; rw [has_blk, hbk]; rfl]
    simp only [ptrO]
    refine gz ?_
    exact k_ret [] rfl (l' := lq ++ G) (Keep.trans (.of_perm List.perm_middle) (.drop .refl)) (by exact zRes) ⟨rfl, lq, ⟨rb, m, F, all, os, es, clock, rfl, hT⟩, rfl⟩
  | none =>
    rw [show rootD (dOf F os) s = (0, dOf F os ++ [(s, 0)]) by unfold rootD; rw [has_blk, hbk]; rfl]
    simp only [ptrO]
    obtain ⟨X, p, hX⟩ : ∃ X p, rb :: os = X ++ [p] := ⟨_, _, (List.dropLast_concat_getLast (List.cons_ne_nil rb os)).symm⟩
    have hpv : (F rb).pv = p := hT.prv (Y := []) hX
    have hXl : X.length = os.length := by have := congrArg List.length hX; simp at this; omega
    refine gz ?_
    refine c_draw [(0, true), (1, true), (2, true), (3, true), (4, true), (5, true), (6, true), (7, true), (8, true), (9, false)] [[], [], [1], [1, 2], [1, 2, 3], [1, 2, 3, 4], [1, 2, 3, 4, 5], [1, 2, 3, 4, 5, 6], [], [0, 1, 2, 3, 4, 5, 6, 7, 8]] ([]) (by kernel_rfl) (by kernel_rfl) zAtt zHR ?_
    refine pz ?_
    apply pl_s (S := [trC b rb m]); (· exact zLd); (· exact sing_mem (hsub _ hT.m1)); (· rfl); (· rfl); (· rfl)
    refine pz ?_
    apply pl_s (S := [ndC rb (F rb)]); (· exact zLd); (· exact sing_mem (hsub _ (hT.m3 hT.rin))); (· rfl); (· rfl); (· rfl)
    refine pz ?_
    rw [hpv]
    apply pl_s (S := [slC b3 s]); (· exact zLd); (· exact sing_mem (hbm)); (· rfl); (· rfl); (· rfl)
    refine pz ?_
    apply pl_eS
    · exact e_call0 rfl rfl (put_any b rb m F all os es clock lq hT X [] p hX s 0 hbk (slC b3 s :: G))
    (· rfl); (· rfl); (· rfl); (· intro _ _ _ c hc; cases hc); (· exact fun _ _ _ x hx ha => anc_all (by kernel_rfl) hx ha)
    rintro _ _ ⟨rfl, lq', hq', rfl⟩
    refine pz ?_
    refine gz ?_
    refine k_ret [] rfl (l' := lq' ++ G) (Keep.trans (.of_perm List.perm_middle) (.drop .refl)) (by exact zRes) ⟨rfl, lq', ?_, rfl⟩
    rw [hXl, List.take_of_length_le (by simp [dOf]), List.drop_of_length_le (by simp [dOf])] at hq'
    exact hq'
theorem child_any (b : Nat) (D : DT) (lq : List Chunk) (hq : IsT b D lq) (hd : SmallD D) (par s : SlotT) (G : List Chunk) :
    Fn Tryz.prog 215 [.pointer (some ⟨b, 0, none⟩), .agg (List.toArray (encT par)), .agg (List.toArray (encT s))] (lq ++ G) fun v l' => v = .int .i64 (childD D par s).1 ∧ ∃ lq', IsT b (childD D par s).2 lq' ∧ l' = lq' ++ G := by
  obtain ⟨rb, m, F, all, os, es, clock, rfl, hT⟩ := hq
  refine fn_of_body Tryz.func215 rfl rfl fun E => ?_
  simp only [argF, Tryz.ntmps215]
  refine gz ?_
  refine t_e (e_boxA rfl) rfl rfl rfl ?_
  rintro _ _ ⟨b4, hb4, rfl, rfl⟩
  refine gz ?_
  refine t_e (e_boxA rfl) rfl rfl rfl ?_
  rintro _ _ ⟨b5, hb5, rfl, rfl⟩
  have hk2 : ∀ lq : List Chunk, Keep (lq ++ (slC b5 s :: slC b4 par :: G)) (lq ++ G) := fun lq => Keep.trans (.of_perm (List.perm_append_comm_assoc lq [slC b5 s, slC b4 par] G)) (.drop (.drop .refl))
  refine s_keep (Keep.of_perm (l' := lq ++ (slC b5 s :: slC b4 par :: G)) (List.perm_append_comm_assoc [slC b5 s, slC b4 par] lq G)) ?_
  have hsub : ∀ c, c ∈ lq → c ∈ lq ++ (slC b5 s :: slC b4 par :: G) := fun c hc => List.mem_append_left _ hc
  have hm4 : slC b4 par ∈ lq ++ (slC b5 s :: slC b4 par :: G) := List.mem_append_right _ (.tail _ (.head _))
  have hm5 : slC b5 s ∈ lq ++ (slC b5 s :: slC b4 par :: G) := List.mem_append_right _ (.head _)
  refine gz ?_
  refine t_q (q_call (R := lq ++ (slC b5 s :: slC b4 par :: G)) rfl rfl fun l2 hl2 => of_any b rb m F all os es clock lq par hT l2 fun c hc => hl2 c (hsub c hc)) rfl rfl rfl ?_
  cases hbp : blk F os par with
  | none =>
    rw [show childD (dOf F os) par s = (10, dOf F os) by unfold childD; rw [split_none hbp]]
    simp only [ptrO]
    refine gz ?_
    exact k_ret [] rfl (l' := lq ++ G) (hk2 lq) (by exact zRes) ⟨rfl, lq, ⟨rb, m, F, all, os, es, clock, rfl, hT⟩, rfl⟩
  | some p =>
    simp only [ptrO]
    refine gz ?_
    refine t_q (q_call (R := lq ++ (slC b5 s :: slC b4 par :: G)) rfl rfl fun l2 hl2 => of_any b rb m F all os es clock lq s hT l2 fun c hc => hl2 c (hsub c hc)) rfl rfl rfl ?_
    cases hbk : blk F os s with
    | some q =>
      rw [show childD (dOf F os) par s = (11, dOf F os) by unfold childD; obtain ⟨A, B, _, h2⟩ := split_blk hbp; rw [h2]; simp only; rw [has_blk, hbk]; rfl]
      simp only [ptrO]
      refine gz ?_
      exact k_ret [] rfl (l' := lq ++ G) (hk2 lq) (by exact zRes) ⟨rfl, lq, ⟨rb, m, F, all, os, es, clock, rfl, hT⟩, rfl⟩
    | none =>
      obtain ⟨A, B, hos, h2⟩ := split_blk hbp
      have hps := (blk_some hbp).2
      have hpo := (blk_some hbp).1
      rw [show childD (dOf F os) par s = (0, dOf F A ++ (par, (F p).dp) :: (s, (F p).dp + 1) :: dOf F B) by unfold childD; rw [h2]; simp only; rw [has_blk, hbk]; rfl]
      have hX : rb :: os = (rb :: A) ++ p :: B := by rw [hos]; rfl
      have hr := hd _ (List.mem_map.2 ⟨p, hpo, rfl⟩)
      simp only at hr
      simp only [ptrO]
      refine gz ?_
      refine c_draw [(0, true), (1, true), (2, true), (3, true), (4, true), (5, true), (6, true), (7, true), (8, false)] [[], [], [], [], [3], [3, 4], [3, 4, 5], [3, 4, 5, 6], [0, 1, 2, 3, 4, 5, 6, 7]] ([]) (by kernel_rfl) (by kernel_rfl) zAtt zHR ?_
      refine pz ?_
      apply pl_s (S := [slC b5 s]); (· exact zLd); (· exact sing_mem (hm5)); (· rfl); (· rfl); (· rfl)
      refine pz ?_
      apply pl_s (S := [ndC p (F p)]); (· exact zLd); (· exact sing_mem (hsub _ (hT.m3 (hT.sub p hpo)))); (· rfl); (· rfl); (· rfl)
      refine pz ?_
      apply pl_eS
      · exact e_call0 rfl rfl (put_any b rb m F all os es clock lq hT (rb :: A) B p hX s _ hbk (slC b5 s :: slC b4 par :: G))
      (· rfl); (· rfl); (· rfl); (· intro _ _ _ c hc; cases hc); (· exact fun _ _ _ x hx ha => anc_all (by kernel_rfl) hx ha)
      rintro _ _ ⟨rfl, lq', hq', rfl⟩
      refine pz ?_
      refine gz ?_
      refine k_ret [] rfl (l' := lq' ++ G) (hk2 lq') (by exact zRes) ⟨rfl, lq', ?_, rfl⟩
      rw [List.length_cons, hos, dOf_take, dOf_drop, hps] at hq'
      simpa using hq'
theorem root_nil (s : SlotT) (l : List Chunk) : Fn Tryz.prog 146 [.pointer none, .agg (List.toArray (encT s))] l fun v l' => v = .int .i64 1 ∧ l' = l := by
  refine fn_of_body Tryz.func146 rfl rfl fun E => ?_
  simp only [argF, Tryz.ntmps146]
  refine gz ?_
  refine t_e (e_boxA rfl) rfl rfl rfl ?_
  rintro _ _ ⟨b3, hb3, rfl, rfl⟩
  refine gz ?_
  exact k_ret [] rfl (.drop .refl) (by exact zRes) ⟨rfl, rfl⟩
end Go.Proofs.YtcjknmpogkofpaaGreat.Tr

/- The tree: Parent, Move. -/
set_option linter.unusedVariables false
set_option linter.unusedSimpArgs false
namespace Go.Proofs.YtcjknmpogkofpaaGreat.Tr
open Go.RowKit
set_option maxRecDepth 20000
set_option maxRecDepth 20000

theorem blk_none_iff {F : Nat → NdT} {os : List Nat} {s : SlotT} : blk F os s = none ↔ ∀ p, p ∈ os → (F p).sl ≠ s :=
  ⟨blk_none, fun h => List.find?_eq_none.2 fun q hq => by simpa using h q hq⟩
theorem blk_app {F : Nat → NdT} {A B : List Nat} {p : Nat} {s : SlotT} : blk F (A ++ p :: B) s = (blk F A s).or (if (F p).sl = s then some p else blk F B s) := by
  unfold blk
  rw [List.find?_append, List.find?_cons]
  congr 1
  by_cases h : (F p).sl = s
  · rw [decide_eq_true h, if_pos h]
  · rw [decide_eq_false h, if_neg h]
theorem blk_congr {F F' : Nat → NdT} {s : SlotT} : ∀ {os : List Nat}, (∀ q, q ∈ os → (F' q).sl = (F q).sl) → blk F' os s = blk F os s
  | [], _ => rfl
  | q :: os, h => by
    have ih := blk_congr (s := s) (os := os) fun z hz => h z (List.mem_cons_of_mem _ hz)
    unfold blk at ih ⊢
    rw [List.find?_cons, List.find?_cons, h q List.mem_cons_self, ih]
theorem dOf_congr {F F' : Nat → NdT} {os : List Nat} (h : ∀ q, q ∈ os → (F' q).sl = (F q).sl ∧ (F' q).dp = (F q).dp) : dOf F' os = dOf F os := by
  unfold dOf
  exact List.map_congr_left fun q hq => by rw [(h q hq).1, (h q hq).2]
theorem TB.uniq {b rb m : Nat} {F : Nat → NdT} {all A B : List Nat} {p : Nat} {es : List (EntS SlotT)} {clock : Nat} {lq : List Chunk} (h : TB b rb m F all (A ++ p :: B) es clock lq) : (∀ q, q ∈ A → (F q).sl ≠ (F p).sl) ∧ (∀ q, q ∈ B → (F q).sl ≠ (F p).sl) := by
  have hn := h.snd
  rw [List.map_append, List.map_cons] at hn
  refine ⟨fun q hq e => ?_, fun q hq e => ?_⟩
  · exact (List.nodup_append.1 hn).2.2 _ (List.mem_map.2 ⟨q, hq, rfl⟩) _ List.mem_cons_self e
  · exact (List.nodup_cons.1 (List.nodup_append.1 hn).2.1).1 (List.mem_map.2 ⟨q, hq, e⟩)
theorem TB.out {b rb m : Nat} {F : Nat → NdT} {all A B : List Nat} {p : Nat} {es : List (EntS SlotT)} {clock : Nat} {lq : List Chunk} (h : TB b rb m F all (A ++ p :: B) es clock lq) : p ∉ A ∧ p ∉ B ∧ rb ∉ A ∧ rb ∉ B ∧ p ≠ rb := by
  have hn := List.nodup_cons.1 h.ond
  have h2 := List.nodup_append.1 hn.2
  refine ⟨fun hp => h2.2.2 p hp p List.mem_cons_self rfl, (List.nodup_cons.1 h2.2.1).1, fun hr => hn.1 (List.mem_append_left _ hr), fun hr => hn.1 (List.mem_append_right _ (.tail _ hr)), fun e => hn.1 (by rw [← e]; simp)⟩
def parentD (D : DT) (s : SlotT) : SlotT × Bool := match splitD s D with
  | none => ((0, 0), false)
  | some (A, d, _) => match A.reverse.find? fun x => decide (x.2 < d) with
    | some y => (y.1, true)
    | none => ((0, 0), false)
def moveD (D : DT) (a c : SlotT) : Int × DT := match splitD a D with
  | none => (10, D)
  | some (A, d, B) => if hasD D c = true then (11, D) else (0, A ++ (c, d) :: B)
theorem TB.pvr {b rb m : Nat} {F : Nat → NdT} {all : List Nat} {es : List (EntS SlotT)} {clock : Nat} {lq : List Chunk} {A B : List Nat} {p : Nat} (h : TB b rb m F all (A ++ p :: B) es clock lq) : (F p).pv = A.reverse.headD rb := by
  rcases List.eq_nil_or_concat A with rfl | ⟨A', q, rfl⟩
  · exact h.prv (X := []) (Y := p :: B) rfl
  · have := h.prv (X := rb :: A') (Y := p :: B) (p := q) (by simp)
    rw [List.concat_eq_append, List.reverse_append]; exact this
set_option pp.deepTerms false
set_option pp.deepTerms.threshold 4
set_option maxHeartbeats 400000
end Go.Proofs.YtcjknmpogkofpaaGreat.Tr

/- The tree: Move, Remove. -/
set_option linter.unusedVariables false
set_option linter.unusedSimpArgs false
namespace Go.Proofs.YtcjknmpogkofpaaGreat.Tr
open Go.RowKit
set_option maxRecDepth 20000
set_option maxRecDepth 20000

def decW (d : Int) (B : DT) : DT := (B.takeWhile fun x => decide (d < x.2)).map (fun x => (x.1, x.2 - 1)) ++ B.dropWhile fun x => decide (d < x.2)
def removeD (D : DT) (s : SlotT) : Int × DT := match splitD s D with
  | none => (10, D)
  | some (A, d, B) => (0, A ++ decW d B)
def decF (F : Nat → NdT) (pre : List Nat) : Nat → NdT := fun q => if q ∈ pre then { F q with dp := (F q).dp - 1 } else F q
theorem decF_out {F : Nat → NdT} {pre : List Nat} {q : Nat} (h : q ∉ pre) : decF F pre q = F q := if_neg h
theorem decF_snoc {F : Nat → NdT} {pre : List Nat} {y : Nat} (h : y ∉ pre) : upd (decF F pre) y { F y with dp := (F y).dp - 1 } = decF F (pre ++ [y]) := by
  funext q
  unfold upd decF
  by_cases e : q = y
  · subst e; simp [h]
  · simp [e]
theorem decF_links (F : Nat → NdT) (pre : List Nat) (q : Nat) : (decF F pre q).sl = (F q).sl ∧ (decF F pre q).nx = (F q).nx ∧ (decF F pre q).pv = (F q).pv := by
  unfold decF; split <;> exact ⟨rfl, rfl, rfl⟩
theorem dOf_dec {F : Nat → NdT} {d : Int} {B : List Nat} (hn : B.Nodup) : dOf (decF F (B.takeWhile fun q => decide (d < (F q).dp))) B = decW d (dOf F B) := by
  have e1 : (dOf F B).takeWhile (fun x => decide (d < x.2)) = dOf F (B.takeWhile fun q => decide (d < (F q).dp)) := by
    unfold dOf; rw [List.takeWhile_map]; rfl
  have e2 : (dOf F B).dropWhile (fun x => decide (d < x.2)) = dOf F (B.dropWhile fun q => decide (d < (F q).dp)) := by
    unfold dOf; rw [List.dropWhile_map]; rfl
  unfold decW
  rw [e1, e2]
  obtain ⟨tw, htw⟩ : ∃ tw, tw = B.takeWhile fun q => decide (d < (F q).dp) := ⟨_, rfl⟩
  obtain ⟨dw, hdw⟩ : ∃ dw, dw = B.dropWhile fun q => decide (d < (F q).dp) := ⟨_, rfl⟩
  have hB : B = tw ++ dw := by rw [htw, hdw, List.takeWhile_append_dropWhile]
  rw [← htw, ← hdw, hB]
  unfold dOf
  rw [List.map_append, List.map_map]
  congr 1
  · apply List.map_congr_left
    intro q hq
    unfold decF; rw [if_pos hq]; rfl
  · apply List.map_congr_left
    intro q hq
    rw [hB] at hn
    rw [decF_out fun h => (List.nodup_append.1 hn).2.2 q h q hq rfl]
theorem adj_remove {F F' : Nat → NdT} {p x n : Nat} {Z : List Nat} : ∀ {X : List Nat}, Adj F (X ++ p :: x :: n :: Z) → (X ++ p :: x :: n :: Z).dropLast.Nodup → (X ++ p :: x :: n :: Z).tail.Nodup →
    (∀ u, u ≠ p → (F' u).nx = (F u).nx) → (∀ v, v ≠ n → (F' v).pv = (F v).pv) → (F' p).nx = n → (F' n).pv = p → Adj F' (X ++ p :: n :: Z)
  | [], ⟨h1, h2, h3, h4, h5⟩, hs, ht, hn, hp, k1, k2 => by
    refine ⟨k1, k2, adj_same h5 (fun u hu => hn u ?_) fun v hv => hp v ?_⟩
    · rintro rfl
      have : (u :: x :: (n :: Z).dropLast).Nodup := by simpa using hs
      exact (List.nodup_cons.1 this).1 (.tail _ hu)
    · rintro rfl
      have : (x :: v :: Z).Nodup := by simpa using ht
      exact (List.nodup_cons.1 (List.nodup_cons.1 this).2).1 hv
  | [a], ⟨h1, h2, h3⟩, hs, ht, hn, hp, k1, k2 => by
    have hs1 : (a :: (p :: x :: n :: Z).dropLast).Nodup := by simpa using hs
    have hs2 := List.nodup_cons.1 hs1
    have ht1 : (p :: x :: n :: Z).Nodup := by simpa using ht
    have ht2 := List.nodup_cons.1 ht1
    refine ⟨by rw [hn a (fun e => hs2.1 (by rw [e]; simp [List.dropLast]))]; exact h1, by rw [hp p (fun e => ht2.1 (by rw [e]; simp))]; exact h2, ?_⟩
    exact adj_remove (X := []) h3 hs2.2 ht2.2 hn hp k1 k2
  | a :: b :: X, ⟨h1, h2, h3⟩, hs, ht, hn, hp, k1, k2 => by
    have hs1 : (a :: ((b :: X) ++ p :: x :: n :: Z).dropLast).Nodup := by
      have : ((a :: b :: X) ++ p :: x :: n :: Z).dropLast = a :: ((b :: X) ++ p :: x :: n :: Z).dropLast := List.dropLast_cons_of_ne_nil (by simp)
      rwa [this] at hs
    have hs2 := List.nodup_cons.1 hs1
    have ht1 : (b :: (X ++ p :: x :: n :: Z)).Nodup := ht
    have ht2 := List.nodup_cons.1 ht1
    have hpd : p ∈ ((b :: X) ++ p :: x :: n :: Z).dropLast := by
      rw [List.dropLast_append_of_ne_nil (by simp)]
      exact List.mem_append_right _ (by simp [List.dropLast])
    refine ⟨by rw [hn a (fun e => hs2.1 (by rw [e]; exact hpd))]; exact h1, by rw [hp b (fun e => ht2.1 (by rw [e]; simp))]; exact h2, ?_⟩
    exact adj_remove (X := b :: X) h3 hs2.2 ht2.2 hn hp k1 k2
set_option pp.deepTerms false
set_option pp.deepTerms.threshold 4
set_option maxHeartbeats 400000
end Go.Proofs.YtcjknmpogkofpaaGreat.Tr

/- The tree: Remove. -/
set_option linter.unusedVariables false
set_option linter.unusedSimpArgs false
namespace Go.Proofs.YtcjknmpogkofpaaGreat.Tr
open Go.RowKit
set_option maxRecDepth 20000
set_option maxRecDepth 20000

set_option pp.deepTerms false
set_option pp.deepTerms.threshold 4
set_option maxHeartbeats 400000
end Go.Proofs.YtcjknmpogkofpaaGreat.Tr

/- The tree: Swap. -/
set_option linter.unusedVariables false
set_option linter.unusedSimpArgs false
namespace Go.Proofs.YtcjknmpogkofpaaGreat.Tr
open Go.RowKit
set_option maxRecDepth 20000
set_option maxRecDepth 20000

section
variable {P : Program} {ro : Option Nat} {N : Nat} {fr : Fr} {R : List Chunk} {d : Option Nat} {ty t t2 : TypeId} {pos : String} {aft : Array Edge} {g : Option (Nat × Bool)} {x y : Operand}
theorem q_eqnilL {p : Option Addr} {e : Nat} (hx : ev fr x = some (.pointer none)) (hy : ev fr y = some (.pointer p)) [c : PT P t e] : OpQ P ro N fr R ⟨d, .binOp .eql t x y t2, ty, pos, aft, g⟩ (.bool p.isNone) := opQ_of_sl rfl fun ρ l hρ _ => by
  simp only [execOp, hρ x _ hx, hρ y _ hy, sl_bind, eqGuard_ptr, sl_pure, binOp]
  unfold Op.equal Op.maxDepth Op.equalIn
  rw [sl_under (ptV_spec c.out)]
  cases p <;> exact ⟨rfl, rfl⟩
end
theorem eqp_t (q : Nat) : decide ((⟨q, 0, none⟩ : Addr) = ⟨q, 0, none⟩) = true := decide_eq_true rfl
theorem eqp_f {q r : Nat} (h : q ≠ r) : decide ((⟨q, 0, none⟩ : Addr) = ⟨r, 0, none⟩) = false := decide_eq_false fun e => h (by injection e)
theorem set_has {κ : Type} [DecidableEq κ] {a : κ} {u : Value} {es : List (EntS κ)} {clock : Nat} (hk : KeysOk es clock) (h : getS a es = some u) (v : Value) : ∃ A e B, es = A ++ e :: B ∧ e.1 = a ∧ (∀ x ∈ A, x.1 ≠ a) ∧ (∀ x ∈ A, x.2.2 ≠ e.2.2) ∧ A ++ (e.1, v, e.2.2) :: B = (setS a v clock es).1 ∧ (setS a v clock es).2 = clock := by
  unfold getS at h
  cases hf : findS a es 0 with
  | none => rw [hf] at h; cases h
  | some p =>
    obtain ⟨k, w⟩ := p
    obtain ⟨A, e, B, rfl, rfl, h1, h2, h3⟩ := findS_some hf
    have hm : (A ++ e :: B).modify A.length (fun x => (x.1, v, x.2.2)) = A ++ (e.1, v, e.2.2) :: B := modify_mid _ e B A
    refine ⟨A, e, B, rfl, h1, h3, fun x hx e' => ?_, ?_, ?_⟩
    · have hs := hk.stamps
      rw [List.map_append, List.map_cons] at hs
      exact (List.nodup_append.1 hs).2.2 _ (List.mem_map.2 ⟨x, hx, rfl⟩) _ List.mem_cons_self e'
    · unfold setS; rw [hf]; exact hm.symm
    · unfold setS; rw [hf]
def swpS (a c : SlotT) (x : SlotT × Int) : SlotT × Int := if x.1 = a then (c, x.2) else if x.1 = c then (a, x.2) else x
def swapD (D : DT) (a c : SlotT) : DT := D.map (swpS a c)
theorem swpS_self (a : SlotT) (x : SlotT × Int) : swpS a a x = x := by
  unfold swpS
  by_cases h : x.1 = a
  · rw [if_pos h, ← h]
  · rw [if_neg h, if_neg h]
def swf (a c s : SlotT) : SlotT := if s = a then c else if s = c then a else s
theorem swpS_fst (a c : SlotT) (x : SlotT × Int) : (swpS a c x).1 = swf a c x.1 := by
  unfold swpS swf
  by_cases h : x.1 = a
  · rw [if_pos h, if_pos h]
  · rw [if_neg h, if_neg h]
    by_cases h2 : x.1 = c
    · rw [if_pos h2, if_pos h2]
    · rw [if_neg h2, if_neg h2]
theorem swf_swf (a c s : SlotT) : swf a c (swf a c s) = s := by
  unfold swf
  by_cases h : s = a
  · rw [if_pos h]
    by_cases h3 : c = a
    · rw [if_pos h3, h, h3]
    · rw [if_neg h3, if_pos rfl, h]
  · rw [if_neg h]
    by_cases h2 : s = c
    · rw [if_pos h2, if_pos rfl, h2]
    · rw [if_neg h2, if_neg h, if_neg h2]
theorem swpS_inj {a c : SlotT} {x y : SlotT × Int} (h : (swpS a c x).1 = (swpS a c y).1) : x.1 = y.1 := by
  rw [swpS_fst, swpS_fst] at h
  rw [← swf_swf a c x.1, h, swf_swf]
theorem swpS_comm (a c : SlotT) (x : SlotT × Int) : swpS a c x = swpS c a x := by
  unfold swpS
  by_cases h : x.1 = a
  · by_cases h2 : x.1 = c
    · rw [if_pos h, if_pos h2, ← h, ← h2]
    · rw [if_pos h, if_neg h2, if_pos h]
  · rw [if_neg h, if_neg h]
theorem swapD_comm (D : DT) (a c : SlotT) : swapD D a c = swapD D c a := List.map_congr_left fun x _ => swpS_comm a c x
theorem swapD_id {F : Nat → NdT} {os : List Nat} {a c : SlotT} (ha : ∀ q, q ∈ os → (F q).sl ≠ a) (hc : ∀ q, q ∈ os → (F q).sl ≠ c) : swapD (dOf F os) a c = dOf F os := by
  unfold swapD dOf
  rw [List.map_map]
  exact List.map_congr_left fun q hq => by
    show swpS a c ((F q).sl, (F q).dp) = _
    unfold swpS
    rw [if_neg (ha q hq), if_neg (hc q hq)]
theorem swap_move {b rb m : Nat} {F : Nat → NdT} {all os : List Nat} {es : List (EntS SlotT)} {clock : Nat} {lq : List Chunk} (hT : TB b rb m F all os es clock lq) {a c : SlotT} {p : Nat} (h1 : blk F os a = some p) (h2 : blk F os c = none) : moveD (dOf F os) a c = (0, swapD (dOf F os) a c) := by
  unfold moveD
  obtain ⟨A, B, rfl, hs⟩ := split_blk h1
  have hps := (blk_some h1).2
  rw [hs]
  simp only
  rw [has_blk, h2]
  simp only [Option.isSome_none, Bool.false_eq_true, if_false]
  obtain ⟨uA, uB⟩ := hT.uniq
  rw [hps] at uA uB
  have hno := blk_none h2
  have e : swapD (dOf F (A ++ p :: B)) a c = swapD (dOf F A) a c ++ swpS a c ((F p).sl, (F p).dp) :: swapD (dOf F B) a c := by
    unfold swapD dOf; rw [List.map_append, List.map_cons, List.map_append, List.map_cons]
  rw [e, swapD_id uA fun q hq => hno q (List.mem_append_left _ hq), swapD_id uB fun q hq => hno q (List.mem_append_right _ (.tail _ hq))]
  congr 3
  unfold swpS; rw [if_pos hps]
set_option pp.deepTerms false
set_option pp.deepTerms.threshold 4
set_option maxHeartbeats 400000
end Go.Proofs.YtcjknmpogkofpaaGreat.Tr

/- The tree's plain law: acts, depths, slots. -/
set_option linter.unusedVariables false
set_option linter.unusedSimpArgs false
namespace Go.Proofs.YtcjknmpogkofpaaGreat.Tr
open Go.RowKit
set_option maxRecDepth 20000
set_option maxRecDepth 20000

abbrev ActT := Int × SlotT × SlotT
abbrev encA (x : ActT) : List Value := [.int .i64 x.1, .int .i64 x.2.1.1, .int .i64 x.2.1.2, .int .i64 x.2.2.1, .int .i64 x.2.2.2]
def actD (D : DT) (x : ActT) : DT := if x.1 = 0 then (rootD D x.2.1).2 else if x.1 = 1 then (childD D x.2.1 x.2.2).2 else if x.1 = 2 then (removeD D x.2.1).2 else if x.1 = 3 then (moveD D x.2.1 x.2.2).2 else if x.1 = 4 then swapD D x.2.1 x.2.2 else D
def playD (xs : List ActT) : DT := xs.foldl actD []
theorem playD_snoc (xs : List ActT) (x : ActT) : playD (xs ++ [x]) = actD (playD xs) x := by simp [playD]
/-- the first depth is at most e, each at most one more than the one ahead -/
def DepOk : Int → DT → Prop
  | _, [] => True
  | e, x :: r => 0 ≤ x.2 ∧ x.2 ≤ e ∧ DepOk (x.2 + 1) r
theorem DepOk.mono : ∀ {D : DT} {e f : Int}, DepOk e D → e ≤ f → DepOk f D
  | [], _, _, _, _ => trivial
  | x :: r, e, f, ⟨h1, h2, h3⟩, h => ⟨h1, by omega, h3⟩
theorem DepOk.bound : ∀ {D : DT} {e : Int}, DepOk e D → ∀ x, x ∈ D → 0 ≤ x.2 ∧ x.2 ≤ e + D.length
  | [], _, _, x, hx => by cases hx
  | y :: r, e, ⟨h1, h2, h3⟩, x, hx => by
    rw [List.length_cons]
    rcases List.mem_cons.1 hx with rfl | hx
    · exact ⟨h1, by omega⟩
    · have := DepOk.bound h3 x hx
      exact ⟨this.1, by omega⟩
def lastE : Int → DT → Int
  | e, [] => e
  | _, x :: r => lastE (x.2 + 1) r
theorem DepOk.app : ∀ {A B : DT} {e : Int}, DepOk e (A ++ B) ↔ DepOk e A ∧ DepOk (lastE e A) B
  | [], B, e => ⟨fun h => ⟨trivial, h⟩, fun h => h.2⟩
  | x :: A, B, e => by
    show 0 ≤ x.2 ∧ x.2 ≤ e ∧ DepOk (x.2 + 1) (A ++ B) ↔ (0 ≤ x.2 ∧ x.2 ≤ e ∧ DepOk (x.2 + 1) A) ∧ DepOk (lastE (x.2 + 1) A) B
    rw [DepOk.app (A := A)]
    exact ⟨fun ⟨h1, h2, h3, h4⟩ => ⟨⟨h1, h2, h3⟩, h4⟩, fun ⟨⟨h1, h2, h3⟩, h4⟩ => ⟨h1, h2, h3, h4⟩⟩
theorem DepOk.last : ∀ {A : DT} {e : Int}, DepOk e A → 0 ≤ e → 0 ≤ lastE e A
  | [], _, _, h => h
  | x :: A, e, ⟨h1, _, h3⟩, _ => by show 0 ≤ lastE (x.2 + 1) A; exact DepOk.last h3 (by omega)
theorem DepOk.dec {d : Int} (hd : 0 ≤ d) : ∀ {B : DT} {e f : Int}, DepOk e B → e ≤ f + 1 → d ≤ f → DepOk f (decW d B)
  | [], _, _, _, _, _ => trivial
  | x :: r, e, f, ⟨h1, h2, h3⟩, he, hf => by
    by_cases h : d < x.2
    · have e1 : decW d (x :: r) = (x.1, x.2 - 1) :: decW d r := by
        unfold decW
        rw [List.takeWhile_cons_of_pos (by simpa using h), List.dropWhile_cons_of_pos (by simpa using h)]; rfl
      rw [e1]
      refine ⟨by simp only; omega, by simp only; omega, ?_⟩
      exact DepOk.dec hd h3 (by simp only; omega) (by simp only; omega)
    · have e1 : decW d (x :: r) = x :: r := by
        unfold decW
        rw [List.takeWhile_cons_of_neg (by simpa using h), List.dropWhile_cons_of_neg (by simpa using h)]; rfl
      rw [e1]
      exact ⟨h1, by omega, h3⟩
theorem decW_fst (d : Int) (B : DT) : (decW d B).map Prod.fst = B.map Prod.fst := by
  unfold decW
  rw [List.map_append, List.map_map]
  have : (List.takeWhile (fun x : SlotT × Int => decide (d < x.2)) B).map (Prod.fst ∘ fun x => (x.1, x.2 - 1)) = (List.takeWhile (fun x : SlotT × Int => decide (d < x.2)) B).map Prod.fst := rfl
  rw [this, ← List.map_append, List.takeWhile_append_dropWhile]
theorem decW_len (d : Int) (B : DT) : (decW d B).length = B.length := by
  have := congrArg List.length (decW_fst d B); simpa using this
structure GoodT (D : DT) (n : Nat) : Prop where
  nd : (D.map Prod.fst).Nodup
  dep : DepOk 0 D
  len : D.length ≤ n
theorem GoodT.small {D : DT} {n : Nat} (h : GoodT D n) (hn : n ≤ 1000000) : SmallD D := fun x hx => by
  have := h.dep.bound x hx
  have := h.len
  omega
theorem splitD_some {s : SlotT} : ∀ {D A B : DT} {d : Int}, splitD s D = some (A, d, B) → D = A ++ (s, d) :: B ∧ ∀ x, x ∈ A → x.1 ≠ s
  | [], _, _, _, h => by cases h
  | y :: r, A, B, d, h => by
    unfold splitD at h
    by_cases e : y.1 = s
    · rw [if_pos e] at h
      cases h
      refine ⟨by rw [← e]; rfl, by simp⟩
    · rw [if_neg e] at h
      cases h2 : splitD s r with
      | none => rw [h2] at h; cases h
      | some z =>
        rw [h2] at h
        obtain ⟨A', d', B'⟩ := z
        cases h
        obtain ⟨rfl, h3⟩ := splitD_some h2
        refine ⟨rfl, fun x hx => ?_⟩
        rcases List.mem_cons.1 hx with rfl | hx
        · exact e
        · exact h3 x hx
theorem splitD_none {s : SlotT} : ∀ {D : DT}, splitD s D = none ↔ ∀ x, x ∈ D → x.1 ≠ s
  | [] => ⟨fun _ x hx => (by cases hx), fun _ => rfl⟩
  | y :: r => by
    unfold splitD
    by_cases e : y.1 = s
    · rw [if_pos e]; exact ⟨fun h => (by cases h), fun h => absurd e (h y List.mem_cons_self)⟩
    · rw [if_neg e]
      constructor
      · intro h x hx
        have h2 : splitD s r = none := by cases h2 : splitD s r with | none => rfl | some z => rw [h2] at h; cases h
        rcases List.mem_cons.1 hx with rfl | hx
        · exact e
        · exact splitD_none.1 h2 x hx
      · intro h
        rw [splitD_none.2 fun x hx => h x (List.mem_cons_of_mem _ hx)]; rfl
theorem splitD_of {s : SlotT} {d : Int} {A B : DT} (h : ∀ x, x ∈ A → x.1 ≠ s) : splitD s (A ++ (s, d) :: B) = some (A, d, B) := by
  induction A with
  | nil => show splitD s ((s, d) :: B) = _; unfold splitD; rw [if_pos rfl]
  | cons y A ih =>
    show splitD s (y :: (A ++ (s, d) :: B)) = _
    unfold splitD
    rw [if_neg (h y List.mem_cons_self), ih fun x hx => h x (List.mem_cons_of_mem _ hx)]; rfl
theorem hasD_no {D : DT} {s : SlotT} : hasD D s = false ↔ ∀ x, x ∈ D → x.1 ≠ s := by
  unfold hasD
  rw [← splitD_none]
  cases splitD s D <;> simp
theorem hasD_yes {D : DT} {s : SlotT} : hasD D s = true ↔ s ∈ D.map Prod.fst := by
  constructor
  · intro h
    unfold hasD at h
    cases h2 : splitD s D with
    | none => rw [h2] at h; cases h
    | some z =>
      obtain ⟨A, d, B⟩ := z
      rw [(splitD_some h2).1]; simp
  · intro h
    cases h2 : hasD D s with
    | true => rfl
    | false =>
      obtain ⟨x, hx, rfl⟩ := List.mem_map.1 h
      exact absurd rfl (hasD_no.1 h2 x hx)
theorem GoodT.mono {D : DT} {n m : Nat} (h : GoodT D n) (hm : n ≤ m) : GoodT D m := ⟨h.nd, h.dep, Nat.le_trans h.len hm⟩
theorem GoodT.root {D : DT} {n : Nat} (h : GoodT D n) (s : SlotT) : GoodT (rootD D s).2 (n + 1) := by
  unfold rootD
  by_cases hs : hasD D s = true
  · rw [if_pos hs]; exact h.mono (by omega)
  · rw [if_neg hs]
    have hno := hasD_no.1 (by simpa using hs)
    refine ⟨?_, DepOk.app.2 ⟨h.dep, by simp only; omega, h.dep.last (by omega), trivial⟩, by have := h.len; simp; omega⟩
    rw [List.map_append, List.nodup_append]
    refine ⟨h.nd, by simp, fun a ha c hc e => ?_⟩
    obtain ⟨x, hx, rfl⟩ := List.mem_map.1 ha
    exact hno x hx (by rw [e]; simpa using hc)
theorem GoodT.child {D : DT} {n : Nat} (h : GoodT D n) (p s : SlotT) : GoodT (childD D p s).2 (n + 1) := by
  unfold childD
  cases h2 : splitD p D with
  | none => exact h.mono (by omega)
  | some z =>
    obtain ⟨A, d, B⟩ := z
    simp only
    by_cases hs : hasD D s = true
    · rw [if_pos hs]; exact h.mono (by omega)
    · rw [if_neg hs]
      have hno := hasD_no.1 (by simpa using hs)
      obtain ⟨rfl, hA⟩ := splitD_some h2
      obtain ⟨h3, h4, h5, h6⟩ := DepOk.app.1 h.dep
      refine ⟨?_, DepOk.app.2 ⟨h3, h4, h5, by simp only; omega, by simp only; omega, h6.mono (by simp only; omega)⟩, by have := h.len; simp at this ⊢; omega⟩
      have hp : ((A ++ (p, d) :: (s, d + 1) :: B).map Prod.fst).Perm (s :: (A ++ (p, d) :: B).map Prod.fst) := by
        have : (A ++ (p, d) :: (s, d + 1) :: B).Perm ((s, d + 1) :: (A ++ (p, d) :: B)) := by
          have e : A ++ (p, d) :: (s, d + 1) :: B = (A ++ [(p, d)]) ++ (s, d + 1) :: B := by simp
          have e2 : A ++ (p, d) :: B = (A ++ [(p, d)]) ++ B := by simp
          rw [e, e2]; exact List.perm_middle
        exact this.map _
      rw [hp.nodup_iff, List.nodup_cons]
      refine ⟨fun hm => ?_, h.nd⟩
      obtain ⟨x, hx, e⟩ := List.mem_map.1 hm
      exact hno x hx e
theorem GoodT.remove {D : DT} {n : Nat} (h : GoodT D n) (s : SlotT) : GoodT (removeD D s).2 n := by
  unfold removeD
  cases h2 : splitD s D with
  | none => exact h
  | some z =>
    obtain ⟨A, d, B⟩ := z
    simp only
    obtain ⟨rfl, hA⟩ := splitD_some h2
    obtain ⟨h3, h4, h5, h6⟩ := DepOk.app.1 h.dep
    refine ⟨?_, DepOk.app.2 ⟨h3, h6.dec h4 (by simp only at h5 ⊢; omega) h5⟩, by have := h.len; rw [List.length_append, decW_len]; simp at this ⊢; omega⟩
    rw [List.map_append, decW_fst, ← List.map_append]
    exact h.nd.sublist ((List.Sublist.append_left (List.sublist_cons_self _ _) _).map _)
theorem GoodT.move {D : DT} {n : Nat} (h : GoodT D n) (a c : SlotT) : GoodT (moveD D a c).2 n := by
  unfold moveD
  cases h2 : splitD a D with
  | none => exact h
  | some z =>
    obtain ⟨A, d, B⟩ := z
    simp only
    by_cases hs : hasD D c = true
    · rw [if_pos hs]; exact h
    · rw [if_neg hs]
      have hno := hasD_no.1 (by simpa using hs)
      obtain ⟨rfl, hA⟩ := splitD_some h2
      obtain ⟨h3, h4, h5, h6⟩ := DepOk.app.1 h.dep
      refine ⟨?_, DepOk.app.2 ⟨h3, h4, h5, h6⟩, by have := h.len; simp at this ⊢; omega⟩
      have hn := h.nd
      rw [List.map_append, List.map_cons] at hn ⊢
      have hn2 := List.nodup_cons.1 (List.perm_middle.nodup_iff.1 hn)
      refine List.perm_middle.nodup_iff.2 (List.nodup_cons.2 ⟨fun hm => ?_, hn2.2⟩)
      rcases List.mem_append.1 hm with hm | hm
      · obtain ⟨x, hx, e⟩ := List.mem_map.1 hm; exact hno x (List.mem_append_left _ hx) e
      · obtain ⟨x, hx, e⟩ := List.mem_map.1 hm; exact hno x (List.mem_append_right _ (.tail _ hx)) e
theorem DepOk.map {f : SlotT × Int → SlotT × Int} (hf : ∀ x, (f x).2 = x.2) : ∀ {D : DT} {e : Int}, DepOk e D → DepOk e (D.map f)
  | [], _, _ => trivial
  | x :: r, e, ⟨h1, h2, h3⟩ => by
    refine ⟨by rw [hf]; exact h1, by rw [hf]; exact h2, ?_⟩
    rw [hf]; exact DepOk.map hf h3
theorem swpS_snd (a c : SlotT) (x : SlotT × Int) : (swpS a c x).2 = x.2 := by unfold swpS; split <;> (try split) <;> rfl
theorem GoodT.swap {D : DT} {n : Nat} (h : GoodT D n) (a c : SlotT) : GoodT (swapD D a c) n := by
  refine ⟨?_, h.dep.map (swpS_snd a c), by unfold swapD; rw [List.length_map]; exact h.len⟩
  unfold swapD
  rw [List.map_map, List.nodup_iff_pairwise_ne, List.pairwise_map]
  have hn := h.nd
  rw [List.nodup_iff_pairwise_ne, List.pairwise_map] at hn
  exact hn.imp fun hne e => hne (swpS_inj e)
theorem GoodT.act {D : DT} {n : Nat} (h : GoodT D n) (x : ActT) : GoodT (actD D x) (n + 1) := by
  unfold actD
  split
  · exact h.root _
  · split
    · exact h.child _ _
    · split
      · exact (h.remove _).mono (by omega)
      · split
        · exact (h.move _ _).mono (by omega)
        · split
          · exact (h.swap _ _).mono (by omega)
          · exact h.mono (by omega)
theorem GoodT.none : GoodT [] 0 := ⟨by simp, trivial, by simp⟩
theorem good_play (xs : List ActT) : GoodT (playD xs) xs.length := by
  have key : ∀ (xs : List ActT) (D : DT) (n : Nat), GoodT D n → GoodT (xs.foldl actD D) (n + xs.length) := by
    intro xs
    induction xs with
    | nil => intro D n h; exact h
    | cons x xs ih => intro D n h; have := ih _ _ (h.act x); rw [List.length_cons, show n + (xs.length + 1) = n + 1 + xs.length by omega]; exact this
  have := key xs [] 0 .none
  rwa [Nat.zero_add] at this
theorem swap_swap (D : DT) (a c : SlotT) : swapD (swapD D a c) a c = D := by
  unfold swapD
  rw [List.map_map]
  have : ∀ x, (swpS a c ∘ swpS a c) x = x := fun x => by
    show swpS a c (swpS a c x) = x
    apply Prod.ext
    · rw [swpS_fst, swpS_fst, swf_swf]
    · rw [swpS_snd, swpS_snd]
  rw [List.map_congr_left fun x _ => this x, List.map_id']
theorem move_back {D : DT} {n : Nat} (h : GoodT D n) {a c : SlotT} (h0 : (moveD D a c).1 = 0) : moveD (moveD D a c).2 c a = (0, D) := by
  unfold moveD at h0 ⊢
  cases h2 : splitD a D with
  | none => rw [h2] at h0; cases h0
  | some z =>
    obtain ⟨A, d, B⟩ := z
    rw [h2] at h0
    simp only at h0 ⊢
    by_cases hs : hasD D c = true
    · rw [if_pos hs] at h0; cases h0
    · rw [if_neg hs]
      have hno := hasD_no.1 (by simpa using hs)
      obtain ⟨rfl, hA⟩ := splitD_some h2
      have hnd := h.nd
      rw [List.map_append, List.map_cons] at hnd
      have hac : c ≠ a := fun e => hno (a, d) (by simp) e.symm
      simp only
      rw [splitD_of fun x hx => hno x (List.mem_append_left _ hx)]
      simp only
      have h3 : hasD (A ++ (c, d) :: B) a = false := hasD_no.2 fun x hx e => by
        have hn2 := (List.nodup_cons.1 (List.perm_middle.nodup_iff.1 hnd)).1
        rcases List.mem_append.1 hx with hx | hx
        · exact hA x hx e
        · rcases List.mem_cons.1 hx with rfl | hx
          · exact hac e
          · exact hn2 (List.mem_append_right _ (List.mem_map.2 ⟨x, hx, e⟩))
      rw [h3]; rfl
theorem move_same {D : DT} {a c : SlotT} (h0 : (moveD D a c).1 ≠ 0) : (moveD D a c).2 = D := by
  unfold moveD at h0 ⊢
  cases h2 : splitD a D with
  | none => rfl
  | some z =>
    obtain ⟨A, d, B⟩ := z
    rw [h2] at h0
    simp only at h0 ⊢
    by_cases hs : hasD D c = true
    · rw [if_pos hs]
    · rw [if_neg hs] at h0; exact absurd rfl h0
theorem acts_of : ∀ {rows : List (List Value)}, (∀ r, r ∈ rows → ∃ x : ActT, r = encA x) → ∃ xs : List ActT, rows = xs.map encA
  | [], _ => ⟨[], rfl⟩
  | r :: rows, h => by
    obtain ⟨x, hx⟩ := h r List.mem_cons_self
    obtain ⟨xs, hxs⟩ := acts_of (rows := rows) fun q hq => h q (List.mem_cons_of_mem _ hq)
    exact ⟨x :: xs, by rw [hx, hxs]; rfl⟩
end Go.Proofs.YtcjknmpogkofpaaGreat.Tr
