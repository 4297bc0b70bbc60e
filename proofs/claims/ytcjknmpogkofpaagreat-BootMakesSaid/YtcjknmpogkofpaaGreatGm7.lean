/- Laws that the statement's proof leans on (joined out of several texts). -/
import Derived.Test.YtcjknmpogkofpaaGreatGm3
import Derived.Test.YtcjknmpogkofpaaGreatGm6
import Derived.Test.YtcjknmpogkofpaaGreatGm5
import Derived.Test.YtcjknmpogkofpaaGreatGm4
import Derived.Shelf.SortM.Plain
import Derived.Shelf.SortM.SortNone
import Derived.Test.YtcjknmpogkofpaaGreatProg
set_option linter.unusedVariables false
set_option linter.unusedSimpArgs false
namespace Go.Proofs.YtcjknmpogkofpaaGreat
open Go.RowKit
set_option maxRecDepth 20000
structure NdS where
  id : Int
  C : List CapT
  gb : Nat
def ccs (C : List CapT) : List Value := C.flatMap encC
abbrev capZ : CapT := ⟨0, 0, 0, 0, 0, 0, 0, 0⟩
abbrev NdS.val (nd : NdS) : Value := .slice (some ⟨nd.gb, 0, none⟩) nd.C.length nd.C.length
abbrev NdS.blk (nd : NdS) : Chunk := (nd.gb, .cells (List.toArray (ccs nd.C)) 112 (0, 0))
abbrev NdS.d (nd : NdS) : Int × List CapT := (nd.id, nd.C)
abbrev xC (b m : Nat) : Chunk := (b, .cells (List.toArray [.map (some m)]) 340 (0, 0))
abbrev SD := List (Int × List CapT)
structure SB (b : Nat) (S : List NdS) (m : Nat) (es : List Ent) (clock : Nat) (lq : List Chunk) : Prop where
  eq : lq = xC b m :: (m, mapO .i64 es clock) :: S.map NdS.blk
  mb : MB NdS.id NdS.val S es clock
  sz : ∀ nd, nd ∈ S → 0 < nd.C.length ∧ nd.C.length ≤ 16
def IsS (b : Nat) (D : SD) (lq : List Chunk) : Prop := ∃ S m es clock, S.map NdS.d = D ∧ SB b S m es clock lq
abbrev slT := Int × Int
abbrev encT (s : slT) : List Value := [.int .i64 s.1, .int .i64 s.2]
abbrev slC (B : Nat) (s : slT) : Chunk := (B, .cells (List.toArray (encT s)) 109 (0, 0))
theorem find_d {S : List NdS} {a : Int} : findK Prod.fst (S.map NdS.d) a = (findK NdS.id S a).map NdS.d := by
  unfold findK
  rw [List.find?_map]
  rfl
theorem SB.m1 {b m clock : Nat} {S : List NdS} {es : List Ent} {lq : List Chunk} (h : SB b S m es clock lq) : xC b m ∈ lq := by rw [h.eq]; exact .head _
theorem SB.m2 {b m clock : Nat} {S : List NdS} {es : List Ent} {lq : List Chunk} (h : SB b S m es clock lq) : (m, mapO .i64 es clock) ∈ lq := by rw [h.eq]; exact .tail _ (.head _)
theorem SB.m3 {b m clock : Nat} {S : List NdS} {es : List Ent} {lq : List Chunk} (h : SB b S m es clock lq) {nd : NdS} (hn : nd ∈ S) : nd.blk ∈ lq := by rw [h.eq]; exact .tail _ (.tail _ (List.mem_map.2 ⟨nd, hn, rfl⟩))
theorem SB.look {b m clock : Nat} {S : List NdS} {es : List Ent} {lq : List Chunk} (h : SB b S m es clock lq) (a : Int) : (getE a es).getD (.slice none 0 0) = match findK NdS.id S a with
    | some nd => nd.val
    | none => .slice none 0 0 := by
  rw [h.mb.get]; cases findK NdS.id S a <;> rfl
theorem ccs_l (C : List CapT) : (ccs C).length = C.length * 8 := by
  induction C with
  | nil => rfl
  | cons x r ih => 
    rw [show ccs (x :: r) = encC x ++ ccs r from rfl, List.length_append, ih]
    show 8 + r.length * 8 = (r.length + 1) * 8
    omega
theorem ccs_at {C : List CapT} {k : Nat} {c : CapT} (h : C[k]? = some c) : (List.toArray (ccs C)).extract (k * 8) (k * 8 + 8) = List.toArray (encC c) ∧ k * 8 + 8 ≤ (List.toArray (ccs C)).size := by
  obtain ⟨h1, h2⟩ := flat_row (enc := encC) (k := 8) (fun _ => rfl) [] C k c h
  rw [List.append_nil] at h1 h2
  refine ⟨?_, by rw [List.size_toArray]; exact h2⟩
  apply Array.toList_inj.1
  rw [Array.toList_extract]
  simp only [List.extract, Nat.add_sub_cancel_left]
  exact h1
def sizeD (D : SD) (a : Int) : Int := match findK Prod.fst D a with
  | some x => (x.2.length : Nat)
  | none => 0
def okD (D : SD) (s : slT) : Bool := decide (0 ≤ s.2) && decide (s.2 < sizeD D s.1)
def atD (D : SD) (s : slT) : CapT := match findK Prod.fst D s.1 with
  | some x => x.2.getD s.2.toNat capZ
  | none => capZ
def getD' (D : SD) (s : slT) : CapT × Int := if okD D s = true then (atD D s, 0) else (capZ, 3)
def addN (D : SD) (id n : Int) : Int × SD := if id < 1 ∨ n < 1 ∨ 16 < n then (2, D) else if (findK Prod.fst D id).isSome = true then (11, D) else (0, insK Prod.fst D (id, List.replicate n.toNat capZ))
theorem ins_map {α β : Type} {f : α → β} {key : α → Int} {key' : β → Int} (hk : ∀ x, key' (f x) = key x) (S : List α) (x : α) : (insK key S x).map f = insK key' (S.map f) (f x) := by
  unfold insK
  rw [List.map_append, List.map_cons, List.takeWhile_map, List.dropWhile_map]
  have e : (fun y => decide (key y < key x)) = (fun y => decide (key' y < key' (f x))) ∘ f := by funext y; simp [hk]
  rw [e]
theorem SB.look1 {b m clock : Nat} {S : List NdS} {es : List Ent} {lq : List Chunk} (h : SB b S m es clock lq) (a : Int) : ∃ p n cap, (getE a es).getD (.slice none 0 0) = .slice p n cap ∧ sizeD (S.map NdS.d) a = ((n : Nat) : Int) := by
  rw [h.look]
  unfold sizeD
  rw [find_d]
  cases findK NdS.id S a with
  | none => exact ⟨none, 0, 0, rfl, rfl⟩
  | some nd => exact ⟨_, _, _, rfl, rfl⟩
theorem SB.look2 {b m clock : Nat} {S : List NdS} {es : List Ent} {lq : List Chunk} (h : SB b S m es clock lq) (a : Int) {n : Nat} (hn : sizeD (S.map NdS.d) a = ((n : Nat) : Int)) (h0 : 0 < n) : ∃ nd, findK NdS.id S a = some nd ∧ nd.C.length = n ∧ (getE a es).getD (.slice none 0 0) = nd.val := by
  rw [h.look]
  unfold sizeD at hn
  rw [find_d] at hn
  cases hf : findK NdS.id S a with
  | none => rw [hf] at hn; simp at hn; omega
  | some nd => rw [hf] at hn; simp at hn; exact ⟨nd, rfl, by omega, rfl⟩
set_option maxHeartbeats 400000
theorem new_any (l : List Chunk) : Fn Tryz.prog 137 [] l fun v l' => ∃ b, v = .pointer (some ⟨b, 0, none⟩) ∧ ∃ lq, IsS b [] lq ∧ l' = lq ++ l := by
  refine fn_of_body Tryz.func137 rfl rfl fun E => ?_
  simp only [argF, Tryz.ntmps137]
  refine gz ?_
  refine t_e e_makeMap rfl rfl rfl ?_
  rintro _ _ ⟨m, hm, rfl, rfl⟩
  refine gz ?_
  (first | refine t_e (e_box1 rfl rfl) rfl rfl rfl ?_ | refine t_e (e_boxA rfl) rfl rfl rfl ?_); rintro _ _ ⟨b, _, rfl, rfl⟩
  refine gz ?_
  exact k_ret [] rfl .refl (by exact zRes) ⟨b, rfl, _, ⟨[], m, [], 0, rfl, rfl, MB.zero, by simp⟩, rfl⟩
def atP (S : List NdS) (s : slT) : Option Addr := if okD (S.map NdS.d) s = true then (findK NdS.id S s.1).map fun nd => ⟨nd.gb, s.2.toNat * 8, none⟩ else none
theorem at_any (b : Nat) (D : SD) (S : List NdS) (m clock : Nat) (es : List Ent) (lq : List Chunk) (hD : S.map NdS.d = D) (hS : SB b S m es clock lq) (s : slT) (l : List Chunk) (hsub : ∀ c, c ∈ lq → c ∈ l) :
    Fn Tryz.prog 182 [.pointer (some ⟨b, 0, none⟩), .agg (List.toArray (encT s))] l fun v l' => v = .tuple #[.pointer (atP S s), .int .i64 (if okD D s = true then 0 else 3)] ∧ l' = l := by
  subst hD
  have hm1 := hsub _ hS.m1
  have hm2 := hsub _ hS.m2
  obtain ⟨p, n, cap, hlk, hn⟩ := hS.look1 s.1
  refine fn_of_body Tryz.func182 rfl rfl fun E => ?_
  simp only [argF, Tryz.ntmps182]
  refine gz ?_
  (first | refine t_e (e_box1 rfl rfl) rfl rfl rfl ?_ | refine t_e (e_boxA rfl) rfl rfl rfl ?_); rintro _ _ ⟨b3, _, rfl, rfl⟩
  by_cases h0 : s.2 < 0
  · have hok : okD (S.map NdS.d) s = false := by unfold okD; rw [decide_eq_false (show ¬ 0 ≤ s.2 by omega)]; rfl
    rw [hok, show atP S s = none by unfold atP; rw [hok]; rfl]
    refine gz ?_
    refine c_draw [(0, true), (1, true), (2, true), (3, true), (4, true), (5, true), (6, true), (7, true), (8, true), (9, true), (10, true), (11, true), (12, true), (13, true), (14, true), (15, true), (16, true)] [[], [0], [0, 1], [0, 1, 2], [0, 1, 2, 3], [0, 1, 2, 3, 4], [0, 1, 2, 3], [0, 1, 2, 3, 6], [0, 1, 2, 3, 6, 7], [0, 1, 2, 3, 6, 7, 8], [0, 1, 2, 3], [0, 1, 2, 3, 10], [0, 1, 2, 3, 6, 7, 8, 9, 10, 11], [0, 1, 2, 3, 6, 7, 8, 9, 10, 11, 12], [0, 1, 2, 3, 4, 5, 6, 7, 8, 9, 10, 11, 12, 13], [0, 1, 2, 3, 4, 5, 6, 7, 8, 9, 10, 11, 12, 13, 14], [0, 1, 2, 3, 4, 5, 6, 7, 8, 9, 10, 11, 12, 13, 14, 15]] _ (by kernel_rfl) (by kernel_rfl) zAtt (fun _ h => h) ?_
    refine pz ?_
    refine gz ?_
    exact k_ret [] rfl (.drop .refl) (by exact zRes) ⟨rfl, rfl⟩
  · refine gz ?_
    refine c_draw [(0, true), (1, true), (2, true), (3, true), (4, true), (5, true), (6, true), (7, true), (8, true), (9, true), (10, true), (11, true), (12, true), (13, true), (14, true), (15, true), (16, true)] [[], [0], [0, 1], [0, 1, 2], [0, 1, 2, 3], [0, 1, 2, 3, 4], [0, 1, 2, 3], [0, 1, 2, 3, 6], [0, 1, 2, 3, 6, 7], [0, 1, 2, 3, 6, 7, 8], [0, 1, 2, 3], [0, 1, 2, 3, 10], [0, 1, 2, 3, 6, 7, 8, 9, 10, 11], [0, 1, 2, 3, 6, 7, 8, 9, 10, 11, 12], [0, 1, 2, 3, 4, 5, 6, 7, 8, 9, 10, 11, 12, 13], [0, 1, 2, 3, 4, 5, 6, 7, 8, 9, 10, 11, 12, 13, 14], [0, 1, 2, 3, 4, 5, 6, 7, 8, 9, 10, 11, 12, 13, 14, 15]] _ (by kernel_rfl) (by kernel_rfl) zAtt (fun _ h => h) ?_
    refine pz ?_
    rw [hlk]
    refine pz ?_
    by_cases h1 : s.2 < (n : Int)
    · have hok : okD (S.map NdS.d) s = true := by unfold okD; rw [hn, decide_eq_true (show 0 ≤ s.2 by omega), decide_eq_true h1]; rfl
      obtain ⟨nd, hf, hlen, hnd⟩ := hS.look2 s.1 hn (by omega)
      obtain ⟨k, hk⟩ : ∃ k : Nat, s.2 = (k : Nat) := ⟨s.2.toNat, by omega⟩
      rw [hok, show atP S s = some ⟨nd.gb, k * 8, none⟩ by unfold atP; rw [hok, hf, hk]; rfl]
      refine gz ?_
      refine c_draw [(0, true), (1, true), (2, true), (3, true), (4, true), (5, true), (6, true), (7, true), (8, true), (9, true), (10, true), (11, true)] [[], [0], [0, 1], [0, 1, 2], [], [4], [0, 1, 2, 3, 4, 5], [], [7], [0, 1, 2, 3, 4, 5, 6, 7, 8], [0, 1, 2, 3, 4, 5, 6, 7, 8, 9], [0, 1, 2, 3, 4, 5, 6, 7, 8, 9, 10]] _ (by kernel_rfl) (by kernel_rfl) zAtt (fun _ h => h) ?_
      refine pz ?_
      rw [hnd, hk]
      refine pz ?_
      refine gz ?_
      exact k_ret [] rfl (.drop .refl) (by exact zRes) ⟨rfl, rfl⟩
    · have hok : okD (S.map NdS.d) s = false := by unfold okD; rw [hn, decide_eq_false h1]; simp
      rw [hok, show atP S s = none by unfold atP; rw [hok]; rfl]
      refine gz ?_
      exact k_ret [] rfl (.drop .refl) (by exact zRes) ⟨rfl, rfl⟩
theorem get_any (b : Nat) (D : SD) (lq : List Chunk) (hq : IsS b D lq) (s : slT) (l : List Chunk) (hsub : ∀ c, c ∈ lq → c ∈ l) :
    Fn Tryz.prog 132 [.pointer (some ⟨b, 0, none⟩), .agg (List.toArray (encT s))] l fun v l' => v = .tuple #[.agg (List.toArray (encC (getD' D s).1)), .int .i64 (getD' D s).2] ∧ l' = l := by
  obtain ⟨S, m, es, clock, rfl, hS⟩ := hq
  refine fn_of_body Tryz.func132 rfl rfl fun E => ?_
  simp only [argF, Tryz.ntmps132]
  refine gz ?_
  (first | refine t_e (e_box1 rfl rfl) rfl rfl rfl ?_ | refine t_e (e_boxA rfl) rfl rfl rfl ?_); rintro _ _ ⟨b3, _, rfl, rfl⟩
  refine gz ?_
  refine t_e e_alloc rfl rfl rfl ?_; rintro _ _ ⟨b4, _, rfl, rfl⟩
  refine gz ?_
  refine t_q (q_call rfl rfl fun l2 hl => at_any b _ S m clock es lq rfl hS s l2 fun c hc => hl c (.tail _ (.tail _ (hsub c hc)))) rfl rfl rfl ?_
  cases hok : okD (S.map NdS.d) s with
  | false =>
    rw [show getD' (S.map NdS.d) s = (capZ, 3) by unfold getD'; rw [hok]; rfl]
    simp only [Bool.false_eq_true, if_false]
    refine gz ?_
    exact k_ret2 [] (capC b4 capZ :: slC b3 s :: l) rfl (l' := l) .refl (by exact zRes) (.drop (.drop .refl)) ⟨rfl, rfl⟩
  | true =>
    have hok2 := hok
    unfold okD at hok2
    rw [Bool.and_eq_true, decide_eq_true_eq, decide_eq_true_eq] at hok2
    obtain ⟨p, n, cap, hlk, hn⟩ := hS.look1 s.1
    obtain ⟨nd, hf, hlen, hnd⟩ := hS.look2 s.1 hn (by omega)
    obtain ⟨k, hk⟩ : ∃ k : Nat, s.2 = (k : Nat) := ⟨s.2.toNat, by omega⟩
    obtain ⟨c, hc⟩ : ∃ c, nd.C[k]? = some c := ⟨_, List.getElem?_eq_getElem (by omega)⟩
    have hat : atD (S.map NdS.d) s = c := by
      unfold atD
      rw [find_d, hf, hk]
      show nd.C.getD k capZ = c
      rw [List.getD_eq_getElem?_getD, hc]; rfl
    rw [show atP S s = some ⟨nd.gb, k * 8, none⟩ by unfold atP; rw [hok, hf, hk]; rfl, show getD' (S.map NdS.d) s = (c, 0) by unfold getD'; rw [hok, hat]; rfl]
    simp only [if_true]
    obtain ⟨g1, g2⟩ := ccs_at hc
    have hmb : nd.blk ∈ l := hsub _ (hS.m3 (findK_some hf).1)
    refine gz ?_
    refine t_q (q_loadA (n := 8) rfl (.tail _ (.tail _ hmb)) g2 g1) rfl rfl rfl ?_
    refine gz ?_
    exact k_ret2 [] (capC b4 c :: slC b3 s :: l) rfl (l' := l) .refl (by exact zRes) (.drop (.drop .refl)) ⟨rfl, rfl⟩
theorem setFrom_mid : ∀ (us ws X Y : List Value), us.length = ws.length → setFrom (List.toArray (X ++ (us ++ Y))) X.length ws = List.toArray (X ++ (ws ++ Y))
  | [], [], X, Y, _ => rfl
  | u :: us, w :: ws, X, Y, h => by
    have h1 : (List.toArray (X ++ (u :: us ++ Y))).setIfInBounds X.length w = List.toArray ((X ++ [w]) ++ (us ++ Y)) := by
      apply Array.toList_inj.1
      rw [Array.toList_setIfInBounds]
      show (X ++ (u :: (us ++ Y))).set X.length w = _
      rw [List.set_append_right _ _ (by omega), Nat.sub_self, List.set_cons_zero]
      simp
    unfold setFrom
    rw [h1]
    have h2 := setFrom_mid us ws (X ++ [w]) Y (by simpa using h)
    rw [List.length_append] at h2
    rw [show X.length + 1 = X.length + [w].length from rfl, h2]
    simp
theorem ccs_app (A B : List CapT) : ccs (A ++ B) = ccs A ++ ccs B := List.flatMap_append
theorem ccs_zero : ∀ n : Nat, ccs (List.replicate n capZ) = (List.replicate n (encC capZ)).flatten
  | 0 => rfl
  | n + 1 => by rw [List.replicate_succ, List.replicate_succ, List.flatten_cons, ← ccs_zero n]; rfl
theorem cap_split {C : List CapT} {k : Nat} {x : CapT} (h : C[k]? = some x) : C = C.take k ++ x :: C.drop (k + 1) ∧ (C.take k).length = k := by
  have hk := (List.getElem?_eq_some_iff.1 h).1
  have h1 := List.take_append_drop k C
  rw [List.drop_eq_getElem_cons hk] at h1
  have h2 : C[k] = x := by rw [List.getElem?_eq_getElem hk] at h; exact Option.some.inj h
  rw [h2] at h1
  exact ⟨h1.symm, by rw [List.length_take]; omega⟩
theorem set_split {C : List CapT} {k : Nat} {x c : CapT} (h : C[k]? = some x) : C.set k c = C.take k ++ c :: C.drop (k + 1) := by
  obtain ⟨h1, h2⟩ := cap_split h
  conv => lhs; rw [h1]
  rw [List.set_append_right _ _ (by omega), h2, Nat.sub_self, List.set_cons_zero]
theorem set_ccs {C : List CapT} {k : Nat} {x c : CapT} (h : C[k]? = some x) : setFrom (List.toArray (ccs C)) (k * 8) (encC c) = List.toArray (ccs (C.set k c)) := by
  obtain ⟨h1, h2⟩ := cap_split h
  rw [set_split h]
  have e : ∀ y : CapT, ccs (C.take k ++ y :: C.drop (k + 1)) = ccs (C.take k) ++ (encC y ++ ccs (C.drop (k + 1))) := fun y => by
    rw [ccs_app]; rfl
  have hl : (ccs (C.take k)).length = k * 8 := by rw [ccs_l, h2]
  rw [e c, ← hl]
  conv => lhs; rw [show ccs C = ccs (C.take k) ++ (encC x ++ ccs (C.drop (k + 1))) by rw [← e x, ← h1]]
  exact setFrom_mid _ _ _ _ rfl
theorem ins_perm {α : Type} {key : α → Int} (S : List α) (x : α) : (insK key S x).Perm (x :: S) := by
  unfold insK
  refine List.perm_middle.trans (List.Perm.cons x ?_)
  rw [List.takeWhile_append_dropWhile]
theorem mem_ins {α : Type} {key : α → Int} {S : List α} {x y : α} : y ∈ insK key S x ↔ y = x ∨ y ∈ S := by rw [(ins_perm S x).mem_iff]; simp
def putD (D : SD) (s : slT) (c : CapT) : SD := D.map fun x => if x.1 = s.1 then (x.1, x.2.set s.2.toNat c) else x
def setD (D : SD) (s : slT) (c : CapT) : Int × SD := if okD D s = true then (if mayC c = true then (0, putD D s c) else (5, D)) else (3, D)
theorem add_any (b : Nat) (D : SD) (lq : List Chunk) (hq : IsS b D lq) (id n : Int) (G : List Chunk) :
    Fn Tryz.prog 143 [.pointer (some ⟨b, 0, none⟩), .int .i64 id, .int .i64 n] (lq ++ G) fun v l' => v = .int .i64 (addN D id n).1 ∧ ∃ lq', IsS b (addN D id n).2 lq' ∧ l' = lq' ++ G := by
  have hq0 := hq
  obtain ⟨S, m, es, clock, rfl, hS⟩ := hq
  have hm1 : xC b m ∈ lq ++ G := List.mem_append_left _ hS.m1
  have hm2 : (m, mapO .i64 es clock) ∈ lq ++ G := List.mem_append_left _ hS.m2
  refine fn_of_body Tryz.func143 rfl rfl fun E => ?_
  simp only [argF, Tryz.ntmps143]
  by_cases h1 : id < 1
  · rw [show addN (S.map NdS.d) id n = (2, S.map NdS.d) by unfold addN; rw [if_pos (.inl h1)]]
    refine gz ?_
    exact k_ret [] rfl .refl (by exact zRes) ⟨rfl, _, hq0, rfl⟩
  by_cases h2 : n < 1
  · rw [show addN (S.map NdS.d) id n = (2, S.map NdS.d) by unfold addN; rw [if_pos (.inr (.inl h2))]]
    refine gz ?_
    exact k_ret [] rfl .refl (by exact zRes) ⟨rfl, _, hq0, rfl⟩
  by_cases h3 : 16 < n
  · rw [show addN (S.map NdS.d) id n = (2, S.map NdS.d) by unfold addN; rw [if_pos (.inr (.inr h3))]]
    refine gz ?_
    exact k_ret [] rfl .refl (by exact zRes) ⟨rfl, _, hq0, rfl⟩
  have h123 : ¬ (id < 1 ∨ n < 1 ∨ 16 < n) := by omega
  obtain ⟨k, rfl⟩ : ∃ k : Nat, n = (k : Nat) := ⟨n.toNat, by omega⟩
  obtain ⟨p, n0, cap, hlk, hn0⟩ := hS.look1 id
  cases hf : findK NdS.id S id with
  | some nd =>
    rw [show addN (S.map NdS.d) id (k : Nat) = (11, S.map NdS.d) by unfold addN; rw [if_neg h123, find_d, hf]; rfl]
    have hpos : 0 < n0 := by
      unfold sizeD at hn0
      rw [find_d, hf] at hn0
      have := (hS.sz nd (findK_some hf).1).1
      simp at hn0; omega
    refine gz ?_
    rw [hlk]
    refine gz ?_
    exact k_ret [] rfl .refl (by exact zRes) ⟨rfl, _, hq0, rfl⟩
  | none =>
    rw [show addN (S.map NdS.d) id (k : Nat) = (0, insK Prod.fst (S.map NdS.d) (id, List.replicate k capZ)) by unfold addN; rw [if_neg h123, find_d, hf]; rfl]
    have hz : n0 = 0 := by
      unfold sizeD at hn0
      rw [find_d, hf] at hn0
      simp at hn0; omega
    refine gz ?_
    rw [hlk]
    refine gz ?_
    refine c_draw [(0, true), (1, true), (2, true), (3, true), (4, true), (5, true), (6, false), (7, false)] [[], [0], [0, 1], [0, 1, 2], [], [], [5], [0, 1, 2, 3, 4, 5, 6]] ([xC b m]) (by kernel_rfl) (by kernel_rfl) zAtt (sing_mem hm1) ?_
    refine pz ?_
    apply pl_e
    · exact e_makeSlice (n := k) (kk := 8) (xs := ccs (List.replicate k capZ)) rfl rfl (by omega) (by omega) (by decide) (ccs_zero k)
    · rfl
    · rfl
    · rfl
    · rintro _ _ ⟨gb, _, _, rfl⟩ c hc
      rw [List.mem_singleton.1 hc]; exact .tail _ hm1
    rintro _ _ ⟨gb, hgb, rfl, rfl⟩
    refine pz ?_
    obtain ⟨nd, hnd⟩ : ∃ nd : NdS, nd = ⟨id, List.replicate k capZ, gb⟩ := ⟨_, rfl⟩
    have hvl : NdS.val nd = .slice (some ⟨gb, 0, none⟩) k k := by rw [hnd]; simp [NdS.val]
    rw [hS.eq]
    simp only [List.cons_append]
    apply pl_n
    · exact e_mapUpdate (a := id) (es := es) (clock := clock) rfl rfl rfl (.there (.there .here))
    · rfl
    · rfl
    · rintro _ _ ⟨rfl, rfl⟩ c hc
      rw [List.mem_singleton.1 hc]; exact .tail _ (.head _)
    rintro _ _ ⟨rfl, rfl⟩
    refine pz ?_
    refine gz ?_
    have hMB := hS.mb.add (t := nd) (by rw [hnd]; exact hf)
    rw [hvl, show nd.id = id by rw [hnd]] at hMB
    refine k_ret [] rfl (l' := (xC b m :: (m, mapO .i64 (setE id (.slice (some ⟨gb, 0, none⟩) k k) clock es).1 (setE id (.slice (some ⟨gb, 0, none⟩) k k) clock es).2) :: (insK NdS.id S nd).map NdS.blk) ++ G) ?_ (by exact zRes) ⟨rfl, _, ⟨insK NdS.id S nd, m, _, _, ?_, rfl, hMB, ?_⟩, rfl⟩
    · have hp : ((insK NdS.id S nd).map NdS.blk ++ G).Perm (nd.blk :: (S.map NdS.blk ++ G)) := ((ins_perm S nd).map _).append_right G
      refine Keep.of_perm ?_
      have hb : (gb, Obj.cells (List.toArray (ccs (List.replicate k capZ))) 112 (0, 0)) = nd.blk := by rw [hnd]
      rw [hb]
      exact (List.Perm.trans (List.Perm.swap _ _ _) (((List.Perm.swap _ _ _).trans (hp.symm.cons _)).cons _))
    · rw [ins_map (key' := Prod.fst) (fun x => rfl), hnd]
    · intro x hx
      rcases mem_ins.1 hx with rfl | hx
      · rw [hnd]; simp; omega
      · exact hS.sz x hx
theorem put_d {A B : List NdS} {nd : NdS} {k : Nat} {c : CapT} (hs : (A ++ nd :: B).Pairwise fun x y => x.id < y.id) : putD ((A ++ nd :: B).map NdS.d) (nd.id, (k : Nat)) c = (A ++ { nd with C := nd.C.set k c } :: B).map NdS.d := by
  obtain ⟨_, h2, h3⟩ := List.pairwise_append.1 hs
  have h4 := (List.pairwise_cons.1 h2).1
  unfold putD
  simp only [List.map_append, List.map_cons, List.map_map]
  congr 1
  · apply List.map_congr_left
    intro x hx
    have := h3 x hx nd List.mem_cons_self
    show (if x.id = nd.id then _ else x.d) = x.d
    rw [if_neg (by omega)]
  · refine List.cons_eq_cons.2 ⟨?_, ?_⟩
    · rw [if_pos trivial]; rfl
    · apply List.map_congr_left
      intro x hx
      have := h4 x hx
      show (if x.id = nd.id then _ else x.d) = x.d
      rw [if_neg (by omega)]
theorem set_any (b : Nat) (D : SD) (lq : List Chunk) (hq : IsS b D lq) (s : slT) (c : CapT) (G : List Chunk) :
    Fn Tryz.prog 145 [.pointer (some ⟨b, 0, none⟩), .agg (List.toArray (encT s)), .agg (List.toArray (encC c))] (lq ++ G) fun v l' => v = .int .i64 (setD D s c).1 ∧ ∃ lq', IsS b (setD D s c).2 lq' ∧ l' = lq' ++ G := by
  have hq0 := hq
  obtain ⟨S, m, es, clock, rfl, hS⟩ := hq
  refine fn_of_body Tryz.func145 rfl rfl fun E => ?_
  simp only [argF, Tryz.ntmps145]
  refine gz ?_
  (first | refine t_e (e_box1 rfl rfl) rfl rfl rfl ?_ | refine t_e (e_boxA rfl) rfl rfl rfl ?_); rintro _ _ ⟨b4, _, rfl, rfl⟩
  refine gz ?_
  (first | refine t_e (e_box1 rfl rfl) rfl rfl rfl ?_ | refine t_e (e_boxA rfl) rfl rfl rfl ?_); rintro _ _ ⟨b5, _, rfl, rfl⟩
  refine gz ?_
  refine t_q (q_call rfl rfl fun l2 hl => at_any b _ S m clock es lq rfl hS s l2 fun c hc => hl c (.tail _ (.tail _ (List.mem_append_left _ hc)))) rfl rfl rfl ?_
  cases hok : okD (S.map NdS.d) s with
  | false =>
    rw [show setD (S.map NdS.d) s c = (3, S.map NdS.d) by unfold setD; rw [hok]; rfl]
    simp only [Bool.false_eq_true, if_false]
    refine gz ?_
    exact k_ret [] rfl (.drop (.drop .refl)) (by exact zRes) ⟨rfl, _, hq0, rfl⟩
  | true =>
    have hok2 := hok
    unfold okD at hok2
    rw [Bool.and_eq_true, decide_eq_true_eq, decide_eq_true_eq] at hok2
    obtain ⟨p, n, cap, hlk, hn⟩ := hS.look1 s.1
    obtain ⟨nd, hf, hlen, hnd⟩ := hS.look2 s.1 hn (by omega)
    obtain ⟨k, hk⟩ : ∃ k : Nat, s.2 = (k : Nat) := ⟨s.2.toNat, by omega⟩
    obtain ⟨x, hx⟩ : ∃ x, nd.C[k]? = some x := ⟨_, List.getElem?_eq_getElem (by omega)⟩
    rw [show atP S s = some ⟨nd.gb, k * 8, none⟩ by unfold atP; rw [hok, hf, hk]; rfl]
    simp only [if_true]
    cases hM : mayC c with
    | false =>
      rw [show setD (S.map NdS.d) s c = (5, S.map NdS.d) by unfold setD; rw [hok, hM]; rfl]
      refine gz ?_
      refine t_q (q_call rfl rfl fun l2 _ => mayC_any c l2) rfl rfl rfl ?_
      rw [hM]
      refine gz ?_
      exact k_ret [] rfl (.drop (.drop .refl)) (by exact zRes) ⟨rfl, _, hq0, rfl⟩
    | true =>
      rw [show setD (S.map NdS.d) s c = (0, putD (S.map NdS.d) s c) by unfold setD; rw [hok, hM]; rfl]
      refine gz ?_
      refine t_q (q_call rfl rfl fun l2 _ => mayC_any c l2) rfl rfl rfl ?_
      rw [hM]
      refine gz ?_
      obtain ⟨A, B, hAB, hid, _⟩ := find_split hf
      obtain ⟨g1, g2⟩ := ccs_at hx
      have hmb : S.map NdS.blk = A.map NdS.blk ++ nd.blk :: B.map NdS.blk := by rw [hAB, List.map_append, List.map_cons]
      rw [hS.eq, hmb]
      simp only [List.cons_append, List.append_assoc]
      refine t_n (e_storeA (b := nd.gb) (off := k * 8) (cs := List.toArray (ccs nd.C)) (n := 8) rfl rfl rfl (by simp [Value.oneCell']) (.there (.there (.there (.there (upd_mid _ _ _ _ _))))) g2) rfl rfl ?_
      rintro _ _ ⟨rfl, rfl⟩
      rw [show setFrom (List.toArray (ccs nd.C)) (k * 8) (List.toArray (encC c)).toList = List.toArray (ccs (nd.C.set k c)) from set_ccs hx]
      refine gz ?_
      have hs : s = (nd.id, ((k : Nat) : Int)) := by rw [hid, ← hk]
      refine k_ret [] rfl (l' := (xC b m :: (m, mapO .i64 es clock) :: (A ++ { nd with C := nd.C.set k c } :: B).map NdS.blk) ++ G) (.drop (.drop (by rw [List.map_append, List.map_cons]; exact .of_perm (.of_eq (by simp))))) (by exact zRes) ⟨rfl, _, ⟨A ++ { nd with C := nd.C.set k c } :: B, m, es, clock, ?_, rfl, ?_, ?_⟩, rfl⟩
      · rw [hs, hAB, put_d (by rw [← hAB]; exact hS.mb.asc)]
      · have hm := hS.mb
        rw [hAB] at hm
        exact hm.repl rfl (by simp [NdS.val])
      · intro y hy
        have h1 := hS.sz
        rw [hAB] at h1
        rcases List.mem_append.1 hy with hy | hy
        · exact h1 y (List.mem_append_left _ hy)
        · rcases List.mem_cons.1 hy with rfl | hy
          · have := h1 nd (List.mem_append_right _ List.mem_cons_self)
            simpa using this
          · exact h1 y (List.mem_append_right _ (.tail _ hy))
theorem wrapI {a : Nat} (h : a < 9223372036854775808) : IntKind.i64.wrap ((a : Nat) : Int) = ((a : Nat) : Int) := by
  simp [IntKind.wrap, IntKind.signed, IntKind.bits]; omega
section
variable {P : Program} {ro : Option Nat} {N : Nat} {fr : Fr} {R l : List Chunk} {d : Option Nat} {ty t t2 : TypeId} {pos : String} {aft : Array Edge} {g : Option (Nat × Bool)} {x y : Operand} {a b : Nat}
theorem q_andI (hx : ev fr x = some (.int .i64 (a : Nat))) (hy : ev fr y = some (.int .i64 (b : Nat))) (ha : a < 2 ^ 63) (hb : b < 2 ^ 63) : OpQ P ro N fr R ⟨d, .binOp .and t x y t2, ty, pos, aft, g⟩ (.int .i64 ((a &&& b : Nat) : Int)) :=
  q_bin hx hy (fun _ _ => eqGuard_int _ _ _ _ _) (by
    have e1 : (BitVec.ofInt IntKind.i64.bits ((a : Nat) : Int)).toNat = a := by
      show (BitVec.ofInt 64 ((a : Nat) : Int)).toNat = a
      rw [BitVec.ofInt_natCast, BitVec.toNat_ofNat, Nat.mod_eq_of_lt (by omega)]
    have e2 : (BitVec.ofInt IntKind.i64.bits ((b : Nat) : Int)).toNat = b := by
      show (BitVec.ofInt 64 ((b : Nat) : Int)).toNat = b
      rw [BitVec.ofInt_natCast, BitVec.toNat_ofNat, Nat.mod_eq_of_lt (by omega)]
    simp only [binOp, Op.intBits, BitVec.toNat_and, e1, e2]
    rw [wrapI (Nat.lt_of_le_of_lt Nat.and_le_left ha)]
    rfl)
end
def rMay (r : Int) : Bool := decide (0 ≤ r) && decide (r ≤ 7)
def maskV (a b : Int) : Int := if rMay a && rMay b then ((a.toNat &&& b.toNat : Nat) : Int) else 0
def copyC (c : CapT) (mask : Int) : CapT × Int :=
  if mayC c = false ∨ rMay mask = false then (capZ, 2) else if c.kind = 0 then (capZ, 10) else if c.kind = 1 ∨ c.kind = 7 then (capZ, 8)
  else if c.kind = 3 then (if maskV c.rights mask = 0 then (capZ, 9) else (⟨c.kind, c.obj, maskV c.rights mask, c.badge, c.guard, c.bits, 0, 0⟩, 0))
  else if c.kind = 8 then (⟨c.kind, c.obj, maskV c.rights mask, c.badge, c.guard, c.bits, c.serial, c.page⟩, 0) else (c, 0)
abbrev nodeC (d : CapT) (data : Nat) : CapT := ⟨d.kind, d.obj, d.rights, d.badge, ((data % 4096 : Nat) : Int), ((data / 4096 : Nat) : Int), d.serial, d.page⟩
def mintD (d : CapT) (data : Nat) : CapT × Int :=
  if d.kind = 8 then (if data > 16777215 then (capZ, 3) else if d.badge ≠ 0 then (capZ, 9) else (⟨d.kind, d.obj, d.rights, ((data : Nat) : Int), d.guard, d.bits, d.serial, d.page⟩, 0))
  else if d.kind = 2 then (if data ≥ 65536 then (capZ, 3) else if mayC (nodeC d data) = false then (capZ, 3) else (nodeC d data, 0))
  else if data ≠ 0 then (capZ, 2) else (d, 0)
def mintC (c : CapT) (mask : Int) (data : Nat) : CapT × Int := if (copyC c mask).2 ≠ 0 then (capZ, (copyC c mask).2) else mintD (copyC c mask).1 data
theorem copy_e {c : CapT} {mask : Int} (h : (copyC c mask).2 ≠ 0) : (copyC c mask).1 = capZ := by
  unfold copyC at h ⊢
  repeat' (split at h <;> first | exact absurd rfl h | (simp only [*, if_true, if_false, not_true, not_false_iff]; done) | skip)
  all_goals first | rfl | (split <;> rfl) | skip
theorem pmay_any (r : Int) (l : List Chunk) : Fn Tryz.prog 190 [.int .i64 r] l fun v l' => v = .bool (rMay r) ∧ l' = l := by
  refine fn_of_body Tryz.func190 rfl rfl fun E => ?_
  simp only [argF, Tryz.ntmps190]
  unfold rMay
  by_cases h0 : 0 ≤ r
  · rw [decide_eq_true h0]
    refine gzU ?_
    exact k_ret [] rfl .refl (by exact zRes) ⟨rfl, rfl⟩
  · rw [decide_eq_false h0]
    refine gzU ?_
    exact k_ret [] rfl .refl (by exact zRes) ⟨rfl, rfl⟩
theorem rMay_nat {r : Int} (h : rMay r = true) : ∃ n : Nat, r = n ∧ n < 8 := by
  unfold rMay at h
  rw [Bool.and_eq_true, decide_eq_true_eq, decide_eq_true_eq] at h
  exact ⟨r.toNat, by omega, by omega⟩
theorem pmask_any (a b : Int) (l : List Chunk) : Fn Tryz.prog 195 [.int .i64 a, .int .i64 b] l fun v l' => v = .int .i64 (maskV a b) ∧ l' = l := by
  refine fn_of_body Tryz.func195 rfl rfl fun E => ?_
  simp only [argF, Tryz.ntmps195]
  refine gzU ?_
  refine t_q (q_call rfl rfl fun l2 _ => pmay_any a l2) rfl rfl rfl ?_
  unfold maskV
  cases ha : rMay a with
  | false =>
    refine gzU ?_
    exact k_ret [] rfl .refl (by exact zRes) ⟨rfl, rfl⟩
  | true =>
  refine gzU ?_
  refine t_h (q_call rfl rfl fun l2 _ => pmay_any b l2) rfl rfl rfl ?_
  cases hb : rMay b with
  | false =>
    refine gzU ?_
    exact k_ret [] rfl .refl (by exact zRes) ⟨rfl, rfl⟩
  | true =>
  obtain ⟨a, rfl, ha8⟩ := rMay_nat ha
  obtain ⟨b, rfl, hb8⟩ := rMay_nat hb
  refine gzU ?_
  refine t_q (q_andI rfl rfl (by omega) (by omega)) rfl rfl rfl ?_
  refine gzU ?_
  exact k_ret [] rfl .refl (by exact zRes) ⟨rfl, rfl⟩
theorem bit_eq (a j : Nat) : a / 2 ^ j % 2 = 1 ↔ a.testBit j = true := by
  rw [Nat.testBit_eq_decide_div_mod_eq, decide_eq_true_eq]
theorem and_bit (a b j : Nat) : (a &&& b) / 2 ^ j % 2 = 1 ↔ a / 2 ^ j % 2 = 1 ∧ b / 2 ^ j % 2 = 1 := by
  rw [bit_eq, bit_eq, bit_eq, Nat.testBit_and, Bool.and_eq_true]
theorem copy_w {c : CapT} (h : CapW c) (mask : Int) : CapW (copyC c mask).1 := by
  have hz : CapW capZ := ⟨by decide, by decide⟩
  unfold copyC
  split
  · exact hz
  split
  · exact hz
  split
  · exact hz
  split
  · split
    · exact hz
    · exact ⟨h.badge, h.guard⟩
  split
  · exact ⟨h.badge, h.guard⟩
  · exact h
theorem copyderive_any (c : CapT) (hw : CapW c) (mask : Int) (l : List Chunk) : Fn Tryz.prog 149 [.agg (List.toArray (encC c)), .int .i64 mask] l fun v l' => v = .tuple #[.agg (List.toArray (encC (copyC c mask).1)), .int .i64 (copyC c mask).2] ∧ l' = l := by
  refine fn_of_body Tryz.func149 rfl rfl fun E => ?_
  simp only [argF, Tryz.ntmps149]
  refine gzU ?_
  (first | refine t_e (e_box1 rfl rfl) rfl rfl rfl ?_ | refine t_e (e_boxA rfl) rfl rfl rfl ?_); rintro _ _ ⟨b2, _, rfl, rfl⟩
  refine gzU ?_
  refine t_e e_alloc rfl rfl rfl ?_; rintro _ _ ⟨b4, _, rfl, rfl⟩
  refine gzU ?_
  refine t_q (q_call rfl rfl fun l2 _ => mayC_any c l2) rfl rfl rfl ?_
  have hz : ∀ (e : Int) (d : CapT), Keep (capC b4 capZ :: capC b2 d :: l) l := fun _ _ => .drop (.drop .refl)
  cases hm : mayC c with
  | false =>
    rw [show copyC c mask = (capZ, 2) by unfold copyC; rw [if_pos (.inl hm)]]
    refine gzU ?_
    exact k_ret2 [] (capC b4 capZ :: capC b2 c :: l) rfl (l' := l) .refl (by exact zRes) (hz 0 _) ⟨rfl, rfl⟩
  | true =>
  refine gzU ?_
  refine t_h (q_call rfl rfl fun l2 _ => pmay_any mask l2) rfl rfl rfl ?_
  cases hr : rMay mask with
  | false =>
    rw [show copyC c mask = (capZ, 2) by unfold copyC; rw [if_pos (.inr hr)]]
    refine gzU ?_
    exact k_ret2 [] (capC b4 capZ :: capC b2 c :: l) rfl (l' := l) .refl (by exact zRes) (hz 0 _) ⟨rfl, rfl⟩
  | true =>
  have e0 : copyC c mask = if c.kind = 0 then (capZ, 10) else if c.kind = 1 ∨ c.kind = 7 then (capZ, 8)
    else if c.kind = 3 then (if maskV c.rights mask = 0 then (capZ, 9) else (⟨c.kind, c.obj, maskV c.rights mask, c.badge, c.guard, c.bits, 0, 0⟩, 0))
    else if c.kind = 8 then (⟨c.kind, c.obj, maskV c.rights mask, c.badge, c.guard, c.bits, c.serial, c.page⟩, 0) else (c, 0) := by
    unfold copyC; rw [if_neg (by rw [hm, hr]; simp)]
  rw [e0]
  by_cases k0 : c.kind = 0
  · rw [if_pos k0]
    refine gzU ?_
    exact k_ret2 [] (capC b4 capZ :: capC b2 c :: l) rfl (l' := l) .refl (by exact zRes) (hz 0 _) ⟨rfl, rfl⟩
  rw [if_neg k0]
  by_cases k17 : c.kind = 1 ∨ c.kind = 7
  · rw [if_pos k17]
    by_cases k1 : c.kind = 1
    · refine gzU ?_
      exact k_ret2 [] (capC b4 capZ :: capC b2 c :: l) rfl (l' := l) .refl (by exact zRes) (hz 0 _) ⟨rfl, rfl⟩
    · have k7 : c.kind = 7 := by omega
      refine gzU ?_
      exact k_ret2 [] (capC b4 capZ :: capC b2 c :: l) rfl (l' := l) .refl (by exact zRes) (hz 0 _) ⟨rfl, rfl⟩
  rw [if_neg k17]
  by_cases k3 : c.kind = 3
  · rw [if_pos k3]
    refine gzU ?_
    refine t_q (q_call rfl rfl fun l2 _ => pmask_any c.rights mask l2) rfl rfl rfl ?_
    by_cases hz0 : maskV c.rights mask = 0
    · rw [if_pos hz0]
      refine gzU ?_
      exact k_ret2 [] (capC b4 capZ :: capC b2 ⟨c.kind, c.obj, maskV c.rights mask, c.badge, c.guard, c.bits, 0, 0⟩ :: l) rfl (l' := l) .refl (by exact zRes) (hz 0 _) ⟨rfl, rfl⟩
    · rw [if_neg hz0]
      refine gzU ?_
      exact k_ret2 [] (capC b4 ⟨c.kind, c.obj, maskV c.rights mask, c.badge, c.guard, c.bits, 0, 0⟩ :: capC b2 ⟨c.kind, c.obj, maskV c.rights mask, c.badge, c.guard, c.bits, 0, 0⟩ :: l) rfl (l' := l) .refl (by exact zRes) (.drop (.drop .refl)) ⟨rfl, rfl⟩
  rw [if_neg k3]
  by_cases k8 : c.kind = 8
  · rw [if_pos k8]
    refine gzU ?_
    refine t_q (q_call rfl rfl fun l2 _ => pmask_any c.rights mask l2) rfl rfl rfl ?_
    refine gzU ?_
    exact k_ret2 [] (capC b4 ⟨c.kind, c.obj, maskV c.rights mask, c.badge, c.guard, c.bits, c.serial, c.page⟩ :: capC b2 ⟨c.kind, c.obj, maskV c.rights mask, c.badge, c.guard, c.bits, c.serial, c.page⟩ :: l) rfl (l' := l) .refl (by exact zRes) (.drop (.drop .refl)) ⟨rfl, rfl⟩
  rw [if_neg k8]
  refine gzU ?_
  exact k_ret2 [] (capC b4 c :: capC b2 c :: l) rfl (l' := l) .refl (by exact zRes) (.drop (.drop .refl)) ⟨rfl, rfl⟩
section
variable {P : Program} {ro : Option Nat} {N : Nat} {fr : Fr} {R l : List Chunk} {d : Option Nat} {ty t t2 : TypeId} {pos : String} {aft : Array Edge} {g : Option (Nat × Bool)} {x y : Operand} {k k' : IntKind} {i : Int} {n a b : Nat}
end
def fieldN (w at' n : Nat) : Nat := w / 2 ^ at' % 2 ^ n
theorem field_eq {w at' n : Nat} : (w / 2 ^ at') &&& (2 ^ n - 1) = fieldN w at' n := Nat.and_two_pow_sub_one_eq_mod _ _
theorem wmay_any (a n : Nat) (h1 : 1 ≤ n) (h2 : a + n ≤ 64) (l : List Chunk) : Fn Tryz.prog 216 [.int .i64 (a : Nat), .int .i64 (n : Nat)] l fun v l' => v = .bool true ∧ l' = l := by
  refine fn_of_body Tryz.func216 rfl rfl fun E => ?_
  simp only [argF, Tryz.ntmps216]
  refine gz ?_
  refine k_ret [] rfl .refl (by exact zRes) ⟨?_, rfl⟩
  rw [decide_eq_true (by omega)]; rfl
theorem wones_any (n : Nat) (h1 : 1 ≤ n) (h2 : n ≤ 63) (l : List Chunk) : Fn Tryz.prog 217 [.int .i64 (n : Nat)] l fun v l' => v = .int .u64 ((2 ^ n - 1 : Nat) : Int) ∧ l' = l := by
  refine fn_of_body Tryz.func217 rfl rfl fun E => ?_
  simp only [argF, Tryz.ntmps217]
  have hp : 2 ^ n ≤ 2 ^ 63 := Nat.pow_le_pow_right (by omega) h2
  have hp0 : 0 < 2 ^ n := Nat.two_pow_pos _
  have hw : IntKind.u64.wrap (1 * 2 ^ n) = ((2 ^ n : Nat) : Int) := by
    rw [Int.one_mul, show (2 : Int) ^ n = ((2 ^ n : Nat) : Int) by simp, wrapN (by omega)]
  refine gz ?_
  refine t_q (q_shl (n := n) (i := 1) rfl rfl (by show n ≤ 64; omega)) rfl rfl rfl ?_
  rw [hw]
  obtain ⟨q, hq⟩ : ∃ q, 2 ^ n = q := ⟨_, rfl⟩
  rw [hq] at hp hp0 ⊢
  refine t_q (q_sub (i := ((q : Nat) : Int)) (j := 1) rfl rfl ⟨by omega, by omega⟩) rfl rfl rfl ?_
  refine gz ?_
  refine k_ret [] rfl .refl (by exact zRes) ⟨?_, rfl⟩
  rw [show ((q : Nat) : Int) - 1 = ((q - 1 : Nat) : Int) by omega]; rfl
theorem field_any (w a n : Nat) (hw : w < 18446744073709551616) (h1 : 1 ≤ n) (h2 : n ≤ 63) (h3 : a + n ≤ 64) (l : List Chunk) :
    Fn Tryz.prog 197 [.int .u64 (w : Nat), .int .i64 (a : Nat), .int .i64 (n : Nat)] l fun r l' => r = .tuple #[.int .u64 (fieldN w a n : Nat), .int .i64 0] ∧ l' = l := by
  have hp : 2 ^ n - 1 < 18446744073709551616 := by have : 2 ^ n ≤ 2 ^ 63 := Nat.pow_le_pow_right (by omega) h2; omega
  refine fn_of_body Tryz.func197 rfl rfl fun E => ?_
  simp only [argF, Tryz.ntmps197]
  refine gz ?_
  refine t_q (q_call rfl rfl fun l2 _ => wmay_any a n h1 h3 l2) rfl rfl rfl ?_
  refine gz ?_
  refine t_q (q_shr (n := a) rfl rfl (by show a ≤ 64; omega)) rfl rfl rfl ?_
  rw [show ((w : Nat) : Int) / 2 ^ a = ((w / 2 ^ a : Nat) : Int) by norm_cast]
  refine gz ?_
  refine t_q (q_call rfl rfl fun l2 _ => wones_any n h1 h2 l2) rfl rfl rfl ?_
  refine t_q (q_and rfl rfl (Nat.lt_of_le_of_lt (Nat.div_le_self _ _) hw) hp) rfl rfl rfl ?_
  rw [field_eq]
  refine gz ?_
  exact k_ret [] rfl .refl (by exact zRes) ⟨rfl, rfl⟩
theorem mint_w {c : CapT} (h : CapW c) (mask : Int) (data : Nat) : CapW (mintC c mask data).1 := by
  have hz : CapW capZ := ⟨by decide, by decide⟩
  have hw := copy_w h mask
  unfold mintC
  split
  · exact hz
  unfold mintD
  split
  · split
    · exact hz
    · split
      · exact hz
      · exact ⟨by simp only; omega, hw.guard⟩
  split
  · split
    · exact hz
    · split
      · exact hz
      · exact ⟨hw.badge, by simp only; omega⟩
  split
  · exact hz
  · exact hw
theorem mint_any (c : CapT) (hw : CapW c) (mask : Int) (data : Nat) (hd : data < 18446744073709551616) (l : List Chunk) : Fn Tryz.prog 154 [.agg (List.toArray (encC c)), .int .i64 mask, .int .u64 (data : Nat)] l fun v l' => v = .tuple #[.agg (List.toArray (encC (mintC c mask data).1)), .int .i64 (mintC c mask data).2] ∧ l' = l := by
  refine fn_of_body Tryz.func154 rfl rfl fun E => ?_
  simp only [argF, Tryz.ntmps154]
  refine gzU ?_
  (first | refine t_e (e_box1 rfl rfl) rfl rfl rfl ?_ | refine t_e (e_boxA rfl) rfl rfl rfl ?_); rintro _ _ ⟨b3, _, rfl, rfl⟩
  refine gzU ?_
  refine t_e e_alloc rfl rfl rfl ?_; rintro _ _ ⟨b6, _, rfl, rfl⟩
  refine gzU ?_
  refine t_q (q_call rfl rfl fun l2 _ => copyderive_any c hw mask l2) rfl rfl rfl ?_
  have hwd := copy_w hw mask
  have hce := @copy_e c mask
  unfold mintC
  obtain ⟨d, hd0⟩ : ∃ d, (copyC c mask).1 = d := ⟨_, rfl⟩
  obtain ⟨e, he0⟩ : ∃ e, (copyC c mask).2 = e := ⟨_, rfl⟩
  rw [hd0] at hwd
  rw [hd0, he0] at hce ⊢
  refine gzU ?_
  refine t_e e_alloc rfl rfl rfl ?_; rintro _ _ ⟨b8, _, rfl, rfl⟩
  refine gzU ?_
  have hK : ∀ (d2 c6 : CapT), Keep (capC b8 d2 :: capC b6 c6 :: capC b3 c :: l) (capC b6 c6 :: l) := fun _ _ => .drop (.pick .here (.drop .refl))
  by_cases he : e ≠ 0
  · rw [if_pos he]
    refine gzU ?_
    exact k_ret2 [] (capC b6 capZ :: l) rfl (l' := l) (hK d capZ) (by exact zRes) (.drop .refl) ⟨rfl, rfl⟩
  rw [if_neg he]
  have he' : e = 0 := by simpa using he
  clear he
  subst he'
  refine gzU ?_
  refine k_loop (α := Unit) (fun _ => [(2, .int .u64 (data : Nat)), (6, .pointer (some ⟨b6, 0, none⟩)), (8, .pointer (some ⟨b8, 0, none⟩)), (9, .int .i64 0), (24, .int .i64 0)]) (fun _ => capC b8 d :: capC b6 capZ :: capC b3 c :: l) (fun _ => True) (fun _ => 0) () trivial ⟨rfl, rfl, rfl, rfl, rfl, trivial⟩ .refl ?_
  rintro _ _
  unfold mintD
  by_cases k8 : d.kind = 8
  · rw [if_pos k8]
    by_cases h1 : data > 16777215
    · rw [if_pos h1]
      refine gzU ?_
      exact k_ret2 [] (capC b6 capZ :: l) rfl (l' := l) (hK d capZ) (by exact zRes) (.drop .refl) ⟨rfl, rfl⟩
    rw [if_neg h1]
    by_cases h2 : d.badge ≠ 0
    · rw [if_pos h2]
      refine gzU ?_
      exact k_ret2 [] (capC b6 capZ :: l) rfl (l' := l) (hK d capZ) (by exact zRes) (.drop .refl) ⟨rfl, rfl⟩
    rw [if_neg h2]
    refine gzU ?_
    exact k_ret2 [] (capC b6 ⟨d.kind, d.obj, d.rights, ((data : Nat) : Int), d.guard, d.bits, d.serial, d.page⟩ :: l) rfl (l' := l) (hK ⟨d.kind, d.obj, d.rights, ((data : Nat) : Int), d.guard, d.bits, d.serial, d.page⟩ ⟨d.kind, d.obj, d.rights, ((data : Nat) : Int), d.guard, d.bits, d.serial, d.page⟩) (by exact zRes) (.drop .refl) ⟨rfl, rfl⟩
  rw [if_neg k8]
  by_cases k2 : d.kind = 2
  · rw [if_pos k2]
    refine gzU ?_
    refine t_q (q_call rfl rfl fun l2 _ => field_any data 0 12 hd (by decide) (by decide) (by decide) l2) rfl rfl rfl ?_
    refine gzU ?_
    refine t_q (q_call rfl rfl fun l2 _ => field_any data 12 4 hd (by decide) (by decide) (by decide) l2) rfl rfl rfl ?_
    have f1 : fieldN data 0 12 = data % 4096 := by unfold fieldN; rw [Nat.pow_zero, Nat.div_one]
    have f2 : fieldN data 12 4 = data / 4096 % 16 := rfl
    rw [f1, f2]
    refine gzU ?_
    refine t_q (q_call rfl rfl fun l2 _ => fits_any data hd 16 l2) rfl rfl rfl ?_
    have hfit : fitsB data 16 = decide (data < 65536) := fits_pow hd (n := 16) (by decide)
    by_cases h1 : data ≥ 65536
    · rw [if_pos h1, hfit, decide_eq_false (by omega)]
      refine gzU ?_
      exact k_ret2 [] (capC b6 capZ :: l) rfl (l' := l) (hK ⟨d.kind, d.obj, d.rights, d.badge, ((data % 4096 : Nat) : Int), ((data / 4096 % 16 : Nat) : Int), d.serial, d.page⟩ capZ) (by exact zRes) (.drop .refl) ⟨rfl, rfl⟩
    rw [if_neg h1, hfit, decide_eq_true (by omega)]
    rw [show data / 4096 % 16 = data / 4096 by omega]
    refine gzU ?_
    refine t_h (q_call rfl rfl fun l2 _ => mayC_any (nodeC d data) l2) rfl rfl rfl ?_
    cases hm : mayC (nodeC d data) with
    | false =>
      rw [if_pos rfl]
      refine gzU ?_
      exact k_ret2 [] (capC b6 capZ :: l) rfl (l' := l) (hK (nodeC d data) capZ) (by exact zRes) (.drop .refl) ⟨rfl, rfl⟩
    | true =>
      rw [if_neg (by decide)]
      refine gzU ?_
      exact k_ret2 [] (capC b6 (nodeC d data) :: l) rfl (l' := l) (hK (nodeC d data) (nodeC d data)) (by exact zRes) (.drop .refl) ⟨rfl, rfl⟩
  rw [if_neg k2]
  by_cases h1 : data ≠ 0
  · rw [if_pos h1]
    refine gzU ?_
    exact k_ret2 [] (capC b6 capZ :: l) rfl (l' := l) (hK d capZ) (by exact zRes) (.drop .refl) ⟨rfl, rfl⟩
  · rw [if_neg h1]
    refine gzU ?_
    exact k_ret2 [] (capC b6 d :: l) rfl (l' := l) (hK d d) (by exact zRes) (.drop .refl) ⟨rfl, rfl⟩
abbrev HdT := slT × CapT
abbrev encE (h : HdT) : List Value := [.int .i64 h.1.1, .int .i64 h.1.2, .int .i64 h.2.kind, .int .i64 h.2.obj, .int .i64 h.2.rights, .int .u64 h.2.badge, .int .i64 h.2.guard, .int .i64 h.2.bits, .int .i64 h.2.serial, .int .i64 h.2.page]
abbrev hdV (h : HdT) : Value := .agg (List.toArray (encE h))
abbrev hdC (B : Nat) (h : HdT) : Chunk := (B, .cells (List.toArray (encE h)) 220 (0, 0))
def hcs (L : List HdT) : List Value := L.flatMap encE
theorem hcs_snoc (L : List HdT) (t : HdT) : hcs (L ++ [t]) = hcs L ++ encE t := by simp [hcs]
abbrev xB (B : Nat) (v : Value) : Chunk := (B, .cells #[v] 227 (0, 0))
theorem used_any (v : Value) (h1 : v.oneCell' = true) (l : List Chunk) : Fn Tryz.prog 175 [v] l fun r l' => ∃ B, r = .func (.func 206) #[] #[.pointer (some ⟨B, 0, none⟩)] ∧ l' = xB B v :: l := by
  refine fn_of_body Tryz.func175 rfl rfl fun E => ?_
  simp only [argF, Tryz.ntmps175]
  refine gz ?_
  refine t_e (e_box1 rfl h1) rfl rfl rfl ?_
  rintro _ _ ⟨B, hB, rfl, rfl⟩
  refine gz ?_
  exact k_ret [] rfl .refl (by exact zRes) ⟨B, rfl, rfl⟩
theorem appendE_any (gf : Nat) [EN Tryz.prog gf] (lb : List Value) (S Sp : List HdT → Prop) (Need : List HdT → List Chunk → Prop) (hit : IterS Tryz.prog gf lb (fun t : HdT => [hdV t]) S Sp Need) (n : Nat) (hsp : ∀ pre, Sp pre → pre.length ≤ n) (hn : n ≤ 900000) (l : List Chunk) (hneed : ∀ pre l2, (∀ c, c ∈ l → c ∈ l2) → Need pre l2) :
    Fn Tryz.prog 205 [.slice none 0 0, .func (.func gf) #[] lb.toArray] l fun v l' => ∃ xs cs, S xs ∧ OwnSl 220 10 v xs.length (hcs xs) cs ∧ l' = cs ++ l := by
  refine fn_of_body Tryz.func205 rfl rfl fun E => ?_
  simp only [argF, Tryz.ntmps205]
  refine gz ?_
  refine t_e (e_box1 rfl rfl) rfl rfl rfl ?_
  rintro _ _ ⟨b2, hb2, rfl, rfl⟩
  refine gz ?_
  refine c_range (α := HdT) (ps := [7]) (lb := lb) rfl hit (fun _ => rfl) rfl
    (fun pre l => ∃ v cs, OwnSl 220 10 v pre.length (hcs pre) cs ∧ l = [(b2, .cells #[v] 41 (0, 0))] ++ cs)
    (fun c pre l => False)
    _ l (fun pre l2 X2 hX h => by obtain ⟨v, cs, _, rfl⟩ := h; exact hneed _ _ fun c hc => List.mem_append_right _ (hX _ hc)) (by exact zKeep) ⟨_, [], OwnSl.nil _ _, rfl⟩ ?_ ?_ ?_
  · rintro E r0 rec pre y l' T ⟨fn, tmps, Dd, rfl⟩ hT0 ⟨v, cs', hown, rfl⟩ hsp0
    have hpl := hsp _ hsp0
    rw [List.length_append] at hpl
    simp only [putPs, List.cons_append, List.nil_append]
    refine gz ?_
    refine t_e e_alloc rfl rfl rfl ?_; rintro _ _ ⟨b5, _, rfl, rfl⟩
    refine gz ?_
    refine p_begin (.there (.there (upd_mid _ _ _ _ _))) ?_
    generalize hX1 : (r0, Obj.loop (recOf fn tmps _ _ _ Dd .busy none)) :: T = X1
    refine gz ?_
    refine t_e (e_litA (k := 10) rfl rfl rfl (by decide) (by decide)) rfl rfl rfl ?_
    rintro _ _ ⟨bl, _, rfl, rfl⟩
    refine t_e (e_appX (k := 10) (X := [hdC b5 y, (b2, .cells #[v] 41 (0, 0))]) (cs := cs') (F := X1) (xs := hcs pre) (n := pre.length) (ws := encE y) rfl rfl rfl hown rfl (by simp [Value.oneCell']) (by omega) (by decide)) rfl rfl rfl ?_
    rintro v' _ ⟨c2, ho2, rfl⟩
    have hv1 : v'.oneCell' = true := ho2.one
    simp only [List.cons_append, List.nil_append]
    refine gz ?_
    rw [← hX1]
    refine p_round _ (.drop .refl) ⟨v', c2, ?_, rfl⟩
    rw [List.length_append, hcs_snoc]; exact ho2
  · rintro Dd xs l' hS ⟨v, cs', hown, rfl⟩
    have hv1 : v.oneCell' = true := hown.one
    simp only [List.cons_append, List.nil_append]
    refine gz ?_
    refine k_ret2 [Dd] (cs' ++ l) rfl (l' := cs' ++ l) (by exact zKeep) (by exact zRes) .refl ?_
    exact ⟨xs, cs', hS, hown, rfl⟩
  · rintro Dd c pre l' hsp h
    exact h.elim
theorem collectE_any (gf : Nat) [EN Tryz.prog gf] (lb : List Value) (S Sp : List HdT → Prop) (Need : List HdT → List Chunk → Prop) (hit : IterS Tryz.prog gf lb (fun t : HdT => [hdV t]) S Sp Need) (n : Nat) (hsp : ∀ pre, Sp pre → pre.length ≤ n) (hn : n ≤ 900000) (l : List Chunk) (hneed : ∀ pre l2, (∀ c, c ∈ l → c ∈ l2) → Need pre l2) :
    Fn Tryz.prog 174 [.func (.func gf) #[] lb.toArray] l fun v l' => ∃ xs cs, S xs ∧ OwnSl 220 10 v xs.length (hcs xs) cs ∧ l' = cs ++ l := by
  refine fn_of_body Tryz.func174 rfl rfl fun E => ?_
  simp only [argF, Tryz.ntmps174]
  refine gz ?_
  refine t_e (e_call0 rfl rfl (appendE_any gf lb S Sp Need hit n hsp hn l hneed)) rfl rfl rfl ?_
  rintro v _ ⟨xs, cs, hS, ho, rfl⟩
  have hv1 : v.oneCell' = true := ho.one
  refine gz ?_
  refine k_ret [] rfl .refl (by exact zRes) ?_
  exact ⟨xs, cs, hS, ho, rfl⟩
end Go.Proofs.YtcjknmpogkofpaaGreat
namespace Go.Proofs
open Go.Shelf
def Tryz.sortA_ren : Go.Shelf.Ren := ⟨fun | 5 => 210 | 8 => 222 | 7 => 221 | 19 => 234 | 20 => 235 | 10 => 225 | 11 => 226 | 12 => 227 | 13 => 228 | 14 => 229 | 15 => 230 | 16 => 231 | 17 => 232 | 18 => 233 | 30 => 236 | 31 => 237 | 32 => 238 | 33 => 239 | 34 => 240 | 35 => 241 | 40 => 242 | n => n, fun | 23 => 25 | 25 => 3 | 3 => 3 | 32 => 279 | 22 => 25 | 0 => 0 | 44 => 375 | 46 => 71 | 4 => 4 | 36 => 368 | 35 => 367 | 41 => 372 | 5 => 5 | 9 => 9 | 53 => 377 | 57 => 138 | 63 => 382 | 64 => 102 | n => n, fun | n => n⟩
theorem Tryz.sortA : Go.Proofs.SlLaysM.n5 Tryz.prog Tryz.sortA_ren := {
  mixed := by kernel_rfl
  f5 := ⟨Tryz.f210.name, by decide, Tryz.func210.trans (congrArg some (by kernel_rfl))⟩
  f7 := ⟨Tryz.f221.name, by decide, Tryz.func221.trans (congrArg some (by kernel_rfl))⟩
  f8 := Tryz.func222.trans (congrArg some (by kernel_rfl))
  f10 := ⟨Tryz.f225.name, by decide, Tryz.func225.trans (congrArg some (by kernel_rfl))⟩
  f11 := ⟨Tryz.f226.name, by decide, Tryz.func226.trans (congrArg some (by kernel_rfl))⟩
  f12 := ⟨Tryz.f227.name, by decide, Tryz.func227.trans (congrArg some (by kernel_rfl))⟩
  f13 := ⟨Tryz.f228.name, by decide, Tryz.func228.trans (congrArg some (by kernel_rfl))⟩
  f14 := ⟨Tryz.f229.name, by decide, Tryz.func229.trans (congrArg some (by kernel_rfl))⟩
  f15 := ⟨Tryz.f230.name, by decide, Tryz.func230.trans (congrArg some (by kernel_rfl))⟩
  f16 := ⟨Tryz.f231.name, by decide, Tryz.func231.trans (congrArg some (by kernel_rfl))⟩
  f17 := ⟨Tryz.f232.name, by decide, Tryz.func232.trans (congrArg some (by kernel_rfl))⟩
  f18 := ⟨Tryz.f233.name, by decide, Tryz.func233.trans (congrArg some (by kernel_rfl))⟩
  f19 := Tryz.func234.trans (congrArg some (by kernel_rfl))
  f20 := Tryz.func235.trans (congrArg some (by kernel_rfl))
  f30 := ⟨Tryz.f236.name, by decide, Tryz.func236.trans (congrArg some (by kernel_rfl))⟩
  f31 := Tryz.func237.trans (congrArg some (by kernel_rfl))
  f32 := Tryz.func238.trans (congrArg some (by kernel_rfl))
  f33 := ⟨Tryz.f239.name, by decide, Tryz.func239.trans (congrArg some (by kernel_rfl))⟩
  f34 := ⟨Tryz.f240.name, by decide, Tryz.func240.trans (congrArg some (by kernel_rfl))⟩
  f35 := ⟨Tryz.f241.name, by decide, Tryz.func241.trans (congrArg some (by kernel_rfl))⟩
  f40 := ⟨Tryz.f242.name, by decide, Tryz.func242.trans (congrArg some (by kernel_rfl))⟩
  t0 := Tryz.underlying0
  a0 := Tryz.isAgg0
  z0 := Tryz.sizeOf0
  v0 := Tryz.zeroValue0
  t3 := Tryz.underlying3
  a3 := Tryz.isAgg3
  z3 := Tryz.sizeOf3
  v3 := Tryz.zeroValue3
  t4 := Tryz.underlying4
  a4 := Tryz.isAgg4
  z4 := Tryz.sizeOf4
  v4 := Tryz.zeroValue4
  t5 := Tryz.underlying5
  a5 := Tryz.isAgg5
  z5 := Tryz.sizeOf5
  v5 := Tryz.zeroValue5
  t9 := Tryz.underlying9
  a9 := Tryz.isAgg9
  z9 := Tryz.sizeOf9
  v9 := Tryz.zeroValue9
  t22 := Tryz.underlying25
  a22 := Tryz.isAgg25
  z22 := Tryz.sizeOf25
  v22 := Tryz.zeroValue25
  t23 := Tryz.underlying25
  a23 := Tryz.isAgg25
  z23 := Tryz.sizeOf25
  v23 := Tryz.zeroValue25
  t25 := Tryz.underlying3
  a25 := Tryz.isAgg3
  z25 := Tryz.sizeOf3
  v25 := Tryz.zeroValue3
  t32 := Tryz.underlying279
  a32 := Tryz.isAgg279
  z32 := Tryz.sizeOf279
  v32 := Tryz.zeroValue279
  t35 := Tryz.underlying367
  a35 := Tryz.isAgg367
  z35 := Tryz.sizeOf367
  v35 := Tryz.zeroValue367
  t36 := Tryz.underlying368
  a36 := Tryz.isAgg368
  z36 := Tryz.sizeOf368
  v36 := Tryz.zeroValue368
  t41 := Tryz.underlying372
  a41 := Tryz.isAgg372
  z41 := Tryz.sizeOf372
  v41 := Tryz.zeroValue372
  t44 := Tryz.underlying375
  a44 := Tryz.isAgg375
  z44 := Tryz.sizeOf375
  v44 := Tryz.zeroValue375
  t46 := Tryz.underlying71
  a46 := Tryz.isAgg71
  z46 := Tryz.sizeOf71
  v46 := Tryz.zeroValue71
  t53 := Tryz.underlying377
  a53 := Tryz.isAgg377
  z53 := Tryz.sizeOf377
  v53 := Tryz.zeroValue377
  t57 := Tryz.underlying138
  a57 := Tryz.isAgg138
  z57 := Tryz.sizeOf138
  v57 := Tryz.zeroValue138
  t63 := Tryz.underlying382
  a63 := Tryz.isAgg382
  z63 := Tryz.sizeOf382
  v63 := Tryz.zeroValue382
  t64 := Tryz.underlying102
  a64 := Tryz.isAgg102
  z64 := Tryz.sizeOf102
  v64 := Tryz.zeroValue102 }
end Go.Proofs
namespace Go.Proofs.YtcjknmpogkofpaaGreat
open Go.RowKit Go.Sort
def intV (x : Int) : Value := .int .i64 x
abbrev srt (zs : List Int) : List Int := zs.mergeSort fun x y => decide (x ≤ y)
theorem sort_any (b cap : Nat) (zs : List Int) (sp : List Value) (hn : zs.length ≤ 1000000) (l : List Chunk) :
    Fn Tryz.prog 210 [.slice (some ⟨b, 0, none⟩) zs.length cap] ((b, .cells (List.toArray (zs.map intV ++ sp)) 3 (0, 0)) :: l) fun v l' => v = .tuple #[] ∧ l' = (b, .cells (List.toArray ((srt zs).map intV ++ sp)) 3 (0, 0)) :: l := by
  refine ⟨fun E W hs => ?_⟩
  have hH : Holds (Value.int .i64) W b 0 zs.toArray := fun j hj => by
    simp only [List.size_toArray] at hj
    refine ⟨?_, ?_⟩
    · rw [hs.cell (.head _), Nat.zero_add, List.getElem?_toArray, List.getElem?_append_left (by simpa using hj), List.getElem?_map, List.getElem?_eq_getElem hj]
      simp [hj, intV]
    · rw [hs.frz (.head _)]; simp
  have h := AnyM.slices_Sort_int Tryz.sortA b 0 cap zs W hH (hs.lt (.head _)) (by omega)
  refine (h : Calls Tryz.prog 210 _ W _).mono ?_
  rintro e w' ⟨rfl, n, os, rfl⟩
  refine ⟨_, _, rfl, ⟨rfl, rfl⟩, ?_⟩
  refine ⟨hs.os, hs.tape, hs.output, by simpa using hs.nodup, fun c hc => ?_⟩
  have hb := hs.lt (.head _)
  simp only at hb
  have hget : ∀ k, k < W.heap.size → (Go.Sort.grow (putRow (Value.int .i64) (Go.Sort.ahead W n) b 0 (srt zs).toArray) os).heap[k]? = (W.heap.modify b (onCells (putCells (Value.int .i64) 0 (srt zs).toArray)))[k]? := fun k hk => by
    show (((Go.Sort.ahead W n).heap.modify b _) ++ os)[k]? = _
    rw [Array.getElem?_append_left (by simpa using hk)]; rfl
  rcases List.mem_cons.1 hc with rfl | hc'
  · rw [hget _ hb, Array.getElem?_modify, if_pos rfl, hs.has _ (.head _)]
    simp only [Option.map_some, onCells]
    congr 2
    apply Array.toList_inj.1
    apply List.ext_getElem?
    intro j
    unfold putCells
    rw [Array.getElem?_toList, Array.getElem?_mapIdx, List.getElem?_toArray]
    have hl : (srt zs).length = zs.length := List.length_mergeSort ..
    by_cases hj : j < zs.length
    · rw [List.getElem?_append_left (by simpa using hj), List.getElem?_append_left (by simpa [hl] using hj), List.getElem?_map, List.getElem?_map, List.getElem?_eq_getElem hj, List.getElem?_eq_getElem (by omega)]
      simp [hj, hl, intV]
    · rw [List.getElem?_append_right (by simpa using Nat.le_of_not_lt hj), List.getElem?_append_right (by simpa [hl] using Nat.le_of_not_lt hj)]
      simp only [List.length_map, hl]
      cases sp[j - zs.length]? with
      | none => rfl
      | some u => simp [hl, hj]
  · have hlt := hs.lt (List.mem_cons_of_mem _ hc')
    rw [hget _ hlt, Array.getElem?_modify, if_neg, hs.has _ (List.mem_cons_of_mem _ hc')]
    intro e
    have := hs.nodup
    rw [List.map_cons, List.nodup_cons] at this
    exact this.1 (List.mem_map.2 ⟨c, hc', e.symm⟩)
theorem sortNone_any (cap : Nat) (p : Option Addr) (l : List Chunk) : Fn Tryz.prog 210 [.slice p 0 cap] l fun v l' => v = .tuple #[] ∧ l' = l := by
  refine ⟨fun E W hs => ?_⟩
  refine ((AnyM.slices_Sort_int_none Tryz.sortA p cap W : Calls Tryz.prog 210 _ W _)).mono ?_
  rintro e w' ⟨rfl, rfl⟩
  exact ⟨_, _, rfl, ⟨rfl, rfl⟩, hs⟩
theorem sortOwn_any (v : Value) (zs : List Int) (cs l : List Chunk) (ho : OwnSl 3 1 v zs.length (zs.map intV) cs) (hn : zs.length ≤ 1000000) :
    Fn Tryz.prog 210 [v] (cs ++ l) fun r l' => r = .tuple #[] ∧ ∃ cs', OwnSl 3 1 v (srt zs).length ((srt zs).map intV) cs' ∧ l' = cs' ++ l := by
  have hl : (srt zs).length = zs.length := List.length_mergeSort ..
  rcases ho.2 with ⟨rfl, h0, rfl⟩ | ⟨gb, cap, sp, rfl, rfl, hnc, hcm, hcl⟩
  · obtain rfl : zs = [] := List.eq_nil_of_length_eq_zero h0
    exact (sortNone_any 0 none l).mono fun r l' ⟨h1, h2⟩ => ⟨h1, [], by rw [show srt [] = [] by simp [srt]]; exact OwnSl.nil _ _, h2⟩
  · exact (sort_any gb cap zs sp hn l).mono fun r l' ⟨h1, h2⟩ => ⟨h1, _, ⟨by simp, .inr ⟨gb, cap, sp, by rw [hl], rfl, by omega, hcm, by rw [List.length_append, List.length_map, hl, ← hcl, List.length_append, List.length_map]⟩⟩, h2⟩
end Go.Proofs.YtcjknmpogkofpaaGreat
namespace Go.Proofs.YtcjknmpogkofpaaGreat
open Go.RowKit
set_option maxRecDepth 20000
set_option maxHeartbeats 400000
structure Came (es vis : List Ent) (seen : Array Nat) : Prop where
  eq : seen.toList = vis.map (·.2.2)
  nd : (vis.map (·.2.2)).Nodup
  sub : ∀ e, e ∈ vis → e ∈ es
theorem Came.len {es vis : List Ent} {seen : Array Nat} (h : Came es vis seen) (hn : (es.map (·.2.2)).Nodup) : vis.length ≤ es.length := by
  classical
  have hv : vis.Nodup := nodup_of_map h.nd
  have he : (es.filter fun e => decide (e ∈ vis)).Nodup := (nodup_of_map hn).filter _
  have hp : vis.Perm (es.filter fun e => decide (e ∈ vis)) := (List.perm_ext_iff_of_nodup hv he).2 fun e => by
    rw [List.mem_filter]; simp only [decide_eq_true_eq]
    exact ⟨fun hm => ⟨h.sub e hm, hm⟩, fun hm => hm.2⟩
  rw [hp.length_eq]; exact List.length_filter_le ..
theorem Came.all {es vis : List Ent} {seen : Array Nat} (h : Came es vis seen) (hn : (es.map (·.2.2)).Nodup) (ha : ∀ e, e ∈ es → e.2.2 ∈ seen.toList) : (vis.map (·.1)).Perm (es.map (·.1)) := by
  refine List.Perm.map _ ((List.perm_ext_iff_of_nodup (nodup_of_map h.nd) (nodup_of_map hn)).2 fun e => ⟨h.sub e, fun he => ?_⟩)
  have h1 := ha e he
  rw [h.eq] at h1
  obtain ⟨e', he', h2⟩ := List.mem_map.1 h1
  have h3 := nd_stamp hn (h.sub e' he') he h2
  rw [← h3]; exact he'
theorem Came.push {es vis : List Ent} {seen : Array Nat} {e : Ent} (h : Came es vis seen) (he : e ∈ es) (hs : e.2.2 ∉ seen.toList) : Came es (vis ++ [e]) (seen.push e.2.2) := by
  refine ⟨by rw [Array.toList_push, h.eq, List.map_append]; rfl, ?_, fun x hx => ?_⟩
  · rw [List.map_append, List.nodup_append]
    refine ⟨h.nd, by simp, fun a ha b hb hab => hs ?_⟩
    have : b = e.2.2 := by simpa using hb
    rw [h.eq, ← this, ← hab]; exact ha
  · rcases List.mem_append.1 hx with hx | hx
    · exact h.sub x hx
    · rw [List.mem_singleton.1 hx]; exact he
theorem keys_any (mb : Option Nat) (l : List Chunk) : Fn Tryz.prog 207 [.map mb] l fun v l' => ∃ B, v = .func (.func 219) #[] #[.pointer (some ⟨B, 0, none⟩)] ∧ l' = (B, .cells #[.map mb] 338 (0, 0)) :: l := by
  refine fn_of_body Tryz.func207 rfl rfl fun E => ?_
  simp only [argF, Tryz.ntmps207]
  refine gz ?_
  refine t_e (e_box1 rfl rfl) rfl rfl rfl ?_
  rintro _ _ ⟨B, hB, rfl, rfl⟩
  refine gz ?_
  exact k_ret [] rfl .refl (by exact zRes) ⟨B, rfl, rfl⟩
theorem keys_iter (B m clock : Nat) (es : List Ent) (hnd : (es.map (·.2.2)).Nodup) (hst : ∀ e, e ∈ es → e.2.2 < clock) :
    IterS Tryz.prog 219 [.pointer (some ⟨B, 0, none⟩)] (fun k : Int => [.int .i64 k]) (fun xs => xs.Perm (es.map (·.1))) (fun pre => pre.length ≤ es.length)
      (fun _ l => (B, .cells #[.map (some m)] 338 (0, 0)) ∈ l ∧ (m, mapO .i64 es clock) ∈ l) := by
  refine ⟨fun q I Ix G0 hneed hY l G hG h0 => ?_⟩
  refine fn_of_body Tryz.func219 rfl rfl fun E => ?_
  simp only [argF, Tryz.ntmps219]
  obtain ⟨hm1, hm2⟩ := hneed _ _ G hG h0
  refine gz ?_
  refine t_e (e_range rfl hm2) rfl rfl rfl ?_
  rintro _ _ ⟨b0, hb0, rfl, rfl⟩
  refine gz ?_
  refine k_loop (α := Array Nat × List Ent × List Chunk) (fun x => [(0, .func (.yield q) #[] #[]), (1, .pointer (some ⟨B, 0, none⟩)), (5, .pointer (some ⟨b0, 0, none⟩))]) (fun x => (b0, .mapIter (some m) clock x.1 clock) :: (x.2.2 ++ G)) (fun x => I (x.2.1.map (·.1)) x.2.2 ∧ Came es x.2.1 x.1) (fun x => es.length - x.2.1.length) (#[], [], l) ⟨h0, rfl, by simp, by simp⟩ ⟨rfl, rfl, rfl, trivial⟩ .refl ?_
  clear hm1 hm2
  rintro ⟨seen, vis, l⟩ ⟨hI, hC⟩
  simp only at hI hC ⊢
  obtain ⟨hm1, hm2⟩ := hneed _ _ G hG hI
  refine gz ?_
  refine t_e (e_next rfl hm2 (fun e he => hst e he) (Nat.le_refl _)) rfl rfl rfl ?_
  rintro _ _ (⟨rfl, rfl, hall⟩ | ⟨e, he, hns, rfl, rfl⟩)
  · refine gz ?_
    exact k_ret [] rfl (.drop .refl) (by exact zRes) ⟨l, rfl, .inl ⟨_, hC.all hnd hall, hI⟩⟩
  · have hC2 := hC.push he hns
    have hl2 := hC2.len hnd
    have hy := hY (vis.map (·.1)) e.1 l ((b0, .mapIter (some m) clock (seen.push e.2.2) clock) :: G) (fun c hc => .tail _ (hG c hc)) hI (by simp at hl2 ⊢; exact hl2)
    refine gz ?_
    refine t_q (q_entry rfl (.head _) (.tail _ hm2) he hnd) rfl rfl rfl ?_
    refine gz ?_
    refine s_keep (Keep.of_perm List.perm_middle.symm) ?_
    refine t_e (e_yield rfl rfl hy) rfl rfl rfl ?_
    rintro v l' ⟨l1, rfl, ⟨rfl, hI'⟩ | ⟨rfl, hx⟩⟩
    · refine gz ?_
      exact k_next (seen.push e.2.2, vis ++ [e], l1) ⟨by simpa using hI', hC2⟩ (by simp at hl2 ⊢; omega) ⟨rfl, rfl, rfl, trivial⟩ (.of_perm List.perm_middle)
    · refine gz ?_
      exact k_ret [] rfl (Keep.trans (.of_perm List.perm_middle) (.drop .refl)) (by exact zRes) ⟨l1, rfl, .inr ⟨_, by simp at hl2 ⊢; exact hl2, hx⟩⟩
theorem append_any (gf : Nat) [EN Tryz.prog gf] (lb : List Value) (S : List Int → Prop) (n : Nat) (Need : List Int → List Chunk → Prop) (hit : IterS Tryz.prog gf lb (fun k : Int => [.int .i64 k]) S (fun pre => pre.length ≤ n) Need) (hn : n ≤ 900000) (l : List Chunk) (hneed : ∀ pre l2, (∀ c, c ∈ l → c ∈ l2) → Need pre l2) :
    Fn Tryz.prog 220 [.slice none 0 0, .func (.func gf) #[] lb.toArray] l fun v l' => ∃ xs cs, S xs ∧ OwnSl 3 1 v xs.length (xs.map intV) cs ∧ l' = cs ++ l := by
  refine fn_of_body Tryz.func220 rfl rfl fun E => ?_
  simp only [argF, Tryz.ntmps220]
  refine gz ?_
  refine t_e (e_box1 rfl rfl) rfl rfl rfl ?_
  rintro _ _ ⟨b2, hb2, rfl, rfl⟩
  refine gz ?_
  refine c_range (α := Int) (ps := [7]) (lb := lb) rfl hit (fun _ => rfl) rfl
    (fun pre l => ∃ v cs, OwnSl 3 1 v pre.length (pre.map intV) cs ∧ pre.length ≤ n ∧ l = [(b2, .cells #[v] 25 (0, 0))] ++ cs)
    (fun c pre l => False)
    _ l (fun pre l2 X2 hX h => by obtain ⟨v, cs, _, _, rfl⟩ := h; exact hneed _ _ fun c hc => List.mem_append_right _ (hX _ hc)) (by exact zKeep) ⟨_, [], OwnSl.nil _ _, Nat.zero_le _, rfl⟩ ?_ ?_ ?_
  · rintro E r0 rec pre y l' T ⟨fn, tmps, Dd, rfl⟩ hT0 ⟨v, cs', hown, hpl, rfl⟩ hsp
    simp only [putPs, List.cons_append, List.nil_append]
    refine gz ?_
    refine p_begin (.there (upd_mid _ _ _ _ _)) ?_
    generalize hX1 : (r0, Obj.loop (recOf fn tmps _ _ _ Dd .busy none)) :: T = X1
    refine gz ?_
    refine t_e (e_lit1 rfl rfl) rfl rfl rfl ?_
    rintro _ _ ⟨bl, _, rfl, rfl⟩
    refine t_e (e_appX (k := 1) (X := [(b2, .cells #[v] 25 (0, 0))]) (cs := cs') (F := X1) (xs := pre.map intV) (n := pre.length) (zs := [.int .i64 0]) (ws := [intV y]) rfl rfl rfl hown rfl (by simp [Value.oneCell', intV]) (by omega) (by decide)) rfl rfl rfl ?_
    rintro v' _ ⟨c2, ho2, rfl⟩
    have hv1 : v'.oneCell' = true := ho2.one
    simp only [List.cons_append, List.nil_append]
    refine gz ?_
    rw [← hX1]
    refine p_round _ (.refl) ⟨v', c2, ?_, hsp, rfl⟩
    rw [List.length_append, List.map_append]; exact ho2
  · rintro Dd xs l' hS ⟨v, cs', hown, hpl, rfl⟩
    have hv1 : v.oneCell' = true := hown.one
    simp only [List.cons_append, List.nil_append]
    refine gz ?_
    refine k_ret2 [Dd] (cs' ++ l) rfl (l' := cs' ++ l) (by exact zKeep) (by exact zRes) .refl ?_
    exact ⟨xs, cs', hS, hown, rfl⟩
  · rintro Dd c pre l' hsp h
    exact h.elim
theorem collect_any (gf : Nat) [EN Tryz.prog gf] (lb : List Value) (S : List Int → Prop) (n : Nat) (Need : List Int → List Chunk → Prop) (hit : IterS Tryz.prog gf lb (fun k : Int => [.int .i64 k]) S (fun pre => pre.length ≤ n) Need) (hn : n ≤ 900000) (l : List Chunk) (hneed : ∀ pre l2, (∀ c, c ∈ l → c ∈ l2) → Need pre l2) :
    Fn Tryz.prog 209 [.func (.func gf) #[] lb.toArray] l fun v l' => ∃ xs cs, S xs ∧ OwnSl 3 1 v xs.length (xs.map intV) cs ∧ l' = cs ++ l := by
  refine fn_of_body Tryz.func209 rfl rfl fun E => ?_
  simp only [argF, Tryz.ntmps209]
  refine gz ?_
  refine t_e (e_call0 rfl rfl (append_any gf lb S n Need hit hn l hneed)) rfl rfl rfl ?_
  rintro v _ ⟨xs, cs, hS, ho, rfl⟩
  have hv1 : v.oneCell' = true := ho.one
  refine gz ?_
  refine k_ret [] rfl .refl (by exact zRes) ?_
  exact ⟨xs, cs, hS, ho, rfl⟩
theorem sorted_any (gf : Nat) [EN Tryz.prog gf] (lb : List Value) (S : List Int → Prop) (n : Nat) (Need : List Int → List Chunk → Prop) (hit : IterS Tryz.prog gf lb (fun k : Int => [.int .i64 k]) S (fun pre => pre.length ≤ n) Need) (hn : n ≤ 900000) (hS : ∀ xs, S xs → xs.length ≤ n) (l : List Chunk) (hneed : ∀ pre l2, (∀ c, c ∈ l → c ∈ l2) → Need pre l2) :
    Fn Tryz.prog 179 [.func (.func gf) #[] lb.toArray] l fun v l' => ∃ xs cs, S xs ∧ OwnSl 3 1 v (srt xs).length ((srt xs).map intV) cs ∧ l' = cs ++ l := by
  refine fn_of_body Tryz.func179 rfl rfl fun E => ?_
  simp only [argF, Tryz.ntmps179]
  refine gz ?_
  refine t_e (e_call0 rfl rfl (collect_any gf lb S n Need hit hn l hneed)) rfl rfl rfl ?_
  rintro v _ ⟨xs, cs, hSx, ho, rfl⟩
  have hv1 : v.oneCell' = true := ho.one
  have hl := hS xs hSx
  refine gz ?_
  refine t_e (e_call0 rfl rfl (sortOwn_any v xs cs l ho (by omega))) rfl rfl rfl ?_
  rintro _ _ ⟨rfl, cs', ho', rfl⟩
  refine gz ?_
  refine k_ret [] rfl .refl (by exact zRes) ?_
  exact ⟨xs, cs', hSx, ho', rfl⟩
theorem mapKeys_any (B m clock : Nat) (es : List Ent) (hnd : (es.map (·.2.2)).Nodup) (hst : ∀ e, e ∈ es → e.2.2 < clock) (hn : es.length ≤ 900000) (l : List Chunk) (h1 : (B, Obj.cells #[.map (some m)] 338 (0, 0)) ∈ l) (h2 : (m, mapO .i64 es clock) ∈ l) :
    Fn Tryz.prog 179 [.func (.func 219) #[] #[.pointer (some ⟨B, 0, none⟩)]] l fun v l' => ∃ xs cs, xs.Perm (es.map (·.1)) ∧ OwnSl 3 1 v (srt xs).length ((srt xs).map intV) cs ∧ l' = cs ++ l :=
  sorted_any 219 [.pointer (some ⟨B, 0, none⟩)] _ es.length _ (keys_iter B m clock es hnd hst) hn (fun xs h => by rw [h.length_eq]; simp) l fun _ l2 hl => ⟨hl _ h1, hl _ h2⟩
theorem MB.sorted {α : Type} {key : α → Int} {val : α → Value} {L : List α} {es : List Ent} {clock : Nat} (h : MB key val L es clock) {xs : List Int} (hx : xs.Perm (es.map (·.1))) : srt xs = L.map key := by
  have h1 : (srt xs).Perm (L.map key) := (List.mergeSort_perm ..).trans (hx.trans h.keys)
  have h2 : (srt xs).Pairwise (fun x y => x ≤ y) := by
    have := List.pairwise_mergeSort (le := fun x y : Int => decide (x ≤ y)) (fun a b c h1 h2 => by simp at *; omega) (fun a b => by simp; omega) xs
    exact this.imp fun h => by simpa using h
  have h3 : (L.map key).Pairwise (fun x y => x ≤ y) := List.pairwise_map.2 (h.asc.imp fun hxy => by omega)
  exact h1.eq_of_pairwise (fun a b _ _ h1 h2 => by omega) h2 h3
theorem OwnSl.ints {e : Nat} {v : Value} {xs : List Int} {cs l : List Chunk} (h : OwnSl e 1 v xs.length (xs.map intV) cs) (hs : ∀ c, c ∈ cs → c ∈ l) : ∃ p cap, v = .slice p xs.length cap ∧ (0 < xs.length → ∃ b cl t fz, p = some ⟨b, 0, none⟩ ∧ (b, Obj.cells cl t fz) ∈ l ∧ ∀ i x, xs[i]? = some x → cl[i * 1]? = some (.int .i64 x)) := by
  rcases h.2 with ⟨rfl, h0, rfl⟩ | ⟨b, cap, sp, rfl, rfl, _⟩
  · exact ⟨none, 0, by rw [h0], fun h => by omega⟩
  · refine ⟨_, cap, rfl, fun h0 => ⟨b, _, e, (0, 0), rfl, hs _ List.mem_cons_self, fun i x hx => ?_⟩⟩
    have hlt := (List.getElem?_eq_some_iff.1 hx).1
    rw [Nat.mul_one, List.getElem?_toArray, List.getElem?_append_left (by simpa using hlt), List.getElem?_map, hx]; rfl
def usedTo (a : Int) (C : List CapT) : Nat → List HdT
  | 0 => []
  | k + 1 => usedTo a C k ++ (match C[k]? with
    | some c => if eqC c capZ = true then [] else [((a, ((k : Nat) : Int)), c)]
    | none => [])
def usedD (D : SD) : List HdT := D.flatMap fun x => usedTo x.1 x.2 x.2.length
theorem usedTo_t {a : Int} {C : List CapT} {k : Nat} {c : CapT} (hc : C[k]? = some c) (h : eqC c capZ = false) : usedTo a C (k + 1) = usedTo a C k ++ [((a, ((k : Nat) : Int)), c)] := by
  show usedTo a C k ++ _ = _
  rw [hc]; simp only; rw [h]; rfl
theorem usedTo_f {a : Int} {C : List CapT} {k : Nat} {c : CapT} (hc : C[k]? = some c) (h : eqC c capZ = true) : usedTo a C (k + 1) = usedTo a C k := by
  show usedTo a C k ++ _ = _
  rw [hc]; simp only; rw [h]; simp
theorem usedTo_pre (a : Int) (C : List CapT) (k : Nat) : ∀ m, usedTo a C k <+: usedTo a C (k + m)
  | 0 => List.prefix_rfl
  | m + 1 => (usedTo_pre a C k m).trans (List.prefix_append _ _)
theorem usedTo_len (a : Int) (C : List CapT) : ∀ k, (usedTo a C k).length ≤ k
  | 0 => Nat.le_refl _
  | k + 1 => by
    show (usedTo a C k ++ _).length ≤ k + 1
    have := usedTo_len a C k
    rw [List.length_append]
    have h2 : (match C[k]? with
      | some c => if eqC c capZ = true then [] else [((a, ((k : Nat) : Int)), c)]
      | none => [] : List HdT).length ≤ 1 := by
      split
      · split <;> simp
      · simp
    omega
theorem usedD_app (A B : SD) : usedD (A ++ B) = usedD A ++ usedD B := List.flatMap_append
theorem usedD_pre {D : SD} {i k : Nat} {x : Int × List CapT} (hx : D[i]? = some x) (hk : k ≤ x.2.length) : usedD (D.take i) ++ usedTo x.1 x.2 k <+: usedD D := by
  have hi := (List.getElem?_eq_some_iff.1 hx).1
  have h1 := List.take_append_drop i D
  rw [List.drop_eq_getElem_cons hi] at h1
  have h2 : D[i] = x := by rw [List.getElem?_eq_getElem hi] at hx; exact Option.some.inj hx
  rw [h2] at h1
  conv => rhs; rw [← h1]
  rw [usedD_app]
  refine (List.prefix_append_right_inj _).2 ?_
  show _ <+: usedTo x.1 x.2 x.2.length ++ usedD (D.drop (i + 1))
  have := usedTo_pre x.1 x.2 k (x.2.length - k)
  rw [show k + (x.2.length - k) = x.2.length by omega] at this
  exact this.trans (List.prefix_append _ _)
theorem usedD_len {D : SD} (h : ∀ x, x ∈ D → x.2.length ≤ 16) : (usedD D).length ≤ D.length * 16 := by
  induction D with
  | nil => simp [usedD]
  | cons x r ih =>
    rw [show x :: r = [x] ++ r from rfl, usedD_app, List.length_append]
    have h1 := ih fun y hy => h y (List.mem_cons_of_mem _ hy)
    have h2 := usedTo_len x.1 x.2 x.2.length
    have h3 := h x List.mem_cons_self
    have h4 : (usedD [x]).length ≤ 16 := by simp only [usedD, List.flatMap_cons, List.flatMap_nil, List.append_nil]; omega
    rw [List.length_append]
    show _ ≤ (1 + r.length) * 16
    omega
theorem IsS.sz {b : Nat} {D : SD} {lq : List Chunk} (h : IsS b D lq) : ∀ x, x ∈ D → 0 < x.2.length ∧ x.2.length ≤ 16 := by
  obtain ⟨S, m, es, clock, rfl, hS⟩ := h
  intro x hx
  obtain ⟨nd, hn, rfl⟩ := List.mem_map.1 hx
  exact hS.sz nd hn
set_option maxRecDepth 20000 in
theorem used_iter (B b : Nat) (D : SD) (lq : List Chunk) (hq : IsS b D lq) (hn : D.length ≤ 50000) :
    IterS Tryz.prog 206 [.pointer (some ⟨B, 0, none⟩)] (fun h : HdT => [hdV h]) (fun xs => xs = usedD D) (fun pre => pre <+: usedD D)
      (fun _ l => xB B (.pointer (some ⟨b, 0, none⟩)) ∈ l ∧ ∀ c, c ∈ lq → c ∈ l) := by
  refine ⟨fun r I Ix G0 hneed hY l G hG h0 => ?_⟩
  obtain ⟨S, m, es, clock, rfl, hS⟩ := hq
  obtain ⟨n1, n2⟩ := hneed _ _ G hG h0
  have n3 := n2 _ hS.m1
  have n4 := n2 _ hS.m2
  have hSl : S.length ≤ 50000 := by simpa using hn
  refine fn_of_body Tryz.func206 rfl rfl fun E => ?_
  simp only [argF, Tryz.ntmps206]
  refine gz ?_
  refine t_e (e_call0 rfl rfl (keys_any (some m) _)) rfl rfl rfl ?_
  rintro _ _ ⟨B', rfl, rfl⟩
  refine gz ?_
  refine t_e (e_call0 rfl rfl (mapKeys_any B' m clock es hS.mb.ok.stamps hS.mb.ok.below (by rw [hS.mb.len]; omega) _ (.head _) (.tail _ n4))) rfl rfl rfl ?_
  rintro v _ ⟨xs, cs, hxs, ho, rfl⟩
  rw [hS.mb.sorted hxs] at ho
  have hv1 : v.oneCell' = true := ho.one
  obtain ⟨p, cap, rfl, hR⟩ := ho.ints (l := cs) fun c hc => hc
  have hlen : (S.map NdS.id).length = S.length := List.length_map ..
  refine gz ?_
  refine k_loop (α := Nat × List Chunk) (fun x => [(0, .func (.yield r) #[] #[]), (1, .pointer (some ⟨B, 0, none⟩)), (14, .slice p (S.map NdS.id).length cap), (15, .int .i64 (S.map NdS.id).length), (16, .int .i64 x.1)]) (fun x => x.2 ++ (cs ++ G)) (fun x => x.1 ≤ S.length ∧ I (usedD ((S.map NdS.d).take x.1)) x.2) (fun x => S.length - x.1) (0, l) ⟨Nat.zero_le _, h0⟩ ⟨rfl, rfl, rfl, rfl, rfl, trivial⟩ ?_ ?_
  · exact Keep.trans (Keep.in_mid cs [_] (l ++ G)) (.drop (Keep.in_mid cs l G))
  clear n1 n2 n3 n4
  rintro ⟨i, l⟩ ⟨hi, hI⟩
  simp only at hi hI ⊢
  obtain ⟨n1, n2⟩ := hneed _ _ (cs ++ G) (fun c hc => List.mem_append_right _ (hG c hc)) hI
  have n3 := n2 _ hS.m1
  have n4 := n2 _ hS.m2
  by_cases hlt : i < S.length
  · obtain ⟨b9, cl, t9, fz, rfl, hmc, hcl⟩ := hR (by omega)
    have hm' : (b9, Obj.cells cl t9 fz) ∈ l ++ (cs ++ G) := List.mem_append_right _ (List.mem_append_left _ hmc)
    obtain ⟨nd, hnd⟩ : ∃ nd, S[i]? = some nd := ⟨_, List.getElem?_eq_getElem hlt⟩
    have hmem := List.mem_of_getElem? hnd
    have hc := hcl i nd.id (by rw [List.getElem?_map, hnd]; rfl)
    have hlk : (getE nd.id es).getD (.slice none 0 0) = nd.val := by rw [hS.look, hS.mb.at_ hmem]
    have hdi : (S.map NdS.d)[i]? = some nd.d := by rw [List.getElem?_map, hnd]; rfl
    have hsz := hS.sz nd hmem
    refine gz ?_
    rw [hlk]
    refine gz ?_
    refine k_loop (α := Nat × List Chunk) (fun x => [(0, .func (.yield r) #[] #[]), (1, .pointer (some ⟨B, 0, none⟩)), (4, .int .i64 nd.id), (14, .slice (some ⟨b9, 0, none⟩) (S.map NdS.id).length cap), (15, .int .i64 (S.map NdS.id).length), (16, .int .i64 i), (25, nd.val), (26, .int .i64 nd.C.length), (27, .int .i64 x.1)]) (fun x => x.2 ++ (cs ++ G)) (fun x => x.1 ≤ nd.C.length ∧ I (usedD ((S.map NdS.d).take i) ++ usedTo nd.id nd.C x.1) x.2) (fun x => nd.C.length - x.1) (0, l) ⟨Nat.zero_le _, by show I (_ ++ []) l; rw [List.append_nil]; exact hI⟩ ⟨rfl, rfl, rfl, rfl, rfl, rfl, rfl, rfl, rfl, trivial⟩ .refl ?_
    clear n1 n2 n3 n4 hI hm'
    rintro ⟨k, l⟩ ⟨hk, hI⟩
    simp only at hk hI ⊢
    obtain ⟨n1, n2⟩ := hneed _ _ (cs ++ G) (fun c hc => List.mem_append_right _ (hG c hc)) hI
    have hmb := n2 _ (hS.m3 hmem)
    by_cases hkl : k < nd.C.length
    · obtain ⟨c, hcc⟩ : ∃ c, nd.C[k]? = some c := ⟨_, List.getElem?_eq_getElem hkl⟩
      obtain ⟨g1, g2⟩ := ccs_at hcc
      refine gz ?_
      refine t_q (q_loadA (n := 8) rfl hmb g2 g1) rfl rfl rfl ?_
      refine t_e e_alloc rfl rfl rfl ?_; rintro _ _ ⟨b6, _, rfl, rfl⟩
      refine gz ?_
      refine t_q (q_neagg (ys := encC capZ) rfl rfl (encC_k c) (encC_k _)) rfl rfl rfl ?_
      rw [show eqCells (encC c) (encC capZ) = eqC c capZ from rfl]
      cases he : eqC c capZ with
      | true =>
        refine gz ?_
        exact k_next (k + 1, l) ⟨by simp only; omega, by simp only; rw [usedTo_f hcc he]; exact hI⟩ (by simp only; omega) ⟨rfl, rfl, rfl, rfl, rfl, rfl, rfl, rfl, rfl, trivial⟩ (.drop .refl)
      | false =>
        have hpre : (usedD ((S.map NdS.d).take i) ++ usedTo nd.id nd.C k) ++ [((nd.id, ((k : Nat) : Int)), c)] <+: usedD (S.map NdS.d) := by
          rw [List.append_assoc, ← usedTo_t hcc he]
          exact usedD_pre hdi (by show k + 1 ≤ nd.C.length; omega)
        have hy := hY _ ((nd.id, ((k : Nat) : Int)), c) l (capC b6 c :: (cs ++ G)) (fun x hx => .tail _ (List.mem_append_right _ (hG x hx))) hI hpre
        refine gz ?_
        refine s_keep (Keep.of_perm (l' := l ++ (capC b6 c :: (cs ++ G))) List.perm_middle.symm) ?_
        refine t_eh (e_yield rfl rfl hy) rfl rfl rfl ?_
        rintro w l' ⟨l1, rfl, ⟨rfl, hI'⟩ | ⟨rfl, hx⟩⟩
        · refine gz ?_
          exact k_next (k + 1, l1) ⟨by simp only; omega, by simp only; rw [usedTo_t hcc he, ← List.append_assoc]; exact hI'⟩ (by simp only; omega) ⟨rfl, rfl, rfl, rfl, rfl, rfl, rfl, rfl, rfl, trivial⟩ (Keep.trans (.of_perm List.perm_middle) (.drop .refl))
        · refine gz ?_
          exact k_ret [] rfl (Keep.trans (.of_perm List.perm_middle) (.drop (Keep.trans (Keep.in_mid l1 cs G) (Keep.dropL cs .refl)))) (by exact zRes) ⟨l1, rfl, .inr ⟨_, hpre, hx⟩⟩
    · obtain rfl : k = nd.C.length := by omega
      refine gz ?_
      refine k_next (i + 1, l) ⟨by simp only; omega, ?_⟩ (by simp only; omega) ⟨rfl, rfl, rfl, rfl, rfl, trivial⟩ .refl
      simp only
      rw [List.take_add_one, hdi, usedD_app]
      show I (_ ++ usedD [nd.d]) l
      rw [show usedD [nd.d] = usedTo nd.id nd.C nd.C.length by simp [usedD]]
      exact hI
  · obtain rfl : i = S.length := by omega
    rw [show (S.map NdS.d).take S.length = S.map NdS.d from List.take_of_length_le (by simp)] at hI
    refine gz ?_
    exact k_ret [] rfl (Keep.trans (Keep.in_mid l cs G) (Keep.dropL cs .refl)) (by exact zRes) ⟨l, rfl, .inl ⟨_, rfl, hI⟩⟩
theorem all_any (b : Nat) (D : SD) (lq : List Chunk) (hq : IsS b D lq) (hn : D.length ≤ 50000) (l : List Chunk) (hsub : ∀ c, c ∈ lq → c ∈ l) :
    Fn Tryz.prog 126 [.pointer (some ⟨b, 0, none⟩)] l fun v l' => ∃ cs, OwnSl 220 10 v (usedD D).length (hcs (usedD D)) cs ∧ l' = cs ++ l := by
  have hlen := usedD_len fun x hx => (hq.sz x hx).2
  refine fn_of_body Tryz.func126 rfl rfl fun E => ?_
  simp only [argF, Tryz.ntmps126]
  refine gz ?_
  refine t_e (e_call0 rfl rfl (used_any _ rfl _)) rfl rfl rfl ?_
  rintro _ _ ⟨B, rfl, rfl⟩
  refine gz ?_
  refine t_e (e_call0 rfl rfl (collectE_any 206 [.pointer (some ⟨B, 0, none⟩)] _ _ _ (used_iter B b D lq hq hn) (usedD D).length (fun pre h => h.length_le) (by omega) _ fun _ l2 hl => ⟨hl _ (.head _), fun c hc => hl _ (.tail _ (hsub c hc))⟩)) rfl rfl rfl ?_
  rintro v _ ⟨_, cs, rfl, ho, rfl⟩
  have hv1 : v.oneCell' = true := ho.one
  refine gz ?_
  refine k_ret [] rfl (l' := cs ++ l) (Keep.trans (.of_perm List.perm_middle) (.drop .refl)) (by exact zRes) ?_
  exact ⟨cs, ho, rfl⟩
theorem asc_at {α : Type} {key : α → Int} {L : List α} (h : L.Pairwise fun x y => key x < key y) {t : α} (ht : t ∈ L) : findK key L (key t) = some t := by
  have hnd : (L.map key).Nodup := List.pairwise_map.2 (h.imp fun hxy => by omega)
  cases hf : findK key L (key t) with
  | none => exact absurd rfl (findK_none.1 hf t ht)
  | some u => obtain ⟨h1, h2⟩ := findK_some hf; rw [nd_stamp hnd h1 ht h2]
theorem find_put (D : SD) (s : slT) (c : CapT) (a : Int) : findK Prod.fst (putD D s c) a = (findK Prod.fst D a).map fun x => if x.1 = s.1 then (x.1, x.2.set s.2.toNat c) else x := by
  unfold findK putD
  rw [List.find?_map]
  have e : ((fun t : Int × List CapT => decide (t.1 = a)) ∘ fun x => if x.1 = s.1 then (x.1, x.2.set s.2.toNat c) else x) = fun t => decide (t.1 = a) := by
    funext x
    show decide ((if x.1 = s.1 then (x.1, x.2.set s.2.toNat c) else x).1 = a) = decide (x.1 = a)
    split <;> rfl
  rw [e]
theorem size_put (D : SD) (s : slT) (c : CapT) (a : Int) : sizeD (putD D s c) a = sizeD D a := by
  unfold sizeD
  rw [find_put]
  cases findK Prod.fst D a with
  | none => rfl
  | some x =>
    simp only [Option.map_some]
    split
    · simp
    · rfl
theorem ok_put (D : SD) (s : slT) (c : CapT) (s' : slT) : okD (putD D s c) s' = okD D s' := by unfold okD; rw [size_put]
theorem at_put {D : SD} {s : slT} {c : CapT} (h : okD D s = true) : atD (putD D s c) s = c := by
  unfold okD sizeD at h
  rw [Bool.and_eq_true, decide_eq_true_eq, decide_eq_true_eq] at h
  unfold atD
  rw [find_put]
  cases hf : findK Prod.fst D s.1 with
  | none => rw [hf] at h; simp at h; omega
  | some x =>
    rw [hf] at h
    simp only at h
    simp only [Option.map_some]
    rw [if_pos (findK_some hf).2]
    show (x.2.set s.2.toNat c).getD s.2.toNat capZ = c
    rw [List.getD_eq_getElem?_getD, List.getElem?_set_self (by omega)]; rfl
theorem at_put_ne {D : SD} {s s' : slT} {c : CapT} (h0 : 0 ≤ s.2) (h0' : 0 ≤ s'.2) (h : s' ≠ s) : atD (putD D s c) s' = atD D s' := by
  unfold atD
  rw [find_put]
  cases hf : findK Prod.fst D s'.1 with
  | none => rfl
  | some x =>
    simp only [Option.map_some]
    split
    · rename_i hx
      have hx2 := (findK_some hf).2
      have hne : s'.2 ≠ s.2 := fun e => h (Prod.ext (by rw [← hx2, hx]) e)
      show (x.2.set s.2.toNat c).getD s'.2.toNat capZ = x.2.getD s'.2.toNat capZ
      rw [List.getD_eq_getElem?_getD, List.getD_eq_getElem?_getD, List.getElem?_set_ne (by omega)]
    · rfl
section
variable {α : Type} {key : α → Int}
def idxK (key : α → Int) (L : List α) (a : Int) : Int := if (findK key L a).isSome = true then ((L.takeWhile fun t => decide (key t ≠ a)).length : Nat) else -1
theorem idx_of {L : List α} {a : Int} {t : α} (h : findK key L a = some t) : ∃ A B, L = A ++ t :: B ∧ idxK key L a = (A.length : Nat) ∧ key t = a ∧ (∀ x, x ∈ A → key x ≠ a) ∧ L[A.length]? = some t := by
  obtain ⟨A, B, rfl, ht, hA⟩ := find_split h
  refine ⟨A, B, rfl, ?_, ht, hA, by rw [List.getElem?_append_right (Nat.le_refl _), Nat.sub_self]; rfl⟩
  unfold idxK
  rw [h, List.takeWhile_append_of_pos fun x hx => by simpa using hA x hx, List.takeWhile_cons_of_neg (by simpa using ht), List.append_nil]; rfl
theorem idx_neg {L : List α} {a : Int} (h : findK key L a = none) : idxK key L a = -1 := by unfold idxK; rw [h]; rfl
theorem idx_hit {L : List α} {a : Int} {k : Nat} {x : α} (hx : L[k]? = some x) (hs : key x = a) (hn : ∀ j y, j < k → L[j]? = some y → key y ≠ a) : idxK key L a = (k : Nat) := by
  have hk := (List.getElem?_eq_some_iff.1 hx).1
  have hL : L = L.take k ++ x :: L.drop (k + 1) := by
    have h1 := List.take_append_drop k L
    rw [List.drop_eq_getElem_cons hk] at h1
    have h2 : L[k] = x := by rw [List.getElem?_eq_getElem hk] at hx; exact Option.some.inj hx
    rw [h2] at h1; exact h1.symm
  have hA : ∀ y, y ∈ L.take k → key y ≠ a := fun y hy => by
    obtain ⟨j, hj⟩ := List.mem_iff_getElem?.1 hy
    rw [List.getElem?_take] at hj
    split at hj
    · exact hn j y (by assumption) hj
    · cases hj
  have hf : findK key L a = some x := by
    unfold findK
    rw [hL, find_append, List.find?_eq_none.2 fun y hy => by simpa using hA y hy, Option.none_or, List.find?_cons, decide_eq_true hs]
  unfold idxK
  rw [hf]
  have : L.takeWhile (fun t => decide (key t ≠ a)) = L.take k := by
    conv => lhs; rw [hL]
    rw [List.takeWhile_append_of_pos fun y hy => by simpa using hA y hy, List.takeWhile_cons_of_neg (by simpa using hs), List.append_nil]
  rw [this, List.length_take, Nat.min_eq_left (Nat.le_of_lt hk)]; rfl
end
abbrev encN (nd : NdS) : List Value := [.int .i64 nd.id, nd.val]
def ncs (S : List NdS) : List Value := S.flatMap encN
abbrev rxC (b : Nat) (v : Value) : Chunk := (b, .cells #[v] 244 (0, 0))
structure RB (b : Nat) (S : List NdS) (v : Value) (cs lr : List Chunk) : Prop where
  eq : lr = rxC b v :: (cs ++ S.map NdS.blk)
  own : OwnSl 247 2 v S.length (ncs S) cs
  asc : S.Pairwise fun x y => x.id < y.id
  sz : ∀ nd, nd ∈ S → 0 < nd.C.length ∧ nd.C.length ≤ 16
def IsR (b : Nat) (D : SD) (lr : List Chunk) : Prop := ∃ S v cs, S.map NdS.d = D ∧ RB b S v cs lr
theorem RB.m1 {b : Nat} {S : List NdS} {v : Value} {cs lr : List Chunk} (h : RB b S v cs lr) : rxC b v ∈ lr := by rw [h.eq]; exact .head _
theorem RB.m2 {b : Nat} {S : List NdS} {v : Value} {cs lr : List Chunk} (h : RB b S v cs lr) {x : Chunk} (hx : x ∈ cs) : x ∈ lr := by rw [h.eq]; exact .tail _ (List.mem_append_left _ hx)
theorem RB.m3 {b : Nat} {S : List NdS} {v : Value} {cs lr : List Chunk} (h : RB b S v cs lr) {nd : NdS} (hn : nd ∈ S) : nd.blk ∈ lr := by rw [h.eq]; exact .tail _ (List.mem_append_right _ (List.mem_map.2 ⟨nd, hn, rfl⟩))
theorem ncs_at {xs : Array Value} {o : Nat} {nd : NdS} (h : xs.extract o (o + 2) = List.toArray (encN nd)) (hle : o + 2 ≤ xs.size) : xs[o]? = some (.int .i64 nd.id) ∧ xs[o + 1]? = some nd.val := by
  have e : ∀ j, j < 2 → xs[o + j]? = (encN nd)[j]? := fun j hj => by
    have e2 : (List.toArray (encN nd))[j]? = (encN nd)[j]? := by simp
    rw [← e2, ← h, Array.getElem?_extract, if_pos (by omega)]
  exact ⟨e 0 (by omega), e 1 (by omega)⟩
theorem RB.view {b : Nat} {S : List NdS} {v : Value} {cs lr l : List Chunk} (h : RB b S v cs lr) (hs : ∀ c, c ∈ lr → c ∈ l) : ∃ p cap, v = .slice p S.length cap ∧ rxC b (.slice p S.length cap) ∈ l ∧ (0 < S.length → ∃ bB off xs t fz, p = some ⟨bB, off, none⟩ ∧ (bB, Obj.cells xs t fz) ∈ l ∧ ∀ i x, S[i]? = some x → xs[off + i * 2]? = some (.int .i64 x.id) ∧ xs[off + i * 2 + 1]? = some x.val ∧ off + i * 2 + 2 ≤ xs.size ∧ xs.extract (off + i * 2) (off + i * 2 + 2) = List.toArray (encN x)) := by
  have hSN : RowSl l v 2 encN S := OwnSl.rowSl (enc := encN) h.own (fun _ => rfl) fun c hc => hs c (h.m2 hc)
  obtain ⟨p, cap, rfl, hR⟩ := hSN
  refine ⟨p, cap, rfl, hs _ h.m1, fun h0 => ?_⟩
  obtain ⟨bB, off, xs, t, fz, h1, h2, h3⟩ := hR h0
  refine ⟨bB, off, xs, t, fz, h1, h2, fun i x hx => ?_⟩
  obtain ⟨g1, g2⟩ := h3 i x hx
  obtain ⟨k1, k2⟩ := ncs_at g2 g1
  exact ⟨k1, k2, g1, g2⟩
theorem ok_split {S : List NdS} {s : slT} (hok : okD (S.map NdS.d) s = true) : ∃ nd k c, findK NdS.id S s.1 = some nd ∧ s.2 = ((k : Nat) : Int) ∧ nd.C[k]? = some c ∧ atD (S.map NdS.d) s = c := by
  have hok2 := hok
  unfold okD sizeD at hok2
  rw [Bool.and_eq_true, decide_eq_true_eq, decide_eq_true_eq, find_d] at hok2
  cases hf : findK NdS.id S s.1 with
  | none => rw [hf] at hok2; simp at hok2; omega
  | some nd =>
    rw [hf] at hok2
    simp only [Option.map_some] at hok2
    obtain ⟨k, hk⟩ : ∃ k : Nat, s.2 = (k : Nat) := ⟨s.2.toNat, by omega⟩
    obtain ⟨c, hc⟩ : ∃ c, nd.C[k]? = some c := ⟨_, List.getElem?_eq_getElem (by omega)⟩
    refine ⟨nd, k, c, rfl, hk, hc, ?_⟩
    unfold atD
    rw [find_d, hf, hk]
    show nd.C.getD k capZ = c
    rw [List.getD_eq_getElem?_getD, hc]; rfl
theorem encN_ones (x : NdS) : ∀ u ∈ encN x, u.oneCell' = true := fun u hx => by
  simp only [encN, List.mem_cons, List.not_mem_nil, or_false] at hx
  rcases hx with rfl | rfl <;> rfl
theorem asc_repl {A B : List NdS} {x y : NdS} (h : (A ++ x :: B).Pairwise fun x y => x.id < y.id) (hk : y.id = x.id) : (A ++ y :: B).Pairwise fun x y => x.id < y.id := by
  obtain ⟨h2, h3, h4⟩ := List.pairwise_append.1 h
  obtain ⟨h5, h6⟩ := List.pairwise_cons.1 h3
  refine List.pairwise_append.2 ⟨h2, List.pairwise_cons.2 ⟨fun z hz => by rw [hk]; exact h5 z hz, h6⟩, fun z hz w hw => ?_⟩
  rcases List.mem_cons.1 hw with rfl | hw
  · rw [hk]; exact h4 z hz x List.mem_cons_self
  · exact h4 z hz w (List.mem_cons_of_mem _ hw)
def ValD (D : SD) : Prop := ∀ x, x ∈ D → ∀ c, c ∈ x.2 → c.kind = 0 → c = capZ
theorem ncs_snoc (S : List NdS) (x : NdS) : ncs (S ++ [x]) = ncs S ++ encN x := by simp [ncs]
theorem ins_asc {α : Type} {key : α → Int} {L : List α} {t : α} (h : L.Pairwise fun x y => key x < key y) (hn : findK key L (key t) = none) : (insK key L t).Pairwise fun x y => key x < key y := by
  obtain ⟨W, Z, e1, e2, hL, hall, hgt⟩ := ins_split h (findK_none.1 hn)
  have hi : insK key L t = W ++ t :: Z := by unfold insK; rw [e1, e2]
  rw [hL, List.pairwise_append] at h
  rw [hi]
  refine List.pairwise_append.2 ⟨h.1, List.pairwise_cons.2 ⟨fun x hx => hgt x hx, h.2.1⟩, fun x hx y hy => ?_⟩
  have h1 := hall x hx
  rcases List.mem_cons.1 hy with rfl | hy
  · exact h1
  · have := hgt y hy; omega
theorem keep_add16 (x y : Chunk) (cv cs W Z G : List Chunk) : Keep (cv ++ (y :: (x :: (cs ++ (W ++ Z) ++ G)))) ((x :: (cv ++ (W ++ y :: Z))) ++ G) := by
  refine ⟨cs, ?_⟩
  have e1 : (cv ++ (y :: (x :: (cs ++ (W ++ Z) ++ G)))) = cv ++ ([y] ++ ([x] ++ (cs ++ (W ++ (Z ++ G))))) := by simp
  have e2 : (cs ++ ((x :: (cv ++ (W ++ y :: Z))) ++ G)) = cs ++ ([x] ++ (cv ++ (W ++ ([y] ++ (Z ++ G))))) := by simp
  rw [e1, e2]
  have h1 : (cv ++ ([y] ++ ([x] ++ (cs ++ (W ++ (Z ++ G)))))).Perm (cv ++ ([x] ++ (cs ++ (W ++ ([y] ++ (Z ++ G)))))) := by
    refine List.Perm.append_left cv ?_
    refine (List.perm_append_comm_assoc [y] [x] _).trans (List.Perm.append_left [x] ?_)
    refine (List.perm_append_comm_assoc [y] cs _).trans (List.Perm.append_left cs ?_)
    exact List.perm_append_comm_assoc [y] W _
  refine h1.trans ?_
  refine (List.perm_append_comm_assoc cv [x] _).trans ?_
  have h2 : ([x] ++ (cv ++ (cs ++ (W ++ ([y] ++ (Z ++ G)))))).Perm ([x] ++ (cs ++ (cv ++ (W ++ ([y] ++ (Z ++ G)))))) := (List.perm_append_comm_assoc cv cs _).append_left [x]
  exact h2.trans (List.perm_append_comm_assoc [x] cs _)
theorem encE_ones (t : HdT) : ∀ u ∈ encE t, u.oneCell' = true := by simp [Value.oneCell']
theorem eqC_zero {c : CapT} (h : c.kind ≠ 0) : eqC c capZ = false := by
  cases he : eqC c capZ with
  | false => rfl
  | true => exact absurd (by
      have : c = capZ := by simpa [eqC_iff] using he
      rw [this]) h
theorem ext_at {xs : Array Value} {o k j : Nat} {ys : List Value} {v : Value} (h : xs.extract o (o + k) = List.toArray ys) (hle : o + k ≤ xs.size) (hj : j < k) (hv : ys[j]? = some v) : xs[o + j]? = some v := by
  have h2 : (List.toArray ys)[j]? = ys[j]? := by simp
  rw [← hv, ← h2, ← h, Array.getElem?_extract, if_pos (by omega)]
abbrev hdK : List (Option IntKind) := some .i64 :: some .i64 :: capK
instance : EQ Tryz.prog 220 hdK := ⟨by kernel_rfl⟩
theorem encE_k (h : HdT) : AllK hdK (encE h) := ⟨_, _, rfl, ⟨_, rfl⟩, _, _, rfl, ⟨_, rfl⟩, encC_k h.2⟩
theorem encE_inj (x y : HdT) (h : encE x = encE y) : x = y := by
  have e : ∀ z : HdT, encE z = [.int .i64 z.1.1, .int .i64 z.1.2] ++ encC z.2 := fun _ => rfl
  rw [e, e] at h
  obtain ⟨h1, h2⟩ := List.append_inj h rfl
  simp only [List.cons.injEq, Value.int.injEq, true_and, and_true] at h1
  exact Prod.ext (Prod.ext h1.1 h1.2) (encC_inj _ _ h2)
set_option maxHeartbeats 400000 in
set_option maxRecDepth 20000 in
theorem sameHeld_any {α : Type} [DecidableEq α] (enc : α → List Value) (hin : ∀ x y, enc x = enc y → x = y) (hk : ∀ x, AllK hdK (enc x)) (v u : Value) (xs ys : List α) (l : List Chunk) (h1 : RowSl l v 10 enc xs) (h2 : RowSl l u 10 enc ys) (hx : xs.length ≤ 1000000) :
    Fn Tryz.prog 44 [v, u] l fun r l' => r = .bool (decide (xs = ys)) ∧ l' = l := by
  obtain ⟨a, ca, rfl, h1⟩ := h1
  obtain ⟨a', ca', rfl, h2⟩ := h2
  refine fn_of_body Tryz.func44 rfl rfl fun E => ?_
  simp only [argF, Tryz.ntmps44]
  by_cases hl : xs.length = ys.length
  · refine gz ?_
    refine k_loop (α := Nat) (fun k => [(0, .slice a xs.length ca), (1, .slice a' ys.length ca'), (5, .int .i64 k)]) (fun k => l) (fun k => k ≤ xs.length ∧ ∀ j, j < k → xs[j]? = ys[j]?) (fun k => xs.length - k) 0 ⟨Nat.zero_le _, fun j h => by omega⟩ ⟨rfl, rfl, rfl, trivial⟩ .refl ?_
    rintro k ⟨hk2, hj⟩
    by_cases hlt : k < xs.length
    · obtain ⟨b, off, cs, t, fz, rfl, hm, hc⟩ := h1 (by omega)
      obtain ⟨b', off', cs', t', fz', rfl, hm', hc'⟩ := h2 (by omega)
      obtain ⟨x, e1⟩ : ∃ x, xs[k]? = some x := ⟨_, List.getElem?_eq_getElem hlt⟩
      obtain ⟨y, e2⟩ : ∃ y, ys[k]? = some y := ⟨_, List.getElem?_eq_getElem (show k < ys.length by omega)⟩
      obtain ⟨g1, g2⟩ := hc k x e1
      obtain ⟨g1', g2'⟩ := hc' k y e2
      refine gz ?_
      refine c_draw [(0, true), (1, true), (2, true), (3, true), (4, true), (5, true), (6, true), (7, true), (8, true)] [[], [], [0, 1], [0, 1, 2], [], [], [4, 5], [4, 5, 6], [0, 1, 2, 3, 4, 5, 6, 7]] _ (by kernel_rfl) (by kernel_rfl) zAtt (fun _ h => h) ?_
      refine pz ?_
      apply pl_q
      · exact q_loadA rfl hm g1 g2
      · rfl
      · rfl
      · rfl
      refine pz ?_
      apply pl_q
      · exact q_loadA rfl hm' g1' g2'
      · rfl
      · rfl
      · rfl
      refine pz ?_
      apply pl_q
      · exact q_neagg rfl rfl (hk x) (hk y)
      · rfl
      · rfl
      · rfl
      by_cases hxy : x = y
      · rw [show (!eqCells (enc x) (enc y)) = false by rw [hxy, eqCells_self (hk y)]; rfl]
        refine pz ?_
        refine gz ?_
        exact k_next (k + 1) ⟨by omega, fun j hjk => by
          by_cases e : j = k
          · subst e; rw [e1, e2, hxy]
          · exact hj j (by omega)⟩ (by omega) ⟨rfl, rfl, rfl, trivial⟩ .refl
      · rw [show (!eqCells (enc x) (enc y)) = true by
          cases h : eqCells (enc x) (enc y) with
          | false => rfl
          | true => exact absurd (hin _ _ ((eqCells_iff (hk x) (hk y)).1 h)) hxy]
        refine pz ?_
        refine gz ?_
        refine k_ret [] rfl .refl (by exact zRes) ⟨?_, rfl⟩
        rw [show decide (xs = ys) = false from decide_eq_false fun e => by subst e; rw [e1] at e2; exact hxy (by cases e2; rfl)]; rfl
    · obtain rfl : k = xs.length := by omega
      refine gz ?_
      refine k_ret [] rfl .refl (by exact zRes) ⟨?_, rfl⟩
      rw [show decide (xs = ys) = true from decide_eq_true (List.ext_getElem? fun j => by
        by_cases h : j < xs.length
        · exact hj j h
        · rw [List.getElem?_eq_none (by omega), List.getElem?_eq_none (by omega)])]; rfl
  · refine gz ?_
    refine k_ret [] rfl .refl (by exact zRes) ⟨?_, rfl⟩
    rw [show decide (xs = ys) = false from decide_eq_false fun e => hl (by rw [e])]; rfl
theorem ins_len (D : SD) (x : Int × List CapT) : (insK Prod.fst D x).length = D.length + 1 := (ins_perm D x).length_eq
end Go.Proofs.YtcjknmpogkofpaaGreat
namespace Go.Proofs.YtcjknmpogkofpaaGreat.Tr
open Go.RowKit
set_option maxRecDepth 20000
abbrev SlotT := Int × Int
abbrev encT (s : SlotT) : List Value := [.int .i64 s.1, .int .i64 s.2]
theorem encT_ok : EncOk encT [some .i64, some .i64] := ⟨fun a => ⟨_, _, rfl, ⟨_, rfl⟩, _, _, rfl, ⟨_, rfl⟩, rfl⟩, fun a b h => by
  simp only [encT, List.cons.injEq, Value.int.injEq, true_and, and_true] at h
  exact Prod.ext h.1 h.2⟩
structure NdT where
  sl : SlotT
  dp : Int
  pv : Nat
  nx : Nat
abbrev NdT.cells (x : NdT) : List Value := [.int .i64 x.sl.1, .int .i64 x.sl.2, .int .i64 x.dp, .pointer (some ⟨x.pv, 0, none⟩), .pointer (some ⟨x.nx, 0, none⟩)]
abbrev ndC (p : Nat) (x : NdT) : Chunk := (p, .cells (List.toArray x.cells) 323 (0, 0))
def chs (F : Nat → NdT) (all : List Nat) : List Chunk := all.map fun p => ndC p (F p)
theorem chs_mem {F : Nat → NdT} {all : List Nat} {p : Nat} (h : p ∈ all) : ndC p (F p) ∈ chs F all := List.mem_map.2 ⟨p, h, rfl⟩
theorem chs_congr {F F' : Nat → NdT} {all : List Nat} (h : ∀ p, p ∈ all → F p = F' p) : chs F all = chs F' all := List.map_congr_left fun p hp => by rw [h p hp]
theorem chs_upd {F : Nat → NdT} {all : List Nat} {p : Nat} (x : NdT) (hn : all.Nodup) (hp : p ∈ all) : Upd (chs F all) p (ndC p (F p)).2 (ndC p x).2 (chs (upd F p x) all) := by
  induction all with
  | nil => cases hp
  | cons q all ih =>
    rw [List.nodup_cons] at hn
    by_cases e : q = p
    · subst e
      have h1 : chs (upd F q x) all = chs F all := chs_congr fun r hr => upd_other _ _ _ _ fun e => hn.1 (e ▸ hr)
      show Upd (ndC q (F q) :: chs F all) q _ _ (ndC q (upd F q x q) :: chs (upd F q x) all)
      rw [upd_same, h1]
      exact .here
    · rcases List.mem_cons.1 hp with h | h
      · exact absurd h.symm e
      · show Upd (ndC q (F q) :: chs F all) p _ _ (ndC q (upd F p x q) :: chs (upd F p x) all)
        rw [upd_other _ _ _ _ e]
        exact .there (ih hn.2 h)
instance : EQ Tryz.prog 109 [some .i64, some .i64] := ⟨by kernel_rfl⟩
abbrev DT := List (SlotT × Int)
def Adj (F : Nat → NdT) : List Nat → Prop
  | [] => True
  | [_] => True
  | a :: b :: r => (F a).nx = b ∧ (F b).pv = a ∧ Adj F (b :: r)
abbrev trC (b rb m : Nat) : Chunk := (b, .cells (List.toArray [.pointer (some ⟨rb, 0, none⟩), .map (some m)]) 321 (0, 0))
structure TB (b rb m : Nat) (F : Nat → NdT) (all os : List Nat) (es : List (EntS SlotT)) (clock : Nat) (lq : List Chunk) : Prop where
  eq : lq = trC b rb m :: (m, mapS encT es clock) :: chs F all
  nd : all.Nodup
  rin : rb ∈ all
  sub : ∀ p, p ∈ os → p ∈ all
  ond : (rb :: os).Nodup
  adj : Adj F (rb :: (os ++ [rb]))
  snd : (os.map fun p => (F p).sl).Nodup
  keys : KeysOk es clock
  get : ∀ s, getS s es = (os.find? fun p => decide ((F p).sl = s)).map fun p => .pointer (some ⟨p, 0, none⟩)
def dOf (F : Nat → NdT) (os : List Nat) : DT := os.map fun p => ((F p).sl, (F p).dp)
def IsT (b : Nat) (D : DT) (lq : List Chunk) : Prop := ∃ rb m F all os es clock, dOf F os = D ∧ TB b rb m F all os es clock lq
theorem TB.m1 {b rb m : Nat} {F : Nat → NdT} {all os : List Nat} {es : List (EntS SlotT)} {clock : Nat} {lq : List Chunk} (h : TB b rb m F all os es clock lq) : trC b rb m ∈ lq := by rw [h.eq]; exact .head _
theorem TB.m2 {b rb m : Nat} {F : Nat → NdT} {all os : List Nat} {es : List (EntS SlotT)} {clock : Nat} {lq : List Chunk} (h : TB b rb m F all os es clock lq) : (m, mapS encT es clock) ∈ lq := by rw [h.eq]; exact .tail _ (.head _)
theorem TB.m3 {b rb m : Nat} {F : Nat → NdT} {all os : List Nat} {es : List (EntS SlotT)} {clock : Nat} {lq : List Chunk} (h : TB b rb m F all os es clock lq) {p : Nat} (hp : p ∈ all) : ndC p (F p) ∈ lq := by rw [h.eq]; exact .tail _ (.tail _ (chs_mem hp))
def blk (F : Nat → NdT) (os : List Nat) (s : SlotT) : Option Nat := os.find? fun p => decide ((F p).sl = s)
theorem blk_some {F : Nat → NdT} {os : List Nat} {s : SlotT} {p : Nat} (h : blk F os s = some p) : p ∈ os ∧ (F p).sl = s :=
  ⟨List.mem_of_find?_eq_some h, by have := List.find?_some h; simpa using this⟩
def ptrO : Option Nat → Value
  | some p => .pointer (some ⟨p, 0, none⟩)
  | none => .pointer none
set_option maxHeartbeats 400000
theorem of_any (b rb m : Nat) (F : Nat → NdT) (all os : List Nat) (es : List (EntS SlotT)) (clock : Nat) (lq : List Chunk) (s : SlotT) (hT : TB b rb m F all os es clock lq) (l : List Chunk) (hsub : ∀ c, c ∈ lq → c ∈ l) :
    Fn Tryz.prog 191 [.pointer (some ⟨b, 0, none⟩), .agg (List.toArray (encT s))] l fun v l' => v = ptrO (blk F os s) ∧ l' = l := by
  have h1 := hsub _ hT.m1
  have h2 := hsub _ hT.m2
  have hg : (getS s es).getD (.pointer none) = ptrO (blk F os s) := by
    rw [hT.get]; unfold blk; cases os.find? fun p => decide ((F p).sl = s) <;> rfl
  refine fn_of_body Tryz.func191 rfl rfl fun E => ?_
  simp only [argF, Tryz.ntmps191]
  refine gz ?_
  refine t_e (e_boxA rfl) rfl rfl rfl ?_
  rintro _ _ ⟨b3, hb3, rfl, rfl⟩
  refine gz ?_
  refine c_draw [(0, true), (1, true), (2, true), (3, true), (4, true), (5, true), (6, true)] [[], [0], [0, 1], [0, 1, 2], [], [0, 1, 2, 3, 4], [0, 1, 2, 3, 4, 5]] _ (by kernel_rfl) (by kernel_rfl) zAtt (fun _ h => h) ?_
  refine pz ?_
  apply pl_q
  · apply q_lookupS (enc := encT) (a := s) (es := es) (clock := clock) (ks := [some .i64, some .i64])
    · rfl
    · rfl
    · exact encT_ok
    · exact .tail _ h2
  · rfl
  · rfl
  · rfl
  rw [hg]
  refine pz ?_
  refine gz ?_
  exact k_ret [] rfl (.drop .refl) (by exact zRes) ⟨rfl, rfl⟩
theorem new_any (l : List Chunk) : Fn Tryz.prog 138 [] l fun v l' => ∃ b, v = .pointer (some ⟨b, 0, none⟩) ∧ ∃ lq, IsT b [] lq ∧ l' = lq ++ l := by
  refine fn_of_body Tryz.func138 rfl rfl fun E => ?_
  simp only [argF, Tryz.ntmps138]
  refine gz ?_
  refine t_e (e_boxA rfl) rfl rfl rfl ?_
  rintro _ _ ⟨rb, hrb, rfl, rfl⟩
  refine gz ?_
  refine t_e e_makeMap rfl rfl rfl ?_
  rintro _ _ ⟨m, hm, rfl, rfl⟩
  refine gz ?_
  refine t_e (e_boxA rfl) rfl rfl rfl ?_
  rintro _ _ ⟨b, hb, rfl, rfl⟩
  refine gz ?_
  exact k_ret [] rfl .refl (by exact zRes) ⟨b, rfl, [trC b rb m, (m, .map #[] 0), ndC rb ⟨(0, 0), 0, rb, rb⟩], ⟨rb, m, fun _ => ⟨(0, 0), 0, rb, rb⟩, [rb], [], [], 0, rfl, ⟨rfl, by simp, by simp, by simp, by simp, ⟨rfl, rfl, trivial⟩, by simp, ⟨by simp, by simp, by simp⟩, fun s => rfl⟩⟩, rfl⟩
end Go.Proofs.YtcjknmpogkofpaaGreat.Tr
