/- Slots: the state; New, Add, Size, at, Get. -/
import Derived.Test.YtikcekfalfllpaaU0
import Derived.Test.YtikcekfalfllpaaP4
import Derived.Test.YtikcekfalfllpaaX6
set_option linter.unusedVariables false
set_option linter.unusedSimpArgs false
namespace Go.Proofs.Ytikcekfalfllpaa
open Go.RowKit

structure NdS where
  id : Int
  C : List CapT
  gb : Nat
def ccs (C : List CapT) : List Value := C.flatMap encC
abbrev capZ : CapT := ⟨0, 0, 0, 0, 0, 0, 0, 0⟩
abbrev NdS.val (nd : NdS) : Value := .slice (some ⟨nd.gb, 0, none⟩) nd.C.length nd.C.length
abbrev NdS.blk (nd : NdS) : Chunk := (nd.gb, .cells (List.toArray (ccs nd.C)) 34 (0, 0))
abbrev NdS.d (nd : NdS) : Int × List CapT := (nd.id, nd.C)
abbrev xC (b m : Nat) : Chunk := (b, .cells (List.toArray [.map (some m)]) 61 (0, 0))
abbrev SD := List (Int × List CapT)
structure SB (b : Nat) (S : List NdS) (m : Nat) (es : List Ent) (clock : Nat) (lq : List Chunk) : Prop where
  eq : lq = xC b m :: (m, mapO .i64 es clock) :: S.map NdS.blk
  mb : MB NdS.id NdS.val S es clock
  sz : ∀ nd, nd ∈ S → 0 < nd.C.length ∧ nd.C.length ≤ 16
def IsS (b : Nat) (D : SD) (lq : List Chunk) : Prop := ∃ S m es clock, S.map NdS.d = D ∧ SB b S m es clock lq
abbrev slT := Int × Int
abbrev encT (s : slT) : List Value := [.int .i64 s.1, .int .i64 s.2]
abbrev slC (B : Nat) (s : slT) : Chunk := (B, .cells (List.toArray (encT s)) 31 (0, 0))
theorem find_d {S : List NdS} {a : Int} : findK Prod.fst (S.map NdS.d) a = (findK NdS.id S a).map NdS.d := by
  unfold findK
  rw [List.find?_map]
  rfl
theorem SB.m1 {b m clock : Nat} {S : List NdS} {es : List Ent} {lq : List Chunk} (h : SB b S m es clock lq) : xC b m ∈ lq := by rw [h.eq]; exact .head _
theorem SB.m2 {b m clock : Nat} {S : List NdS} {es : List Ent} {lq : List Chunk} (h : SB b S m es clock lq) : (m, mapO .i64 es clock) ∈ lq := by rw [h.eq]; exact .tail _ (.head _)
theorem SB.m3 {b m clock : Nat} {S : List NdS} {es : List Ent} {lq : List Chunk} (h : SB b S m es clock lq) {nd : NdS} (hn : nd ∈ S) : nd.blk ∈ lq := by rw [h.eq]; exact .tail _ (.tail _ (List.mem_map.2 ⟨nd, hn, rfl⟩))
theorem SB.look {b m clock : Nat} {S : List NdS} {es : List Ent} {lq : List Chunk} (h : SB b S m es clock lq) (a : Int) : (getE a es).getD (.slice none 0 0) = match findK NdS.id S a with
    | some nd => nd.val
    | none => .slice none 0 0 := by
  rw [h.mb.get]; cases findK NdS.id S a <;> rfl
theorem ccs_l (C : List CapT) : (ccs C).length = C.length * 8 := by
  induction C with
  | nil => rfl
  | cons x r ih => 
    rw [show ccs (x :: r) = encC x ++ ccs r from rfl, List.length_append, ih]
    show 8 + r.length * 8 = (r.length + 1) * 8
    omega
theorem ccs_at {C : List CapT} {k : Nat} {c : CapT} (h : C[k]? = some c) : (List.toArray (ccs C)).extract (k * 8) (k * 8 + 8) = List.toArray (encC c) ∧ k * 8 + 8 ≤ (List.toArray (ccs C)).size := by
  obtain ⟨h1, h2⟩ := flat_row (enc := encC) (k := 8) (fun _ => rfl) [] C k c h
  rw [List.append_nil] at h1 h2
  refine ⟨?_, by rw [List.size_toArray]; exact h2⟩
  apply Array.toList_inj.1
  rw [Array.toList_extract]
  simp only [List.extract, Nat.add_sub_cancel_left]
  exact h1
def sizeD (D : SD) (a : Int) : Int := match findK Prod.fst D a with
  | some x => (x.2.length : Nat)
  | none => 0
def okD (D : SD) (s : slT) : Bool := decide (0 ≤ s.2) && decide (s.2 < sizeD D s.1)
def atD (D : SD) (s : slT) : CapT := match findK Prod.fst D s.1 with
  | some x => x.2.getD s.2.toNat capZ
  | none => capZ
def getD' (D : SD) (s : slT) : CapT × Int := if okD D s = true then (atD D s, 0) else (capZ, 3)
def addN (D : SD) (id n : Int) : Int × SD := if id < 1 ∨ n < 1 ∨ 16 < n then (2, D) else if (findK Prod.fst D id).isSome = true then (11, D) else (0, insK Prod.fst D (id, List.replicate n.toNat capZ))
theorem ins_map {α β : Type} {f : α → β} {key : α → Int} {key' : β → Int} (hk : ∀ x, key' (f x) = key x) (S : List α) (x : α) : (insK key S x).map f = insK key' (S.map f) (f x) := by
  unfold insK
  rw [List.map_append, List.map_cons, List.takeWhile_map, List.dropWhile_map]
  have e : (fun y => decide (key y < key x)) = (fun y => decide (key' y < key' (f x))) ∘ f := by funext y; simp [hk]
  rw [e]
theorem SB.look1 {b m clock : Nat} {S : List NdS} {es : List Ent} {lq : List Chunk} (h : SB b S m es clock lq) (a : Int) : ∃ p n cap, (getE a es).getD (.slice none 0 0) = .slice p n cap ∧ sizeD (S.map NdS.d) a = ((n : Nat) : Int) := by
  rw [h.look]
  unfold sizeD
  rw [find_d]
  cases findK NdS.id S a with
  | none => exact ⟨none, 0, 0, rfl, rfl⟩
  | some nd => exact ⟨_, _, _, rfl, rfl⟩
theorem SB.look2 {b m clock : Nat} {S : List NdS} {es : List Ent} {lq : List Chunk} (h : SB b S m es clock lq) (a : Int) {n : Nat} (hn : sizeD (S.map NdS.d) a = ((n : Nat) : Int)) (h0 : 0 < n) : ∃ nd, findK NdS.id S a = some nd ∧ nd.C.length = n ∧ (getE a es).getD (.slice none 0 0) = nd.val := by
  rw [h.look]
  unfold sizeD at hn
  rw [find_d] at hn
  cases hf : findK NdS.id S a with
  | none => rw [hf] at hn; simp at hn; omega
  | some nd => rw [hf] at hn; simp at hn; exact ⟨nd, rfl, by omega, rfl⟩
set_option pp.deepTerms false
set_option pp.deepTerms.threshold 4
set_option maxHeartbeats 400000
theorem new_any (l : List Chunk) : Fn Try.prog 7 [] l fun v l' => ∃ b, v = .pointer (some ⟨b, 0, none⟩) ∧ ∃ lq, IsS b [] lq ∧ l' = lq ++ l := by
  refine fn_of_body Try.func7 rfl rfl fun E => ?_
  simp only [argF, Try.ntmps7]
  repeat (first | (show OpsS _ _ _ _ _ _ (_ :: _) _ _ _; first | refine ozq ?_) | refine c_seq ?_ | refine p_then ?_ | refine c_region ?_ | refine s_nil ?_ | refine c_ret ?_ | refine p_then_ret ?_ | refine p_end ?_)
  refine t_e e_makeMap rfl rfl rfl ?_
  rintro _ _ ⟨m, hm, rfl, rfl⟩
  repeat (first | (show OpsS _ _ _ _ _ _ (_ :: _) _ _ _; first | refine ozq ?_) | refine c_seq ?_ | refine p_then ?_ | refine c_region ?_ | refine s_nil ?_ | refine c_ret ?_ | refine p_then_ret ?_ | refine p_end ?_)
  (first | refine t_e (e_box1 rfl rfl) rfl rfl rfl ?_ | refine t_e (e_boxA rfl) rfl rfl rfl ?_); rintro _ _ ⟨b, _, rfl, rfl⟩
  repeat (first | (show OpsS _ _ _ _ _ _ (_ :: _) _ _ _; first | refine ozq ?_) | refine c_seq ?_ | refine p_then ?_ | refine c_region ?_ | refine s_nil ?_ | refine c_ret ?_ | refine p_then_ret ?_ | refine p_end ?_)
  exact k_ret [] rfl .refl (by (repeat (first | apply ResS.nil | (apply rs_tmp; (· rfl)) | (apply rs_cell1; (· rfl); (· ((repeat (first | with_reducible apply List.mem_cons_self | with_reducible apply List.mem_cons_of_mem)); try with_reducible assumption)); (· rfl)) | (apply rs_cellA; (· rfl); (· ((repeat (first | with_reducible apply List.mem_cons_self | with_reducible apply List.mem_cons_of_mem)); try with_reducible assumption)); (· (repeat (first | with_reducible apply LSub.done | with_reducible apply LSub.take | with_reducible apply LSub.drop))))))) ⟨b, rfl, _, ⟨[], m, [], 0, rfl, rfl, MB.zero, by simp⟩, rfl⟩
theorem size_any (b : Nat) (D : SD) (lq : List Chunk) (hq : IsS b D lq) (a : Int) (l : List Chunk) (hsub : ∀ c, c ∈ lq → c ∈ l) :
    Fn Try.prog 17 [.pointer (some ⟨b, 0, none⟩), .int .i64 a] l fun v l' => v = .int .i64 (sizeD D a) ∧ l' = l := by
  obtain ⟨S, m, es, clock, rfl, hS⟩ := hq
  have hm1 := hsub _ hS.m1
  have hm2 := hsub _ hS.m2
  refine fn_of_body Try.func17 rfl rfl fun E => ?_
  simp only [argF, Try.ntmps17]
  obtain ⟨p, n, cap, hlk, hn⟩ := hS.look1 a
  rw [hn]
  repeat (first | (show OpsS _ _ _ _ _ _ (_ :: _) _ _ _; first | refine ozq ?_) | refine c_seq ?_ | refine p_then ?_ | refine c_region ?_ | refine s_nil ?_ | refine c_cond_t rfl ?_ | refine c_cond_f rfl ?_ | refine c_skip ?_ | refine c_ret ?_ | refine p_then_ret ?_ | refine p_end ?_ | refine c_if_t rfl (by omega) ?_ | refine c_if_f rfl (by omega) ?_)
  rw [hlk]
  repeat (first | (show OpsS _ _ _ _ _ _ (_ :: _) _ _ _; first | refine ozq ?_) | refine c_seq ?_ | refine p_then ?_ | refine c_region ?_ | refine s_nil ?_ | refine c_cond_t rfl ?_ | refine c_cond_f rfl ?_ | refine c_skip ?_ | refine c_ret ?_ | refine p_then_ret ?_ | refine p_end ?_ | refine c_if_t rfl (by omega) ?_ | refine c_if_f rfl (by omega) ?_)
  exact k_ret [] rfl .refl (by (repeat (first | apply ResS.nil | (apply rs_tmp; (· rfl)) | (apply rs_cell1; (· rfl); (· ((repeat (first | with_reducible apply List.mem_cons_self | with_reducible apply List.mem_cons_of_mem)); try with_reducible assumption)); (· rfl)) | (apply rs_cellA; (· rfl); (· ((repeat (first | with_reducible apply List.mem_cons_self | with_reducible apply List.mem_cons_of_mem)); try with_reducible assumption)); (· (repeat (first | with_reducible apply LSub.done | with_reducible apply LSub.take | with_reducible apply LSub.drop))))))) ⟨rfl, rfl⟩
def atP (S : List NdS) (s : slT) : Option Addr := if okD (S.map NdS.d) s = true then (findK NdS.id S s.1).map fun nd => ⟨nd.gb, s.2.toNat * 8, none⟩ else none
theorem at_any (b : Nat) (D : SD) (S : List NdS) (m clock : Nat) (es : List Ent) (lq : List Chunk) (hD : S.map NdS.d = D) (hS : SB b S m es clock lq) (s : slT) (l : List Chunk) (hsub : ∀ c, c ∈ lq → c ∈ l) :
    Fn Try.prog 26 [.pointer (some ⟨b, 0, none⟩), .agg (List.toArray (encT s))] l fun v l' => v = .tuple #[.pointer (atP S s), .int .i64 (if okD D s = true then 0 else 3)] ∧ l' = l := by
  subst hD
  have hm1 := hsub _ hS.m1
  have hm2 := hsub _ hS.m2
  obtain ⟨p, n, cap, hlk, hn⟩ := hS.look1 s.1
  refine fn_of_body Try.func26 rfl rfl fun E => ?_
  simp only [argF, Try.ntmps26]
  repeat (first | (show OpsS _ _ _ _ _ _ (_ :: _) _ _ _; first | refine ozq ?_) | refine c_seq ?_ | refine p_then ?_ | refine c_region ?_ | refine s_nil ?_ | refine c_cond_t rfl ?_ | refine c_cond_f rfl ?_ | refine c_block ?_ | refine c_skip ?_ | refine p_block ?_ | refine p_block_here ?_ | refine p_block_on rfl ?_ | refine c_ret ?_ | refine p_then_ret ?_ | refine p_block_ret ?_ | refine p_end ?_ | refine c_if_t rfl (by omega) ?_ | refine c_if_f rfl (by omega) ?_)
  (first | refine t_e (e_box1 rfl rfl) rfl rfl rfl ?_ | refine t_e (e_boxA rfl) rfl rfl rfl ?_); rintro _ _ ⟨b3, _, rfl, rfl⟩
  by_cases h0 : s.2 < 0
  · have hok : okD (S.map NdS.d) s = false := by unfold okD; rw [decide_eq_false (show ¬ 0 ≤ s.2 by omega)]; rfl
    rw [hok, show atP S s = none by unfold atP; rw [hok]; rfl]
    repeat (first | (show OpsS _ _ _ _ _ _ (_ :: _) _ _ _; first | refine ozq ?_) | refine c_seq ?_ | refine p_then ?_ | refine c_region ?_ | refine s_nil ?_ | refine c_cond_t rfl ?_ | refine c_cond_f rfl ?_ | refine c_block ?_ | refine c_skip ?_ | refine p_block ?_ | refine p_block_here ?_ | refine p_block_on rfl ?_ | refine c_ret ?_ | refine p_then_ret ?_ | refine p_block_ret ?_ | refine p_end ?_ | refine c_if_t rfl (by omega) ?_ | refine c_if_f rfl (by omega) ?_)
    refine c_draw [(0, true), (1, true), (2, true), (3, true), (4, true), (5, true), (6, true), (7, true), (8, true), (9, true), (10, true), (11, true), (12, true), (13, true), (14, true), (15, true), (16, true)] [[], [0], [0, 1], [0, 1, 2], [0, 1, 2, 3], [0, 1, 2, 3, 4], [0, 1, 2, 3], [0, 1, 2, 3, 6], [0, 1, 2, 3, 6, 7], [0, 1, 2, 3, 6, 7, 8], [0, 1, 2, 3], [0, 1, 2, 3, 10], [0, 1, 2, 3, 6, 7, 8, 9, 10, 11], [0, 1, 2, 3, 6, 7, 8, 9, 10, 11, 12], [0, 1, 2, 3, 4, 5, 6, 7, 8, 9, 10, 11, 12, 13], [0, 1, 2, 3, 4, 5, 6, 7, 8, 9, 10, 11, 12, 13, 14], [0, 1, 2, 3, 4, 5, 6, 7, 8, 9, 10, 11, 12, 13, 14, 15]] _ (by kernel_rfl) (by kernel_rfl) (by (repeat (first | apply Attach.nil | (apply Attach.cons; · rfl)))) (fun _ h => h) ?_
    repeat (first | refine pl_nil ?_ | (show PlanS _ _ _ _ _ _ _ _ _ _ ((_, true, _) :: _) _ _ _; first | refine pzq ?_ | refine pzt ?_ | refine pzf ?_) | (show PlanS _ _ _ _ _ _ _ _ none [] ((_, _, _) :: _) _ _ _; first | refine pzs ?_ | refine pzs0 ?_) | (show PlanS _ _ _ _ _ _ _ _ _ _ ((_, _, _) :: _) _ _ _; first | refine pzt ?_ | refine pzf ?_) | (show PlanS _ _ _ _ _ _ _ _ none [] ((_, false, _) :: _) _ _ _; first | refine pze ?_))
    repeat (first | (show OpsS _ _ _ _ _ _ (_ :: _) _ _ _; first | refine ozq ?_) | refine c_seq ?_ | refine p_then ?_ | refine c_region ?_ | refine s_nil ?_ | refine c_cond_t rfl ?_ | refine c_cond_f rfl ?_ | refine c_block ?_ | refine c_skip ?_ | refine p_block ?_ | refine p_block_here ?_ | refine p_block_on rfl ?_ | refine c_ret ?_ | refine p_then_ret ?_ | refine p_block_ret ?_ | refine p_end ?_ | refine c_if_t rfl (by omega) ?_ | refine c_if_f rfl (by omega) ?_)
    exact k_ret [] rfl (.drop .refl) (by (repeat (first | apply ResS.nil | (apply rs_tmp; (· rfl)) | (apply rs_cell1; (· rfl); (· ((repeat (first | with_reducible apply List.mem_cons_self | with_reducible apply List.mem_cons_of_mem)); try with_reducible assumption)); (· rfl)) | (apply rs_cellA; (· rfl); (· ((repeat (first | with_reducible apply List.mem_cons_self | with_reducible apply List.mem_cons_of_mem)); try with_reducible assumption)); (· (repeat (first | with_reducible apply LSub.done | with_reducible apply LSub.take | with_reducible apply LSub.drop))))))) ⟨rfl, rfl⟩
  · repeat (first | (show OpsS _ _ _ _ _ _ (_ :: _) _ _ _; first | refine ozq ?_) | refine c_seq ?_ | refine p_then ?_ | refine c_region ?_ | refine s_nil ?_ | refine c_cond_t rfl ?_ | refine c_cond_f rfl ?_ | refine c_block ?_ | refine c_skip ?_ | refine p_block ?_ | refine p_block_here ?_ | refine p_block_on rfl ?_ | refine c_ret ?_ | refine p_then_ret ?_ | refine p_block_ret ?_ | refine p_end ?_ | refine c_if_t rfl (by omega) ?_ | refine c_if_f rfl (by omega) ?_)
    refine c_draw [(0, true), (1, true), (2, true), (3, true), (4, true), (5, true), (6, true), (7, true), (8, true), (9, true), (10, true), (11, true), (12, true), (13, true), (14, true), (15, true), (16, true)] [[], [0], [0, 1], [0, 1, 2], [0, 1, 2, 3], [0, 1, 2, 3, 4], [0, 1, 2, 3], [0, 1, 2, 3, 6], [0, 1, 2, 3, 6, 7], [0, 1, 2, 3, 6, 7, 8], [0, 1, 2, 3], [0, 1, 2, 3, 10], [0, 1, 2, 3, 6, 7, 8, 9, 10, 11], [0, 1, 2, 3, 6, 7, 8, 9, 10, 11, 12], [0, 1, 2, 3, 4, 5, 6, 7, 8, 9, 10, 11, 12, 13], [0, 1, 2, 3, 4, 5, 6, 7, 8, 9, 10, 11, 12, 13, 14], [0, 1, 2, 3, 4, 5, 6, 7, 8, 9, 10, 11, 12, 13, 14, 15]] _ (by kernel_rfl) (by kernel_rfl) (by (repeat (first | apply Attach.nil | (apply Attach.cons; · rfl)))) (fun _ h => h) ?_
    repeat (first | refine pl_nil ?_ | (show PlanS _ _ _ _ _ _ _ _ _ _ ((_, true, _) :: _) _ _ _; first | refine pzq ?_ | refine pzt ?_ | refine pzf ?_) | (show PlanS _ _ _ _ _ _ _ _ none [] ((_, _, _) :: _) _ _ _; first | refine pzs ?_ | refine pzs0 ?_) | (show PlanS _ _ _ _ _ _ _ _ _ _ ((_, _, _) :: _) _ _ _; first | refine pzt ?_ | refine pzf ?_) | (show PlanS _ _ _ _ _ _ _ _ none [] ((_, false, _) :: _) _ _ _; first | refine pze ?_))
    rw [hlk]
    repeat (first | refine pl_nil ?_ | (show PlanS _ _ _ _ _ _ _ _ _ _ ((_, true, _) :: _) _ _ _; first | refine pzq ?_ | refine pzt ?_ | refine pzf ?_) | (show PlanS _ _ _ _ _ _ _ _ none [] ((_, _, _) :: _) _ _ _; first | refine pzs ?_ | refine pzs0 ?_) | (show PlanS _ _ _ _ _ _ _ _ _ _ ((_, _, _) :: _) _ _ _; first | refine pzt ?_ | refine pzf ?_) | (show PlanS _ _ _ _ _ _ _ _ none [] ((_, false, _) :: _) _ _ _; first | refine pze ?_))
    by_cases h1 : s.2 < (n : Int)
    · have hok : okD (S.map NdS.d) s = true := by unfold okD; rw [hn, decide_eq_true (show 0 ≤ s.2 by omega), decide_eq_true h1]; rfl
      obtain ⟨nd, hf, hlen, hnd⟩ := hS.look2 s.1 hn (by omega)
      obtain ⟨k, hk⟩ : ∃ k : Nat, s.2 = (k : Nat) := ⟨s.2.toNat, by omega⟩
      rw [hok, show atP S s = some ⟨nd.gb, k * 8, none⟩ by unfold atP; rw [hok, hf, hk]; rfl]
      repeat (first | (show OpsS _ _ _ _ _ _ (_ :: _) _ _ _; first | refine ozq ?_) | refine c_seq ?_ | refine p_then ?_ | refine c_region ?_ | refine s_nil ?_ | refine c_cond_t rfl ?_ | refine c_cond_f rfl ?_ | refine c_block ?_ | refine c_skip ?_ | refine p_block ?_ | refine p_block_here ?_ | refine p_block_on rfl ?_ | refine c_ret ?_ | refine p_then_ret ?_ | refine p_block_ret ?_ | refine p_end ?_ | refine c_if_t rfl (by omega) ?_ | refine c_if_f rfl (by omega) ?_)
      refine c_draw [(0, true), (1, true), (2, true), (3, true), (4, true), (5, true), (6, true), (7, true), (8, true), (9, true), (10, true), (11, true)] [[], [0], [0, 1], [0, 1, 2], [], [4], [0, 1, 2, 3, 4, 5], [], [7], [0, 1, 2, 3, 4, 5, 6, 7, 8], [0, 1, 2, 3, 4, 5, 6, 7, 8, 9], [0, 1, 2, 3, 4, 5, 6, 7, 8, 9, 10]] _ (by kernel_rfl) (by kernel_rfl) (by (repeat (first | apply Attach.nil | (apply Attach.cons; · rfl)))) (fun _ h => h) ?_
      repeat (first | refine pl_nil ?_ | (show PlanS _ _ _ _ _ _ _ _ _ _ ((_, true, _) :: _) _ _ _; first | refine pzq ?_ | refine pzt ?_ | refine pzf ?_) | (show PlanS _ _ _ _ _ _ _ _ none [] ((_, _, _) :: _) _ _ _; first | refine pzs ?_ | refine pzs0 ?_) | (show PlanS _ _ _ _ _ _ _ _ _ _ ((_, _, _) :: _) _ _ _; first | refine pzt ?_ | refine pzf ?_) | (show PlanS _ _ _ _ _ _ _ _ none [] ((_, false, _) :: _) _ _ _; first | refine pze ?_))
      rw [hnd, hk]
      repeat (first | refine pl_nil ?_ | (show PlanS _ _ _ _ _ _ _ _ _ _ ((_, true, _) :: _) _ _ _; first | refine pzq ?_ | refine pzt ?_ | refine pzf ?_) | (show PlanS _ _ _ _ _ _ _ _ none [] ((_, _, _) :: _) _ _ _; first | refine pzs ?_ | refine pzs0 ?_) | (show PlanS _ _ _ _ _ _ _ _ _ _ ((_, _, _) :: _) _ _ _; first | refine pzt ?_ | refine pzf ?_) | (show PlanS _ _ _ _ _ _ _ _ none [] ((_, false, _) :: _) _ _ _; first | refine pze ?_))
      repeat (first | (show OpsS _ _ _ _ _ _ (_ :: _) _ _ _; first | refine ozq ?_) | refine c_seq ?_ | refine p_then ?_ | refine c_region ?_ | refine s_nil ?_ | refine c_cond_t rfl ?_ | refine c_cond_f rfl ?_ | refine c_block ?_ | refine c_skip ?_ | refine p_block ?_ | refine p_block_here ?_ | refine p_block_on rfl ?_ | refine c_ret ?_ | refine p_then_ret ?_ | refine p_block_ret ?_ | refine p_end ?_ | refine c_if_t rfl (by omega) ?_ | refine c_if_f rfl (by omega) ?_)
      exact k_ret [] rfl (.drop .refl) (by (repeat (first | apply ResS.nil | (apply rs_tmp; (· rfl)) | (apply rs_cell1; (· rfl); (· ((repeat (first | with_reducible apply List.mem_cons_self | with_reducible apply List.mem_cons_of_mem)); try with_reducible assumption)); (· rfl)) | (apply rs_cellA; (· rfl); (· ((repeat (first | with_reducible apply List.mem_cons_self | with_reducible apply List.mem_cons_of_mem)); try with_reducible assumption)); (· (repeat (first | with_reducible apply LSub.done | with_reducible apply LSub.take | with_reducible apply LSub.drop))))))) ⟨rfl, rfl⟩
    · have hok : okD (S.map NdS.d) s = false := by unfold okD; rw [hn, decide_eq_false h1]; simp
      rw [hok, show atP S s = none by unfold atP; rw [hok]; rfl]
      repeat (first | (show OpsS _ _ _ _ _ _ (_ :: _) _ _ _; first | refine ozq ?_) | refine c_seq ?_ | refine p_then ?_ | refine c_region ?_ | refine s_nil ?_ | refine c_cond_t rfl ?_ | refine c_cond_f rfl ?_ | refine c_block ?_ | refine c_skip ?_ | refine p_block ?_ | refine p_block_here ?_ | refine p_block_on rfl ?_ | refine c_ret ?_ | refine p_then_ret ?_ | refine p_block_ret ?_ | refine p_end ?_ | refine c_if_t rfl (by omega) ?_ | refine c_if_f rfl (by omega) ?_)
      exact k_ret [] rfl (.drop .refl) (by (repeat (first | apply ResS.nil | (apply rs_tmp; (· rfl)) | (apply rs_cell1; (· rfl); (· ((repeat (first | with_reducible apply List.mem_cons_self | with_reducible apply List.mem_cons_of_mem)); try with_reducible assumption)); (· rfl)) | (apply rs_cellA; (· rfl); (· ((repeat (first | with_reducible apply List.mem_cons_self | with_reducible apply List.mem_cons_of_mem)); try with_reducible assumption)); (· (repeat (first | with_reducible apply LSub.done | with_reducible apply LSub.take | with_reducible apply LSub.drop))))))) ⟨rfl, rfl⟩
theorem get_any (b : Nat) (D : SD) (lq : List Chunk) (hq : IsS b D lq) (s : slT) (l : List Chunk) (hsub : ∀ c, c ∈ lq → c ∈ l) :
    Fn Try.prog 13 [.pointer (some ⟨b, 0, none⟩), .agg (List.toArray (encT s))] l fun v l' => v = .tuple #[.agg (List.toArray (encC (getD' D s).1)), .int .i64 (getD' D s).2] ∧ l' = l := by
  obtain ⟨S, m, es, clock, rfl, hS⟩ := hq
  refine fn_of_body Try.func13 rfl rfl fun E => ?_
  simp only [argF, Try.ntmps13]
  repeat (first | (show OpsS _ _ _ _ _ _ (_ :: _) _ _ _; first | refine ozq ?_ | refine ozn ?_) | refine c_seq ?_ | refine p_then ?_ | refine c_region ?_ | refine s_nil ?_ | refine c_cond_t rfl ?_ | refine c_cond_f rfl ?_ | refine c_skip ?_ | refine c_ret ?_ | refine p_then_ret ?_ | refine p_end ?_ | refine c_if_t rfl (by omega) ?_ | refine c_if_f rfl (by omega) ?_)
  (first | refine t_e (e_box1 rfl rfl) rfl rfl rfl ?_ | refine t_e (e_boxA rfl) rfl rfl rfl ?_); rintro _ _ ⟨b3, _, rfl, rfl⟩
  repeat (first | (show OpsS _ _ _ _ _ _ (_ :: _) _ _ _; first | refine ozq ?_ | refine ozn ?_) | refine c_seq ?_ | refine p_then ?_ | refine c_region ?_ | refine s_nil ?_ | refine c_cond_t rfl ?_ | refine c_cond_f rfl ?_ | refine c_skip ?_ | refine c_ret ?_ | refine p_then_ret ?_ | refine p_end ?_ | refine c_if_t rfl (by omega) ?_ | refine c_if_f rfl (by omega) ?_)
  refine t_e e_alloc rfl rfl rfl ?_; rintro _ _ ⟨b4, _, rfl, rfl⟩
  repeat (first | (show OpsS _ _ _ _ _ _ (_ :: _) _ _ _; first | refine ozq ?_ | refine ozn ?_) | refine c_seq ?_ | refine p_then ?_ | refine c_region ?_ | refine s_nil ?_ | refine c_cond_t rfl ?_ | refine c_cond_f rfl ?_ | refine c_skip ?_ | refine c_ret ?_ | refine p_then_ret ?_ | refine p_end ?_ | refine c_if_t rfl (by omega) ?_ | refine c_if_f rfl (by omega) ?_)
  refine t_q (q_call rfl rfl fun l2 hl => at_any b _ S m clock es lq rfl hS s l2 fun c hc => hl c (.tail _ (.tail _ (hsub c hc)))) rfl rfl rfl ?_
  cases hok : okD (S.map NdS.d) s with
  | false =>
    rw [show getD' (S.map NdS.d) s = (capZ, 3) by unfold getD'; rw [hok]; rfl]
    simp only [Bool.false_eq_true, if_false]
    repeat (first | (show OpsS _ _ _ _ _ _ (_ :: _) _ _ _; first | refine ozq ?_ | refine ozn ?_) | refine c_seq ?_ | refine p_then ?_ | refine c_region ?_ | refine s_nil ?_ | refine c_cond_t rfl ?_ | refine c_cond_f rfl ?_ | refine c_skip ?_ | refine c_ret ?_ | refine p_then_ret ?_ | refine p_end ?_ | refine c_if_t rfl (by omega) ?_ | refine c_if_f rfl (by omega) ?_)
    exact k_ret2 [] (capC b4 capZ :: slC b3 s :: l) rfl (l' := l) .refl (by (repeat (first | apply ResS.nil | (apply rs_tmp; (· rfl)) | (apply rs_cell1; (· rfl); (· ((repeat (first | with_reducible apply List.mem_cons_self | with_reducible apply List.mem_cons_of_mem)); try with_reducible assumption)); (· rfl)) | (apply rs_cellA; (· rfl); (· ((repeat (first | with_reducible apply List.mem_cons_self | with_reducible apply List.mem_cons_of_mem)); try with_reducible assumption)); (· (repeat (first | with_reducible apply LSub.done | with_reducible apply LSub.take | with_reducible apply LSub.drop))))))) (.drop (.drop .refl)) ⟨rfl, rfl⟩
  | true =>
    have hok2 := hok
    unfold okD at hok2
    rw [Bool.and_eq_true, decide_eq_true_eq, decide_eq_true_eq] at hok2
    obtain ⟨p, n, cap, hlk, hn⟩ := hS.look1 s.1
    obtain ⟨nd, hf, hlen, hnd⟩ := hS.look2 s.1 hn (by omega)
    obtain ⟨k, hk⟩ : ∃ k : Nat, s.2 = (k : Nat) := ⟨s.2.toNat, by omega⟩
    obtain ⟨c, hc⟩ : ∃ c, nd.C[k]? = some c := ⟨_, List.getElem?_eq_getElem (by omega)⟩
    have hat : atD (S.map NdS.d) s = c := by
      unfold atD
      rw [find_d, hf, hk]
      show nd.C.getD k capZ = c
      rw [List.getD_eq_getElem?_getD, hc]; rfl
    rw [show atP S s = some ⟨nd.gb, k * 8, none⟩ by unfold atP; rw [hok, hf, hk]; rfl, show getD' (S.map NdS.d) s = (c, 0) by unfold getD'; rw [hok, hat]; rfl]
    simp only [if_true]
    obtain ⟨g1, g2⟩ := ccs_at hc
    have hmb : nd.blk ∈ l := hsub _ (hS.m3 (findK_some hf).1)
    repeat (first | (show OpsS _ _ _ _ _ _ (_ :: _) _ _ _; first | refine ozq ?_ | refine ozn ?_) | refine c_seq ?_ | refine p_then ?_ | refine c_region ?_ | refine s_nil ?_ | refine c_cond_t rfl ?_ | refine c_cond_f rfl ?_ | refine c_skip ?_ | refine c_ret ?_ | refine p_then_ret ?_ | refine p_end ?_ | refine c_if_t rfl (by omega) ?_ | refine c_if_f rfl (by omega) ?_)
    refine t_q (q_loadA (n := 8) rfl (.tail _ (.tail _ hmb)) g2 g1) rfl rfl rfl ?_
    repeat (first | (show OpsS _ _ _ _ _ _ (_ :: _) _ _ _; first | refine ozq ?_ | refine ozn ?_) | refine c_seq ?_ | refine p_then ?_ | refine c_region ?_ | refine s_nil ?_ | refine c_cond_t rfl ?_ | refine c_cond_f rfl ?_ | refine c_skip ?_ | refine c_ret ?_ | refine p_then_ret ?_ | refine p_end ?_ | refine c_if_t rfl (by omega) ?_ | refine c_if_f rfl (by omega) ?_)
    exact k_ret2 [] (capC b4 c :: slC b3 s :: l) rfl (l' := l) .refl (by (repeat (first | apply ResS.nil | (apply rs_tmp; (· rfl)) | (apply rs_cell1; (· rfl); (· ((repeat (first | with_reducible apply List.mem_cons_self | with_reducible apply List.mem_cons_of_mem)); try with_reducible assumption)); (· rfl)) | (apply rs_cellA; (· rfl); (· ((repeat (first | with_reducible apply List.mem_cons_self | with_reducible apply List.mem_cons_of_mem)); try with_reducible assumption)); (· (repeat (first | with_reducible apply LSub.done | with_reducible apply LSub.take | with_reducible apply LSub.drop))))))) (.drop (.drop .refl)) ⟨rfl, rfl⟩
end Go.Proofs.Ytikcekfalfllpaa
