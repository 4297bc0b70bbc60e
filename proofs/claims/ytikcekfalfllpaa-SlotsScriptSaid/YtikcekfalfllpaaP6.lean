/- Slots: Add, Drop, Set. -/
import Derived.Test.YtikcekfalfllpaaU0
import Derived.Test.YtikcekfalfllpaaP5
set_option linter.unusedVariables false
set_option linter.unusedSimpArgs false
namespace Go.Proofs.Ytikcekfalfllpaa
open Go.RowKit

theorem setFrom_mid : ∀ (us ws X Y : List Value), us.length = ws.length → setFrom (List.toArray (X ++ (us ++ Y))) X.length ws = List.toArray (X ++ (ws ++ Y))
  | [], [], X, Y, _ => rfl
  | u :: us, w :: ws, X, Y, h => by
    have h1 : (List.toArray (X ++ (u :: us ++ Y))).setIfInBounds X.length w = List.toArray ((X ++ [w]) ++ (us ++ Y)) := by
      apply Array.toList_inj.1
      rw [Array.toList_setIfInBounds]
      show (X ++ (u :: (us ++ Y))).set X.length w = _
      rw [List.set_append_right _ _ (by omega), Nat.sub_self, List.set_cons_zero]
      simp
    unfold setFrom
    rw [h1]
    have h2 := setFrom_mid us ws (X ++ [w]) Y (by simpa using h)
    rw [List.length_append] at h2
    rw [show X.length + 1 = X.length + [w].length from rfl, h2]
    simp
theorem ccs_app (A B : List CapT) : ccs (A ++ B) = ccs A ++ ccs B := List.flatMap_append
theorem ccs_zero : ∀ n : Nat, ccs (List.replicate n capZ) = (List.replicate n (encC capZ)).flatten
  | 0 => rfl
  | n + 1 => by rw [List.replicate_succ, List.replicate_succ, List.flatten_cons, ← ccs_zero n]; rfl
theorem cap_split {C : List CapT} {k : Nat} {x : CapT} (h : C[k]? = some x) : C = C.take k ++ x :: C.drop (k + 1) ∧ (C.take k).length = k := by
  have hk := (List.getElem?_eq_some_iff.1 h).1
  have h1 := List.take_append_drop k C
  rw [List.drop_eq_getElem_cons hk] at h1
  have h2 : C[k] = x := by rw [List.getElem?_eq_getElem hk] at h; exact Option.some.inj h
  rw [h2] at h1
  exact ⟨h1.symm, by rw [List.length_take]; omega⟩
theorem set_split {C : List CapT} {k : Nat} {x c : CapT} (h : C[k]? = some x) : C.set k c = C.take k ++ c :: C.drop (k + 1) := by
  obtain ⟨h1, h2⟩ := cap_split h
  conv => lhs; rw [h1]
  rw [List.set_append_right _ _ (by omega), h2, Nat.sub_self, List.set_cons_zero]
theorem set_ccs {C : List CapT} {k : Nat} {x c : CapT} (h : C[k]? = some x) : setFrom (List.toArray (ccs C)) (k * 8) (encC c) = List.toArray (ccs (C.set k c)) := by
  obtain ⟨h1, h2⟩ := cap_split h
  rw [set_split h]
  have e : ∀ y : CapT, ccs (C.take k ++ y :: C.drop (k + 1)) = ccs (C.take k) ++ (encC y ++ ccs (C.drop (k + 1))) := fun y => by
    rw [ccs_app]; rfl
  have hl : (ccs (C.take k)).length = k * 8 := by rw [ccs_l, h2]
  rw [e c, ← hl]
  conv => lhs; rw [show ccs C = ccs (C.take k) ++ (encC x ++ ccs (C.drop (k + 1))) by rw [← e x, ← h1]]
  exact setFrom_mid _ _ _ _ rfl
theorem ins_perm {α : Type} {key : α → Int} (S : List α) (x : α) : (insK key S x).Perm (x :: S) := by
  unfold insK
  refine List.perm_middle.trans (List.Perm.cons x ?_)
  rw [List.takeWhile_append_dropWhile]
theorem mem_ins {α : Type} {key : α → Int} {S : List α} {x y : α} : y ∈ insK key S x ↔ y = x ∨ y ∈ S := by rw [(ins_perm S x).mem_iff]; simp
def dropN (D : SD) (a : Int) : Int × SD := match findK Prod.fst D a with
  | none => (2, D)
  | some x => if x.2.all (fun c => eqC c capZ) = true then (0, D.filter fun x => decide (x.1 ≠ a)) else (16, D)
def putD (D : SD) (s : slT) (c : CapT) : SD := D.map fun x => if x.1 = s.1 then (x.1, x.2.set s.2.toNat c) else x
def setD (D : SD) (s : slT) (c : CapT) : Int × SD := if okD D s = true then (if mayC c = true then (0, putD D s c) else (5, D)) else (3, D)
set_option pp.deepTerms false
set_option pp.deepTerms.threshold 4
set_option maxHeartbeats 400000
theorem add_any (b : Nat) (D : SD) (lq : List Chunk) (hq : IsS b D lq) (id n : Int) (G : List Chunk) :
    Fn Try.prog 9 [.pointer (some ⟨b, 0, none⟩), .int .i64 id, .int .i64 n] (lq ++ G) fun v l' => v = .int .i64 (addN D id n).1 ∧ ∃ lq', IsS b (addN D id n).2 lq' ∧ l' = lq' ++ G := by
  have hq0 := hq
  obtain ⟨S, m, es, clock, rfl, hS⟩ := hq
  have hm1 : xC b m ∈ lq ++ G := List.mem_append_left _ hS.m1
  have hm2 : (m, mapO .i64 es clock) ∈ lq ++ G := List.mem_append_left _ hS.m2
  refine fn_of_body Try.func9 rfl rfl fun E => ?_
  simp only [argF, Try.ntmps9]
  by_cases h1 : id < 1
  · rw [show addN (S.map NdS.d) id n = (2, S.map NdS.d) by unfold addN; rw [if_pos (.inl h1)]]
    repeat (first | (show OpsS _ _ _ _ _ _ (_ :: _) _ _ _; first | refine ozq ?_ | refine ozs ?_ | refine ozs0 ?_ | refine ozt ?_ | refine ozf ?_) | refine c_seq ?_ | refine p_then ?_ | refine c_region ?_ | refine s_nil ?_ | refine c_cond_t rfl ?_ | refine c_cond_f rfl ?_ | refine c_block ?_ | refine c_skip ?_ | refine p_block ?_ | refine p_block_here ?_ | refine p_block_on rfl ?_ | refine c_ret ?_ | refine p_then_ret ?_ | refine p_block_ret ?_ | refine p_end ?_ | refine c_if_t rfl (by omega) ?_ | refine c_if_f rfl (by omega) ?_)
    exact k_ret [] rfl .refl (by (repeat (first | apply ResS.nil | (apply rs_tmp; (· rfl)) | (apply rs_cell1; (· rfl); (· ((repeat (first | with_reducible apply List.mem_cons_self | with_reducible apply List.mem_cons_of_mem)); try with_reducible assumption)); (· rfl)) | (apply rs_cellA; (· rfl); (· ((repeat (first | with_reducible apply List.mem_cons_self | with_reducible apply List.mem_cons_of_mem)); try with_reducible assumption)); (· (repeat (first | with_reducible apply LSub.done | with_reducible apply LSub.take | with_reducible apply LSub.drop))))))) ⟨rfl, _, hq0, rfl⟩
  by_cases h2 : n < 1
  · rw [show addN (S.map NdS.d) id n = (2, S.map NdS.d) by unfold addN; rw [if_pos (.inr (.inl h2))]]
    repeat (first | (show OpsS _ _ _ _ _ _ (_ :: _) _ _ _; first | refine ozq ?_ | refine ozs ?_ | refine ozs0 ?_ | refine ozt ?_ | refine ozf ?_) | refine c_seq ?_ | refine p_then ?_ | refine c_region ?_ | refine s_nil ?_ | refine c_cond_t rfl ?_ | refine c_cond_f rfl ?_ | refine c_block ?_ | refine c_skip ?_ | refine p_block ?_ | refine p_block_here ?_ | refine p_block_on rfl ?_ | refine c_ret ?_ | refine p_then_ret ?_ | refine p_block_ret ?_ | refine p_end ?_ | refine c_if_t rfl (by omega) ?_ | refine c_if_f rfl (by omega) ?_)
    exact k_ret [] rfl .refl (by (repeat (first | apply ResS.nil | (apply rs_tmp; (· rfl)) | (apply rs_cell1; (· rfl); (· ((repeat (first | with_reducible apply List.mem_cons_self | with_reducible apply List.mem_cons_of_mem)); try with_reducible assumption)); (· rfl)) | (apply rs_cellA; (· rfl); (· ((repeat (first | with_reducible apply List.mem_cons_self | with_reducible apply List.mem_cons_of_mem)); try with_reducible assumption)); (· (repeat (first | with_reducible apply LSub.done | with_reducible apply LSub.take | with_reducible apply LSub.drop))))))) ⟨rfl, _, hq0, rfl⟩
  by_cases h3 : 16 < n
  · rw [show addN (S.map NdS.d) id n = (2, S.map NdS.d) by unfold addN; rw [if_pos (.inr (.inr h3))]]
    repeat (first | (show OpsS _ _ _ _ _ _ (_ :: _) _ _ _; first | refine ozq ?_ | refine ozs ?_ | refine ozs0 ?_ | refine ozt ?_ | refine ozf ?_) | refine c_seq ?_ | refine p_then ?_ | refine c_region ?_ | refine s_nil ?_ | refine c_cond_t rfl ?_ | refine c_cond_f rfl ?_ | refine c_block ?_ | refine c_skip ?_ | refine p_block ?_ | refine p_block_here ?_ | refine p_block_on rfl ?_ | refine c_ret ?_ | refine p_then_ret ?_ | refine p_block_ret ?_ | refine p_end ?_ | refine c_if_t rfl (by omega) ?_ | refine c_if_f rfl (by omega) ?_)
    exact k_ret [] rfl .refl (by (repeat (first | apply ResS.nil | (apply rs_tmp; (· rfl)) | (apply rs_cell1; (· rfl); (· ((repeat (first | with_reducible apply List.mem_cons_self | with_reducible apply List.mem_cons_of_mem)); try with_reducible assumption)); (· rfl)) | (apply rs_cellA; (· rfl); (· ((repeat (first | with_reducible apply List.mem_cons_self | with_reducible apply List.mem_cons_of_mem)); try with_reducible assumption)); (· (repeat (first | with_reducible apply LSub.done | with_reducible apply LSub.take | with_reducible apply LSub.drop))))))) ⟨rfl, _, hq0, rfl⟩
  have h123 : ¬ (id < 1 ∨ n < 1 ∨ 16 < n) := by omega
  obtain ⟨k, rfl⟩ : ∃ k : Nat, n = (k : Nat) := ⟨n.toNat, by omega⟩
  obtain ⟨p, n0, cap, hlk, hn0⟩ := hS.look1 id
  cases hf : findK NdS.id S id with
  | some nd =>
    rw [show addN (S.map NdS.d) id (k : Nat) = (11, S.map NdS.d) by unfold addN; rw [if_neg h123, find_d, hf]; rfl]
    have hpos : 0 < n0 := by
      unfold sizeD at hn0
      rw [find_d, hf] at hn0
      have := (hS.sz nd (findK_some hf).1).1
      simp at hn0; omega
    repeat (first | (show OpsS _ _ _ _ _ _ (_ :: _) _ _ _; first | refine ozq ?_ | refine ozs ?_ | refine ozs0 ?_ | refine ozt ?_ | refine ozf ?_) | refine c_seq ?_ | refine p_then ?_ | refine c_region ?_ | refine s_nil ?_ | refine c_cond_t rfl ?_ | refine c_cond_f rfl ?_ | refine c_block ?_ | refine c_skip ?_ | refine p_block ?_ | refine p_block_here ?_ | refine p_block_on rfl ?_ | refine c_ret ?_ | refine p_then_ret ?_ | refine p_block_ret ?_ | refine p_end ?_ | refine c_if_t rfl (by omega) ?_ | refine c_if_f rfl (by omega) ?_)
    rw [hlk]
    repeat (first | (show OpsS _ _ _ _ _ _ (_ :: _) _ _ _; first | refine ozq ?_ | refine ozs ?_ | refine ozs0 ?_ | refine ozt ?_ | refine ozf ?_) | refine c_seq ?_ | refine p_then ?_ | refine c_region ?_ | refine s_nil ?_ | refine c_cond_t rfl ?_ | refine c_cond_f rfl ?_ | refine c_block ?_ | refine c_skip ?_ | refine p_block ?_ | refine p_block_here ?_ | refine p_block_on rfl ?_ | refine c_ret ?_ | refine p_then_ret ?_ | refine p_block_ret ?_ | refine p_end ?_ | refine c_if_t rfl (by omega) ?_ | refine c_if_f rfl (by omega) ?_)
    exact k_ret [] rfl .refl (by (repeat (first | apply ResS.nil | (apply rs_tmp; (· rfl)) | (apply rs_cell1; (· rfl); (· ((repeat (first | with_reducible apply List.mem_cons_self | with_reducible apply List.mem_cons_of_mem)); try with_reducible assumption)); (· rfl)) | (apply rs_cellA; (· rfl); (· ((repeat (first | with_reducible apply List.mem_cons_self | with_reducible apply List.mem_cons_of_mem)); try with_reducible assumption)); (· (repeat (first | with_reducible apply LSub.done | with_reducible apply LSub.take | with_reducible apply LSub.drop))))))) ⟨rfl, _, hq0, rfl⟩
  | none =>
    rw [show addN (S.map NdS.d) id (k : Nat) = (0, insK Prod.fst (S.map NdS.d) (id, List.replicate k capZ)) by unfold addN; rw [if_neg h123, find_d, hf]; rfl]
    have hz : n0 = 0 := by
      unfold sizeD at hn0
      rw [find_d, hf] at hn0
      simp at hn0; omega
    repeat (first | (show OpsS _ _ _ _ _ _ (_ :: _) _ _ _; first | refine ozq ?_ | refine ozs ?_ | refine ozs0 ?_ | refine ozt ?_ | refine ozf ?_) | refine c_seq ?_ | refine p_then ?_ | refine c_region ?_ | refine s_nil ?_ | refine c_cond_t rfl ?_ | refine c_cond_f rfl ?_ | refine c_block ?_ | refine c_skip ?_ | refine p_block ?_ | refine p_block_here ?_ | refine p_block_on rfl ?_ | refine c_ret ?_ | refine p_then_ret ?_ | refine p_block_ret ?_ | refine p_end ?_ | refine c_if_t rfl (by omega) ?_ | refine c_if_f rfl (by omega) ?_)
    rw [hlk]
    repeat (first | (show OpsS _ _ _ _ _ _ (_ :: _) _ _ _; first | refine ozq ?_ | refine ozs ?_ | refine ozs0 ?_ | refine ozt ?_ | refine ozf ?_) | refine c_seq ?_ | refine p_then ?_ | refine c_region ?_ | refine s_nil ?_ | refine c_cond_t rfl ?_ | refine c_cond_f rfl ?_ | refine c_block ?_ | refine c_skip ?_ | refine p_block ?_ | refine p_block_here ?_ | refine p_block_on rfl ?_ | refine c_ret ?_ | refine p_then_ret ?_ | refine p_block_ret ?_ | refine p_end ?_ | refine c_if_t rfl (by omega) ?_ | refine c_if_f rfl (by omega) ?_)
    refine c_draw [(0, true), (1, true), (2, true), (3, true), (4, true), (5, true), (6, false), (7, false)] [[], [0], [0, 1], [0, 1, 2], [], [], [5], [0, 1, 2, 3, 4, 5, 6]] ([xC b m]) (by kernel_rfl) (by kernel_rfl) (by (repeat (first | apply Attach.nil | (apply Attach.cons; · rfl)))) (sing_mem hm1) ?_
    repeat (first | refine pl_nil ?_ | (show PlanS _ _ _ _ _ _ _ _ _ _ ((_, true, _) :: _) _ _ _; first | refine pzq ?_) | (show PlanS _ _ _ _ _ _ _ _ none [] ((_, false, _) :: _) _ _ _; first | refine pze ?_))
    apply pl_e
    · exact e_makeSlice (n := k) (kk := 8) (xs := ccs (List.replicate k capZ)) rfl rfl (by omega) (by omega) (by decide) (ccs_zero k)
    · rfl
    · rfl
    · rfl
    · rintro _ _ ⟨gb, _, _, rfl⟩ c hc
      rw [List.mem_singleton.1 hc]; exact .tail _ hm1
    rintro _ _ ⟨gb, hgb, rfl, rfl⟩
    repeat (first | refine pl_nil ?_ | (show PlanS _ _ _ _ _ _ _ _ _ _ ((_, true, _) :: _) _ _ _; first | refine pzq ?_) | (show PlanS _ _ _ _ _ _ _ _ none [] ((_, false, _) :: _) _ _ _; first | refine pze ?_))
    obtain ⟨nd, hnd⟩ : ∃ nd : NdS, nd = ⟨id, List.replicate k capZ, gb⟩ := ⟨_, rfl⟩
    have hvl : NdS.val nd = .slice (some ⟨gb, 0, none⟩) k k := by rw [hnd]; simp [NdS.val]
    rw [hS.eq]
    simp only [List.cons_append]
    apply pl_n
    · exact e_mapUpdate (a := id) (es := es) (clock := clock) rfl rfl rfl (.there (.there .here))
    · rfl
    · rfl
    · rintro _ _ ⟨rfl, rfl⟩ c hc
      rw [List.mem_singleton.1 hc]; exact .tail _ (.head _)
    rintro _ _ ⟨rfl, rfl⟩
    repeat (first | refine pl_nil ?_ | (show PlanS _ _ _ _ _ _ _ _ _ _ ((_, true, _) :: _) _ _ _; first | refine pzq ?_) | (show PlanS _ _ _ _ _ _ _ _ none [] ((_, false, _) :: _) _ _ _; first | refine pze ?_))
    repeat (first | (show OpsS _ _ _ _ _ _ (_ :: _) _ _ _; first | refine ozq ?_ | refine ozs ?_ | refine ozs0 ?_ | refine ozt ?_ | refine ozf ?_) | refine c_seq ?_ | refine p_then ?_ | refine c_region ?_ | refine s_nil ?_ | refine c_cond_t rfl ?_ | refine c_cond_f rfl ?_ | refine c_block ?_ | refine c_skip ?_ | refine p_block ?_ | refine p_block_here ?_ | refine p_block_on rfl ?_ | refine c_ret ?_ | refine p_then_ret ?_ | refine p_block_ret ?_ | refine p_end ?_ | refine c_if_t rfl (by omega) ?_ | refine c_if_f rfl (by omega) ?_)
    have hMB := hS.mb.add (t := nd) (by rw [hnd]; exact hf)
    rw [hvl, show nd.id = id by rw [hnd]] at hMB
    refine k_ret [] rfl (l' := (xC b m :: (m, mapO .i64 (setE id (.slice (some ⟨gb, 0, none⟩) k k) clock es).1 (setE id (.slice (some ⟨gb, 0, none⟩) k k) clock es).2) :: (insK NdS.id S nd).map NdS.blk) ++ G) ?_ (by (repeat (first | apply ResS.nil | (apply rs_tmp; (· rfl)) | (apply rs_cell1; (· rfl); (· ((repeat (first | with_reducible apply List.mem_cons_self | with_reducible apply List.mem_cons_of_mem)); try with_reducible assumption)); (· rfl)) | (apply rs_cellA; (· rfl); (· ((repeat (first | with_reducible apply List.mem_cons_self | with_reducible apply List.mem_cons_of_mem)); try with_reducible assumption)); (· (repeat (first | with_reducible apply LSub.done | with_reducible apply LSub.take | with_reducible apply LSub.drop))))))) ⟨rfl, _, ⟨insK NdS.id S nd, m, _, _, ?_, rfl, hMB, ?_⟩, rfl⟩
    · have hp : ((insK NdS.id S nd).map NdS.blk ++ G).Perm (nd.blk :: (S.map NdS.blk ++ G)) := ((ins_perm S nd).map _).append_right G
      refine Keep.of_perm ?_
      have hb : (gb, Obj.cells (List.toArray (ccs (List.replicate k capZ))) 34 (0, 0)) = nd.blk := by rw [hnd]
      rw [hb]
      exact (List.Perm.trans (List.Perm.swap _ _ _) (((List.Perm.swap _ _ _).trans (hp.symm.cons _)).cons _))
    · rw [ins_map (key' := Prod.fst) (fun x => rfl), hnd]
    · intro x hx
      rcases mem_ins.1 hx with rfl | hx
      · rw [hnd]; simp; omega
      · exact hS.sz x hx
end Go.Proofs.Ytikcekfalfllpaa
