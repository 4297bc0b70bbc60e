/- Chapter 15's own answer: Used. -/
import Derived.Test.YtikcekfalfllpaaU0
import Derived.Test.YtikcekfalfllpaaP16
set_option linter.unusedVariables false
set_option linter.unusedSimpArgs false
namespace Go.Proofs.Ytikcekfalfllpaa
open Go.RowKit

theorem encE_ones (t : HdT) : ∀ u ∈ encE t, u.oneCell' = true := by simp [Value.oneCell']
theorem eqC_zero {c : CapT} (h : c.kind ≠ 0) : eqC c capZ = false := by
  cases he : eqC c capZ with
  | false => rfl
  | true => exact absurd (by
      have : c = capZ := by simpa [eqC_iff] using he
      rw [this]) h
theorem ext_at {xs : Array Value} {o k j : Nat} {ys : List Value} {v : Value} (h : xs.extract o (o + k) = List.toArray ys) (hle : o + k ≤ xs.size) (hj : j < k) (hv : ys[j]? = some v) : xs[o + j]? = some v := by
  have h2 : (List.toArray ys)[j]? = ys[j]? := by simp
  rw [← hv, ← h2, ← h, Array.getElem?_extract, if_pos (by omega)]
set_option pp.deepTerms false
set_option pp.deepTerms.threshold 4
set_option maxHeartbeats 400000
theorem rused_any (b : Nat) (D : SD) (lr : List Chunk) (hr : IsR b D lr) (hn : D.length ≤ 50000) (hV : ValD D) (l : List Chunk) (hsub : ∀ c, c ∈ lr → c ∈ l) :
    Fn Try.prog 21 [.pointer (some ⟨b, 0, none⟩)] l fun v l' => ∃ cs, OwnSl 56 10 v (usedD D).length (hcs (usedD D)) cs ∧ l' = cs ++ l := by
  obtain ⟨S, v0, cs0, rfl, hS⟩ := hr
  have hn2 : S.length ≤ 50000 := by simpa using hn
  have hU := usedD_len (D := S.map NdS.d) fun x hx => by
    obtain ⟨nd, hnd, rfl⟩ := List.mem_map.1 hx
    exact (hS.sz nd hnd).2
  obtain ⟨p, cap, rfl, hm, hR⟩ := hS.view hsub
  refine fn_of_body Try.func21 rfl rfl fun E => ?_
  simp only [argF, Try.ntmps21]
  repeat (first | (show OpsS _ _ _ _ _ _ (_ :: _) _ _ _; first | refine ozq ?_) | refine c_seq ?_ | refine p_then ?_ | refine c_region ?_ | refine s_nil ?_ | refine c_cond_t rfl ?_ | refine c_cond_f rfl ?_ | refine c_block ?_ | refine c_skip ?_ | refine c_exit ?_ | refine p_block ?_ | refine p_then_exit ?_ | refine p_block_here ?_ | refine p_block_on rfl ?_ | refine c_ret ?_ | refine p_then_ret ?_ | refine p_block_ret ?_ | refine p_end ?_ | refine c_if_t rfl (by omega) ?_ | refine c_if_f rfl (by omega) ?_)
  refine k_loop (α := Nat × Value × List Chunk) (fun x => [(0, .pointer (some ⟨b, 0, none⟩)), (3, x.2.1), (4, .int .i64 x.1)]) (fun x => x.2.2 ++ l) (fun x => x.1 ≤ S.length ∧ OwnSl 56 10 x.2.1 (usedD ((S.map NdS.d).take x.1)).length (hcs (usedD ((S.map NdS.d).take x.1))) x.2.2) (fun x => S.length - x.1) (0, .slice none 0 0, []) ⟨Nat.zero_le _, OwnSl.nil _ _⟩ ⟨rfl, rfl, rfl, trivial⟩ .refl ?_
  rintro ⟨i, w, cv⟩ ⟨hi, hw⟩
  simp only at hi hw ⊢
  have hm3 : rxC b (.slice p S.length cap) ∈ cv ++ l := List.mem_append_right _ hm
  by_cases hlt : i < S.length
  · obtain ⟨bB, off, xs, ty, fz, rfl, hmr, hc⟩ := hR (by omega)
    obtain ⟨nd, hx⟩ : ∃ nd, S[i]? = some nd := ⟨_, List.getElem?_eq_getElem hlt⟩
    have hmem := List.mem_of_getElem? hx
    obtain ⟨g0, g1, g2, g3⟩ := hc i nd hx
    have hsz := hS.sz nd hmem
    have hdi : (S.map NdS.d)[i]? = some nd.d := by rw [List.getElem?_map, hx]; rfl
    repeat (first | (show OpsS _ _ _ _ _ _ (_ :: _) _ _ _; first | refine ozq ?_) | refine c_seq ?_ | refine p_then ?_ | refine c_region ?_ | refine s_nil ?_ | refine c_cond_t rfl ?_ | refine c_cond_f rfl ?_ | refine c_block ?_ | refine c_skip ?_ | refine c_exit ?_ | refine p_block ?_ | refine p_then_exit ?_ | refine p_block_here ?_ | refine p_block_on rfl ?_ | refine c_ret ?_ | refine p_then_ret ?_ | refine p_block_ret ?_ | refine p_end ?_ | refine c_if_t rfl (by omega) ?_ | refine c_if_f rfl (by omega) ?_)
    refine k_loop (α := Nat × Value × List Chunk) (fun x => [(0, .pointer (some ⟨b, 0, none⟩)), (3, x.2.1), (4, .int .i64 i), (5, .int .i64 x.1)]) (fun x => x.2.2 ++ l) (fun x => x.1 ≤ nd.C.length ∧ OwnSl 56 10 x.2.1 (usedD ((S.map NdS.d).take i) ++ usedTo nd.id nd.C x.1).length (hcs (usedD ((S.map NdS.d).take i) ++ usedTo nd.id nd.C x.1)) x.2.2) (fun x => nd.C.length - x.1) (0, w, cv) ⟨Nat.zero_le _, by show OwnSl _ _ _ (_ ++ []).length (hcs (_ ++ [])) _; rw [List.append_nil]; exact hw⟩ ⟨rfl, rfl, rfl, rfl, trivial⟩ .refl ?_
    clear hw hm3
    rintro ⟨k, w, cv⟩ ⟨hk, hw⟩
    simp only at hk hw ⊢
    have hm3 : rxC b (.slice (some ⟨bB, off, none⟩) S.length cap) ∈ cv ++ l := List.mem_append_right _ hm
    have hmr5 : (bB, Obj.cells xs ty fz) ∈ cv ++ l := List.mem_append_right _ hmr
    have hml : nd.blk ∈ l := hsub _ (hS.m3 hmem)
    have hmb : nd.blk ∈ cv ++ l := List.mem_append_right _ hml
    by_cases hkl : k < nd.C.length
    · obtain ⟨c, hcc⟩ : ∃ c, nd.C[k]? = some c := ⟨_, List.getElem?_eq_getElem hkl⟩
      obtain ⟨q1, q2⟩ := ccs_at hcc
      have q3 : (List.toArray (ccs nd.C))[k * 8]? = some (.int .i64 c.kind) := ext_at (j := 0) (k := 8) q1 q2 (by omega) rfl
      by_cases hk0 : c.kind = 0
      · have he : eqC c capZ = true := by rw [hV _ (List.mem_map.2 ⟨nd, hmem, rfl⟩) c (List.mem_of_getElem? hcc) hk0]; decide
        repeat (first | (show OpsS _ _ _ _ _ _ (_ :: _) _ _ _; first | refine ozq ?_) | refine c_seq ?_ | refine p_then ?_ | refine c_region ?_ | refine s_nil ?_ | refine c_cond_t rfl ?_ | refine c_cond_f rfl ?_ | refine c_block ?_ | refine c_skip ?_ | refine c_exit ?_ | refine p_block ?_ | refine p_then_exit ?_ | refine p_block_here ?_ | refine p_block_on rfl ?_ | refine c_ret ?_ | refine p_then_ret ?_ | refine p_block_ret ?_ | refine p_end ?_ | refine c_if_t rfl (by omega) ?_ | refine c_if_f rfl (by omega) ?_)
        exact k_next (k + 1, w, cv) ⟨by simp only; omega, by simp only; rw [usedTo_f hcc he]; exact hw⟩ (by simp only; omega) ⟨rfl, rfl, rfl, rfl, trivial⟩ .refl
      · have he := eqC_zero hk0
        have hpre : (usedD ((S.map NdS.d).take i) ++ usedTo nd.id nd.C k) ++ [((nd.id, ((k : Nat) : Int)), c)] <+: usedD (S.map NdS.d) := by
          rw [List.append_assoc, ← usedTo_t hcc he]
          exact usedD_pre hdi (by show k + 1 ≤ nd.C.length; omega)
        have hll := hpre.length_le
        rw [List.length_append, List.length_singleton] at hll
        repeat (first | (show OpsS _ _ _ _ _ _ (_ :: _) _ _ _; first | refine ozq ?_) | refine c_seq ?_ | refine p_then ?_ | refine c_region ?_ | refine s_nil ?_ | refine c_cond_t rfl ?_ | refine c_cond_f rfl ?_ | refine c_block ?_ | refine c_skip ?_ | refine c_exit ?_ | refine p_block ?_ | refine p_then_exit ?_ | refine p_block_here ?_ | refine p_block_on rfl ?_ | refine c_ret ?_ | refine p_then_ret ?_ | refine p_block_ret ?_ | refine p_end ?_ | refine c_if_t rfl (by omega) ?_ | refine c_if_f rfl (by omega) ?_)
        refine c_draw [(0, true), (1, true), (2, true), (3, true), (4, true), (5, true), (6, true), (7, true), (8, true), (9, true), (10, true), (11, true), (12, true), (13, true), (14, true), (15, true), (16, true), (17, true), (18, true), (19, true), (20, true), (21, true), (22, true), (23, false), (24, false), (25, true)] [[], [], [1], [1, 2], [1, 2, 3], [], [1, 2, 3, 4, 5], [1, 2, 3, 4, 5, 6], [1, 2, 3, 4, 5, 6, 7], [], [1, 2, 3, 4, 5, 6, 7, 8, 9], [], [11], [11, 12], [11, 12, 13], [], [11, 12, 13, 14, 15], [11, 12, 13, 14, 15, 16], [11, 12, 13, 14, 15, 16, 17], [], [11, 12, 13, 14, 15, 16, 17, 18, 19], [11, 12, 13, 14, 15, 16, 17, 18, 19, 20], [1, 2, 3, 4, 5, 6, 7, 8, 9, 10, 11, 12, 13, 14, 15, 16, 17, 18, 19, 20, 21], [1, 2, 3, 4, 5, 6, 7, 8, 9, 10, 11, 12, 13, 14, 15, 16, 17, 18, 19, 20, 21, 22], [0, 1, 2, 3, 4, 5, 6, 7, 8, 9, 10, 11, 12, 13, 14, 15, 16, 17, 18, 19, 20, 21, 22, 23], [0, 1, 2, 3, 4, 5, 6, 7, 8, 9, 10, 11, 12, 13, 14, 15, 16, 17, 18, 19, 20, 21, 22, 23, 24]] (l) (by kernel_rfl) (by kernel_rfl) (by (repeat (first | apply Attach.nil | (apply Attach.cons; · rfl)))) (fun c hc => List.mem_append_right _ hc) ?_
        repeat (first | refine pl_nil ?_ | (show PlanS _ _ _ _ _ _ _ _ _ _ ((_, true, _) :: _) _ _ _; first | refine pzq ?_) | (show PlanS _ _ _ _ _ _ _ _ none [] ((_, false, _) :: _) _ _ _; first | refine pze ?_))
        refine pl_h (q_loadA (n := 8) rfl hml q2 q1) rfl rfl rfl ?_
        repeat (first | refine pl_nil ?_ | (show PlanS _ _ _ _ _ _ _ _ _ _ ((_, true, _) :: _) _ _ _; first | refine pzq ?_) | (show PlanS _ _ _ _ _ _ _ _ none [] ((_, false, _) :: _) _ _ _; first | refine pze ?_))
        apply pl_e
        · exact e_litA (k := 10) (e := 56) (ws := encE ((nd.id, ((k : Nat) : Int)), c)) rfl rfl rfl (by decide) (by decide)
        · rfl
        · rfl
        · rfl
        · rintro _ _ ⟨_, _, _, rfl⟩ x hx; exact .tail _ (List.mem_append_right _ hx)
        rintro _ _ ⟨bl, _, rfl, rfl⟩
        repeat (first | refine pl_nil ?_ | (show PlanS _ _ _ _ _ _ _ _ _ _ ((_, true, _) :: _) _ _ _; first | refine pzq ?_) | (show PlanS _ _ _ _ _ _ _ _ none [] ((_, false, _) :: _) _ _ _; first | refine pze ?_))
        apply pl_e
        · exact e_appX (k := 10) (X := []) (cs := cv) (F := l) (xs := hcs (usedD ((S.map NdS.d).take i) ++ usedTo nd.id nd.C k)) (n := (usedD ((S.map NdS.d).take i) ++ usedTo nd.id nd.C k).length) (ws := encE ((nd.id, ((k : Nat) : Int)), c)) rfl rfl rfl hw rfl (encE_ones _) (by omega) (by decide)
        · rfl
        · rfl
        · rfl
        · rintro _ _ ⟨_, _, rfl⟩ x hx; exact List.mem_append_right _ (List.mem_append_right _ hx)
        rintro w2 _ ⟨cv2, hw2, rfl⟩
        have hw9 : w2.oneCell' = true := hw2.one
        repeat (first | refine pl_nil ?_ | (show PlanS _ _ _ _ _ _ _ _ _ _ ((_, true, _) :: _) _ _ _; first | refine pzq ?_) | (show PlanS _ _ _ _ _ _ _ _ none [] ((_, false, _) :: _) _ _ _; first | refine pze ?_))
        repeat (first | (show OpsS _ _ _ _ _ _ (_ :: _) _ _ _; first | refine ozq ?_) | refine c_seq ?_ | refine p_then ?_ | refine c_region ?_ | refine s_nil ?_ | refine c_cond_t rfl ?_ | refine c_cond_f rfl ?_ | refine c_block ?_ | refine c_skip ?_ | refine c_exit ?_ | refine p_block ?_ | refine p_then_exit ?_ | refine p_block_here ?_ | refine p_block_on rfl ?_ | refine c_ret ?_ | refine p_then_ret ?_ | refine p_block_ret ?_ | refine p_end ?_ | refine c_if_t rfl (by omega) ?_ | refine c_if_f rfl (by omega) ?_)
        refine k_next (k + 1, w2, cv2) ⟨by simp only; omega, ?_⟩ (by simp only; omega) ⟨rfl, rfl, rfl, rfl, trivial⟩ .refl
        simp only
        rw [usedTo_t hcc he, ← List.append_assoc, hcs_snoc, List.length_append, List.length_singleton]; exact hw2
    · obtain rfl : k = nd.C.length := by omega
      repeat (first | (show OpsS _ _ _ _ _ _ (_ :: _) _ _ _; first | refine ozq ?_) | refine c_seq ?_ | refine p_then ?_ | refine c_region ?_ | refine s_nil ?_ | refine c_cond_t rfl ?_ | refine c_cond_f rfl ?_ | refine c_block ?_ | refine c_skip ?_ | refine c_exit ?_ | refine p_block ?_ | refine p_then_exit ?_ | refine p_block_here ?_ | refine p_block_on rfl ?_ | refine c_ret ?_ | refine p_then_ret ?_ | refine p_block_ret ?_ | refine p_end ?_ | refine c_if_t rfl (by omega) ?_ | refine c_if_f rfl (by omega) ?_)
      refine k_next (i + 1, w, cv) ⟨by simp only; omega, ?_⟩ (by simp only; omega) ⟨rfl, rfl, rfl, trivial⟩ .refl
      simp only
      rw [List.take_add_one, hdi, usedD_app]
      rw [show usedD (some nd.d).toList = usedTo nd.id nd.C nd.C.length by simp [usedD]]
      exact hw
  · obtain rfl : i = S.length := by omega
    rw [show (S.map NdS.d).take S.length = S.map NdS.d from List.take_of_length_le (by simp)] at hw
    have hw1 : w.oneCell' = true := hw.one
    repeat (first | (show OpsS _ _ _ _ _ _ (_ :: _) _ _ _; first | refine ozq ?_) | refine c_seq ?_ | refine p_then ?_ | refine c_region ?_ | refine s_nil ?_ | refine c_cond_t rfl ?_ | refine c_cond_f rfl ?_ | refine c_block ?_ | refine c_skip ?_ | refine c_exit ?_ | refine p_block ?_ | refine p_then_exit ?_ | refine p_block_here ?_ | refine p_block_on rfl ?_ | refine c_ret ?_ | refine p_then_ret ?_ | refine p_block_ret ?_ | refine p_end ?_ | refine c_if_t rfl (by omega) ?_ | refine c_if_f rfl (by omega) ?_)
    refine k_ret [] rfl (l' := cv ++ l) .refl (by (repeat (first | apply ResS.nil | (apply rs_tmp; (· rfl)) | (apply rs_cell1; (· rfl); (· ((repeat (first | with_reducible apply List.mem_cons_self | with_reducible apply List.mem_cons_of_mem)); try with_reducible assumption)); (· rfl)) | (apply rs_cellA; (· rfl); (· ((repeat (first | with_reducible apply List.mem_cons_self | with_reducible apply List.mem_cons_of_mem)); try with_reducible assumption)); (· (repeat (first | with_reducible apply LSub.done | with_reducible apply LSub.take | with_reducible apply LSub.drop))))))) ?_
    exact ⟨cv, hw, rfl⟩
end Go.Proofs.Ytikcekfalfllpaa
