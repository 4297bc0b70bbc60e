/- TreeRebuilt: the walk. -/
import Derived.Test.YtidkpfkkljcnaaaU0
import Derived.Test.YtidkpfkkljcnaaaJ16
set_option linter.unusedVariables false
set_option linter.unusedSimpArgs false
namespace Go.Proofs.Ytidkpfkkljcnaaa
open Go.RowKit

set_option pp.deepTerms false
set_option pp.deepTerms.threshold 4
set_option maxHeartbeats 400000
theorem treeRebuilt_any (a0 : Option Addr) (n cap : Nat) (acts : List ActT) (l : List Chunk) (hin : InRows l a0 n 5 (acts.map encA)) (hsz : acts.length = n) :
    Fn Try.prog 5 [.slice a0 n cap] l fun v l' => v = .bool true ∧ ∃ c, l' = c ++ l := by
  refine fn_of_body Try.func5 rfl rfl fun E => ?_
  simp only [argF, Try.ntmps5]
  repeat (first | (show OpsS _ _ _ _ _ _ (_ :: _) _ _ _; first | refine ozq ?_ | refine ozs ?_ | refine ozs0 ?_ | refine ozt ?_ | refine ozf ?_) | refine c_seq ?_ | refine p_then ?_ | refine c_region ?_ | refine s_nil ?_ | refine c_cond_t rfl ?_ | refine c_cond_f rfl ?_ | refine c_block ?_ | refine c_skip ?_ | refine c_exit ?_ | refine p_block ?_ | refine p_then_exit ?_ | refine p_block_here ?_ | refine p_block_on rfl ?_ | refine c_ret ?_ | refine p_then_ret ?_ | refine p_block_ret ?_ | refine p_end ?_ | refine c_if_t rfl (by omega) ?_ | refine c_if_f rfl (by omega) ?_)
  by_cases h60 : 60 < n
  · repeat (first | (show OpsS _ _ _ _ _ _ (_ :: _) _ _ _; first | refine ozq ?_ | refine ozs ?_ | refine ozs0 ?_ | refine ozt ?_ | refine ozf ?_) | refine c_seq ?_ | refine p_then ?_ | refine c_region ?_ | refine s_nil ?_ | refine c_cond_t rfl ?_ | refine c_cond_f rfl ?_ | refine c_block ?_ | refine c_skip ?_ | refine c_exit ?_ | refine p_block ?_ | refine p_then_exit ?_ | refine p_block_here ?_ | refine p_block_on rfl ?_ | refine c_ret ?_ | refine p_then_ret ?_ | refine p_block_ret ?_ | refine p_end ?_ | refine c_if_t rfl (by omega) ?_ | refine c_if_f rfl (by omega) ?_)
    refine t_e (e_call0 rfl rfl (awake_any _)) rfl rfl rfl ?_
    rintro _ _ ⟨rfl, cx, rfl⟩
    repeat (first | (show OpsS _ _ _ _ _ _ (_ :: _) _ _ _; first | refine ozq ?_ | refine ozs ?_ | refine ozs0 ?_ | refine ozt ?_ | refine ozf ?_) | refine c_seq ?_ | refine p_then ?_ | refine c_region ?_ | refine s_nil ?_ | refine c_cond_t rfl ?_ | refine c_cond_f rfl ?_ | refine c_block ?_ | refine c_skip ?_ | refine c_exit ?_ | refine p_block ?_ | refine p_then_exit ?_ | refine p_block_here ?_ | refine p_block_on rfl ?_ | refine c_ret ?_ | refine p_then_ret ?_ | refine p_block_ret ?_ | refine p_end ?_ | refine c_if_t rfl (by omega) ?_ | refine c_if_f rfl (by omega) ?_)
    exact k_ret [] rfl (l' := cx ++ l) .refl (by (repeat (first | apply ResS.nil | (apply rs_tmp; (· rfl)) | (apply rs_cell1; (· rfl); (· ((repeat (first | with_reducible apply List.mem_cons_self | with_reducible apply List.mem_cons_of_mem)); try with_reducible assumption)); (· rfl)) | (apply rs_cellA; (· rfl); (· ((repeat (first | with_reducible apply List.mem_cons_self | with_reducible apply List.mem_cons_of_mem)); try with_reducible assumption)); (· (repeat (first | with_reducible apply LSub.done | with_reducible apply LSub.take | with_reducible apply LSub.drop))))))) ⟨rfl, _, rfl⟩
  have hG := good_play acts
  obtain ⟨D, hD⟩ : ∃ D, D = playD acts := ⟨_, rfl⟩
  rw [hsz, ← hD] at hG
  have hlen : D.length ≤ 60 := by have := hG.len; omega
  repeat (first | (show OpsS _ _ _ _ _ _ (_ :: _) _ _ _; first | refine ozq ?_ | refine ozs ?_ | refine ozs0 ?_ | refine ozt ?_ | refine ozf ?_) | refine c_seq ?_ | refine p_then ?_ | refine c_region ?_ | refine s_nil ?_ | refine c_cond_t rfl ?_ | refine c_cond_f rfl ?_ | refine c_block ?_ | refine c_skip ?_ | refine c_exit ?_ | refine p_block ?_ | refine p_then_exit ?_ | refine p_block_here ?_ | refine p_block_on rfl ?_ | refine c_ret ?_ | refine p_then_ret ?_ | refine p_block_ret ?_ | refine p_end ?_ | refine c_if_t rfl (by omega) ?_ | refine c_if_f rfl (by omega) ?_)
  refine t_e (e_call0 rfl rfl (played_any a0 n cap acts _ hin hsz (by omega))) rfl rfl rfl ?_
  rintro _ _ ⟨b0, rfl, lq0, hq0, rfl⟩
  rw [← hD] at hq0
  repeat (first | (show OpsS _ _ _ _ _ _ (_ :: _) _ _ _; first | refine ozq ?_ | refine ozs ?_ | refine ozs0 ?_ | refine ozt ?_ | refine ozf ?_) | refine c_seq ?_ | refine p_then ?_ | refine c_region ?_ | refine s_nil ?_ | refine c_cond_t rfl ?_ | refine c_cond_f rfl ?_ | refine c_block ?_ | refine c_skip ?_ | refine c_exit ?_ | refine p_block ?_ | refine p_then_exit ?_ | refine p_block_here ?_ | refine p_block_on rfl ?_ | refine c_ret ?_ | refine p_then_ret ?_ | refine p_block_ret ?_ | refine p_end ?_ | refine c_if_t rfl (by omega) ?_ | refine c_if_f rfl (by omega) ?_)
  refine t_e (e_call0 rfl rfl (all_any b0 D lq0 hq0 (by omega) _ fun c hc => List.mem_append_left _ hc)) rfl rfl rfl ?_
  rintro v _ ⟨cs, ho, rfl⟩
  obtain ⟨p, cp, rfl, hR⟩ := ho.nodes (l := cs ++ (lq0 ++ l)) fun c hc => List.mem_append_left _ hc
  have hSN := ho.nodes (l := cs ++ (lq0 ++ l)) fun c hc => List.mem_append_left _ hc
  obtain ⟨L, hL⟩ : ∃ L, L = cs ++ (lq0 ++ l) := ⟨_, rfl⟩
  rw [← hL] at hR hSN ⊢
  repeat (first | (show OpsS _ _ _ _ _ _ (_ :: _) _ _ _; first | refine ozq ?_ | refine ozs ?_ | refine ozs0 ?_ | refine ozt ?_ | refine ozf ?_) | refine c_seq ?_ | refine p_then ?_ | refine c_region ?_ | refine s_nil ?_ | refine c_cond_t rfl ?_ | refine c_cond_f rfl ?_ | refine c_block ?_ | refine c_skip ?_ | refine c_exit ?_ | refine p_block ?_ | refine p_then_exit ?_ | refine p_block_here ?_ | refine p_block_on rfl ?_ | refine c_ret ?_ | refine p_then_ret ?_ | refine p_block_ret ?_ | refine p_end ?_ | refine c_if_t rfl (by omega) ?_ | refine c_if_f rfl (by omega) ?_)
  refine t_e (e_call0 rfl rfl (new_any _)) rfl rfl rfl ?_
  rintro _ _ ⟨b, rfl, lq, hq, rfl⟩
  repeat (first | (show OpsS _ _ _ _ _ _ (_ :: _) _ _ _; first | refine ozq ?_ | refine ozs ?_ | refine ozs0 ?_ | refine ozt ?_ | refine ozf ?_) | refine c_seq ?_ | refine p_then ?_ | refine c_region ?_ | refine s_nil ?_ | refine c_cond_t rfl ?_ | refine c_cond_f rfl ?_ | refine c_block ?_ | refine c_skip ?_ | refine c_exit ?_ | refine p_block ?_ | refine p_then_exit ?_ | refine p_block_here ?_ | refine p_block_on rfl ?_ | refine c_ret ?_ | refine p_then_ret ?_ | refine p_block_ret ?_ | refine p_end ?_ | refine c_if_t rfl (by omega) ?_ | refine c_if_f rfl (by omega) ?_)
  refine k_loop (α := Nat × List Chunk) (fun x => [(3, .slice p D.length cp), (4, .pointer (some ⟨b, 0, none⟩)), (5, .int .i64 x.1)]) (fun x => x.2 ++ L) (fun x => x.1 ≤ D.length ∧ IsT b ((D.take x.1).filter fun x => decide (x.2 = 0)) x.2) (fun x => D.length - x.1) (0, lq) ⟨Nat.zero_le _, hq⟩ ⟨rfl, rfl, rfl, trivial⟩ .refl ?_
  clear hq
  rintro ⟨i, lq⟩ ⟨hi, hq⟩
  simp only at hi hq ⊢
  by_cases hlt : i < D.length
  · obtain ⟨bB, off, xs, t, fz, rfl, hm, hxs⟩ := hR (by omega)
    obtain ⟨x, hx⟩ : ∃ x, D[i]? = some x := ⟨_, List.getElem?_eq_getElem hlt⟩
    obtain ⟨g1, g2⟩ := hxs i x hx
    obtain ⟨c1, c2, c3⟩ := node_cells g1 g2
    have hm' : (bB, Obj.cells xs t fz) ∈ lq ++ L := List.mem_append_right _ hm
    have hnx : (D.take (i + 1)).filter (fun x => decide (x.2 = 0)) = (D.take i).filter (fun x => decide (x.2 = 0)) ++ [x].filter (fun x => decide (x.2 = 0)) := by
      rw [List.take_add_one, hx, List.filter_append]; rfl
    repeat (first | (show OpsS _ _ _ _ _ _ (_ :: _) _ _ _; first | refine ozq ?_ | refine ozs ?_ | refine ozs0 ?_ | refine ozt ?_ | refine ozf ?_) | refine c_seq ?_ | refine p_then ?_ | refine c_region ?_ | refine s_nil ?_ | refine c_cond_t rfl ?_ | refine c_cond_f rfl ?_ | refine c_block ?_ | refine c_skip ?_ | refine c_exit ?_ | refine p_block ?_ | refine p_then_exit ?_ | refine p_block_here ?_ | refine p_block_on rfl ?_ | refine c_ret ?_ | refine p_then_ret ?_ | refine p_block_ret ?_ | refine p_end ?_ | refine c_if_t rfl (by omega) ?_ | refine c_if_f rfl (by omega) ?_)
    by_cases hd : x.2 = 0
    · rw [List.filter_cons, decide_eq_true hd, List.filter_nil] at hnx
      have hr := lvl_root hG hx
      have HA := root_any b _ lq hq x.1 L
      rw [hr] at HA
      repeat (first | (show OpsS _ _ _ _ _ _ (_ :: _) _ _ _; first | refine ozq ?_ | refine ozs ?_ | refine ozs0 ?_ | refine ozt ?_ | refine ozf ?_) | refine c_seq ?_ | refine p_then ?_ | refine c_region ?_ | refine s_nil ?_ | refine c_cond_t rfl ?_ | refine c_cond_f rfl ?_ | refine c_block ?_ | refine c_skip ?_ | refine c_exit ?_ | refine p_block ?_ | refine p_then_exit ?_ | refine p_block_here ?_ | refine p_block_on rfl ?_ | refine c_ret ?_ | refine p_then_ret ?_ | refine p_block_ret ?_ | refine p_end ?_ | refine c_if_t rfl (by omega) ?_ | refine c_if_f rfl (by omega) ?_)
      refine t_h (q_loadA rfl hm' c2 c3) rfl rfl rfl ?_
      refine t_eh (e_call0 rfl rfl HA) rfl rfl rfl ?_
      rintro _ _ ⟨rfl, lq1, hq1, rfl⟩
      repeat (first | (show OpsS _ _ _ _ _ _ (_ :: _) _ _ _; first | refine ozq ?_ | refine ozs ?_ | refine ozs0 ?_ | refine ozt ?_ | refine ozf ?_) | refine c_seq ?_ | refine p_then ?_ | refine c_region ?_ | refine s_nil ?_ | refine c_cond_t rfl ?_ | refine c_cond_f rfl ?_ | refine c_block ?_ | refine c_skip ?_ | refine c_exit ?_ | refine p_block ?_ | refine p_then_exit ?_ | refine p_block_here ?_ | refine p_block_on rfl ?_ | refine c_ret ?_ | refine p_then_ret ?_ | refine p_block_ret ?_ | refine p_end ?_ | refine c_if_t rfl (by omega) ?_ | refine c_if_f rfl (by omega) ?_)
      exact k_next (i + 1, lq1) ⟨by simp only; omega, by simp only; rw [hnx]; have e : x = (x.1, 0) := Prod.ext rfl hd; rw [← e] at hq1; exact hq1⟩ (by simp only; omega) ⟨rfl, rfl, rfl, trivial⟩ .refl
    · rw [List.filter_cons, decide_eq_false hd, List.filter_nil] at hnx
      simp only [Bool.false_eq_true, if_false, List.append_nil] at hnx
      repeat (first | (show OpsS _ _ _ _ _ _ (_ :: _) _ _ _; first | refine ozq ?_ | refine ozs ?_ | refine ozs0 ?_ | refine ozt ?_ | refine ozf ?_) | refine c_seq ?_ | refine p_then ?_ | refine c_region ?_ | refine s_nil ?_ | refine c_cond_t rfl ?_ | refine c_cond_f rfl ?_ | refine c_block ?_ | refine c_skip ?_ | refine c_exit ?_ | refine p_block ?_ | refine p_then_exit ?_ | refine p_block_here ?_ | refine p_block_on rfl ?_ | refine c_ret ?_ | refine p_then_ret ?_ | refine p_block_ret ?_ | refine p_end ?_ | refine c_if_t rfl (by omega) ?_ | refine c_if_f rfl (by omega) ?_)
      exact k_next (i + 1, lq) ⟨by simp only; omega, by simp only; rw [hnx]; exact hq⟩ (by simp only; omega) ⟨rfl, rfl, rfl, trivial⟩ .refl
  · obtain rfl : i = D.length := by omega
    rw [List.take_length, lvl_roots hG] at hq
    repeat (first | (show OpsS _ _ _ _ _ _ (_ :: _) _ _ _; first | refine ozq ?_ | refine ozs ?_ | refine ozs0 ?_ | refine ozt ?_ | refine ozf ?_) | refine c_seq ?_ | refine p_then ?_ | refine c_region ?_ | refine s_nil ?_ | refine c_cond_t rfl ?_ | refine c_cond_f rfl ?_ | refine c_block ?_ | refine c_skip ?_ | refine c_exit ?_ | refine p_block ?_ | refine p_then_exit ?_ | refine p_block_here ?_ | refine p_block_on rfl ?_ | refine c_ret ?_ | refine p_then_ret ?_ | refine p_block_ret ?_ | refine p_end ?_ | refine c_if_t rfl (by omega) ?_ | refine c_if_f rfl (by omega) ?_)
    refine k_loop (α := Nat × List Chunk) (fun x => [(3, .slice p D.length cp), (4, .pointer (some ⟨b, 0, none⟩)), (6, .int .i64 x.1)]) (fun x => x.2 ++ L) (fun x => 1 ≤ x.1 ∧ x.1 ≤ D.length + 1 ∧ IsT b (lvl x.1 D []) x.2) (fun x => D.length + 1 - x.1) (1, lq) ⟨Nat.le_refl _, by simp, hq⟩ ⟨rfl, rfl, rfl, trivial⟩ .refl ?_
    clear hq
    rintro ⟨d, lq⟩ ⟨hd1, hd2, hq⟩
    simp only at hd1 hd2 hq ⊢
    by_cases hdl : d ≤ D.length
    · obtain ⟨bB, off, xs, t, fz, rfl, hm, hxs⟩ := hR (by omega)
      repeat (first | (show OpsS _ _ _ _ _ _ (_ :: _) _ _ _; first | refine ozq ?_ | refine ozs ?_ | refine ozs0 ?_ | refine ozt ?_ | refine ozf ?_) | refine c_seq ?_ | refine p_then ?_ | refine c_region ?_ | refine s_nil ?_ | refine c_cond_t rfl ?_ | refine c_cond_f rfl ?_ | refine c_block ?_ | refine c_skip ?_ | refine c_exit ?_ | refine p_block ?_ | refine p_then_exit ?_ | refine p_block_here ?_ | refine p_block_on rfl ?_ | refine c_ret ?_ | refine p_then_ret ?_ | refine p_block_ret ?_ | refine p_end ?_ | refine c_if_t rfl (by omega) ?_ | refine c_if_f rfl (by omega) ?_)
      refine k_loop (α := Nat × List Chunk) (fun x => [(3, .slice (some ⟨bB, off, none⟩) D.length cp), (4, .pointer (some ⟨b, 0, none⟩)), (6, .int .i64 d), (7, .int .i64 ((x.1 : Int) - 1))]) (fun x => x.2 ++ L) (fun x => x.1 ≤ D.length ∧ IsT b (lvl d (D.take x.1) (D.drop x.1)) x.2) (fun x => x.1) (D.length, lq) ⟨Nat.le_refl _, by simpa using hq⟩ ⟨rfl, rfl, rfl, rfl, trivial⟩ .refl ?_
      clear hq
      rintro ⟨r, lq⟩ ⟨hrl, hq⟩
      simp only at hrl hq ⊢
      cases r with
      | zero =>
        repeat (first | (show OpsS _ _ _ _ _ _ (_ :: _) _ _ _; first | refine ozq ?_ | refine ozs ?_ | refine ozs0 ?_ | refine ozt ?_ | refine ozf ?_) | refine c_seq ?_ | refine p_then ?_ | refine c_region ?_ | refine s_nil ?_ | refine c_cond_t rfl ?_ | refine c_cond_f rfl ?_ | refine c_block ?_ | refine c_skip ?_ | refine c_exit ?_ | refine p_block ?_ | refine p_then_exit ?_ | refine p_block_here ?_ | refine p_block_on rfl ?_ | refine c_ret ?_ | refine p_then_ret ?_ | refine p_block_ret ?_ | refine p_end ?_ | refine c_if_t rfl (by omega) ?_ | refine c_if_f rfl (by omega) ?_)
        exact k_next (d + 1, lq) ⟨by simp only; omega, by simp only; omega, by
          simp only
          rw [List.take_zero, List.drop_zero, lvl_up] at hq
          rw [show ((d + 1 : Nat) : Int) = (d : Int) + 1 by omega]; exact hq⟩ (by simp only; omega) ⟨rfl, rfl, rfl, trivial⟩ .refl
      | succ r =>
        rw [show ((r + 1 : Nat) : Int) - 1 = (r : Nat) by omega]
        obtain ⟨x, hx⟩ : ∃ x, D[r]? = some x := ⟨_, List.getElem?_eq_getElem (by omega)⟩
        obtain ⟨g1, g2⟩ := hxs r x hx
        obtain ⟨c1, c2, c3⟩ := node_cells g1 g2
        have hm' : (bB, Obj.cells xs t fz) ∈ lq ++ L := List.mem_append_right _ hm
        have hDr : D = D.take r ++ x :: D.drop (r + 1) := by
          have h1 := List.take_append_drop r D
          rw [List.drop_eq_getElem_cons (show r < D.length by omega)] at h1
          rw [List.getElem?_eq_getElem (show r < D.length by omega)] at hx
          rw [Option.some.inj hx] at h1
          exact h1.symm
        have hDr2 : D.drop r = x :: D.drop (r + 1) := by
          rw [List.drop_eq_getElem_cons (show r < D.length by omega)]
          rw [List.getElem?_eq_getElem (show r < D.length by omega)] at hx
          rw [Option.some.inj hx]
        have htk : D.take (r + 1) = D.take r ++ [x] := by rw [List.take_add_one, hx]; rfl
        rw [htk] at hq
        repeat (first | (show OpsS _ _ _ _ _ _ (_ :: _) _ _ _; first | refine ozq ?_ | refine ozs ?_ | refine ozs0 ?_ | refine ozt ?_ | refine ozf ?_) | refine c_seq ?_ | refine p_then ?_ | refine c_region ?_ | refine s_nil ?_ | refine c_cond_t rfl ?_ | refine c_cond_f rfl ?_ | refine c_block ?_ | refine c_skip ?_ | refine c_exit ?_ | refine p_block ?_ | refine p_then_exit ?_ | refine p_block_here ?_ | refine p_block_on rfl ?_ | refine c_ret ?_ | refine p_then_ret ?_ | refine p_block_ret ?_ | refine p_end ?_ | refine c_if_t rfl (by omega) ?_ | refine c_if_f rfl (by omega) ?_)
        by_cases hxd : x.2 = d
        · repeat (first | (show OpsS _ _ _ _ _ _ (_ :: _) _ _ _; first | refine ozq ?_ | refine ozs ?_ | refine ozs0 ?_ | refine ozt ?_ | refine ozf ?_) | refine c_seq ?_ | refine p_then ?_ | refine c_region ?_ | refine s_nil ?_ | refine c_cond_t rfl ?_ | refine c_cond_f rfl ?_ | refine c_block ?_ | refine c_skip ?_ | refine c_exit ?_ | refine p_block ?_ | refine p_then_exit ?_ | refine p_block_here ?_ | refine p_block_on rfl ?_ | refine c_ret ?_ | refine p_then_ret ?_ | refine p_block_ret ?_ | refine p_end ?_ | refine c_if_t rfl (by omega) ?_ | refine c_if_f rfl (by omega) ?_)
          refine k_loop (α := Nat) (fun q => [(3, .slice (some ⟨bB, off, none⟩) D.length cp), (4, .pointer (some ⟨b, 0, none⟩)), (6, .int .i64 d), (7, .int .i64 r), (8, .int .i64 ((q : Int) - 1))]) (fun q => lq ++ L) (fun q => q ≤ r ∧ ∀ m z, q ≤ m → m < r → D[m]? = some z → (d : Int) ≤ z.2) (fun q => q) r ⟨Nat.le_refl _, fun m z h1 h2 _ => by omega⟩ ⟨rfl, rfl, rfl, rfl, rfl, trivial⟩ .refl ?_
          rintro q ⟨hqr, hqm⟩
          cases q with
          | zero =>
            exfalso
            obtain ⟨z, hz⟩ : ∃ z, D[0]? = some z := ⟨_, List.getElem?_eq_getElem (by omega)⟩
            have hz0 := hG.dep.first hz
            by_cases hr0 : r = 0
            · rw [hr0] at hx; have := hG.dep.first hx; omega
            · have := hqm 0 z (by omega) (by omega) hz; omega
          | succ q =>
            rw [show ((q + 1 : Nat) : Int) - 1 = (q : Nat) by omega]
            obtain ⟨y, hy⟩ : ∃ y, D[q]? = some y := ⟨_, List.getElem?_eq_getElem (by omega)⟩
            obtain ⟨f1, f2⟩ := hxs q y hy
            obtain ⟨d1, d2, d3⟩ := node_cells f1 f2
            by_cases hyd : (d : Int) ≤ y.2
            · repeat (first | (show OpsS _ _ _ _ _ _ (_ :: _) _ _ _; first | refine ozq ?_ | refine ozs ?_ | refine ozs0 ?_ | refine ozt ?_ | refine ozf ?_) | refine c_seq ?_ | refine p_then ?_ | refine c_region ?_ | refine s_nil ?_ | refine c_cond_t rfl ?_ | refine c_cond_f rfl ?_ | refine c_block ?_ | refine c_skip ?_ | refine c_exit ?_ | refine p_block ?_ | refine p_then_exit ?_ | refine p_block_here ?_ | refine p_block_on rfl ?_ | refine c_ret ?_ | refine p_then_ret ?_ | refine p_block_ret ?_ | refine p_end ?_ | refine c_if_t rfl (by omega) ?_ | refine c_if_f rfl (by omega) ?_)
              refine k_next q ⟨by omega, fun m z h1 h2 h3 => ?_⟩ (by omega) ⟨rfl, rfl, rfl, rfl, rfl, trivial⟩ .refl
              by_cases hmq : m = q
              · rw [hmq, hy] at h3; cases h3; exact hyd
              · exact hqm m z (by omega) h2 h3
            · have HA := child_any b _ lq hq (lvl_small hG (by omega) fun z hz => by
                rw [hDr]
                rcases hz with hz | hz
                · rcases List.mem_append.1 hz with hz | hz
                  · exact List.mem_append_left _ hz
                  · rw [List.mem_singleton.1 hz]; simp
                · exact List.mem_append_right _ (.tail _ hz)) y.1 x.1 L
              rw [lvl_child hG hDr hxd (by simp; omega) hy (by omega) fun m z h1 h2 h3 => hqm m z (by omega) (by simp at h2; omega) h3, ← hDr2] at HA
              repeat (first | (show OpsS _ _ _ _ _ _ (_ :: _) _ _ _; first | refine ozq ?_ | refine ozs ?_ | refine ozs0 ?_ | refine ozt ?_ | refine ozf ?_) | refine c_seq ?_ | refine p_then ?_ | refine c_region ?_ | refine s_nil ?_ | refine c_cond_t rfl ?_ | refine c_cond_f rfl ?_ | refine c_block ?_ | refine c_skip ?_ | refine c_exit ?_ | refine p_block ?_ | refine p_then_exit ?_ | refine p_block_here ?_ | refine p_block_on rfl ?_ | refine c_ret ?_ | refine p_then_ret ?_ | refine p_block_ret ?_ | refine p_end ?_ | refine c_if_t rfl (by omega) ?_ | refine c_if_f rfl (by omega) ?_)
              refine c_draw [(0, true), (1, true), (2, true), (3, true), (4, true), (5, true), (6, true), (7, true), (8, true), (9, true), (10, true), (11, true), (12, true), (13, true), (14, false), (15, true), (16, true)] [[], [0], [0, 1], [0, 1, 2], [0, 1, 2], [0, 1, 2], [0, 1, 2, 4, 5], [0, 1, 2, 4, 5, 6], [0, 1, 2, 4, 5, 6, 7], [0, 1, 2], [0, 1, 2], [0, 1, 2, 9, 10], [0, 1, 2, 9, 10, 11], [0, 1, 2, 9, 10, 11, 12], [0, 1, 2, 3, 4, 5, 6, 7, 8, 9, 10, 11, 12, 13], [0, 1, 2, 3, 4, 5, 6, 7, 8, 9, 10, 11, 12, 13, 14], [0, 1, 2, 3, 4, 5, 6, 7, 8, 9, 10, 11, 12, 13, 14, 15]] ([(bB, .cells xs t fz)]) (by kernel_rfl) (by kernel_rfl) (by (repeat (first | apply Attach.nil | (apply Attach.cons; · rfl)))) (sing_mem hm') ?_
              repeat (first | refine pl_nil ?_ | (show PlanS _ _ _ _ _ _ _ _ _ _ ((_, true, _) :: _) _ _ _; first | refine pzq ?_ | refine pzt ?_ | refine pzf ?_) | (show PlanS _ _ _ _ _ _ _ _ none [] ((_, _, _) :: _) _ _ _; first | refine pzs ?_ | refine pzs0 ?_) | (show PlanS _ _ _ _ _ _ _ _ _ _ ((_, _, _) :: _) _ _ _; first | refine pzt ?_ | refine pzf ?_) | (show PlanS _ _ _ _ _ _ _ _ none [] ((_, false, _) :: _) _ _ _; first | refine pze ?_))
              apply pl_h
              · exact q_loadA rfl (.head _) d2 d3
              · rfl
              · rfl
              · rfl
              repeat (first | refine pl_nil ?_ | (show PlanS _ _ _ _ _ _ _ _ _ _ ((_, true, _) :: _) _ _ _; first | refine pzq ?_ | refine pzt ?_ | refine pzf ?_) | (show PlanS _ _ _ _ _ _ _ _ none [] ((_, _, _) :: _) _ _ _; first | refine pzs ?_ | refine pzs0 ?_) | (show PlanS _ _ _ _ _ _ _ _ _ _ ((_, _, _) :: _) _ _ _; first | refine pzt ?_ | refine pzf ?_) | (show PlanS _ _ _ _ _ _ _ _ none [] ((_, false, _) :: _) _ _ _; first | refine pze ?_))
              apply pl_h
              · exact q_loadA rfl (.head _) c2 c3
              · rfl
              · rfl
              · rfl
              repeat (first | refine pl_nil ?_ | (show PlanS _ _ _ _ _ _ _ _ _ _ ((_, true, _) :: _) _ _ _; first | refine pzq ?_ | refine pzt ?_ | refine pzf ?_) | (show PlanS _ _ _ _ _ _ _ _ none [] ((_, _, _) :: _) _ _ _; first | refine pzs ?_ | refine pzs0 ?_) | (show PlanS _ _ _ _ _ _ _ _ _ _ ((_, _, _) :: _) _ _ _; first | refine pzt ?_ | refine pzf ?_) | (show PlanS _ _ _ _ _ _ _ _ none [] ((_, false, _) :: _) _ _ _; first | refine pze ?_))
              apply pl_geS
              · exact e_call0 rfl rfl HA
              · rfl
              · rfl
              · rfl
              · rintro _ _ ⟨rfl, lq1, _, rfl⟩; exact sing_mem (List.mem_append_right _ hm)
              · exact fun _ _ _ x hx => by cases hx
              rintro _ _ ⟨rfl, lq1, hq1, rfl⟩
              repeat (first | refine pl_nil ?_ | (show PlanS _ _ _ _ _ _ _ _ _ _ ((_, true, _) :: _) _ _ _; first | refine pzq ?_ | refine pzt ?_ | refine pzf ?_) | (show PlanS _ _ _ _ _ _ _ _ none [] ((_, _, _) :: _) _ _ _; first | refine pzs ?_ | refine pzs0 ?_) | (show PlanS _ _ _ _ _ _ _ _ _ _ ((_, _, _) :: _) _ _ _; first | refine pzt ?_ | refine pzf ?_) | (show PlanS _ _ _ _ _ _ _ _ none [] ((_, false, _) :: _) _ _ _; first | refine pze ?_))
              repeat (first | (show OpsS _ _ _ _ _ _ (_ :: _) _ _ _; first | refine ozq ?_ | refine ozs ?_ | refine ozs0 ?_ | refine ozt ?_ | refine ozf ?_) | refine c_seq ?_ | refine p_then ?_ | refine c_region ?_ | refine s_nil ?_ | refine c_cond_t rfl ?_ | refine c_cond_f rfl ?_ | refine c_block ?_ | refine c_skip ?_ | refine c_exit ?_ | refine p_block ?_ | refine p_then_exit ?_ | refine p_block_here ?_ | refine p_block_on rfl ?_ | refine c_ret ?_ | refine p_then_ret ?_ | refine p_block_ret ?_ | refine p_end ?_ | refine c_if_t rfl (by omega) ?_ | refine c_if_f rfl (by omega) ?_)
              exact k_next (r, lq1) ⟨by simp only; omega, hq1⟩ (by simp only; omega) ⟨rfl, rfl, rfl, rfl, trivial⟩ .refl
        · repeat (first | (show OpsS _ _ _ _ _ _ (_ :: _) _ _ _; first | refine ozq ?_ | refine ozs ?_ | refine ozs0 ?_ | refine ozt ?_ | refine ozf ?_) | refine c_seq ?_ | refine p_then ?_ | refine c_region ?_ | refine s_nil ?_ | refine c_cond_t rfl ?_ | refine c_cond_f rfl ?_ | refine c_block ?_ | refine c_skip ?_ | refine c_exit ?_ | refine p_block ?_ | refine p_then_exit ?_ | refine p_block_here ?_ | refine p_block_on rfl ?_ | refine c_ret ?_ | refine p_then_ret ?_ | refine p_block_ret ?_ | refine p_end ?_ | refine c_if_t rfl (by omega) ?_ | refine c_if_f rfl (by omega) ?_)
          rw [lvl_skip hxd, ← hDr2] at hq
          exact k_next (r, lq) ⟨by simp only; omega, hq⟩ (by simp only; omega) ⟨rfl, rfl, rfl, rfl, trivial⟩ .refl
    · obtain rfl : d = D.length + 1 := by omega
      rw [show ((D.length + 1 : Nat) : Int) = (D.length : Int) + 1 by omega, lvl_all hG] at hq
      repeat (first | (show OpsS _ _ _ _ _ _ (_ :: _) _ _ _; first | refine ozq ?_ | refine ozs ?_ | refine ozs0 ?_ | refine ozt ?_ | refine ozf ?_) | refine c_seq ?_ | refine p_then ?_ | refine c_region ?_ | refine s_nil ?_ | refine c_cond_t rfl ?_ | refine c_cond_f rfl ?_ | refine c_block ?_ | refine c_skip ?_ | refine c_exit ?_ | refine p_block ?_ | refine p_then_exit ?_ | refine p_block_here ?_ | refine p_block_on rfl ?_ | refine c_ret ?_ | refine p_then_ret ?_ | refine p_block_ret ?_ | refine p_end ?_ | refine c_if_t rfl (by omega) ?_ | refine c_if_f rfl (by omega) ?_)
      refine t_e (e_call0 rfl rfl (all_any b D lq hq (by omega) _ fun c hc => List.mem_append_left _ hc)) rfl rfl rfl ?_
      rintro v2 _ ⟨cs2, ho2, rfl⟩
      repeat (first | (show OpsS _ _ _ _ _ _ (_ :: _) _ _ _; first | refine ozq ?_ | refine ozs ?_ | refine ozs0 ?_ | refine ozt ?_ | refine ozf ?_) | refine c_seq ?_ | refine p_then ?_ | refine c_region ?_ | refine s_nil ?_ | refine c_cond_t rfl ?_ | refine c_cond_f rfl ?_ | refine c_block ?_ | refine c_skip ?_ | refine c_exit ?_ | refine p_block ?_ | refine p_then_exit ?_ | refine p_block_here ?_ | refine p_block_on rfl ?_ | refine c_ret ?_ | refine p_then_ret ?_ | refine p_block_ret ?_ | refine p_end ?_ | refine c_if_t rfl (by omega) ?_ | refine c_if_f rfl (by omega) ?_)
      refine t_h (q_call rfl rfl fun l2 hl => sameNodes_any nV nV_inj nV_k v2 _ D D l2 (ho2.nodes fun c hc => hl c (List.mem_append_left _ hc)) (RowSl.mono hSN fun c hc => hl c (List.mem_append_right _ (List.mem_append_right _ hc))) (by omega)) rfl rfl rfl ?_
      rw [decide_eq_true rfl]
      repeat (first | (show OpsS _ _ _ _ _ _ (_ :: _) _ _ _; first | refine ozq ?_ | refine ozs ?_ | refine ozs0 ?_ | refine ozt ?_ | refine ozf ?_) | refine c_seq ?_ | refine p_then ?_ | refine c_region ?_ | refine s_nil ?_ | refine c_cond_t rfl ?_ | refine c_cond_f rfl ?_ | refine c_block ?_ | refine c_skip ?_ | refine c_exit ?_ | refine p_block ?_ | refine p_then_exit ?_ | refine p_block_here ?_ | refine p_block_on rfl ?_ | refine c_ret ?_ | refine p_then_ret ?_ | refine p_block_ret ?_ | refine p_end ?_ | refine c_if_t rfl (by omega) ?_ | refine c_if_f rfl (by omega) ?_)
      refine t_eh (e_call0 rfl rfl (awake_any _)) rfl rfl rfl ?_
      rintro _ _ ⟨rfl, cx, rfl⟩
      repeat (first | (show OpsS _ _ _ _ _ _ (_ :: _) _ _ _; first | refine ozq ?_ | refine ozs ?_ | refine ozs0 ?_ | refine ozt ?_ | refine ozf ?_) | refine c_seq ?_ | refine p_then ?_ | refine c_region ?_ | refine s_nil ?_ | refine c_cond_t rfl ?_ | refine c_cond_f rfl ?_ | refine c_block ?_ | refine c_skip ?_ | refine c_exit ?_ | refine p_block ?_ | refine p_then_exit ?_ | refine p_block_here ?_ | refine p_block_on rfl ?_ | refine c_ret ?_ | refine p_then_ret ?_ | refine p_block_ret ?_ | refine p_end ?_ | refine c_if_t rfl (by omega) ?_ | refine c_if_f rfl (by omega) ?_)
      exact k_ret [] rfl (l' := (cx ++ (cs2 ++ (lq ++ (cs ++ lq0)))) ++ l) (.of_perm (.of_eq (by rw [hL]; simp))) (by (repeat (first | apply ResS.nil | (apply rs_tmp; (· rfl)) | (apply rs_cell1; (· rfl); (· ((repeat (first | with_reducible apply List.mem_cons_self | with_reducible apply List.mem_cons_of_mem)); try with_reducible assumption)); (· rfl)) | (apply rs_cellA; (· rfl); (· ((repeat (first | with_reducible apply List.mem_cons_self | with_reducible apply List.mem_cons_of_mem)); try with_reducible assumption)); (· (repeat (first | with_reducible apply LSub.done | with_reducible apply LSub.take | with_reducible apply LSub.drop))))))) ⟨rfl, _, rfl⟩
theorem treeRebuilt_walk' (a0 : Option Addr) (len0 cap0 : Nat) (rows0 : List (List Value)) (W : World) (h : IsRows [some .i64, some .i64, some .i64, some .i64, some .i64] W a0 len0 cap0 rows0) :
    Calls Try.prog 5 #[.slice a0 len0 cap0] W fun e W' => e = .returned (.bool true) ∧ Below W.heap.size W W' := by
  obtain ⟨acts, h1, h2⟩ := acts_rows h
  exact law_walk (treeRebuilt_any a0 len0 cap0 acts (allOf W) h2 h1)
end Go.Proofs.Ytidkpfkkljcnaaa
