/- TreeParents: the walk. -/
import Derived.Test.YtidkpfkkljcnaaaU0
import Derived.Test.YtidkpfkkljcnaaaJ20
set_option linter.unusedVariables false
set_option linter.unusedSimpArgs false
namespace Go.Proofs.Ytidkpfkkljcnaaa
open Go.RowKit

set_option pp.deepTerms false
set_option pp.deepTerms.threshold 4
set_option maxHeartbeats 400000
theorem treeParents_any (a0 : Option Addr) (n cap : Nat) (acts : List ActT) (l : List Chunk) (hin : InRows l a0 n 5 (acts.map encA)) (hsz : acts.length = n) :
    Fn Try.prog 7 [.slice a0 n cap] l fun v l' => v = .bool true ∧ ∃ c, l' = c ++ l := by
  refine fn_of_body Try.func7 rfl rfl fun E => ?_
  simp only [argF, Try.ntmps7]
  repeat (first | (show OpsS _ _ _ _ _ _ (_ :: _) _ _ _; first | refine ozq ?_ | refine ozn ?_) | refine c_seq ?_ | refine p_then ?_ | refine c_region ?_ | refine s_nil ?_ | refine c_cond_t rfl ?_ | refine c_cond_f rfl ?_ | refine c_block ?_ | refine c_skip ?_ | refine c_exit ?_ | refine p_block ?_ | refine p_then_exit ?_ | refine p_block_here ?_ | refine p_block_on rfl ?_ | refine c_ret ?_ | refine p_then_ret ?_ | refine p_block_ret ?_ | refine p_end ?_ | refine c_if_t rfl (by omega) ?_ | refine c_if_f rfl (by omega) ?_)
  by_cases h60 : 60 < n
  · repeat (first | (show OpsS _ _ _ _ _ _ (_ :: _) _ _ _; first | refine ozq ?_ | refine ozn ?_) | refine c_seq ?_ | refine p_then ?_ | refine c_region ?_ | refine s_nil ?_ | refine c_cond_t rfl ?_ | refine c_cond_f rfl ?_ | refine c_block ?_ | refine c_skip ?_ | refine c_exit ?_ | refine p_block ?_ | refine p_then_exit ?_ | refine p_block_here ?_ | refine p_block_on rfl ?_ | refine c_ret ?_ | refine p_then_ret ?_ | refine p_block_ret ?_ | refine p_end ?_ | refine c_if_t rfl (by omega) ?_ | refine c_if_f rfl (by omega) ?_)
    refine t_e (e_call0 rfl rfl (awake_any _)) rfl rfl rfl ?_
    rintro _ _ ⟨rfl, cx, rfl⟩
    repeat (first | (show OpsS _ _ _ _ _ _ (_ :: _) _ _ _; first | refine ozq ?_ | refine ozn ?_) | refine c_seq ?_ | refine p_then ?_ | refine c_region ?_ | refine s_nil ?_ | refine c_cond_t rfl ?_ | refine c_cond_f rfl ?_ | refine c_block ?_ | refine c_skip ?_ | refine c_exit ?_ | refine p_block ?_ | refine p_then_exit ?_ | refine p_block_here ?_ | refine p_block_on rfl ?_ | refine c_ret ?_ | refine p_then_ret ?_ | refine p_block_ret ?_ | refine p_end ?_ | refine c_if_t rfl (by omega) ?_ | refine c_if_f rfl (by omega) ?_)
    exact k_ret [] rfl (l' := cx ++ l) .refl (by (repeat (first | apply ResS.nil | (apply rs_tmp; (· rfl)) | (apply rs_cell1; (· rfl); (· ((repeat (first | with_reducible apply List.mem_cons_self | with_reducible apply List.mem_cons_of_mem)); try with_reducible assumption)); (· rfl)) | (apply rs_cellA; (· rfl); (· ((repeat (first | with_reducible apply List.mem_cons_self | with_reducible apply List.mem_cons_of_mem)); try with_reducible assumption)); (· (repeat (first | with_reducible apply LSub.done | with_reducible apply LSub.take | with_reducible apply LSub.drop))))))) ⟨rfl, _, rfl⟩
  have hG := good_play acts
  obtain ⟨D, hD⟩ : ∃ D, D = playD acts := ⟨_, rfl⟩
  rw [hsz, ← hD] at hG
  have hlen : D.length ≤ 60 := by have := hG.len; omega
  repeat (first | (show OpsS _ _ _ _ _ _ (_ :: _) _ _ _; first | refine ozq ?_ | refine ozn ?_) | refine c_seq ?_ | refine p_then ?_ | refine c_region ?_ | refine s_nil ?_ | refine c_cond_t rfl ?_ | refine c_cond_f rfl ?_ | refine c_block ?_ | refine c_skip ?_ | refine c_exit ?_ | refine p_block ?_ | refine p_then_exit ?_ | refine p_block_here ?_ | refine p_block_on rfl ?_ | refine c_ret ?_ | refine p_then_ret ?_ | refine p_block_ret ?_ | refine p_end ?_ | refine c_if_t rfl (by omega) ?_ | refine c_if_f rfl (by omega) ?_)
  refine t_e (e_call0 rfl rfl (played_any a0 n cap acts _ hin hsz (by omega))) rfl rfl rfl ?_
  rintro _ _ ⟨b, rfl, lq, hq, rfl⟩
  rw [← hD] at hq
  repeat (first | (show OpsS _ _ _ _ _ _ (_ :: _) _ _ _; first | refine ozq ?_ | refine ozn ?_) | refine c_seq ?_ | refine p_then ?_ | refine c_region ?_ | refine s_nil ?_ | refine c_cond_t rfl ?_ | refine c_cond_f rfl ?_ | refine c_block ?_ | refine c_skip ?_ | refine c_exit ?_ | refine p_block ?_ | refine p_then_exit ?_ | refine p_block_here ?_ | refine p_block_on rfl ?_ | refine c_ret ?_ | refine p_then_ret ?_ | refine p_block_ret ?_ | refine p_end ?_ | refine c_if_t rfl (by omega) ?_ | refine c_if_f rfl (by omega) ?_)
  refine t_e (e_call0 rfl rfl (all_any b D lq hq (by omega) _ fun c hc => List.mem_append_left _ hc)) rfl rfl rfl ?_
  rintro v _ ⟨cs, ho, rfl⟩
  obtain ⟨p, cp, rfl, hR⟩ := ho.nodes (l := cs ++ (lq ++ l)) fun c hc => List.mem_append_left _ hc
  obtain ⟨L, hL⟩ : ∃ L, L = cs ++ (lq ++ l) := ⟨_, rfl⟩
  have hlL : ∀ c, c ∈ lq → c ∈ L := fun c hc => by rw [hL]; exact List.mem_append_right _ (List.mem_append_left _ hc)
  rw [← hL] at hR ⊢
  repeat (first | (show OpsS _ _ _ _ _ _ (_ :: _) _ _ _; first | refine ozq ?_ | refine ozn ?_) | refine c_seq ?_ | refine p_then ?_ | refine c_region ?_ | refine s_nil ?_ | refine c_cond_t rfl ?_ | refine c_cond_f rfl ?_ | refine c_block ?_ | refine c_skip ?_ | refine c_exit ?_ | refine p_block ?_ | refine p_then_exit ?_ | refine p_block_here ?_ | refine p_block_on rfl ?_ | refine c_ret ?_ | refine p_then_ret ?_ | refine p_block_ret ?_ | refine p_end ?_ | refine c_if_t rfl (by omega) ?_ | refine c_if_f rfl (by omega) ?_)
  refine k_loop (α := Nat) (fun i => [(3, .pointer (some ⟨b, 0, none⟩)), (4, .slice p D.length cp), (5, .int .i64 i)]) (fun _ => L) (fun i => i ≤ D.length) (fun i => D.length - i) 0 (Nat.zero_le _) ⟨rfl, rfl, rfl, trivial⟩ .refl ?_
  intro i hi
  by_cases hlt : i < D.length
  · obtain ⟨bB, off, xs, t, fz, rfl, hm, hxs⟩ := hR (by omega)
    obtain ⟨x, hx⟩ : ∃ x, D[i]? = some x := ⟨_, List.getElem?_eq_getElem hlt⟩
    obtain ⟨g1, g2⟩ := hxs i x hx
    obtain ⟨c1, c2, c3⟩ := node_cells g1 g2
    have hx0 := hG.dep.bound x (List.mem_of_getElem? hx)
    repeat (first | (show OpsS _ _ _ _ _ _ (_ :: _) _ _ _; first | refine ozq ?_ | refine ozn ?_) | refine c_seq ?_ | refine p_then ?_ | refine c_region ?_ | refine s_nil ?_ | refine c_cond_t rfl ?_ | refine c_cond_f rfl ?_ | refine c_block ?_ | refine c_skip ?_ | refine c_exit ?_ | refine p_block ?_ | refine p_then_exit ?_ | refine p_block_here ?_ | refine p_block_on rfl ?_ | refine c_ret ?_ | refine p_then_ret ?_ | refine p_block_ret ?_ | refine p_end ?_ | refine c_if_t rfl (by omega) ?_ | refine c_if_f rfl (by omega) ?_)
    refine t_q (q_loadA rfl hm c2 c3) rfl rfl rfl ?_
    repeat (first | (show OpsS _ _ _ _ _ _ (_ :: _) _ _ _; first | refine ozq ?_ | refine ozn ?_) | refine c_seq ?_ | refine p_then ?_ | refine c_region ?_ | refine s_nil ?_ | refine c_cond_t rfl ?_ | refine c_cond_f rfl ?_ | refine c_block ?_ | refine c_skip ?_ | refine c_exit ?_ | refine p_block ?_ | refine p_then_exit ?_ | refine p_block_here ?_ | refine p_block_on rfl ?_ | refine c_ret ?_ | refine p_then_ret ?_ | refine p_block_ret ?_ | refine p_end ?_ | refine c_if_t rfl (by omega) ?_ | refine c_if_f rfl (by omega) ?_)
    refine t_e e_alloc rfl rfl rfl ?_; rintro _ _ ⟨b7, _, rfl, rfl⟩
    repeat (first | (show OpsS _ _ _ _ _ _ (_ :: _) _ _ _; first | refine ozq ?_ | refine ozn ?_) | refine c_seq ?_ | refine p_then ?_ | refine c_region ?_ | refine s_nil ?_ | refine c_cond_t rfl ?_ | refine c_cond_f rfl ?_ | refine c_block ?_ | refine c_skip ?_ | refine c_exit ?_ | refine p_block ?_ | refine p_then_exit ?_ | refine p_block_here ?_ | refine p_block_on rfl ?_ | refine c_ret ?_ | refine p_then_ret ?_ | refine p_block_ret ?_ | refine p_end ?_ | refine c_if_t rfl (by omega) ?_ | refine c_if_f rfl (by omega) ?_)
    refine k_loop (α := Nat × Nat × (SlotT × Int) × List SlotT × Value × List Chunk) (fun q => [(3, .pointer (some ⟨b, 0, none⟩)), (4, .slice (some ⟨bB, off, none⟩) D.length cp), (5, .int .i64 i), (6, q.2.2.2.2.1), (7, .pointer (some ⟨b7, 0, none⟩)), (8, .int .i64 q.1)]) (fun q => slC b7 q.2.2.1.1 :: (q.2.2.2.2.2 ++ L)) (fun q => (q.1 : Int) ≤ x.2 ∧ D[q.2.1]? = some q.2.2.1 ∧ q.2.2.1.2 = x.2 - q.1 ∧ q.2.2.2.1.length = q.1 ∧ OwnSl 29 2 q.2.2.2.2.1 q.2.2.2.1.length (scs q.2.2.2.1) q.2.2.2.2.2 ∧ ∀ j z, D[j]? = some z → (Anc D j i z ↔ z.1 ∈ q.2.2.2.1 ∨ Anc D j q.2.1 z)) (fun q => x.2.toNat - q.1) (0, i, x, [], .slice none 0 0, []) ⟨by simpa using hx0.1, hx, by simp, rfl, OwnSl.nil _ _, fun j z _ => by simp⟩ ⟨rfl, rfl, rfl, rfl, rfl, rfl, trivial⟩ .refl ?_
    rintro ⟨k, c, y, up, vu, cu⟩ ⟨hk, hy, hyd, hul, hou, hanc⟩
    dsimp only at hk hy hyd hul hou hanc ⊢
    have hmX : ∀ X : List Chunk, (bB, Obj.cells xs t fz) ∈ X ++ L := fun X => List.mem_append_right _ hm
    have hm1 := hmX cu
    by_cases hkx : (k : Int) < x.2
    · repeat (first | (show OpsS _ _ _ _ _ _ (_ :: _) _ _ _; first | refine ozq ?_ | refine ozn ?_) | refine c_seq ?_ | refine p_then ?_ | refine c_region ?_ | refine s_nil ?_ | refine c_cond_t rfl ?_ | refine c_cond_f rfl ?_ | refine c_block ?_ | refine c_skip ?_ | refine c_exit ?_ | refine p_block ?_ | refine p_then_exit ?_ | refine p_block_here ?_ | refine p_block_on rfl ?_ | refine c_ret ?_ | refine p_then_ret ?_ | refine p_block_ret ?_ | refine p_end ?_ | refine c_if_t rfl (by omega) ?_ | refine c_if_f rfl (by omega) ?_)
      refine t_q (q_call rfl rfl fun l2 hl => parent_any b D lq hq y.1 l2 fun c hc => hl c (.tail _ (List.mem_append_right _ (hlL c hc)))) rfl rfl rfl ?_
      rcases parent_at hG hy with ⟨h0, _⟩ | ⟨h0, pi, py, hpy, hpc, hpd, hbt, hpar⟩
      · omega
      rw [hpar]
      repeat (first | (show OpsS _ _ _ _ _ _ (_ :: _) _ _ _; first | refine ozq ?_ | refine ozn ?_) | refine c_seq ?_ | refine p_then ?_ | refine c_region ?_ | refine s_nil ?_ | refine c_cond_t rfl ?_ | refine c_cond_f rfl ?_ | refine c_block ?_ | refine c_skip ?_ | refine c_exit ?_ | refine p_block ?_ | refine p_then_exit ?_ | refine p_block_here ?_ | refine p_block_on rfl ?_ | refine c_ret ?_ | refine p_then_ret ?_ | refine p_block_ret ?_ | refine p_end ?_ | refine c_if_t rfl (by omega) ?_ | refine c_if_f rfl (by omega) ?_)
      refine t_e e_alloc rfl rfl rfl ?_; rintro _ _ ⟨b9, _, rfl, rfl⟩
      repeat (first | (show OpsS _ _ _ _ _ _ (_ :: _) _ _ _; first | refine ozq ?_ | refine ozn ?_) | refine c_seq ?_ | refine p_then ?_ | refine c_region ?_ | refine s_nil ?_ | refine c_cond_t rfl ?_ | refine c_cond_f rfl ?_ | refine c_block ?_ | refine c_skip ?_ | refine c_exit ?_ | refine p_block ?_ | refine p_then_exit ?_ | refine p_block_here ?_ | refine p_block_on rfl ?_ | refine c_ret ?_ | refine p_then_ret ?_ | refine p_block_ret ?_ | refine p_end ?_ | refine c_if_t rfl (by omega) ?_ | refine c_if_f rfl (by omega) ?_)
      refine t_e (e_litA (k := 2) rfl rfl rfl (by decide) (by decide)) rfl rfl rfl ?_
      rintro _ _ ⟨bl, _, rfl, rfl⟩
      refine t_e (e_appX (k := 2) (X := [slC b9 py.1, slC b7 y.1]) (cs := cu) (F := L) (xs := scs up) (n := up.length) (ws := encT py.1) rfl rfl rfl hou rfl (by simp [Value.oneCell']) (by omega) (by decide)) rfl rfl rfl ?_
      rintro vu2 _ ⟨cu2, hou2, rfl⟩
      have hv1 : vu2.oneCell' = true := hou2.one
      simp only [List.cons_append, List.nil_append]
      repeat (first | (show OpsS _ _ _ _ _ _ (_ :: _) _ _ _; first | refine ozq ?_ | refine ozn ?_) | refine c_seq ?_ | refine p_then ?_ | refine c_region ?_ | refine s_nil ?_ | refine c_cond_t rfl ?_ | refine c_cond_f rfl ?_ | refine c_block ?_ | refine c_skip ?_ | refine c_exit ?_ | refine p_block ?_ | refine p_then_exit ?_ | refine p_block_here ?_ | refine p_block_on rfl ?_ | refine c_ret ?_ | refine p_then_ret ?_ | refine p_block_ret ?_ | refine p_end ?_ | refine c_if_t rfl (by omega) ?_ | refine c_if_f rfl (by omega) ?_)
      refine k_next (k + 1, pi, py, up ++ [py.1], vu2, cu2) ⟨by simp only; omega, hpy, by simp only; omega, by simp only [List.length_append, hul]; rfl, by simp only; rw [scs_snoc, List.length_append]; exact hou2, fun j z hz => ?_⟩ (by simp only; omega) ⟨rfl, rfl, rfl, rfl, rfl, rfl, trivial⟩ (.drop .refl)
      dsimp only
      rw [hanc j z hz, anc_parent hy hpy hpc hpd hbt hz, List.mem_append, List.mem_singleton]
      constructor
      · rintro (h | rfl | h)
        · exact .inl (.inl h)
        · rw [hpy] at hz; cases hz; exact .inl (.inr rfl)
        · exact .inr h
      · rintro ((h | h) | h)
        · exact .inl h
        · exact .inr (.inl (slot_inj hG.nd hz hpy h))
        · exact .inr (.inr h)
    · have hyz : y.2 = 0 := by omega
      repeat (first | (show OpsS _ _ _ _ _ _ (_ :: _) _ _ _; first | refine ozq ?_ | refine ozn ?_) | refine c_seq ?_ | refine p_then ?_ | refine c_region ?_ | refine s_nil ?_ | refine c_cond_t rfl ?_ | refine c_cond_f rfl ?_ | refine c_block ?_ | refine c_skip ?_ | refine c_exit ?_ | refine p_block ?_ | refine p_then_exit ?_ | refine p_block_here ?_ | refine p_block_on rfl ?_ | refine c_ret ?_ | refine p_then_ret ?_ | refine p_block_ret ?_ | refine p_end ?_ | refine c_if_t rfl (by omega) ?_ | refine c_if_f rfl (by omega) ?_)
      refine t_q (q_call rfl rfl fun l2 hl => parent_any b D lq hq y.1 l2 fun c hc => hl c (.tail _ (List.mem_append_right _ (hlL c hc)))) rfl rfl rfl ?_
      have hpar : parentD D y.1 = ((0, 0), false) := by
        rcases parent_at hG hy with ⟨_, h⟩ | ⟨h0, _⟩
        · exact h
        · omega
      rw [hpar]
      have hup : ∀ j z, D[j]? = some z → (Anc D j i z ↔ z.1 ∈ up) := fun j z hz => by
        rw [hanc j z hz]
        refine ⟨fun h => ?_, .inl⟩
        rcases h with h | ⟨h1, h2⟩
        · exact h
        · have h3 := h2 c y h1 (Nat.le_refl _) hy
          have h4 := (hG.dep.bound z (List.mem_of_getElem? hz)).1
          omega
      repeat (first | (show OpsS _ _ _ _ _ _ (_ :: _) _ _ _; first | refine ozq ?_ | refine ozn ?_) | refine c_seq ?_ | refine p_then ?_ | refine c_region ?_ | refine s_nil ?_ | refine c_cond_t rfl ?_ | refine c_cond_f rfl ?_ | refine c_block ?_ | refine c_skip ?_ | refine c_exit ?_ | refine p_block ?_ | refine p_then_exit ?_ | refine p_block_here ?_ | refine p_block_on rfl ?_ | refine c_ret ?_ | refine p_then_ret ?_ | refine p_block_ret ?_ | refine p_end ?_ | refine c_if_t rfl (by omega) ?_ | refine c_if_f rfl (by omega) ?_)
      refine t_e e_alloc rfl rfl rfl ?_; rintro _ _ ⟨b11, _, rfl, rfl⟩
      repeat (first | (show OpsS _ _ _ _ _ _ (_ :: _) _ _ _; first | refine ozq ?_ | refine ozn ?_) | refine c_seq ?_ | refine p_then ?_ | refine c_region ?_ | refine s_nil ?_ | refine c_cond_t rfl ?_ | refine c_cond_f rfl ?_ | refine c_block ?_ | refine c_skip ?_ | refine c_exit ?_ | refine p_block ?_ | refine p_then_exit ?_ | refine p_block_here ?_ | refine p_block_on rfl ?_ | refine c_ret ?_ | refine p_then_ret ?_ | refine p_block_ret ?_ | refine p_end ?_ | refine c_if_t rfl (by omega) ?_ | refine c_if_f rfl (by omega) ?_)
      have hSu := hou.slots (l := slC b11 (0, 0) :: slC b7 y.1 :: (cu ++ L)) fun c hc => .tail _ (.tail _ (List.mem_append_left _ hc))
      have hSu0 := hSu
      obtain ⟨pu, cpu, rfl, hRu⟩ := hSu
      obtain ⟨L4, hL4⟩ : ∃ L4, L4 = slC b11 (0, 0) :: slC b7 y.1 :: (cu ++ L) := ⟨_, rfl⟩
      rw [← hL4] at hSu0
      have hm4 : (bB, Obj.cells xs t fz) ∈ L4 := by rw [hL4]; exact .tail _ (.tail _ hm1)
      have hl4 : ∀ c, c ∈ lq → c ∈ L4 := fun c hc => by rw [hL4]; exact .tail _ (.tail _ (List.mem_append_right _ (hlL c hc)))
      refine k_loop (α := Nat) (fun k => [(3, .pointer (some ⟨b, 0, none⟩)), (4, .slice (some ⟨bB, off, none⟩) D.length cp), (5, .int .i64 i), (6, .slice pu up.length cpu), (13, .int .i64 k)]) (fun _ => L4) (fun k => k ≤ D.length) (fun k => D.length - k) 0 (Nat.zero_le _) ⟨rfl, rfl, rfl, rfl, rfl, trivial⟩ (by rw [hL4]; exact .refl) ?_
      intro k2 hk2
      by_cases hkl : k2 < D.length
      · obtain ⟨z, hz⟩ : ∃ z, D[k2]? = some z := ⟨_, List.getElem?_eq_getElem hkl⟩
        obtain ⟨f1, f2⟩ := hxs k2 z hz
        obtain ⟨d1, d2, d3⟩ := node_cells f1 f2
        repeat (first | (show OpsS _ _ _ _ _ _ (_ :: _) _ _ _; first | refine ozq ?_ | refine ozn ?_) | refine c_seq ?_ | refine p_then ?_ | refine c_region ?_ | refine s_nil ?_ | refine c_cond_t rfl ?_ | refine c_cond_f rfl ?_ | refine c_block ?_ | refine c_skip ?_ | refine c_exit ?_ | refine p_block ?_ | refine p_then_exit ?_ | refine p_block_here ?_ | refine p_block_on rfl ?_ | refine c_ret ?_ | refine p_then_ret ?_ | refine p_block_ret ?_ | refine p_end ?_ | refine c_if_t rfl (by omega) ?_ | refine c_if_f rfl (by omega) ?_)
        refine c_draw [(0, true), (1, true), (2, true), (3, true), (4, true), (5, true), (7, true), (8, true), (9, true), (10, true), (11, true), (13, true), (14, true), (15, true), (16, true), (17, true), (18, true), (6, false), (12, true), (19, true), (20, true)] [[], [], [], [1, 2], [1, 2, 3], [1, 2, 3, 4], [0, 1, 2, 3, 4, 5], [], [], [7, 8], [7, 8, 9], [7, 8, 9, 10], [0, 1, 2, 3, 4, 5, 6, 7, 8, 9, 10, 11], [], [], [], [14, 15], [14, 15, 16], [14, 15, 16, 17], [0, 1, 2, 3, 4, 5, 6, 7, 8, 9, 10, 11, 12, 13, 14, 15, 16, 17, 18], [0, 1, 2, 3, 4, 5, 6, 7, 8, 9, 10, 11, 12, 13, 14, 15, 16, 17, 18, 19]] _ (by kernel_rfl) (by kernel_rfl) (by (repeat (first | apply Attach.nil | (apply Attach.cons; · rfl)))) (fun _ h => h) ?_
        repeat (first | refine pl_nil ?_ | (show PlanS _ _ _ _ _ _ _ _ _ _ ((_, true, _) :: _) _ _ _; first | refine pzq ?_) | (show PlanS _ _ _ _ _ _ _ _ none [] ((_, false, _) :: _) _ _ _; first | refine pze ?_))
        apply pl_q
        · exact q_loadA rfl hm4 d2 d3
        · rfl
        · rfl
        · rfl
        repeat (first | refine pl_nil ?_ | (show PlanS _ _ _ _ _ _ _ _ _ _ ((_, true, _) :: _) _ _ _; first | refine pzq ?_) | (show PlanS _ _ _ _ _ _ _ _ none [] ((_, false, _) :: _) _ _ _; first | refine pze ?_))
        apply pl_q
        · exact q_loadA rfl hm4 c2 c3
        · rfl
        · rfl
        · rfl
        repeat (first | refine pl_nil ?_ | (show PlanS _ _ _ _ _ _ _ _ _ _ ((_, true, _) :: _) _ _ _; first | refine pzq ?_) | (show PlanS _ _ _ _ _ _ _ _ none [] ((_, false, _) :: _) _ _ _; first | refine pze ?_))
        apply pl_q
        · exact q_loadA rfl hm4 d2 d3
        · rfl
        · rfl
        · rfl
        repeat (first | refine pl_nil ?_ | (show PlanS _ _ _ _ _ _ _ _ _ _ ((_, true, _) :: _) _ _ _; first | refine pzq ?_) | (show PlanS _ _ _ _ _ _ _ _ none [] ((_, false, _) :: _) _ _ _; first | refine pze ?_))
        apply pl_e
        · exact e_call0 rfl rfl (belowOf_any b D lq hq (by omega) z.1 _ hl4)
        · rfl
        · rfl
        · rfl
        · rintro _ _ ⟨cw, _, rfl⟩ c hc; exact List.mem_append_right _ hc
        rintro vw _ ⟨cw, how, rfl⟩
        repeat (first | refine pl_nil ?_ | (show PlanS _ _ _ _ _ _ _ _ _ _ ((_, true, _) :: _) _ _ _; first | refine pzq ?_) | (show PlanS _ _ _ _ _ _ _ _ none [] ((_, false, _) :: _) _ _ _; first | refine pze ?_))
        apply pl_s (S := cw)
        · exact q_call rfl rfl fun l2 hl => in_any vw (belowD D z.1) x.1 l2 (how.slots hl) (Nat.le_trans (below_len D z.1) (by omega))
        · exact fun c hc => List.mem_append_left _ hc
        · rfl
        · rfl
        · rfl
        repeat (first | refine pl_nil ?_ | (show PlanS _ _ _ _ _ _ _ _ _ _ ((_, true, _) :: _) _ _ _; first | refine pzq ?_) | (show PlanS _ _ _ _ _ _ _ _ none [] ((_, false, _) :: _) _ _ _; first | refine pze ?_))
        apply pl_q
        · exact q_call rfl rfl fun l2 hl => in_any _ up z.1 l2 (hSu0.mono hl) (by omega)
        · rfl
        · rfl
        · rfl
        rw [show decide (x.1 ∈ belowD D z.1) = decide (z.1 ∈ up) from decide_eq_decide.2 ((below_anc hG.nd hz hx).trans (hup k2 z hz))]
        repeat (first | refine pl_nil ?_ | (show PlanS _ _ _ _ _ _ _ _ _ _ ((_, true, _) :: _) _ _ _; first | refine pzq ?_) | (show PlanS _ _ _ _ _ _ _ _ none [] ((_, false, _) :: _) _ _ _; first | refine pze ?_))
        rw [beq_self_eq_true]
        repeat (first | (show OpsS _ _ _ _ _ _ (_ :: _) _ _ _; first | refine ozq ?_ | refine ozn ?_) | refine c_seq ?_ | refine p_then ?_ | refine c_region ?_ | refine s_nil ?_ | refine c_cond_t rfl ?_ | refine c_cond_f rfl ?_ | refine c_block ?_ | refine c_skip ?_ | refine c_exit ?_ | refine p_block ?_ | refine p_then_exit ?_ | refine p_block_here ?_ | refine p_block_on rfl ?_ | refine c_ret ?_ | refine p_then_ret ?_ | refine p_block_ret ?_ | refine p_end ?_ | refine c_if_t rfl (by omega) ?_ | refine c_if_f rfl (by omega) ?_)
        exact k_next (k2 + 1) (by omega) (by omega) ⟨rfl, rfl, rfl, rfl, rfl, trivial⟩ (Keep.dropL cw .refl)
      · obtain rfl : k2 = D.length := by omega
        repeat (first | (show OpsS _ _ _ _ _ _ (_ :: _) _ _ _; first | refine ozq ?_ | refine ozn ?_) | refine c_seq ?_ | refine p_then ?_ | refine c_region ?_ | refine s_nil ?_ | refine c_cond_t rfl ?_ | refine c_cond_f rfl ?_ | refine c_block ?_ | refine c_skip ?_ | refine c_exit ?_ | refine p_block ?_ | refine p_then_exit ?_ | refine p_block_here ?_ | refine p_block_on rfl ?_ | refine c_ret ?_ | refine p_then_ret ?_ | refine p_block_ret ?_ | refine p_end ?_ | refine c_if_t rfl (by omega) ?_ | refine c_if_f rfl (by omega) ?_)
        exact k_next (i + 1) (by omega) (by omega) ⟨rfl, rfl, rfl, trivial⟩ (by rw [hL4]; exact .drop (.drop (Keep.dropL cu .refl)))
  · obtain rfl : i = D.length := by omega
    repeat (first | (show OpsS _ _ _ _ _ _ (_ :: _) _ _ _; first | refine ozq ?_ | refine ozn ?_) | refine c_seq ?_ | refine p_then ?_ | refine c_region ?_ | refine s_nil ?_ | refine c_cond_t rfl ?_ | refine c_cond_f rfl ?_ | refine c_block ?_ | refine c_skip ?_ | refine c_exit ?_ | refine p_block ?_ | refine p_then_exit ?_ | refine p_block_here ?_ | refine p_block_on rfl ?_ | refine c_ret ?_ | refine p_then_ret ?_ | refine p_block_ret ?_ | refine p_end ?_ | refine c_if_t rfl (by omega) ?_ | refine c_if_f rfl (by omega) ?_)
    refine t_e (e_call0 rfl rfl (awake_any _)) rfl rfl rfl ?_
    rintro _ _ ⟨rfl, cx, rfl⟩
    repeat (first | (show OpsS _ _ _ _ _ _ (_ :: _) _ _ _; first | refine ozq ?_ | refine ozn ?_) | refine c_seq ?_ | refine p_then ?_ | refine c_region ?_ | refine s_nil ?_ | refine c_cond_t rfl ?_ | refine c_cond_f rfl ?_ | refine c_block ?_ | refine c_skip ?_ | refine c_exit ?_ | refine p_block ?_ | refine p_then_exit ?_ | refine p_block_here ?_ | refine p_block_on rfl ?_ | refine c_ret ?_ | refine p_then_ret ?_ | refine p_block_ret ?_ | refine p_end ?_ | refine c_if_t rfl (by omega) ?_ | refine c_if_f rfl (by omega) ?_)
    exact k_ret [] rfl (l' := (cx ++ (cs ++ lq)) ++ l) (.of_perm (.of_eq (by rw [hL]; simp))) (by (repeat (first | apply ResS.nil | (apply rs_tmp; (· rfl)) | (apply rs_cell1; (· rfl); (· ((repeat (first | with_reducible apply List.mem_cons_self | with_reducible apply List.mem_cons_of_mem)); try with_reducible assumption)); (· rfl)) | (apply rs_cellA; (· rfl); (· ((repeat (first | with_reducible apply List.mem_cons_self | with_reducible apply List.mem_cons_of_mem)); try with_reducible assumption)); (· (repeat (first | with_reducible apply LSub.done | with_reducible apply LSub.take | with_reducible apply LSub.drop))))))) ⟨rfl, _, rfl⟩
theorem treeParents_walk' (a0 : Option Addr) (len0 cap0 : Nat) (rows0 : List (List Value)) (W : World) (h : IsRows [some .i64, some .i64, some .i64, some .i64, some .i64] W a0 len0 cap0 rows0) :
    Calls Try.prog 7 #[.slice a0 len0 cap0] W fun e W' => e = .returned (.bool true) ∧ Below W.heap.size W W' := by
  obtain ⟨acts, h1, h2⟩ := acts_rows h
  exact law_walk (treeParents_any a0 len0 cap0 acts (allOf W) h2 h1)
end Go.Proofs.Ytidkpfkkljcnaaa
