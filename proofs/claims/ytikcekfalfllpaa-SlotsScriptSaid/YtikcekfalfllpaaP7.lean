/- Slots: Drop, Set. -/
import Derived.Test.YtikcekfalfllpaaU0
import Derived.Test.YtikcekfalfllpaaP6
set_option linter.unusedVariables false
set_option linter.unusedSimpArgs false
namespace Go.Proofs.Ytikcekfalfllpaa
open Go.RowKit

theorem eqC_f {a b : CapT} (h : eqC a b = false) : a ≠ b := fun e => by rw [eqC_iff.2 e] at h; cases h
theorem keep_cut (A B l : List Chunk) (x : Chunk) : Keep ((A ++ x :: B) ++ l) ((A ++ B) ++ l) :=
  ⟨[x], by
    have h : (A ++ x :: B).Perm (x :: (A ++ B)) := List.perm_middle
    exact h.append_right l⟩
theorem filter_d {S : List NdS} {a : Int} : (S.filter fun x => decide (x.id ≠ a)).map NdS.d = (S.map NdS.d).filter fun x => decide (x.1 ≠ a) := by
  rw [List.filter_map]; rfl
set_option pp.deepTerms false
set_option pp.deepTerms.threshold 4
set_option maxHeartbeats 400000
set_option maxRecDepth 20000 in
theorem drop_any (b : Nat) (D : SD) (lq : List Chunk) (hq : IsS b D lq) (a : Int) (G : List Chunk) :
    Fn Try.prog 11 [.pointer (some ⟨b, 0, none⟩), .int .i64 a] (lq ++ G) fun v l' => v = .int .i64 (dropN D a).1 ∧ ∃ lq', IsS b (dropN D a).2 lq' ∧ l' = lq' ++ G := by
  have hq0 := hq
  obtain ⟨S, m, es, clock, rfl, hS⟩ := hq
  have hm1 : xC b m ∈ lq ++ G := List.mem_append_left _ hS.m1
  have hm2 : (m, mapO .i64 es clock) ∈ lq ++ G := List.mem_append_left _ hS.m2
  refine fn_of_body Try.func11 rfl rfl fun E => ?_
  simp only [argF, Try.ntmps11]
  obtain ⟨p, n0, cap, hlk, hn0⟩ := hS.look1 a
  cases hf : findK NdS.id S a with
  | none =>
    rw [show dropN (S.map NdS.d) a = (2, S.map NdS.d) by unfold dropN; rw [find_d, hf]; rfl]
    have hz : n0 = 0 := by
      unfold sizeD at hn0
      rw [find_d, hf] at hn0
      simp at hn0; omega
    repeat (first | (show OpsS _ _ _ _ _ _ (_ :: _) _ _ _; first | refine ozq ?_ | refine ozn ?_) | refine c_seq ?_ | refine p_then ?_ | refine c_region ?_ | refine s_nil ?_ | refine c_cond_t rfl ?_ | refine c_cond_f rfl ?_ | refine c_block ?_ | refine c_skip ?_ | refine c_exit ?_ | refine p_block ?_ | refine p_then_exit ?_ | refine p_block_here ?_ | refine p_block_on rfl ?_ | refine c_ret ?_ | refine p_then_ret ?_ | refine p_block_ret ?_ | refine p_end ?_ | refine c_if_t rfl (by omega) ?_ | refine c_if_f rfl (by omega) ?_)
    rw [hlk]
    repeat (first | (show OpsS _ _ _ _ _ _ (_ :: _) _ _ _; first | refine ozq ?_ | refine ozn ?_) | refine c_seq ?_ | refine p_then ?_ | refine c_region ?_ | refine s_nil ?_ | refine c_cond_t rfl ?_ | refine c_cond_f rfl ?_ | refine c_block ?_ | refine c_skip ?_ | refine c_exit ?_ | refine p_block ?_ | refine p_then_exit ?_ | refine p_block_here ?_ | refine p_block_on rfl ?_ | refine c_ret ?_ | refine p_then_ret ?_ | refine p_block_ret ?_ | refine p_end ?_ | refine c_if_t rfl (by omega) ?_ | refine c_if_f rfl (by omega) ?_)
    exact k_ret [] rfl .refl (by (repeat (first | apply ResS.nil | (apply rs_tmp; (· rfl)) | (apply rs_cell1; (· rfl); (· ((repeat (first | with_reducible apply List.mem_cons_self | with_reducible apply List.mem_cons_of_mem)); try with_reducible assumption)); (· rfl)) | (apply rs_cellA; (· rfl); (· ((repeat (first | with_reducible apply List.mem_cons_self | with_reducible apply List.mem_cons_of_mem)); try with_reducible assumption)); (· (repeat (first | with_reducible apply LSub.done | with_reducible apply LSub.take | with_reducible apply LSub.drop))))))) ⟨rfl, _, hq0, rfl⟩
  | some nd =>
    obtain ⟨hmem, hid⟩ := findK_some hf
    have hsz := hS.sz nd hmem
    have hz : n0 = nd.C.length := by
      unfold sizeD at hn0
      rw [find_d, hf] at hn0
      simp at hn0; omega
    obtain ⟨nd', hf', _, hnd⟩ := hS.look2 a hn0 (by omega)
    rw [hf] at hf'
    obtain rfl : nd = nd' := Option.some.inj hf'
    have hmb : nd.blk ∈ lq ++ G := List.mem_append_left _ (hS.m3 hmem)
    repeat (first | (show OpsS _ _ _ _ _ _ (_ :: _) _ _ _; first | refine ozq ?_ | refine ozn ?_) | refine c_seq ?_ | refine p_then ?_ | refine c_region ?_ | refine s_nil ?_ | refine c_cond_t rfl ?_ | refine c_cond_f rfl ?_ | refine c_block ?_ | refine c_skip ?_ | refine c_exit ?_ | refine p_block ?_ | refine p_then_exit ?_ | refine p_block_here ?_ | refine p_block_on rfl ?_ | refine c_ret ?_ | refine p_then_ret ?_ | refine p_block_ret ?_ | refine p_end ?_ | refine c_if_t rfl (by omega) ?_ | refine c_if_f rfl (by omega) ?_)
    rw [hnd]
    repeat (first | (show OpsS _ _ _ _ _ _ (_ :: _) _ _ _; first | refine ozq ?_ | refine ozn ?_) | refine c_seq ?_ | refine p_then ?_ | refine c_region ?_ | refine s_nil ?_ | refine c_cond_t rfl ?_ | refine c_cond_f rfl ?_ | refine c_block ?_ | refine c_skip ?_ | refine c_exit ?_ | refine p_block ?_ | refine p_then_exit ?_ | refine p_block_here ?_ | refine p_block_on rfl ?_ | refine c_ret ?_ | refine p_then_ret ?_ | refine p_block_ret ?_ | refine p_end ?_ | refine c_if_t rfl (by omega) ?_ | refine c_if_f rfl (by omega) ?_)
    rw [hnd]
    repeat (first | (show OpsS _ _ _ _ _ _ (_ :: _) _ _ _; first | refine ozq ?_ | refine ozn ?_) | refine c_seq ?_ | refine p_then ?_ | refine c_region ?_ | refine s_nil ?_ | refine c_cond_t rfl ?_ | refine c_cond_f rfl ?_ | refine c_block ?_ | refine c_skip ?_ | refine c_exit ?_ | refine p_block ?_ | refine p_then_exit ?_ | refine p_block_here ?_ | refine p_block_on rfl ?_ | refine c_ret ?_ | refine p_then_ret ?_ | refine p_block_ret ?_ | refine p_end ?_ | refine c_if_t rfl (by omega) ?_ | refine c_if_f rfl (by omega) ?_)
    refine k_loop (α := Nat) (fun k => [(0, .pointer (some ⟨b, 0, none⟩)), (1, .int .i64 a), (24, nd.val), (25, .int .i64 (nd.C.length : Nat)), (26, .int .i64 k)]) (fun _ => lq ++ G) (fun k => k ≤ nd.C.length ∧ ∀ c, c ∈ nd.C.take k → c = capZ) (fun k => nd.C.length - k) 0 ⟨Nat.zero_le _, by simp⟩ ⟨rfl, rfl, rfl, rfl, rfl, trivial⟩ .refl ?_
    rintro k ⟨hk, hz⟩
    by_cases hlt : k < nd.C.length
    · obtain ⟨c, hc⟩ : ∃ c, nd.C[k]? = some c := ⟨_, List.getElem?_eq_getElem hlt⟩
      obtain ⟨g1, g2⟩ := ccs_at hc
      repeat (first | (show OpsS _ _ _ _ _ _ (_ :: _) _ _ _; first | refine ozq ?_ | refine ozn ?_) | refine c_seq ?_ | refine p_then ?_ | refine c_region ?_ | refine s_nil ?_ | refine c_cond_t rfl ?_ | refine c_cond_f rfl ?_ | refine c_block ?_ | refine c_skip ?_ | refine c_exit ?_ | refine p_block ?_ | refine p_then_exit ?_ | refine p_block_here ?_ | refine p_block_on rfl ?_ | refine c_ret ?_ | refine p_then_ret ?_ | refine p_block_ret ?_ | refine p_end ?_ | refine c_if_t rfl (by omega) ?_ | refine c_if_f rfl (by omega) ?_)
      refine t_q (q_loadA (n := 8) rfl hmb g2 g1) rfl rfl rfl ?_
      repeat (first | (show OpsS _ _ _ _ _ _ (_ :: _) _ _ _; first | refine ozq ?_ | refine ozn ?_) | refine c_seq ?_ | refine p_then ?_ | refine c_region ?_ | refine s_nil ?_ | refine c_cond_t rfl ?_ | refine c_cond_f rfl ?_ | refine c_block ?_ | refine c_skip ?_ | refine c_exit ?_ | refine p_block ?_ | refine p_then_exit ?_ | refine p_block_here ?_ | refine p_block_on rfl ?_ | refine c_ret ?_ | refine p_then_ret ?_ | refine p_block_ret ?_ | refine p_end ?_ | refine c_if_t rfl (by omega) ?_ | refine c_if_f rfl (by omega) ?_)
      refine t_e e_alloc rfl rfl rfl ?_; rintro _ _ ⟨b6, _, rfl, rfl⟩
      repeat (first | (show OpsS _ _ _ _ _ _ (_ :: _) _ _ _; first | refine ozq ?_ | refine ozn ?_) | refine c_seq ?_ | refine p_then ?_ | refine c_region ?_ | refine s_nil ?_ | refine c_cond_t rfl ?_ | refine c_cond_f rfl ?_ | refine c_block ?_ | refine c_skip ?_ | refine c_exit ?_ | refine p_block ?_ | refine p_then_exit ?_ | refine p_block_here ?_ | refine p_block_on rfl ?_ | refine c_ret ?_ | refine p_then_ret ?_ | refine p_block_ret ?_ | refine p_end ?_ | refine c_if_t rfl (by omega) ?_ | refine c_if_f rfl (by omega) ?_)
      refine t_q (q_neagg (ys := encC capZ) rfl rfl (encC_k c) (encC_k _)) rfl rfl rfl ?_
      rw [show eqCells (encC c) (encC capZ) = eqC c capZ from rfl]
      cases he : eqC c capZ with
      | false =>
        rw [show dropN (S.map NdS.d) a = (16, S.map NdS.d) by
          unfold dropN
          rw [find_d, hf]
          simp only [Option.map_some]
          rw [if_neg fun h => by
            have := List.all_eq_true.1 h c (List.mem_of_getElem? hc)
            rw [he] at this; cases this]]
        repeat (first | (show OpsS _ _ _ _ _ _ (_ :: _) _ _ _; first | refine ozq ?_ | refine ozn ?_) | refine c_seq ?_ | refine p_then ?_ | refine c_region ?_ | refine s_nil ?_ | refine c_cond_t rfl ?_ | refine c_cond_f rfl ?_ | refine c_block ?_ | refine c_skip ?_ | refine c_exit ?_ | refine p_block ?_ | refine p_then_exit ?_ | refine p_block_here ?_ | refine p_block_on rfl ?_ | refine c_ret ?_ | refine p_then_ret ?_ | refine p_block_ret ?_ | refine p_end ?_ | refine c_if_t rfl (by omega) ?_ | refine c_if_f rfl (by omega) ?_)
        exact k_ret [] rfl (.drop .refl) (by (repeat (first | apply ResS.nil | (apply rs_tmp; (· rfl)) | (apply rs_cell1; (· rfl); (· ((repeat (first | with_reducible apply List.mem_cons_self | with_reducible apply List.mem_cons_of_mem)); try with_reducible assumption)); (· rfl)) | (apply rs_cellA; (· rfl); (· ((repeat (first | with_reducible apply List.mem_cons_self | with_reducible apply List.mem_cons_of_mem)); try with_reducible assumption)); (· (repeat (first | with_reducible apply LSub.done | with_reducible apply LSub.take | with_reducible apply LSub.drop))))))) ⟨rfl, _, hq0, rfl⟩
      | true =>
        repeat (first | (show OpsS _ _ _ _ _ _ (_ :: _) _ _ _; first | refine ozq ?_ | refine ozn ?_) | refine c_seq ?_ | refine p_then ?_ | refine c_region ?_ | refine s_nil ?_ | refine c_cond_t rfl ?_ | refine c_cond_f rfl ?_ | refine c_block ?_ | refine c_skip ?_ | refine c_exit ?_ | refine p_block ?_ | refine p_then_exit ?_ | refine p_block_here ?_ | refine p_block_on rfl ?_ | refine c_ret ?_ | refine p_then_ret ?_ | refine p_block_ret ?_ | refine p_end ?_ | refine c_if_t rfl (by omega) ?_ | refine c_if_f rfl (by omega) ?_)
        refine k_next (k + 1) ⟨by omega, fun x hx => ?_⟩ (by omega) ⟨rfl, rfl, rfl, rfl, rfl, trivial⟩ (.drop .refl)
        rw [List.take_add_one, hc] at hx
        rcases List.mem_append.1 hx with hx | hx
        · exact hz x hx
        · have : x = c := by simpa using hx
          rw [this]; exact eqC_iff.1 he
    · obtain rfl : k = nd.C.length := by omega
      rw [List.take_length] at hz
      have hall : nd.C.all (fun c => eqC c capZ) = true := List.all_eq_true.2 fun c hc => eqC_iff.2 (hz c hc)
      rw [show dropN (S.map NdS.d) a = (0, (S.map NdS.d).filter fun x => decide (x.1 ≠ a)) by
          unfold dropN
          rw [find_d, hf]
          simp only [Option.map_some]
          rw [if_pos hall]]
      obtain ⟨A, B, hAB, _, _⟩ := find_split hf
      have hfil : S.filter (fun x => decide (x.id ≠ a)) = A ++ B := by rw [hAB]; exact drop_split (by rw [← hAB]; exact hS.mb.asc) hid
      repeat (first | (show OpsS _ _ _ _ _ _ (_ :: _) _ _ _; first | refine ozq ?_ | refine ozn ?_) | refine c_seq ?_ | refine p_then ?_ | refine c_region ?_ | refine s_nil ?_ | refine c_cond_t rfl ?_ | refine c_cond_f rfl ?_ | refine c_block ?_ | refine c_skip ?_ | refine c_exit ?_ | refine p_block ?_ | refine p_then_exit ?_ | refine p_block_here ?_ | refine p_block_on rfl ?_ | refine c_ret ?_ | refine p_then_ret ?_ | refine p_block_ret ?_ | refine p_end ?_ | refine c_if_t rfl (by omega) ?_ | refine c_if_f rfl (by omega) ?_)
      rw [hS.eq]
      simp only [List.cons_append]
      refine t_n (e_delete (a := a) (es := es) (clock := clock) rfl rfl (.there .here)) rfl rfl ?_
      rintro _ _ ⟨rfl, rfl⟩
      repeat (first | (show OpsS _ _ _ _ _ _ (_ :: _) _ _ _; first | refine ozq ?_ | refine ozn ?_) | refine c_seq ?_ | refine p_then ?_ | refine c_region ?_ | refine s_nil ?_ | refine c_cond_t rfl ?_ | refine c_cond_f rfl ?_ | refine c_block ?_ | refine c_skip ?_ | refine c_exit ?_ | refine p_block ?_ | refine p_then_exit ?_ | refine p_block_here ?_ | refine p_block_on rfl ?_ | refine c_ret ?_ | refine p_then_ret ?_ | refine p_block_ret ?_ | refine p_end ?_ | refine c_if_t rfl (by omega) ?_ | refine c_if_f rfl (by omega) ?_)
      have hMB := hS.mb.drop a
      rw [hfil] at hMB
      refine k_ret [] rfl (l' := (xC b m :: (m, mapO .i64 (delE a es) clock) :: (A ++ B).map NdS.blk) ++ G) ?_ (by (repeat (first | apply ResS.nil | (apply rs_tmp; (· rfl)) | (apply rs_cell1; (· rfl); (· ((repeat (first | with_reducible apply List.mem_cons_self | with_reducible apply List.mem_cons_of_mem)); try with_reducible assumption)); (· rfl)) | (apply rs_cellA; (· rfl); (· ((repeat (first | with_reducible apply List.mem_cons_self | with_reducible apply List.mem_cons_of_mem)); try with_reducible assumption)); (· (repeat (first | with_reducible apply LSub.done | with_reducible apply LSub.take | with_reducible apply LSub.drop))))))) ⟨rfl, _, ⟨A ++ B, m, _, _, by rw [← filter_d, hfil], rfl, hMB, ?_⟩, rfl⟩
      · rw [hAB, List.map_append, List.map_cons, List.map_append]
        obtain ⟨X, hX⟩ := keep_cut (A.map NdS.blk) (B.map NdS.blk) G nd.blk
        exact ⟨X, (((hX.cons _).cons _).trans (by
          show (xC b m :: (m, mapO .i64 (delE a es) clock) :: (X ++ _)).Perm (X ++ (xC b m :: (m, mapO .i64 (delE a es) clock) :: _))
          exact (List.perm_append_comm_assoc X [xC b m, (m, mapO .i64 (delE a es) clock)] _).symm))⟩
      · intro x hx
        refine hS.sz x ?_
        rw [hAB]
        rcases List.mem_append.1 hx with hx | hx
        · exact List.mem_append_left _ hx
        · exact List.mem_append_right _ (.tail _ hx)
theorem put_d {A B : List NdS} {nd : NdS} {k : Nat} {c : CapT} (hs : (A ++ nd :: B).Pairwise fun x y => x.id < y.id) : putD ((A ++ nd :: B).map NdS.d) (nd.id, (k : Nat)) c = (A ++ { nd with C := nd.C.set k c } :: B).map NdS.d := by
  obtain ⟨_, h2, h3⟩ := List.pairwise_append.1 hs
  have h4 := (List.pairwise_cons.1 h2).1
  unfold putD
  simp only [List.map_append, List.map_cons, List.map_map]
  congr 1
  · apply List.map_congr_left
    intro x hx
    have := h3 x hx nd List.mem_cons_self
    show (if x.id = nd.id then _ else x.d) = x.d
    rw [if_neg (by omega)]
  · refine List.cons_eq_cons.2 ⟨?_, ?_⟩
    · rw [if_pos trivial]; rfl
    · apply List.map_congr_left
      intro x hx
      have := h4 x hx
      show (if x.id = nd.id then _ else x.d) = x.d
      rw [if_neg (by omega)]
theorem set_any (b : Nat) (D : SD) (lq : List Chunk) (hq : IsS b D lq) (s : slT) (c : CapT) (G : List Chunk) :
    Fn Try.prog 15 [.pointer (some ⟨b, 0, none⟩), .agg (List.toArray (encT s)), .agg (List.toArray (encC c))] (lq ++ G) fun v l' => v = .int .i64 (setD D s c).1 ∧ ∃ lq', IsS b (setD D s c).2 lq' ∧ l' = lq' ++ G := by
  have hq0 := hq
  obtain ⟨S, m, es, clock, rfl, hS⟩ := hq
  refine fn_of_body Try.func15 rfl rfl fun E => ?_
  simp only [argF, Try.ntmps15]
  repeat (first | (show OpsS _ _ _ _ _ _ (_ :: _) _ _ _; first | refine ozq ?_ | refine ozn ?_) | refine c_seq ?_ | refine p_then ?_ | refine c_region ?_ | refine s_nil ?_ | refine c_cond_t rfl ?_ | refine c_cond_f rfl ?_ | refine c_block ?_ | refine c_skip ?_ | refine p_block ?_ | refine p_block_here ?_ | refine p_block_on rfl ?_ | refine c_ret ?_ | refine p_then_ret ?_ | refine p_block_ret ?_ | refine p_end ?_ | refine c_if_t rfl (by omega) ?_ | refine c_if_f rfl (by omega) ?_)
  (first | refine t_e (e_box1 rfl rfl) rfl rfl rfl ?_ | refine t_e (e_boxA rfl) rfl rfl rfl ?_); rintro _ _ ⟨b4, _, rfl, rfl⟩
  repeat (first | (show OpsS _ _ _ _ _ _ (_ :: _) _ _ _; first | refine ozq ?_ | refine ozn ?_) | refine c_seq ?_ | refine p_then ?_ | refine c_region ?_ | refine s_nil ?_ | refine c_cond_t rfl ?_ | refine c_cond_f rfl ?_ | refine c_block ?_ | refine c_skip ?_ | refine p_block ?_ | refine p_block_here ?_ | refine p_block_on rfl ?_ | refine c_ret ?_ | refine p_then_ret ?_ | refine p_block_ret ?_ | refine p_end ?_ | refine c_if_t rfl (by omega) ?_ | refine c_if_f rfl (by omega) ?_)
  (first | refine t_e (e_box1 rfl rfl) rfl rfl rfl ?_ | refine t_e (e_boxA rfl) rfl rfl rfl ?_); rintro _ _ ⟨b5, _, rfl, rfl⟩
  repeat (first | (show OpsS _ _ _ _ _ _ (_ :: _) _ _ _; first | refine ozq ?_ | refine ozn ?_) | refine c_seq ?_ | refine p_then ?_ | refine c_region ?_ | refine s_nil ?_ | refine c_cond_t rfl ?_ | refine c_cond_f rfl ?_ | refine c_block ?_ | refine c_skip ?_ | refine p_block ?_ | refine p_block_here ?_ | refine p_block_on rfl ?_ | refine c_ret ?_ | refine p_then_ret ?_ | refine p_block_ret ?_ | refine p_end ?_ | refine c_if_t rfl (by omega) ?_ | refine c_if_f rfl (by omega) ?_)
  refine t_q (q_call rfl rfl fun l2 hl => at_any b _ S m clock es lq rfl hS s l2 fun c hc => hl c (.tail _ (.tail _ (List.mem_append_left _ hc)))) rfl rfl rfl ?_
  cases hok : okD (S.map NdS.d) s with
  | false =>
    rw [show setD (S.map NdS.d) s c = (3, S.map NdS.d) by unfold setD; rw [hok]; rfl]
    simp only [Bool.false_eq_true, if_false]
    repeat (first | (show OpsS _ _ _ _ _ _ (_ :: _) _ _ _; first | refine ozq ?_ | refine ozn ?_) | refine c_seq ?_ | refine p_then ?_ | refine c_region ?_ | refine s_nil ?_ | refine c_cond_t rfl ?_ | refine c_cond_f rfl ?_ | refine c_block ?_ | refine c_skip ?_ | refine p_block ?_ | refine p_block_here ?_ | refine p_block_on rfl ?_ | refine c_ret ?_ | refine p_then_ret ?_ | refine p_block_ret ?_ | refine p_end ?_ | refine c_if_t rfl (by omega) ?_ | refine c_if_f rfl (by omega) ?_)
    exact k_ret [] rfl (.drop (.drop .refl)) (by (repeat (first | apply ResS.nil | (apply rs_tmp; (· rfl)) | (apply rs_cell1; (· rfl); (· ((repeat (first | with_reducible apply List.mem_cons_self | with_reducible apply List.mem_cons_of_mem)); try with_reducible assumption)); (· rfl)) | (apply rs_cellA; (· rfl); (· ((repeat (first | with_reducible apply List.mem_cons_self | with_reducible apply List.mem_cons_of_mem)); try with_reducible assumption)); (· (repeat (first | with_reducible apply LSub.done | with_reducible apply LSub.take | with_reducible apply LSub.drop))))))) ⟨rfl, _, hq0, rfl⟩
  | true =>
    have hok2 := hok
    unfold okD at hok2
    rw [Bool.and_eq_true, decide_eq_true_eq, decide_eq_true_eq] at hok2
    obtain ⟨p, n, cap, hlk, hn⟩ := hS.look1 s.1
    obtain ⟨nd, hf, hlen, hnd⟩ := hS.look2 s.1 hn (by omega)
    obtain ⟨k, hk⟩ : ∃ k : Nat, s.2 = (k : Nat) := ⟨s.2.toNat, by omega⟩
    obtain ⟨x, hx⟩ : ∃ x, nd.C[k]? = some x := ⟨_, List.getElem?_eq_getElem (by omega)⟩
    rw [show atP S s = some ⟨nd.gb, k * 8, none⟩ by unfold atP; rw [hok, hf, hk]; rfl]
    simp only [if_true]
    cases hM : mayC c with
    | false =>
      rw [show setD (S.map NdS.d) s c = (5, S.map NdS.d) by unfold setD; rw [hok, hM]; rfl]
      repeat (first | (show OpsS _ _ _ _ _ _ (_ :: _) _ _ _; first | refine ozq ?_ | refine ozn ?_) | refine c_seq ?_ | refine p_then ?_ | refine c_region ?_ | refine s_nil ?_ | refine c_cond_t rfl ?_ | refine c_cond_f rfl ?_ | refine c_block ?_ | refine c_skip ?_ | refine p_block ?_ | refine p_block_here ?_ | refine p_block_on rfl ?_ | refine c_ret ?_ | refine p_then_ret ?_ | refine p_block_ret ?_ | refine p_end ?_ | refine c_if_t rfl (by omega) ?_ | refine c_if_f rfl (by omega) ?_)
      refine t_q (q_call rfl rfl fun l2 _ => mayC_any c l2) rfl rfl rfl ?_
      rw [hM]
      repeat (first | (show OpsS _ _ _ _ _ _ (_ :: _) _ _ _; first | refine ozq ?_ | refine ozn ?_) | refine c_seq ?_ | refine p_then ?_ | refine c_region ?_ | refine s_nil ?_ | refine c_cond_t rfl ?_ | refine c_cond_f rfl ?_ | refine c_block ?_ | refine c_skip ?_ | refine p_block ?_ | refine p_block_here ?_ | refine p_block_on rfl ?_ | refine c_ret ?_ | refine p_then_ret ?_ | refine p_block_ret ?_ | refine p_end ?_ | refine c_if_t rfl (by omega) ?_ | refine c_if_f rfl (by omega) ?_)
      exact k_ret [] rfl (.drop (.drop .refl)) (by (repeat (first | apply ResS.nil | (apply rs_tmp; (· rfl)) | (apply rs_cell1; (· rfl); (· ((repeat (first | with_reducible apply List.mem_cons_self | with_reducible apply List.mem_cons_of_mem)); try with_reducible assumption)); (· rfl)) | (apply rs_cellA; (· rfl); (· ((repeat (first | with_reducible apply List.mem_cons_self | with_reducible apply List.mem_cons_of_mem)); try with_reducible assumption)); (· (repeat (first | with_reducible apply LSub.done | with_reducible apply LSub.take | with_reducible apply LSub.drop))))))) ⟨rfl, _, hq0, rfl⟩
    | true =>
      rw [show setD (S.map NdS.d) s c = (0, putD (S.map NdS.d) s c) by unfold setD; rw [hok, hM]; rfl]
      repeat (first | (show OpsS _ _ _ _ _ _ (_ :: _) _ _ _; first | refine ozq ?_ | refine ozn ?_) | refine c_seq ?_ | refine p_then ?_ | refine c_region ?_ | refine s_nil ?_ | refine c_cond_t rfl ?_ | refine c_cond_f rfl ?_ | refine c_block ?_ | refine c_skip ?_ | refine p_block ?_ | refine p_block_here ?_ | refine p_block_on rfl ?_ | refine c_ret ?_ | refine p_then_ret ?_ | refine p_block_ret ?_ | refine p_end ?_ | refine c_if_t rfl (by omega) ?_ | refine c_if_f rfl (by omega) ?_)
      refine t_q (q_call rfl rfl fun l2 _ => mayC_any c l2) rfl rfl rfl ?_
      rw [hM]
      repeat (first | (show OpsS _ _ _ _ _ _ (_ :: _) _ _ _; first | refine ozq ?_ | refine ozn ?_) | refine c_seq ?_ | refine p_then ?_ | refine c_region ?_ | refine s_nil ?_ | refine c_cond_t rfl ?_ | refine c_cond_f rfl ?_ | refine c_block ?_ | refine c_skip ?_ | refine p_block ?_ | refine p_block_here ?_ | refine p_block_on rfl ?_ | refine c_ret ?_ | refine p_then_ret ?_ | refine p_block_ret ?_ | refine p_end ?_ | refine c_if_t rfl (by omega) ?_ | refine c_if_f rfl (by omega) ?_)
      obtain ⟨A, B, hAB, hid, _⟩ := find_split hf
      obtain ⟨g1, g2⟩ := ccs_at hx
      have hmb : S.map NdS.blk = A.map NdS.blk ++ nd.blk :: B.map NdS.blk := by rw [hAB, List.map_append, List.map_cons]
      rw [hS.eq, hmb]
      simp only [List.cons_append, List.append_assoc]
      refine t_n (e_storeA (b := nd.gb) (off := k * 8) (cs := List.toArray (ccs nd.C)) (n := 8) rfl rfl rfl (by simp [Value.oneCell']) (.there (.there (.there (.there (upd_mid _ _ _ _ _))))) g2) rfl rfl ?_
      rintro _ _ ⟨rfl, rfl⟩
      rw [show setFrom (List.toArray (ccs nd.C)) (k * 8) (List.toArray (encC c)).toList = List.toArray (ccs (nd.C.set k c)) from set_ccs hx]
      repeat (first | (show OpsS _ _ _ _ _ _ (_ :: _) _ _ _; first | refine ozq ?_ | refine ozn ?_) | refine c_seq ?_ | refine p_then ?_ | refine c_region ?_ | refine s_nil ?_ | refine c_cond_t rfl ?_ | refine c_cond_f rfl ?_ | refine c_block ?_ | refine c_skip ?_ | refine p_block ?_ | refine p_block_here ?_ | refine p_block_on rfl ?_ | refine c_ret ?_ | refine p_then_ret ?_ | refine p_block_ret ?_ | refine p_end ?_ | refine c_if_t rfl (by omega) ?_ | refine c_if_f rfl (by omega) ?_)
      have hs : s = (nd.id, ((k : Nat) : Int)) := by rw [hid, ← hk]
      refine k_ret [] rfl (l' := (xC b m :: (m, mapO .i64 es clock) :: (A ++ { nd with C := nd.C.set k c } :: B).map NdS.blk) ++ G) (.drop (.drop (by rw [List.map_append, List.map_cons]; exact .of_perm (.of_eq (by simp))))) (by (repeat (first | apply ResS.nil | (apply rs_tmp; (· rfl)) | (apply rs_cell1; (· rfl); (· ((repeat (first | with_reducible apply List.mem_cons_self | with_reducible apply List.mem_cons_of_mem)); try with_reducible assumption)); (· rfl)) | (apply rs_cellA; (· rfl); (· ((repeat (first | with_reducible apply List.mem_cons_self | with_reducible apply List.mem_cons_of_mem)); try with_reducible assumption)); (· (repeat (first | with_reducible apply LSub.done | with_reducible apply LSub.take | with_reducible apply LSub.drop))))))) ⟨rfl, _, ⟨A ++ { nd with C := nd.C.set k c } :: B, m, es, clock, ?_, rfl, ?_, ?_⟩, rfl⟩
      · rw [hs, hAB, put_d (by rw [← hAB]; exact hS.mb.asc)]
      · have hm := hS.mb
        rw [hAB] at hm
        exact hm.repl rfl (by simp [NdS.val])
      · intro y hy
        have h1 := hS.sz
        rw [hAB] at h1
        rcases List.mem_append.1 hy with hy | hy
        · exact h1 y (List.mem_append_left _ hy)
        · rcases List.mem_cons.1 hy with rfl | hy
          · have := h1 nd (List.mem_append_right _ List.mem_cons_self)
            simpa using this
          · exact h1 y (List.mem_append_right _ (.tail _ hy))
end Go.Proofs.Ytikcekfalfllpaa
