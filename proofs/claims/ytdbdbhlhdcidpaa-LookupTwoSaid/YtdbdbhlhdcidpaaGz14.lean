/- lookup: Resolve and Path. Chapter 16's own answer: take, Path, Resolve. Blocks in another order, told by counting; calls on blocks that stand further behind. Laws of my own, no program's. Laws that the statement's proof leans on. -/
import Derived.Test.YtdbdbhlhdcidpaaGz4
import Derived.Test.YtdbdbhlhdcidpaaGz13
/- lookup: Resolve and Path. -/
-- GU
set_option linter.unusedVariables false
set_option linter.unusedSimpArgs false
namespace Go.Proofs.Ytdbdbhlhdcidpaa
open Go.RowKit
set_option maxRecDepth 20000

theorem lastD_snoc (pre : List stT) (x : stT) (d : Int) : lastD (pre ++ [x]) d = x := by simp [lastD]
theorem walk_zero (D : SD) (S : Ar.ArT) (addr : Nat) : ∀ (f : Nat) (c : CapT) (left : Int) (pre : List stT) (x : stT), pre ++ [x] <+: walkL D S addr f c left → x.2 = 0 → walkL D S addr f c left = pre ++ [x]
  | 0, c, left, pre, x, h, _ => by
    have := h.length_le
    simp [walkL] at this
  | f + 1, c, left, pre, x, h, hx => by
    by_cases hl : left > 0
    · cases hs : stepD D S addr c left with
      | none => rw [walk_stop hs] at h; have := h.length_le; simp at this
      | some y =>
        rw [walk_on hl hs] at h ⊢
        cases pre with
        | nil =>
          obtain ⟨t, ht⟩ := h
          simp only [List.nil_append, List.cons_append, List.cons.injEq] at ht
          rw [← ht.1, walk_end (by omega)]; rfl
        | cons p pre =>
          obtain ⟨t, ht⟩ := h
          simp only [List.cons_append, List.cons.injEq] at ht
          rw [walk_zero D S addr f y.2 y.1.2 pre x ⟨t, ht.2⟩ hx, ← ht.1]; rfl
    · rw [walk_end (by omega)] at h; have := h.length_le; simp at this
abbrev stC (B : Nat) (y : stT) : Chunk := (B, .cells (List.toArray (encS y)) 78 (0, 0))
theorem set_st (c d : stT) : setFrom (List.toArray (encS c)) 0 (List.toArray (encS d)).toList = List.toArray (encS d) := by simp [setFrom, encS]
def tcs (L : List slT) : List Value := L.flatMap encT
theorem tcs_snoc (L : List slT) (t : slT) : tcs (L ++ [t]) = tcs L ++ encT t := by simp [tcs]
set_option pp.deepTerms false
set_option pp.deepTerms.threshold 4
set_option maxHeartbeats 400000
theorem resolve_any (bs ba : Nat) (D : SD) (S : Ar.ArT) (lq la : List Chunk) (hq : IsS bs D lq) (hA : Ar.IsA ba S la) (hR : Rad S) (addr : Nat) (haddr : addr < 18446744073709551616) (root : CapT) (depth : Int) (l : List Chunk) (h1 : ∀ c, c ∈ lq → c ∈ l) (h2 : ∀ c, c ∈ la → c ∈ l) :
    Fn Try.prog 10 [.pointer (some ⟨bs, 0, none⟩), .pointer (some ⟨ba, 0, none⟩), .agg (List.toArray (encC root)), .int .u64 (addr : Nat), .int .i64 depth] l fun v l' => v = .tuple #[.agg (List.toArray (encT (resD D S root addr depth).1)), .int .i64 (resD D S root addr depth).2] ∧ l' = l := by
  refine fn_of_body Try.func10 rfl rfl fun E => ?_
  simp only [argF, Try.ntmps10]
  repeat (first | (show OpsS _ _ _ _ _ _ (_ :: _) _ _ _; first | refine ozq ?_ | refine ozn ?_) | refine c_seq ?_ | refine p_then ?_ | refine c_region ?_ | refine s_nil ?_ | refine c_cond_t rfl ?_ | refine c_cond_f rfl ?_ | refine c_block ?_ | refine c_skip ?_ | refine c_exit ?_ | refine p_block ?_ | refine p_then_exit ?_ | refine p_block_here ?_ | refine p_block_on rfl ?_ | refine c_ret ?_ | refine p_then_ret ?_ | refine p_block_ret ?_ | refine c_scope ?_ | refine c_label ?_ | refine p_scope ?_ | refine p_scope_ret ?_ | refine p_scope_exit ?_ | refine p_end ?_ | refine c_if_t rfl (by omega) ?_ | refine c_if_f rfl (by omega) ?_)
  (first | refine t_e (e_box1 rfl rfl) rfl rfl rfl ?_ | refine t_e (e_boxA rfl) rfl rfl rfl ?_); rintro _ _ ⟨b7, _, rfl, rfl⟩
  repeat (first | (show OpsS _ _ _ _ _ _ (_ :: _) _ _ _; first | refine ozq ?_ | refine ozn ?_) | refine c_seq ?_ | refine p_then ?_ | refine c_region ?_ | refine s_nil ?_ | refine c_cond_t rfl ?_ | refine c_cond_f rfl ?_ | refine c_block ?_ | refine c_skip ?_ | refine c_exit ?_ | refine p_block ?_ | refine p_then_exit ?_ | refine p_block_here ?_ | refine p_block_on rfl ?_ | refine c_ret ?_ | refine p_then_ret ?_ | refine p_block_ret ?_ | refine c_scope ?_ | refine c_label ?_ | refine p_scope ?_ | refine p_scope_ret ?_ | refine p_scope_exit ?_ | refine p_end ?_ | refine c_if_t rfl (by omega) ?_ | refine c_if_f rfl (by omega) ?_)
  refine t_e e_alloc rfl rfl rfl ?_; rintro _ _ ⟨b10, _, rfl, rfl⟩
  repeat (first | (show OpsS _ _ _ _ _ _ (_ :: _) _ _ _; first | refine ozq ?_ | refine ozn ?_) | refine c_seq ?_ | refine p_then ?_ | refine c_region ?_ | refine s_nil ?_ | refine c_cond_t rfl ?_ | refine c_cond_f rfl ?_ | refine c_block ?_ | refine c_skip ?_ | refine c_exit ?_ | refine p_block ?_ | refine p_then_exit ?_ | refine p_block_here ?_ | refine p_block_on rfl ?_ | refine c_ret ?_ | refine p_then_ret ?_ | refine p_block_ret ?_ | refine c_scope ?_ | refine c_label ?_ | refine p_scope ?_ | refine p_scope_ret ?_ | refine p_scope_exit ?_ | refine p_end ?_ | refine c_if_t rfl (by omega) ?_ | refine c_if_f rfl (by omega) ?_)
  refine t_q (q_call rfl rfl fun l2 _ => bad_any bs ba addr haddr depth l2) rfl rfl rfl ?_
  by_cases hb : badD addr depth
  · rw [if_pos hb, show resD D S root addr depth = ((0, 0), 3) by unfold resD; rw [if_pos hb]]
    repeat (first | (show OpsS _ _ _ _ _ _ (_ :: _) _ _ _; first | refine ozq ?_ | refine ozn ?_) | refine c_seq ?_ | refine p_then ?_ | refine c_region ?_ | refine s_nil ?_ | refine c_cond_t rfl ?_ | refine c_cond_f rfl ?_ | refine c_block ?_ | refine c_skip ?_ | refine c_exit ?_ | refine p_block ?_ | refine p_then_exit ?_ | refine p_block_here ?_ | refine p_block_on rfl ?_ | refine c_ret ?_ | refine p_then_ret ?_ | refine p_block_ret ?_ | refine c_scope ?_ | refine c_label ?_ | refine p_scope ?_ | refine p_scope_ret ?_ | refine p_scope_exit ?_ | refine p_end ?_ | refine c_if_t rfl (by omega) ?_ | refine c_if_f rfl (by omega) ?_)
    exact k_ret2 [] (slC b10 (0, 0) :: l) rfl (l' := l) (by ((try simp only [List.cons_append, List.nil_append, List.map_cons, List.map_nil]); repeat (first | with_reducible apply Keep.refl | (apply Keep.pick; · (repeat (first | apply Pick.here | apply Pick.there))) | apply Keep.drop))) (by (repeat (first | apply ResS.nil | (apply rs_tmp; (· rfl)) | (apply rs_cell1; (· rfl); (· ((repeat (first | with_reducible apply List.mem_cons_self | with_reducible apply List.mem_cons_of_mem)); try with_reducible assumption)); (· rfl)) | (apply rs_cellA; (· rfl); (· ((repeat (first | with_reducible apply List.mem_cons_self | with_reducible apply List.mem_cons_of_mem)); try with_reducible assumption)); (· (repeat (first | with_reducible apply LSub.done | with_reducible apply LSub.take | with_reducible apply LSub.drop))))))) (.drop .refl) ⟨rfl, rfl⟩
  rw [if_neg hb]
  have hd12 : depth ≤ 12 := Decidable.byContradiction fun h => hb (.inr (.inl (by omega)))
  have hd1 : 1 ≤ depth := Decidable.byContradiction fun h => hb (.inl (by omega))
  repeat (first | (show OpsS _ _ _ _ _ _ (_ :: _) _ _ _; first | refine ozq ?_ | refine ozn ?_) | refine c_seq ?_ | refine p_then ?_ | refine c_region ?_ | refine s_nil ?_ | refine c_cond_t rfl ?_ | refine c_cond_f rfl ?_ | refine c_block ?_ | refine c_skip ?_ | refine c_exit ?_ | refine p_block ?_ | refine p_then_exit ?_ | refine p_block_here ?_ | refine p_block_on rfl ?_ | refine c_ret ?_ | refine p_then_ret ?_ | refine p_block_ret ?_ | refine c_scope ?_ | refine c_label ?_ | refine p_scope ?_ | refine p_scope_ret ?_ | refine p_scope_exit ?_ | refine p_end ?_ | refine c_if_t rfl (by omega) ?_ | refine c_if_f rfl (by omega) ?_)
  refine t_e e_alloc rfl rfl rfl ?_; rintro _ _ ⟨b13, _, rfl, rfl⟩
  repeat (first | (show OpsS _ _ _ _ _ _ (_ :: _) _ _ _; first | refine ozq ?_ | refine ozn ?_) | refine c_seq ?_ | refine p_then ?_ | refine c_region ?_ | refine s_nil ?_ | refine c_cond_t rfl ?_ | refine c_cond_f rfl ?_ | refine c_block ?_ | refine c_skip ?_ | refine c_exit ?_ | refine p_block ?_ | refine p_then_exit ?_ | refine p_block_here ?_ | refine p_block_on rfl ?_ | refine c_ret ?_ | refine p_then_ret ?_ | refine p_block_ret ?_ | refine c_scope ?_ | refine c_label ?_ | refine p_scope ?_ | refine p_scope_ret ?_ | refine p_scope_exit ?_ | refine p_end ?_ | refine c_if_t rfl (by omega) ?_ | refine c_if_f rfl (by omega) ?_)
  refine t_e (e_call0 rfl rfl (steps_any bs ba addr root depth _)) rfl rfl rfl ?_
  rintro _ _ ⟨B1, B2, B3, B4, B5, rfl, rfl⟩
  repeat (first | (show OpsS _ _ _ _ _ _ (_ :: _) _ _ _; first | refine ozq ?_ | refine ozn ?_) | refine c_seq ?_ | refine p_then ?_ | refine c_region ?_ | refine s_nil ?_ | refine c_cond_t rfl ?_ | refine c_cond_f rfl ?_ | refine c_block ?_ | refine c_skip ?_ | refine c_exit ?_ | refine p_block ?_ | refine p_then_exit ?_ | refine p_block_here ?_ | refine p_block_on rfl ?_ | refine c_ret ?_ | refine p_then_ret ?_ | refine p_block_ret ?_ | refine c_scope ?_ | refine c_label ?_ | refine p_scope ?_ | refine p_scope_ret ?_ | refine p_scope_exit ?_ | refine p_end ?_ | refine c_if_t rfl (by omega) ?_ | refine c_if_f rfl (by omega) ?_)
  obtain ⟨L, hL⟩ : ∃ L, walkL D S addr 13 root depth = L := ⟨_, rfl⟩
  have hres : resD D S root addr depth = if (lastD L depth).2 > 0 then ((0, 0), 12) else ((lastD L depth).1, 0) := by unfold resD; rw [if_neg hb, hL]
  refine c_range (α := stT) (ps := [32]) (lb := [.pointer (some ⟨B1, 0, none⟩), .pointer (some ⟨B2, 0, none⟩), .pointer (some ⟨B3, 0, none⟩), .pointer (some ⟨B4, 0, none⟩), .pointer (some ⟨B5, 0, none⟩)]) rfl (steps_iter B1 B2 B3 B4 B5 bs ba D S lq la hq hA hR addr haddr root depth hd12) (fun _ => rfl) rfl
    (fun pre l => l = [inC B2 depth, u64C B4 addr, capC B1 root, ptA B3 ba, ptS B5 bs, stC b13 (lastD pre depth)] ∧ True)
    (fun c pre l => c = .exit 0 ∧ ∃ (pre' : List stT) (x : stT), pre = pre' ++ [x] ∧ x.2 = 0 ∧ l = [stC b13 x])
    _ (slC b10 (0, 0) :: capC b7 root :: l) (fun pre l2 X2 hX h => ⟨fun x hx => by rw [h.1]; exact List.mem_append_left _ (by simp only [List.mem_cons, List.not_mem_nil, or_false] at hx ⊢; rcases hx with h | h | h | h | h <;> simp [h]), fun c hc => List.mem_append_right _ (hX _ (.tail _ (.tail _ (h1 _ hc)))), fun c hc => List.mem_append_right _ (hX _ (.tail _ (.tail _ (h2 _ hc))))⟩) (by ((try simp only [List.cons_append, List.nil_append, List.map_cons, List.map_nil]); repeat (first | with_reducible apply Keep.refl | (apply Keep.pick; · (repeat (first | apply Pick.here | apply Pick.there))) | apply Keep.drop))) ⟨rfl, trivial⟩ ?_ ?_ ?_
  · rintro E r0 rec pre x l' T ⟨fn, tmps, D0, rfl⟩ hT ⟨rfl, _⟩ hsp
    simp only [putPs, List.cons_append, List.nil_append]
    repeat (first | (show OpsS _ _ _ _ _ _ (_ :: _) _ _ _; first | refine ozq ?_ | refine ozn ?_) | refine c_seq ?_ | refine p_then ?_ | refine c_region ?_ | refine s_nil ?_ | refine c_cond_t rfl ?_ | refine c_cond_f rfl ?_ | refine c_block ?_ | refine c_skip ?_ | refine c_exit ?_ | refine p_block ?_ | refine p_then_exit ?_ | refine p_block_here ?_ | refine p_block_on rfl ?_ | refine c_ret ?_ | refine p_then_ret ?_ | refine p_block_ret ?_ | refine c_scope ?_ | refine c_label ?_ | refine p_scope ?_ | refine p_scope_ret ?_ | refine p_scope_exit ?_ | refine p_end ?_ | refine c_if_t rfl (by omega) ?_ | refine c_if_f rfl (by omega) ?_)
    refine t_e e_alloc rfl rfl rfl ?_; rintro _ _ ⟨b14, _, rfl, rfl⟩
    repeat (first | (show OpsS _ _ _ _ _ _ (_ :: _) _ _ _; first | refine ozq ?_ | refine ozn ?_) | refine c_seq ?_ | refine p_then ?_ | refine c_region ?_ | refine s_nil ?_ | refine c_cond_t rfl ?_ | refine c_cond_f rfl ?_ | refine c_block ?_ | refine c_skip ?_ | refine c_exit ?_ | refine p_block ?_ | refine p_then_exit ?_ | refine p_block_here ?_ | refine p_block_on rfl ?_ | refine c_ret ?_ | refine p_then_ret ?_ | refine p_block_ret ?_ | refine c_scope ?_ | refine c_label ?_ | refine p_scope ?_ | refine p_scope_ret ?_ | refine p_scope_exit ?_ | refine p_end ?_ | refine c_if_t rfl (by omega) ?_ | refine c_if_f rfl (by omega) ?_)
    refine p_begin (by (repeat (first | apply Upd.here | apply Upd.there))) ?_
    repeat (first | (show OpsS _ _ _ _ _ _ (_ :: _) _ _ _; first | refine ozq ?_ | refine ozn ?_) | refine c_seq ?_ | refine p_then ?_ | refine c_region ?_ | refine s_nil ?_ | refine c_cond_t rfl ?_ | refine c_cond_f rfl ?_ | refine c_block ?_ | refine c_skip ?_ | refine c_exit ?_ | refine p_block ?_ | refine p_then_exit ?_ | refine p_block_here ?_ | refine p_block_on rfl ?_ | refine c_ret ?_ | refine p_then_ret ?_ | refine p_block_ret ?_ | refine c_scope ?_ | refine c_label ?_ | refine p_scope ?_ | refine p_scope_ret ?_ | refine p_scope_exit ?_ | refine p_end ?_ | refine c_if_t rfl (by omega) ?_ | refine c_if_f rfl (by omega) ?_)
    by_cases hy : x.2 = 0
    · repeat (first | (show OpsS _ _ _ _ _ _ (_ :: _) _ _ _; first | refine ozq ?_ | refine ozn ?_) | refine c_seq ?_ | refine p_then ?_ | refine c_region ?_ | refine s_nil ?_ | refine c_cond_t rfl ?_ | refine c_cond_f rfl ?_ | refine c_block ?_ | refine c_skip ?_ | refine c_exit ?_ | refine p_block ?_ | refine p_then_exit ?_ | refine p_block_here ?_ | refine p_block_on rfl ?_ | refine c_ret ?_ | refine p_then_ret ?_ | refine p_block_ret ?_ | refine c_scope ?_ | refine c_label ?_ | refine p_scope ?_ | refine p_scope_ret ?_ | refine p_scope_exit ?_ | refine p_end ?_ | refine c_if_t rfl (by omega) ?_ | refine c_if_f rfl (by omega) ?_)
      refine p_round_exit [stC b13 x] (by ((try simp only [List.cons_append, List.nil_append, List.map_cons, List.map_nil]); repeat (first | with_reducible apply Keep.refl | (apply Keep.pick; · (repeat (first | apply Pick.here | apply Pick.there))) | apply Keep.drop))) ⟨rfl, pre, x, rfl, hy, rfl⟩
    · repeat (first | (show OpsS _ _ _ _ _ _ (_ :: _) _ _ _; first | refine ozq ?_ | refine ozn ?_) | refine c_seq ?_ | refine p_then ?_ | refine c_region ?_ | refine s_nil ?_ | refine c_cond_t rfl ?_ | refine c_cond_f rfl ?_ | refine c_block ?_ | refine c_skip ?_ | refine c_exit ?_ | refine p_block ?_ | refine p_then_exit ?_ | refine p_block_here ?_ | refine p_block_on rfl ?_ | refine c_ret ?_ | refine p_then_ret ?_ | refine p_block_ret ?_ | refine c_scope ?_ | refine c_label ?_ | refine p_scope ?_ | refine p_scope_ret ?_ | refine p_scope_exit ?_ | refine p_end ?_ | refine c_if_t rfl (by omega) ?_ | refine c_if_f rfl (by omega) ?_)
      refine p_round [inC B2 depth, u64C B4 addr, capC B1 root, ptA B3 ba, ptS B5 bs, stC b13 x] (by ((try simp only [List.cons_append, List.nil_append, List.map_cons, List.map_nil]); repeat (first | with_reducible apply Keep.refl | (apply Keep.pick; · (repeat (first | apply Pick.here | apply Pick.there))) | apply Keep.drop))) ⟨by rw [lastD_snoc], trivial⟩
  · rintro D0 xs l' rfl ⟨rfl, _⟩
    rw [hL] at *
    simp only [List.cons_append, List.nil_append]
    repeat (first | (show OpsS _ _ _ _ _ _ (_ :: _) _ _ _; first | refine ozq ?_ | refine ozn ?_) | refine c_seq ?_ | refine p_then ?_ | refine c_region ?_ | refine s_nil ?_ | refine c_cond_t rfl ?_ | refine c_cond_f rfl ?_ | refine c_block ?_ | refine c_skip ?_ | refine c_exit ?_ | refine p_block ?_ | refine p_then_exit ?_ | refine p_block_here ?_ | refine p_block_on rfl ?_ | refine c_ret ?_ | refine p_then_ret ?_ | refine p_block_ret ?_ | refine c_scope ?_ | refine c_label ?_ | refine p_scope ?_ | refine p_scope_ret ?_ | refine p_scope_exit ?_ | refine p_end ?_ | refine c_if_t rfl (by omega) ?_ | refine c_if_f rfl (by omega) ?_)
    by_cases hz : (lastD L depth).2 > 0
    · rw [hres, if_pos hz]
      repeat (first | (show OpsS _ _ _ _ _ _ (_ :: _) _ _ _; first | refine ozq ?_ | refine ozn ?_) | refine c_seq ?_ | refine p_then ?_ | refine c_region ?_ | refine s_nil ?_ | refine c_cond_t rfl ?_ | refine c_cond_f rfl ?_ | refine c_block ?_ | refine c_skip ?_ | refine c_exit ?_ | refine p_block ?_ | refine p_then_exit ?_ | refine p_block_here ?_ | refine p_block_on rfl ?_ | refine c_ret ?_ | refine p_then_ret ?_ | refine p_block_ret ?_ | refine c_scope ?_ | refine c_label ?_ | refine p_scope ?_ | refine p_scope_ret ?_ | refine p_scope_exit ?_ | refine p_end ?_ | refine c_if_t rfl (by omega) ?_ | refine c_if_f rfl (by omega) ?_)
      exact k_ret2 [D0] (slC b10 (0, 0) :: l) rfl (l' := l) (by ((try simp only [List.cons_append, List.nil_append, List.map_cons, List.map_nil]); repeat (first | with_reducible apply Keep.refl | (apply Keep.pick; · (repeat (first | apply Pick.here | apply Pick.there))) | apply Keep.drop))) (by (repeat (first | apply ResS.nil | (apply rs_tmp; (· rfl)) | (apply rs_cell1; (· rfl); (· ((repeat (first | with_reducible apply List.mem_cons_self | with_reducible apply List.mem_cons_of_mem)); try with_reducible assumption)); (· rfl)) | (apply rs_cellA; (· rfl); (· ((repeat (first | with_reducible apply List.mem_cons_self | with_reducible apply List.mem_cons_of_mem)); try with_reducible assumption)); (· (repeat (first | with_reducible apply LSub.done | with_reducible apply LSub.take | with_reducible apply LSub.drop))))))) (.drop .refl) ⟨rfl, rfl⟩
    · rw [hres, if_neg hz]
      repeat (first | (show OpsS _ _ _ _ _ _ (_ :: _) _ _ _; first | refine ozq ?_ | refine ozn ?_) | refine c_seq ?_ | refine p_then ?_ | refine c_region ?_ | refine s_nil ?_ | refine c_cond_t rfl ?_ | refine c_cond_f rfl ?_ | refine c_block ?_ | refine c_skip ?_ | refine c_exit ?_ | refine p_block ?_ | refine p_then_exit ?_ | refine p_block_here ?_ | refine p_block_on rfl ?_ | refine c_ret ?_ | refine p_then_ret ?_ | refine p_block_ret ?_ | refine c_scope ?_ | refine c_label ?_ | refine p_scope ?_ | refine p_scope_ret ?_ | refine p_scope_exit ?_ | refine p_end ?_ | refine c_if_t rfl (by omega) ?_ | refine c_if_f rfl (by omega) ?_)
      exact k_ret2 [D0] (slC b10 (lastD L depth).1 :: l) rfl (l' := l) (by ((try simp only [List.cons_append, List.nil_append, List.map_cons, List.map_nil]); repeat (first | with_reducible apply Keep.refl | (apply Keep.pick; · (repeat (first | apply Pick.here | apply Pick.there))) | apply Keep.drop))) (by (repeat (first | apply ResS.nil | (apply rs_tmp; (· rfl)) | (apply rs_cell1; (· rfl); (· ((repeat (first | with_reducible apply List.mem_cons_self | with_reducible apply List.mem_cons_of_mem)); try with_reducible assumption)); (· rfl)) | (apply rs_cellA; (· rfl); (· ((repeat (first | with_reducible apply List.mem_cons_self | with_reducible apply List.mem_cons_of_mem)); try with_reducible assumption)); (· (repeat (first | with_reducible apply LSub.done | with_reducible apply LSub.take | with_reducible apply LSub.drop))))))) (.drop .refl) ⟨rfl, rfl⟩
  · rintro D0 c pre l' hsp ⟨rfl, pre', x, rfl, hx0, rfl⟩
    have hLx : L = pre' ++ [x] := by rw [← hL]; exact walk_zero D S addr 13 root depth pre' x hsp hx0
    rw [hres, hLx, lastD_snoc, if_neg (by omega)]
    simp only [List.cons_append, List.nil_append]
    repeat (first | (show OpsS _ _ _ _ _ _ (_ :: _) _ _ _; first | refine ozq ?_ | refine ozn ?_) | refine c_seq ?_ | refine p_then ?_ | refine c_region ?_ | refine s_nil ?_ | refine c_cond_t rfl ?_ | refine c_cond_f rfl ?_ | refine c_block ?_ | refine c_skip ?_ | refine c_exit ?_ | refine p_block ?_ | refine p_then_exit ?_ | refine p_block_here ?_ | refine p_block_on rfl ?_ | refine c_ret ?_ | refine p_then_ret ?_ | refine p_block_ret ?_ | refine c_scope ?_ | refine c_label ?_ | refine p_scope ?_ | refine p_scope_ret ?_ | refine p_scope_exit ?_ | refine p_end ?_ | refine c_if_t rfl (by omega) ?_ | refine c_if_f rfl (by omega) ?_)
    exact k_ret2 [D0] (slC b10 x.1 :: l) rfl (l' := l) (by ((try simp only [List.cons_append, List.nil_append, List.map_cons, List.map_nil]); repeat (first | with_reducible apply Keep.refl | (apply Keep.pick; · (repeat (first | apply Pick.here | apply Pick.there))) | apply Keep.drop))) (by (repeat (first | apply ResS.nil | (apply rs_tmp; (· rfl)) | (apply rs_cell1; (· rfl); (· ((repeat (first | with_reducible apply List.mem_cons_self | with_reducible apply List.mem_cons_of_mem)); try with_reducible assumption)); (· rfl)) | (apply rs_cellA; (· rfl); (· ((repeat (first | with_reducible apply List.mem_cons_self | with_reducible apply List.mem_cons_of_mem)); try with_reducible assumption)); (· (repeat (first | with_reducible apply LSub.done | with_reducible apply LSub.take | with_reducible apply LSub.drop))))))) (.drop .refl) ⟨rfl, rfl⟩
theorem path_any (bs ba : Nat) (D : SD) (S : Ar.ArT) (lq la : List Chunk) (hq : IsS bs D lq) (hA : Ar.IsA ba S la) (hR : Rad S) (addr : Nat) (haddr : addr < 18446744073709551616) (root : CapT) (depth : Int) (l : List Chunk) (h1 : ∀ c, c ∈ lq → c ∈ l) (h2 : ∀ c, c ∈ la → c ∈ l) :
    Fn Try.prog 13 [.pointer (some ⟨bs, 0, none⟩), .pointer (some ⟨ba, 0, none⟩), .agg (List.toArray (encC root)), .int .u64 (addr : Nat), .int .i64 depth] l fun v l' =>
      ∃ cs, OwnSl 34 2 v (pathD D S root addr depth).length (tcs ((pathD D S root addr depth).map Prod.fst)) cs ∧ l' = cs ++ l := by
  refine fn_of_body Try.func13 rfl rfl fun E => ?_
  simp only [argF, Try.ntmps13]
  repeat (first | (show OpsS _ _ _ _ _ _ (_ :: _) _ _ _; first | refine ozq ?_ | refine ozn ?_) | refine c_seq ?_ | refine p_then ?_ | refine c_region ?_ | refine s_nil ?_ | refine c_cond_t rfl ?_ | refine c_cond_f rfl ?_ | refine c_block ?_ | refine c_skip ?_ | refine p_block ?_ | refine p_block_here ?_ | refine p_block_on rfl ?_ | refine c_ret ?_ | refine p_then_ret ?_ | refine p_block_ret ?_ | refine p_end ?_ | refine c_if_t rfl (by omega) ?_ | refine c_if_f rfl (by omega) ?_)
  (first | refine t_e (e_box1 rfl rfl) rfl rfl rfl ?_ | refine t_e (e_boxA rfl) rfl rfl rfl ?_); rintro _ _ ⟨b7, _, rfl, rfl⟩
  repeat (first | (show OpsS _ _ _ _ _ _ (_ :: _) _ _ _; first | refine ozq ?_ | refine ozn ?_) | refine c_seq ?_ | refine p_then ?_ | refine c_region ?_ | refine s_nil ?_ | refine c_cond_t rfl ?_ | refine c_cond_f rfl ?_ | refine c_block ?_ | refine c_skip ?_ | refine p_block ?_ | refine p_block_here ?_ | refine p_block_on rfl ?_ | refine c_ret ?_ | refine p_then_ret ?_ | refine p_block_ret ?_ | refine p_end ?_ | refine c_if_t rfl (by omega) ?_ | refine c_if_f rfl (by omega) ?_)
  refine t_q (q_call rfl rfl fun l2 _ => bad_any bs ba addr haddr depth l2) rfl rfl rfl ?_
  by_cases hb : badD addr depth
  · rw [if_pos hb, show pathD D S root addr depth = [] by unfold pathD; rw [if_pos hb]]
    repeat (first | (show OpsS _ _ _ _ _ _ (_ :: _) _ _ _; first | refine ozq ?_ | refine ozn ?_) | refine c_seq ?_ | refine p_then ?_ | refine c_region ?_ | refine s_nil ?_ | refine c_cond_t rfl ?_ | refine c_cond_f rfl ?_ | refine c_block ?_ | refine c_skip ?_ | refine p_block ?_ | refine p_block_here ?_ | refine p_block_on rfl ?_ | refine c_ret ?_ | refine p_then_ret ?_ | refine p_block_ret ?_ | refine p_end ?_ | refine c_if_t rfl (by omega) ?_ | refine c_if_f rfl (by omega) ?_)
    exact k_ret [] rfl (l' := l) (.drop .refl) (by (repeat (first | apply ResS.nil | (apply rs_tmp; (· rfl)) | (apply rs_cell1; (· rfl); (· ((repeat (first | with_reducible apply List.mem_cons_self | with_reducible apply List.mem_cons_of_mem)); try with_reducible assumption)); (· rfl)) | (apply rs_cellA; (· rfl); (· ((repeat (first | with_reducible apply List.mem_cons_self | with_reducible apply List.mem_cons_of_mem)); try with_reducible assumption)); (· (repeat (first | with_reducible apply LSub.done | with_reducible apply LSub.take | with_reducible apply LSub.drop))))))) ⟨[], OwnSl.nil _ _, rfl⟩
  rw [if_neg hb]
  have hd12 : depth ≤ 12 := Decidable.byContradiction fun h => hb (.inr (.inl (by omega)))
  repeat (first | (show OpsS _ _ _ _ _ _ (_ :: _) _ _ _; first | refine ozq ?_ | refine ozn ?_) | refine c_seq ?_ | refine p_then ?_ | refine c_region ?_ | refine s_nil ?_ | refine c_cond_t rfl ?_ | refine c_cond_f rfl ?_ | refine c_block ?_ | refine c_skip ?_ | refine p_block ?_ | refine p_block_here ?_ | refine p_block_on rfl ?_ | refine c_ret ?_ | refine p_then_ret ?_ | refine p_block_ret ?_ | refine p_end ?_ | refine c_if_t rfl (by omega) ?_ | refine c_if_f rfl (by omega) ?_)
  refine t_e e_alloc rfl rfl rfl ?_; rintro _ _ ⟨b11, _, rfl, rfl⟩
  repeat (first | (show OpsS _ _ _ _ _ _ (_ :: _) _ _ _; first | refine ozq ?_ | refine ozn ?_) | refine c_seq ?_ | refine p_then ?_ | refine c_region ?_ | refine s_nil ?_ | refine c_cond_t rfl ?_ | refine c_cond_f rfl ?_ | refine c_block ?_ | refine c_skip ?_ | refine p_block ?_ | refine p_block_here ?_ | refine p_block_on rfl ?_ | refine c_ret ?_ | refine p_then_ret ?_ | refine p_block_ret ?_ | refine p_end ?_ | refine c_if_t rfl (by omega) ?_ | refine c_if_f rfl (by omega) ?_)
  refine t_e (e_call0 rfl rfl (steps_any bs ba addr root depth _)) rfl rfl rfl ?_
  rintro _ _ ⟨B1, B2, B3, B4, B5, rfl, rfl⟩
  repeat (first | (show OpsS _ _ _ _ _ _ (_ :: _) _ _ _; first | refine ozq ?_ | refine ozn ?_) | refine c_seq ?_ | refine p_then ?_ | refine c_region ?_ | refine s_nil ?_ | refine c_cond_t rfl ?_ | refine c_cond_f rfl ?_ | refine c_block ?_ | refine c_skip ?_ | refine p_block ?_ | refine p_block_here ?_ | refine p_block_on rfl ?_ | refine c_ret ?_ | refine p_then_ret ?_ | refine p_block_ret ?_ | refine p_end ?_ | refine c_if_t rfl (by omega) ?_ | refine c_if_f rfl (by omega) ?_)
  obtain ⟨L, hL⟩ : ∃ L, walkL D S addr 13 root depth = L := ⟨_, rfl⟩
  have hL13 : L.length ≤ 13 := by rw [← hL]; exact walk_len _ _ _ _ _ _
  rw [show pathD D S root addr depth = L by unfold pathD; rw [if_neg hb, hL]]
  refine c_range (α := stT) (ps := [25]) (lb := [.pointer (some ⟨B1, 0, none⟩), .pointer (some ⟨B2, 0, none⟩), .pointer (some ⟨B3, 0, none⟩), .pointer (some ⟨B4, 0, none⟩), .pointer (some ⟨B5, 0, none⟩)]) rfl (steps_iter B1 B2 B3 B4 B5 bs ba D S lq la hq hA hR addr haddr root depth hd12) (fun _ => rfl) rfl
    (fun pre l => ∃ u cs, OwnSl 34 2 u pre.length (tcs (pre.map Prod.fst)) cs ∧ l = [inC B2 depth, u64C B4 addr, capC B1 root, ptA B3 ba, ptS B5 bs, (b11, .cells #[u] 46 (0, 0))] ++ cs)
    (fun c pre l => False)
    _ (capC b7 root :: l) (fun pre l2 X2 hX h => ⟨fun x hx => by obtain ⟨u, cs, _, rfl⟩ := h; exact List.mem_append_left _ (List.mem_append_left _ (by simp only [List.mem_cons, List.not_mem_nil, or_false] at hx ⊢; rcases hx with h | h | h | h | h <;> simp [h])), fun c hc => List.mem_append_right _ (hX _ (.tail _ (h1 _ hc))), fun c hc => List.mem_append_right _ (hX _ (.tail _ (h2 _ hc)))⟩) (by ((try simp only [List.cons_append, List.nil_append, List.map_cons, List.map_nil]); repeat (first | with_reducible apply Keep.refl | (apply Keep.pick; · (repeat (first | apply Pick.here | apply Pick.there))) | apply Keep.drop))) ⟨_, [], OwnSl.nil _ _, rfl⟩ ?_ ?_ ?_
  · rintro E r0 rec pre x l' T ⟨fn, tmps, D0, rfl⟩ hT ⟨u, cs, hown, rfl⟩ hsp
    have hu1 : u.oneCell' = true := hown.one
    have hpl : pre.length ≤ 13 := by have := hsp.length_le; rw [hL] at this; simp at this; omega
    simp only [putPs, List.cons_append, List.nil_append]
    repeat (first | (show OpsS _ _ _ _ _ _ (_ :: _) _ _ _; first | refine ozq ?_ | refine ozn ?_) | refine c_seq ?_ | refine p_then ?_ | refine c_region ?_ | refine s_nil ?_ | refine c_cond_t rfl ?_ | refine c_cond_f rfl ?_ | refine c_block ?_ | refine c_skip ?_ | refine p_block ?_ | refine p_block_here ?_ | refine p_block_on rfl ?_ | refine c_ret ?_ | refine p_then_ret ?_ | refine p_block_ret ?_ | refine p_end ?_ | refine c_if_t rfl (by omega) ?_ | refine c_if_f rfl (by omega) ?_)
    refine t_e e_alloc rfl rfl rfl ?_; rintro _ _ ⟨b12, _, rfl, rfl⟩
    repeat (first | (show OpsS _ _ _ _ _ _ (_ :: _) _ _ _; first | refine ozq ?_ | refine ozn ?_) | refine c_seq ?_ | refine p_then ?_ | refine c_region ?_ | refine s_nil ?_ | refine c_cond_t rfl ?_ | refine c_cond_f rfl ?_ | refine c_block ?_ | refine c_skip ?_ | refine p_block ?_ | refine p_block_here ?_ | refine p_block_on rfl ?_ | refine c_ret ?_ | refine p_then_ret ?_ | refine p_block_ret ?_ | refine p_end ?_ | refine c_if_t rfl (by omega) ?_ | refine c_if_f rfl (by omega) ?_)
    refine p_begin (.there (.there (.there (.there (.there (.there (.there (upd_mid _ _ _ _ _)))))))) ?_
    generalize hX1 : (r0, Obj.loop (recOf fn tmps _ _ _ D0 .busy none)) :: T = X1
    repeat (first | (show OpsS _ _ _ _ _ _ (_ :: _) _ _ _; first | refine ozq ?_ | refine ozn ?_) | refine c_seq ?_ | refine p_then ?_ | refine c_region ?_ | refine s_nil ?_ | refine c_cond_t rfl ?_ | refine c_cond_f rfl ?_ | refine c_block ?_ | refine c_skip ?_ | refine p_block ?_ | refine p_block_here ?_ | refine p_block_on rfl ?_ | refine c_ret ?_ | refine p_then_ret ?_ | refine p_block_ret ?_ | refine p_end ?_ | refine c_if_t rfl (by omega) ?_ | refine c_if_f rfl (by omega) ?_)
    refine t_e (e_litA (ws := encT x.1) (k := 2) rfl rfl rfl (by decide) (by decide)) rfl rfl rfl ?_
    rintro _ _ ⟨bl, _, rfl, rfl⟩
    refine t_e (e_appX (k := 2) (X := [stC b12 x, inC B2 depth, u64C B4 addr, capC B1 root, ptA B3 ba, ptS B5 bs, (b11, .cells #[u] 46 (0, 0))]) (cs := cs) (F := X1) (xs := tcs (pre.map Prod.fst)) (n := pre.length) (ws := encT x.1) rfl rfl rfl hown rfl (by simp [Value.oneCell']) (by omega) (by decide)) rfl rfl rfl ?_
    rintro u2 _ ⟨cs2, hown2, rfl⟩
    have hu2 : u2.oneCell' = true := hown2.one
    simp only [List.cons_append, List.nil_append]
    repeat (first | (show OpsS _ _ _ _ _ _ (_ :: _) _ _ _; first | refine ozq ?_ | refine ozn ?_) | refine c_seq ?_ | refine p_then ?_ | refine c_region ?_ | refine s_nil ?_ | refine c_cond_t rfl ?_ | refine c_cond_f rfl ?_ | refine c_block ?_ | refine c_skip ?_ | refine p_block ?_ | refine p_block_here ?_ | refine p_block_on rfl ?_ | refine c_ret ?_ | refine p_then_ret ?_ | refine p_block_ret ?_ | refine p_end ?_ | refine c_if_t rfl (by omega) ?_ | refine c_if_f rfl (by omega) ?_)
    rw [← hX1]
    refine p_round ([inC B2 depth, u64C B4 addr, capC B1 root, ptA B3 ba, ptS B5 bs, (b11, .cells #[u2] 46 (0, 0))] ++ cs2) (by simp only [List.cons_append, List.nil_append]; exact .drop .refl) ⟨u2, cs2, ?_, rfl⟩
    rw [List.length_append, List.map_append, show List.map Prod.fst [x] = [x.1] from rfl, tcs_snoc]; exact hown2
  · rintro D0 xs l' rfl ⟨u, cs, hown, rfl⟩
    rw [hL] at hown
    simp only [List.cons_append, List.nil_append]
    repeat (first | (show OpsS _ _ _ _ _ _ (_ :: _) _ _ _; first | refine ozq ?_ | refine ozn ?_) | refine c_seq ?_ | refine p_then ?_ | refine c_region ?_ | refine s_nil ?_ | refine c_cond_t rfl ?_ | refine c_cond_f rfl ?_ | refine c_block ?_ | refine c_skip ?_ | refine p_block ?_ | refine p_block_here ?_ | refine p_block_on rfl ?_ | refine c_ret ?_ | refine p_then_ret ?_ | refine p_block_ret ?_ | refine p_end ?_ | refine c_if_t rfl (by omega) ?_ | refine c_if_f rfl (by omega) ?_)
    refine k_ret2 [D0] (inC B2 depth :: u64C B4 addr :: capC B1 root :: ptA B3 ba :: ptS B5 bs :: (b11, .cells #[u] 46 (0, 0)) :: (cs ++ capC b7 root :: l)) rfl (l' := cs ++ l) .refl (by (repeat (first | apply ResS.nil | (apply rs_tmp; (· rfl)) | (apply rs_cell1; (· rfl); (· ((repeat (first | with_reducible apply List.mem_cons_self | with_reducible apply List.mem_cons_of_mem)); try with_reducible assumption)); (· rfl)) | (apply rs_cellA; (· rfl); (· ((repeat (first | with_reducible apply List.mem_cons_self | with_reducible apply List.mem_cons_of_mem)); try with_reducible assumption)); (· (repeat (first | with_reducible apply LSub.done | with_reducible apply LSub.take | with_reducible apply LSub.drop))))))) (.drop (.drop (.drop (.drop (.drop (.drop (Keep.appL cs (.drop .refl)))))))) ?_
    exact ⟨cs, hown, rfl⟩
  · rintro D0 c pre l' hsp h
    exact h.elim
theorem bad_nil1 (p : Option Addr) (addr : Nat) (depth : Int) (l : List Chunk) :
    Fn Try.prog 27 [.pointer none, .pointer p, .int .u64 (addr : Nat), .int .i64 depth] l fun v l' => v = .int .i64 1 ∧ l' = l := by
  refine fn_of_body Try.func27 rfl rfl fun E => ?_
  simp only [argF, Try.ntmps27]
  repeat (first | (show OpsS _ _ _ _ _ _ (_ :: _) _ _ _; first | refine ozq ?_ | refine ozs ?_ | refine ozs0 ?_ | refine ozt ?_ | refine ozf ?_ | refine t_hu rfl rfl rfl rfl rfl rfl ?_) | refine c_seq ?_ | refine p_then ?_ | refine c_region ?_ | refine s_nil ?_ | refine c_cond_t rfl ?_ | refine c_cond_f rfl ?_ | refine c_block ?_ | refine c_skip ?_ | refine p_block ?_ | refine p_block_here ?_ | refine p_block_on rfl ?_ | refine c_ret ?_ | refine p_then_ret ?_ | refine p_block_ret ?_ | refine p_end ?_ | refine c_if_t rfl (by omega) ?_ | refine c_if_f rfl (by omega) ?_)
  exact k_ret [] rfl .refl (by (repeat (first | apply ResS.nil | (apply rs_tmp; (· rfl)) | (apply rs_cell1; (· rfl); (· ((repeat (first | with_reducible apply List.mem_cons_self | with_reducible apply List.mem_cons_of_mem)); try with_reducible assumption)); (· rfl)) | (apply rs_cellA; (· rfl); (· ((repeat (first | with_reducible apply List.mem_cons_self | with_reducible apply List.mem_cons_of_mem)); try with_reducible assumption)); (· (repeat (first | with_reducible apply LSub.done | with_reducible apply LSub.take | with_reducible apply LSub.drop))))))) ⟨rfl, rfl⟩
theorem bad_nil2 (b : Nat) (addr : Nat) (depth : Int) (l : List Chunk) :
    Fn Try.prog 27 [.pointer (some ⟨b, 0, none⟩), .pointer none, .int .u64 (addr : Nat), .int .i64 depth] l fun v l' => v = .int .i64 1 ∧ l' = l := by
  refine fn_of_body Try.func27 rfl rfl fun E => ?_
  simp only [argF, Try.ntmps27]
  repeat (first | (show OpsS _ _ _ _ _ _ (_ :: _) _ _ _; first | refine ozq ?_ | refine ozs ?_ | refine ozs0 ?_ | refine ozt ?_ | refine ozf ?_ | refine t_hu rfl rfl rfl rfl rfl rfl ?_) | refine c_seq ?_ | refine p_then ?_ | refine c_region ?_ | refine s_nil ?_ | refine c_cond_t rfl ?_ | refine c_cond_f rfl ?_ | refine c_block ?_ | refine c_skip ?_ | refine p_block ?_ | refine p_block_here ?_ | refine p_block_on rfl ?_ | refine c_ret ?_ | refine p_then_ret ?_ | refine p_block_ret ?_ | refine p_end ?_ | refine c_if_t rfl (by omega) ?_ | refine c_if_f rfl (by omega) ?_)
  exact k_ret [] rfl .refl (by (repeat (first | apply ResS.nil | (apply rs_tmp; (· rfl)) | (apply rs_cell1; (· rfl); (· ((repeat (first | with_reducible apply List.mem_cons_self | with_reducible apply List.mem_cons_of_mem)); try with_reducible assumption)); (· rfl)) | (apply rs_cellA; (· rfl); (· ((repeat (first | with_reducible apply List.mem_cons_self | with_reducible apply List.mem_cons_of_mem)); try with_reducible assumption)); (· (repeat (first | with_reducible apply LSub.done | with_reducible apply LSub.take | with_reducible apply LSub.drop))))))) ⟨rfl, rfl⟩
theorem resolve_nil1 (p : Option Addr) (addr : Nat) (root : CapT) (depth : Int) (l : List Chunk) :
    Fn Try.prog 10 [.pointer none, .pointer p, .agg (List.toArray (encC root)), .int .u64 (addr : Nat), .int .i64 depth] l fun v l' => v = .tuple #[.agg (List.toArray (encT (0, 0))), .int .i64 1] ∧ l' = l := by
  refine fn_of_body Try.func10 rfl rfl fun E => ?_
  simp only [argF, Try.ntmps10]
  repeat (first | (show OpsS _ _ _ _ _ _ (_ :: _) _ _ _; first | refine ozq ?_ | refine ozn ?_) | refine c_seq ?_ | refine p_then ?_ | refine c_region ?_ | refine s_nil ?_ | refine c_cond_t rfl ?_ | refine c_cond_f rfl ?_ | refine c_block ?_ | refine c_skip ?_ | refine c_exit ?_ | refine p_block ?_ | refine p_then_exit ?_ | refine p_block_here ?_ | refine p_block_on rfl ?_ | refine c_ret ?_ | refine p_then_ret ?_ | refine p_block_ret ?_ | refine c_scope ?_ | refine c_label ?_ | refine p_scope ?_ | refine p_scope_ret ?_ | refine p_scope_exit ?_ | refine p_end ?_ | refine c_if_t rfl (by omega) ?_ | refine c_if_f rfl (by omega) ?_)
  (first | refine t_e (e_box1 rfl rfl) rfl rfl rfl ?_ | refine t_e (e_boxA rfl) rfl rfl rfl ?_); rintro _ _ ⟨b7, _, rfl, rfl⟩
  repeat (first | (show OpsS _ _ _ _ _ _ (_ :: _) _ _ _; first | refine ozq ?_ | refine ozn ?_) | refine c_seq ?_ | refine p_then ?_ | refine c_region ?_ | refine s_nil ?_ | refine c_cond_t rfl ?_ | refine c_cond_f rfl ?_ | refine c_block ?_ | refine c_skip ?_ | refine c_exit ?_ | refine p_block ?_ | refine p_then_exit ?_ | refine p_block_here ?_ | refine p_block_on rfl ?_ | refine c_ret ?_ | refine p_then_ret ?_ | refine p_block_ret ?_ | refine c_scope ?_ | refine c_label ?_ | refine p_scope ?_ | refine p_scope_ret ?_ | refine p_scope_exit ?_ | refine p_end ?_ | refine c_if_t rfl (by omega) ?_ | refine c_if_f rfl (by omega) ?_)
  refine t_e e_alloc rfl rfl rfl ?_; rintro _ _ ⟨b10, _, rfl, rfl⟩
  repeat (first | (show OpsS _ _ _ _ _ _ (_ :: _) _ _ _; first | refine ozq ?_ | refine ozn ?_) | refine c_seq ?_ | refine p_then ?_ | refine c_region ?_ | refine s_nil ?_ | refine c_cond_t rfl ?_ | refine c_cond_f rfl ?_ | refine c_block ?_ | refine c_skip ?_ | refine c_exit ?_ | refine p_block ?_ | refine p_then_exit ?_ | refine p_block_here ?_ | refine p_block_on rfl ?_ | refine c_ret ?_ | refine p_then_ret ?_ | refine p_block_ret ?_ | refine c_scope ?_ | refine c_label ?_ | refine p_scope ?_ | refine p_scope_ret ?_ | refine p_scope_exit ?_ | refine p_end ?_ | refine c_if_t rfl (by omega) ?_ | refine c_if_f rfl (by omega) ?_)
  refine t_q (q_call rfl rfl fun l2 _ => bad_nil1 p addr depth l2) rfl rfl rfl ?_
  repeat (first | (show OpsS _ _ _ _ _ _ (_ :: _) _ _ _; first | refine ozq ?_ | refine ozn ?_) | refine c_seq ?_ | refine p_then ?_ | refine c_region ?_ | refine s_nil ?_ | refine c_cond_t rfl ?_ | refine c_cond_f rfl ?_ | refine c_block ?_ | refine c_skip ?_ | refine c_exit ?_ | refine p_block ?_ | refine p_then_exit ?_ | refine p_block_here ?_ | refine p_block_on rfl ?_ | refine c_ret ?_ | refine p_then_ret ?_ | refine p_block_ret ?_ | refine c_scope ?_ | refine c_label ?_ | refine p_scope ?_ | refine p_scope_ret ?_ | refine p_scope_exit ?_ | refine p_end ?_ | refine c_if_t rfl (by omega) ?_ | refine c_if_f rfl (by omega) ?_)
  exact k_ret2 [] (slC b10 (0, 0) :: l) rfl (l' := l) (by ((try simp only [List.cons_append, List.nil_append, List.map_cons, List.map_nil]); repeat (first | with_reducible apply Keep.refl | (apply Keep.pick; · (repeat (first | apply Pick.here | apply Pick.there))) | apply Keep.drop))) (by (repeat (first | apply ResS.nil | (apply rs_tmp; (· rfl)) | (apply rs_cell1; (· rfl); (· ((repeat (first | with_reducible apply List.mem_cons_self | with_reducible apply List.mem_cons_of_mem)); try with_reducible assumption)); (· rfl)) | (apply rs_cellA; (· rfl); (· ((repeat (first | with_reducible apply List.mem_cons_self | with_reducible apply List.mem_cons_of_mem)); try with_reducible assumption)); (· (repeat (first | with_reducible apply LSub.done | with_reducible apply LSub.take | with_reducible apply LSub.drop))))))) (.drop .refl) ⟨rfl, rfl⟩
theorem resolve_nil2 (b : Nat) (addr : Nat) (root : CapT) (depth : Int) (l : List Chunk) :
    Fn Try.prog 10 [.pointer (some ⟨b, 0, none⟩), .pointer none, .agg (List.toArray (encC root)), .int .u64 (addr : Nat), .int .i64 depth] l fun v l' => v = .tuple #[.agg (List.toArray (encT (0, 0))), .int .i64 1] ∧ l' = l := by
  refine fn_of_body Try.func10 rfl rfl fun E => ?_
  simp only [argF, Try.ntmps10]
  repeat (first | (show OpsS _ _ _ _ _ _ (_ :: _) _ _ _; first | refine ozq ?_ | refine ozn ?_) | refine c_seq ?_ | refine p_then ?_ | refine c_region ?_ | refine s_nil ?_ | refine c_cond_t rfl ?_ | refine c_cond_f rfl ?_ | refine c_block ?_ | refine c_skip ?_ | refine c_exit ?_ | refine p_block ?_ | refine p_then_exit ?_ | refine p_block_here ?_ | refine p_block_on rfl ?_ | refine c_ret ?_ | refine p_then_ret ?_ | refine p_block_ret ?_ | refine c_scope ?_ | refine c_label ?_ | refine p_scope ?_ | refine p_scope_ret ?_ | refine p_scope_exit ?_ | refine p_end ?_ | refine c_if_t rfl (by omega) ?_ | refine c_if_f rfl (by omega) ?_)
  (first | refine t_e (e_box1 rfl rfl) rfl rfl rfl ?_ | refine t_e (e_boxA rfl) rfl rfl rfl ?_); rintro _ _ ⟨b7, _, rfl, rfl⟩
  repeat (first | (show OpsS _ _ _ _ _ _ (_ :: _) _ _ _; first | refine ozq ?_ | refine ozn ?_) | refine c_seq ?_ | refine p_then ?_ | refine c_region ?_ | refine s_nil ?_ | refine c_cond_t rfl ?_ | refine c_cond_f rfl ?_ | refine c_block ?_ | refine c_skip ?_ | refine c_exit ?_ | refine p_block ?_ | refine p_then_exit ?_ | refine p_block_here ?_ | refine p_block_on rfl ?_ | refine c_ret ?_ | refine p_then_ret ?_ | refine p_block_ret ?_ | refine c_scope ?_ | refine c_label ?_ | refine p_scope ?_ | refine p_scope_ret ?_ | refine p_scope_exit ?_ | refine p_end ?_ | refine c_if_t rfl (by omega) ?_ | refine c_if_f rfl (by omega) ?_)
  refine t_e e_alloc rfl rfl rfl ?_; rintro _ _ ⟨b10, _, rfl, rfl⟩
  repeat (first | (show OpsS _ _ _ _ _ _ (_ :: _) _ _ _; first | refine ozq ?_ | refine ozn ?_) | refine c_seq ?_ | refine p_then ?_ | refine c_region ?_ | refine s_nil ?_ | refine c_cond_t rfl ?_ | refine c_cond_f rfl ?_ | refine c_block ?_ | refine c_skip ?_ | refine c_exit ?_ | refine p_block ?_ | refine p_then_exit ?_ | refine p_block_here ?_ | refine p_block_on rfl ?_ | refine c_ret ?_ | refine p_then_ret ?_ | refine p_block_ret ?_ | refine c_scope ?_ | refine c_label ?_ | refine p_scope ?_ | refine p_scope_ret ?_ | refine p_scope_exit ?_ | refine p_end ?_ | refine c_if_t rfl (by omega) ?_ | refine c_if_f rfl (by omega) ?_)
  refine t_q (q_call rfl rfl fun l2 _ => bad_nil2 b addr depth l2) rfl rfl rfl ?_
  repeat (first | (show OpsS _ _ _ _ _ _ (_ :: _) _ _ _; first | refine ozq ?_ | refine ozn ?_) | refine c_seq ?_ | refine p_then ?_ | refine c_region ?_ | refine s_nil ?_ | refine c_cond_t rfl ?_ | refine c_cond_f rfl ?_ | refine c_block ?_ | refine c_skip ?_ | refine c_exit ?_ | refine p_block ?_ | refine p_then_exit ?_ | refine p_block_here ?_ | refine p_block_on rfl ?_ | refine c_ret ?_ | refine p_then_ret ?_ | refine p_block_ret ?_ | refine c_scope ?_ | refine c_label ?_ | refine p_scope ?_ | refine p_scope_ret ?_ | refine p_scope_exit ?_ | refine p_end ?_ | refine c_if_t rfl (by omega) ?_ | refine c_if_f rfl (by omega) ?_)
  exact k_ret2 [] (slC b10 (0, 0) :: l) rfl (l' := l) (by ((try simp only [List.cons_append, List.nil_append, List.map_cons, List.map_nil]); repeat (first | with_reducible apply Keep.refl | (apply Keep.pick; · (repeat (first | apply Pick.here | apply Pick.there))) | apply Keep.drop))) (by (repeat (first | apply ResS.nil | (apply rs_tmp; (· rfl)) | (apply rs_cell1; (· rfl); (· ((repeat (first | with_reducible apply List.mem_cons_self | with_reducible apply List.mem_cons_of_mem)); try with_reducible assumption)); (· rfl)) | (apply rs_cellA; (· rfl); (· ((repeat (first | with_reducible apply List.mem_cons_self | with_reducible apply List.mem_cons_of_mem)); try with_reducible assumption)); (· (repeat (first | with_reducible apply LSub.done | with_reducible apply LSub.take | with_reducible apply LSub.drop))))))) (.drop .refl) ⟨rfl, rfl⟩
theorem path_nil1 (p : Option Addr) (addr : Nat) (root : CapT) (depth : Int) (l : List Chunk) :
    Fn Try.prog 13 [.pointer none, .pointer p, .agg (List.toArray (encC root)), .int .u64 (addr : Nat), .int .i64 depth] l fun v l' => v = .slice none 0 0 ∧ l' = l := by
  refine fn_of_body Try.func13 rfl rfl fun E => ?_
  simp only [argF, Try.ntmps13]
  repeat (first | (show OpsS _ _ _ _ _ _ (_ :: _) _ _ _; first | refine ozq ?_ | refine ozn ?_) | refine c_seq ?_ | refine p_then ?_ | refine c_region ?_ | refine s_nil ?_ | refine c_cond_t rfl ?_ | refine c_cond_f rfl ?_ | refine c_block ?_ | refine c_skip ?_ | refine p_block ?_ | refine p_block_here ?_ | refine p_block_on rfl ?_ | refine c_ret ?_ | refine p_then_ret ?_ | refine p_block_ret ?_ | refine p_end ?_ | refine c_if_t rfl (by omega) ?_ | refine c_if_f rfl (by omega) ?_)
  (first | refine t_e (e_box1 rfl rfl) rfl rfl rfl ?_ | refine t_e (e_boxA rfl) rfl rfl rfl ?_); rintro _ _ ⟨b7, _, rfl, rfl⟩
  repeat (first | (show OpsS _ _ _ _ _ _ (_ :: _) _ _ _; first | refine ozq ?_ | refine ozn ?_) | refine c_seq ?_ | refine p_then ?_ | refine c_region ?_ | refine s_nil ?_ | refine c_cond_t rfl ?_ | refine c_cond_f rfl ?_ | refine c_block ?_ | refine c_skip ?_ | refine p_block ?_ | refine p_block_here ?_ | refine p_block_on rfl ?_ | refine c_ret ?_ | refine p_then_ret ?_ | refine p_block_ret ?_ | refine p_end ?_ | refine c_if_t rfl (by omega) ?_ | refine c_if_f rfl (by omega) ?_)
  refine t_q (q_call rfl rfl fun l2 _ => bad_nil1 p addr depth l2) rfl rfl rfl ?_
  repeat (first | (show OpsS _ _ _ _ _ _ (_ :: _) _ _ _; first | refine ozq ?_ | refine ozn ?_) | refine c_seq ?_ | refine p_then ?_ | refine c_region ?_ | refine s_nil ?_ | refine c_cond_t rfl ?_ | refine c_cond_f rfl ?_ | refine c_block ?_ | refine c_skip ?_ | refine p_block ?_ | refine p_block_here ?_ | refine p_block_on rfl ?_ | refine c_ret ?_ | refine p_then_ret ?_ | refine p_block_ret ?_ | refine p_end ?_ | refine c_if_t rfl (by omega) ?_ | refine c_if_f rfl (by omega) ?_)
  exact k_ret [] rfl (l' := l) (.drop .refl) (by (repeat (first | apply ResS.nil | (apply rs_tmp; (· rfl)) | (apply rs_cell1; (· rfl); (· ((repeat (first | with_reducible apply List.mem_cons_self | with_reducible apply List.mem_cons_of_mem)); try with_reducible assumption)); (· rfl)) | (apply rs_cellA; (· rfl); (· ((repeat (first | with_reducible apply List.mem_cons_self | with_reducible apply List.mem_cons_of_mem)); try with_reducible assumption)); (· (repeat (first | with_reducible apply LSub.done | with_reducible apply LSub.take | with_reducible apply LSub.drop))))))) ⟨rfl, rfl⟩
end Go.Proofs.Ytdbdbhlhdcidpaa

/- Chapter 16's own answer: take, Path, Resolve. -/
-- GU
set_option linter.unusedVariables false
set_option linter.unusedSimpArgs false
namespace Go.Proofs.Ytdbdbhlhdcidpaa
open Go.RowKit
set_option maxRecDepth 20000

theorem field_step (w left j : Nat) (h : j + 1 ≤ left) : fieldN w (left - (j + 1)) (j + 1) = 2 * fieldN w (left - j) j + w / 2 ^ (left - (j + 1)) % 2 := by
  unfold fieldN
  obtain ⟨a, ha⟩ : ∃ a, left - (j + 1) = a := ⟨_, rfl⟩
  rw [show left - j = a + 1 by omega, ha, Nat.pow_succ 2 j, Nat.mul_comm (2 ^ j) 2, Nat.mod_mul, Nat.div_div_eq_div_mul, Nat.pow_succ 2 a, Nat.add_comm]
theorem field_lt12 {w a n : Nat} (h : n ≤ 12) : fieldN w a n < 4097 := Nat.lt_of_lt_of_le (show fieldN w a n < 2 ^ n from Nat.mod_lt _ (Nat.two_pow_pos n)) (Nat.le_trans (Nat.pow_le_pow_right (by omega) h) (by decide))
set_option pp.deepTerms false
set_option pp.deepTerms.threshold 4
set_option maxHeartbeats 400000
theorem take_nat (w : Nat) (hw : w < 18446744073709551616) (left n : Nat) (h1 : n ≤ left) (h2 : left ≤ 12) (l : List Chunk) :
    Fn Try.prog 31 [.int .u64 (w : Nat), .int .i64 (left : Nat), .int .i64 (n : Nat)] l fun v l' => v = .int .i64 (fieldN w (left - n) n : Nat) ∧ l' = l := by
  refine fn_of_body Try.func31 rfl rfl fun E => ?_
  simp only [argF, Try.ntmps31]
  repeat (first | (show OpsS _ _ _ _ _ _ (_ :: _) _ _ _; first | refine ozq ?_) | refine c_seq ?_ | refine p_then ?_ | refine c_region ?_ | refine s_nil ?_ | refine c_cond_t rfl ?_ | refine c_cond_f rfl ?_ | refine c_block ?_ | refine c_skip ?_ | refine c_exit ?_ | refine p_block ?_ | refine p_then_exit ?_ | refine p_block_here ?_ | refine p_block_on rfl ?_ | refine c_ret ?_ | refine p_then_ret ?_ | refine p_block_ret ?_ | refine p_end ?_ | refine c_if_t rfl (by omega) ?_ | refine c_if_f rfl (by omega) ?_)
  refine k_loop (α := Nat) (fun j => [(0, .int .u64 (w : Nat)), (1, .int .i64 (left : Nat)), (2, .int .i64 (n : Nat)), (7, .int .i64 (fieldN w (left - j) j : Nat)), (8, .int .i64 ((left : Int) - 1 - j))]) (fun _ => l) (fun j => j ≤ n) (fun j => n - j) 0 (Nat.zero_le _) ⟨rfl, rfl, rfl, by simp [fieldN, Nat.mod_one]; rfl, by simp; rfl, trivial⟩ .refl ?_
  intro j hj
  by_cases hlt : j < n
  · obtain ⟨q, hq⟩ : ∃ q : Nat, (left : Int) - 1 - j = q := ⟨left - (j + 1), by omega⟩
    have hq2 : left - (j + 1) = q := by omega
    have hs := field_step w left j (by omega)
    have hb : fieldN w (left - j) j < 4097 := field_lt12 (by omega)
    rw [hq2] at hs
    rw [hq]
    repeat (first | (show OpsS _ _ _ _ _ _ (_ :: _) _ _ _; first | refine ozq ?_) | refine c_seq ?_ | refine p_then ?_ | refine c_region ?_ | refine s_nil ?_ | refine c_cond_t rfl ?_ | refine c_cond_f rfl ?_ | refine c_block ?_ | refine c_skip ?_ | refine c_exit ?_ | refine p_block ?_ | refine p_then_exit ?_ | refine p_block_here ?_ | refine p_block_on rfl ?_ | refine c_ret ?_ | refine p_then_ret ?_ | refine p_block_ret ?_ | refine p_end ?_ | refine c_if_t rfl (by omega) ?_ | refine c_if_f rfl (by omega) ?_)
    refine t_q (q_shr (n := q) rfl rfl (by show q ≤ 64; omega)) rfl rfl rfl ?_
    rw [show ((w : Nat) : Int) / 2 ^ q = ((w / 2 ^ q : Nat) : Int) by norm_cast]
    refine t_q (q_and (b := 1) rfl rfl (Nat.lt_of_le_of_lt (Nat.div_le_self _ _) hw) (by decide)) rfl rfl rfl ?_
    rw [Nat.and_one_is_mod]
    have hm : w / 2 ^ q % 2 < 2 := Nat.mod_lt _ (by decide)
    repeat (first | (show OpsS _ _ _ _ _ _ (_ :: _) _ _ _; first | refine ozq ?_) | refine c_seq ?_ | refine p_then ?_ | refine c_region ?_ | refine s_nil ?_ | refine c_cond_t rfl ?_ | refine c_cond_f rfl ?_ | refine c_block ?_ | refine c_skip ?_ | refine c_exit ?_ | refine p_block ?_ | refine p_then_exit ?_ | refine p_block_here ?_ | refine p_block_on rfl ?_ | refine c_ret ?_ | refine p_then_ret ?_ | refine p_block_ret ?_ | refine p_end ?_ | refine c_if_t rfl (by omega) ?_ | refine c_if_f rfl (by omega) ?_)
    refine k_next (j + 1) (by omega) (by omega) ⟨rfl, rfl, rfl, ?_, ?_, trivial⟩ .refl
    · rw [hq2, hs]; push_cast; rfl
    · rw [show (left : Int) - 1 - ((j + 1 : Nat) : Int) = (q : Int) - 1 by omega]; rfl
  · obtain rfl : j = n := by omega
    repeat (first | (show OpsS _ _ _ _ _ _ (_ :: _) _ _ _; first | refine ozq ?_) | refine c_seq ?_ | refine p_then ?_ | refine c_region ?_ | refine s_nil ?_ | refine c_cond_t rfl ?_ | refine c_cond_f rfl ?_ | refine c_block ?_ | refine c_skip ?_ | refine c_exit ?_ | refine p_block ?_ | refine p_then_exit ?_ | refine p_block_here ?_ | refine p_block_on rfl ?_ | refine c_ret ?_ | refine p_then_ret ?_ | refine p_block_ret ?_ | refine p_end ?_ | refine c_if_t rfl (by omega) ?_ | refine c_if_f rfl (by omega) ?_)
    exact k_ret [] rfl .refl (by (repeat (first | apply ResS.nil | (apply rs_tmp; (· rfl)) | (apply rs_cell1; (· rfl); (· ((repeat (first | with_reducible apply List.mem_cons_self | with_reducible apply List.mem_cons_of_mem)); try with_reducible assumption)); (· rfl)) | (apply rs_cellA; (· rfl); (· ((repeat (first | with_reducible apply List.mem_cons_self | with_reducible apply List.mem_cons_of_mem)); try with_reducible assumption)); (· (repeat (first | with_reducible apply LSub.done | with_reducible apply LSub.take | with_reducible apply LSub.drop))))))) ⟨rfl, rfl⟩
theorem take_int (w : Nat) (hw : w < 18446744073709551616) (left n : Int) (h0 : 0 ≤ n) (h1 : n ≤ left) (h2 : left ≤ 12) (l : List Chunk) :
    Fn Try.prog 31 [.int .u64 (w : Nat), .int .i64 left, .int .i64 n] l fun v l' => v = .int .i64 (fieldN w (left - n).toNat n.toNat : Nat) ∧ l' = l := by
  obtain ⟨a, rfl⟩ : ∃ q : Nat, left = q := ⟨left.toNat, by omega⟩
  obtain ⟨n, rfl⟩ : ∃ q : Nat, n = q := ⟨n.toNat, by omega⟩
  rw [show ((a : Int) - (n : Int)).toNat = a - n by omega, Int.toNat_natCast]
  exact take_nat w hw a n (by omega) (by omega) l
def refC (D : SD) (S : Ar.ArT) (c : CapT) (addr : Nat) (depth : Int) : Int := if badD addr depth then 3 else if (lastD (walkL D S addr 13 c depth) depth).2 > 0 then 12 else 0
def GuD (D : SD) : Prop := ∀ x, x ∈ D → ∀ c, c ∈ x.2 → c.guard ≤ 9223372036854775807
theorem gu_get {D : SD} (h : GuD D) (s : slT) : (getD' D s).1.guard ≤ 9223372036854775807 := by
  unfold getD'
  split
  · unfold atD
    split
    · rename_i x hx
      have hm := (findK_some hx).1
      rw [List.getD_eq_getElem?_getD]
      cases hk : x.2[s.2.toNat]? with
      | none => decide
      | some c => exact h x hm c (List.mem_of_getElem? hk)
    · decide
  · decide
theorem fits_0 {addr : Nat} (h : addr < 18446744073709551616) {d : Nat} (hd : d ≤ 12) : fitsB addr d = decide (addr / 2 ^ d = 0) := by
  rw [fits_pow h (by omega)]
  have hp : 0 < 2 ^ d := Nat.two_pow_pos d
  congr 1
  rw [Nat.div_eq_zero_iff]
  refine propext ⟨fun h => .inr h, fun h => ?_⟩
  rcases h with h | h
  · omega
  · exact h
theorem rpath_any (bs ba : Nat) (D : SD) (S : Ar.ArT) (lq la : List Chunk) (hq : IsR bs D lq) (hn : D.length ≤ 900000) (hG : GuD D) (hA : Ar.IsR ba S la) (hR : Rad S) (addr : Nat) (haddr : addr < 18446744073709551616) (root : CapT) (hg : root.guard ≤ 9223372036854775807) (depth : Int) (l : List Chunk) (h1 : ∀ c, c ∈ lq → c ∈ l) (h2 : ∀ c, c ∈ la → c ∈ l) :
    Fn Try.prog 14 [.pointer (some ⟨bs, 0, none⟩), .pointer (some ⟨ba, 0, none⟩), .agg (List.toArray (encC root)), .int .u64 (addr : Nat), .int .i64 depth] l fun v l' =>
      ∃ u cs, v = .tuple #[u, .int .i64 (refC D S root addr depth)] ∧ OwnSl 34 2 u (pathD D S root addr depth).length (tcs ((pathD D S root addr depth).map Prod.fst)) cs ∧ l' = cs ++ l := by
  refine fn_of_body Try.func14 rfl rfl fun E => ?_
  simp only [argF, Try.ntmps14]
  repeat (first | (show OpsS _ _ _ _ _ _ (_ :: _) _ _ _; first | refine ozq ?_ | refine ozs ?_ | refine ozs0 ?_ | refine ozt ?_ | refine ozf ?_ | refine t_hu rfl rfl rfl rfl rfl rfl ?_ | refine ozn ?_) | refine c_seq ?_ | refine p_then ?_ | refine c_region ?_ | refine s_nil ?_ | refine c_cond_t rfl ?_ | refine c_cond_f rfl ?_ | refine c_block ?_ | refine c_skip ?_ | refine c_exit ?_ | refine p_block ?_ | refine p_then_exit ?_ | refine p_block_here ?_ | refine p_block_on rfl ?_ | refine c_ret ?_ | refine p_then_ret ?_ | refine p_block_ret ?_ | refine p_end ?_ | refine c_if_t rfl (by omega) ?_ | refine c_if_f rfl (by omega) ?_)
  (first | refine t_e (e_box1 rfl rfl) rfl rfl rfl ?_ | refine t_e (e_boxA rfl) rfl rfl rfl ?_); rintro _ _ ⟨b7, _, rfl, rfl⟩
  by_cases c1 : depth < 1
  · have hb : badD addr depth := .inl c1
    rw [show refC D S root addr depth = 3 by unfold refC; rw [if_pos hb], show pathD D S root addr depth = [] by unfold pathD; rw [if_pos hb]]
    repeat (first | (show OpsS _ _ _ _ _ _ (_ :: _) _ _ _; first | refine ozq ?_ | refine ozs ?_ | refine ozs0 ?_ | refine ozt ?_ | refine ozf ?_ | refine t_hu rfl rfl rfl rfl rfl rfl ?_ | refine ozn ?_) | refine c_seq ?_ | refine p_then ?_ | refine c_region ?_ | refine s_nil ?_ | refine c_cond_t rfl ?_ | refine c_cond_f rfl ?_ | refine c_block ?_ | refine c_skip ?_ | refine c_exit ?_ | refine p_block ?_ | refine p_then_exit ?_ | refine p_block_here ?_ | refine p_block_on rfl ?_ | refine c_ret ?_ | refine p_then_ret ?_ | refine p_block_ret ?_ | refine p_end ?_ | refine c_if_t rfl (by omega) ?_ | refine c_if_f rfl (by omega) ?_)
    exact k_ret [] rfl (l' := l) (.drop .refl) (by (repeat (first | apply ResS.nil | (apply rs_tmp; (· rfl)) | (apply rs_cell1; (· rfl); (· ((repeat (first | with_reducible apply List.mem_cons_self | with_reducible apply List.mem_cons_of_mem)); try with_reducible assumption)); (· rfl)) | (apply rs_cellA; (· rfl); (· ((repeat (first | with_reducible apply List.mem_cons_self | with_reducible apply List.mem_cons_of_mem)); try with_reducible assumption)); (· (repeat (first | with_reducible apply LSub.done | with_reducible apply LSub.take | with_reducible apply LSub.drop))))))) ⟨_, [], rfl, OwnSl.nil _ _, rfl⟩
  by_cases c2 : depth > 12
  · have hb : badD addr depth := .inr (.inl c2)
    rw [show refC D S root addr depth = 3 by unfold refC; rw [if_pos hb], show pathD D S root addr depth = [] by unfold pathD; rw [if_pos hb]]
    repeat (first | (show OpsS _ _ _ _ _ _ (_ :: _) _ _ _; first | refine ozq ?_ | refine ozs ?_ | refine ozs0 ?_ | refine ozt ?_ | refine ozf ?_ | refine t_hu rfl rfl rfl rfl rfl rfl ?_ | refine ozn ?_) | refine c_seq ?_ | refine p_then ?_ | refine c_region ?_ | refine s_nil ?_ | refine c_cond_t rfl ?_ | refine c_cond_f rfl ?_ | refine c_block ?_ | refine c_skip ?_ | refine c_exit ?_ | refine p_block ?_ | refine p_then_exit ?_ | refine p_block_here ?_ | refine p_block_on rfl ?_ | refine c_ret ?_ | refine p_then_ret ?_ | refine p_block_ret ?_ | refine p_end ?_ | refine c_if_t rfl (by omega) ?_ | refine c_if_f rfl (by omega) ?_)
    exact k_ret [] rfl (l' := l) (.drop .refl) (by (repeat (first | apply ResS.nil | (apply rs_tmp; (· rfl)) | (apply rs_cell1; (· rfl); (· ((repeat (first | with_reducible apply List.mem_cons_self | with_reducible apply List.mem_cons_of_mem)); try with_reducible assumption)); (· rfl)) | (apply rs_cellA; (· rfl); (· ((repeat (first | with_reducible apply List.mem_cons_self | with_reducible apply List.mem_cons_of_mem)); try with_reducible assumption)); (· (repeat (first | with_reducible apply LSub.done | with_reducible apply LSub.take | with_reducible apply LSub.drop))))))) ⟨_, [], rfl, OwnSl.nil _ _, rfl⟩
  obtain ⟨d, rfl⟩ : ∃ d : Nat, depth = d := ⟨depth.toNat, by omega⟩
  repeat (first | (show OpsS _ _ _ _ _ _ (_ :: _) _ _ _; first | refine ozq ?_ | refine ozs ?_ | refine ozs0 ?_ | refine ozt ?_ | refine ozf ?_ | refine t_hu rfl rfl rfl rfl rfl rfl ?_ | refine ozn ?_) | refine c_seq ?_ | refine p_then ?_ | refine c_region ?_ | refine s_nil ?_ | refine c_cond_t rfl ?_ | refine c_cond_f rfl ?_ | refine c_block ?_ | refine c_skip ?_ | refine c_exit ?_ | refine p_block ?_ | refine p_then_exit ?_ | refine p_block_here ?_ | refine p_block_on rfl ?_ | refine c_ret ?_ | refine p_then_ret ?_ | refine p_block_ret ?_ | refine p_end ?_ | refine c_if_t rfl (by omega) ?_ | refine c_if_f rfl (by omega) ?_)
  refine t_h (q_shr (n := d) rfl rfl (by show d ≤ 64; omega)) rfl rfl rfl ?_
  rw [show ((addr : Nat) : Int) / 2 ^ d = ((addr / 2 ^ d : Nat) : Int) by norm_cast]
  by_cases c3 : addr / 2 ^ d = 0
  case neg =>
    have hb : badD addr (d : Nat) := .inr (.inr (by rw [fits_0 haddr (by omega), decide_eq_false c3]))
    rw [show refC D S root addr (d : Nat) = 3 by unfold refC; rw [if_pos hb], show pathD D S root addr (d : Nat) = [] by unfold pathD; rw [if_pos hb]]
    repeat (first | (show OpsS _ _ _ _ _ _ (_ :: _) _ _ _; first | refine ozq ?_ | refine ozs ?_ | refine ozs0 ?_ | refine ozt ?_ | refine ozf ?_ | refine t_hu rfl rfl rfl rfl rfl rfl ?_ | refine ozn ?_) | refine c_seq ?_ | refine p_then ?_ | refine c_region ?_ | refine s_nil ?_ | refine c_cond_t rfl ?_ | refine c_cond_f rfl ?_ | refine c_block ?_ | refine c_skip ?_ | refine c_exit ?_ | refine p_block ?_ | refine p_then_exit ?_ | refine p_block_here ?_ | refine p_block_on rfl ?_ | refine c_ret ?_ | refine p_then_ret ?_ | refine p_block_ret ?_ | refine p_end ?_ | refine c_if_t rfl (by omega) ?_ | refine c_if_f rfl (by omega) ?_)
    exact k_ret [] rfl (l' := l) (.drop .refl) (by (repeat (first | apply ResS.nil | (apply rs_tmp; (· rfl)) | (apply rs_cell1; (· rfl); (· ((repeat (first | with_reducible apply List.mem_cons_self | with_reducible apply List.mem_cons_of_mem)); try with_reducible assumption)); (· rfl)) | (apply rs_cellA; (· rfl); (· ((repeat (first | with_reducible apply List.mem_cons_self | with_reducible apply List.mem_cons_of_mem)); try with_reducible assumption)); (· (repeat (first | with_reducible apply LSub.done | with_reducible apply LSub.take | with_reducible apply LSub.drop))))))) ⟨_, [], rfl, OwnSl.nil _ _, rfl⟩
  have hb : ¬ badD addr (d : Nat) := by
    rintro (h | h | h)
    · omega
    · omega
    · rw [fits_0 haddr (by omega), decide_eq_true c3] at h; cases h
  obtain ⟨L, hL⟩ : ∃ L, walkL D S addr 13 root (d : Nat) = L := ⟨_, rfl⟩
  rw [show refC D S root addr (d : Nat) = if (lastD L (d : Nat)).2 > 0 then 12 else 0 by unfold refC; rw [if_neg hb, hL], show pathD D S root addr (d : Nat) = L by unfold pathD; rw [if_neg hb, hL]]
  repeat (first | (show OpsS _ _ _ _ _ _ (_ :: _) _ _ _; first | refine ozq ?_ | refine ozs ?_ | refine ozs0 ?_ | refine ozt ?_ | refine ozf ?_ | refine t_hu rfl rfl rfl rfl rfl rfl ?_ | refine ozn ?_) | refine c_seq ?_ | refine p_then ?_ | refine c_region ?_ | refine s_nil ?_ | refine c_cond_t rfl ?_ | refine c_cond_f rfl ?_ | refine c_block ?_ | refine c_skip ?_ | refine c_exit ?_ | refine p_block ?_ | refine p_then_exit ?_ | refine p_block_here ?_ | refine p_block_on rfl ?_ | refine c_ret ?_ | refine p_then_ret ?_ | refine p_block_ret ?_ | refine p_end ?_ | refine c_if_t rfl (by omega) ?_ | refine c_if_f rfl (by omega) ?_)
  refine t_e e_alloc rfl rfl rfl ?_; rintro _ _ ⟨b13, _, rfl, rfl⟩
  repeat (first | (show OpsS _ _ _ _ _ _ (_ :: _) _ _ _; first | refine ozq ?_ | refine ozs ?_ | refine ozs0 ?_ | refine ozt ?_ | refine ozf ?_ | refine t_hu rfl rfl rfl rfl rfl rfl ?_ | refine ozn ?_) | refine c_seq ?_ | refine p_then ?_ | refine c_region ?_ | refine s_nil ?_ | refine c_cond_t rfl ?_ | refine c_cond_f rfl ?_ | refine c_block ?_ | refine c_skip ?_ | refine c_exit ?_ | refine p_block ?_ | refine p_then_exit ?_ | refine p_block_here ?_ | refine p_block_on rfl ?_ | refine c_ret ?_ | refine p_then_ret ?_ | refine p_block_ret ?_ | refine p_end ?_ | refine c_if_t rfl (by omega) ?_ | refine c_if_f rfl (by omega) ?_)
  refine k_loop (α := CapT × Int × List stT × Nat × Value × List Chunk) (fun x => [(0, .pointer (some ⟨bs, 0, none⟩)), (1, .pointer (some ⟨ba, 0, none⟩)), (3, .int .u64 (addr : Nat)), (12, x.2.2.2.2.1), (13, .pointer (some ⟨b13, 0, none⟩)), (14, .int .i64 x.2.1)]) (fun x => capC b13 x.1 :: (x.2.2.2.2.2 ++ l))
    (fun x => OwnSl 34 2 x.2.2.2.2.1 x.2.2.1.length (tcs (x.2.2.1.map Prod.fst)) x.2.2.2.2.2 ∧ L = x.2.2.1 ++ walkL D S addr x.2.2.2.1 x.1 x.2.1 ∧ x.2.1 ≤ (x.2.2.2.1 : Nat) ∧ x.2.1 ≤ 12 ∧ x.1.guard ≤ 9223372036854775807 ∧ (lastD x.2.2.1 (d : Nat)).2 = x.2.1 ∧ x.2.2.1.length + x.2.2.2.1 ≤ 13) (fun x => x.2.1.toNat) (root, (d : Nat), [], 13, .slice none 0 0, []) ⟨OwnSl.nil _ _, hL.symm, by simp only; omega, by simp only; omega, hg, rfl, by simp⟩ ⟨rfl, rfl, rfl, rfl, rfl, rfl, trivial⟩ (by ((try simp only [List.cons_append, List.nil_append, List.map_cons, List.map_nil]); repeat (first | with_reducible apply Keep.refl | (apply Keep.pick; · (repeat (first | apply Pick.here | apply Pick.there))) | apply Keep.drop))) ?_
  rintro ⟨c, left, pre, f, u, cs⟩ ⟨hu, hW, hf, hl12, hgc, hla, hfl⟩
  simp only at hu hW hf hl12 hgc hla hfl ⊢
  have hu1 : u.oneCell' = true := hu.one
  by_cases hl0 : left > 0
  case neg =>
    rw [walk_end (by omega), List.append_nil] at hW
    rw [hW, if_neg (by omega)]
    repeat (first | (show OpsS _ _ _ _ _ _ (_ :: _) _ _ _; first | refine ozq ?_ | refine ozs ?_ | refine ozs0 ?_ | refine ozt ?_ | refine ozf ?_ | refine t_hu rfl rfl rfl rfl rfl rfl ?_ | refine ozn ?_) | refine c_seq ?_ | refine p_then ?_ | refine c_region ?_ | refine s_nil ?_ | refine c_cond_t rfl ?_ | refine c_cond_f rfl ?_ | refine c_block ?_ | refine c_skip ?_ | refine c_exit ?_ | refine p_block ?_ | refine p_then_exit ?_ | refine p_block_here ?_ | refine p_block_on rfl ?_ | refine c_ret ?_ | refine p_then_ret ?_ | refine p_block_ret ?_ | refine p_end ?_ | refine c_if_t rfl (by omega) ?_ | refine c_if_f rfl (by omega) ?_)
    exact k_ret [] rfl (l' := cs ++ l) (.drop .refl) (by (repeat (first | apply ResS.nil | (apply rs_tmp; (· rfl)) | (apply rs_cell1; (· rfl); (· ((repeat (first | with_reducible apply List.mem_cons_self | with_reducible apply List.mem_cons_of_mem)); try with_reducible assumption)); (· rfl)) | (apply rs_cellA; (· rfl); (· ((repeat (first | with_reducible apply List.mem_cons_self | with_reducible apply List.mem_cons_of_mem)); try with_reducible assumption)); (· (repeat (first | with_reducible apply LSub.done | with_reducible apply LSub.take | with_reducible apply LSub.drop))))))) ⟨_, cs, rfl, hu, rfl⟩
  obtain ⟨f, rfl⟩ : ∃ q, f = q + 1 := ⟨f - 1, by omega⟩
  have hfail : stepD D S addr c left = none → L = pre ∧ (if (lastD L (d : Nat)).2 > 0 then 12 else 0 : Int) = 12 := fun h => by
    rw [walk_stop h, List.append_nil] at hW
    exact ⟨hW, by rw [hW, if_pos (by omega)]⟩
  repeat (first | (show OpsS _ _ _ _ _ _ (_ :: _) _ _ _; first | refine ozq ?_ | refine ozs ?_ | refine ozs0 ?_ | refine ozt ?_ | refine ozf ?_ | refine t_hu rfl rfl rfl rfl rfl rfl ?_ | refine ozn ?_) | refine c_seq ?_ | refine p_then ?_ | refine c_region ?_ | refine s_nil ?_ | refine c_cond_t rfl ?_ | refine c_cond_f rfl ?_ | refine c_block ?_ | refine c_skip ?_ | refine c_exit ?_ | refine p_block ?_ | refine p_then_exit ?_ | refine p_block_here ?_ | refine p_block_on rfl ?_ | refine c_ret ?_ | refine p_then_ret ?_ | refine p_block_ret ?_ | refine p_end ?_ | refine c_if_t rfl (by omega) ?_ | refine c_if_f rfl (by omega) ?_)
  refine t_q (q_call rfl rfl fun l2 hl => Ar.rget_any ba S la hA c.obj l2 fun x hx => hl x (.tail _ (List.mem_append_right _ (h2 x hx)))) rfl rfl rfl ?_
  obtain ⟨o, ho⟩ : ∃ o, (Ar.getD' S c.obj).1 = o := ⟨_, rfl⟩
  obtain ⟨ok, hok⟩ : ∃ ok, (Ar.getD' S c.obj).2 = ok := ⟨_, rfl⟩
  have hoA : obA S c = o := ho
  rw [ho, hok]
  repeat (first | (show OpsS _ _ _ _ _ _ (_ :: _) _ _ _; first | refine ozq ?_ | refine ozs ?_ | refine ozs0 ?_ | refine ozt ?_ | refine ozf ?_ | refine t_hu rfl rfl rfl rfl rfl rfl ?_ | refine ozn ?_) | refine c_seq ?_ | refine p_then ?_ | refine c_region ?_ | refine s_nil ?_ | refine c_cond_t rfl ?_ | refine c_cond_f rfl ?_ | refine c_block ?_ | refine c_skip ?_ | refine c_exit ?_ | refine p_block ?_ | refine p_then_exit ?_ | refine p_block_here ?_ | refine p_block_on rfl ?_ | refine c_ret ?_ | refine p_then_ret ?_ | refine p_block_ret ?_ | refine p_end ?_ | refine c_if_t rfl (by omega) ?_ | refine c_if_f rfl (by omega) ?_)
  refine t_e e_alloc rfl rfl rfl ?_; rintro _ _ ⟨b15, _, rfl, rfl⟩
  repeat (first | (show OpsS _ _ _ _ _ _ (_ :: _) _ _ _; first | refine ozq ?_ | refine ozs ?_ | refine ozs0 ?_ | refine ozt ?_ | refine ozf ?_ | refine t_hu rfl rfl rfl rfl rfl rfl ?_ | refine ozn ?_) | refine c_seq ?_ | refine p_then ?_ | refine c_region ?_ | refine s_nil ?_ | refine c_cond_t rfl ?_ | refine c_cond_f rfl ?_ | refine c_block ?_ | refine c_skip ?_ | refine c_exit ?_ | refine p_block ?_ | refine p_then_exit ?_ | refine p_block_here ?_ | refine p_block_on rfl ?_ | refine c_ret ?_ | refine p_then_ret ?_ | refine p_block_ret ?_ | refine p_end ?_ | refine c_if_t rfl (by omega) ?_ | refine c_if_f rfl (by omega) ?_)
  refine t_q (q_call rfl rfl fun l2 _ => rmay_any c l2) rfl rfl rfl ?_
  rw [may_eq c hgc]
  have hret : ∀ {X : List Chunk}, Keep (X ++ (Ar.obK b15 o :: capC b13 c :: (cs ++ l))) (cs ++ l) := fun {X} => Keep.dropL' X (.drop (.drop .refl))
  cases hM : mayC c with
  | false =>
    obtain ⟨e1, e2⟩ := hfail (step_none1 fun h => by have h1 := h.1; rw [hM] at h1; cases h1)
    rw [e2, e1]
    repeat (first | (show OpsS _ _ _ _ _ _ (_ :: _) _ _ _; first | refine ozq ?_ | refine ozs ?_ | refine ozs0 ?_ | refine ozt ?_ | refine ozf ?_ | refine t_hu rfl rfl rfl rfl rfl rfl ?_ | refine ozn ?_) | refine c_seq ?_ | refine p_then ?_ | refine c_region ?_ | refine s_nil ?_ | refine c_cond_t rfl ?_ | refine c_cond_f rfl ?_ | refine c_block ?_ | refine c_skip ?_ | refine c_exit ?_ | refine p_block ?_ | refine p_then_exit ?_ | refine p_block_here ?_ | refine p_block_on rfl ?_ | refine c_ret ?_ | refine p_then_ret ?_ | refine p_block_ret ?_ | refine p_end ?_ | refine c_if_t rfl (by omega) ?_ | refine c_if_f rfl (by omega) ?_)
    exact k_ret [] rfl (l' := cs ++ l) (hret (X := [])) (by (repeat (first | apply ResS.nil | (apply rs_tmp; (· rfl)) | (apply rs_cell1; (· rfl); (· ((repeat (first | with_reducible apply List.mem_cons_self | with_reducible apply List.mem_cons_of_mem)); try with_reducible assumption)); (· rfl)) | (apply rs_cellA; (· rfl); (· ((repeat (first | with_reducible apply List.mem_cons_self | with_reducible apply List.mem_cons_of_mem)); try with_reducible assumption)); (· (repeat (first | with_reducible apply LSub.done | with_reducible apply LSub.take | with_reducible apply LSub.drop))))))) ⟨_, cs, rfl, hu, rfl⟩
  | true =>
  by_cases hk2 : c.kind = 2
  case neg =>
    obtain ⟨e1, e2⟩ := hfail (step_none1 fun h => hk2 h.2.1)
    rw [e2, e1]
    repeat (first | (show OpsS _ _ _ _ _ _ (_ :: _) _ _ _; first | refine ozq ?_ | refine ozs ?_ | refine ozs0 ?_ | refine ozt ?_ | refine ozf ?_ | refine t_hu rfl rfl rfl rfl rfl rfl ?_ | refine ozn ?_) | refine c_seq ?_ | refine p_then ?_ | refine c_region ?_ | refine s_nil ?_ | refine c_cond_t rfl ?_ | refine c_cond_f rfl ?_ | refine c_block ?_ | refine c_skip ?_ | refine c_exit ?_ | refine p_block ?_ | refine p_then_exit ?_ | refine p_block_here ?_ | refine p_block_on rfl ?_ | refine c_ret ?_ | refine p_then_ret ?_ | refine p_block_ret ?_ | refine p_end ?_ | refine c_if_t rfl (by omega) ?_ | refine c_if_f rfl (by omega) ?_)
    exact k_ret [] rfl (l' := cs ++ l) (hret (X := [])) (by (repeat (first | apply ResS.nil | (apply rs_tmp; (· rfl)) | (apply rs_cell1; (· rfl); (· ((repeat (first | with_reducible apply List.mem_cons_self | with_reducible apply List.mem_cons_of_mem)); try with_reducible assumption)); (· rfl)) | (apply rs_cellA; (· rfl); (· ((repeat (first | with_reducible apply List.mem_cons_self | with_reducible apply List.mem_cons_of_mem)); try with_reducible assumption)); (· (repeat (first | with_reducible apply LSub.done | with_reducible apply LSub.take | with_reducible apply LSub.drop))))))) ⟨_, cs, rfl, hu, rfl⟩
  cases hokb : ok with
  | false =>
    obtain ⟨e1, e2⟩ := hfail (step_none1 fun h => by have h1 := h.2.2.1; rw [hok, hokb] at h1; cases h1)
    rw [e2, e1]
    repeat (first | (show OpsS _ _ _ _ _ _ (_ :: _) _ _ _; first | refine ozq ?_ | refine ozs ?_ | refine ozs0 ?_ | refine ozt ?_ | refine ozf ?_ | refine t_hu rfl rfl rfl rfl rfl rfl ?_ | refine ozn ?_) | refine c_seq ?_ | refine p_then ?_ | refine c_region ?_ | refine s_nil ?_ | refine c_cond_t rfl ?_ | refine c_cond_f rfl ?_ | refine c_block ?_ | refine c_skip ?_ | refine c_exit ?_ | refine p_block ?_ | refine p_then_exit ?_ | refine p_block_here ?_ | refine p_block_on rfl ?_ | refine c_ret ?_ | refine p_then_ret ?_ | refine p_block_ret ?_ | refine p_end ?_ | refine c_if_t rfl (by omega) ?_ | refine c_if_f rfl (by omega) ?_)
    exact k_ret [] rfl (l' := cs ++ l) (hret (X := [])) (by (repeat (first | apply ResS.nil | (apply rs_tmp; (· rfl)) | (apply rs_cell1; (· rfl); (· ((repeat (first | with_reducible apply List.mem_cons_self | with_reducible apply List.mem_cons_of_mem)); try with_reducible assumption)); (· rfl)) | (apply rs_cellA; (· rfl); (· ((repeat (first | with_reducible apply List.mem_cons_self | with_reducible apply List.mem_cons_of_mem)); try with_reducible assumption)); (· (repeat (first | with_reducible apply LSub.done | with_reducible apply LSub.take | with_reducible apply LSub.drop))))))) ⟨_, cs, rfl, hu, rfl⟩
  | true =>
  rw [hokb] at hok
  by_cases hkd : o.kd = 2
  case neg =>
    obtain ⟨e1, e2⟩ := hfail (step_none1 fun h => hkd (by rw [← hoA]; exact h.2.2.2.1))
    rw [e2, e1]
    repeat (first | (show OpsS _ _ _ _ _ _ (_ :: _) _ _ _; first | refine ozq ?_ | refine ozs ?_ | refine ozs0 ?_ | refine ozt ?_ | refine ozf ?_ | refine t_hu rfl rfl rfl rfl rfl rfl ?_ | refine ozn ?_) | refine c_seq ?_ | refine p_then ?_ | refine c_region ?_ | refine s_nil ?_ | refine c_cond_t rfl ?_ | refine c_cond_f rfl ?_ | refine c_block ?_ | refine c_skip ?_ | refine c_exit ?_ | refine p_block ?_ | refine p_then_exit ?_ | refine p_block_here ?_ | refine p_block_on rfl ?_ | refine c_ret ?_ | refine p_then_ret ?_ | refine p_block_ret ?_ | refine p_end ?_ | refine c_if_t rfl (by omega) ?_ | refine c_if_f rfl (by omega) ?_)
    exact k_ret [] rfl (l' := cs ++ l) (hret (X := [])) (by (repeat (first | apply ResS.nil | (apply rs_tmp; (· rfl)) | (apply rs_cell1; (· rfl); (· ((repeat (first | with_reducible apply List.mem_cons_self | with_reducible apply List.mem_cons_of_mem)); try with_reducible assumption)); (· rfl)) | (apply rs_cellA; (· rfl); (· ((repeat (first | with_reducible apply List.mem_cons_self | with_reducible apply List.mem_cons_of_mem)); try with_reducible assumption)); (· (repeat (first | with_reducible apply LSub.done | with_reducible apply LSub.take | with_reducible apply LSub.drop))))))) ⟨_, cs, rfl, hu, rfl⟩
  obtain ⟨bt0, bt1, gd0, _⟩ := node_bits hM hk2
  obtain ⟨sz1, sz2⟩ : 1 ≤ o.sz ∧ o.sz ≤ 4 := by rw [← ho] at hkd ⊢; exact hR _ (get_mem hok).1 hkd
  by_cases hbl0 : c.bits > left
  · obtain ⟨e1, e2⟩ := hfail (step_none1 fun h => by have := h.2.2.2.2; rw [hoA] at this; omega)
    rw [e2, e1]
    repeat (first | (show OpsS _ _ _ _ _ _ (_ :: _) _ _ _; first | refine ozq ?_ | refine ozs ?_ | refine ozs0 ?_ | refine ozt ?_ | refine ozf ?_ | refine t_hu rfl rfl rfl rfl rfl rfl ?_ | refine ozn ?_) | refine c_seq ?_ | refine p_then ?_ | refine c_region ?_ | refine s_nil ?_ | refine c_cond_t rfl ?_ | refine c_cond_f rfl ?_ | refine c_block ?_ | refine c_skip ?_ | refine c_exit ?_ | refine p_block ?_ | refine p_then_exit ?_ | refine p_block_here ?_ | refine p_block_on rfl ?_ | refine c_ret ?_ | refine p_then_ret ?_ | refine p_block_ret ?_ | refine p_end ?_ | refine c_if_t rfl (by omega) ?_ | refine c_if_f rfl (by omega) ?_)
    exact k_ret [] rfl (l' := cs ++ l) (hret (X := [])) (by (repeat (first | apply ResS.nil | (apply rs_tmp; (· rfl)) | (apply rs_cell1; (· rfl); (· ((repeat (first | with_reducible apply List.mem_cons_self | with_reducible apply List.mem_cons_of_mem)); try with_reducible assumption)); (· rfl)) | (apply rs_cellA; (· rfl); (· ((repeat (first | with_reducible apply List.mem_cons_self | with_reducible apply List.mem_cons_of_mem)); try with_reducible assumption)); (· (repeat (first | with_reducible apply LSub.done | with_reducible apply LSub.take | with_reducible apply LSub.drop))))))) ⟨_, cs, rfl, hu, rfl⟩
  have hid : o.id = c.obj := by rw [← ho]; exact (get_mem hok).2
  repeat (first | (show OpsS _ _ _ _ _ _ (_ :: _) _ _ _; first | refine ozq ?_ | refine ozs ?_ | refine ozs0 ?_ | refine ozt ?_ | refine ozf ?_ | refine t_hu rfl rfl rfl rfl rfl rfl ?_ | refine ozn ?_) | refine c_seq ?_ | refine p_then ?_ | refine c_region ?_ | refine s_nil ?_ | refine c_cond_t rfl ?_ | refine c_cond_f rfl ?_ | refine c_block ?_ | refine c_skip ?_ | refine c_exit ?_ | refine p_block ?_ | refine p_then_exit ?_ | refine p_block_here ?_ | refine p_block_on rfl ?_ | refine c_ret ?_ | refine p_then_ret ?_ | refine p_block_ret ?_ | refine p_end ?_ | refine c_if_t rfl (by omega) ?_ | refine c_if_f rfl (by omega) ?_)
  refine c_draw [(0, true), (1, true), (2, true), (3, true), (4, true), (5, true), (6, true), (7, true)] [[], [], [], [2], [0, 1, 2, 3], [], [5], [0, 1, 2, 3, 4, 5, 6]] _ (by kernel_rfl) (by kernel_rfl) (by (repeat (first | apply Attach.nil | (apply Attach.cons; · rfl)))) (fun _ h => h) ?_
  repeat (first | refine pl_nil ?_ | (show PlanS _ _ _ _ _ _ _ _ _ _ ((_, true, _) :: _) _ _ _; first | refine pzq ?_) | (show PlanS _ _ _ _ _ _ _ _ none [] ((_, false, _) :: _) _ _ _; first | refine pzn ?_ | refine pze ?_))
  refine pl_h (q_call rfl rfl fun l2 _ => take_int addr haddr left c.bits (by omega) (by omega) (by omega) l2) rfl rfl rfl ?_
  repeat (first | refine pl_nil ?_ | (show PlanS _ _ _ _ _ _ _ _ _ _ ((_, true, _) :: _) _ _ _; first | refine pzq ?_) | (show PlanS _ _ _ _ _ _ _ _ none [] ((_, false, _) :: _) _ _ _; first | refine pzn ?_ | refine pze ?_))
  have hgF : ((guF addr c left : Nat) : Int) = (fieldN addr (left - c.bits).toNat c.bits.toNat : Nat) := by
    unfold guF
    split
    · rfl
    · rw [show c.bits = 0 by omega]; simp [fieldN, Nat.mod_one]
  rw [← hgF]
  have hguv : ((u64V c.guard : Nat) : Int) = c.guard := u64V_nn (by omega) hgc
  by_cases hgd : ((guF addr c left : Nat) : Int) = c.guard
  case neg =>
    obtain ⟨e1, e2⟩ := hfail (step_none2 fun h => hgd (by rw [h.1, hguv]))
    rw [e2, e1]
    repeat (first | (show OpsS _ _ _ _ _ _ (_ :: _) _ _ _; first | refine ozq ?_ | refine ozs ?_ | refine ozs0 ?_ | refine ozt ?_ | refine ozf ?_ | refine t_hu rfl rfl rfl rfl rfl rfl ?_ | refine ozn ?_) | refine c_seq ?_ | refine p_then ?_ | refine c_region ?_ | refine s_nil ?_ | refine c_cond_t rfl ?_ | refine c_cond_f rfl ?_ | refine c_block ?_ | refine c_skip ?_ | refine c_exit ?_ | refine p_block ?_ | refine p_then_exit ?_ | refine p_block_here ?_ | refine p_block_on rfl ?_ | refine c_ret ?_ | refine p_then_ret ?_ | refine p_block_ret ?_ | refine p_end ?_ | refine c_if_t rfl (by omega) ?_ | refine c_if_f rfl (by omega) ?_)
    exact k_ret [] rfl (l' := cs ++ l) (hret (X := [])) (by (repeat (first | apply ResS.nil | (apply rs_tmp; (· rfl)) | (apply rs_cell1; (· rfl); (· ((repeat (first | with_reducible apply List.mem_cons_self | with_reducible apply List.mem_cons_of_mem)); try with_reducible assumption)); (· rfl)) | (apply rs_cellA; (· rfl); (· ((repeat (first | with_reducible apply List.mem_cons_self | with_reducible apply List.mem_cons_of_mem)); try with_reducible assumption)); (· (repeat (first | with_reducible apply LSub.done | with_reducible apply LSub.take | with_reducible apply LSub.drop))))))) ⟨_, cs, rfl, hu, rfl⟩
  have hgd' : guF addr c left = u64V c.guard := by omega
  by_cases hbl : c.bits + o.sz > left
  · obtain ⟨e1, e2⟩ := hfail (step_none1 fun h => by have := h.2.2.2.2; rw [hoA] at this; omega)
    rw [e2, e1]
    repeat (first | (show OpsS _ _ _ _ _ _ (_ :: _) _ _ _; first | refine ozq ?_ | refine ozs ?_ | refine ozs0 ?_ | refine ozt ?_ | refine ozf ?_ | refine t_hu rfl rfl rfl rfl rfl rfl ?_ | refine ozn ?_) | refine c_seq ?_ | refine p_then ?_ | refine c_region ?_ | refine s_nil ?_ | refine c_cond_t rfl ?_ | refine c_cond_f rfl ?_ | refine c_block ?_ | refine c_skip ?_ | refine c_exit ?_ | refine p_block ?_ | refine p_then_exit ?_ | refine p_block_here ?_ | refine p_block_on rfl ?_ | refine c_ret ?_ | refine p_then_ret ?_ | refine p_block_ret ?_ | refine p_end ?_ | refine c_if_t rfl (by omega) ?_ | refine c_if_f rfl (by omega) ?_)
    exact k_ret [] rfl (l' := cs ++ l) (hret (X := [])) (by (repeat (first | apply ResS.nil | (apply rs_tmp; (· rfl)) | (apply rs_cell1; (· rfl); (· ((repeat (first | with_reducible apply List.mem_cons_self | with_reducible apply List.mem_cons_of_mem)); try with_reducible assumption)); (· rfl)) | (apply rs_cellA; (· rfl); (· ((repeat (first | with_reducible apply List.mem_cons_self | with_reducible apply List.mem_cons_of_mem)); try with_reducible assumption)); (· (repeat (first | with_reducible apply LSub.done | with_reducible apply LSub.take | with_reducible apply LSub.drop))))))) ⟨_, cs, rfl, hu, rfl⟩
  have hgo : goes S c left := ⟨hM, hk2, hok, by rw [hoA]; exact hkd, by rw [hoA]; omega⟩
  obtain ⟨x, hx⟩ : ∃ x, slotN S addr c left = x := ⟨_, rfl⟩
  have hlN : leftN S c left = left - c.bits - o.sz := by unfold leftN; rw [hoA]; omega
  have hx1 : x.1 = c.obj := by rw [← hx]; unfold slotN; rw [hoA, hid]
  have hx2 : x.2 = (fieldN addr (left - c.bits - o.sz).toNat o.sz.toNat : Nat) := by rw [← hx, ← hlN]; unfold slotN; rw [hoA]
  repeat (first | (show OpsS _ _ _ _ _ _ (_ :: _) _ _ _; first | refine ozq ?_ | refine ozs ?_ | refine ozs0 ?_ | refine ozt ?_ | refine ozf ?_ | refine t_hu rfl rfl rfl rfl rfl rfl ?_ | refine ozn ?_) | refine c_seq ?_ | refine p_then ?_ | refine c_region ?_ | refine s_nil ?_ | refine c_cond_t rfl ?_ | refine c_cond_f rfl ?_ | refine c_block ?_ | refine c_skip ?_ | refine c_exit ?_ | refine p_block ?_ | refine p_then_exit ?_ | refine p_block_here ?_ | refine p_block_on rfl ?_ | refine c_ret ?_ | refine p_then_ret ?_ | refine p_block_ret ?_ | refine p_end ?_ | refine c_if_t rfl (by omega) ?_ | refine c_if_f rfl (by omega) ?_)
  refine c_draw [(0, true), (1, true), (2, true), (3, true), (4, true), (5, true), (6, true), (7, true), (8, false), (9, false)] [[], [0], [], [], [], [4], [2, 3, 4, 5], [0, 1, 2, 3, 4, 5, 6], [], [0, 1, 2, 3, 4, 5, 6, 7, 8]] _ (by kernel_rfl) (by kernel_rfl) (by (repeat (first | apply Attach.nil | (apply Attach.cons; · rfl)))) (fun _ h => h) ?_
  repeat (first | refine pl_nil ?_ | (show PlanS _ _ _ _ _ _ _ _ _ _ ((_, true, _) :: _) _ _ _; first | refine pzq ?_) | (show PlanS _ _ _ _ _ _ _ _ none [] ((_, false, _) :: _) _ _ _; first | refine pzn ?_ | refine pze ?_))
  refine pl_h (q_call rfl rfl fun l2 _ => take_int addr haddr (left - c.bits) o.sz (by omega) (by omega) (by omega) l2) rfl rfl rfl ?_
  repeat (first | refine pl_nil ?_ | (show PlanS _ _ _ _ _ _ _ _ _ _ ((_, true, _) :: _) _ _ _; first | refine pzq ?_) | (show PlanS _ _ _ _ _ _ _ _ none [] ((_, false, _) :: _) _ _ _; first | refine pzn ?_ | refine pze ?_))
  apply pl_e
  · exact e_alloc
  · rfl
  · rfl
  · rfl
  · rintro _ _ ⟨b17, _, _, rfl⟩ z hz
    exact .tail _ hz
  rintro _ _ ⟨b17, _, rfl, rfl⟩
  repeat (first | refine pl_nil ?_ | (show PlanS _ _ _ _ _ _ _ _ _ _ ((_, true, _) :: _) _ _ _; first | refine pzq ?_) | (show PlanS _ _ _ _ _ _ _ _ none [] ((_, false, _) :: _) _ _ _; first | refine pzn ?_ | refine pze ?_))
  rw [← hx1, ← hx2]
  repeat (first | (show OpsS _ _ _ _ _ _ (_ :: _) _ _ _; first | refine ozq ?_ | refine ozs ?_ | refine ozs0 ?_ | refine ozt ?_ | refine ozf ?_ | refine t_hu rfl rfl rfl rfl rfl rfl ?_ | refine ozn ?_) | refine c_seq ?_ | refine p_then ?_ | refine c_region ?_ | refine s_nil ?_ | refine c_cond_t rfl ?_ | refine c_cond_f rfl ?_ | refine c_block ?_ | refine c_skip ?_ | refine c_exit ?_ | refine p_block ?_ | refine p_then_exit ?_ | refine p_block_here ?_ | refine p_block_on rfl ?_ | refine c_ret ?_ | refine p_then_ret ?_ | refine p_block_ret ?_ | refine p_end ?_ | refine c_if_t rfl (by omega) ?_ | refine c_if_f rfl (by omega) ?_)
  have HH : ∀ l2, (∀ z, z ∈ lq → z ∈ l2) → Fn Try.prog 32 [.pointer (some ⟨bs, 0, none⟩), .agg (List.toArray [.int .i64 x.1, .int .i64 x.2])] l2 fun v l' => v = .bool (okD D x) ∧ l' = l2 := fun l2 h => rhas_any bs D lq hq hn x l2 h
  have HG : ∀ l2, (∀ z, z ∈ lq → z ∈ l2) → Fn Try.prog 33 [.pointer (some ⟨bs, 0, none⟩), .agg (List.toArray [.int .i64 x.1, .int .i64 x.2])] l2 fun v l' => v = .tuple #[.agg (List.toArray (encC (getD' D x).1)), .int .i64 (getD' D x).2] ∧ l' = l2 := fun l2 h => rget_any bs D lq hq hn x l2 h
  refine t_q (q_call rfl rfl fun l2 hl => HH l2 fun z hz => hl z (.tail _ (.tail _ (.tail _ (List.mem_append_right _ (h1 z hz)))))) rfl rfl rfl ?_
  cases hox : okD D x with
  | false =>
    obtain ⟨e1, e2⟩ := hfail (step_none2 fun h => by have h2 := h.2; rw [hx] at h2; unfold getD' at h2; rw [hox] at h2; cases h2)
    rw [e2, e1]
    repeat (first | (show OpsS _ _ _ _ _ _ (_ :: _) _ _ _; first | refine ozq ?_ | refine ozs ?_ | refine ozs0 ?_ | refine ozt ?_ | refine ozf ?_ | refine t_hu rfl rfl rfl rfl rfl rfl ?_ | refine ozn ?_) | refine c_seq ?_ | refine p_then ?_ | refine c_region ?_ | refine s_nil ?_ | refine c_cond_t rfl ?_ | refine c_cond_f rfl ?_ | refine c_block ?_ | refine c_skip ?_ | refine c_exit ?_ | refine p_block ?_ | refine p_then_exit ?_ | refine p_block_here ?_ | refine p_block_on rfl ?_ | refine c_ret ?_ | refine p_then_ret ?_ | refine p_block_ret ?_ | refine p_end ?_ | refine c_if_t rfl (by omega) ?_ | refine c_if_f rfl (by omega) ?_)
    exact k_ret [] rfl (l' := cs ++ l) (hret (X := [_])) (by (repeat (first | apply ResS.nil | (apply rs_tmp; (· rfl)) | (apply rs_cell1; (· rfl); (· ((repeat (first | with_reducible apply List.mem_cons_self | with_reducible apply List.mem_cons_of_mem)); try with_reducible assumption)); (· rfl)) | (apply rs_cellA; (· rfl); (· ((repeat (first | with_reducible apply List.mem_cons_self | with_reducible apply List.mem_cons_of_mem)); try with_reducible assumption)); (· (repeat (first | with_reducible apply LSub.done | with_reducible apply LSub.take | with_reducible apply LSub.drop))))))) ⟨_, cs, rfl, hu, rfl⟩
  | true =>
  repeat (first | (show OpsS _ _ _ _ _ _ (_ :: _) _ _ _; first | refine ozq ?_ | refine ozs ?_ | refine ozs0 ?_ | refine ozt ?_ | refine ozf ?_ | refine t_hu rfl rfl rfl rfl rfl rfl ?_ | refine ozn ?_) | refine c_seq ?_ | refine p_then ?_ | refine c_region ?_ | refine s_nil ?_ | refine c_cond_t rfl ?_ | refine c_cond_f rfl ?_ | refine c_block ?_ | refine c_skip ?_ | refine c_exit ?_ | refine p_block ?_ | refine p_then_exit ?_ | refine p_block_here ?_ | refine p_block_on rfl ?_ | refine c_ret ?_ | refine p_then_ret ?_ | refine p_block_ret ?_ | refine p_end ?_ | refine c_if_t rfl (by omega) ?_ | refine c_if_f rfl (by omega) ?_)
  refine t_e (e_litA (ws := encT x) (k := 2) rfl rfl rfl (by decide) (by decide)) rfl rfl rfl ?_
  rintro _ _ ⟨bl, _, rfl, rfl⟩
  refine t_e (e_appX (k := 2) (X := [slC b17 x, Ar.obK b15 o, capC b13 c]) (cs := cs) (F := l) (xs := tcs (pre.map Prod.fst)) (n := pre.length) (ws := encT x) rfl rfl rfl hu rfl (by simp [Value.oneCell']) (by omega) (by decide)) rfl rfl rfl ?_
  rintro u2 _ ⟨cs2, hu2, rfl⟩
  have hu21 : u2.oneCell' = true := hu2.one
  simp only [List.cons_append, List.nil_append]
  repeat (first | (show OpsS _ _ _ _ _ _ (_ :: _) _ _ _; first | refine ozq ?_ | refine ozs ?_ | refine ozs0 ?_ | refine ozt ?_ | refine ozf ?_ | refine t_hu rfl rfl rfl rfl rfl rfl ?_ | refine ozn ?_) | refine c_seq ?_ | refine p_then ?_ | refine c_region ?_ | refine s_nil ?_ | refine c_cond_t rfl ?_ | refine c_cond_f rfl ?_ | refine c_block ?_ | refine c_skip ?_ | refine c_exit ?_ | refine p_block ?_ | refine p_then_exit ?_ | refine p_block_here ?_ | refine p_block_on rfl ?_ | refine c_ret ?_ | refine p_then_ret ?_ | refine p_block_ret ?_ | refine p_end ?_ | refine c_if_t rfl (by omega) ?_ | refine c_if_f rfl (by omega) ?_)
  refine t_q (q_call rfl rfl fun l2 hl => HG l2 fun z hz => hl z (.tail _ (.tail _ (.tail _ (List.mem_append_right _ (h1 z hz)))))) rfl rfl rfl ?_
  have hge : (getD' D x).2 = 0 := by unfold getD'; rw [hox]; rfl
  have hng := gu_get hG x
  obtain ⟨nx, hnx⟩ : ∃ nx, (getD' D x).1 = nx := ⟨_, rfl⟩
  rw [hnx] at hng ⊢
  have hst : stepD D S addr c left = some ((x, leftN S c left), nx) := by
    rw [step_some hgo ⟨hgd', by rw [hx, hge]⟩, hx, hnx]
  have hE : walkL D S addr (f + 1) c left = (x, leftN S c left) :: walkL D S addr f nx (leftN S c left) := walk_on hl0 hst
  rw [hE] at hW
  repeat (first | (show OpsS _ _ _ _ _ _ (_ :: _) _ _ _; first | refine ozq ?_ | refine ozs ?_ | refine ozs0 ?_ | refine ozt ?_ | refine ozf ?_ | refine t_hu rfl rfl rfl rfl rfl rfl ?_ | refine ozn ?_) | refine c_seq ?_ | refine p_then ?_ | refine c_region ?_ | refine s_nil ?_ | refine c_cond_t rfl ?_ | refine c_cond_f rfl ?_ | refine c_block ?_ | refine c_skip ?_ | refine c_exit ?_ | refine p_block ?_ | refine p_then_exit ?_ | refine p_block_here ?_ | refine p_block_on rfl ?_ | refine c_ret ?_ | refine p_then_ret ?_ | refine p_block_ret ?_ | refine p_end ?_ | refine c_if_t rfl (by omega) ?_ | refine c_if_f rfl (by omega) ?_)
  refine k_next (nx, leftN S c left, pre ++ [(x, leftN S c left)], f, u2, cs2) ⟨?_, ?_, ?_, ?_, ?_, ?_, ?_⟩ ?_ ⟨rfl, rfl, rfl, rfl, rfl, ?_, trivial⟩ ?_
  · simp only
    rw [List.length_append, List.map_append, show List.map Prod.fst [(x, leftN S c left)] = [x] from rfl, tcs_snoc]; exact hu2
  · rw [hW]; simp
  · simp only; omega
  · simp only; omega
  · exact hng
  · simp only; rw [lastD_snoc]
  · simp only [List.length_append, List.length_cons, List.length_nil]; omega
  · simp only; omega
  · rw [hlN]; rfl
  · simp only [List.cons_append]
    exact .drop (.drop .refl)
theorem rres_any (bs ba : Nat) (D : SD) (S : Ar.ArT) (lq la : List Chunk) (hq : IsR bs D lq) (hn : D.length ≤ 900000) (hG : GuD D) (hA : Ar.IsR ba S la) (hR : Rad S) (addr : Nat) (haddr : addr < 18446744073709551616) (root : CapT) (hg : root.guard ≤ 9223372036854775807) (depth : Int) (l : List Chunk) (h1 : ∀ c, c ∈ lq → c ∈ l) (h2 : ∀ c, c ∈ la → c ∈ l) :
    Fn Try.prog 12 [.pointer (some ⟨bs, 0, none⟩), .pointer (some ⟨ba, 0, none⟩), .agg (List.toArray (encC root)), .int .u64 (addr : Nat), .int .i64 depth] l fun v l' => v = .tuple #[.agg (List.toArray (encT (resD D S root addr depth).1)), .int .i64 (resD D S root addr depth).2] ∧ l' = l := by
  refine fn_of_body Try.func12 rfl rfl fun E => ?_
  simp only [argF, Try.ntmps12]
  repeat (first | (show OpsS _ _ _ _ _ _ (_ :: _) _ _ _; first | refine ozq ?_ | refine ozn ?_) | refine c_seq ?_ | refine p_then ?_ | refine c_region ?_ | refine s_nil ?_ | refine c_cond_t rfl ?_ | refine c_cond_f rfl ?_ | refine c_skip ?_ | refine c_ret ?_ | refine p_then_ret ?_ | refine p_end ?_ | refine c_if_t rfl (by omega) ?_ | refine c_if_f rfl (by omega) ?_)
  (first | refine t_e (e_box1 rfl rfl) rfl rfl rfl ?_ | refine t_e (e_boxA rfl) rfl rfl rfl ?_); rintro _ _ ⟨b7, _, rfl, rfl⟩
  repeat (first | (show OpsS _ _ _ _ _ _ (_ :: _) _ _ _; first | refine ozq ?_ | refine ozn ?_) | refine c_seq ?_ | refine p_then ?_ | refine c_region ?_ | refine s_nil ?_ | refine c_cond_t rfl ?_ | refine c_cond_f rfl ?_ | refine c_skip ?_ | refine c_ret ?_ | refine p_then_ret ?_ | refine p_end ?_ | refine c_if_t rfl (by omega) ?_ | refine c_if_f rfl (by omega) ?_)
  refine t_e e_alloc rfl rfl rfl ?_; rintro _ _ ⟨b10, _, rfl, rfl⟩
  repeat (first | (show OpsS _ _ _ _ _ _ (_ :: _) _ _ _; first | refine ozq ?_ | refine ozn ?_) | refine c_seq ?_ | refine p_then ?_ | refine c_region ?_ | refine s_nil ?_ | refine c_cond_t rfl ?_ | refine c_cond_f rfl ?_ | refine c_skip ?_ | refine c_ret ?_ | refine p_then_ret ?_ | refine p_end ?_ | refine c_if_t rfl (by omega) ?_ | refine c_if_f rfl (by omega) ?_)
  refine t_e (e_call0 rfl rfl (rpath_any bs ba D S lq la hq hn hG hA hR addr haddr root hg depth _ (fun c hc => .tail _ (.tail _ (h1 c hc))) (fun c hc => .tail _ (.tail _ (h2 c hc))))) rfl rfl rfl ?_
  rintro _ _ ⟨u, cs, rfl, hu, rfl⟩
  obtain ⟨X, hX⟩ : ∃ X, X = slC b10 (0, 0) :: capC b7 root :: l := ⟨_, rfl⟩
  have m10 : slC b10 (0, 0) ∈ cs ++ X := List.mem_append_right _ (by rw [hX]; exact .head _)
  have hback : ∀ s, Keep (cs ++ (slC b10 s :: capC b7 root :: l)) (slC b10 s :: l) := fun s => Keep.trans (Keep.dropL' cs .refl) ((Keep.pick .here (.drop .refl)))
  by_cases hb : badD addr depth
  · rw [show refC D S root addr depth = 3 by unfold refC; rw [if_pos hb], show resD D S root addr depth = ((0, 0), 3) by unfold resD; rw [if_pos hb]]
    rw [← hX]
    repeat (first | (show OpsS _ _ _ _ _ _ (_ :: _) _ _ _; first | refine ozq ?_ | refine ozn ?_) | refine c_seq ?_ | refine p_then ?_ | refine c_region ?_ | refine s_nil ?_ | refine c_cond_t rfl ?_ | refine c_cond_f rfl ?_ | refine c_skip ?_ | refine c_ret ?_ | refine p_then_ret ?_ | refine p_end ?_ | refine c_if_t rfl (by omega) ?_ | refine c_if_f rfl (by omega) ?_)
    refine t_n (e_storeA (b := b10) (off := 0) (cs := List.toArray (encT (0, 0))) (ws := List.toArray (encT (0, 0))) (n := 2) (l' := cs ++ X) rfl rfl rfl (by simp [Value.oneCell']) (by rw [hX]; exact upd_pre .here cs) (by simp)) rfl rfl ?_
    rintro _ _ ⟨rfl, rfl⟩
    repeat (first | (show OpsS _ _ _ _ _ _ (_ :: _) _ _ _; first | refine ozq ?_ | refine ozn ?_) | refine c_seq ?_ | refine p_then ?_ | refine c_region ?_ | refine s_nil ?_ | refine c_cond_t rfl ?_ | refine c_cond_f rfl ?_ | refine c_skip ?_ | refine c_ret ?_ | refine p_then_ret ?_ | refine p_end ?_ | refine c_if_t rfl (by omega) ?_ | refine c_if_f rfl (by omega) ?_)
    rw [hX]
    exact k_ret2 [] (slC b10 (0, 0) :: l) rfl (l' := l) (hback _) (by (repeat (first | apply ResS.nil | (apply rs_tmp; (· rfl)) | (apply rs_cell1; (· rfl); (· ((repeat (first | with_reducible apply List.mem_cons_self | with_reducible apply List.mem_cons_of_mem)); try with_reducible assumption)); (· rfl)) | (apply rs_cellA; (· rfl); (· ((repeat (first | with_reducible apply List.mem_cons_self | with_reducible apply List.mem_cons_of_mem)); try with_reducible assumption)); (· (repeat (first | with_reducible apply LSub.done | with_reducible apply LSub.take | with_reducible apply LSub.drop))))))) (.drop .refl) ⟨rfl, rfl⟩
  obtain ⟨L, hL⟩ : ∃ L, walkL D S addr 13 root depth = L := ⟨_, rfl⟩
  rw [show pathD D S root addr depth = L by unfold pathD; rw [if_neg hb, hL]] at hu
  rw [show refC D S root addr depth = if (lastD L depth).2 > 0 then 12 else 0 by unfold refC; rw [if_neg hb, hL], show resD D S root addr depth = if (lastD L depth).2 > 0 then ((0, 0), 12) else ((lastD L depth).1, 0) by unfold resD; rw [if_neg hb, hL]]
  by_cases hz : (lastD L depth).2 > 0
  · rw [if_pos hz, if_pos hz]
    rw [← hX]
    repeat (first | (show OpsS _ _ _ _ _ _ (_ :: _) _ _ _; first | refine ozq ?_ | refine ozn ?_) | refine c_seq ?_ | refine p_then ?_ | refine c_region ?_ | refine s_nil ?_ | refine c_cond_t rfl ?_ | refine c_cond_f rfl ?_ | refine c_skip ?_ | refine c_ret ?_ | refine p_then_ret ?_ | refine p_end ?_ | refine c_if_t rfl (by omega) ?_ | refine c_if_f rfl (by omega) ?_)
    refine t_n (e_storeA (b := b10) (off := 0) (cs := List.toArray (encT (0, 0))) (ws := List.toArray (encT (0, 0))) (n := 2) (l' := cs ++ X) rfl rfl rfl (by simp [Value.oneCell']) (by rw [hX]; exact upd_pre .here cs) (by simp)) rfl rfl ?_
    rintro _ _ ⟨rfl, rfl⟩
    repeat (first | (show OpsS _ _ _ _ _ _ (_ :: _) _ _ _; first | refine ozq ?_ | refine ozn ?_) | refine c_seq ?_ | refine p_then ?_ | refine c_region ?_ | refine s_nil ?_ | refine c_cond_t rfl ?_ | refine c_cond_f rfl ?_ | refine c_skip ?_ | refine c_ret ?_ | refine p_then_ret ?_ | refine p_end ?_ | refine c_if_t rfl (by omega) ?_ | refine c_if_f rfl (by omega) ?_)
    rw [hX]
    exact k_ret2 [] (slC b10 (0, 0) :: l) rfl (l' := l) (hback _) (by (repeat (first | apply ResS.nil | (apply rs_tmp; (· rfl)) | (apply rs_cell1; (· rfl); (· ((repeat (first | with_reducible apply List.mem_cons_self | with_reducible apply List.mem_cons_of_mem)); try with_reducible assumption)); (· rfl)) | (apply rs_cellA; (· rfl); (· ((repeat (first | with_reducible apply List.mem_cons_self | with_reducible apply List.mem_cons_of_mem)); try with_reducible assumption)); (· (repeat (first | with_reducible apply LSub.done | with_reducible apply LSub.take | with_reducible apply LSub.drop))))))) (.drop .refl) ⟨rfl, rfl⟩
  rw [if_neg hz, if_neg hz]
  have hd1 : 1 ≤ depth := Decidable.byContradiction fun h => hb (.inl (by omega))
  rcases List.eq_nil_or_concat L with rfl | ⟨L', x, rfl⟩
  · exact absurd (show depth > 0 by omega) hz
  rw [List.concat_eq_append] at hu hL hz ⊢
  rw [lastD_snoc]
  have hrs : RowSl (cs ++ X) u 2 encT ((L' ++ [x]).map Prod.fst) := OwnSl.rowSl (e := 34) (enc := encT) (by rw [List.length_map]; exact hu) (fun _ => rfl) (fun c hc => List.mem_append_left _ hc)
  obtain ⟨a, cap, rfl, hrow⟩ := hrs
  obtain ⟨gb, off, xs, ty, fz, rfl, hm, hc⟩ := hrow (by simp)
  obtain ⟨g1, g2⟩ := hc L'.length x.1 (by simp)
  have hlen : ((L' ++ [x]).map Prod.fst).length = L'.length + 1 := by simp
  have hL13 : L'.length + 1 ≤ 13 := by have := walk_len D S addr 13 root depth; rw [hL] at this; simpa using this
  rw [hlen]
  rw [← hX]
  repeat (first | (show OpsS _ _ _ _ _ _ (_ :: _) _ _ _; first | refine ozq ?_ | refine ozn ?_) | refine c_seq ?_ | refine p_then ?_ | refine c_region ?_ | refine s_nil ?_ | refine c_cond_t rfl ?_ | refine c_cond_f rfl ?_ | refine c_skip ?_ | refine c_ret ?_ | refine p_then_ret ?_ | refine p_end ?_ | refine c_if_t rfl (by omega) ?_ | refine c_if_f rfl (by omega) ?_)
  rw [show ((L'.length + 1 : Nat) : Int) - 1 = (L'.length : Nat) by omega]
  repeat (first | (show OpsS _ _ _ _ _ _ (_ :: _) _ _ _; first | refine ozq ?_ | refine ozn ?_) | refine c_seq ?_ | refine p_then ?_ | refine c_region ?_ | refine s_nil ?_ | refine c_cond_t rfl ?_ | refine c_cond_f rfl ?_ | refine c_skip ?_ | refine c_ret ?_ | refine p_then_ret ?_ | refine p_end ?_ | refine c_if_t rfl (by omega) ?_ | refine c_if_f rfl (by omega) ?_)
  refine t_q (q_loadA rfl hm g1 g2) rfl rfl rfl ?_
  refine t_n (e_storeA (b := b10) (off := 0) (cs := List.toArray (encT (0, 0))) (ws := List.toArray (encT x.1)) (n := 2) (l' := cs ++ (slC b10 x.1 :: capC b7 root :: l)) rfl rfl rfl (by simp [Value.oneCell']) (by rw [hX]; exact upd_pre .here cs) (by simp)) rfl rfl ?_
  rintro _ _ ⟨rfl, rfl⟩
  repeat (first | (show OpsS _ _ _ _ _ _ (_ :: _) _ _ _; first | refine ozq ?_ | refine ozn ?_) | refine c_seq ?_ | refine p_then ?_ | refine c_region ?_ | refine s_nil ?_ | refine c_cond_t rfl ?_ | refine c_cond_f rfl ?_ | refine c_skip ?_ | refine c_ret ?_ | refine p_then_ret ?_ | refine p_end ?_ | refine c_if_t rfl (by omega) ?_ | refine c_if_f rfl (by omega) ?_)
  exact k_ret2 [] (slC b10 x.1 :: l) rfl (l' := l) (hback _) (by (repeat (first | apply ResS.nil | (apply rs_tmp; (· rfl)) | (apply rs_cell1; (· rfl); (· ((repeat (first | with_reducible apply List.mem_cons_self | with_reducible apply List.mem_cons_of_mem)); try with_reducible assumption)); (· rfl)) | (apply rs_cellA; (· rfl); (· ((repeat (first | with_reducible apply List.mem_cons_self | with_reducible apply List.mem_cons_of_mem)); try with_reducible assumption)); (· (repeat (first | with_reducible apply LSub.done | with_reducible apply LSub.take | with_reducible apply LSub.drop))))))) (.drop .refl) ⟨rfl, rfl⟩
end Go.Proofs.Ytdbdbhlhdcidpaa

/- Blocks in another order, told by counting; calls on blocks that stand further behind. Laws of my own, no program's. -/
set_option linter.unusedVariables false
set_option linter.unusedSimpArgs false
namespace Go.Proofs.Ytdbdbhlhdcidpaa
open Go.RowKit

theorem perm_ac {A B : List Chunk} (h : ∀ (f : List Chunk → Nat) (g : Chunk → Nat), f [] = 0 → (∀ x l, f (x :: l) = g x + f l) → (∀ x y, f (x ++ y) = f x + f y) → f A = f B := by intro f g h0 h1 h2; simp only [List.map_nil, List.map_cons, h0, h1, h2]; try omega) : A.Perm B := by
  classical
  refine List.perm_iff_count.2 fun a => h (fun l => List.count a l) (fun x => List.count a [x]) rfl (fun x l => ?_) (fun x y => List.count_append)
  rw [show x :: l = [x] ++ l from rfl, List.count_append]
theorem keep_ac {A B : List Chunk} (X : List Chunk) (h : ∀ (f : List Chunk → Nat) (g : Chunk → Nat), f [] = 0 → (∀ x l, f (x :: l) = g x + f l) → (∀ x y, f (x ++ y) = f x + f y) → f A = f (X ++ B) := by intro f g h0 h1 h2; simp only [List.map_nil, List.map_cons, h0, h1, h2]; try omega) : Keep A B := ⟨X, perm_ac h⟩
theorem Fn.mvP {P : Program} {f : FuncId} {args : List Value} {A F : List Chunk} {Kv : Value → Prop} {I : List Chunk → Prop} (Γ : List Chunk → List Chunk) (h : Fn P f args (A ++ F) fun v l' => Kv v ∧ ∃ A', I A' ∧ l' = A' ++ F)
    (hΓ : ∀ A, (Γ A).Perm (A ++ F) := by intro A; exact perm_ac) : Fn P f args (Γ A) fun v l' => Kv v ∧ ∃ A', I A' ∧ l' = Γ A' :=
  Fn.re (.of_perm (hΓ A)) h fun v l' ⟨h1, A', h2, h3⟩ => ⟨_, by rw [h3]; exact .of_perm (hΓ A').symm, h1, A', h2, rfl⟩
theorem Fn.mvX {P : Program} {f : FuncId} {args : List Value} {A F : List Chunk} {Kv : Value → Prop} {α : Type} {I : α → List Chunk → Prop} (Γ : List Chunk → List Chunk) (h : Fn P f args (A ++ F) fun v l' => Kv v ∧ ∃ A', ∃ x, I x A' ∧ l' = A' ++ F)
    (hΓ : ∀ A, (Γ A).Perm (A ++ F) := by intro A; exact perm_ac) : Fn P f args (Γ A) fun v l' => Kv v ∧ ∃ A', ∃ x, I x A' ∧ l' = Γ A' :=
  Fn.re (.of_perm (hΓ A)) h fun v l' ⟨h1, A', x, h2, h3⟩ => ⟨_, by rw [h3]; exact .of_perm (hΓ A').symm, h1, A', x, h2, rfl⟩
end Go.Proofs.Ytdbdbhlhdcidpaa
