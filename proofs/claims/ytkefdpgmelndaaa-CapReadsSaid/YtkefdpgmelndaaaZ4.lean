/- Encode. -/
import Derived.Test.YtkefdpgmelndaaaU0
import Derived.Test.YtkefdpgmelndaaaZ3
set_option linter.unusedVariables false
set_option linter.unusedSimpArgs false
namespace Go.Proofs.Ytkefdpgmelndaaa
open Go.RowKit

structure CapG (c : CapT) : Prop where
  kind : 0 ≤ c.kind ∧ c.kind < 16
  obj : 0 ≤ c.obj ∧ c.obj < 65536
  rights : 0 ≤ c.rights ∧ c.rights < 8
  badge : 0 ≤ c.badge ∧ c.badge < 16777216
  guard : 0 ≤ c.guard ∧ c.guard < 4096
  bits : 0 ≤ c.bits ∧ c.bits < 16
  serial : 0 ≤ c.serial ∧ c.serial < 16777216
  page : 0 ≤ c.page ∧ c.page < 512
/-- what is so of every capability that comes in -/
structure CapW (c : CapT) : Prop where
  badge : 0 ≤ c.badge
  guard : c.guard ≤ 9223372036854775807
theorem may_rng {c : CapT} (h : mayC c = true) (hw : CapW c) : CapG c := by
  have hb := hw.badge
  have hg := hw.guard
  have ho : inObj c.obj = true → 0 ≤ c.obj ∧ c.obj < 65536 := fun h => by
    unfold inObj at h
    rw [Bool.and_eq_true, decide_eq_true_eq, decide_eq_true_eq] at h; omega
  unfold mayC at h
  split at h
  · have e := eqC_iff.1 h
    rw [e]
    exact ⟨by show 0 ≤ c.kind ∧ c.kind < 16; omega, by simp, by simp, by simp, by simp, by simp, by simp, by simp⟩
  split at h
  · rw [Bool.and_eq_true] at h
    have e := eqC_iff.1 h.1
    have h2 := ho h.2
    rw [e]
    exact ⟨by show 0 ≤ c.kind ∧ c.kind < 16; omega, h2, by simp, by simp, by simp, by simp, by simp, by simp⟩
  split at h
  · rw [Bool.and_eq_true, Bool.and_eq_true] at h
    obtain ⟨h1, h2, h3⟩ := h
    have e := eqC_iff.1 h2
    have h4 := ho h3
    unfold nodeB at h1
    rw [Bool.and_eq_true, Bool.and_eq_true, Bool.and_eq_true, decide_eq_true_eq, decide_eq_true_eq, decide_eq_true_eq] at h1
    obtain ⟨⟨k1, k2⟩, k3, k4⟩ := h1
    have k5 : c.guard < 4096 := by
      obtain ⟨n, hn⟩ : ∃ n : Nat, c.bits = (n : Nat) := ⟨c.bits.toNat, by omega⟩
      rw [hn, fits_pow (u64V_lt _) (by omega)] at k4
      have h1 := u64V_nn k3 hg
      have h2 : 2 ^ n ≤ 2 ^ 12 := Nat.pow_le_pow_right (by omega) (by omega)
      have := of_decide_eq_true k4
      omega
    rw [e]
    exact ⟨by show 0 ≤ c.kind ∧ c.kind < 16; omega, h4, by simp, by simp, ⟨k3, k5⟩, by show 0 ≤ c.bits ∧ c.bits < 16; omega, by simp, by simp⟩
  split at h
  · rw [Bool.and_eq_true, Bool.and_eq_true] at h
    obtain ⟨h1, h2, h3⟩ := h
    have e := eqC_iff.1 h2
    have h4 := ho h3
    unfold frameB placedB at h1
    simp only [Bool.and_eq_true, Bool.or_eq_true, decide_eq_true_eq] at h1
    rw [e]
    exact ⟨by show 0 ≤ c.kind ∧ c.kind < 16; omega, h4, by show 0 ≤ c.rights ∧ c.rights < 8; omega, by simp, by simp, by simp, by show 0 ≤ c.serial ∧ c.serial < 16777216; omega, by show 0 ≤ c.page ∧ c.page < 512; omega⟩
  split at h
  · rw [Bool.and_eq_true, Bool.and_eq_true] at h
    obtain ⟨h1, h2, h3⟩ := h
    have e := eqC_iff.1 h2
    have h4 := ho h3
    unfold endB at h1
    simp only [Bool.and_eq_true, decide_eq_true_eq] at h1
    rw [e]
    exact ⟨by show 0 ≤ c.kind ∧ c.kind < 16; omega, h4, by show 0 ≤ c.rights ∧ c.rights < 8; omega, by show 0 ≤ c.badge ∧ c.badge < 16777216; omega, by simp, by simp, by simp, by simp⟩
  · cases h
def fvI (c : CapT) : Nat → Int
  | 0 => c.kind
  | 1 => c.obj
  | 2 => c.rights
  | 4 => c.guard
  | 5 => c.bits
  | 6 => c.serial
  | 7 => c.page
  | _ => 0
def fvN (c : CapT) (f : FdT) : Nat := (fvI c f.1).toNat
theorem fl_mem {f : FdT} (h : f ∈ FL) : f = (0, 0, 0, 4) ∨ f = (2, 0, 4, 3) ∨ f = (1, 0, 8, 16) ∨ f = (7, 0, 24, 9) ∨ f = (6, 0, 40, 24) ∨ f = (4, 1, 24, 12) ∨ f = (5, 1, 36, 4) := by simpa [FL] using h
theorem fl_cell {f : FdT} (h : f ∈ FL) (c : CapT) : (List.toArray (encC c))[f.1]? = some (.int .i64 (fvI c f.1)) := by
  rcases fl_mem h with rfl | rfl | rfl | rfl | rfl | rfl | rfl <;> rfl
theorem fl_ok {f : FdT} (h : f ∈ FL) : f.1 < 8 ∧ (f.2.1 = 0 ∨ f.2.1 = 1) ∧ 1 ≤ f.2.2.2 ∧ f.2.2.2 ≤ 63 ∧ f.2.2.1 + f.2.2.2 ≤ 64 ∧ f.2.2.2 ≤ 24 := by
  rcases fl_mem h with rfl | rfl | rfl | rfl | rfl | rfl | rfl <;> decide
theorem fl_val {f : FdT} (h : f ∈ FL) {c : CapT} (hc : CapG c) : fvI c f.1 = ((fvN c f : Nat) : Int) ∧ fvN c f < 2 ^ f.2.2.2 := by
  have := hc.kind; have := hc.obj; have := hc.rights; have := hc.guard; have := hc.bits; have := hc.serial; have := hc.page
  unfold fvN
  rcases fl_mem h with rfl | rfl | rfl | rfl | rfl | rfl | rfl <;> simp only [fvI] <;> constructor <;> omega
def encStep (c : CapT) (w : Nat × Nat) (f : FdT) : Nat × Nat := if f.2.1 = 0 then (withN w.1 f.2.2.1 f.2.2.2 (fvN c f), w.2) else (w.1, withN w.2 f.2.2.1 f.2.2.2 (fvN c f))
def encTo (c : CapT) (pre : List FdT) : Nat × Nat := pre.foldl (encStep c) (0, withN 0 0 24 c.badge.toNat)
theorem encTo_snoc (c : CapT) (pre : List FdT) (f : FdT) : encTo c (pre ++ [f]) = encStep c (encTo c pre) f := by simp [encTo]
def wordsC (c : CapT) : List Nat := [(encTo c FL).1, (encTo c FL).2]
abbrev wdC (B : Nat) (w : Nat × Nat) : Chunk := (B, .cells (List.toArray [.int .u64 (w.1 : Nat), .int .u64 (w.2 : Nat)]) 22 (0, 0))
abbrev wsC (B b : Nat) : Chunk := (B, .cells #[.slice (some ⟨b, 0, none⟩) 2 2] 25 (0, 0))
abbrev fdX (B c off wd a n : Nat) : Chunk := (B, .cells (List.toArray [.pointer (some ⟨c, off, none⟩), .int .i64 (wd : Nat), .int .i64 (a : Nat), .int .i64 (n : Nat)]) 52 (0, 0))
set_option pp.deepTerms false
set_option pp.deepTerms.threshold 4
set_option maxHeartbeats 400000
theorem encode_any (c : CapT) (hw : CapW c) (l : List Chunk) :
    Fn Try.prog 7 [.agg (List.toArray (encC c))] l fun r l' => ∃ v cs, r = .tuple #[v, .int .i64 (if mayC c = true then 0 else 5)] ∧ OwnSl 22 1 v (if mayC c = true then wordsC c else []).length ((if mayC c = true then wordsC c else []).map wV) cs ∧ l' = cs ++ l := by
  refine fn_of_body Try.func7 rfl rfl fun E => ?_
  simp only [argF, Try.ntmps7]
  repeat (first | (show OpsS _ _ _ _ _ _ (_ :: _) _ _ _; first | refine ozq ?_ | refine ozn ?_) | refine c_seq ?_ | refine p_then ?_ | refine c_region ?_ | refine s_nil ?_ | refine c_cond_t rfl ?_ | refine c_cond_f rfl ?_ | refine c_block ?_ | refine c_skip ?_ | refine p_block ?_ | refine p_block_here ?_ | refine p_block_on rfl ?_ | refine c_ret ?_ | refine p_then_ret ?_ | refine p_block_ret ?_ | refine p_end ?_ | refine c_if_t rfl (by omega) ?_ | refine c_if_f rfl (by omega) ?_)
  (first | refine t_e (e_box1 rfl rfl) rfl rfl rfl ?_ | refine t_e (e_boxA rfl) rfl rfl rfl ?_); rintro _ _ ⟨b1, _, rfl, rfl⟩
  repeat (first | (show OpsS _ _ _ _ _ _ (_ :: _) _ _ _; first | refine ozq ?_ | refine ozn ?_) | refine c_seq ?_ | refine p_then ?_ | refine c_region ?_ | refine s_nil ?_ | refine c_cond_t rfl ?_ | refine c_cond_f rfl ?_ | refine c_block ?_ | refine c_skip ?_ | refine p_block ?_ | refine p_block_here ?_ | refine p_block_on rfl ?_ | refine c_ret ?_ | refine p_then_ret ?_ | refine p_block_ret ?_ | refine p_end ?_ | refine c_if_t rfl (by omega) ?_ | refine c_if_f rfl (by omega) ?_)
  refine t_q (q_call rfl rfl fun l2 _ => mayC_any c l2) rfl rfl rfl ?_
  cases hM : mayC c with
  | false =>
    simp only [Bool.false_eq_true, if_false]
    repeat (first | (show OpsS _ _ _ _ _ _ (_ :: _) _ _ _; first | refine ozq ?_ | refine ozn ?_) | refine c_seq ?_ | refine p_then ?_ | refine c_region ?_ | refine s_nil ?_ | refine c_cond_t rfl ?_ | refine c_cond_f rfl ?_ | refine c_block ?_ | refine c_skip ?_ | refine p_block ?_ | refine p_block_here ?_ | refine p_block_on rfl ?_ | refine c_ret ?_ | refine p_then_ret ?_ | refine p_block_ret ?_ | refine p_end ?_ | refine c_if_t rfl (by omega) ?_ | refine c_if_f rfl (by omega) ?_)
    exact k_ret [] rfl (.drop .refl) (by (repeat (first | apply ResS.nil | (apply rs_tmp; (· rfl)) | (apply rs_cell1; (· rfl); (· ((repeat (first | with_reducible apply List.mem_cons_self | with_reducible apply List.mem_cons_of_mem)); try with_reducible assumption)); (· rfl)) | (apply rs_cellA; (· rfl); (· ((repeat (first | with_reducible apply List.mem_cons_self | with_reducible apply List.mem_cons_of_mem)); try with_reducible assumption)); (· (repeat (first | with_reducible apply LSub.done | with_reducible apply LSub.take | with_reducible apply LSub.drop))))))) ⟨_, [], rfl, OwnSl.nil _ _, rfl⟩
  | true =>
    simp only [if_true]
    have hG := may_rng hM hw
    obtain ⟨bg, hbg⟩ : ∃ bg : Nat, c.badge = (bg : Nat) := ⟨c.badge.toNat, by have := hG.badge; omega⟩
    have hbl : bg < 2 ^ 24 := by have := hG.badge; omega
    repeat (first | (show OpsS _ _ _ _ _ _ (_ :: _) _ _ _; first | refine ozq ?_ | refine ozn ?_) | refine c_seq ?_ | refine p_then ?_ | refine c_region ?_ | refine s_nil ?_ | refine c_cond_t rfl ?_ | refine c_cond_f rfl ?_ | refine c_block ?_ | refine c_skip ?_ | refine p_block ?_ | refine p_block_here ?_ | refine p_block_on rfl ?_ | refine c_ret ?_ | refine p_then_ret ?_ | refine p_block_ret ?_ | refine p_end ?_ | refine c_if_t rfl (by omega) ?_ | refine c_if_f rfl (by omega) ?_)
    refine t_e (e_makeSlice (n := 2) (kk := 1) (zs := [.int .u64 0]) (xs := [.int .u64 0, .int .u64 0]) rfl rfl (by omega) (by omega) (by decide) rfl) rfl rfl rfl ?_
    rintro _ _ ⟨bw, hbw, rfl, rfl⟩
    repeat (first | (show OpsS _ _ _ _ _ _ (_ :: _) _ _ _; first | refine ozq ?_ | refine ozn ?_) | refine c_seq ?_ | refine p_then ?_ | refine c_region ?_ | refine s_nil ?_ | refine c_cond_t rfl ?_ | refine c_cond_f rfl ?_ | refine c_block ?_ | refine c_skip ?_ | refine p_block ?_ | refine p_block_here ?_ | refine p_block_on rfl ?_ | refine c_ret ?_ | refine p_then_ret ?_ | refine p_block_ret ?_ | refine p_end ?_ | refine c_if_t rfl (by omega) ?_ | refine c_if_f rfl (by omega) ?_)
    refine t_e e_alloc rfl rfl rfl ?_; rintro _ _ ⟨b4, _, rfl, rfl⟩
    repeat (first | (show OpsS _ _ _ _ _ _ (_ :: _) _ _ _; first | refine ozq ?_ | refine ozn ?_) | refine c_seq ?_ | refine p_then ?_ | refine c_region ?_ | refine s_nil ?_ | refine c_cond_t rfl ?_ | refine c_cond_f rfl ?_ | refine c_block ?_ | refine c_skip ?_ | refine p_block ?_ | refine p_block_here ?_ | refine p_block_on rfl ?_ | refine c_ret ?_ | refine p_then_ret ?_ | refine p_block_ret ?_ | refine p_end ?_ | refine c_if_t rfl (by omega) ?_ | refine c_if_f rfl (by omega) ?_)
    have he0 : encTo c [] = (0, withN 0 0 24 bg) := by
      have hbt : c.badge.toNat = bg := by omega
      rw [← hbt]; rfl
    have W0 : ∀ l2, Fn Try.prog 21 [.int .u64 0, .int .i64 0, .int .i64 24, .int .u64 c.badge] l2 fun r l' => r = .tuple #[.int .u64 (withN 0 0 24 bg : Nat), .int .i64 0] ∧ l' = l2 := fun l2 => by rw [hbg]; exact with_any 0 0 24 bg (by omega) (by omega) (by omega) (by omega) hbl l2
    refine c_draw [(0, true), (1, true), (2, true), (3, true), (4, true), (5, true), (6, true), (7, true), (8, false)] [[], [], [1], [1, 2], [1, 2, 3], [1, 2, 3, 4], [1, 2, 3, 4], [0, 1, 2, 3, 4, 5], [0, 1, 2, 3, 4, 5, 7]] ([wsC b4 bw, capC b1 c]) (by kernel_rfl) (by kernel_rfl) (by (repeat (first | apply Attach.nil | (apply Attach.cons; · rfl)))) (List.Sublist.subset (by (repeat (first | with_reducible apply List.Sublist.refl | with_reducible apply List.nil_sublist | with_reducible apply List.Sublist.cons_cons | with_reducible apply List.Sublist.cons)))) ?_
    repeat (first | refine pl_nil ?_ | (show PlanS _ _ _ _ _ _ _ _ _ _ ((_, true, _) :: _) _ _ _; first | refine pzq ?_) | (show PlanS _ _ _ _ _ _ _ _ none [] ((_, false, _) :: _) _ _ _; first | refine pzn ?_ | refine pze ?_))
    refine pl_h (q_call rfl rfl fun l2 _ => W0 l2) rfl rfl rfl ?_
    repeat (first | refine pl_nil ?_ | (show PlanS _ _ _ _ _ _ _ _ _ _ ((_, true, _) :: _) _ _ _; first | refine pzq ?_) | (show PlanS _ _ _ _ _ _ _ _ none [] ((_, false, _) :: _) _ _ _; first | refine pzn ?_ | refine pze ?_))
    apply pl_n
    · exact e_store (b := bw) (off := 1) (cs := List.toArray [.int .u64 0, .int .u64 0]) (l' := wsC b4 bw :: wdC bw (0, withN 0 0 24 bg) :: capC b1 c :: l) rfl rfl rfl (.there .here) (by simp)
    · rfl
    · rfl
    · rintro _ _ ⟨rfl, rfl⟩; exact (List.Sublist.subset (by (repeat (first | with_reducible apply List.Sublist.refl | with_reducible apply List.nil_sublist | with_reducible apply List.Sublist.cons_cons | with_reducible apply List.Sublist.cons))))
    rintro _ _ ⟨rfl, rfl⟩
    repeat (first | refine pl_nil ?_ | (show PlanS _ _ _ _ _ _ _ _ _ _ ((_, true, _) :: _) _ _ _; first | refine pzq ?_) | (show PlanS _ _ _ _ _ _ _ _ none [] ((_, false, _) :: _) _ _ _; first | refine pzn ?_ | refine pze ?_))
    repeat (first | (show OpsS _ _ _ _ _ _ (_ :: _) _ _ _; first | refine ozq ?_ | refine ozn ?_) | refine c_seq ?_ | refine p_then ?_ | refine c_region ?_ | refine s_nil ?_ | refine c_cond_t rfl ?_ | refine c_cond_f rfl ?_ | refine c_block ?_ | refine c_skip ?_ | refine p_block ?_ | refine p_block_here ?_ | refine p_block_on rfl ?_ | refine c_ret ?_ | refine p_then_ret ?_ | refine p_block_ret ?_ | refine p_end ?_ | refine c_if_t rfl (by omega) ?_ | refine c_if_f rfl (by omega) ?_)
    refine t_e (e_call0 rfl rfl (fields_any b1 _)) rfl rfl rfl ?_
    rintro _ _ ⟨B, rfl, rfl⟩
    repeat (first | (show OpsS _ _ _ _ _ _ (_ :: _) _ _ _; first | refine ozq ?_ | refine ozn ?_) | refine c_seq ?_ | refine p_then ?_ | refine c_region ?_ | refine s_nil ?_ | refine c_cond_t rfl ?_ | refine c_cond_f rfl ?_ | refine c_block ?_ | refine c_skip ?_ | refine p_block ?_ | refine p_block_here ?_ | refine p_block_on rfl ?_ | refine c_ret ?_ | refine p_then_ret ?_ | refine p_block_ret ?_ | refine p_end ?_ | refine c_if_t rfl (by omega) ?_ | refine c_if_f rfl (by omega) ?_)
    refine c_range (α := FdT) (ps := [19]) (lb := [.pointer (some ⟨B, 0, none⟩)]) rfl (fields_iter B b1) (fun _ => rfl) rfl
      (fun pre l => (encTo c pre).1 < 18446744073709551616 ∧ (encTo c pre).2 < 18446744073709551616 ∧ l = [ptC B b1, wsC b4 bw, wdC bw (encTo c pre), capC b1 c])
      (fun _ _ _ => False)
      [ptC B b1, wsC b4 bw, wdC bw (0, withN 0 0 24 bg), capC b1 c] l (fun pre l2 X2 hX h => by rw [h.2.2]; exact List.Mem.head _) .refl ⟨by rw [he0]; omega, by rw [he0]; exact with_lt (by omega) (by omega) hbl, by rw [he0]⟩ ?_ ?_ ?_
    · rintro E r0 rec pre f l' T ⟨fn, tmps, D, rfl⟩ hT ⟨hw1, hw2, rfl⟩ hsp
      have hf : f ∈ FL := hsp.subset (by simp)
      obtain ⟨k1, k2, k3, k4, k5, _⟩ := fl_ok hf
      obtain ⟨k6, k7⟩ := fl_val hf hG
      have k8 := fl_cell hf c
      rw [k6] at k8
      obtain ⟨w, hw9⟩ : ∃ w, w = encTo c pre := ⟨_, rfl⟩
      have hst : encTo c (pre ++ [f]) = encStep c w f := by rw [hw9]; exact encTo_snoc c pre f
      rw [← hw9] at hw1 hw2 ⊢
      obtain ⟨off, wd, at', n⟩ := f
      obtain ⟨v, hv⟩ : ∃ v, fvN c (off, wd, at', n) = v := ⟨_, rfl⟩
      rw [hv] at k7 k8
      simp only at k1 k2 k3 k4 k5 k7 k8
      simp only [putPs, List.cons_append, List.nil_append]
      dsimp only [fdV, encF]
      repeat (first | (show OpsS _ _ _ _ _ _ (_ :: _) _ _ _; first | refine ozq ?_ | refine ozn ?_) | refine c_seq ?_ | refine p_then ?_ | refine c_region ?_ | refine s_nil ?_ | refine c_cond_t rfl ?_ | refine c_cond_f rfl ?_ | refine c_block ?_ | refine c_skip ?_ | refine p_block ?_ | refine p_block_here ?_ | refine p_block_on rfl ?_ | refine c_ret ?_ | refine p_then_ret ?_ | refine p_block_ret ?_ | refine p_end ?_ | refine c_if_t rfl (by omega) ?_ | refine c_if_f rfl (by omega) ?_)
      refine t_e e_alloc rfl rfl rfl ?_; rintro _ _ ⟨b5, _, rfl, rfl⟩
      repeat (first | (show OpsS _ _ _ _ _ _ (_ :: _) _ _ _; first | refine ozq ?_ | refine ozn ?_) | refine c_seq ?_ | refine p_then ?_ | refine c_region ?_ | refine s_nil ?_ | refine c_cond_t rfl ?_ | refine c_cond_f rfl ?_ | refine c_block ?_ | refine c_skip ?_ | refine p_block ?_ | refine p_block_here ?_ | refine p_block_on rfl ?_ | refine c_ret ?_ | refine p_then_ret ?_ | refine p_block_ret ?_ | refine p_end ?_ | refine c_if_t rfl (by omega) ?_ | refine c_if_f rfl (by omega) ?_)
      refine p_begin (by (repeat (first | apply Upd.here | apply Upd.there))) ?_
      have k9 : v < 18446744073709551616 := Nat.lt_of_lt_of_le k7 (Nat.pow_le_pow_right (n := 2) (by omega) (show n ≤ 64 by omega))
      rcases k2 with rfl | rfl
      · repeat (first | (show OpsS _ _ _ _ _ _ (_ :: _) _ _ _; first | refine ozq ?_ | refine ozn ?_) | refine c_seq ?_ | refine p_then ?_ | refine c_region ?_ | refine s_nil ?_ | refine c_cond_t rfl ?_ | refine c_cond_f rfl ?_ | refine c_block ?_ | refine c_skip ?_ | refine p_block ?_ | refine p_block_here ?_ | refine p_block_on rfl ?_ | refine c_ret ?_ | refine p_then_ret ?_ | refine p_block_ret ?_ | refine p_end ?_ | refine c_if_t rfl (by omega) ?_ | refine c_if_f rfl (by omega) ?_)
        refine c_draw [(0, true), (1, true), (2, true), (3, true), (4, true), (5, true), (6, true), (7, true), (8, true), (9, true), (10, true), (11, true), (12, true), (13, true), (14, true), (15, true), (16, true), (17, true), (18, true), (19, true), (20, true), (21, true), (22, false)] [[], [], [1], [], [], [4], [3, 4, 5], [3, 4, 5, 6], [], [8], [], [10], [], [12], [12, 13], [12, 13, 14], [12, 13, 14, 15], [3, 4, 5, 6, 7, 8, 9, 10, 11, 12, 13, 14, 15, 16], [3, 4, 5, 6, 7, 8, 9, 10, 11, 12, 13, 14, 15, 16, 17], [3, 4, 5, 6, 7, 8, 9, 10, 11, 12, 13, 14, 15, 16, 17, 18], [3, 4, 5, 6, 7, 8, 9, 10, 11, 12, 13, 14, 15, 16, 17, 18], [0, 1, 2, 3, 4, 5, 6, 7, 8, 9, 10, 11, 12, 13, 14, 15, 16, 17, 18, 19], [0, 1, 2, 3, 4, 5, 6, 7, 8, 9, 10, 11, 12, 13, 14, 15, 16, 17, 18, 19, 21]] ([fdX b5 b1 off 0 at' n, wsC b4 bw, capC b1 c]) (by kernel_rfl) (by kernel_rfl) (by (repeat (first | apply Attach.nil | (apply Attach.cons; · rfl)))) (List.Sublist.subset (by (repeat (first | with_reducible apply List.Sublist.refl | with_reducible apply List.nil_sublist | with_reducible apply List.Sublist.cons_cons | with_reducible apply List.Sublist.cons)))) ?_
        repeat (first | refine pl_nil ?_ | (show PlanS _ _ _ _ _ _ _ _ _ _ ((_, true, _) :: _) _ _ _; first | refine pzq ?_) | (show PlanS _ _ _ _ _ _ _ _ none [] ((_, false, _) :: _) _ _ _; first | refine pzn ?_ | refine pze ?_))
        apply pl_s (S := [wdC bw w]); (· first | exact q_load rfl (.head _) (by (first | with_reducible assumption | ((with_reducible apply cell_get); (repeat (first | with_reducible apply LGet.zero | with_reducible apply LGet.succ))))) | exact q_loadL rfl (.head _) (by (repeat (first | with_reducible apply LSub.done | with_reducible apply LSub.take | with_reducible apply LSub.drop)))); (· exact sing_mem (.tail _ (.tail _ (.tail _ (.head _))))); (· rfl); (· rfl); (· rfl)
        repeat (first | refine pl_nil ?_ | (show PlanS _ _ _ _ _ _ _ _ _ _ ((_, true, _) :: _) _ _ _; first | refine pzq ?_) | (show PlanS _ _ _ _ _ _ _ _ none [] ((_, false, _) :: _) _ _ _; first | refine pzn ?_ | refine pze ?_))
        refine pl_h (q_call rfl rfl fun l2 _ => with_any w.1 at' n v hw1 k3 k4 k5 k7 l2) rfl rfl rfl ?_
        repeat (first | refine pl_nil ?_ | (show PlanS _ _ _ _ _ _ _ _ _ _ ((_, true, _) :: _) _ _ _; first | refine pzq ?_) | (show PlanS _ _ _ _ _ _ _ _ none [] ((_, false, _) :: _) _ _ _; first | refine pzn ?_ | refine pze ?_))
        apply pl_nS
        · exact e_store (b := bw) (off := 0) (cs := List.toArray [.int .u64 (w.1 : Nat), .int .u64 (w.2 : Nat)]) rfl rfl rfl (by (repeat (first | apply Upd.here | apply Upd.there))) (by simp)
        · rfl
        · rfl
        · rintro _ _ ⟨rfl, rfl⟩; exact (List.Sublist.subset (by (repeat (first | with_reducible apply List.Sublist.refl | with_reducible apply List.nil_sublist | with_reducible apply List.Sublist.cons_cons | with_reducible apply List.Sublist.cons))))
        · exact fun _ _ _ x hx ha => anc_all (by kernel_rfl) hx ha
        rintro _ _ ⟨rfl, rfl⟩
        repeat (first | refine pl_nil ?_ | (show PlanS _ _ _ _ _ _ _ _ _ _ ((_, true, _) :: _) _ _ _; first | refine pzq ?_) | (show PlanS _ _ _ _ _ _ _ _ none [] ((_, false, _) :: _) _ _ _; first | refine pzn ?_ | refine pze ?_))
        repeat (first | (show OpsS _ _ _ _ _ _ (_ :: _) _ _ _; first | refine ozq ?_ | refine ozn ?_) | refine c_seq ?_ | refine p_then ?_ | refine c_region ?_ | refine s_nil ?_ | refine c_cond_t rfl ?_ | refine c_cond_f rfl ?_ | refine c_block ?_ | refine c_skip ?_ | refine p_block ?_ | refine p_block_here ?_ | refine p_block_on rfl ?_ | refine c_ret ?_ | refine p_then_ret ?_ | refine p_block_ret ?_ | refine p_end ?_ | refine c_if_t rfl (by omega) ?_ | refine c_if_f rfl (by omega) ?_)
        have hw9 : encTo c (pre ++ [(off, 0, at', n)]) = (withN w.1 at' n v, w.2) := by rw [hst]; unfold encStep; rw [hv]; rfl
        refine p_round _ (Keep.drop .refl) ⟨by rw [hw9]; exact with_lt hw1 k5 k7, by rw [hw9]; exact hw2, by rw [hw9]⟩
      · repeat (first | (show OpsS _ _ _ _ _ _ (_ :: _) _ _ _; first | refine ozq ?_ | refine ozn ?_) | refine c_seq ?_ | refine p_then ?_ | refine c_region ?_ | refine s_nil ?_ | refine c_cond_t rfl ?_ | refine c_cond_f rfl ?_ | refine c_block ?_ | refine c_skip ?_ | refine p_block ?_ | refine p_block_here ?_ | refine p_block_on rfl ?_ | refine c_ret ?_ | refine p_then_ret ?_ | refine p_block_ret ?_ | refine p_end ?_ | refine c_if_t rfl (by omega) ?_ | refine c_if_f rfl (by omega) ?_)
        refine c_draw [(0, true), (1, true), (2, true), (3, true), (4, true), (5, true), (6, true), (7, true), (8, true), (9, true), (10, true), (11, true), (12, true), (13, true), (14, true), (15, true), (16, true), (17, true), (18, true), (19, true), (20, true), (21, true), (22, false)] [[], [], [1], [], [], [4], [3, 4, 5], [3, 4, 5, 6], [], [8], [], [10], [], [12], [12, 13], [12, 13, 14], [12, 13, 14, 15], [3, 4, 5, 6, 7, 8, 9, 10, 11, 12, 13, 14, 15, 16], [3, 4, 5, 6, 7, 8, 9, 10, 11, 12, 13, 14, 15, 16, 17], [3, 4, 5, 6, 7, 8, 9, 10, 11, 12, 13, 14, 15, 16, 17, 18], [3, 4, 5, 6, 7, 8, 9, 10, 11, 12, 13, 14, 15, 16, 17, 18], [0, 1, 2, 3, 4, 5, 6, 7, 8, 9, 10, 11, 12, 13, 14, 15, 16, 17, 18, 19], [0, 1, 2, 3, 4, 5, 6, 7, 8, 9, 10, 11, 12, 13, 14, 15, 16, 17, 18, 19, 21]] ([fdX b5 b1 off 1 at' n, wsC b4 bw, capC b1 c]) (by kernel_rfl) (by kernel_rfl) (by (repeat (first | apply Attach.nil | (apply Attach.cons; · rfl)))) (List.Sublist.subset (by (repeat (first | with_reducible apply List.Sublist.refl | with_reducible apply List.nil_sublist | with_reducible apply List.Sublist.cons_cons | with_reducible apply List.Sublist.cons)))) ?_
        repeat (first | refine pl_nil ?_ | (show PlanS _ _ _ _ _ _ _ _ _ _ ((_, true, _) :: _) _ _ _; first | refine pzq ?_) | (show PlanS _ _ _ _ _ _ _ _ none [] ((_, false, _) :: _) _ _ _; first | refine pzn ?_ | refine pze ?_))
        apply pl_s (S := [wdC bw w]); (· first | exact q_load rfl (.head _) (by (first | with_reducible assumption | ((with_reducible apply cell_get); (repeat (first | with_reducible apply LGet.zero | with_reducible apply LGet.succ))))) | exact q_loadL rfl (.head _) (by (repeat (first | with_reducible apply LSub.done | with_reducible apply LSub.take | with_reducible apply LSub.drop)))); (· exact sing_mem (.tail _ (.tail _ (.tail _ (.head _))))); (· rfl); (· rfl); (· rfl)
        repeat (first | refine pl_nil ?_ | (show PlanS _ _ _ _ _ _ _ _ _ _ ((_, true, _) :: _) _ _ _; first | refine pzq ?_) | (show PlanS _ _ _ _ _ _ _ _ none [] ((_, false, _) :: _) _ _ _; first | refine pzn ?_ | refine pze ?_))
        refine pl_h (q_call rfl rfl fun l2 _ => with_any w.2 at' n v hw2 k3 k4 k5 k7 l2) rfl rfl rfl ?_
        repeat (first | refine pl_nil ?_ | (show PlanS _ _ _ _ _ _ _ _ _ _ ((_, true, _) :: _) _ _ _; first | refine pzq ?_) | (show PlanS _ _ _ _ _ _ _ _ none [] ((_, false, _) :: _) _ _ _; first | refine pzn ?_ | refine pze ?_))
        apply pl_nS
        · exact e_store (b := bw) (off := 1) (cs := List.toArray [.int .u64 (w.1 : Nat), .int .u64 (w.2 : Nat)]) rfl rfl rfl (by (repeat (first | apply Upd.here | apply Upd.there))) (by simp)
        · rfl
        · rfl
        · rintro _ _ ⟨rfl, rfl⟩; exact (List.Sublist.subset (by (repeat (first | with_reducible apply List.Sublist.refl | with_reducible apply List.nil_sublist | with_reducible apply List.Sublist.cons_cons | with_reducible apply List.Sublist.cons))))
        · exact fun _ _ _ x hx ha => anc_all (by kernel_rfl) hx ha
        rintro _ _ ⟨rfl, rfl⟩
        repeat (first | refine pl_nil ?_ | (show PlanS _ _ _ _ _ _ _ _ _ _ ((_, true, _) :: _) _ _ _; first | refine pzq ?_) | (show PlanS _ _ _ _ _ _ _ _ none [] ((_, false, _) :: _) _ _ _; first | refine pzn ?_ | refine pze ?_))
        repeat (first | (show OpsS _ _ _ _ _ _ (_ :: _) _ _ _; first | refine ozq ?_ | refine ozn ?_) | refine c_seq ?_ | refine p_then ?_ | refine c_region ?_ | refine s_nil ?_ | refine c_cond_t rfl ?_ | refine c_cond_f rfl ?_ | refine c_block ?_ | refine c_skip ?_ | refine p_block ?_ | refine p_block_here ?_ | refine p_block_on rfl ?_ | refine c_ret ?_ | refine p_then_ret ?_ | refine p_block_ret ?_ | refine p_end ?_ | refine c_if_t rfl (by omega) ?_ | refine c_if_f rfl (by omega) ?_)
        have hw9 : encTo c (pre ++ [(off, 1, at', n)]) = (w.1, withN w.2 at' n v) := by rw [hst]; unfold encStep; rw [hv]; rfl
        refine p_round _ (Keep.drop .refl) ⟨by rw [hw9]; exact hw1, by rw [hw9]; exact with_lt hw2 k5 k7, by rw [hw9]⟩
    · rintro D xs l' rfl ⟨hw1, hw2, rfl⟩
      simp only [List.cons_append, List.nil_append]
      repeat (first | (show OpsS _ _ _ _ _ _ (_ :: _) _ _ _; first | refine ozq ?_ | refine ozn ?_) | refine c_seq ?_ | refine p_then ?_ | refine c_region ?_ | refine s_nil ?_ | refine c_cond_t rfl ?_ | refine c_cond_f rfl ?_ | refine c_block ?_ | refine c_skip ?_ | refine p_block ?_ | refine p_block_here ?_ | refine p_block_on rfl ?_ | refine c_ret ?_ | refine p_then_ret ?_ | refine p_block_ret ?_ | refine p_end ?_ | refine c_if_t rfl (by omega) ?_ | refine c_if_f rfl (by omega) ?_)
      exact k_ret [D] rfl (l' := wdC bw (encTo c FL) :: l) (by ((try simp only [List.cons_append, List.nil_append, List.map_cons, List.map_nil]); repeat (first | with_reducible apply Keep.refl | (apply Keep.pick; · (repeat (first | apply Pick.here | apply Pick.there))) | apply Keep.drop))) (by (repeat (first | apply ResS.nil | (apply rs_tmp; (· rfl)) | (apply rs_cell1; (· rfl); (· ((repeat (first | with_reducible apply List.mem_cons_self | with_reducible apply List.mem_cons_of_mem)); try with_reducible assumption)); (· rfl)) | (apply rs_cellA; (· rfl); (· ((repeat (first | with_reducible apply List.mem_cons_self | with_reducible apply List.mem_cons_of_mem)); try with_reducible assumption)); (· (repeat (first | with_reducible apply LSub.done | with_reducible apply LSub.take | with_reducible apply LSub.drop))))))) ⟨_, [wdC bw (encTo c FL)], rfl, OwnSl.lit (xs := (wordsC c).map wV) (by simp [wordsC]) rfl (by simp [wordsC]), rfl⟩
    · rintro D c pre l' hsp h
      exact h.elim
end Go.Proofs.Ytkefdpgmelndaaa
