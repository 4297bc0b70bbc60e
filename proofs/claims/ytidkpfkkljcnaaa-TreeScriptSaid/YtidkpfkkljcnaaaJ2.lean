/- The tree: the two iterators. -/
import Derived.Test.YtidkpfkkljcnaaaU0
import Derived.Test.YtidkpfkkljcnaaaJ1
import Derived.Test.YtidkpfkkljcnaaaS12
set_option linter.unusedVariables false
set_option linter.unusedSimpArgs false
namespace Go.Proofs.Ytidkpfkkljcnaaa
open Go.RowKit

section
variable {P : Program} {ro : Option Nat} {N : Nat} {E : World} {ops : Array Oper} {Q : Exit → Act → World → Prop} {R : List Chunk} {tbl : List (List Nat)} {sw : Sw} {sp : Spec} {pl : List PlanOp} {o : Oper} {fr fr' : Fr} {ds : List Deferred} {l l' : List Chunk} {K : Value → List Chunk → Prop} {v : Value} {i : Nat} {k : Bool}
/-- an effect under a guard that is met, while special blocks are looked at -/
theorem pl_geS {d : Nat} (h : OpE P ro N fr l o K) (hw : gst ops fr o.guard = some true) (hd : o.dst = some d) (hb : Nat.blt d N = true) (hR : ∀ v l', K v l' → (∀ c, c ∈ R → c ∈ l')) (hS : ∀ v l', K v l' → ∀ x, x ∈ sp → ancOf tbl i x.1 = false → ∀ c, c ∈ x.2 → c ∈ l') (hk : ∀ v l', K v l' → PlanS P ro N E ops Q R tbl none sp pl ((d, v) :: fr) ds l') : PlanS P ro N E ops Q R tbl none sp ((i, false, o) :: pl) fr ds l := by
  rcases gst_some hw with ⟨h1, _⟩ | ⟨j, b, oj, dj, b', h1, h2, h3, h4, h5⟩
  · exact pl_eS h h1 hd hb hR hS hk
  · have : b' = b := by simpa using h5
    subst this
    exact .ge h h1 h2 h3 h4 (by rw [hd]; exact hb) hR hS fun v l' hkv => by rw [hd]; exact hk v l' hkv
end
theorem nep_t {q r : Nat} (h : q ≠ r) : (!decide ((⟨q, 0, none⟩ : Addr) = ⟨r, 0, none⟩)) = true := by
  rw [decide_eq_false (fun e => h (by injection e))]; rfl
theorem nep_f (q : Nat) : (!decide ((⟨q, 0, none⟩ : Addr) = ⟨q, 0, none⟩)) = false := by
  rw [decide_eq_true rfl]; rfl
theorem TB.nxt {b rb m : Nat} {F : Nat → NdT} {all os : List Nat} {es : List (EntS SlotT)} {clock : Nat} {lq : List Chunk} (h : TB b rb m F all os es clock lq) {X Y : List Nat} {p : Nat} (hX : rb :: os = X ++ p :: Y) : (F p).nx = Y.headD rb := by
  have hadj := h.adj
  rw [show rb :: (os ++ [rb]) = X ++ p :: (Y ++ [rb]) by rw [← List.cons_append, hX, List.append_assoc, List.cons_append]] at hadj
  cases Y with
  | nil => exact (adj_at (Z := []) hadj).1
  | cons y Y => exact (adj_at (Z := Y ++ [rb]) hadj).1
theorem TB.prv {b rb m : Nat} {F : Nat → NdT} {all os : List Nat} {es : List (EntS SlotT)} {clock : Nat} {lq : List Chunk} (h : TB b rb m F all os es clock lq) {X Y : List Nat} {p : Nat} (hX : rb :: os = X ++ p :: Y) : (F (Y.headD rb)).pv = p := by
  have hadj := h.adj
  rw [show rb :: (os ++ [rb]) = X ++ p :: (Y ++ [rb]) by rw [← List.cons_append, hX, List.append_assoc, List.cons_append]] at hadj
  cases Y with
  | nil => exact (adj_at (Z := []) hadj).2
  | cons y Y => exact (adj_at (Z := Y ++ [rb]) hadj).2
/-- what stands in a list of slots: ahead of a slot, its depth, behind it -/
def splitD (s : SlotT) : DT → Option (DT × Int × DT)
  | [] => none
  | x :: r => if x.1 = s then some ([], x.2, r) else (splitD s r).map fun y => (x :: y.1, y.2.1, y.2.2)
theorem split_blk {F : Nat → NdT} {s : SlotT} : ∀ {os : List Nat} {p : Nat}, blk F os s = some p → ∃ A B, os = A ++ p :: B ∧ splitD s (dOf F os) = some (dOf F A, (F p).dp, dOf F B)
  | [], _, h => by cases h
  | q :: os, p, h => by
    unfold blk at h
    rw [List.find?_cons] at h
    by_cases e : (F q).sl = s
    · rw [decide_eq_true e] at h
      cases h
      exact ⟨[], os, rfl, by show splitD s (((F q).sl, (F q).dp) :: dOf F os) = _; unfold splitD; rw [if_pos e]; rfl⟩
    · rw [decide_eq_false e] at h
      obtain ⟨A, B, rfl, h2⟩ := split_blk (os := os) h
      exact ⟨q :: A, B, rfl, by show splitD s (((F q).sl, (F q).dp) :: dOf F _) = _; unfold splitD; rw [if_neg e, h2]; rfl⟩
theorem split_none {F : Nat → NdT} {s : SlotT} : ∀ {os : List Nat}, blk F os s = none → splitD s (dOf F os) = none
  | [], _ => rfl
  | q :: os, h => by
    unfold blk at h
    rw [List.find?_cons] at h
    by_cases e : (F q).sl = s
    · rw [decide_eq_true e] at h; cases h
    · rw [decide_eq_false e] at h
      show splitD s (((F q).sl, (F q).dp) :: dOf F os) = none
      unfold splitD; rw [if_neg e, split_none (os := os) h]; rfl
set_option pp.deepTerms false
set_option pp.deepTerms.threshold 4
set_option maxHeartbeats 400000
abbrev bxT (B b : Nat) : Chunk := (B, .cells #[.pointer (some ⟨b, 0, none⟩)] 24 (0, 0))
abbrev bxL (B p : Nat) : Chunk := (B, .cells #[.pointer (some ⟨p, 0, none⟩)] 62 (0, 0))
theorem behind_any (b p : Nat) (l : List Chunk) : Fn Try.prog 33 [.pointer (some ⟨b, 0, none⟩), .pointer (some ⟨p, 0, none⟩)] l fun v l' => ∃ B1 B2, v = .func (.func 44) #[] #[.pointer (some ⟨B1, 0, none⟩), .pointer (some ⟨B2, 0, none⟩)] ∧ l' = bxL B1 p :: bxT B2 b :: l := by
  refine fn_of_body Try.func33 rfl rfl fun E => ?_
  simp only [argF, Try.ntmps33]
  repeat (first | (show OpsS _ _ _ _ _ _ (_ :: _) _ _ _; first | refine ozq ?_) | refine c_seq ?_ | refine p_then ?_ | refine c_region ?_ | refine s_nil ?_ | refine c_ret ?_ | refine p_then_ret ?_ | refine p_end ?_)
  (first | refine t_e (e_box1 rfl rfl) rfl rfl rfl ?_ | refine t_e (e_boxA rfl) rfl rfl rfl ?_); rintro _ _ ⟨b2, _, rfl, rfl⟩
  repeat (first | (show OpsS _ _ _ _ _ _ (_ :: _) _ _ _; first | refine ozq ?_) | refine c_seq ?_ | refine p_then ?_ | refine c_region ?_ | refine s_nil ?_ | refine c_ret ?_ | refine p_then_ret ?_ | refine p_end ?_)
  (first | refine t_e (e_box1 rfl rfl) rfl rfl rfl ?_ | refine t_e (e_boxA rfl) rfl rfl rfl ?_); rintro _ _ ⟨b3, _, rfl, rfl⟩
  repeat (first | (show OpsS _ _ _ _ _ _ (_ :: _) _ _ _; first | refine ozq ?_) | refine c_seq ?_ | refine p_then ?_ | refine c_region ?_ | refine s_nil ?_ | refine c_ret ?_ | refine p_then_ret ?_ | refine p_end ?_)
  exact k_ret [] rfl .refl (by (repeat (first | apply ResS.nil | (apply rs_tmp; (· rfl)) | (apply rs_cell1; (· rfl); (· ((repeat (first | with_reducible apply List.mem_cons_self | with_reducible apply List.mem_cons_of_mem)); try with_reducible assumption)); (· rfl)) | (apply rs_cellA; (· rfl); (· ((repeat (first | with_reducible apply List.mem_cons_self | with_reducible apply List.mem_cons_of_mem)); try with_reducible assumption)); (· (repeat (first | with_reducible apply LSub.done | with_reducible apply LSub.take | with_reducible apply LSub.drop))))))) ⟨b3, b2, rfl, rfl⟩
theorem below_any (b p : Nat) (l : List Chunk) : Fn Try.prog 36 [.pointer (some ⟨b, 0, none⟩), .pointer (some ⟨p, 0, none⟩)] l fun v l' => ∃ B1 B2, v = .func (.func 45) #[] #[.pointer (some ⟨B2, 0, none⟩), .pointer (some ⟨B1, 0, none⟩)] ∧ l' = bxL B1 p :: bxT B2 b :: l := by
  refine fn_of_body Try.func36 rfl rfl fun E => ?_
  simp only [argF, Try.ntmps36]
  repeat (first | (show OpsS _ _ _ _ _ _ (_ :: _) _ _ _; first | refine ozq ?_) | refine c_seq ?_ | refine p_then ?_ | refine c_region ?_ | refine s_nil ?_ | refine c_ret ?_ | refine p_then_ret ?_ | refine p_end ?_)
  (first | refine t_e (e_box1 rfl rfl) rfl rfl rfl ?_ | refine t_e (e_boxA rfl) rfl rfl rfl ?_); rintro _ _ ⟨b2, _, rfl, rfl⟩
  repeat (first | (show OpsS _ _ _ _ _ _ (_ :: _) _ _ _; first | refine ozq ?_) | refine c_seq ?_ | refine p_then ?_ | refine c_region ?_ | refine s_nil ?_ | refine c_ret ?_ | refine p_then_ret ?_ | refine p_end ?_)
  (first | refine t_e (e_box1 rfl rfl) rfl rfl rfl ?_ | refine t_e (e_boxA rfl) rfl rfl rfl ?_); rintro _ _ ⟨b3, _, rfl, rfl⟩
  repeat (first | (show OpsS _ _ _ _ _ _ (_ :: _) _ _ _; first | refine ozq ?_) | refine c_seq ?_ | refine p_then ?_ | refine c_region ?_ | refine s_nil ?_ | refine c_ret ?_ | refine p_then_ret ?_ | refine p_end ?_)
  exact k_ret [] rfl .refl (by (repeat (first | apply ResS.nil | (apply rs_tmp; (· rfl)) | (apply rs_cell1; (· rfl); (· ((repeat (first | with_reducible apply List.mem_cons_self | with_reducible apply List.mem_cons_of_mem)); try with_reducible assumption)); (· rfl)) | (apply rs_cellA; (· rfl); (· ((repeat (first | with_reducible apply List.mem_cons_self | with_reducible apply List.mem_cons_of_mem)); try with_reducible assumption)); (· (repeat (first | with_reducible apply LSub.done | with_reducible apply LSub.take | with_reducible apply LSub.drop))))))) ⟨b3, b2, rfl, rfl⟩
/-- the links are as they were -/
def Nxs (F : Nat → NdT) (L : List Nat) (l : List Chunk) : Prop := ∀ q, q ∈ L → ∃ x : NdT, ndC q x ∈ l ∧ x.nx = (F q).nx
theorem behind_iter (B1 B2 b rb m p : Nat) (F : Nat → NdT) (all os : List Nat) (es : List (EntS SlotT)) (clock : Nat) (lq : List Chunk) (hT : TB b rb m F all os es clock lq) (X Y : List Nat) (hX : rb :: os = X ++ p :: Y) :
    IterS Try.prog 44 [.pointer (some ⟨B1, 0, none⟩), .pointer (some ⟨B2, 0, none⟩)] (fun q : Nat => [.pointer (some ⟨q, 0, none⟩)]) (fun xs => xs = Y) (fun pre => pre <+: Y)
      (fun pre l => bxL B1 p ∈ l ∧ bxT B2 b ∈ l ∧ trC b rb m ∈ l ∧ Nxs F (rb :: os) l) := by
  refine ⟨fun r I Ix G0 hneed hY l G hG h0 => ?_⟩
  have hpc : p ∈ rb :: os := by rw [hX]; simp
  obtain ⟨n1, n2, n3, n4⟩ := hneed _ _ G hG h0
  obtain ⟨xp, hxp, hxn⟩ := n4 p hpc
  refine fn_of_body Try.func44 rfl rfl fun E => ?_
  simp only [argF, Try.ntmps44]
  repeat (first | (show OpsS _ _ _ _ _ _ (_ :: _) _ _ _; first | refine ozq ?_) | refine c_seq ?_ | refine p_then ?_ | refine c_region ?_ | refine s_nil ?_ | refine c_cond_t rfl ?_ | refine c_cond_f rfl ?_ | refine c_block ?_ | refine c_skip ?_ | refine c_exit ?_ | refine p_block ?_ | refine p_then_exit ?_ | refine p_block_here ?_ | refine p_block_on rfl ?_ | refine c_ret ?_ | refine p_then_ret ?_ | refine p_block_ret ?_ | refine p_end ?_ | refine c_if_t rfl (by omega) ?_ | refine c_if_f rfl (by omega) ?_)
  rw [hxn, hT.nxt hX]
  repeat (first | (show OpsS _ _ _ _ _ _ (_ :: _) _ _ _; first | refine ozq ?_) | refine c_seq ?_ | refine p_then ?_ | refine c_region ?_ | refine s_nil ?_ | refine c_cond_t rfl ?_ | refine c_cond_f rfl ?_ | refine c_block ?_ | refine c_skip ?_ | refine c_exit ?_ | refine p_block ?_ | refine p_then_exit ?_ | refine p_block_here ?_ | refine p_block_on rfl ?_ | refine c_ret ?_ | refine p_then_ret ?_ | refine p_block_ret ?_ | refine p_end ?_ | refine c_if_t rfl (by omega) ?_ | refine c_if_f rfl (by omega) ?_)
  refine k_loop (α := List Nat × List Nat × List Chunk) (fun x => [(0, .func (.yield r) #[] #[]), (1, .pointer (some ⟨B1, 0, none⟩)), (2, .pointer (some ⟨B2, 0, none⟩)), (4, .pointer (some ⟨x.2.1.headD rb, 0, none⟩))]) (fun x => x.2.2 ++ G) (fun x => x.1 ++ x.2.1 = Y ∧ I x.1 x.2.2) (fun x => x.2.1.length) ([], Y, l) ⟨rfl, h0⟩ ⟨rfl, rfl, rfl, rfl, trivial⟩ .refl ?_
  rintro ⟨pre, suf, l⟩ ⟨hps, hI⟩
  simp only at hps hI ⊢
  obtain ⟨n1, n2, n3, n4⟩ := hneed _ _ G hG hI
  obtain ⟨xr, hxr, hxrn⟩ := n4 rb List.mem_cons_self
  cases suf with
  | nil =>
    rw [List.append_nil] at hps
    subst hps
    simp only [List.headD_nil]
    repeat (first | (show OpsS _ _ _ _ _ _ (_ :: _) _ _ _; first | refine ozq ?_) | refine c_seq ?_ | refine p_then ?_ | refine c_region ?_ | refine s_nil ?_ | refine c_cond_t rfl ?_ | refine c_cond_f rfl ?_ | refine c_block ?_ | refine c_skip ?_ | refine c_exit ?_ | refine p_block ?_ | refine p_then_exit ?_ | refine p_block_here ?_ | refine p_block_on rfl ?_ | refine c_ret ?_ | refine p_then_ret ?_ | refine p_block_ret ?_ | refine p_end ?_ | refine c_if_t rfl (by omega) ?_ | refine c_if_f rfl (by omega) ?_)
    refine t_q (q_neptr rfl rfl (by decide) hxr hxr) rfl rfl rfl ?_
    rw [nep_f]
    repeat (first | (show OpsS _ _ _ _ _ _ (_ :: _) _ _ _; first | refine ozq ?_) | refine c_seq ?_ | refine p_then ?_ | refine c_region ?_ | refine s_nil ?_ | refine c_cond_t rfl ?_ | refine c_cond_f rfl ?_ | refine c_block ?_ | refine c_skip ?_ | refine c_exit ?_ | refine p_block ?_ | refine p_then_exit ?_ | refine p_block_here ?_ | refine p_block_on rfl ?_ | refine c_ret ?_ | refine p_then_ret ?_ | refine p_block_ret ?_ | refine p_end ?_ | refine c_if_t rfl (by omega) ?_ | refine c_if_f rfl (by omega) ?_)
    exact k_ret [] rfl .refl (by (repeat (first | apply ResS.nil | (apply rs_tmp; (· rfl)) | (apply rs_cell1; (· rfl); (· ((repeat (first | with_reducible apply List.mem_cons_self | with_reducible apply List.mem_cons_of_mem)); try with_reducible assumption)); (· rfl)) | (apply rs_cellA; (· rfl); (· ((repeat (first | with_reducible apply List.mem_cons_self | with_reducible apply List.mem_cons_of_mem)); try with_reducible assumption)); (· (repeat (first | with_reducible apply LSub.done | with_reducible apply LSub.take | with_reducible apply LSub.drop))))))) ⟨l, rfl, .inl ⟨_, rfl, hI⟩⟩
  | cons q suf =>
    have hX2 : rb :: os = (X ++ p :: pre) ++ q :: suf := by rw [hX, ← hps]; simp
    have hqc : q ∈ rb :: os := by rw [hX2]; simp
    have hqr : q ≠ rb := fun e => by
      have hnd := hT.ond
      cases X with
      | nil => rw [List.nil_append, List.cons.injEq] at hX; rw [hX.2, ← hps, ← e] at hnd; simp at hnd
      | cons x X => rw [List.cons_append, List.cons.injEq] at hX; rw [hX.2, ← hps, ← e] at hnd; simp at hnd
    obtain ⟨xq, hxq, hxqn⟩ := n4 q hqc
    simp only [List.headD_cons]
    repeat (first | (show OpsS _ _ _ _ _ _ (_ :: _) _ _ _; first | refine ozq ?_) | refine c_seq ?_ | refine p_then ?_ | refine c_region ?_ | refine s_nil ?_ | refine c_cond_t rfl ?_ | refine c_cond_f rfl ?_ | refine c_block ?_ | refine c_skip ?_ | refine c_exit ?_ | refine p_block ?_ | refine p_then_exit ?_ | refine p_block_here ?_ | refine p_block_on rfl ?_ | refine c_ret ?_ | refine p_then_ret ?_ | refine p_block_ret ?_ | refine p_end ?_ | refine c_if_t rfl (by omega) ?_ | refine c_if_f rfl (by omega) ?_)
    refine t_q (q_neptr rfl rfl (by decide) hxq hxr) rfl rfl rfl ?_
    rw [nep_t hqr]
    repeat (first | (show OpsS _ _ _ _ _ _ (_ :: _) _ _ _; first | refine ozq ?_) | refine c_seq ?_ | refine p_then ?_ | refine c_region ?_ | refine s_nil ?_ | refine c_cond_t rfl ?_ | refine c_cond_f rfl ?_ | refine c_block ?_ | refine c_skip ?_ | refine c_exit ?_ | refine p_block ?_ | refine p_then_exit ?_ | refine p_block_here ?_ | refine p_block_on rfl ?_ | refine c_ret ?_ | refine p_then_ret ?_ | refine p_block_ret ?_ | refine p_end ?_ | refine c_if_t rfl (by omega) ?_ | refine c_if_f rfl (by omega) ?_)
    have hsp : pre ++ [q] <+: Y := ⟨suf, by rw [← hps]; simp⟩
    refine t_e (e_yield rfl rfl (hY pre q l G hG hI hsp)) rfl rfl rfl ?_
    rintro v l' ⟨l1, rfl, ⟨rfl, hI'⟩ | ⟨rfl, hx⟩⟩
    · obtain ⟨k1, k2, k3, k4⟩ := hneed _ _ G hG hI'
      obtain ⟨xq2, hxq2, hxqn2⟩ := k4 q hqc
      repeat (first | (show OpsS _ _ _ _ _ _ (_ :: _) _ _ _; first | refine ozq ?_) | refine c_seq ?_ | refine p_then ?_ | refine c_region ?_ | refine s_nil ?_ | refine c_cond_t rfl ?_ | refine c_cond_f rfl ?_ | refine c_block ?_ | refine c_skip ?_ | refine c_exit ?_ | refine p_block ?_ | refine p_then_exit ?_ | refine p_block_here ?_ | refine p_block_on rfl ?_ | refine c_ret ?_ | refine p_then_ret ?_ | refine p_block_ret ?_ | refine p_end ?_ | refine c_if_t rfl (by omega) ?_ | refine c_if_f rfl (by omega) ?_)
      rw [hxqn2, hT.nxt hX2]
      repeat (first | (show OpsS _ _ _ _ _ _ (_ :: _) _ _ _; first | refine ozq ?_) | refine c_seq ?_ | refine p_then ?_ | refine c_region ?_ | refine s_nil ?_ | refine c_cond_t rfl ?_ | refine c_cond_f rfl ?_ | refine c_block ?_ | refine c_skip ?_ | refine c_exit ?_ | refine p_block ?_ | refine p_then_exit ?_ | refine p_block_here ?_ | refine p_block_on rfl ?_ | refine c_ret ?_ | refine p_then_ret ?_ | refine p_block_ret ?_ | refine p_end ?_ | refine c_if_t rfl (by omega) ?_ | refine c_if_f rfl (by omega) ?_)
      exact k_next (pre ++ [q], suf, l1) ⟨by rw [← hps]; simp, hI'⟩ (by simp) ⟨rfl, rfl, rfl, rfl, trivial⟩ .refl
    · repeat (first | (show OpsS _ _ _ _ _ _ (_ :: _) _ _ _; first | refine ozq ?_) | refine c_seq ?_ | refine p_then ?_ | refine c_region ?_ | refine s_nil ?_ | refine c_cond_t rfl ?_ | refine c_cond_f rfl ?_ | refine c_block ?_ | refine c_skip ?_ | refine c_exit ?_ | refine p_block ?_ | refine p_then_exit ?_ | refine p_block_here ?_ | refine p_block_on rfl ?_ | refine c_ret ?_ | refine p_then_ret ?_ | refine p_block_ret ?_ | refine p_end ?_ | refine c_if_t rfl (by omega) ?_ | refine c_if_f rfl (by omega) ?_)
      exact k_ret [] rfl .refl (by (repeat (first | apply ResS.nil | (apply rs_tmp; (· rfl)) | (apply rs_cell1; (· rfl); (· ((repeat (first | with_reducible apply List.mem_cons_self | with_reducible apply List.mem_cons_of_mem)); try with_reducible assumption)); (· rfl)) | (apply rs_cellA; (· rfl); (· ((repeat (first | with_reducible apply List.mem_cons_self | with_reducible apply List.mem_cons_of_mem)); try with_reducible assumption)); (· (repeat (first | with_reducible apply LSub.done | with_reducible apply LSub.take | with_reducible apply LSub.drop))))))) ⟨l1, rfl, .inr ⟨_, hsp, hx⟩⟩
end Go.Proofs.Ytidkpfkkljcnaaa
