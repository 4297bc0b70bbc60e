/- The fields of a capability. -/
import Derived.Test.YtkefdpgmelndaaaU0
import Derived.Test.YtkefdpgmelndaaaZ1
set_option linter.unusedVariables false
set_option linter.unusedSimpArgs false
namespace Go.Proofs.Ytkefdpgmelndaaa
open Go.RowKit

theorem setFrom_mid : ∀ (us ws X Y : List Value), us.length = ws.length → setFrom (List.toArray (X ++ (us ++ Y))) X.length ws = List.toArray (X ++ (ws ++ Y))
  | [], [], X, Y, _ => rfl
  | u :: us, w :: ws, X, Y, h => by
    have h1 : (List.toArray (X ++ (u :: us ++ Y))).setIfInBounds X.length w = List.toArray ((X ++ [w]) ++ (us ++ Y)) := by
      apply Array.toList_inj.1
      rw [Array.toList_setIfInBounds]
      show (X ++ (u :: (us ++ Y))).set X.length w = _
      rw [List.set_append_right _ _ (by omega), Nat.sub_self, List.set_cons_zero]
      simp
    unfold setFrom
    rw [h1]
    have h2 := setFrom_mid us ws (X ++ [w]) Y (by simpa using h)
    rw [List.length_append] at h2
    rw [show X.length + 1 = X.length + [w].length from rfl, h2]
    simp
def rowsAt : Nat → List (List Value) → List (Nat × Value)
  | _, [] => []
  | i, r :: rs => (i, .agg (List.toArray r)) :: rowsAt (i + 1) rs
theorem fill_rows {zs : List Value} {k : Nat} (hz : zs.length = k) : ∀ (rows : List (List Value)) (done : List Value) (i : Nat), (∀ r, r ∈ rows → r.length = k) → done.length = i * k →
    Instr.fill (fun i => some (i * k, k)) (List.toArray (done ++ (List.replicate rows.length zs).flatten)) (rowsAt i rows) = some (List.toArray (done ++ rows.flatten))
  | [], done, i, _, _ => by simp [rowsAt, Instr.fill]
  | r :: rs, done, i, hr, hd => by
    have h1 : r.length = k := hr r List.mem_cons_self
    unfold rowsAt Instr.fill
    have e2 : (Value.agg (List.toArray r)).cells = List.toArray r := rfl
    simp only [e2]
    rw [List.length_cons, List.replicate_succ, List.flatten_cons]
    rw [if_neg (by simp [h1, hz, hd])]
    rw [array_zip_set, ← hd, setFrom_mid zs r done _ (by rw [hz, h1]), ← List.append_assoc]
    rw [fill_rows hz rs (done ++ r) (i + 1) (fun r' h => hr r' (List.mem_cons_of_mem _ h)) (by rw [List.length_append, hd, h1, Nat.succ_mul])]
    rw [List.append_assoc, List.flatten_cons]
section
variable {P : Program} {ro : Option Nat} {N : Nat} {fr : Fr} {l : List Chunk} {d : Option Nat} {ty : TypeId} {pos : String} {aft : Array Edge} {g : Option (Nat × Bool)}
/-- a slice of several structs -/
theorem e_litNA {T e k yb n : Nat} {zs : List Value} {ps : List (Nat × Operand)} {pvs : List (Nat × Value)} {cs : List Value} (hps : evps fr ps = some pvs) (h0 : 0 < n * k) (hn : n * k ≤ 16777216) [c : ST P T e k yb] [cz : ZV P e zs] (hzs : zs.length = k) (hfill : Instr.fill (fun i => some (i * k, k)) (List.toArray (List.replicate n zs).flatten) pvs = some (List.toArray cs)) :
    OpE P ro N fr l ⟨d, .buildSlice T n ps.toArray, ty, pos, aft, g⟩ (fun v' l' => ∃ b, (∀ c, c ∈ l → c.1 ≠ b) ∧ v' = .slice (some ⟨b, 0, none⟩) n n ∧ l' = (b, .cells (List.toArray cs) e (0, 0)) :: l) := opE_of_sl rfl fun ρ hρ => by
  simp only [execOp, sl_bind]
  have e : ps.toArray.map (fun (i, x) => (i, ρ x)) = List.toArray pvs := by rw [← hρ.parts hps]; simp
  rw [e]
  exact sl_buildSlice (cs := cs) c.out cz.out hzs h0 hn hfill fun b hb => ⟨b, hb, rfl, rfl⟩
end
abbrev FdT := Nat × Nat × Nat × Nat
abbrev encF (c : Nat) (f : FdT) : List Value := [.pointer (some ⟨c, f.1, none⟩), .int .i64 (f.2.1 : Nat), .int .i64 (f.2.2.1 : Nat), .int .i64 (f.2.2.2 : Nat)]
abbrev fdV (c : Nat) (f : FdT) : Value := .agg (List.toArray (encF c f))
abbrev fdC (B c : Nat) (f : FdT) : Chunk := (B, .cells (List.toArray (encF c f)) 52 (0, 0))
def FL : List FdT := [(0, 0, 0, 4), (2, 0, 4, 3), (1, 0, 8, 16), (7, 0, 24, 9), (6, 0, 40, 24), (4, 1, 24, 12), (5, 1, 36, 4)]
abbrev ptC (B c : Nat) : Chunk := (B, .cells #[.pointer (some ⟨c, 0, none⟩)] 49 (0, 0))
set_option pp.deepTerms false
set_option pp.deepTerms.threshold 4
set_option maxHeartbeats 400000
theorem fields_any (c : Nat) (l : List Chunk) : Fn Try.prog 22 [.pointer (some ⟨c, 0, none⟩)] l fun r l' => ∃ B, r = .func (.func 32) #[] #[.pointer (some ⟨B, 0, none⟩)] ∧ l' = ptC B c :: l := by
  refine fn_of_body Try.func22 rfl rfl fun E => ?_
  simp only [argF, Try.ntmps22]
  repeat (first | (show OpsS _ _ _ _ _ _ (_ :: _) _ _ _; first | refine ozq ?_) | refine c_seq ?_ | refine p_then ?_ | refine c_region ?_ | refine s_nil ?_ | refine c_ret ?_ | refine p_then_ret ?_ | refine p_end ?_)
  refine t_e (e_box1 rfl rfl) rfl rfl rfl ?_
  rintro _ _ ⟨B, hB, rfl, rfl⟩
  repeat (first | (show OpsS _ _ _ _ _ _ (_ :: _) _ _ _; first | refine ozq ?_) | refine c_seq ?_ | refine p_then ?_ | refine c_region ?_ | refine s_nil ?_ | refine c_ret ?_ | refine p_then_ret ?_ | refine p_end ?_)
  exact k_ret [] rfl .refl (by (repeat (first | apply ResS.nil | (apply rs_tmp; (· rfl)) | (apply rs_cell1; (· rfl); (· ((repeat (first | with_reducible apply List.mem_cons_self | with_reducible apply List.mem_cons_of_mem)); try with_reducible assumption)); (· rfl)) | (apply rs_cellA; (· rfl); (· ((repeat (first | with_reducible apply List.mem_cons_self | with_reducible apply List.mem_cons_of_mem)); try with_reducible assumption)); (· (repeat (first | with_reducible apply LSub.done | with_reducible apply LSub.take | with_reducible apply LSub.drop))))))) ⟨B, rfl, rfl⟩
theorem fields_iter (B c : Nat) : IterS Try.prog 32 [.pointer (some ⟨B, 0, none⟩)] (fun f : FdT => [fdV c f]) (fun xs => xs = FL) (fun pre => pre <+: FL) (fun _ l => ptC B c ∈ l) := by
  refine ⟨fun r I Ix G0 hneed hY l G hG h0 => ?_⟩
  have hm1 := hneed _ _ G hG h0
  refine fn_of_body Try.func32 rfl rfl fun E => ?_
  simp only [argF, Try.ntmps32]
  repeat (first | (show OpsS _ _ _ _ _ _ (_ :: _) _ _ _; first | refine ozq ?_ | refine ozn ?_) | refine c_seq ?_ | refine p_then ?_ | refine c_region ?_ | refine s_nil ?_ | refine c_cond_t rfl ?_ | refine c_cond_f rfl ?_ | refine c_block ?_ | refine c_skip ?_ | refine c_exit ?_ | refine p_block ?_ | refine p_then_exit ?_ | refine p_block_here ?_ | refine p_block_on rfl ?_ | refine c_ret ?_ | refine p_then_ret ?_ | refine p_block_ret ?_ | refine p_end ?_ | refine c_if_t rfl (by omega) ?_ | refine c_if_f rfl (by omega) ?_)
  refine c_draw [(0, true), (1, true), (2, true), (3, true), (4, true), (5, true), (6, true), (7, true), (8, true), (9, true), (10, true), (11, true), (12, true), (13, true), (14, true), (15, true), (16, true), (17, true), (18, true), (19, true), (20, true), (21, true), (22, true), (23, true), (24, true), (25, true), (26, true), (27, true), (30, true), (28, false), (29, true)] [[], [0], [0, 1], [0, 1, 2], [], [4], [4, 5], [4, 5, 6], [], [8], [8, 9], [8, 9, 10], [], [12], [12, 13], [12, 13, 14], [], [16], [16, 17], [16, 17, 18], [], [20], [20, 21], [20, 21, 22], [], [24], [24, 25], [24, 25, 26], [0, 1, 2, 3, 4, 5, 6, 7, 8, 9, 10, 11, 12, 13, 14, 15, 16, 17, 18, 19, 20, 21, 22, 23, 24, 25, 26, 27], [0, 1, 2, 3, 4, 5, 6, 7, 8, 9, 10, 11, 12, 13, 14, 15, 16, 17, 18, 19, 20, 21, 22, 23, 24, 25, 26, 27, 28], []] _ (by kernel_rfl) (by kernel_rfl) (by (repeat (first | apply Attach.nil | (apply Attach.cons; · rfl)))) (fun _ h => h) ?_
  repeat (first | refine pl_nil ?_ | (show PlanS _ _ _ _ _ _ _ _ _ _ ((_, true, _) :: _) _ _ _; first | refine pzq ?_) | (show PlanS _ _ _ _ _ _ _ _ none [] ((_, false, _) :: _) _ _ _; first | refine pze ?_))
  apply pl_e
  · exact e_litNA (k := 4) (n := 7) (e := 52) (cs := FL.flatMap (encF c)) rfl (by decide) (by decide) rfl (fill_rows (zs := [.pointer none, .int .i64 0, .int .i64 0, .int .i64 0]) rfl (FL.map (encF c)) [] 0 (by simp [FL]) rfl)
  · rfl
  · rfl
  · rfl
  · rintro _ _ ⟨_, _, _, rfl⟩ x hx; exact .tail _ hx
  rintro _ _ ⟨gb, hgb, rfl, rfl⟩
  repeat (first | refine pl_nil ?_ | (show PlanS _ _ _ _ _ _ _ _ _ _ ((_, true, _) :: _) _ _ _; first | refine pzq ?_) | (show PlanS _ _ _ _ _ _ _ _ none [] ((_, false, _) :: _) _ _ _; first | refine pze ?_))
  repeat (first | (show OpsS _ _ _ _ _ _ (_ :: _) _ _ _; first | refine ozq ?_ | refine ozn ?_) | refine c_seq ?_ | refine p_then ?_ | refine c_region ?_ | refine s_nil ?_ | refine c_cond_t rfl ?_ | refine c_cond_f rfl ?_ | refine c_block ?_ | refine c_skip ?_ | refine c_exit ?_ | refine p_block ?_ | refine p_then_exit ?_ | refine p_block_here ?_ | refine p_block_on rfl ?_ | refine c_ret ?_ | refine p_then_ret ?_ | refine p_block_ret ?_ | refine p_end ?_ | refine c_if_t rfl (by omega) ?_ | refine c_if_f rfl (by omega) ?_)
  refine k_loop (α := Nat × List Chunk) (fun x => [(0, .func (.yield r) #[] #[]), (1, .pointer (some ⟨B, 0, none⟩)), (33, .slice (some ⟨gb, 0, none⟩) 7 7), (34, .int .i64 7), (35, .int .i64 x.1)]) (fun x => x.2 ++ ((gb, .cells (List.toArray (FL.flatMap (encF c))) 52 (0, 0)) :: G)) (fun x => x.1 ≤ 7 ∧ I (FL.take x.1) x.2) (fun x => 7 - x.1) (0, l) ⟨Nat.zero_le _, h0⟩ ⟨rfl, rfl, rfl, rfl, rfl, trivial⟩ (.of_perm List.perm_middle.symm) ?_
  rintro ⟨i, l⟩ ⟨hi, hI⟩
  simp only at hi hI ⊢
  by_cases hlt : i < 7
  · obtain ⟨f, hf⟩ : ∃ f, FL[i]? = some f := ⟨_, List.getElem?_eq_getElem (show i < FL.length from hlt)⟩
    obtain ⟨q1, q2⟩ := flat_row (enc := encF c) (k := 4) (fun _ => rfl) [] FL i f hf
    rw [List.append_nil] at q1 q2
    have hmb : (gb, Obj.cells (List.toArray (FL.flatMap (encF c))) 52 (0, 0)) ∈ l ++ ((gb, .cells (List.toArray (FL.flatMap (encF c))) 52 (0, 0)) :: G) := List.mem_append_right _ (.head _)
    have hpre : FL.take i ++ [f] <+: FL := by
      have : FL.take (i + 1) = FL.take i ++ [f] := by rw [List.take_add_one, hf]; rfl
      rw [← this]; exact List.take_prefix _ _
    repeat (first | (show OpsS _ _ _ _ _ _ (_ :: _) _ _ _; first | refine ozq ?_ | refine ozn ?_) | refine c_seq ?_ | refine p_then ?_ | refine c_region ?_ | refine s_nil ?_ | refine c_cond_t rfl ?_ | refine c_cond_f rfl ?_ | refine c_block ?_ | refine c_skip ?_ | refine c_exit ?_ | refine p_block ?_ | refine p_then_exit ?_ | refine p_block_here ?_ | refine p_block_on rfl ?_ | refine c_ret ?_ | refine p_then_ret ?_ | refine p_block_ret ?_ | refine p_end ?_ | refine c_if_t rfl (by omega) ?_ | refine c_if_f rfl (by omega) ?_)
    refine t_q (q_loadA (n := 4) rfl hmb (by simpa using q2) (by rw [List.extract_toArray, List.extract_eq_take_drop, Nat.add_sub_cancel_left, q1])) rfl rfl rfl ?_
    refine t_e e_alloc rfl rfl rfl ?_; rintro _ _ ⟨b4, _, rfl, rfl⟩
    repeat (first | (show OpsS _ _ _ _ _ _ (_ :: _) _ _ _; first | refine ozq ?_ | refine ozn ?_) | refine c_seq ?_ | refine p_then ?_ | refine c_region ?_ | refine s_nil ?_ | refine c_cond_t rfl ?_ | refine c_cond_f rfl ?_ | refine c_block ?_ | refine c_skip ?_ | refine c_exit ?_ | refine p_block ?_ | refine p_then_exit ?_ | refine p_block_here ?_ | refine p_block_on rfl ?_ | refine c_ret ?_ | refine p_then_ret ?_ | refine p_block_ret ?_ | refine p_end ?_ | refine c_if_t rfl (by omega) ?_ | refine c_if_f rfl (by omega) ?_)
    have hy := hY _ f l (fdC b4 c f :: (gb, .cells (List.toArray (FL.flatMap (encF c))) 52 (0, 0)) :: G) (fun x hx => .tail _ (.tail _ (hG x hx))) hI hpre
    refine s_keep (Keep.of_perm (l' := l ++ (fdC b4 c f :: (gb, .cells (List.toArray (FL.flatMap (encF c))) 52 (0, 0)) :: G)) List.perm_middle.symm) ?_
    refine t_e (e_yield rfl rfl hy) rfl rfl rfl ?_
    rintro w l' ⟨l1, rfl, ⟨rfl, hI'⟩ | ⟨rfl, hx⟩⟩
    · repeat (first | (show OpsS _ _ _ _ _ _ (_ :: _) _ _ _; first | refine ozq ?_ | refine ozn ?_) | refine c_seq ?_ | refine p_then ?_ | refine c_region ?_ | refine s_nil ?_ | refine c_cond_t rfl ?_ | refine c_cond_f rfl ?_ | refine c_block ?_ | refine c_skip ?_ | refine c_exit ?_ | refine p_block ?_ | refine p_then_exit ?_ | refine p_block_here ?_ | refine p_block_on rfl ?_ | refine c_ret ?_ | refine p_then_ret ?_ | refine p_block_ret ?_ | refine p_end ?_ | refine c_if_t rfl (by omega) ?_ | refine c_if_f rfl (by omega) ?_)
      exact k_next (i + 1, l1) ⟨by simp only; omega, by simp only; rw [List.take_add_one, hf]; exact hI'⟩ (by simp only; omega) ⟨rfl, rfl, rfl, rfl, rfl, trivial⟩ (Keep.trans (.of_perm List.perm_middle) (.drop .refl))
    · repeat (first | (show OpsS _ _ _ _ _ _ (_ :: _) _ _ _; first | refine ozq ?_ | refine ozn ?_) | refine c_seq ?_ | refine p_then ?_ | refine c_region ?_ | refine s_nil ?_ | refine c_cond_t rfl ?_ | refine c_cond_f rfl ?_ | refine c_block ?_ | refine c_skip ?_ | refine c_exit ?_ | refine p_block ?_ | refine p_then_exit ?_ | refine p_block_here ?_ | refine p_block_on rfl ?_ | refine c_ret ?_ | refine p_then_ret ?_ | refine p_block_ret ?_ | refine p_end ?_ | refine c_if_t rfl (by omega) ?_ | refine c_if_f rfl (by omega) ?_)
      exact k_ret [] rfl (Keep.trans (.of_perm (List.perm_append_comm_assoc l1 [_, _] G)) (.drop (.drop .refl))) (by (repeat (first | apply ResS.nil | (apply rs_tmp; (· rfl)) | (apply rs_cell1; (· rfl); (· ((repeat (first | with_reducible apply List.mem_cons_self | with_reducible apply List.mem_cons_of_mem)); try with_reducible assumption)); (· rfl)) | (apply rs_cellA; (· rfl); (· ((repeat (first | with_reducible apply List.mem_cons_self | with_reducible apply List.mem_cons_of_mem)); try with_reducible assumption)); (· (repeat (first | with_reducible apply LSub.done | with_reducible apply LSub.take | with_reducible apply LSub.drop))))))) ⟨l1, rfl, .inr ⟨_, hpre, hx⟩⟩
  · obtain rfl : i = 7 := by omega
    repeat (first | (show OpsS _ _ _ _ _ _ (_ :: _) _ _ _; first | refine ozq ?_ | refine ozn ?_) | refine c_seq ?_ | refine p_then ?_ | refine c_region ?_ | refine s_nil ?_ | refine c_cond_t rfl ?_ | refine c_cond_f rfl ?_ | refine c_block ?_ | refine c_skip ?_ | refine c_exit ?_ | refine p_block ?_ | refine p_then_exit ?_ | refine p_block_here ?_ | refine p_block_on rfl ?_ | refine c_ret ?_ | refine p_then_ret ?_ | refine p_block_ret ?_ | refine p_end ?_ | refine c_if_t rfl (by omega) ?_ | refine c_if_f rfl (by omega) ?_)
    exact k_ret [] rfl (Keep.trans (.of_perm List.perm_middle) (.drop .refl)) (by (repeat (first | apply ResS.nil | (apply rs_tmp; (· rfl)) | (apply rs_cell1; (· rfl); (· ((repeat (first | with_reducible apply List.mem_cons_self | with_reducible apply List.mem_cons_of_mem)); try with_reducible assumption)); (· rfl)) | (apply rs_cellA; (· rfl); (· ((repeat (first | with_reducible apply List.mem_cons_self | with_reducible apply List.mem_cons_of_mem)); try with_reducible assumption)); (· (repeat (first | with_reducible apply LSub.done | with_reducible apply LSub.take | with_reducible apply LSub.drop))))))) ⟨l, rfl, .inl ⟨FL, rfl, hI⟩⟩
end Go.Proofs.Ytkefdpgmelndaaa
