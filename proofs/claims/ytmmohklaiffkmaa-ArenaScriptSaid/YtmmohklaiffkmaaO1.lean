/- slices.Insert of one struct. -/
import Derived.Test.YtmmohklaiffkmaaU0
import Derived.Test.YtmmohklaiffkmaaO0
set_option linter.unusedVariables false
set_option linter.unusedSimpArgs false
namespace Go.Proofs.Ytmmohklaiffkmaa
open Go.RowKit

section
variable {P : Program} {ro : Option Nat} {N : Nat} {fr : Fr} {R l : List Chunk} {d : Option Nat} {ty : TypeId} {pos : String} {aft : Array Edge} {g : Option (Nat × Bool)} {x : Operand}
theorem q_sliceP {T e k yb : Nat} {lo hi mx : Option Operand} {p : Option Addr} {n cap l0 h0 m0 n' c' : Nat} (hx : ev fr x = some (.slice p n cap)) [c : ST P T e k yb] (hl : Bnd fr lo 0 l0) (hh : Bnd fr hi n h0) (hm : Bnd fr mx cap m0) (hno : mx.isSome = true → hi.isSome = true) (h1 : l0 ≤ h0) (h2 : h0 ≤ m0) (h3 : m0 ≤ cap)
    (hn : h0 - l0 = n') (hc : m0 - l0 = c') : OpQ P ro N fr R ⟨d, .slice T x lo hi mx, ty, pos, aft, g⟩ (.slice (if m0 = l0 then p else p.map (·.add (l0 * k))) n' c') := opQ_of_sl rfl fun ρ l hρ _ => by
  obtain ⟨inf, u1, u2, u3, _⟩ := stV_spec c.out
  subst hn hc
  simp only [execOp, hρ x _ hx]
  rw [sl_bind]
  unfold Instr.sliceAt
  rw [sl_under u1]
  show sl P (Instr.slice T _ _ _ _) l _
  unfold Instr.slice
  rw [sl_under u1]
  simp only [sl_bind]
  rw [sl_sliceBounds hρ hl hh hm hno h1 h2 h3]
  simp only
  rw [sl_sizeOf' u2]
  simp only [sl_pure, u3]
  simp
end
theorem ov_f : Try.prog.funcs[42]? = some Try.f42 := Try.func42
theorem ov_n : (Try.f42.name == "runtime.NumGoroutine") = false := by kernel_rfl
theorem ov_b : Try.f42.body.isNone = true := by kernel_rfl
theorem ov_x : Extern.findNext Try.f42 = none := by kernel_rfl
theorem ov_e : Extern.find Try.f42 = some (Extern.SlicesOverlaps.overlaps #[37, 37] #[4]) := by kernel_rfl
/-- cells laid over others of the same number -/
theorem lay3 (A X Y cs : List Value) (h : cs.length = X.length) : (A ++ X ++ Y).take A.length ++ cs ++ (A ++ X ++ Y).drop (A.length + cs.length) = A ++ cs ++ Y := by
  rw [h]
  have e1 : (A ++ X ++ Y).take A.length = A := by rw [List.append_assoc, List.take_left' rfl]
  have e2 : (A ++ X ++ Y).drop (A.length + X.length) = Y := by rw [← List.length_append, List.drop_left' rfl]
  rw [e1, e2]
abbrev obZ : List Value := [.int .i64 0, .int .i64 0, .int .i64 0, .int .i64 0, .int .i64 0, .int .i64 0, .int .i64 0, .int .i64 0, .int .i64 0]
set_option pp.deepTerms false
set_option pp.deepTerms.threshold 4
set_option maxHeartbeats 400000
theorem insert_any (v : Value) (n i bl : Nat) (xs ws : List Value) (cs F : List Chunk) (ho : OwnSl 40 9 v n xs cs) (hi : i ≤ n) (hw : ws.length = 9) (h1 : ∀ u ∈ ws, u.oneCell' = true) (hx1 : ∀ u ∈ xs, u.oneCell' = true) (hne : ∀ c, c ∈ cs → c.1 ≠ bl) (hn : n ≤ 90000) :
    Fn Try.prog 33 [v, .int .i64 (i : Nat), .slice (some ⟨bl, 0, none⟩) 1 1] ((bl, .cells (List.toArray ws) 40 (0, 0)) :: (cs ++ F)) fun v' l' => ∃ c2, OwnSl 40 9 v' (n + 1) (xs.take (i * 9) ++ ws ++ xs.drop (i * 9)) c2 ∧ l' = c2 ++ F := by
  obtain ⟨p, cap, hv, hnc⟩ : ∃ p cap, v = .slice p n cap ∧ n ≤ cap := by
    rcases ho.2 with ⟨h, h0, _⟩ | ⟨b, cap, sp, h, _, h2, _⟩
    · exact ⟨none, 0, by rw [h, h0], by omega⟩
    · exact ⟨_, cap, h, h2⟩
  subst hv
  refine fn_of_body Try.func33 rfl rfl fun E => ?_
  simp only [argF, Try.ntmps33]
  repeat (first | (show OpsS _ _ _ _ _ _ (_ :: _) _ _ _; first | refine ozq ?_) | refine c_seq ?_ | refine p_then ?_ | refine c_region ?_ | refine s_nil ?_ | refine c_cond_t rfl ?_ | refine c_cond_f rfl ?_ | refine c_skip ?_ | refine c_ret ?_ | refine p_then_ret ?_ | refine p_end ?_ | refine c_if_t rfl (by omega) ?_ | refine c_if_f rfl (by omega) ?_)
  refine t_q (q_sliceP (l0 := i) (h0 := n) (m0 := cap) rfl (.some rfl (by omega) rfl) .none .none (by simp) hi hnc (by omega) rfl rfl) rfl rfl rfl ?_
  repeat (first | (show OpsS _ _ _ _ _ _ (_ :: _) _ _ _; first | refine ozq ?_) | refine c_seq ?_ | refine p_then ?_ | refine c_region ?_ | refine s_nil ?_ | refine c_cond_t rfl ?_ | refine c_cond_f rfl ?_ | refine c_skip ?_ | refine c_ret ?_ | refine p_then_ret ?_ | refine p_end ?_ | refine c_if_t rfl (by omega) ?_ | refine c_if_f rfl (by omega) ?_)
  by_cases hin : i = n
  · subst hin
    repeat (first | (show OpsS _ _ _ _ _ _ (_ :: _) _ _ _; first | refine ozq ?_) | refine c_seq ?_ | refine p_then ?_ | refine c_region ?_ | refine s_nil ?_ | refine c_cond_t rfl ?_ | refine c_cond_f rfl ?_ | refine c_skip ?_ | refine c_ret ?_ | refine p_then_ret ?_ | refine p_end ?_ | refine c_if_t rfl (by omega) ?_ | refine c_if_f rfl (by omega) ?_)
    refine t_e (e_appX (k := 9) (X := []) (cs := cs) (F := F) (xs := xs) (n := i) (ws := ws) (zs := obZ) rfl rfl rfl ho hw h1 (by omega) (by decide)) rfl rfl rfl ?_
    rintro v' _ ⟨c2, ho2, rfl⟩
    have hv1 : v'.oneCell' = true := ho2.one
    repeat (first | (show OpsS _ _ _ _ _ _ (_ :: _) _ _ _; first | refine ozq ?_) | refine c_seq ?_ | refine p_then ?_ | refine c_region ?_ | refine s_nil ?_ | refine c_cond_t rfl ?_ | refine c_cond_f rfl ?_ | refine c_skip ?_ | refine c_ret ?_ | refine p_then_ret ?_ | refine p_end ?_ | refine c_if_t rfl (by omega) ?_ | refine c_if_f rfl (by omega) ?_)
    refine k_ret [] rfl (l' := c2 ++ F) .refl (by (repeat (first | apply ResS.nil | (apply rs_tmp; (· rfl)) | (apply rs_cell1; (· rfl); (· ((repeat (first | with_reducible apply List.mem_cons_self | with_reducible apply List.mem_cons_of_mem)); try with_reducible assumption)); (· rfl)) | (apply rs_cellA; (· rfl); (· ((repeat (first | with_reducible apply List.mem_cons_self | with_reducible apply List.mem_cons_of_mem)); try with_reducible assumption)); (· (repeat (first | with_reducible apply LSub.done | with_reducible apply LSub.take | with_reducible apply LSub.drop))))))) ⟨c2, ?_, rfl⟩
    rw [List.take_of_length_le (by rw [ho.1]; omega), List.drop_of_length_le (by rw [ho.1]; omega), List.append_nil]; exact ho2
  repeat (first | (show OpsS _ _ _ _ _ _ (_ :: _) _ _ _; first | refine ozq ?_) | refine c_seq ?_ | refine p_then ?_ | refine c_region ?_ | refine s_nil ?_ | refine c_cond_t rfl ?_ | refine c_cond_f rfl ?_ | refine c_skip ?_ | refine c_ret ?_ | refine p_then_ret ?_ | refine p_end ?_ | refine c_if_t rfl (by omega) ?_ | refine c_if_f rfl (by omega) ?_)
  rcases ho.2 with ⟨h, h0, _⟩ | ⟨gb, cap', sp, h, rfl, h2, hcm, hcl⟩
  · omega
  cases h
  have hxl : xs.length = n * 9 := ho.1
  obtain ⟨A, hA⟩ : ∃ A, xs.take (i * 9) = A := ⟨_, rfl⟩
  obtain ⟨B, hB⟩ : ∃ B, xs.drop (i * 9) = B := ⟨_, rfl⟩
  have hAB : xs = A ++ B := by rw [← hA, ← hB, List.take_append_drop]
  have hAl : A.length = i * 9 := by rw [← hA, List.length_take]; omega
  have hBl : B.length = (n - i) * 9 := by rw [← hB, List.length_drop]; omega
  have hB1 : ∀ u ∈ B, u.oneCell' = true := fun u hu => hx1 u (by rw [hAB]; exact List.mem_append_right _ hu)
  rw [hA, hB]
  have hgb : gb ≠ bl := hne _ (.head _)
  rw [show xs ++ sp = A ++ (B ++ sp) by rw [hAB, List.append_assoc]] at hcl ⊢
  rw [List.length_append, List.length_append] at hcl
  simp only [List.cons_append, List.nil_append]
  refine t_q (q_cap rfl) rfl rfl rfl ?_
  repeat (first | (show OpsS _ _ _ _ _ _ (_ :: _) _ _ _; first | refine ozq ?_) | refine c_seq ?_ | refine p_then ?_ | refine c_region ?_ | refine s_nil ?_ | refine c_cond_t rfl ?_ | refine c_cond_f rfl ?_ | refine c_skip ?_ | refine c_ret ?_ | refine p_then_ret ?_ | refine p_end ?_ | refine c_if_t rfl (by omega) ?_ | refine c_if_f rfl (by omega) ?_)
  by_cases hroom : cap < n + 1
  · repeat (first | (show OpsS _ _ _ _ _ _ (_ :: _) _ _ _; first | refine ozq ?_) | refine c_seq ?_ | refine p_then ?_ | refine c_region ?_ | refine s_nil ?_ | refine c_cond_t rfl ?_ | refine c_cond_f rfl ?_ | refine c_skip ?_ | refine c_ret ?_ | refine p_then_ret ?_ | refine p_end ?_ | refine c_if_t rfl (by omega) ?_ | refine c_if_f rfl (by omega) ?_)
    refine t_q (q_slice (l0 := 0) (h0 := i) (m0 := cap) (off' := 0) (n' := i) (c' := cap) rfl .none (.some rfl (by omega) rfl) .none (by simp) (by omega) (by omega) (by omega) (by simp) (by omega) (by omega)) rfl rfl rfl ?_
    repeat (first | (show OpsS _ _ _ _ _ _ (_ :: _) _ _ _; first | refine ozq ?_) | refine c_seq ?_ | refine p_then ?_ | refine c_region ?_ | refine s_nil ?_ | refine c_cond_t rfl ?_ | refine c_cond_f rfl ?_ | refine c_skip ?_ | refine c_ret ?_ | refine p_then_ret ?_ | refine p_end ?_ | refine c_if_t rfl (by omega) ?_ | refine c_if_f rfl (by omega) ?_)
    refine s_keep (Keep.of_perm (l' := (gb, .cells (List.toArray (A ++ (B ++ sp))) 40 (0, 0)) :: ((bl, .cells (List.toArray ws) 40 (0, 0)) :: F)) (List.Perm.swap ..)) ?_
    refine t_e (e_appendZ (k := 9) (n := i) (m := n + 1 - i) (gb := gb) (cap := cap) (xs := A) (sp := B ++ sp) (zs := obZ) (F := (bl, .cells (List.toArray ws) 40 (0, 0)) :: F) rfl ?_ rfl (by omega) hAl (by omega) (by omega) (by omega) (by decide)) rfl rfl rfl ?_
    · show some (Value.int .i64 _) = _
      congr 2; omega
    rintro _ _ ⟨nb, cap2, sp2, hnb, rfl, rfl, hc1, hc2, hc3⟩
    rw [show i + (n + 1 - i) = n + 1 by omega] at hc1 ⊢
    obtain ⟨Z, hZ⟩ : ∃ Z, (List.replicate (n + 1 - i) obZ).flatten = Z := ⟨_, rfl⟩
    have hZl : Z.length = 9 + B.length := by rw [← hZ, hBl]; simp; omega
    rw [hZ] at hc3 ⊢
    have e0 : A ++ Z ++ sp2 = A ++ Z.take 9 ++ (Z.drop 9 ++ sp2) := by
      rw [List.append_assoc, List.append_assoc, ← List.append_assoc (Z.take 9), List.take_append_drop]
    have hZ9 : (Z.take 9).length = 9 := by rw [List.length_take]; omega
    have hZd : (Z.drop 9).length = B.length := by rw [List.length_drop]; omega
    rw [List.length_append, List.length_append] at hc3
    repeat (first | (show OpsS _ _ _ _ _ _ (_ :: _) _ _ _; first | refine ozq ?_) | refine c_seq ?_ | refine p_then ?_ | refine c_region ?_ | refine s_nil ?_ | refine c_cond_t rfl ?_ | refine c_cond_f rfl ?_ | refine c_skip ?_ | refine c_ret ?_ | refine p_then_ret ?_ | refine p_end ?_ | refine c_if_t rfl (by omega) ?_ | refine c_if_f rfl (by omega) ?_)
    refine t_q (q_slice (l0 := i) (h0 := n + 1) (m0 := cap2) (off' := A.length) (n' := n + 1 - i) (c' := cap2 - i) rfl (.some rfl (by omega) rfl) .none .none (by simp) (by omega) (by omega) (by omega) (by rw [if_neg (by omega)]; omega) rfl rfl) rfl rfl rfl ?_
    repeat (first | (show OpsS _ _ _ _ _ _ (_ :: _) _ _ _; first | refine ozq ?_) | refine c_seq ?_ | refine p_then ?_ | refine c_region ?_ | refine s_nil ?_ | refine c_cond_t rfl ?_ | refine c_cond_f rfl ?_ | refine c_skip ?_ | refine c_ret ?_ | refine p_then_ret ?_ | refine p_end ?_ | refine c_if_t rfl (by omega) ?_ | refine c_if_f rfl (by omega) ?_)
    have hl1 : (bl, Obj.cells (List.toArray ws) 40 (0, 0)) ∈ (nb, Obj.cells (List.toArray (A ++ Z ++ sp2)) 40 (0, 0)) :: (gb, .cells (List.toArray (A ++ (B ++ sp))) 40 (0, 0)) :: (bl, .cells (List.toArray ws) 40 (0, 0)) :: F := .tail _ (.tail _ (.head _))
    refine t_e (e_copyK (k := 9) (m := 1) (cs := ws) rfl rfl (by show min 1 (n + 1 - i) = 1; omega) hw hl1 (fun j u hj => by simpa using hj) (by simp only [List.length_append]; omega) h1) rfl rfl rfl ?_
    rintro _ _ ⟨rfl, rfl⟩
    rw [e0, lay3 A _ _ ws (by rw [hw, hZ9])]
    repeat (first | (show OpsS _ _ _ _ _ _ (_ :: _) _ _ _; first | refine ozq ?_) | refine c_seq ?_ | refine p_then ?_ | refine c_region ?_ | refine s_nil ?_ | refine c_cond_t rfl ?_ | refine c_cond_f rfl ?_ | refine c_skip ?_ | refine c_ret ?_ | refine p_then_ret ?_ | refine p_end ?_ | refine c_if_t rfl (by omega) ?_ | refine c_if_f rfl (by omega) ?_)
    have hAw : (A ++ ws).length = i * 9 + 9 := by rw [List.length_append]; omega
    have hl2 : (gb, Obj.cells (List.toArray (A ++ (B ++ sp))) 40 (0, 0)) ∈ (nb, Obj.cells (List.toArray (A ++ ws ++ (Z.drop 9 ++ sp2))) 40 (0, 0)) :: (gb, .cells (List.toArray (A ++ (B ++ sp))) 40 (0, 0)) :: (bl, .cells (List.toArray ws) 40 (0, 0)) :: F := .tail _ (.head _)
    refine c_draw [(0, true), (1, true), (2, true), (3, true), (4, true), (5, true), (6, true), (7, true), (8, false)] [[], [], [], [1, 2], [0, 1, 2, 3], [], [], [5, 6], [0, 1, 2, 3, 4, 5, 6, 7]] ([]) (by kernel_rfl) (by kernel_rfl) (by (repeat (first | apply Attach.nil | (apply Attach.cons; · rfl)))) (List.Sublist.subset (by (repeat (first | with_reducible apply List.Sublist.refl | with_reducible apply List.nil_sublist | with_reducible apply List.Sublist.cons_cons | with_reducible apply List.Sublist.cons)))) ?_
    repeat (first | refine pl_nil ?_ | (show PlanS _ _ _ _ _ _ _ _ _ _ ((_, true, _) :: _) _ _ _; first | refine pzq ?_))
    apply pl_q
    · exact q_slice (l0 := i + 1) (h0 := n + 1) (m0 := cap2) (off' := i * 9 + 9) (n' := n - i) (c' := cap2 - (i + 1)) rfl (.some rfl (by omega) rfl) .none .none (by simp) (by omega) (by omega) (by omega) (by rw [if_neg (by omega)]; omega) (by omega) rfl
    · rfl
    · rfl
    · rfl
    repeat (first | refine pl_nil ?_ | (show PlanS _ _ _ _ _ _ _ _ _ _ ((_, true, _) :: _) _ _ _; first | refine pzq ?_))
    apply pl_q
    · exact q_slice (l0 := i) (h0 := n) (m0 := cap) (off' := i * 9) (n' := n - i) (c' := cap - i) rfl (.some rfl (by omega) rfl) .none .none (by simp) (by omega) (by omega) (by omega) (by rw [if_neg (by omega)]; omega) rfl rfl
    · rfl
    · rfl
    · rfl
    repeat (first | refine pl_nil ?_ | (show PlanS _ _ _ _ _ _ _ _ _ _ ((_, true, _) :: _) _ _ _; first | refine pzq ?_))
    apply pl_e
    · apply e_copyK (k := 9) (m := n - i) (cs := B) (cur := A ++ ws ++ (Z.drop 9 ++ sp2))
      · rfl
      · rfl
      · exact Nat.min_self _
      · omega
      · exact hl2
      · intro j u hj
        have hjl := (List.getElem?_eq_some_iff.1 hj).1
        rw [List.getElem?_toArray, List.getElem?_append_right (by omega), hAl, show i * 9 + j - i * 9 = j by omega, List.getElem?_append_left hjl]; exact hj
      · rw [List.length_append, List.length_append, List.length_append, hw, hAl, hZd]; omega
      · exact hB1
    · rfl
    · rfl
    · rfl
    · intro _ _ _ c hc; cases hc
    rintro _ _ ⟨rfl, rfl⟩
    have e3 : List.take (i * 9 + 9) (A ++ ws ++ (List.drop 9 Z ++ sp2)) ++ B ++ List.drop (i * 9 + 9 + B.length) (A ++ ws ++ (List.drop 9 Z ++ sp2)) = A ++ ws ++ B ++ sp2 := by
      have := lay3 (A ++ ws) (Z.drop 9) sp2 B hZd.symm
      rw [hAw, List.append_assoc (A ++ ws) (Z.drop 9) sp2] at this
      exact this
    rw [e3]
    repeat (first | refine pl_nil ?_ | (show PlanS _ _ _ _ _ _ _ _ _ _ ((_, true, _) :: _) _ _ _; first | refine pzq ?_))
    repeat (first | (show OpsS _ _ _ _ _ _ (_ :: _) _ _ _; first | refine ozq ?_) | refine c_seq ?_ | refine p_then ?_ | refine c_region ?_ | refine s_nil ?_ | refine c_cond_t rfl ?_ | refine c_cond_f rfl ?_ | refine c_skip ?_ | refine c_ret ?_ | refine p_then_ret ?_ | refine p_end ?_ | refine c_if_t rfl (by omega) ?_ | refine c_if_f rfl (by omega) ?_)
    refine k_ret [] rfl (l' := (nb, .cells (List.toArray (A ++ ws ++ B ++ sp2)) 40 (0, 0)) :: F) (by ((try simp only [List.cons_append, List.nil_append, List.map_cons, List.map_nil]); repeat (first | with_reducible apply Keep.refl | (apply Keep.pick; · (repeat (first | apply Pick.here | apply Pick.there))) | apply Keep.drop))) (by (repeat (first | apply ResS.nil | (apply rs_tmp; (· rfl)) | (apply rs_cell1; (· rfl); (· ((repeat (first | with_reducible apply List.mem_cons_self | with_reducible apply List.mem_cons_of_mem)); try with_reducible assumption)); (· rfl)) | (apply rs_cellA; (· rfl); (· ((repeat (first | with_reducible apply List.mem_cons_self | with_reducible apply List.mem_cons_of_mem)); try with_reducible assumption)); (· (repeat (first | with_reducible apply LSub.done | with_reducible apply LSub.take | with_reducible apply LSub.drop))))))) ⟨[(nb, _)], ⟨?_, .inr ⟨nb, cap2, sp2, rfl, rfl, hc1, hc2, ?_⟩⟩, rfl⟩
    · rw [List.length_append, hAw]; omega
    · rw [List.length_append, List.length_append, hAw]; omega
  · obtain ⟨s1, s2, hs12, hs1⟩ : ∃ s1 s2, sp = s1 ++ s2 ∧ s1.length = 9 := ⟨sp.take 9, sp.drop 9, (List.take_append_drop ..).symm, by rw [List.length_take]; omega⟩
    repeat (first | (show OpsS _ _ _ _ _ _ (_ :: _) _ _ _; first | refine ozq ?_) | refine c_seq ?_ | refine p_then ?_ | refine c_region ?_ | refine s_nil ?_ | refine c_cond_t rfl ?_ | refine c_cond_f rfl ?_ | refine c_skip ?_ | refine c_ret ?_ | refine p_then_ret ?_ | refine p_end ?_ | refine c_if_t rfl (by omega) ?_ | refine c_if_f rfl (by omega) ?_)
    refine t_q (q_slice (l0 := 0) (h0 := n + 1) (m0 := cap) (off' := 0) (n' := n + 1) (c' := cap) rfl .none (.some rfl (by omega) (by omega)) .none (by simp) (by omega) (by omega) (by omega) (by simp) (by omega) (by omega)) rfl rfl rfl ?_
    repeat (first | (show OpsS _ _ _ _ _ _ (_ :: _) _ _ _; first | refine ozq ?_) | refine c_seq ?_ | refine p_then ?_ | refine c_region ?_ | refine s_nil ?_ | refine c_cond_t rfl ?_ | refine c_cond_f rfl ?_ | refine c_skip ?_ | refine c_ret ?_ | refine p_then_ret ?_ | refine p_end ?_ | refine c_if_t rfl (by omega) ?_ | refine c_if_f rfl (by omega) ?_)
    refine t_q (q_slice (l0 := i + 1) (h0 := n + 1) (m0 := cap) (off' := i * 9 + 9) (n' := n - i) (c' := cap - (i + 1)) rfl (.some rfl (by omega) rfl) .none .none (by simp) (by omega) (by omega) (by omega) (by rw [if_neg (by omega)]; omega) (by omega) rfl) rfl rfl rfl ?_
    repeat (first | (show OpsS _ _ _ _ _ _ (_ :: _) _ _ _; first | refine ozq ?_) | refine c_seq ?_ | refine p_then ?_ | refine c_region ?_ | refine s_nil ?_ | refine c_cond_t rfl ?_ | refine c_cond_f rfl ?_ | refine c_skip ?_ | refine c_ret ?_ | refine p_then_ret ?_ | refine p_end ?_ | refine c_if_t rfl (by omega) ?_ | refine c_if_f rfl (by omega) ?_)
    have hl2 : (gb, Obj.cells (List.toArray (A ++ (B ++ sp))) 40 (0, 0)) ∈ (bl, .cells (List.toArray ws) 40 (0, 0)) :: (gb, Obj.cells (List.toArray (A ++ (B ++ sp))) 40 (0, 0)) :: F := .tail _ (.head _)
    refine t_q (q_overlaps (cl1 := List.toArray ws) (cl2 := List.toArray (A ++ (B ++ sp))) rfl rfl rfl ov_f ov_n ov_b ov_x 4 ov_e (.head _) hl2 (fun h => hgb h.symm) (by simp; omega)) rfl rfl rfl ?_
    refine s_keep (Keep.of_perm (l' := (gb, .cells (List.toArray (A ++ (B ++ sp))) 40 (0, 0)) :: ((bl, .cells (List.toArray ws) 40 (0, 0)) :: F)) (List.Perm.swap ..)) ?_
    repeat (first | (show OpsS _ _ _ _ _ _ (_ :: _) _ _ _; first | refine ozq ?_) | refine c_seq ?_ | refine p_then ?_ | refine c_region ?_ | refine s_nil ?_ | refine c_cond_t rfl ?_ | refine c_cond_f rfl ?_ | refine c_skip ?_ | refine c_ret ?_ | refine p_then_ret ?_ | refine p_end ?_ | refine c_if_t rfl (by omega) ?_ | refine c_if_f rfl (by omega) ?_)
    refine c_draw [(0, true), (1, true), (2, true), (3, true), (4, true), (5, true), (6, true), (7, true), (8, false)] [[], [], [], [1, 2], [0, 1, 2, 3], [], [], [5, 6], [0, 1, 2, 3, 4, 5, 6, 7]] ([]) (by kernel_rfl) (by kernel_rfl) (by (repeat (first | apply Attach.nil | (apply Attach.cons; · rfl)))) (List.Sublist.subset (by (repeat (first | with_reducible apply List.Sublist.refl | with_reducible apply List.nil_sublist | with_reducible apply List.Sublist.cons_cons | with_reducible apply List.Sublist.cons)))) ?_
    repeat (first | refine pl_nil ?_ | (show PlanS _ _ _ _ _ _ _ _ _ _ ((_, true, _) :: _) _ _ _; first | refine pzq ?_))
    apply pl_q
    · exact q_slice (l0 := i + 1) (h0 := n + 1) (m0 := cap) (off' := i * 9 + 9) (n' := n - i) (c' := cap - (i + 1)) rfl (.some rfl (by omega) rfl) .none .none (by simp) (by omega) (by omega) (by omega) (by rw [if_neg (by omega)]; omega) (by omega) rfl
    · rfl
    · rfl
    · rfl
    repeat (first | refine pl_nil ?_ | (show PlanS _ _ _ _ _ _ _ _ _ _ ((_, true, _) :: _) _ _ _; first | refine pzq ?_))
    apply pl_q
    · exact q_slice (l0 := i) (h0 := n + 1) (m0 := cap) (off' := i * 9) (n' := n + 1 - i) (c' := cap - i) rfl (.some rfl (by omega) rfl) .none .none (by simp) (by omega) (by omega) (by omega) (by rw [if_neg (by omega)]; omega) rfl rfl
    · rfl
    · rfl
    · rfl
    repeat (first | refine pl_nil ?_ | (show PlanS _ _ _ _ _ _ _ _ _ _ ((_, true, _) :: _) _ _ _; first | refine pzq ?_))
    apply pl_e
    · apply e_copyK (k := 9) (m := n - i) (cs := B) (cur := A ++ (B ++ sp))
      · rfl
      · rfl
      · show min (n + 1 - i) (n - i) = n - i; omega
      · omega
      · exact .head _
      · intro j u hj
        have hjl := (List.getElem?_eq_some_iff.1 hj).1
        rw [List.getElem?_toArray, List.getElem?_append_right (by omega), hAl, show i * 9 + j - i * 9 = j by omega, List.getElem?_append_left hjl]; exact hj
      · rw [List.length_append, List.length_append, hAl]; omega
      · exact hB1
    · rfl
    · rfl
    · rfl
    · intro _ _ _ c hc; cases hc
    rintro _ _ ⟨rfl, rfl⟩
    obtain ⟨Y, hY⟩ : ∃ Y, (B ++ sp).take 9 = Y := ⟨_, rfl⟩
    have hYl : Y.length = 9 := by rw [← hY, List.length_take, List.length_append]; omega
    have hD : (B ++ sp).drop (9 + B.length) = s2 := by
      rw [Nat.add_comm, ← List.drop_drop, List.drop_left' rfl, hs12, List.drop_left' hs1]
    have e3 : List.take (i * 9 + 9) (A ++ (B ++ sp)) ++ B ++ List.drop (i * 9 + 9 + B.length) (A ++ (B ++ sp)) = A ++ Y ++ (B ++ s2) := by
      rw [← hAl, Nat.add_assoc, List.drop_append, List.take_append, List.drop_of_length_le (by omega), List.take_of_length_le (by omega), Nat.add_sub_cancel_left, Nat.add_sub_cancel_left, hD, hY]
      simp
    rw [e3]
    repeat (first | refine pl_nil ?_ | (show PlanS _ _ _ _ _ _ _ _ _ _ ((_, true, _) :: _) _ _ _; first | refine pzq ?_))
    repeat (first | (show OpsS _ _ _ _ _ _ (_ :: _) _ _ _; first | refine ozq ?_) | refine c_seq ?_ | refine p_then ?_ | refine c_region ?_ | refine s_nil ?_ | refine c_cond_t rfl ?_ | refine c_cond_f rfl ?_ | refine c_skip ?_ | refine c_ret ?_ | refine p_then_ret ?_ | refine p_end ?_ | refine c_if_t rfl (by omega) ?_ | refine c_if_f rfl (by omega) ?_)
    refine t_q (q_slice (l0 := i) (h0 := n + 1) (m0 := cap) (off' := A.length) (n' := n + 1 - i) (c' := cap - i) rfl (.some rfl (by omega) rfl) .none .none (by simp) (by omega) (by omega) (by omega) (by rw [if_neg (by omega)]; omega) rfl rfl) rfl rfl rfl ?_
    repeat (first | (show OpsS _ _ _ _ _ _ (_ :: _) _ _ _; first | refine ozq ?_) | refine c_seq ?_ | refine p_then ?_ | refine c_region ?_ | refine s_nil ?_ | refine c_cond_t rfl ?_ | refine c_cond_f rfl ?_ | refine c_skip ?_ | refine c_ret ?_ | refine p_then_ret ?_ | refine p_end ?_ | refine c_if_t rfl (by omega) ?_ | refine c_if_f rfl (by omega) ?_)
    have hl3 : (bl, Obj.cells (List.toArray ws) 40 (0, 0)) ∈ (gb, Obj.cells (List.toArray (A ++ Y ++ (B ++ s2))) 40 (0, 0)) :: (bl, .cells (List.toArray ws) 40 (0, 0)) :: F := .tail _ (.head _)
    refine t_e (e_copyK (k := 9) (m := 1) (cs := ws) rfl rfl (by show min 1 (n + 1 - i) = 1; omega) hw hl3 (fun j u hj => by simpa using hj) (by simp only [List.length_append]; omega) h1) rfl rfl rfl ?_
    rintro _ _ ⟨rfl, rfl⟩
    rw [lay3 A _ _ ws (by rw [hw, hYl])]
    repeat (first | (show OpsS _ _ _ _ _ _ (_ :: _) _ _ _; first | refine ozq ?_) | refine c_seq ?_ | refine p_then ?_ | refine c_region ?_ | refine s_nil ?_ | refine c_cond_t rfl ?_ | refine c_cond_f rfl ?_ | refine c_skip ?_ | refine c_ret ?_ | refine p_then_ret ?_ | refine p_end ?_ | refine c_if_t rfl (by omega) ?_ | refine c_if_f rfl (by omega) ?_)
    rw [hs12, List.length_append] at hcl
    refine k_ret [] rfl (l' := (gb, .cells (List.toArray (A ++ ws ++ (B ++ s2))) 40 (0, 0)) :: F) (by ((try simp only [List.cons_append, List.nil_append, List.map_cons, List.map_nil]); repeat (first | with_reducible apply Keep.refl | (apply Keep.pick; · (repeat (first | apply Pick.here | apply Pick.there))) | apply Keep.drop))) (by (repeat (first | apply ResS.nil | (apply rs_tmp; (· rfl)) | (apply rs_cell1; (· rfl); (· ((repeat (first | with_reducible apply List.mem_cons_self | with_reducible apply List.mem_cons_of_mem)); try with_reducible assumption)); (· rfl)) | (apply rs_cellA; (· rfl); (· ((repeat (first | with_reducible apply List.mem_cons_self | with_reducible apply List.mem_cons_of_mem)); try with_reducible assumption)); (· (repeat (first | with_reducible apply LSub.done | with_reducible apply LSub.take | with_reducible apply LSub.drop))))))) ⟨[(gb, _)], ⟨?_, .inr ⟨gb, cap, s2, rfl, ?_, by omega, hcm, ?_⟩⟩, rfl⟩
    · rw [List.length_append, List.length_append]; omega
    · rw [List.append_assoc (A ++ ws)]
    · rw [List.length_append, List.length_append, List.length_append]; omega
end Go.Proofs.Ytmmohklaiffkmaa
