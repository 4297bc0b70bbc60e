/- The tree: All, Below. -/
import Derived.Test.YtidkpfkkljcnaaaU0
import Derived.Test.YtidkpfkkljcnaaaJ3
set_option linter.unusedVariables false
set_option linter.unusedSimpArgs false
namespace Go.Proofs.Ytidkpfkkljcnaaa
open Go.RowKit

abbrev nV (x : SlotT × Int) : List Value := [.int .i64 x.1.1, .int .i64 x.1.2, .int .i64 x.2]
def ncs (D : DT) : List Value := D.flatMap nV
def scs (L : List SlotT) : List Value := L.flatMap encT
theorem ncs_snoc (D : DT) (x : SlotT × Int) : ncs (D ++ [x]) = ncs D ++ nV x := by simp [ncs]
theorem scs_snoc (D : List SlotT) (x : SlotT) : scs (D ++ [x]) = scs D ++ encT x := by simp [scs]
theorem dOf_snoc (F : Nat → NdT) (pre : List Nat) (y : Nat) : dOf F (pre ++ [y]) = dOf F pre ++ [((F y).sl, (F y).dp)] := by simp [dOf]
def belowD (D : DT) (s : SlotT) : List SlotT := match splitD s D with
  | none => []
  | some (_, d, B) => (B.takeWhile fun x => decide (d < x.2)).map Prod.fst
set_option pp.deepTerms false
set_option pp.deepTerms.threshold 4
set_option maxHeartbeats 400000
theorem all_any (b : Nat) (D : DT) (lq : List Chunk) (hq : IsT b D lq) (hn : D.length ≤ 1000000) (l : List Chunk) (hsub : ∀ c, c ∈ lq → c ∈ l) :
    Fn Try.prog 12 [.pointer (some ⟨b, 0, none⟩)] l fun v l' => ∃ cs, OwnSl 31 3 v D.length (ncs D) cs ∧ l' = cs ++ l := by
  obtain ⟨rb, m, F, all, os, es, clock, rfl, hT⟩ := hq
  have hnl : os.length ≤ 1000000 := by simpa [dOf] using hn
  have h1 := hsub _ hT.m1
  have hnod : ∀ q, q ∈ rb :: os → ndC q (F q) ∈ l := fun q hq => by
    rcases List.mem_cons.1 hq with rfl | hq
    · exact hsub _ (hT.m3 hT.rin)
    · exact hsub _ (hT.m3 (hT.sub q hq))
  refine fn_of_body Try.func12 rfl rfl fun E => ?_
  simp only [argF, Try.ntmps12]
  repeat (first | (show OpsS _ _ _ _ _ _ (_ :: _) _ _ _; first | refine ozq ?_) | refine c_seq ?_ | refine p_then ?_ | refine c_region ?_ | refine s_nil ?_ | refine c_cond_t rfl ?_ | refine c_cond_f rfl ?_ | refine c_block ?_ | refine c_skip ?_ | refine p_block ?_ | refine p_block_here ?_ | refine p_block_on rfl ?_ | refine c_ret ?_ | refine p_then_ret ?_ | refine p_block_ret ?_ | refine p_end ?_ | refine c_if_t rfl (by omega) ?_ | refine c_if_f rfl (by omega) ?_)
  refine t_e e_alloc rfl rfl rfl ?_; rintro _ _ ⟨b3, _, rfl, rfl⟩
  repeat (first | (show OpsS _ _ _ _ _ _ (_ :: _) _ _ _; first | refine ozq ?_) | refine c_seq ?_ | refine p_then ?_ | refine c_region ?_ | refine s_nil ?_ | refine c_cond_t rfl ?_ | refine c_cond_f rfl ?_ | refine c_block ?_ | refine c_skip ?_ | refine p_block ?_ | refine p_block_here ?_ | refine p_block_on rfl ?_ | refine c_ret ?_ | refine p_then_ret ?_ | refine p_block_ret ?_ | refine p_end ?_ | refine c_if_t rfl (by omega) ?_ | refine c_if_f rfl (by omega) ?_)
  refine t_e (e_call rfl rfl (behind_any _ _ _)) rfl rfl rfl ?_
  rintro v l' ⟨C1, C2, rfl, rfl⟩
  repeat (first | (show OpsS _ _ _ _ _ _ (_ :: _) _ _ _; first | refine ozq ?_) | refine c_seq ?_ | refine p_then ?_ | refine c_region ?_ | refine s_nil ?_ | refine c_cond_t rfl ?_ | refine c_cond_f rfl ?_ | refine c_block ?_ | refine c_skip ?_ | refine p_block ?_ | refine p_block_here ?_ | refine p_block_on rfl ?_ | refine c_ret ?_ | refine p_then_ret ?_ | refine p_block_ret ?_ | refine p_end ?_ | refine c_if_t rfl (by omega) ?_ | refine c_if_f rfl (by omega) ?_)
  refine c_range (α := Nat) (ps := [13]) (lb := [.pointer (some ⟨C1, 0, none⟩), .pointer (some ⟨C2, 0, none⟩)]) rfl (behind_iter C1 C2 b rb m rb F all os es clock lq hT [] os rfl) (fun _ => rfl) rfl
    (fun pre l => ∃ v cs, OwnSl 31 3 v pre.length (ncs (dOf F pre)) cs ∧ l = [bxL C1 rb, bxT C2 b, (b3, .cells #[v] 26 (0, 0))] ++ cs)
    (fun c pre l => False)
    _ l (fun pre l2 X2 hX h => by obtain ⟨v, cs, _, rfl⟩ := h; exact ⟨.head _, .tail _ (.head _), List.mem_append_right _ (hX _ h1), fun q hq => ⟨F q, List.mem_append_right _ (hX _ (hnod q hq)), rfl⟩⟩) (by ((try simp only [List.cons_append, List.nil_append, List.map_cons, List.map_nil]); repeat (first | with_reducible apply Keep.refl | (apply Keep.pick; · (repeat (first | apply Pick.here | apply Pick.there))) | apply Keep.drop))) ⟨_, [], OwnSl.nil _ _, rfl⟩ ?_ ?_ ?_
  · rintro E r0 rec pre y l' T ⟨fn, tmps, Dd, rfl⟩ hT0 ⟨v, cs', hown, rfl⟩ hsp
    have hy : y ∈ rb :: os := List.mem_cons_of_mem _ (hsp.subset (by simp))
    have hyT := hT0 _ (hnod y hy)
    have hpl : pre.length ≤ 1000000 := by have := hsp.length_le; simp at this; omega
    simp only [putPs, List.cons_append, List.nil_append]
    repeat (first | (show OpsS _ _ _ _ _ _ (_ :: _) _ _ _; first | refine ozq ?_) | refine c_seq ?_ | refine p_then ?_ | refine c_region ?_ | refine s_nil ?_ | refine c_cond_t rfl ?_ | refine c_cond_f rfl ?_ | refine c_block ?_ | refine c_skip ?_ | refine p_block ?_ | refine p_block_here ?_ | refine p_block_on rfl ?_ | refine c_ret ?_ | refine p_then_ret ?_ | refine p_block_ret ?_ | refine p_end ?_ | refine c_if_t rfl (by omega) ?_ | refine c_if_f rfl (by omega) ?_)
    refine p_begin (.there (.there (.there (upd_mid _ _ _ _ _)))) ?_
    generalize hX1 : (r0, Obj.loop (recOf fn tmps _ _ _ Dd .busy none)) :: T = X1
    have hyX : ndC y (F y) ∈ X1 := by rw [← hX1]; exact .tail _ hyT
    repeat (first | (show OpsS _ _ _ _ _ _ (_ :: _) _ _ _; first | refine ozq ?_) | refine c_seq ?_ | refine p_then ?_ | refine c_region ?_ | refine s_nil ?_ | refine c_cond_t rfl ?_ | refine c_cond_f rfl ?_ | refine c_block ?_ | refine c_skip ?_ | refine p_block ?_ | refine p_block_here ?_ | refine p_block_on rfl ?_ | refine c_ret ?_ | refine p_then_ret ?_ | refine p_block_ret ?_ | refine p_end ?_ | refine c_if_t rfl (by omega) ?_ | refine c_if_f rfl (by omega) ?_)
    refine c_draw [(0, true), (1, true), (2, true), (3, true), (4, true), (5, true), (6, true), (7, true), (8, true), (9, true), (10, false), (11, false), (12, false)] [[], [], [1], [1, 2], [1, 2, 3], [], [5], [5, 6], [5, 6, 7], [1, 2, 3, 4, 5, 6, 7, 8], [1, 2, 3, 4, 5, 6, 7, 8, 9], [0, 1, 2, 3, 4, 5, 6, 7, 8, 9, 10], [0, 1, 2, 3, 4, 5, 6, 7, 8, 9, 10, 11]] ([]) (by kernel_rfl) (by kernel_rfl) (by (repeat (first | apply Attach.nil | (apply Attach.cons; · rfl)))) (List.Sublist.subset (by (repeat (first | with_reducible apply List.Sublist.refl | with_reducible apply List.nil_sublist | with_reducible apply List.Sublist.cons_cons | with_reducible apply List.Sublist.cons)))) ?_
    repeat (first | refine pl_nil ?_ | (show PlanS _ _ _ _ _ _ _ _ _ _ ((_, true, _) :: _) _ _ _; first | refine pzq ?_) | (show PlanS _ _ _ _ _ _ _ _ none [] ((_, false, _) :: _) _ _ _; first | refine pzn ?_ | refine pze ?_))
    apply pl_s (S := [(b3, .cells #[v] 26 (0, 0))])
    · exact q_load rfl (.head _) rfl
    · intro c hc; cases hc with
      | head => exact .tail _ (.tail _ (.head _))
      | tail _ h => cases h
    · rfl
    · rfl
    · rfl
    repeat (first | refine pl_nil ?_ | (show PlanS _ _ _ _ _ _ _ _ _ _ ((_, true, _) :: _) _ _ _; first | refine pzq ?_) | (show PlanS _ _ _ _ _ _ _ _ none [] ((_, false, _) :: _) _ _ _; first | refine pzn ?_ | refine pze ?_))
    apply pl_s (S := [ndC y (F y)])
    · exact q_loadL rfl (.head _) (by (repeat (first | with_reducible apply LSub.done | with_reducible apply LSub.take | with_reducible apply LSub.drop)))
    · intro c hc; cases hc with
      | head => exact .tail _ (.tail _ (.tail _ (List.mem_append_right _ hyX)))
      | tail _ h => cases h
    · rfl
    · rfl
    · rfl
    repeat (first | refine pl_nil ?_ | (show PlanS _ _ _ _ _ _ _ _ _ _ ((_, true, _) :: _) _ _ _; first | refine pzq ?_) | (show PlanS _ _ _ _ _ _ _ _ none [] ((_, false, _) :: _) _ _ _; first | refine pzn ?_ | refine pze ?_))
    apply pl_s (S := [ndC y (F y)])
    · exact q_load rfl (.head _) rfl
    · intro c hc; cases hc with
      | head => exact .tail _ (.tail _ (.tail _ (List.mem_append_right _ hyX)))
      | tail _ h => cases h
    · rfl
    · rfl
    · rfl
    repeat (first | refine pl_nil ?_ | (show PlanS _ _ _ _ _ _ _ _ _ _ ((_, true, _) :: _) _ _ _; first | refine pzq ?_) | (show PlanS _ _ _ _ _ _ _ _ none [] ((_, false, _) :: _) _ _ _; first | refine pzn ?_ | refine pze ?_))
    apply pl_eS
    · apply e_litA (ws := nV ((F y).sl, (F y).dp)) (k := 3)
      · rfl
      · rfl
      · rfl
      · decide
      · decide
    · rfl
    · rfl
    · rfl
    · intro _ _ _ c hc; cases hc
    · rintro _ _ ⟨bl, _, rfl, rfl⟩ x hx _ c hc
      have h3 : ∀ o : Obj, (b3, o) ∈ (bl, Obj.cells (List.toArray (nV ((F y).sl, (F y).dp))) 31 (0, 0)) :: bxL C1 rb :: bxT C2 b :: (b3, o) :: (cs' ++ X1) := fun o => .tail _ (.tail _ (.tail _ (.head _)))
      simp only [List.mem_cons, List.not_mem_nil, or_false] at hx
      rcases hx with rfl | rfl | rfl <;> simp only [List.mem_cons, List.not_mem_nil, or_false] at hc <;> subst hc
      · exact .tail _ (.tail _ (.tail _ (.tail _ (List.mem_append_right _ hyX))))
      · exact .tail _ (.tail _ (.tail _ (.tail _ (List.mem_append_right _ hyX))))
      · exact h3 _
    rintro _ _ ⟨bl, _, rfl, rfl⟩
    repeat (first | refine pl_nil ?_ | (show PlanS _ _ _ _ _ _ _ _ _ _ ((_, true, _) :: _) _ _ _; first | refine pzq ?_) | (show PlanS _ _ _ _ _ _ _ _ none [] ((_, false, _) :: _) _ _ _; first | refine pzn ?_ | refine pze ?_))
    apply pl_eS
    · apply e_appX (k := 3) (X := [bxL C1 rb, bxT C2 b, (b3, .cells #[v] 26 (0, 0))]) (cs := cs') (xs := ncs (dOf F pre)) (n := pre.length) (zs := [.int .i64 0, .int .i64 0, .int .i64 0]) (ws := nV ((F y).sl, (F y).dp))
      · rfl
      · rfl
      · rfl
      · exact hown
      · rfl
      · simp [Value.oneCell']
      · omega
      · decide
    · rfl
    · rfl
    · rfl
    · intro _ _ _ c hc; cases hc
    · exact fun _ _ _ x hx ha => anc_all (by kernel_rfl) hx ha
    rintro v' _ ⟨c2, ho2, rfl⟩
    have hv1 : v'.oneCell' = true := ho2.one
    simp only [List.cons_append, List.nil_append]
    apply pl_nS
    · apply e_storeL (cs := [v])
      · rfl
      · rfl
      · exact hv1
      · ((repeat (first | with_reducible apply List.mem_cons_self | with_reducible apply List.mem_cons_of_mem)); try with_reducible assumption)
      · exact .zero
      · (repeat (first | apply Upd.here | apply Upd.there))
    · rfl
    · rfl
    · intro _ _ _ c hc; cases hc
    · exact fun _ _ _ x hx ha => anc_all (by kernel_rfl) hx ha
    rintro _ _ ⟨rfl, rfl⟩
    repeat (first | refine pl_nil ?_ | (show PlanS _ _ _ _ _ _ _ _ _ _ ((_, true, _) :: _) _ _ _; first | refine pzq ?_) | (show PlanS _ _ _ _ _ _ _ _ none [] ((_, false, _) :: _) _ _ _; first | refine pzn ?_ | refine pze ?_))
    repeat (first | (show OpsS _ _ _ _ _ _ (_ :: _) _ _ _; first | refine ozq ?_) | refine c_seq ?_ | refine p_then ?_ | refine c_region ?_ | refine s_nil ?_ | refine c_cond_t rfl ?_ | refine c_cond_f rfl ?_ | refine c_block ?_ | refine c_skip ?_ | refine p_block ?_ | refine p_block_here ?_ | refine p_block_on rfl ?_ | refine c_ret ?_ | refine p_then_ret ?_ | refine p_block_ret ?_ | refine p_end ?_ | refine c_if_t rfl (by omega) ?_ | refine c_if_f rfl (by omega) ?_)
    rw [← hX1]
    refine p_round _ (.refl) ⟨v', c2, ?_, rfl⟩
    rw [dOf_snoc, ncs_snoc, List.length_append]; exact ho2
  · rintro Dd xs l' rfl ⟨v, cs', hown, rfl⟩
    have hv1 : v.oneCell' = true := hown.one
    simp only [List.cons_append, List.nil_append]
    repeat (first | (show OpsS _ _ _ _ _ _ (_ :: _) _ _ _; first | refine ozq ?_) | refine c_seq ?_ | refine p_then ?_ | refine c_region ?_ | refine s_nil ?_ | refine c_cond_t rfl ?_ | refine c_cond_f rfl ?_ | refine c_block ?_ | refine c_skip ?_ | refine p_block ?_ | refine p_block_here ?_ | refine p_block_on rfl ?_ | refine c_ret ?_ | refine p_then_ret ?_ | refine p_block_ret ?_ | refine p_end ?_ | refine c_if_t rfl (by omega) ?_ | refine c_if_f rfl (by omega) ?_)
    refine k_ret2 [Dd] (cs' ++ l) rfl (l' := cs' ++ l) (by ((try simp only [List.cons_append, List.nil_append, List.map_cons, List.map_nil]); repeat (first | with_reducible apply Keep.refl | (apply Keep.pick; · (repeat (first | apply Pick.here | apply Pick.there))) | apply Keep.drop))) (by (repeat (first | apply ResS.nil | (apply rs_tmp; (· rfl)) | (apply rs_cell1; (· rfl); (· ((repeat (first | with_reducible apply List.mem_cons_self | with_reducible apply List.mem_cons_of_mem)); try with_reducible assumption)); (· rfl)) | (apply rs_cellA; (· rfl); (· ((repeat (first | with_reducible apply List.mem_cons_self | with_reducible apply List.mem_cons_of_mem)); try with_reducible assumption)); (· (repeat (first | with_reducible apply LSub.done | with_reducible apply LSub.take | with_reducible apply LSub.drop))))))) .refl ?_
    exact ⟨cs', by rw [show (dOf F xs).length = xs.length by simp [dOf]]; exact hown, rfl⟩
  · rintro Dd c pre l' hsp h
    exact h.elim
theorem all_nil (l : List Chunk) : Fn Try.prog 12 [.pointer none] l fun v l' => v = .slice none 0 0 ∧ l' = l := by
  refine fn_of_body Try.func12 rfl rfl fun E => ?_
  simp only [argF, Try.ntmps12]
  repeat (first | (show OpsS _ _ _ _ _ _ (_ :: _) _ _ _; first | refine ozq ?_) | refine c_seq ?_ | refine p_then ?_ | refine c_region ?_ | refine s_nil ?_ | refine c_cond_t rfl ?_ | refine c_cond_f rfl ?_ | refine c_block ?_ | refine c_skip ?_ | refine p_block ?_ | refine p_block_here ?_ | refine p_block_on rfl ?_ | refine c_ret ?_ | refine p_then_ret ?_ | refine p_block_ret ?_ | refine p_end ?_ | refine c_if_t rfl (by omega) ?_ | refine c_if_f rfl (by omega) ?_)
  exact k_ret [] rfl .refl (by (repeat (first | apply ResS.nil | (apply rs_tmp; (· rfl)) | (apply rs_cell1; (· rfl); (· ((repeat (first | with_reducible apply List.mem_cons_self | with_reducible apply List.mem_cons_of_mem)); try with_reducible assumption)); (· rfl)) | (apply rs_cellA; (· rfl); (· ((repeat (first | with_reducible apply List.mem_cons_self | with_reducible apply List.mem_cons_of_mem)); try with_reducible assumption)); (· (repeat (first | with_reducible apply LSub.done | with_reducible apply LSub.take | with_reducible apply LSub.drop))))))) ⟨rfl, rfl⟩
theorem below_take {F : Nat → NdT} {d : Int} : ∀ (B : List Nat), ((dOf F B).takeWhile fun x => decide (d < x.2)).map Prod.fst = (B.takeWhile fun q => decide (d < (F q).dp)).map fun q => (F q).sl
  | [] => rfl
  | q :: B => by
    show (List.takeWhile _ (((F q).sl, (F q).dp) :: dOf F B)).map Prod.fst = _
    rw [List.takeWhile_cons, List.takeWhile_cons]
    by_cases h : d < (F q).dp
    · rw [decide_eq_true h]
      show _ :: List.map Prod.fst _ = _ :: List.map _ _
      rw [below_take B]
    · rw [decide_eq_false h]; rfl
theorem belowOf_any (b : Nat) (D : DT) (lq : List Chunk) (hq : IsT b D lq) (hn : D.length ≤ 1000000) (s : SlotT) (l : List Chunk) (hsub : ∀ c, c ∈ lq → c ∈ l) :
    Fn Try.prog 22 [.pointer (some ⟨b, 0, none⟩), .agg (List.toArray (encT s))] l fun v l' => ∃ cs, OwnSl 29 2 v (belowD D s).length (scs (belowD D s)) cs ∧ l' = cs ++ l := by
  obtain ⟨rb, m, F, all, os, es, clock, rfl, hT⟩ := hq
  have hnl : os.length ≤ 1000000 := by simpa [dOf] using hn
  have h1 := hsub _ hT.m1
  have hnod : ∀ q, q ∈ rb :: os → ndC q (F q) ∈ l := fun q hq => by
    rcases List.mem_cons.1 hq with rfl | hq
    · exact hsub _ (hT.m3 hT.rin)
    · exact hsub _ (hT.m3 (hT.sub q hq))
  refine fn_of_body Try.func22 rfl rfl fun E => ?_
  simp only [argF, Try.ntmps22]
  repeat (first | (show OpsS _ _ _ _ _ _ (_ :: _) _ _ _; first | refine ozq ?_) | refine c_seq ?_ | refine p_then ?_ | refine c_region ?_ | refine s_nil ?_ | refine c_cond_t rfl ?_ | refine c_cond_f rfl ?_ | refine c_block ?_ | refine c_skip ?_ | refine p_block ?_ | refine p_block_here ?_ | refine p_block_on rfl ?_ | refine c_ret ?_ | refine p_then_ret ?_ | refine p_block_ret ?_ | refine p_end ?_ | refine c_if_t rfl (by omega) ?_ | refine c_if_f rfl (by omega) ?_)
  refine t_e (e_boxA rfl) rfl rfl rfl ?_
  rintro _ _ ⟨b0, hb0, rfl, rfl⟩
  repeat (first | (show OpsS _ _ _ _ _ _ (_ :: _) _ _ _; first | refine ozq ?_) | refine c_seq ?_ | refine p_then ?_ | refine c_region ?_ | refine s_nil ?_ | refine c_cond_t rfl ?_ | refine c_cond_f rfl ?_ | refine c_block ?_ | refine c_skip ?_ | refine p_block ?_ | refine p_block_here ?_ | refine p_block_on rfl ?_ | refine c_ret ?_ | refine p_then_ret ?_ | refine p_block_ret ?_ | refine p_end ?_ | refine c_if_t rfl (by omega) ?_ | refine c_if_f rfl (by omega) ?_)
  refine t_q (q_call (R := (b0, Obj.cells (List.toArray (encT s)) 29 (0, 0)) :: l) rfl rfl fun l2 hl2 => of_any b rb m F all os es clock lq s hT l2 fun c hc => hl2 c (.tail _ (hsub c hc))) rfl rfl rfl ?_
  cases hbk : blk F os s with
  | none =>
    have e : belowD (dOf F os) s = [] := by unfold belowD; rw [split_none hbk]
    rw [e]
    repeat (first | (show OpsS _ _ _ _ _ _ (_ :: _) _ _ _; first | refine ozq ?_) | refine c_seq ?_ | refine p_then ?_ | refine c_region ?_ | refine s_nil ?_ | refine c_cond_t rfl ?_ | refine c_cond_f rfl ?_ | refine c_block ?_ | refine c_skip ?_ | refine p_block ?_ | refine p_block_here ?_ | refine p_block_on rfl ?_ | refine c_ret ?_ | refine p_then_ret ?_ | refine p_block_ret ?_ | refine p_end ?_ | refine c_if_t rfl (by omega) ?_ | refine c_if_f rfl (by omega) ?_)
    exact k_ret [] rfl (.drop .refl) (by (repeat (first | apply ResS.nil | (apply rs_tmp; (· rfl)) | (apply rs_cell1; (· rfl); (· ((repeat (first | with_reducible apply List.mem_cons_self | with_reducible apply List.mem_cons_of_mem)); try with_reducible assumption)); (· rfl)) | (apply rs_cellA; (· rfl); (· ((repeat (first | with_reducible apply List.mem_cons_self | with_reducible apply List.mem_cons_of_mem)); try with_reducible assumption)); (· (repeat (first | with_reducible apply LSub.done | with_reducible apply LSub.take | with_reducible apply LSub.drop))))))) ⟨[], OwnSl.nil _ _, rfl⟩
  | some p =>
    obtain ⟨Ao, Bo, rfl, hsd⟩ := split_blk hbk
    have e : belowD (dOf F (Ao ++ p :: Bo)) s = (Bo.takeWhile fun q => decide ((F p).dp < (F q).dp)).map fun q => (F q).sl := by unfold belowD; rw [hsd]; exact below_take Bo
    rw [e]
    simp only [ptrO]
    repeat (first | (show OpsS _ _ _ _ _ _ (_ :: _) _ _ _; first | refine ozq ?_) | refine c_seq ?_ | refine p_then ?_ | refine c_region ?_ | refine s_nil ?_ | refine c_cond_t rfl ?_ | refine c_cond_f rfl ?_ | refine c_block ?_ | refine c_skip ?_ | refine p_block ?_ | refine p_block_here ?_ | refine p_block_on rfl ?_ | refine c_ret ?_ | refine p_then_ret ?_ | refine p_block_ret ?_ | refine p_end ?_ | refine c_if_t rfl (by omega) ?_ | refine c_if_f rfl (by omega) ?_)
    refine t_e e_alloc rfl rfl rfl ?_; rintro _ _ ⟨b6, _, rfl, rfl⟩
    repeat (first | (show OpsS _ _ _ _ _ _ (_ :: _) _ _ _; first | refine ozq ?_) | refine c_seq ?_ | refine p_then ?_ | refine c_region ?_ | refine s_nil ?_ | refine c_cond_t rfl ?_ | refine c_cond_f rfl ?_ | refine c_block ?_ | refine c_skip ?_ | refine p_block ?_ | refine p_block_here ?_ | refine p_block_on rfl ?_ | refine c_ret ?_ | refine p_then_ret ?_ | refine p_block_ret ?_ | refine p_end ?_ | refine c_if_t rfl (by omega) ?_ | refine c_if_f rfl (by omega) ?_)
    refine t_e (e_call rfl rfl (below_any _ _ _)) rfl rfl rfl ?_
    rintro v l' ⟨C1, C2, rfl, rfl⟩
    repeat (first | (show OpsS _ _ _ _ _ _ (_ :: _) _ _ _; first | refine ozq ?_) | refine c_seq ?_ | refine p_then ?_ | refine c_region ?_ | refine s_nil ?_ | refine c_cond_t rfl ?_ | refine c_cond_f rfl ?_ | refine c_block ?_ | refine c_skip ?_ | refine p_block ?_ | refine p_block_here ?_ | refine p_block_on rfl ?_ | refine c_ret ?_ | refine p_then_ret ?_ | refine p_block_ret ?_ | refine p_end ?_ | refine c_if_t rfl (by omega) ?_ | refine c_if_f rfl (by omega) ?_)
    refine c_range (α := Nat) (ps := [16]) (lb := [.pointer (some ⟨C2, 0, none⟩), .pointer (some ⟨C1, 0, none⟩)]) rfl (below_iter C1 C2 b rb m p F all (Ao ++ p :: Bo) es clock lq hT (rb :: Ao) Bo rfl) (fun _ => rfl) rfl
      (fun pre l => ∃ v cs, OwnSl 29 2 v pre.length (scs (pre.map fun q => (F q).sl)) cs ∧ l = [bxL C1 p, bxT C2 b, (b6, .cells #[v] 41 (0, 0))] ++ cs)
      (fun c pre l => False)
      _ l (fun pre l2 X2 hX h => by obtain ⟨v, cs, _, rfl⟩ := h; exact ⟨.head _, .tail _ (.head _), List.mem_append_right _ (hX _ h1), fun q hq => ⟨F q, List.mem_append_right _ (hX _ (hnod q hq)), rfl, fun _ => rfl⟩⟩) (by ((try simp only [List.cons_append, List.nil_append, List.map_cons, List.map_nil]); repeat (first | with_reducible apply Keep.refl | (apply Keep.pick; · (repeat (first | apply Pick.here | apply Pick.there))) | apply Keep.drop))) ⟨_, [], OwnSl.nil _ _, rfl⟩ ?_ ?_ ?_
    · rintro E r0 rec pre y l' T ⟨fn, tmps, Dd, rfl⟩ hT0 ⟨v, cs', hown, rfl⟩ hsp
      have hy : y ∈ rb :: (Ao ++ p :: Bo) := List.mem_cons_of_mem _ (List.mem_append_right _ (List.mem_cons_of_mem _ ((List.takeWhile_prefix _).subset (hsp.subset (by simp)))))
      have hyT := hT0 _ (hnod y hy)
      have hpl : pre.length ≤ 1000000 := by have h1 := hsp.length_le; have h2 := (List.takeWhile_prefix (l := Bo) fun q => decide ((F p).dp < (F q).dp)).length_le; simp at h1 hnl; omega
      simp only [putPs, List.cons_append, List.nil_append]
      repeat (first | (show OpsS _ _ _ _ _ _ (_ :: _) _ _ _; first | refine ozq ?_) | refine c_seq ?_ | refine p_then ?_ | refine c_region ?_ | refine s_nil ?_ | refine c_cond_t rfl ?_ | refine c_cond_f rfl ?_ | refine c_block ?_ | refine c_skip ?_ | refine p_block ?_ | refine p_block_here ?_ | refine p_block_on rfl ?_ | refine c_ret ?_ | refine p_then_ret ?_ | refine p_block_ret ?_ | refine p_end ?_ | refine c_if_t rfl (by omega) ?_ | refine c_if_f rfl (by omega) ?_)
      refine p_begin (.there (.there (.there (upd_mid _ _ _ _ _)))) ?_
      generalize hX1 : (r0, Obj.loop (recOf fn tmps _ _ _ Dd .busy none)) :: T = X1
      have hyX : ndC y (F y) ∈ X1 := by rw [← hX1]; exact .tail _ hyT
      repeat (first | (show OpsS _ _ _ _ _ _ (_ :: _) _ _ _; first | refine ozq ?_) | refine c_seq ?_ | refine p_then ?_ | refine c_region ?_ | refine s_nil ?_ | refine c_cond_t rfl ?_ | refine c_cond_f rfl ?_ | refine c_block ?_ | refine c_skip ?_ | refine p_block ?_ | refine p_block_here ?_ | refine p_block_on rfl ?_ | refine c_ret ?_ | refine p_then_ret ?_ | refine p_block_ret ?_ | refine p_end ?_ | refine c_if_t rfl (by omega) ?_ | refine c_if_f rfl (by omega) ?_)
      refine c_draw [(0, true), (1, true), (2, true), (3, true), (4, true), (5, false), (6, false), (7, false)] [[], [], [1], [1, 2], [1, 2, 3], [1, 2, 3, 4], [0, 1, 2, 3, 4, 5], [0, 1, 2, 3, 4, 5, 6]] ([]) (by kernel_rfl) (by kernel_rfl) (by (repeat (first | apply Attach.nil | (apply Attach.cons; · rfl)))) (List.Sublist.subset (by (repeat (first | with_reducible apply List.Sublist.refl | with_reducible apply List.nil_sublist | with_reducible apply List.Sublist.cons_cons | with_reducible apply List.Sublist.cons)))) ?_
      repeat (first | refine pl_nil ?_ | (show PlanS _ _ _ _ _ _ _ _ _ _ ((_, true, _) :: _) _ _ _; first | refine pzq ?_) | (show PlanS _ _ _ _ _ _ _ _ none [] ((_, false, _) :: _) _ _ _; first | refine pzn ?_ | refine pze ?_))
      apply pl_s (S := [(b6, .cells #[v] 41 (0, 0))])
      · exact q_load rfl (.head _) rfl
      · intro c hc; cases hc with
        | head => exact .tail _ (.tail _ (.head _))
        | tail _ h => cases h
      · rfl
      · rfl
      · rfl
      repeat (first | refine pl_nil ?_ | (show PlanS _ _ _ _ _ _ _ _ _ _ ((_, true, _) :: _) _ _ _; first | refine pzq ?_) | (show PlanS _ _ _ _ _ _ _ _ none [] ((_, false, _) :: _) _ _ _; first | refine pzn ?_ | refine pze ?_))
      apply pl_s (S := [ndC y (F y)])
      · exact q_loadL rfl (.head _) (by (repeat (first | with_reducible apply LSub.done | with_reducible apply LSub.take | with_reducible apply LSub.drop)))
      · intro c hc; cases hc with
        | head => exact .tail _ (.tail _ (.tail _ (List.mem_append_right _ hyX)))
        | tail _ h => cases h
      · rfl
      · rfl
      · rfl
      repeat (first | refine pl_nil ?_ | (show PlanS _ _ _ _ _ _ _ _ _ _ ((_, true, _) :: _) _ _ _; first | refine pzq ?_) | (show PlanS _ _ _ _ _ _ _ _ none [] ((_, false, _) :: _) _ _ _; first | refine pzn ?_ | refine pze ?_))
      apply pl_eS
      · apply e_litA (ws := encT (F y).sl) (k := 2)
        · rfl
        · rfl
        · rfl
        · decide
        · decide
      · rfl
      · rfl
      · rfl
      · intro _ _ _ c hc; cases hc
      · rintro _ _ ⟨bl, _, rfl, rfl⟩ x hx _ c hc
        have h3 : ∀ o : Obj, (b6, o) ∈ (bl, Obj.cells (List.toArray (encT (F y).sl)) 29 (0, 0)) :: bxL C1 p :: bxT C2 b :: (b6, o) :: (cs' ++ X1) := fun o => .tail _ (.tail _ (.tail _ (.head _)))
        simp only [List.mem_cons, List.not_mem_nil, or_false] at hx
        rcases hx with rfl | rfl <;> simp only [List.mem_cons, List.not_mem_nil, or_false] at hc <;> subst hc
        · exact .tail _ (.tail _ (.tail _ (.tail _ (List.mem_append_right _ hyX))))
        · exact h3 _
      rintro _ _ ⟨bl, _, rfl, rfl⟩
      repeat (first | refine pl_nil ?_ | (show PlanS _ _ _ _ _ _ _ _ _ _ ((_, true, _) :: _) _ _ _; first | refine pzq ?_) | (show PlanS _ _ _ _ _ _ _ _ none [] ((_, false, _) :: _) _ _ _; first | refine pzn ?_ | refine pze ?_))
      apply pl_eS
      · apply e_appX (k := 2) (X := [bxL C1 p, bxT C2 b, (b6, .cells #[v] 41 (0, 0))]) (cs := cs') (xs := scs (pre.map fun q => (F q).sl)) (n := pre.length) (zs := [.int .i64 0, .int .i64 0]) (ws := encT (F y).sl)
        · rfl
        · rfl
        · rfl
        · exact hown
        · rfl
        · simp [Value.oneCell']
        · omega
        · decide
      · rfl
      · rfl
      · rfl
      · intro _ _ _ c hc; cases hc
      · exact fun _ _ _ x hx ha => anc_all (by kernel_rfl) hx ha
      rintro v' _ ⟨c2, ho2, rfl⟩
      have hv1 : v'.oneCell' = true := ho2.one
      simp only [List.cons_append, List.nil_append]
      apply pl_nS
      · apply e_storeL (cs := [v])
        · rfl
        · rfl
        · exact hv1
        · ((repeat (first | with_reducible apply List.mem_cons_self | with_reducible apply List.mem_cons_of_mem)); try with_reducible assumption)
        · exact .zero
        · (repeat (first | apply Upd.here | apply Upd.there))
      · rfl
      · rfl
      · intro _ _ _ c hc; cases hc
      · exact fun _ _ _ x hx ha => anc_all (by kernel_rfl) hx ha
      rintro _ _ ⟨rfl, rfl⟩
      repeat (first | refine pl_nil ?_ | (show PlanS _ _ _ _ _ _ _ _ _ _ ((_, true, _) :: _) _ _ _; first | refine pzq ?_) | (show PlanS _ _ _ _ _ _ _ _ none [] ((_, false, _) :: _) _ _ _; first | refine pzn ?_ | refine pze ?_))
      repeat (first | (show OpsS _ _ _ _ _ _ (_ :: _) _ _ _; first | refine ozq ?_) | refine c_seq ?_ | refine p_then ?_ | refine c_region ?_ | refine s_nil ?_ | refine c_cond_t rfl ?_ | refine c_cond_f rfl ?_ | refine c_block ?_ | refine c_skip ?_ | refine p_block ?_ | refine p_block_here ?_ | refine p_block_on rfl ?_ | refine c_ret ?_ | refine p_then_ret ?_ | refine p_block_ret ?_ | refine p_end ?_ | refine c_if_t rfl (by omega) ?_ | refine c_if_f rfl (by omega) ?_)
      rw [← hX1]
      refine p_round _ (.refl) ⟨v', c2, ?_, rfl⟩
      rw [List.map_append, List.map_cons, List.map_nil, scs_snoc, List.length_append]; exact ho2
    · rintro Dd xs l' rfl ⟨v, cs', hown, rfl⟩
      have hv1 : v.oneCell' = true := hown.one
      simp only [List.cons_append, List.nil_append]
      repeat (first | (show OpsS _ _ _ _ _ _ (_ :: _) _ _ _; first | refine ozq ?_) | refine c_seq ?_ | refine p_then ?_ | refine c_region ?_ | refine s_nil ?_ | refine c_cond_t rfl ?_ | refine c_cond_f rfl ?_ | refine c_block ?_ | refine c_skip ?_ | refine p_block ?_ | refine p_block_here ?_ | refine p_block_on rfl ?_ | refine c_ret ?_ | refine p_then_ret ?_ | refine p_block_ret ?_ | refine p_end ?_ | refine c_if_t rfl (by omega) ?_ | refine c_if_f rfl (by omega) ?_)
      refine k_ret2 [Dd] (cs' ++ l) rfl (l' := cs' ++ l) (by ((try simp only [List.cons_append, List.nil_append, List.map_cons, List.map_nil]); repeat (first | with_reducible apply Keep.refl | (apply Keep.pick; · (repeat (first | apply Pick.here | apply Pick.there))) | apply Keep.drop))) (by (repeat (first | apply ResS.nil | (apply rs_tmp; (· rfl)) | (apply rs_cell1; (· rfl); (· ((repeat (first | with_reducible apply List.mem_cons_self | with_reducible apply List.mem_cons_of_mem)); try with_reducible assumption)); (· rfl)) | (apply rs_cellA; (· rfl); (· ((repeat (first | with_reducible apply List.mem_cons_self | with_reducible apply List.mem_cons_of_mem)); try with_reducible assumption)); (· (repeat (first | with_reducible apply LSub.done | with_reducible apply LSub.take | with_reducible apply LSub.drop))))))) .refl ?_
      exact ⟨cs', by rw [List.length_map]; exact hown, rfl⟩
    · rintro Dd c pre l' hsp h
      exact h.elim
end Go.Proofs.Ytidkpfkkljcnaaa
