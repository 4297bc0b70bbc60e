/- The tree: All, Below. The tree: Root, Child, Has and those of no tree. The tree: Parent, Move. The tree: Move, Remove. The tree: Remove. The tree: Swap. The tree's plain law: acts, depths, slots. hold as plain data: the slots and the tree; what each call does; what stays so. Laws that the statement's proof leans on. -/
import Derived.Test.YtpplknmmjlgadaaGz4
import Derived.Test.YtpplknmmjlgadaaGz6
import Derived.Test.YtpplknmmjlgadaaGz5
/- The tree: All, Below. -/
set_option linter.unusedVariables false
set_option linter.unusedSimpArgs false
namespace Go.Proofs.Ytpplknmmjlgadaa.Tr
open Go.RowKit
set_option maxRecDepth 20000
set_option maxRecDepth 20000

abbrev nV (x : SlotT × Int) : List Value := [.int .i64 x.1.1, .int .i64 x.1.2, .int .i64 x.2]
def ncs (D : DT) : List Value := D.flatMap nV
def scs (L : List SlotT) : List Value := L.flatMap encT
theorem ncs_snoc (D : DT) (x : SlotT × Int) : ncs (D ++ [x]) = ncs D ++ nV x := by simp [ncs]
theorem scs_snoc (D : List SlotT) (x : SlotT) : scs (D ++ [x]) = scs D ++ encT x := by simp [scs]
theorem dOf_snoc (F : Nat → NdT) (pre : List Nat) (y : Nat) : dOf F (pre ++ [y]) = dOf F pre ++ [((F y).sl, (F y).dp)] := by simp [dOf]
def belowD (D : DT) (s : SlotT) : List SlotT := match splitD s D with
  | none => []
  | some (_, d, B) => (B.takeWhile fun x => decide (d < x.2)).map Prod.fst
set_option pp.deepTerms false
set_option pp.deepTerms.threshold 4
set_option maxHeartbeats 400000
theorem all_any (b : Nat) (D : DT) (lq : List Chunk) (hq : IsT b D lq) (hn : D.length ≤ 1000000) (l : List Chunk) (hsub : ∀ c, c ∈ lq → c ∈ l) :
    Fn Try.prog 41 [.pointer (some ⟨b, 0, none⟩)] l fun v l' => ∃ cs, OwnSl 99 3 v D.length (ncs D) cs ∧ l' = cs ++ l := by
  obtain ⟨rb, m, F, all, os, es, clock, rfl, hT⟩ := hq
  have hnl : os.length ≤ 1000000 := by simpa [dOf] using hn
  have h1 := hsub _ hT.m1
  have hnod : ∀ q, q ∈ rb :: os → ndC q (F q) ∈ l := fun q hq => by
    rcases List.mem_cons.1 hq with rfl | hq
    · exact hsub _ (hT.m3 hT.rin)
    · exact hsub _ (hT.m3 (hT.sub q hq))
  refine fn_of_body Try.func41 rfl rfl fun E => ?_
  simp only [argF, Try.ntmps41]
  refine gz ?_
  refine t_e e_alloc rfl rfl rfl ?_; rintro _ _ ⟨b3, _, rfl, rfl⟩
  refine gz ?_
  refine t_e (e_call rfl rfl (behind_any _ _ _)) rfl rfl rfl ?_
  rintro v l' ⟨C1, C2, rfl, rfl⟩
  refine gz ?_
  refine c_range (α := Nat) (ps := [13]) (lb := [.pointer (some ⟨C1, 0, none⟩), .pointer (some ⟨C2, 0, none⟩)]) rfl (behind_iter C1 C2 b rb m rb F all os es clock lq hT [] os rfl) (fun _ => rfl) rfl
    (fun pre l => ∃ v cs, OwnSl 99 3 v pre.length (ncs (dOf F pre)) cs ∧ l = [bxL C1 rb, bxT C2 b, (b3, .cells #[v] 45 (0, 0))] ++ cs)
    (fun c pre l => False)
    _ l (fun pre l2 X2 hX h => by obtain ⟨v, cs, _, rfl⟩ := h; exact ⟨.head _, .tail _ (.head _), List.mem_append_right _ (hX _ h1), fun q hq => ⟨F q, List.mem_append_right _ (hX _ (hnod q hq)), rfl⟩⟩) (by exact zKeep) ⟨_, [], OwnSl.nil _ _, rfl⟩ ?_ ?_ ?_
  · rintro E r0 rec pre y l' T ⟨fn, tmps, Dd, rfl⟩ hT0 ⟨v, cs', hown, rfl⟩ hsp
    have hy : y ∈ rb :: os := List.mem_cons_of_mem _ (hsp.subset (by simp))
    have hyT := hT0 _ (hnod y hy)
    have hpl : pre.length ≤ 1000000 := by have := hsp.length_le; simp at this; omega
    simp only [putPs, List.cons_append, List.nil_append]
    refine gz ?_
    refine p_begin (.there (.there (.there (upd_mid _ _ _ _ _)))) ?_
    generalize hX1 : (r0, Obj.loop (recOf fn tmps _ _ _ Dd .busy none)) :: T = X1
    have hyX : ndC y (F y) ∈ X1 := by rw [← hX1]; exact .tail _ hyT
    refine gz ?_
    refine c_draw [(0, true), (1, true), (2, true), (3, true), (4, true), (5, true), (6, true), (7, true), (8, true), (9, true), (10, false), (11, false), (12, false)] [[], [], [1], [1, 2], [1, 2, 3], [], [5], [5, 6], [5, 6, 7], [1, 2, 3, 4, 5, 6, 7, 8], [1, 2, 3, 4, 5, 6, 7, 8, 9], [0, 1, 2, 3, 4, 5, 6, 7, 8, 9, 10], [0, 1, 2, 3, 4, 5, 6, 7, 8, 9, 10, 11]] ([]) (by kernel_rfl) (by kernel_rfl) zAtt zHR ?_
    refine pz ?_
    apply pl_s (S := [(b3, .cells #[v] 45 (0, 0))])
    · exact q_load rfl (.head _) rfl
    · intro c hc; cases hc with
      | head => exact .tail _ (.tail _ (.head _))
      | tail _ h => cases h
    · rfl
    · rfl
    · rfl
    refine pz ?_
    apply pl_s (S := [ndC y (F y)])
    · exact q_loadL rfl (.head _) (by (repeat (first | with_reducible apply LSub.done | with_reducible apply LSub.take | with_reducible apply LSub.drop)))
    · intro c hc; cases hc with
      | head => exact .tail _ (.tail _ (.tail _ (List.mem_append_right _ hyX)))
      | tail _ h => cases h
    · rfl
    · rfl
    · rfl
    refine pz ?_
    apply pl_s (S := [ndC y (F y)])
    · exact q_load rfl (.head _) rfl
    · intro c hc; cases hc with
      | head => exact .tail _ (.tail _ (.tail _ (List.mem_append_right _ hyX)))
      | tail _ h => cases h
    · rfl
    · rfl
    · rfl
    refine pz ?_
    apply pl_eS
    · apply e_litA (ws := nV ((F y).sl, (F y).dp)) (k := 3)
      · rfl
      · rfl
      · rfl
      · decide
      · decide
    · rfl
    · rfl
    · rfl
    · intro _ _ _ c hc; cases hc
    · rintro _ _ ⟨bl, _, rfl, rfl⟩ x hx _ c hc
      have h3 : ∀ o : Obj, (b3, o) ∈ (bl, Obj.cells (List.toArray (nV ((F y).sl, (F y).dp))) 99 (0, 0)) :: bxL C1 rb :: bxT C2 b :: (b3, o) :: (cs' ++ X1) := fun o => .tail _ (.tail _ (.tail _ (.head _)))
      simp only [List.mem_cons, List.not_mem_nil, or_false] at hx
      rcases hx with rfl | rfl | rfl <;> simp only [List.mem_cons, List.not_mem_nil, or_false] at hc <;> subst hc
      · exact .tail _ (.tail _ (.tail _ (.tail _ (List.mem_append_right _ hyX))))
      · exact .tail _ (.tail _ (.tail _ (.tail _ (List.mem_append_right _ hyX))))
      · exact h3 _
    rintro _ _ ⟨bl, _, rfl, rfl⟩
    refine pz ?_
    apply pl_eS
    · apply e_appX (k := 3) (X := [bxL C1 rb, bxT C2 b, (b3, .cells #[v] 45 (0, 0))]) (cs := cs') (xs := ncs (dOf F pre)) (n := pre.length) (zs := [.int .i64 0, .int .i64 0, .int .i64 0]) (ws := nV ((F y).sl, (F y).dp))
      · rfl
      · rfl
      · rfl
      · exact hown
      · rfl
      · simp [Value.oneCell']
      · omega
      · decide
    · rfl
    · rfl
    · rfl
    · intro _ _ _ c hc; cases hc
    · exact fun _ _ _ x hx ha => anc_all (by kernel_rfl) hx ha
    rintro v' _ ⟨c2, ho2, rfl⟩
    have hv1 : v'.oneCell' = true := ho2.one
    simp only [List.cons_append, List.nil_append]
    apply pl_nS
    · apply e_storeL (cs := [v])
      · rfl
      · rfl
      · exact hv1
      · exact zMem
      · exact .zero
      · exact zUpd
    · rfl
    · rfl
    · intro _ _ _ c hc; cases hc
    · exact fun _ _ _ x hx ha => anc_all (by kernel_rfl) hx ha
    rintro _ _ ⟨rfl, rfl⟩
    refine pz ?_
    refine gz ?_
    rw [← hX1]
    refine p_round _ (.refl) ⟨v', c2, ?_, rfl⟩
    rw [dOf_snoc, ncs_snoc, List.length_append]; exact ho2
  · rintro Dd xs l' rfl ⟨v, cs', hown, rfl⟩
    have hv1 : v.oneCell' = true := hown.one
    simp only [List.cons_append, List.nil_append]
    refine gz ?_
    refine k_ret2 [Dd] (cs' ++ l) rfl (l' := cs' ++ l) (by exact zKeep) (by exact zRes) .refl ?_
    exact ⟨cs', by rw [show (dOf F xs).length = xs.length by simp [dOf]]; exact hown, rfl⟩
  · rintro Dd c pre l' hsp h
    exact h.elim
theorem all_nil (l : List Chunk) : Fn Try.prog 41 [.pointer none] l fun v l' => v = .slice none 0 0 ∧ l' = l := by
  refine fn_of_body Try.func41 rfl rfl fun E => ?_
  simp only [argF, Try.ntmps41]
  refine gz ?_
  exact k_ret [] rfl .refl (by exact zRes) ⟨rfl, rfl⟩
theorem below_take {F : Nat → NdT} {d : Int} : ∀ (B : List Nat), ((dOf F B).takeWhile fun x => decide (d < x.2)).map Prod.fst = (B.takeWhile fun q => decide (d < (F q).dp)).map fun q => (F q).sl
  | [] => rfl
  | q :: B => by
    show (List.takeWhile _ (((F q).sl, (F q).dp) :: dOf F B)).map Prod.fst = _
    rw [List.takeWhile_cons, List.takeWhile_cons]
    by_cases h : d < (F q).dp
    · rw [decide_eq_true h]
      show _ :: List.map Prod.fst _ = _ :: List.map _ _
      rw [below_take B]
    · rw [decide_eq_false h]; rfl
theorem belowOf_any (b : Nat) (D : DT) (lq : List Chunk) (hq : IsT b D lq) (hn : D.length ≤ 1000000) (s : SlotT) (l : List Chunk) (hsub : ∀ c, c ∈ lq → c ∈ l) :
    Fn Try.prog 39 [.pointer (some ⟨b, 0, none⟩), .agg (List.toArray (encT s))] l fun v l' => ∃ cs, OwnSl 23 2 v (belowD D s).length (scs (belowD D s)) cs ∧ l' = cs ++ l := by
  obtain ⟨rb, m, F, all, os, es, clock, rfl, hT⟩ := hq
  have hnl : os.length ≤ 1000000 := by simpa [dOf] using hn
  have h1 := hsub _ hT.m1
  have hnod : ∀ q, q ∈ rb :: os → ndC q (F q) ∈ l := fun q hq => by
    rcases List.mem_cons.1 hq with rfl | hq
    · exact hsub _ (hT.m3 hT.rin)
    · exact hsub _ (hT.m3 (hT.sub q hq))
  refine fn_of_body Try.func39 rfl rfl fun E => ?_
  simp only [argF, Try.ntmps39]
  refine gz ?_
  refine t_e (e_boxA rfl) rfl rfl rfl ?_
  rintro _ _ ⟨b0, hb0, rfl, rfl⟩
  refine gz ?_
  refine t_q (q_call (R := (b0, Obj.cells (List.toArray (encT s)) 23 (0, 0)) :: l) rfl rfl fun l2 hl2 => of_any b rb m F all os es clock lq s hT l2 fun c hc => hl2 c (.tail _ (hsub c hc))) rfl rfl rfl ?_
  cases hbk : blk F os s with
  | none =>
    have e : belowD (dOf F os) s = [] := by unfold belowD; rw [split_none hbk]
    rw [e]
    refine gz ?_
    exact k_ret [] rfl (.drop .refl) (by exact zRes) ⟨[], OwnSl.nil _ _, rfl⟩
  | some p =>
    obtain ⟨Ao, Bo, rfl, hsd⟩ := split_blk hbk
    have e : belowD (dOf F (Ao ++ p :: Bo)) s = (Bo.takeWhile fun q => decide ((F p).dp < (F q).dp)).map fun q => (F q).sl := by unfold belowD; rw [hsd]; exact below_take Bo
    rw [e]
    simp only [ptrO]
    refine gz ?_
    refine t_e e_alloc rfl rfl rfl ?_; rintro _ _ ⟨b6, _, rfl, rfl⟩
    refine gz ?_
    refine t_e (e_call rfl rfl (below_any _ _ _)) rfl rfl rfl ?_
    rintro v l' ⟨C1, C2, rfl, rfl⟩
    refine gz ?_
    refine c_range (α := Nat) (ps := [16]) (lb := [.pointer (some ⟨C2, 0, none⟩), .pointer (some ⟨C1, 0, none⟩)]) rfl (below_iter C1 C2 b rb m p F all (Ao ++ p :: Bo) es clock lq hT (rb :: Ao) Bo rfl) (fun _ => rfl) rfl
      (fun pre l => ∃ v cs, OwnSl 23 2 v pre.length (scs (pre.map fun q => (F q).sl)) cs ∧ l = [bxL C1 p, bxT C2 b, (b6, .cells #[v] 41 (0, 0))] ++ cs)
      (fun c pre l => False)
      _ l (fun pre l2 X2 hX h => by obtain ⟨v, cs, _, rfl⟩ := h; exact ⟨.head _, .tail _ (.head _), List.mem_append_right _ (hX _ h1), fun q hq => ⟨F q, List.mem_append_right _ (hX _ (hnod q hq)), rfl, fun _ => rfl⟩⟩) (by exact zKeep) ⟨_, [], OwnSl.nil _ _, rfl⟩ ?_ ?_ ?_
    · rintro E r0 rec pre y l' T ⟨fn, tmps, Dd, rfl⟩ hT0 ⟨v, cs', hown, rfl⟩ hsp
      have hy : y ∈ rb :: (Ao ++ p :: Bo) := List.mem_cons_of_mem _ (List.mem_append_right _ (List.mem_cons_of_mem _ ((List.takeWhile_prefix _).subset (hsp.subset (by simp)))))
      have hyT := hT0 _ (hnod y hy)
      have hpl : pre.length ≤ 1000000 := by have h1 := hsp.length_le; have h2 := (List.takeWhile_prefix (l := Bo) fun q => decide ((F p).dp < (F q).dp)).length_le; simp at h1 hnl; omega
      simp only [putPs, List.cons_append, List.nil_append]
      refine gz ?_
      refine p_begin (.there (.there (.there (upd_mid _ _ _ _ _)))) ?_
      generalize hX1 : (r0, Obj.loop (recOf fn tmps _ _ _ Dd .busy none)) :: T = X1
      have hyX : ndC y (F y) ∈ X1 := by rw [← hX1]; exact .tail _ hyT
      refine gz ?_
      refine c_draw [(0, true), (1, true), (2, true), (3, true), (4, true), (5, false), (6, false), (7, false)] [[], [], [1], [1, 2], [1, 2, 3], [1, 2, 3, 4], [0, 1, 2, 3, 4, 5], [0, 1, 2, 3, 4, 5, 6]] ([]) (by kernel_rfl) (by kernel_rfl) zAtt zHR ?_
      refine pz ?_
      apply pl_s (S := [(b6, .cells #[v] 41 (0, 0))])
      · exact q_load rfl (.head _) rfl
      · intro c hc; cases hc with
        | head => exact .tail _ (.tail _ (.head _))
        | tail _ h => cases h
      · rfl
      · rfl
      · rfl
      refine pz ?_
      apply pl_s (S := [ndC y (F y)])
      · exact q_loadL rfl (.head _) (by (repeat (first | with_reducible apply LSub.done | with_reducible apply LSub.take | with_reducible apply LSub.drop)))
      · intro c hc; cases hc with
        | head => exact .tail _ (.tail _ (.tail _ (List.mem_append_right _ hyX)))
        | tail _ h => cases h
      · rfl
      · rfl
      · rfl
      refine pz ?_
      apply pl_eS
      · apply e_litA (ws := encT (F y).sl) (k := 2)
        · rfl
        · rfl
        · rfl
        · decide
        · decide
      · rfl
      · rfl
      · rfl
      · intro _ _ _ c hc; cases hc
      · rintro _ _ ⟨bl, _, rfl, rfl⟩ x hx _ c hc
        have h3 : ∀ o : Obj, (b6, o) ∈ (bl, Obj.cells (List.toArray (encT (F y).sl)) 23 (0, 0)) :: bxL C1 p :: bxT C2 b :: (b6, o) :: (cs' ++ X1) := fun o => .tail _ (.tail _ (.tail _ (.head _)))
        simp only [List.mem_cons, List.not_mem_nil, or_false] at hx
        rcases hx with rfl | rfl <;> simp only [List.mem_cons, List.not_mem_nil, or_false] at hc <;> subst hc
        · exact .tail _ (.tail _ (.tail _ (.tail _ (List.mem_append_right _ hyX))))
        · exact h3 _
      rintro _ _ ⟨bl, _, rfl, rfl⟩
      refine pz ?_
      apply pl_eS
      · apply e_appX (k := 2) (X := [bxL C1 p, bxT C2 b, (b6, .cells #[v] 41 (0, 0))]) (cs := cs') (xs := scs (pre.map fun q => (F q).sl)) (n := pre.length) (zs := [.int .i64 0, .int .i64 0]) (ws := encT (F y).sl)
        · rfl
        · rfl
        · rfl
        · exact hown
        · rfl
        · simp [Value.oneCell']
        · omega
        · decide
      · rfl
      · rfl
      · rfl
      · intro _ _ _ c hc; cases hc
      · exact fun _ _ _ x hx ha => anc_all (by kernel_rfl) hx ha
      rintro v' _ ⟨c2, ho2, rfl⟩
      have hv1 : v'.oneCell' = true := ho2.one
      simp only [List.cons_append, List.nil_append]
      apply pl_nS
      · apply e_storeL (cs := [v])
        · rfl
        · rfl
        · exact hv1
        · exact zMem
        · exact .zero
        · exact zUpd
      · rfl
      · rfl
      · intro _ _ _ c hc; cases hc
      · exact fun _ _ _ x hx ha => anc_all (by kernel_rfl) hx ha
      rintro _ _ ⟨rfl, rfl⟩
      refine pz ?_
      refine gz ?_
      rw [← hX1]
      refine p_round _ (.refl) ⟨v', c2, ?_, rfl⟩
      rw [List.map_append, List.map_cons, List.map_nil, scs_snoc, List.length_append]; exact ho2
    · rintro Dd xs l' rfl ⟨v, cs', hown, rfl⟩
      have hv1 : v.oneCell' = true := hown.one
      simp only [List.cons_append, List.nil_append]
      refine gz ?_
      refine k_ret2 [Dd] (cs' ++ l) rfl (l' := cs' ++ l) (by exact zKeep) (by exact zRes) .refl ?_
      exact ⟨cs', by rw [List.length_map]; exact hown, rfl⟩
    · rintro Dd c pre l' hsp h
      exact h.elim
end Go.Proofs.Ytpplknmmjlgadaa.Tr

/- The tree: Root, Child, Has and those of no tree. -/
set_option linter.unusedVariables false
set_option linter.unusedSimpArgs false
namespace Go.Proofs.Ytpplknmmjlgadaa.Tr
open Go.RowKit
set_option maxRecDepth 20000
set_option maxRecDepth 20000

theorem sing_mem {c : Chunk} {l : List Chunk} (h : c ∈ l) : ∀ x, x ∈ [c] → x ∈ l := fun x hx => by rw [List.mem_singleton.1 hx]; exact h
abbrev slC (B : Nat) (s : SlotT) : Chunk := (B, .cells (List.toArray (encT s)) 23 (0, 0))
def hasD (D : DT) (s : SlotT) : Bool := (splitD s D).isSome
def rootD (D : DT) (s : SlotT) : Int × DT := if hasD D s = true then (11, D) else (0, D ++ [(s, 0)])
def childD (D : DT) (par s : SlotT) : Int × DT := match splitD par D with
  | none => (10, D)
  | some (A, d, B) => if hasD D s = true then (11, D) else (0, A ++ (par, d) :: (s, d + 1) :: B)
theorem has_blk {F : Nat → NdT} {os : List Nat} {s : SlotT} : hasD (dOf F os) s = (blk F os s).isSome := by
  unfold hasD
  cases h : blk F os s with
  | none => rw [split_none h]; rfl
  | some p => obtain ⟨A, B, _, h2⟩ := split_blk h; rw [h2]; rfl
def SmallD (D : DT) : Prop := ∀ x, x ∈ D → -1000000 ≤ x.2 ∧ x.2 ≤ 1000000
theorem dOf_take {F : Nat → NdT} {A B : List Nat} (p : Nat) : (dOf F (A ++ p :: B)).take (A.length + 1) = dOf F A ++ [((F p).sl, (F p).dp)] := by
  unfold dOf
  rw [List.map_append, List.map_cons, List.take_append, List.take_of_length_le (by simp)]
  simp
theorem dOf_drop {F : Nat → NdT} {A B : List Nat} (p : Nat) : (dOf F (A ++ p :: B)).drop (A.length + 1) = dOf F B := by
  unfold dOf
  rw [List.map_append, List.map_cons, List.drop_append, List.drop_of_length_le (by simp)]
  simp
set_option pp.deepTerms false
set_option pp.deepTerms.threshold 4
set_option maxHeartbeats 400000
theorem root_any (b : Nat) (D : DT) (lq : List Chunk) (hq : IsT b D lq) (s : SlotT) (G : List Chunk) :
    Fn Try.prog 25 [.pointer (some ⟨b, 0, none⟩), .agg (List.toArray (encT s))] (lq ++ G) fun v l' => v = .int .i64 (rootD D s).1 ∧ ∃ lq', IsT b (rootD D s).2 lq' ∧ l' = lq' ++ G := by
  obtain ⟨rb, m, F, all, os, es, clock, rfl, hT⟩ := hq
  refine fn_of_body Try.func25 rfl rfl fun E => ?_
  simp only [argF, Try.ntmps25]
  refine gz ?_
  refine t_e (e_boxA rfl) rfl rfl rfl ?_
  rintro _ _ ⟨b3, hb3, rfl, rfl⟩
  refine s_keep (Keep.of_perm (l' := lq ++ (slC b3 s :: G)) List.perm_middle.symm) ?_
  have hsub : ∀ c, c ∈ lq → c ∈ lq ++ (slC b3 s :: G) := fun c hc => List.mem_append_left _ hc
  have hbm : slC b3 s ∈ lq ++ (slC b3 s :: G) := List.mem_append_right _ (.head _)
  refine gz ?_
  refine t_q (q_call (R := lq ++ (slC b3 s :: G)) rfl rfl fun l2 hl2 => of_any b rb m F all os es clock lq s hT l2 fun c hc => hl2 c (hsub c hc)) rfl rfl rfl ?_
  cases hbk : blk F os s with
  | some p =>
    rw [show rootD (dOf F os) s = (11, dOf F os) by unfold rootD; rw [has_blk, hbk]; rfl]
    simp only [ptrO]
    refine gz ?_
    exact k_ret [] rfl (l' := lq ++ G) (Keep.trans (.of_perm List.perm_middle) (.drop .refl)) (by exact zRes) ⟨rfl, lq, ⟨rb, m, F, all, os, es, clock, rfl, hT⟩, rfl⟩
  | none =>
    rw [show rootD (dOf F os) s = (0, dOf F os ++ [(s, 0)]) by unfold rootD; rw [has_blk, hbk]; rfl]
    simp only [ptrO]
    obtain ⟨X, p, hX⟩ : ∃ X p, rb :: os = X ++ [p] := ⟨_, _, (List.dropLast_concat_getLast (List.cons_ne_nil rb os)).symm⟩
    have hpv : (F rb).pv = p := hT.prv (Y := []) hX
    have hXl : X.length = os.length := by have := congrArg List.length hX; simp at this; omega
    refine gz ?_
    refine c_draw [(0, true), (1, true), (2, true), (3, true), (4, true), (5, true), (6, true), (7, true), (8, true), (9, false)] [[], [], [1], [1, 2], [1, 2, 3], [1, 2, 3, 4], [1, 2, 3, 4, 5], [1, 2, 3, 4, 5, 6], [], [0, 1, 2, 3, 4, 5, 6, 7, 8]] ([]) (by kernel_rfl) (by kernel_rfl) zAtt zHR ?_
    refine pz ?_
    apply pl_s (S := [trC b rb m]); (· exact zLd); (· exact sing_mem (hsub _ hT.m1)); (· rfl); (· rfl); (· rfl)
    refine pz ?_
    apply pl_s (S := [ndC rb (F rb)]); (· exact zLd); (· exact sing_mem (hsub _ (hT.m3 hT.rin))); (· rfl); (· rfl); (· rfl)
    refine pz ?_
    rw [hpv]
    apply pl_s (S := [slC b3 s]); (· exact zLd); (· exact sing_mem (hbm)); (· rfl); (· rfl); (· rfl)
    refine pz ?_
    apply pl_eS
    · exact e_call0 rfl rfl (put_any b rb m F all os es clock lq hT X [] p hX s 0 hbk (slC b3 s :: G))
    (· rfl); (· rfl); (· rfl); (· intro _ _ _ c hc; cases hc); (· exact fun _ _ _ x hx ha => anc_all (by kernel_rfl) hx ha)
    rintro _ _ ⟨rfl, lq', hq', rfl⟩
    refine pz ?_
    refine gz ?_
    refine k_ret [] rfl (l' := lq' ++ G) (Keep.trans (.of_perm List.perm_middle) (.drop .refl)) (by exact zRes) ⟨rfl, lq', ?_, rfl⟩
    rw [hXl, List.take_of_length_le (by simp [dOf]), List.drop_of_length_le (by simp [dOf])] at hq'
    exact hq'
theorem child_any (b : Nat) (D : DT) (lq : List Chunk) (hq : IsT b D lq) (hd : SmallD D) (par s : SlotT) (G : List Chunk) :
    Fn Try.prog 27 [.pointer (some ⟨b, 0, none⟩), .agg (List.toArray (encT par)), .agg (List.toArray (encT s))] (lq ++ G) fun v l' => v = .int .i64 (childD D par s).1 ∧ ∃ lq', IsT b (childD D par s).2 lq' ∧ l' = lq' ++ G := by
  obtain ⟨rb, m, F, all, os, es, clock, rfl, hT⟩ := hq
  refine fn_of_body Try.func27 rfl rfl fun E => ?_
  simp only [argF, Try.ntmps27]
  refine gz ?_
  refine t_e (e_boxA rfl) rfl rfl rfl ?_
  rintro _ _ ⟨b4, hb4, rfl, rfl⟩
  refine gz ?_
  refine t_e (e_boxA rfl) rfl rfl rfl ?_
  rintro _ _ ⟨b5, hb5, rfl, rfl⟩
  have hk2 : ∀ lq : List Chunk, Keep (lq ++ (slC b5 s :: slC b4 par :: G)) (lq ++ G) := fun lq => Keep.trans (.of_perm (List.perm_append_comm_assoc lq [slC b5 s, slC b4 par] G)) (.drop (.drop .refl))
  refine s_keep (Keep.of_perm (l' := lq ++ (slC b5 s :: slC b4 par :: G)) (List.perm_append_comm_assoc [slC b5 s, slC b4 par] lq G)) ?_
  have hsub : ∀ c, c ∈ lq → c ∈ lq ++ (slC b5 s :: slC b4 par :: G) := fun c hc => List.mem_append_left _ hc
  have hm4 : slC b4 par ∈ lq ++ (slC b5 s :: slC b4 par :: G) := List.mem_append_right _ (.tail _ (.head _))
  have hm5 : slC b5 s ∈ lq ++ (slC b5 s :: slC b4 par :: G) := List.mem_append_right _ (.head _)
  refine gz ?_
  refine t_q (q_call (R := lq ++ (slC b5 s :: slC b4 par :: G)) rfl rfl fun l2 hl2 => of_any b rb m F all os es clock lq par hT l2 fun c hc => hl2 c (hsub c hc)) rfl rfl rfl ?_
  cases hbp : blk F os par with
  | none =>
    rw [show childD (dOf F os) par s = (10, dOf F os) by unfold childD; rw [split_none hbp]]
    simp only [ptrO]
    refine gz ?_
    exact k_ret [] rfl (l' := lq ++ G) (hk2 lq) (by exact zRes) ⟨rfl, lq, ⟨rb, m, F, all, os, es, clock, rfl, hT⟩, rfl⟩
  | some p =>
    simp only [ptrO]
    refine gz ?_
    refine t_q (q_call (R := lq ++ (slC b5 s :: slC b4 par :: G)) rfl rfl fun l2 hl2 => of_any b rb m F all os es clock lq s hT l2 fun c hc => hl2 c (hsub c hc)) rfl rfl rfl ?_
    cases hbk : blk F os s with
    | some q =>
      rw [show childD (dOf F os) par s = (11, dOf F os) by unfold childD; obtain ⟨A, B, _, h2⟩ := split_blk hbp; rw [h2]; simp only; rw [has_blk, hbk]; rfl]
      simp only [ptrO]
      refine gz ?_
      exact k_ret [] rfl (l' := lq ++ G) (hk2 lq) (by exact zRes) ⟨rfl, lq, ⟨rb, m, F, all, os, es, clock, rfl, hT⟩, rfl⟩
    | none =>
      obtain ⟨A, B, hos, h2⟩ := split_blk hbp
      have hps := (blk_some hbp).2
      have hpo := (blk_some hbp).1
      rw [show childD (dOf F os) par s = (0, dOf F A ++ (par, (F p).dp) :: (s, (F p).dp + 1) :: dOf F B) by unfold childD; rw [h2]; simp only; rw [has_blk, hbk]; rfl]
      have hX : rb :: os = (rb :: A) ++ p :: B := by rw [hos]; rfl
      have hr := hd _ (List.mem_map.2 ⟨p, hpo, rfl⟩)
      simp only at hr
      simp only [ptrO]
      refine gz ?_
      refine c_draw [(0, true), (1, true), (2, true), (3, true), (4, true), (5, true), (6, true), (7, true), (8, false)] [[], [], [], [], [3], [3, 4], [3, 4, 5], [3, 4, 5, 6], [0, 1, 2, 3, 4, 5, 6, 7]] ([]) (by kernel_rfl) (by kernel_rfl) zAtt zHR ?_
      refine pz ?_
      apply pl_s (S := [slC b5 s]); (· exact zLd); (· exact sing_mem (hm5)); (· rfl); (· rfl); (· rfl)
      refine pz ?_
      apply pl_s (S := [ndC p (F p)]); (· exact zLd); (· exact sing_mem (hsub _ (hT.m3 (hT.sub p hpo)))); (· rfl); (· rfl); (· rfl)
      refine pz ?_
      apply pl_eS
      · exact e_call0 rfl rfl (put_any b rb m F all os es clock lq hT (rb :: A) B p hX s _ hbk (slC b5 s :: slC b4 par :: G))
      (· rfl); (· rfl); (· rfl); (· intro _ _ _ c hc; cases hc); (· exact fun _ _ _ x hx ha => anc_all (by kernel_rfl) hx ha)
      rintro _ _ ⟨rfl, lq', hq', rfl⟩
      refine pz ?_
      refine gz ?_
      refine k_ret [] rfl (l' := lq' ++ G) (hk2 lq') (by exact zRes) ⟨rfl, lq', ?_, rfl⟩
      rw [List.length_cons, hos, dOf_take, dOf_drop, hps] at hq'
      simpa using hq'
theorem root_nil (s : SlotT) (l : List Chunk) : Fn Try.prog 25 [.pointer none, .agg (List.toArray (encT s))] l fun v l' => v = .int .i64 1 ∧ l' = l := by
  refine fn_of_body Try.func25 rfl rfl fun E => ?_
  simp only [argF, Try.ntmps25]
  refine gz ?_
  refine t_e (e_boxA rfl) rfl rfl rfl ?_
  rintro _ _ ⟨b3, hb3, rfl, rfl⟩
  refine gz ?_
  exact k_ret [] rfl (.drop .refl) (by exact zRes) ⟨rfl, rfl⟩
theorem Swap_nil (s r : SlotT) (l : List Chunk) : Fn Try.prog 35 [.pointer none, .agg (List.toArray (encT s)), .agg (List.toArray (encT r))] l fun v l' => v = .int .i64 1 ∧ l' = l := by
  refine fn_of_body Try.func35 rfl rfl fun E => ?_
  simp only [argF, Try.ntmps35]
  refine gz ?_
  refine t_e (e_boxA rfl) rfl rfl rfl ?_
  rintro _ _ ⟨b3, hb3, rfl, rfl⟩
  refine gz ?_
  refine t_e (e_boxA rfl) rfl rfl rfl ?_
  rintro _ _ ⟨b4, hb4, rfl, rfl⟩
  refine gz ?_
  exact k_ret [] rfl (.drop (.drop .refl)) (by exact zRes) ⟨rfl, rfl⟩
theorem remove_nil (s : SlotT) (l : List Chunk) : Fn Try.prog 23 [.pointer none, .agg (List.toArray (encT s))] l fun v l' => v = .int .i64 1 ∧ l' = l := by
  refine fn_of_body Try.func23 rfl rfl fun E => ?_
  simp only [argF, Try.ntmps23]
  refine gz ?_
  refine t_e (e_boxA rfl) rfl rfl rfl ?_
  rintro _ _ ⟨b3, hb3, rfl, rfl⟩
  refine gz ?_
  refine t_q (q_call rfl rfl fun l2 hl2 => of_nil s l2) rfl rfl rfl ?_
  refine gz ?_
  exact k_ret [] rfl (.drop .refl) (by exact zRes) ⟨rfl, rfl⟩
theorem below_nil (s : SlotT) (l : List Chunk) : Fn Try.prog 39 [.pointer none, .agg (List.toArray (encT s))] l fun v l' => v = .slice none 0 0 ∧ l' = l := by
  refine fn_of_body Try.func39 rfl rfl fun E => ?_
  simp only [argF, Try.ntmps39]
  refine gz ?_
  refine t_e (e_boxA rfl) rfl rfl rfl ?_
  rintro _ _ ⟨b3, hb3, rfl, rfl⟩
  refine gz ?_
  refine t_q (q_call rfl rfl fun l2 hl2 => of_nil s l2) rfl rfl rfl ?_
  refine gz ?_
  exact k_ret [] rfl (.drop .refl) (by exact zRes) ⟨rfl, rfl⟩
end Go.Proofs.Ytpplknmmjlgadaa.Tr

/- The tree: Parent, Move. -/
set_option linter.unusedVariables false
set_option linter.unusedSimpArgs false
namespace Go.Proofs.Ytpplknmmjlgadaa.Tr
open Go.RowKit
set_option maxRecDepth 20000
set_option maxRecDepth 20000

theorem blk_none_iff {F : Nat → NdT} {os : List Nat} {s : SlotT} : blk F os s = none ↔ ∀ p, p ∈ os → (F p).sl ≠ s :=
  ⟨blk_none, fun h => List.find?_eq_none.2 fun q hq => by simpa using h q hq⟩
theorem blk_app {F : Nat → NdT} {A B : List Nat} {p : Nat} {s : SlotT} : blk F (A ++ p :: B) s = (blk F A s).or (if (F p).sl = s then some p else blk F B s) := by
  unfold blk
  rw [List.find?_append, List.find?_cons]
  congr 1
  by_cases h : (F p).sl = s
  · rw [decide_eq_true h, if_pos h]
  · rw [decide_eq_false h, if_neg h]
theorem blk_congr {F F' : Nat → NdT} {s : SlotT} : ∀ {os : List Nat}, (∀ q, q ∈ os → (F' q).sl = (F q).sl) → blk F' os s = blk F os s
  | [], _ => rfl
  | q :: os, h => by
    have ih := blk_congr (s := s) (os := os) fun z hz => h z (List.mem_cons_of_mem _ hz)
    unfold blk at ih ⊢
    rw [List.find?_cons, List.find?_cons, h q List.mem_cons_self, ih]
theorem dOf_congr {F F' : Nat → NdT} {os : List Nat} (h : ∀ q, q ∈ os → (F' q).sl = (F q).sl ∧ (F' q).dp = (F q).dp) : dOf F' os = dOf F os := by
  unfold dOf
  exact List.map_congr_left fun q hq => by rw [(h q hq).1, (h q hq).2]
theorem TB.uniq {b rb m : Nat} {F : Nat → NdT} {all A B : List Nat} {p : Nat} {es : List (EntS SlotT)} {clock : Nat} {lq : List Chunk} (h : TB b rb m F all (A ++ p :: B) es clock lq) : (∀ q, q ∈ A → (F q).sl ≠ (F p).sl) ∧ (∀ q, q ∈ B → (F q).sl ≠ (F p).sl) := by
  have hn := h.snd
  rw [List.map_append, List.map_cons] at hn
  refine ⟨fun q hq e => ?_, fun q hq e => ?_⟩
  · exact (List.nodup_append.1 hn).2.2 _ (List.mem_map.2 ⟨q, hq, rfl⟩) _ List.mem_cons_self e
  · exact (List.nodup_cons.1 (List.nodup_append.1 hn).2.1).1 (List.mem_map.2 ⟨q, hq, e⟩)
theorem TB.out {b rb m : Nat} {F : Nat → NdT} {all A B : List Nat} {p : Nat} {es : List (EntS SlotT)} {clock : Nat} {lq : List Chunk} (h : TB b rb m F all (A ++ p :: B) es clock lq) : p ∉ A ∧ p ∉ B ∧ rb ∉ A ∧ rb ∉ B ∧ p ≠ rb := by
  have hn := List.nodup_cons.1 h.ond
  have h2 := List.nodup_append.1 hn.2
  refine ⟨fun hp => h2.2.2 p hp p List.mem_cons_self rfl, (List.nodup_cons.1 h2.2.1).1, fun hr => hn.1 (List.mem_append_left _ hr), fun hr => hn.1 (List.mem_append_right _ (.tail _ hr)), fun e => hn.1 (by rw [← e]; simp)⟩
def parentD (D : DT) (s : SlotT) : SlotT × Bool := match splitD s D with
  | none => ((0, 0), false)
  | some (A, d, _) => match A.reverse.find? fun x => decide (x.2 < d) with
    | some y => (y.1, true)
    | none => ((0, 0), false)
def moveD (D : DT) (a c : SlotT) : Int × DT := match splitD a D with
  | none => (10, D)
  | some (A, d, B) => if hasD D c = true then (11, D) else (0, A ++ (c, d) :: B)
theorem TB.pvr {b rb m : Nat} {F : Nat → NdT} {all : List Nat} {es : List (EntS SlotT)} {clock : Nat} {lq : List Chunk} {A B : List Nat} {p : Nat} (h : TB b rb m F all (A ++ p :: B) es clock lq) : (F p).pv = A.reverse.headD rb := by
  rcases List.eq_nil_or_concat A with rfl | ⟨A', q, rfl⟩
  · exact h.prv (X := []) (Y := p :: B) rfl
  · have := h.prv (X := rb :: A') (Y := p :: B) (p := q) (by simp)
    rw [List.concat_eq_append, List.reverse_append]; exact this
set_option pp.deepTerms false
set_option pp.deepTerms.threshold 4
set_option maxHeartbeats 400000
end Go.Proofs.Ytpplknmmjlgadaa.Tr

/- The tree: Move, Remove. -/
set_option linter.unusedVariables false
set_option linter.unusedSimpArgs false
namespace Go.Proofs.Ytpplknmmjlgadaa.Tr
open Go.RowKit
set_option maxRecDepth 20000
set_option maxRecDepth 20000

def decW (d : Int) (B : DT) : DT := (B.takeWhile fun x => decide (d < x.2)).map (fun x => (x.1, x.2 - 1)) ++ B.dropWhile fun x => decide (d < x.2)
def removeD (D : DT) (s : SlotT) : Int × DT := match splitD s D with
  | none => (10, D)
  | some (A, d, B) => (0, A ++ decW d B)
def decF (F : Nat → NdT) (pre : List Nat) : Nat → NdT := fun q => if q ∈ pre then { F q with dp := (F q).dp - 1 } else F q
theorem decF_out {F : Nat → NdT} {pre : List Nat} {q : Nat} (h : q ∉ pre) : decF F pre q = F q := if_neg h
theorem decF_snoc {F : Nat → NdT} {pre : List Nat} {y : Nat} (h : y ∉ pre) : upd (decF F pre) y { F y with dp := (F y).dp - 1 } = decF F (pre ++ [y]) := by
  funext q
  unfold upd decF
  by_cases e : q = y
  · subst e; simp [h]
  · simp [e]
theorem decF_links (F : Nat → NdT) (pre : List Nat) (q : Nat) : (decF F pre q).sl = (F q).sl ∧ (decF F pre q).nx = (F q).nx ∧ (decF F pre q).pv = (F q).pv := by
  unfold decF; split <;> exact ⟨rfl, rfl, rfl⟩
theorem dOf_dec {F : Nat → NdT} {d : Int} {B : List Nat} (hn : B.Nodup) : dOf (decF F (B.takeWhile fun q => decide (d < (F q).dp))) B = decW d (dOf F B) := by
  have e1 : (dOf F B).takeWhile (fun x => decide (d < x.2)) = dOf F (B.takeWhile fun q => decide (d < (F q).dp)) := by
    unfold dOf; rw [List.takeWhile_map]; rfl
  have e2 : (dOf F B).dropWhile (fun x => decide (d < x.2)) = dOf F (B.dropWhile fun q => decide (d < (F q).dp)) := by
    unfold dOf; rw [List.dropWhile_map]; rfl
  unfold decW
  rw [e1, e2]
  obtain ⟨tw, htw⟩ : ∃ tw, tw = B.takeWhile fun q => decide (d < (F q).dp) := ⟨_, rfl⟩
  obtain ⟨dw, hdw⟩ : ∃ dw, dw = B.dropWhile fun q => decide (d < (F q).dp) := ⟨_, rfl⟩
  have hB : B = tw ++ dw := by rw [htw, hdw, List.takeWhile_append_dropWhile]
  rw [← htw, ← hdw, hB]
  unfold dOf
  rw [List.map_append, List.map_map]
  congr 1
  · apply List.map_congr_left
    intro q hq
    unfold decF; rw [if_pos hq]; rfl
  · apply List.map_congr_left
    intro q hq
    rw [hB] at hn
    rw [decF_out fun h => (List.nodup_append.1 hn).2.2 q h q hq rfl]
theorem adj_remove {F F' : Nat → NdT} {p x n : Nat} {Z : List Nat} : ∀ {X : List Nat}, Adj F (X ++ p :: x :: n :: Z) → (X ++ p :: x :: n :: Z).dropLast.Nodup → (X ++ p :: x :: n :: Z).tail.Nodup →
    (∀ u, u ≠ p → (F' u).nx = (F u).nx) → (∀ v, v ≠ n → (F' v).pv = (F v).pv) → (F' p).nx = n → (F' n).pv = p → Adj F' (X ++ p :: n :: Z)
  | [], ⟨h1, h2, h3, h4, h5⟩, hs, ht, hn, hp, k1, k2 => by
    refine ⟨k1, k2, adj_same h5 (fun u hu => hn u ?_) fun v hv => hp v ?_⟩
    · rintro rfl
      have : (u :: x :: (n :: Z).dropLast).Nodup := by simpa using hs
      exact (List.nodup_cons.1 this).1 (.tail _ hu)
    · rintro rfl
      have : (x :: v :: Z).Nodup := by simpa using ht
      exact (List.nodup_cons.1 (List.nodup_cons.1 this).2).1 hv
  | [a], ⟨h1, h2, h3⟩, hs, ht, hn, hp, k1, k2 => by
    have hs1 : (a :: (p :: x :: n :: Z).dropLast).Nodup := by simpa using hs
    have hs2 := List.nodup_cons.1 hs1
    have ht1 : (p :: x :: n :: Z).Nodup := by simpa using ht
    have ht2 := List.nodup_cons.1 ht1
    refine ⟨by rw [hn a (fun e => hs2.1 (by rw [e]; simp [List.dropLast]))]; exact h1, by rw [hp p (fun e => ht2.1 (by rw [e]; simp))]; exact h2, ?_⟩
    exact adj_remove (X := []) h3 hs2.2 ht2.2 hn hp k1 k2
  | a :: b :: X, ⟨h1, h2, h3⟩, hs, ht, hn, hp, k1, k2 => by
    have hs1 : (a :: ((b :: X) ++ p :: x :: n :: Z).dropLast).Nodup := by
      have : ((a :: b :: X) ++ p :: x :: n :: Z).dropLast = a :: ((b :: X) ++ p :: x :: n :: Z).dropLast := List.dropLast_cons_of_ne_nil (by simp)
      rwa [this] at hs
    have hs2 := List.nodup_cons.1 hs1
    have ht1 : (b :: (X ++ p :: x :: n :: Z)).Nodup := ht
    have ht2 := List.nodup_cons.1 ht1
    have hpd : p ∈ ((b :: X) ++ p :: x :: n :: Z).dropLast := by
      rw [List.dropLast_append_of_ne_nil (by simp)]
      exact List.mem_append_right _ (by simp [List.dropLast])
    refine ⟨by rw [hn a (fun e => hs2.1 (by rw [e]; exact hpd))]; exact h1, by rw [hp b (fun e => ht2.1 (by rw [e]; simp))]; exact h2, ?_⟩
    exact adj_remove (X := b :: X) h3 hs2.2 ht2.2 hn hp k1 k2
set_option pp.deepTerms false
set_option pp.deepTerms.threshold 4
set_option maxHeartbeats 400000
theorem move_any (b : Nat) (D : DT) (lq : List Chunk) (hq : IsT b D lq) (a c : SlotT) (G : List Chunk) :
    Fn Try.prog 34 [.pointer (some ⟨b, 0, none⟩), .agg (List.toArray (encT a)), .agg (List.toArray (encT c))] (lq ++ G) fun v l' => v = .int .i64 (moveD D a c).1 ∧ ∃ lq', IsT b (moveD D a c).2 lq' ∧ l' = lq' ++ G := by
  obtain ⟨rb, m, F, all, os, es, clock, rfl, hT⟩ := hq
  refine fn_of_body Try.func34 rfl rfl fun E => ?_
  simp only [argF, Try.ntmps34]
  refine gz ?_
  refine t_e (e_boxA rfl) rfl rfl rfl ?_
  rintro _ _ ⟨b4, hb4, rfl, rfl⟩
  refine gz ?_
  refine t_e (e_boxA rfl) rfl rfl rfl ?_
  rintro _ _ ⟨b5, hb5, rfl, rfl⟩
  have hk2 : ∀ lq : List Chunk, Keep (lq ++ (slC b5 c :: slC b4 a :: G)) (lq ++ G) := fun lq => Keep.trans (.of_perm (List.perm_append_comm_assoc lq [slC b5 c, slC b4 a] G)) (.drop (.drop .refl))
  refine s_keep (Keep.of_perm (l' := lq ++ (slC b5 c :: slC b4 a :: G)) (List.perm_append_comm_assoc [slC b5 c, slC b4 a] lq G)) ?_
  have hsub : ∀ x, x ∈ lq → x ∈ lq ++ (slC b5 c :: slC b4 a :: G) := fun x hx => List.mem_append_left _ hx
  have hm4 : slC b4 a ∈ lq ++ (slC b5 c :: slC b4 a :: G) := List.mem_append_right _ (.tail _ (.head _))
  have hm5 : slC b5 c ∈ lq ++ (slC b5 c :: slC b4 a :: G) := List.mem_append_right _ (.head _)
  refine gz ?_
  refine t_q (q_call rfl rfl fun l2 hl2 => of_any b rb m F all os es clock lq a hT l2 fun x hx => hl2 x (hsub x hx)) rfl rfl rfl ?_
  cases hbp : blk F os a with
  | none =>
    rw [show moveD (dOf F os) a c = (10, dOf F os) by unfold moveD; rw [split_none hbp]]
    simp only [ptrO]
    refine gz ?_
    exact k_ret [] rfl (l' := lq ++ G) (hk2 lq) (by exact zRes) ⟨rfl, lq, ⟨rb, m, F, all, os, es, clock, rfl, hT⟩, rfl⟩
  | some p =>
    simp only [ptrO]
    refine gz ?_
    refine t_q (q_call rfl rfl fun l2 hl2 => of_any b rb m F all os es clock lq c hT l2 fun x hx => hl2 x (hsub x hx)) rfl rfl rfl ?_
    cases hbk : blk F os c with
    | some q =>
      rw [show moveD (dOf F os) a c = (11, dOf F os) by unfold moveD; obtain ⟨A, B, _, h2⟩ := split_blk hbp; rw [h2]; simp only; rw [has_blk, hbk]; rfl]
      simp only [ptrO]
      refine gz ?_
      exact k_ret [] rfl (l' := lq ++ G) (hk2 lq) (by exact zRes) ⟨rfl, lq, ⟨rb, m, F, all, os, es, clock, rfl, hT⟩, rfl⟩
    | none =>
      rw [show moveD (dOf F os) a c = (0, (splitD a (dOf F os)).elim [] fun y => y.1 ++ (c, y.2.1) :: y.2.2) by unfold moveD; obtain ⟨A, B, _, h2⟩ := split_blk hbp; rw [h2]; simp only; rw [has_blk, hbk]; rfl]
      obtain ⟨A, B, rfl, h2⟩ := split_blk hbp
      rw [h2]
      have hps := (blk_some hbp).2
      have hpa : p ∈ all := hT.sub p (by simp)
      have hno := blk_none hbk
      obtain ⟨uA, uB⟩ := hT.uniq
      rw [hps] at uA uB
      simp only [ptrO]
      rw [hT.eq]
      simp only [List.cons_append]
      have hb4 : ∀ F' : Nat → NdT, slC b4 a ∈ chs F' all ++ (slC b5 c :: slC b4 a :: G) := fun F' => List.mem_append_right _ (.tail _ (.head _))
      have hb5 : ∀ F' : Nat → NdT, slC b5 c ∈ chs F' all ++ (slC b5 c :: slC b4 a :: G) := fun F' => List.mem_append_right _ (.head _)
      refine gz ?_
      refine c_draw [(0, true), (1, true), (2, true), (3, true), (4, true), (5, false)] [[], [0], [0, 1], [0, 1, 2], [], [0, 1, 2, 3, 4]] ([]) (by kernel_rfl) (by kernel_rfl) zAtt zHR ?_
      refine pz ?_
      apply pl_s (S := [trC b rb m]); (· exact zLd); (· exact sing_mem (.head _)); (· rfl); (· rfl); (· rfl)
      refine pz ?_
      apply pl_s (S := [slC b4 a]); (· exact zLd); (· exact sing_mem (.tail _ (.tail _ (hb4 F)))); (· rfl); (· rfl); (· rfl)
      refine pz ?_
      apply pl_nS
      · apply e_deleteS (enc := encT) (a := a) (es := es) (clock := clock) (ks := [some .i64, some .i64])
        · rfl
        · rfl
        · exact encT_ok
        · exact zUpd
      (· rfl); (· rfl); (· intro _ _ _ c hc; cases hc); (· exact fun _ _ _ x hx ha => anc_all (by kernel_rfl) hx ha)
      rintro _ _ ⟨rfl, rfl⟩
      refine pz ?_
      have hm5' := hb5 F
      refine gz ?_
      refine t_n (l := trC b rb m :: (m, mapS encT (delS a es) clock) :: (chs F all ++ (slC b5 c :: slC b4 a :: G))) (e_storeA (b := p) (off := 0) (cs := List.toArray (F p).cells) (n := 2) rfl rfl rfl (by simp [Value.oneCell']) (.there (.there (upd_left (chs_upd { F p with sl := c } hT.nd hpa) _))) (by simp)) rfl rfl ?_
      rintro _ _ ⟨rfl, rfl⟩
      obtain ⟨F1, hF1⟩ : ∃ F1, F1 = upd F p { F p with sl := c } := ⟨_, rfl⟩
      rw [← hF1]
      have hm51 := hb5 F1
      refine gz ?_
      refine c_draw [(0, true), (1, true), (2, true), (3, true), (4, true), (5, true), (6, false)] [[], [0], [0, 1], [0, 1, 2], [], [], [0, 1, 2, 3, 4, 5]] ([]) (by kernel_rfl) (by kernel_rfl) zAtt zHR ?_
      refine pz ?_
      apply pl_s (S := [trC b rb m]); (· exact zLd); (· exact sing_mem (.head _)); (· rfl); (· rfl); (· rfl)
      refine pz ?_
      apply pl_s (S := [slC b5 c]); (· exact zLd); (· exact sing_mem (.tail _ (.tail _ (hb5 F1)))); (· rfl); (· rfl); (· rfl)
      refine pz ?_
      apply pl_nS
      · apply e_mapUpdateS (enc := encT) (a := c) (es := delS a es) (clock := clock) (ks := [some .i64, some .i64])
        · rfl
        · rfl
        · rfl
        · exact encT_ok
        · exact zUpd
      (· rfl); (· rfl); (· intro _ _ _ c hc; cases hc); (· exact fun _ _ _ x hx ha => anc_all (by kernel_rfl) hx ha)
      rintro _ _ ⟨rfl, rfl⟩
      refine pz ?_
      refine gz ?_
      have ep : F1 p = { F p with sl := c } := by rw [hF1, upd_same]
      have eo : ∀ q, q ≠ p → F1 q = F q := fun q hq => by rw [hF1, upd_other _ _ _ _ hq]
      have el : ∀ q, (F1 q).nx = (F q).nx ∧ (F1 q).pv = (F q).pv ∧ (F1 q).dp = (F q).dp := fun q => by
        by_cases e : q = p
        · rw [e, ep]; exact ⟨rfl, rfl, rfl⟩
        · rw [eo q e]; exact ⟨rfl, rfl, rfl⟩
      have oA : ∀ q, q ∈ A → q ≠ p := fun q hq e => hT.out.1 (e ▸ hq)
      have oB : ∀ q, q ∈ B → q ≠ p := fun q hq e => hT.out.2.1 (e ▸ hq)
      obtain ⟨lq', hlq'⟩ : ∃ lq', lq' = trC b rb m :: (m, mapS encT (setS c (.pointer (some ⟨p, 0, none⟩)) clock (delS a es)).1 (setS c (.pointer (some ⟨p, 0, none⟩)) clock (delS a es)).2) :: chs F1 all := ⟨_, rfl⟩
      have hdA : dOf F1 A = dOf F A := dOf_congr fun q hq => by rw [eo q (oA q hq)]; exact ⟨rfl, rfl⟩
      have hdB : dOf F1 B = dOf F B := dOf_congr fun q hq => by rw [eo q (oB q hq)]; exact ⟨rfl, rfl⟩
      refine k_ret [] rfl (l' := lq' ++ G) ?_ (by exact zRes) ⟨rfl, lq', ⟨rb, m, F1, all, A ++ p :: B, _, _, ?_, ⟨hlq', hT.nd, hT.rin, hT.sub, hT.ond, adj_same hT.adj (fun u _ => (el u).1) (fun v _ => (el v).2.1), ?_, (hT.keys.del a).set _ _, fun s' => ?_⟩⟩, rfl⟩
      · have h9 := hk2 lq'; rw [hlq'] at h9; rw [hlq']; exact h9
      · show dOf F1 (A ++ p :: B) = dOf F A ++ (c, (F p).dp) :: dOf F B
        rw [← hdA, ← hdB]
        unfold dOf
        rw [List.map_append, List.map_cons, ep]
      · have h1 : A.map (fun q => (F1 q).sl) = A.map (fun q => (F q).sl) := List.map_congr_left fun q hq => by rw [eo q (oA q hq)]
        have h2 : B.map (fun q => (F1 q).sl) = B.map (fun q => (F q).sl) := List.map_congr_left fun q hq => by rw [eo q (oB q hq)]
        have hn := hT.snd
        rw [List.map_append, List.map_cons] at hn ⊢
        rw [h1, h2, ep]
        have hn2 := (List.perm_middle.nodup_iff.1 hn)
        refine List.perm_middle.nodup_iff.2 (List.nodup_cons.2 ⟨fun h => ?_, (List.nodup_cons.1 hn2).2⟩)
        rcases List.mem_append.1 h with h | h
        · obtain ⟨q, hq, e⟩ := List.mem_map.1 h; exact hno q (List.mem_append_left _ hq) e
        · obtain ⟨q, hq, e⟩ := List.mem_map.1 h; exact hno q (List.mem_append_right _ (.tail _ hq)) e
      · show _ = (blk F1 (A ++ p :: B) s').map _
        rw [getS_set, getS_del hT.keys, hT.get]
        show (if s' = c then _ else if s' = a then none else (blk F (A ++ p :: B) s').map _) = _
        have ec : (F1 p).sl = c := by rw [ep]
        rw [blk_app, blk_app, ec, blk_congr (F := F) (F' := F1) (os := A) fun q hq => by rw [eo q (oA q hq)], blk_congr (F := F) (F' := F1) (os := B) fun q hq => by rw [eo q (oB q hq)], hps]
        by_cases hc : s' = c
        · subst hc
          rw [if_pos rfl, if_pos rfl, blk_none_iff.2 fun q hq => hno q (List.mem_append_left _ hq)]
          rfl
        · rw [if_neg hc, if_neg (show ¬ c = s' from fun e => hc e.symm)]
          by_cases ha : s' = a
          · subst ha
            rw [if_pos rfl, blk_none_iff.2 uA, blk_none_iff.2 uB]
            rfl
          · rw [if_neg ha, if_neg (show ¬ a = s' from fun e => ha e.symm)]
end Go.Proofs.Ytpplknmmjlgadaa.Tr

/- The tree: Remove. -/
set_option linter.unusedVariables false
set_option linter.unusedSimpArgs false
namespace Go.Proofs.Ytpplknmmjlgadaa.Tr
open Go.RowKit
set_option maxRecDepth 20000
set_option maxRecDepth 20000

set_option pp.deepTerms false
set_option pp.deepTerms.threshold 4
set_option maxHeartbeats 400000
theorem remove_any (b : Nat) (D : DT) (lq : List Chunk) (hq : IsT b D lq) (hd : SmallD D) (s : SlotT) (G : List Chunk) :
    Fn Try.prog 23 [.pointer (some ⟨b, 0, none⟩), .agg (List.toArray (encT s))] (lq ++ G) fun v l' => v = .int .i64 (removeD D s).1 ∧ ∃ lq', IsT b (removeD D s).2 lq' ∧ l' = lq' ++ G := by
  obtain ⟨rb, m, F, all, os, es, clock, rfl, hT⟩ := hq
  refine fn_of_body Try.func23 rfl rfl fun E => ?_
  simp only [argF, Try.ntmps23]
  refine gz ?_
  refine t_e (e_boxA rfl) rfl rfl rfl ?_
  rintro _ _ ⟨b3, hb3, rfl, rfl⟩
  have hk2 : ∀ lq : List Chunk, Keep (lq ++ (slC b3 s :: G)) (lq ++ G) := fun lq => Keep.trans (.of_perm List.perm_middle) (.drop .refl)
  refine s_keep (Keep.of_perm (l' := lq ++ (slC b3 s :: G)) List.perm_middle.symm) ?_
  have hsub : ∀ c, c ∈ lq → c ∈ lq ++ (slC b3 s :: G) := fun c hc => List.mem_append_left _ hc
  have hbm : slC b3 s ∈ lq ++ (slC b3 s :: G) := List.mem_append_right _ (.head _)
  refine gz ?_
  refine t_q (q_call rfl rfl fun l2 hl2 => of_any b rb m F all os es clock lq s hT l2 fun c hc => hl2 c (hsub c hc)) rfl rfl rfl ?_
  cases hbk : blk F os s with
  | none =>
    rw [show removeD (dOf F os) s = (10, dOf F os) by unfold removeD; rw [split_none hbk]]
    simp only [ptrO]
    refine gz ?_
    exact k_ret [] rfl (l' := lq ++ G) (hk2 lq) (by exact zRes) ⟨rfl, lq, ⟨rb, m, F, all, os, es, clock, rfl, hT⟩, rfl⟩
  | some p =>
    obtain ⟨A, B, rfl, h2⟩ := split_blk hbk
    have hps := (blk_some hbk).2
    obtain ⟨oA, oB, rA, rB, prb⟩ := hT.out
    obtain ⟨uA, uB⟩ := hT.uniq
    have hBn : B.Nodup := (List.nodup_cons.1 (List.nodup_append.1 (List.nodup_cons.1 hT.ond).2).2.1).2
    obtain ⟨tw, htw⟩ : ∃ tw, tw = B.takeWhile fun q => decide ((F p).dp < (F q).dp) := ⟨_, rfl⟩
    have htwB : ∀ q, q ∈ tw → q ∈ B := fun q hq => by rw [htw] at hq; exact (List.takeWhile_prefix _).subset hq
    have hpa : p ∈ all := hT.sub p (by simp)
    rw [show removeD (dOf F (A ++ p :: B)) s = (0, dOf F A ++ dOf (decF F tw) B) by unfold removeD; rw [h2]; simp only; rw [htw, dOf_dec hBn]]
    simp only [ptrO]
    refine gz ?_
    refine t_e (e_call rfl rfl (below_any _ _ _)) rfl rfl rfl ?_
    rintro v l' ⟨C1, C2, rfl, rfl⟩
    refine gz ?_
    refine c_range (α := Nat) (ps := [19]) (lb := [.pointer (some ⟨C2, 0, none⟩), .pointer (some ⟨C1, 0, none⟩)]) rfl (below_iter C1 C2 b rb m p F all (A ++ p :: B) es clock lq hT (rb :: A) B rfl) (fun _ => rfl) rfl
      (fun pre l => l = bxL C1 p :: bxT C2 b :: trC b rb m :: (m, mapS encT es clock) :: chs (decF F pre) all)
      (fun c pre l => False)
      _ (slC b3 s :: G) (fun pre l2 X2 hX h => by
        subst h
        refine ⟨.head _, .tail _ (.head _), .tail _ (.tail _ (.head _)), fun q hq => ?_⟩
        have hqa : q ∈ all := by
          rcases List.mem_cons.1 hq with rfl | hq
          · exact hT.rin
          · exact hT.sub q hq
        exact ⟨decF F pre q, .tail _ (.tail _ (.tail _ (.tail _ (List.mem_append_left _ (chs_mem hqa))))), (decF_links F pre q).2.1, fun hn => by rw [decF_out hn]⟩)
      (by rw [hT.eq, chs_congr (F := F) (F' := decF F []) fun q _ => (decF_out (by simp)).symm]; exact .refl) rfl ?_ ?_ ?_
    · rintro E r0 rec pre y l' T ⟨fn, tmps, Dd, rfl⟩ hT0 rfl hsp
      have hyB : y ∈ B := htwB y (by rw [htw]; exact hsp.subset (by simp))
      have hya : y ∈ all := hT.sub y (List.mem_append_right _ (.tail _ hyB))
      have hyp : y ∉ pre := fun h => by
        have h1 : (pre ++ [y]).Nodup := (hsp.trans (List.takeWhile_prefix _)).sublist.nodup hBn
        exact (List.nodup_append.1 h1).2.2 y h y (by simp) rfl
      have hr := hd _ (List.mem_map.2 ⟨y, List.mem_append_right _ (.tail _ hyB), rfl⟩)
      simp only at hr
      simp only [putPs, List.cons_append, List.nil_append]
      refine gz ?_
      refine p_begin (.there (.there (.there (.there (upd_mid _ _ _ _ _))))) ?_
      generalize hX1 : (r0, Obj.loop (recOf fn tmps _ _ _ Dd .busy none)) :: T = X1
      have hmy : ndC y (F y) ∈ chs (decF F pre) all ++ X1 := List.mem_append_left _ (by have := chs_mem (F := decF F pre) hya; rw [decF_out hyp] at this; exact this)
      refine gz ?_
      have hu := chs_upd (F := decF F pre) { F y with dp := (F y).dp - 1 } hT.nd hya
      rw [decF_out hyp, decF_snoc hyp] at hu
      refine t_n (e_store (b := y) (off := 2) (cs := List.toArray (F y).cells) rfl rfl rfl (.there (.there (.there (.there (upd_left hu _))))) (by simp)) rfl rfl ?_
      rintro _ _ ⟨rfl, rfl⟩
      refine gz ?_
      rw [← hX1]
      exact p_round (_ :: _ :: _ :: _ :: chs (decF F (pre ++ [y])) all) .refl rfl
    · rintro Dd xs l' rfl rfl
      rw [← htw]
      simp only [List.cons_append, List.nil_append]
      obtain ⟨F1, hF1⟩ : ∃ F1, F1 = decF F tw := ⟨_, rfl⟩
      have e1 : ∀ q, (F1 q).sl = (F q).sl ∧ (F1 q).nx = (F q).nx ∧ (F1 q).pv = (F q).pv := fun q => by rw [hF1]; exact decF_links F tw q
      have e1o : ∀ q, q ∉ tw → F1 q = F q := fun q hq => by rw [hF1]; exact decF_out hq
      rw [← hF1]
      refine p_keep (l' := markC Dd :: trC b rb m :: (m, mapS encT es clock) :: (chs F1 all ++ (slC b3 s :: G))) (by exact zKeep) ?_
      obtain ⟨X, pp, hXp⟩ : ∃ X pp, rb :: A = X ++ [pp] := ⟨_, _, (List.dropLast_concat_getLast (List.cons_ne_nil rb A)).symm⟩
      obtain ⟨nn, Z, hnZ⟩ : ∃ nn Z, B ++ [rb] = nn :: Z := by cases B with | nil => exact ⟨_, _, rfl⟩ | cons y Y => exact ⟨_, _, rfl⟩
      have hL : rb :: (A ++ p :: B ++ [rb]) = X ++ pp :: p :: nn :: Z := by
        have : rb :: (A ++ p :: B ++ [rb]) = (rb :: A) ++ (p :: (B ++ [rb])) := by simp
        rw [this, hXp, hnZ]; simp
      have hadj := hT.adj
      rw [hL] at hadj
      have hpp := (adj_at hadj).2
      have hnn : (F p).nx = nn := (adj_at (X := X ++ [pp]) (p := p) (n := nn) (Z := Z) (by simpa using hadj)).1
      have hcyc : ∀ q, q ∈ X ++ pp :: p :: nn :: Z → q ∈ all := fun q hq => by
        rw [← hL] at hq
        rcases List.mem_cons.1 hq with rfl | hq
        · exact hT.rin
        · rcases List.mem_append.1 hq with hq | hq
          · exact hT.sub q hq
          · rw [List.mem_singleton.1 hq]; exact hT.rin
      have hppa : pp ∈ all := hcyc pp (by simp)
      have hnna : nn ∈ all := hcyc nn (by simp)
      have hp1 : F1 p = F p := e1o p fun h => oB (htwB p h)
      have hmp : ∀ d : Chunk, ndC p (F p) ∈ d :: trC b rb m :: (m, mapS encT es clock) :: (chs F1 all ++ (slC b3 s :: G)) := fun d => .tail _ (.tail _ (.tail _ (List.mem_append_left _ (by have := chs_mem (F := F1) hpa; rw [hp1] at this; exact this))))
      refine gz ?_
      refine c_draw [(0, true), (1, true), (2, true), (3, true), (4, true), (5, true), (6, true), (7, true), (8, true), (9, true), (10, true), (11, true), (12, true), (13, true), (14, true), (15, true), (16, true), (17, true), (18, false), (19, true), (20, true), (21, false)] [[], [0], [0, 1], [0, 1, 2], [], [4], [4, 5], [4, 5, 6], [], [8], [8, 9], [8, 9, 10], [], [12], [12, 13], [12, 13, 14], [0, 1, 2, 3, 4, 5, 6, 7, 8, 9, 10, 11, 12, 13, 14, 15], [0, 1, 2, 3, 4, 5, 6, 7, 8, 9, 10, 11, 12, 13, 14, 15, 16], [0, 1, 2, 3, 4, 5, 6, 7, 8, 9, 10, 11, 12, 13, 14, 15, 16, 17], [0, 1, 2, 3, 4, 5, 6, 7, 8, 9, 10, 11, 12, 13, 14, 15, 16, 17, 18], [0, 1, 2, 3, 4, 5, 6, 7, 8, 9, 10, 11, 12, 13, 14, 15, 16, 17, 18, 19], [0, 1, 2, 3, 4, 5, 6, 7, 8, 9, 10, 11, 12, 13, 14, 15, 16, 17, 18, 19, 20]] ([]) (by kernel_rfl) (by kernel_rfl) zAtt zHR ?_
      refine pz ?_
      apply pl_s (S := [ndC p (F p)]); (· exact zLd); (· exact sing_mem (hmp _)); (· rfl); (· rfl); (· rfl)
      refine pz ?_
      apply pl_s (S := [ndC p (F p)]); (· exact zLd); (· exact sing_mem (hmp _)); (· rfl); (· rfl); (· rfl)
      refine pz ?_
      apply pl_s (S := [ndC p (F p)]); (· exact zLd); (· exact sing_mem (hmp _)); (· rfl); (· rfl); (· rfl)
      refine pz ?_
      apply pl_s (S := [ndC p (F p)]); (· exact zLd); (· exact sing_mem (hmp _)); (· rfl); (· rfl); (· rfl)
      rw [hpp, hnn]
      refine pz ?_
      obtain ⟨F2, hF2⟩ : ∃ F2, F2 = upd F1 pp { F1 pp with nx := nn } := ⟨_, rfl⟩
      obtain ⟨F3, hF3⟩ : ∃ F3, F3 = upd F2 nn { F2 nn with pv := pp } := ⟨_, rfl⟩
      apply pl_nS
      · exact e_store (b := pp) (off := 4) (cs := List.toArray (F1 pp).cells) rfl rfl rfl (.there (.there (.there (upd_left (chs_upd { F1 pp with nx := nn } hT.nd hppa) _)))) (by simp)
      (· rfl); (· rfl); (· intro _ _ _ c hc; cases hc); (· exact fun _ _ _ x hx ha => anc_all (by kernel_rfl) hx ha)
      rintro _ _ ⟨rfl, rfl⟩
      rw [← hF2]
      refine pz ?_
      apply pl_nS
      · exact e_store (b := nn) (off := 3) (cs := List.toArray (F2 nn).cells) rfl rfl rfl (.there (.there (.there (upd_left (chs_upd { F2 nn with pv := pp } hT.nd hnna) _)))) (by simp)
      (· rfl); (· rfl); (· intro _ _ _ c hc; cases hc); (· exact fun _ _ _ x hx ha => anc_all (by kernel_rfl) hx ha)
      rintro _ _ ⟨rfl, rfl⟩
      rw [← hF3]
      refine pz ?_
      refine gz ?_
      refine c_draw [(0, true), (1, true), (2, true), (3, true), (4, true), (5, false)] [[], [0], [0, 1], [0, 1, 2], [], [0, 1, 2, 3, 4]] ([]) (by kernel_rfl) (by kernel_rfl) zAtt zHR ?_
      refine pz ?_
      apply pl_s (S := [trC b rb m]); (· exact zLd); (· exact sing_mem (.tail _ (.head _))); (· rfl); (· rfl); (· rfl)
      refine pz ?_
      apply pl_s (S := [slC b3 s]); (· exact zLd); (· exact sing_mem (.tail _ (.tail _ (.tail _ (List.mem_append_right _ (.head _)))))); (· rfl); (· rfl); (· rfl)
      refine pz ?_
      apply pl_nS
      · apply e_deleteS (enc := encT) (a := s) (es := es) (clock := clock) (ks := [some .i64, some .i64])
        · rfl
        · rfl
        · exact encT_ok
        · exact zUpd
      (· rfl); (· rfl); (· intro _ _ _ c hc; cases hc); (· exact fun _ _ _ x hx ha => anc_all (by kernel_rfl) hx ha)
      rintro _ _ ⟨rfl, rfl⟩
      refine pz ?_
      refine gz ?_
      have e3 : ∀ q, (F3 q).sl = (F q).sl ∧ (F3 q).dp = (F1 q).dp := fun q => by
        rw [← (e1 q).1, hF3, hF2]; unfold upd
        split <;> split <;> simp_all
      have e3n : ∀ q, (F3 q).nx = if q = pp then nn else (F q).nx := fun q => by
        rw [← (e1 q).2.1, hF3, hF2]; unfold upd
        split <;> split <;> simp_all
      have e3p : ∀ q, (F3 q).pv = if q = nn then pp else (F q).pv := fun q => by
        rw [← (e1 q).2.2, hF3, hF2]; unfold upd
        split <;> split <;> simp_all
      have eA : ∀ q, q ∈ A → (F3 q).sl = (F q).sl ∧ (F3 q).dp = (F q).dp := fun q hq => by
        refine ⟨(e3 q).1, ?_⟩
        rw [(e3 q).2, e1o q fun h => ?_]
        have hn := (List.nodup_cons.1 hT.ond).2
        exact (List.nodup_append.1 hn).2.2 q hq q (.tail _ (htwB q h)) rfl
      obtain ⟨lq', hlq'⟩ : ∃ lq', lq' = trC b rb m :: (m, mapS encT (delS s es) clock) :: chs F3 all := ⟨_, rfl⟩
      refine k_ret2 [Dd] (trC b rb m :: (m, mapS encT (delS s es) clock) :: (chs F3 all ++ (slC b3 s :: G))) rfl (l' := lq' ++ G) .refl (by exact zRes) ?_ ⟨rfl, lq', ⟨rb, m, F3, all, A ++ B, _, _, ?_, ⟨hlq', hT.nd, hT.rin, fun q hq => hT.sub q ?_, ?_, ?_, ?_, hT.keys.del s, fun s' => ?_⟩⟩, rfl⟩
      · have h9 := hk2 lq'; rw [hlq'] at h9; rw [hlq']; exact h9
      · show dOf F3 (A ++ B) = dOf F A ++ dOf F1 B
        have : dOf F3 (A ++ B) = dOf F3 A ++ dOf F3 B := by unfold dOf; rw [List.map_append]
        rw [this, dOf_congr (F := F) (F' := F3) (os := A) eA, dOf_congr (F := F1) (F' := F3) (os := B) fun q hq => ⟨by rw [(e3 q).1, (e1 q).1], (e3 q).2⟩]
      · rcases List.mem_append.1 hq with hq | hq
        · exact List.mem_append_left _ hq
        · exact List.mem_append_right _ (.tail _ hq)
      · exact hT.ond.sublist (List.Sublist.cons_cons _ (List.Sublist.append_left (List.sublist_cons_self _ _) _))
      · have hL2 : rb :: (A ++ B ++ [rb]) = X ++ pp :: nn :: Z := by
          have : rb :: (A ++ B ++ [rb]) = (rb :: A) ++ (B ++ [rb]) := by simp
          rw [this, hXp, hnZ]; simp
        rw [hL2]
        refine adj_remove hadj ?_ ?_ (fun u h1 => ?_) (fun v h1 => ?_) ?_ ?_
        · rw [← hL, ← List.cons_append, List.dropLast_concat]; exact hT.ond
        · rw [← hL, List.tail_cons, List.nodup_append]
          have := List.nodup_cons.1 hT.ond
          exact ⟨this.2, by simp, fun a ha c hc e => this.1 (by rw [List.mem_singleton.1 hc] at e; rw [← e]; exact ha)⟩
        · rw [e3n, if_neg h1]
        · rw [e3p, if_neg h1]
        · rw [e3n, if_pos rfl]
        · rw [e3p, if_pos rfl]
      · rw [show (A ++ B).map (fun q => (F3 q).sl) = (A ++ B).map (fun q => (F q).sl) from List.map_congr_left fun q _ => (e3 q).1]
        exact hT.snd.sublist ((List.Sublist.append_left (List.sublist_cons_self _ _) _).map _)
      · show _ = (blk F3 (A ++ B) s').map _
        rw [getS_del hT.keys, hT.get]
        show (if s' = s then none else (blk F (A ++ p :: B) s').map _) = _
        rw [blk_congr (F := F) (F' := F3) fun q _ => (e3 q).1, blk_app, hps]
        have hAB : blk F (A ++ B) s' = (blk F A s').or (blk F B s') := by unfold blk; rw [List.find?_append]
        rw [hAB]
        by_cases hss : s' = s
        · subst hss
          rw [hps] at uA uB
          rw [if_pos rfl, blk_none_iff.2 uA, blk_none_iff.2 uB]; rfl
        · rw [if_neg hss, if_neg (show ¬ s = s' from fun e => hss e.symm)]
    · rintro Dd c pre l' hsp h
      exact h.elim
end Go.Proofs.Ytpplknmmjlgadaa.Tr

/- The tree: Swap. -/
set_option linter.unusedVariables false
set_option linter.unusedSimpArgs false
namespace Go.Proofs.Ytpplknmmjlgadaa.Tr
open Go.RowKit
set_option maxRecDepth 20000
set_option maxRecDepth 20000

section
variable {P : Program} {ro : Option Nat} {N : Nat} {fr : Fr} {R : List Chunk} {d : Option Nat} {ty t t2 : TypeId} {pos : String} {aft : Array Edge} {g : Option (Nat × Bool)} {x y : Operand}
theorem q_eqnilL {p : Option Addr} {e : Nat} (hx : ev fr x = some (.pointer none)) (hy : ev fr y = some (.pointer p)) [c : PT P t e] : OpQ P ro N fr R ⟨d, .binOp .eql t x y t2, ty, pos, aft, g⟩ (.bool p.isNone) := opQ_of_sl rfl fun ρ l hρ _ => by
  simp only [execOp, hρ x _ hx, hρ y _ hy, sl_bind, eqGuard_ptr, sl_pure, binOp]
  unfold Op.equal Op.maxDepth Op.equalIn
  rw [sl_under (ptV_spec c.out)]
  cases p <;> exact ⟨rfl, rfl⟩
end
theorem eqp_t (q : Nat) : decide ((⟨q, 0, none⟩ : Addr) = ⟨q, 0, none⟩) = true := decide_eq_true rfl
theorem eqp_f {q r : Nat} (h : q ≠ r) : decide ((⟨q, 0, none⟩ : Addr) = ⟨r, 0, none⟩) = false := decide_eq_false fun e => h (by injection e)
theorem set_has {κ : Type} [DecidableEq κ] {a : κ} {u : Value} {es : List (EntS κ)} {clock : Nat} (hk : KeysOk es clock) (h : getS a es = some u) (v : Value) : ∃ A e B, es = A ++ e :: B ∧ e.1 = a ∧ (∀ x ∈ A, x.1 ≠ a) ∧ (∀ x ∈ A, x.2.2 ≠ e.2.2) ∧ A ++ (e.1, v, e.2.2) :: B = (setS a v clock es).1 ∧ (setS a v clock es).2 = clock := by
  unfold getS at h
  cases hf : findS a es 0 with
  | none => rw [hf] at h; cases h
  | some p =>
    obtain ⟨k, w⟩ := p
    obtain ⟨A, e, B, rfl, rfl, h1, h2, h3⟩ := findS_some hf
    have hm : (A ++ e :: B).modify A.length (fun x => (x.1, v, x.2.2)) = A ++ (e.1, v, e.2.2) :: B := modify_mid _ e B A
    refine ⟨A, e, B, rfl, h1, h3, fun x hx e' => ?_, ?_, ?_⟩
    · have hs := hk.stamps
      rw [List.map_append, List.map_cons] at hs
      exact (List.nodup_append.1 hs).2.2 _ (List.mem_map.2 ⟨x, hx, rfl⟩) _ List.mem_cons_self e'
    · unfold setS; rw [hf]; exact hm.symm
    · unfold setS; rw [hf]
def swpS (a c : SlotT) (x : SlotT × Int) : SlotT × Int := if x.1 = a then (c, x.2) else if x.1 = c then (a, x.2) else x
def swapD (D : DT) (a c : SlotT) : DT := D.map (swpS a c)
theorem swpS_self (a : SlotT) (x : SlotT × Int) : swpS a a x = x := by
  unfold swpS
  by_cases h : x.1 = a
  · rw [if_pos h, ← h]
  · rw [if_neg h, if_neg h]
def swf (a c s : SlotT) : SlotT := if s = a then c else if s = c then a else s
theorem swpS_fst (a c : SlotT) (x : SlotT × Int) : (swpS a c x).1 = swf a c x.1 := by
  unfold swpS swf
  by_cases h : x.1 = a
  · rw [if_pos h, if_pos h]
  · rw [if_neg h, if_neg h]
    by_cases h2 : x.1 = c
    · rw [if_pos h2, if_pos h2]
    · rw [if_neg h2, if_neg h2]
theorem swf_swf (a c s : SlotT) : swf a c (swf a c s) = s := by
  unfold swf
  by_cases h : s = a
  · rw [if_pos h]
    by_cases h3 : c = a
    · rw [if_pos h3, h, h3]
    · rw [if_neg h3, if_pos rfl, h]
  · rw [if_neg h]
    by_cases h2 : s = c
    · rw [if_pos h2, if_pos rfl, h2]
    · rw [if_neg h2, if_neg h, if_neg h2]
theorem swpS_inj {a c : SlotT} {x y : SlotT × Int} (h : (swpS a c x).1 = (swpS a c y).1) : x.1 = y.1 := by
  rw [swpS_fst, swpS_fst] at h
  rw [← swf_swf a c x.1, h, swf_swf]
theorem swpS_comm (a c : SlotT) (x : SlotT × Int) : swpS a c x = swpS c a x := by
  unfold swpS
  by_cases h : x.1 = a
  · by_cases h2 : x.1 = c
    · rw [if_pos h, if_pos h2, ← h, ← h2]
    · rw [if_pos h, if_neg h2, if_pos h]
  · rw [if_neg h, if_neg h]
theorem swapD_comm (D : DT) (a c : SlotT) : swapD D a c = swapD D c a := List.map_congr_left fun x _ => swpS_comm a c x
theorem swapD_id {F : Nat → NdT} {os : List Nat} {a c : SlotT} (ha : ∀ q, q ∈ os → (F q).sl ≠ a) (hc : ∀ q, q ∈ os → (F q).sl ≠ c) : swapD (dOf F os) a c = dOf F os := by
  unfold swapD dOf
  rw [List.map_map]
  exact List.map_congr_left fun q hq => by
    show swpS a c ((F q).sl, (F q).dp) = _
    unfold swpS
    rw [if_neg (ha q hq), if_neg (hc q hq)]
theorem swap_move {b rb m : Nat} {F : Nat → NdT} {all os : List Nat} {es : List (EntS SlotT)} {clock : Nat} {lq : List Chunk} (hT : TB b rb m F all os es clock lq) {a c : SlotT} {p : Nat} (h1 : blk F os a = some p) (h2 : blk F os c = none) : moveD (dOf F os) a c = (0, swapD (dOf F os) a c) := by
  unfold moveD
  obtain ⟨A, B, rfl, hs⟩ := split_blk h1
  have hps := (blk_some h1).2
  rw [hs]
  simp only
  rw [has_blk, h2]
  simp only [Option.isSome_none, Bool.false_eq_true, if_false]
  obtain ⟨uA, uB⟩ := hT.uniq
  rw [hps] at uA uB
  have hno := blk_none h2
  have e : swapD (dOf F (A ++ p :: B)) a c = swapD (dOf F A) a c ++ swpS a c ((F p).sl, (F p).dp) :: swapD (dOf F B) a c := by
    unfold swapD dOf; rw [List.map_append, List.map_cons, List.map_append, List.map_cons]
  rw [e, swapD_id uA fun q hq => hno q (List.mem_append_left _ hq), swapD_id uB fun q hq => hno q (List.mem_append_right _ (.tail _ hq))]
  congr 3
  unfold swpS; rw [if_pos hps]
set_option pp.deepTerms false
set_option pp.deepTerms.threshold 4
set_option maxHeartbeats 400000
theorem swap_any (b : Nat) (D : DT) (lq : List Chunk) (hq : IsT b D lq) (a c : SlotT) (G : List Chunk) :
    Fn Try.prog 35 [.pointer (some ⟨b, 0, none⟩), .agg (List.toArray (encT a)), .agg (List.toArray (encT c))] (lq ++ G) fun v l' => v = .int .i64 0 ∧ ∃ lq', IsT b (swapD D a c) lq' ∧ l' = lq' ++ G := by
  have hq0 := hq
  obtain ⟨rb, m, F, all, os, es, clock, rfl, hT⟩ := hq
  refine fn_of_body Try.func35 rfl rfl fun E => ?_
  simp only [argF, Try.ntmps35]
  refine gz ?_
  refine t_e (e_boxA rfl) rfl rfl rfl ?_
  rintro _ _ ⟨b4, hb4, rfl, rfl⟩
  refine gz ?_
  refine t_e (e_boxA rfl) rfl rfl rfl ?_
  rintro _ _ ⟨b5, hb5, rfl, rfl⟩
  have hk2 : ∀ lq : List Chunk, Keep (lq ++ (slC b5 c :: slC b4 a :: G)) (lq ++ G) := fun lq => Keep.trans (.of_perm (List.perm_append_comm_assoc lq [slC b5 c, slC b4 a] G)) (.drop (.drop .refl))
  refine s_keep (Keep.of_perm (l' := lq ++ (slC b5 c :: slC b4 a :: G)) (List.perm_append_comm_assoc [slC b5 c, slC b4 a] lq G)) ?_
  have hsub : ∀ x, x ∈ lq → x ∈ lq ++ (slC b5 c :: slC b4 a :: G) := fun x hx => List.mem_append_left _ hx
  have hm4 : slC b4 a ∈ lq ++ (slC b5 c :: slC b4 a :: G) := List.mem_append_right _ (.tail _ (.head _))
  have hm5 : slC b5 c ∈ lq ++ (slC b5 c :: slC b4 a :: G) := List.mem_append_right _ (.head _)
  refine gz ?_
  refine c_draw [(0, true), (1, true), (2, true), (3, true), (4, true), (5, true), (6, true), (7, true)] [[], [], [0, 1], [], [], [0, 1, 2, 3, 4], [0, 1, 2, 3, 4, 5], [0, 1, 2, 3, 4, 5, 6]] _ (by kernel_rfl) (by kernel_rfl) zAtt (fun _ h => h) ?_
  refine pz ?_
  apply pl_q
  · exact q_call rfl rfl fun l2 hl2 => of_any b rb m F all os es clock lq a hT l2 fun x hx => hl2 x (hsub x hx)
  · rfl
  · rfl
  · rfl
  refine pz ?_
  apply pl_q
  · exact q_call rfl rfl fun l2 hl2 => of_any b rb m F all os es clock lq c hT l2 fun x hx => hl2 x (hsub x hx)
  · rfl
  · rfl
  · rfl
  refine pz ?_
  cases hba : blk F os a with
  | none =>
    cases hbc : blk F os c with
    | none =>
      rw [swapD_id (blk_none hba) (blk_none hbc)]
      simp only [ptrO]
      refine gz ?_
      exact k_ret [] rfl (l' := lq ++ G) (hk2 lq) (by exact zRes) ⟨rfl, lq, hq0, rfl⟩
    | some y =>
      simp only [ptrO]
      refine gz ?_
      refine t_q (q_eqnilL rfl rfl) rfl rfl rfl ?_
      refine gz ?_
      have hmv := move_any b (dOf F os) lq hq0 c a (slC b5 c :: slC b4 a :: G)
      rw [swap_move hT hbc hba, swapD_comm] at hmv
      refine t_e (e_call0 rfl rfl hmv) rfl rfl rfl ?_
      rintro _ _ ⟨rfl, lq', hq', rfl⟩
      refine gz ?_
      exact k_ret [] rfl (l' := lq' ++ G) (hk2 lq') (by exact zRes) ⟨rfl, lq', hq', rfl⟩
  | some x =>
    cases hbc : blk F os c with
    | none =>
      simp only [ptrO]
      refine gz ?_
      have hmv := move_any b (dOf F os) lq hq0 a c (slC b5 c :: slC b4 a :: G)
      rw [swap_move hT hba hbc] at hmv
      refine t_e (e_call0 rfl rfl hmv) rfl rfl rfl ?_
      rintro _ _ ⟨rfl, lq', hq', rfl⟩
      refine gz ?_
      exact k_ret [] rfl (l' := lq' ++ G) (hk2 lq') (by exact zRes) ⟨rfl, lq', hq', rfl⟩
    | some y =>
      have hxs := blk_some hba
      have hys := blk_some hbc
      have hxa : x ∈ all := hT.sub x hxs.1
      have hya : y ∈ all := hT.sub y hys.1
      simp only [ptrO]
      refine gz ?_
      refine t_q (q_eqptr rfl rfl (by decide) (hsub _ (hT.m3 hxa)) (hsub _ (hT.m3 hya))) rfl rfl rfl ?_
      by_cases hac : a = c
      · subst hac
        rw [hba] at hbc
        obtain rfl : x = y := Option.some.inj hbc
        rw [eqp_t, show swapD (dOf F os) a a = dOf F os by unfold swapD; rw [List.map_congr_left fun z _ => swpS_self a z, List.map_id']]
        refine gz ?_
        exact k_ret [] rfl (l' := lq ++ G) (hk2 lq) (by exact zRes) ⟨rfl, lq, hq0, rfl⟩
      · have hxy : x ≠ y := fun e => hac (by rw [← hxs.2, ← hys.2, e])
        rw [eqp_f hxy]
        refine gz ?_
        refine c_keep (l' := trC b rb m :: slC b5 c :: slC b4 a :: (m, mapS encT es clock) :: (chs F all ++ G)) ?_ ?_
        · rw [hT.eq]
          refine Keep.of_perm (List.Perm.cons _ ?_)
          exact List.perm_append_comm_assoc ((m, mapS encT es clock) :: chs F all) [slC b5 c, slC b4 a] G
        obtain ⟨F1, hF1⟩ : ∃ F1, F1 = upd F x { F x with sl := c } := ⟨_, rfl⟩
        obtain ⟨F2, hF2⟩ : ∃ F2, F2 = upd F1 y { F1 y with sl := a } := ⟨_, rfl⟩
        refine gz ?_
        refine c_draw [(0, true), (1, true), (2, true), (3, true), (4, true), (5, true), (6, false), (7, true), (8, true), (9, false)] [[], [], [], [], [0, 2], [0, 2, 4], [0, 2, 4, 5], [0, 1, 2, 3, 4, 5, 6], [0, 1, 2, 3, 4, 5, 6, 7], [0, 1, 2, 3, 4, 5, 6, 7, 8]] ([slC b5 c, slC b4 a]) (by kernel_rfl) (by kernel_rfl) zAtt zHR ?_
        refine pz ?_
        apply pl_n
        · exact e_storeA (b := x) (off := 0) (cs := List.toArray (F x).cells) (n := 2) rfl rfl rfl (by simp [Value.oneCell']) (.there (.there (.there (.there (upd_left (chs_upd { F x with sl := c } hT.nd hxa) _))))) (by simp)
        · rfl
        · rfl
        · rintro _ _ ⟨rfl, rfl⟩; exact (List.Sublist.subset (by exact zSubl))
        rintro _ _ ⟨rfl, rfl⟩
        rw [← hF1]
        refine pz ?_
        apply pl_n
        · exact e_storeA (b := y) (off := 0) (cs := List.toArray (F1 y).cells) (n := 2) rfl rfl rfl (by simp [Value.oneCell']) (.there (.there (.there (.there (upd_left (chs_upd { F1 y with sl := a } hT.nd hya) _))))) (by simp)
        · rfl
        · rfl
        · rintro _ _ ⟨rfl, rfl⟩; exact (List.Sublist.subset (by exact zSubl))
        rintro _ _ ⟨rfl, rfl⟩
        rw [← hF2]
        refine pz ?_
        obtain ⟨A1, e1, B1, k1, k2, k3, k4, k5, k6⟩ := set_has (v := .pointer (some ⟨y, 0, none⟩)) hT.keys (a := a) (u := .pointer (some ⟨x, 0, none⟩)) (by rw [hT.get]; show (blk F os a).map _ = _; rw [hba]; rfl)
        have hkeys1 := hT.keys.set a (.pointer (some ⟨y, 0, none⟩))
        rw [k6] at hkeys1
        obtain ⟨A2, e2, B2, j1, j2, j3, j4, j5, j6⟩ := set_has (v := .pointer (some ⟨x, 0, none⟩)) hkeys1 (a := c) (u := .pointer (some ⟨y, 0, none⟩)) (by rw [getS_set, if_neg (fun e => hac e.symm), hT.get]; show (blk F os c).map _ = _; rw [hbc]; rfl)
        have hkeys2 := hkeys1.set c (.pointer (some ⟨x, 0, none⟩))
        rw [j6] at hkeys2
        obtain ⟨es1, hes1⟩ : ∃ es1, es1 = (setS a (.pointer (some ⟨y, 0, none⟩)) clock es).1 := ⟨_, rfl⟩
        obtain ⟨es2, hes2⟩ : ∃ es2, es2 = (setS c (.pointer (some ⟨x, 0, none⟩)) clock es1).1 := ⟨_, rfl⟩
        rw [← hes1] at k5 hkeys1 j1 j5 hkeys2
        rw [← hes2] at j5 hkeys2
        refine gz ?_
        refine c_draw [(0, true), (1, true), (2, true), (3, true), (4, true), (5, true), (6, true), (7, true), (8, true), (9, true), (10, true), (11, true), (12, false), (13, true), (14, false), (15, false), (16, true), (17, false)] [[], [0], [0, 1], [0, 1, 2], [], [], [5], [5, 6], [5, 6, 7], [], [], [], [0, 1, 2, 3, 4, 5, 6, 7, 8], [0, 1, 2, 3, 4, 5, 6, 7, 8, 12], [0, 1, 2, 3, 4, 5, 6, 7, 8, 10, 12, 13], [0, 1, 2, 3, 4, 5, 6, 7, 8, 9, 10, 12, 13, 14], [0, 1, 2, 3, 4, 5, 6, 7, 8, 9, 10, 12, 13, 14, 15], [0, 1, 2, 3, 4, 5, 6, 7, 8, 9, 10, 11, 12, 13, 14, 15, 16]] ([trC b rb m, slC b5 c, slC b4 a]) (by kernel_rfl) (by kernel_rfl) zAtt zHR ?_
        refine pz ?_
        apply pl_e
        · apply e_mapEntryS (enc := encT) (a := a) (es := es) (clock := clock) (ks := [some .i64, some .i64]) (A := A1) (e := e1) (B := B1) (m := m) (l' := [])
          · rfl
          · rfl
          · exact encT_ok
          · exact k1
          · exact k2
          · exact k3
          · exact zMem
        · rfl
        · rfl
        · rfl
        · rintro _ _ ⟨rfl, rfl⟩; exact (List.Sublist.subset (by exact zSubl))
        rintro _ _ ⟨rfl, rfl⟩
        refine pz ?_
        apply pl_n
        · apply e_entryStoreS (enc := encT) (es := es) (clock := clock) (A := A1) (e := e1) (B := B1) (m := m) (v := .pointer (some ⟨y, 0, none⟩))
          · rfl
          · rfl
          · rfl
          · exact k1
          · exact k4
          · rw [k5]; exact zUpd
        · rfl
        · rfl
        · rintro _ _ ⟨rfl, rfl⟩; exact (List.Sublist.subset (by exact zSubl))
        rintro _ _ ⟨rfl, rfl⟩
        refine pz ?_
        apply pl_e
        · apply e_mapEntryS (enc := encT) (a := c) (es := es1) (clock := clock) (ks := [some .i64, some .i64]) (A := A2) (e := e2) (B := B2) (m := m) (l' := [])
          · rfl
          · rfl
          · exact encT_ok
          · exact j1
          · exact j2
          · exact j3
          · exact zMem
        · rfl
        · rfl
        · rfl
        · rintro _ _ ⟨rfl, rfl⟩; exact (List.Sublist.subset (by exact zSubl))
        rintro _ _ ⟨rfl, rfl⟩
        refine pz ?_
        apply pl_n
        · apply e_entryStoreS (enc := encT) (es := es1) (clock := clock) (A := A2) (e := e2) (B := B2) (m := m) (v := .pointer (some ⟨x, 0, none⟩))
          · rfl
          · rfl
          · rfl
          · exact j1
          · exact j4
          · rw [j5]; exact zUpd
        · rfl
        · rfl
        · rintro _ _ ⟨rfl, rfl⟩; exact (List.Sublist.subset (by exact zSubl))
        rintro _ _ ⟨rfl, rfl⟩
        refine pz ?_
        refine gz ?_
        have elx : (F2 x).sl = c := by rw [hF2, upd_other _ _ _ _ hxy, hF1, upd_same]
        have ely : (F2 y).sl = a := by rw [hF2, upd_same]
        have elo : ∀ q, q ≠ x → q ≠ y → (F2 q).sl = (F q).sl := fun q h1 h2 => by rw [hF2, upd_other _ _ _ _ h2, hF1, upd_other _ _ _ _ h1]
        have el : ∀ q, (F2 q).nx = (F q).nx ∧ (F2 q).pv = (F q).pv ∧ (F2 q).dp = (F q).dp := fun q => by
          rw [hF2, hF1]; unfold upd; split <;> split <;> simp_all
        have hun : ∀ q r, q ∈ os → r ∈ os → (F q).sl = (F r).sl → q = r := fun q r hq hr e => by
          obtain ⟨A, B, rfl⟩ := List.append_of_mem hr
          obtain ⟨uA, uB⟩ := hT.uniq
          rcases List.mem_append.1 hq with hq | hq
          · exact absurd e (uA q hq)
          · rcases List.mem_cons.1 hq with rfl | hq
            · rfl
            · exact absurd e (uB q hq)
        have hsw : ∀ q, q ∈ os → ((F2 q).sl, (F2 q).dp) = swpS a c ((F q).sl, (F q).dp) := fun q hq => by
          unfold swpS
          by_cases h1 : q = x
          · rw [h1, elx, (el x).2.2]; simp only; rw [if_pos hxs.2]
          · by_cases h2 : q = y
            · rw [h2, ely, (el y).2.2]; simp only; rw [if_neg (by rw [hys.2]; exact fun e => hac e.symm), if_pos hys.2]
            · rw [elo q h1 h2, (el q).2.2]; simp only; rw [if_neg (fun e => h1 (hun q x hq hxs.1 (by rw [e, hxs.2]))), if_neg (fun e => h2 (hun q y hq hys.1 (by rw [e, hys.2])))]
        have hgt : ∀ s', getS s' es2 = (blk F2 os s').map fun p => .pointer (some ⟨p, 0, none⟩) := fun s' => by
          rw [hes2, getS_set, hes1, getS_set, hT.get]
          show (if s' = c then _ else if s' = a then _ else (blk F os s').map _) = _
          have huf : ∀ p, p ∈ os → (F2 p).sl = s' → (∀ q, q ∈ os → (F2 q).sl = s' → q = p) → blk F2 os s' = some p := fun p hp hps hu => by
            cases hb : blk F2 os s' with
            | none => exact absurd hps (blk_none hb p hp)
            | some q => rw [hu q (blk_some hb).1 (blk_some hb).2]
          by_cases h1 : s' = c
          · rw [if_pos h1, huf x hxs.1 (by rw [elx, h1]) fun q hq e => ?_]
            · rfl
            · by_cases hqx : q = x
              · exact hqx
              · by_cases hqy : q = y
                · rw [hqy, ely, h1] at e; exact absurd e hac
                · rw [elo q hqx hqy, h1, ← hys.2] at e
                  exact absurd (hun q y hq hys.1 e) hqy
          · rw [if_neg h1]
            by_cases h2 : s' = a
            · rw [if_pos h2, huf y hys.1 (by rw [ely, h2]) fun q hq e => ?_]
              · rfl
              · by_cases hqy : q = y
                · exact hqy
                · by_cases hqx : q = x
                  · rw [hqx, elx, h2] at e; exact absurd e.symm hac
                  · rw [elo q hqx hqy, h2, ← hxs.2] at e
                    exact absurd (hun q x hq hxs.1 e) hqx
            · rw [if_neg h2]
              cases hb : blk F os s' with
              | none =>
                rw [blk_none_iff.2 fun q hq e => ?_]
                by_cases hqx : q = x
                · rw [hqx, elx] at e; exact h1 e.symm
                · by_cases hqy : q = y
                  · rw [hqy, ely] at e; exact h2 e.symm
                  · rw [elo q hqx hqy] at e; exact blk_none hb q hq e
              | some p =>
                have hp := blk_some hb
                have hpx : p ≠ x := fun e => h2 (by rw [← hp.2, e, hxs.2])
                have hpy : p ≠ y := fun e => h1 (by rw [← hp.2, e, hys.2])
                rw [huf p hp.1 (by rw [elo p hpx hpy]; exact hp.2) fun q hq e => ?_]
                by_cases hqx : q = x
                · rw [hqx, elx] at e; exact absurd e.symm h1
                · by_cases hqy : q = y
                  · rw [hqy, ely] at e; exact absurd e.symm h2
                  · rw [elo q hqx hqy, ← hp.2] at e; exact hun q p hq hp.1 e
        have hD2 : dOf F2 os = swapD (dOf F os) a c := by
          unfold swapD dOf
          rw [List.map_map]
          exact List.map_congr_left fun q hq => hsw q hq
        have hsn : (os.map fun q => (F2 q).sl).Nodup := by
          rw [List.nodup_iff_pairwise_ne, List.pairwise_map]
          have hn := hT.snd
          rw [List.nodup_iff_pairwise_ne, List.pairwise_map] at hn
          refine hn.imp_of_mem fun {q r} hq hr hne e => hne ?_
          have h1 := hsw q hq
          have h2 := hsw r hr
          have e1 : (swpS a c ((F q).sl, (F q).dp)).1 = (swpS a c ((F r).sl, (F r).dp)).1 := by rw [← h1, ← h2]; exact e
          exact swpS_inj e1
        obtain ⟨lq', hlq'⟩ : ∃ lq', lq' = trC b rb m :: (m, mapS encT es2 clock) :: chs F2 all := ⟨_, rfl⟩
        refine k_ret [] rfl (l' := lq' ++ G) ?_ (by exact zRes) ⟨rfl, lq', ⟨rb, m, F2, all, os, es2, clock, hD2, ⟨hlq', hT.nd, hT.rin, hT.sub, hT.ond, adj_same hT.adj (fun u _ => (el u).1) (fun v _ => (el v).2.1), hsn, hkeys2, hgt⟩⟩, rfl⟩
        rw [hlq']
        simp only [List.cons_append]
        exact zKeep
end Go.Proofs.Ytpplknmmjlgadaa.Tr

/- The tree's plain law: acts, depths, slots. -/
set_option linter.unusedVariables false
set_option linter.unusedSimpArgs false
namespace Go.Proofs.Ytpplknmmjlgadaa.Tr
open Go.RowKit
set_option maxRecDepth 20000
set_option maxRecDepth 20000

abbrev ActT := Int × SlotT × SlotT
abbrev encA (x : ActT) : List Value := [.int .i64 x.1, .int .i64 x.2.1.1, .int .i64 x.2.1.2, .int .i64 x.2.2.1, .int .i64 x.2.2.2]
def actD (D : DT) (x : ActT) : DT := if x.1 = 0 then (rootD D x.2.1).2 else if x.1 = 1 then (childD D x.2.1 x.2.2).2 else if x.1 = 2 then (removeD D x.2.1).2 else if x.1 = 3 then (moveD D x.2.1 x.2.2).2 else if x.1 = 4 then swapD D x.2.1 x.2.2 else D
def playD (xs : List ActT) : DT := xs.foldl actD []
theorem playD_snoc (xs : List ActT) (x : ActT) : playD (xs ++ [x]) = actD (playD xs) x := by simp [playD]
/-- the first depth is at most e, each at most one more than the one ahead -/
def DepOk : Int → DT → Prop
  | _, [] => True
  | e, x :: r => 0 ≤ x.2 ∧ x.2 ≤ e ∧ DepOk (x.2 + 1) r
theorem DepOk.mono : ∀ {D : DT} {e f : Int}, DepOk e D → e ≤ f → DepOk f D
  | [], _, _, _, _ => trivial
  | x :: r, e, f, ⟨h1, h2, h3⟩, h => ⟨h1, by omega, h3⟩
theorem DepOk.bound : ∀ {D : DT} {e : Int}, DepOk e D → ∀ x, x ∈ D → 0 ≤ x.2 ∧ x.2 ≤ e + D.length
  | [], _, _, x, hx => by cases hx
  | y :: r, e, ⟨h1, h2, h3⟩, x, hx => by
    rw [List.length_cons]
    rcases List.mem_cons.1 hx with rfl | hx
    · exact ⟨h1, by omega⟩
    · have := DepOk.bound h3 x hx
      exact ⟨this.1, by omega⟩
def lastE : Int → DT → Int
  | e, [] => e
  | _, x :: r => lastE (x.2 + 1) r
theorem DepOk.app : ∀ {A B : DT} {e : Int}, DepOk e (A ++ B) ↔ DepOk e A ∧ DepOk (lastE e A) B
  | [], B, e => ⟨fun h => ⟨trivial, h⟩, fun h => h.2⟩
  | x :: A, B, e => by
    show 0 ≤ x.2 ∧ x.2 ≤ e ∧ DepOk (x.2 + 1) (A ++ B) ↔ (0 ≤ x.2 ∧ x.2 ≤ e ∧ DepOk (x.2 + 1) A) ∧ DepOk (lastE (x.2 + 1) A) B
    rw [DepOk.app (A := A)]
    exact ⟨fun ⟨h1, h2, h3, h4⟩ => ⟨⟨h1, h2, h3⟩, h4⟩, fun ⟨⟨h1, h2, h3⟩, h4⟩ => ⟨h1, h2, h3, h4⟩⟩
theorem DepOk.last : ∀ {A : DT} {e : Int}, DepOk e A → 0 ≤ e → 0 ≤ lastE e A
  | [], _, _, h => h
  | x :: A, e, ⟨h1, _, h3⟩, _ => by show 0 ≤ lastE (x.2 + 1) A; exact DepOk.last h3 (by omega)
theorem DepOk.dec {d : Int} (hd : 0 ≤ d) : ∀ {B : DT} {e f : Int}, DepOk e B → e ≤ f + 1 → d ≤ f → DepOk f (decW d B)
  | [], _, _, _, _, _ => trivial
  | x :: r, e, f, ⟨h1, h2, h3⟩, he, hf => by
    by_cases h : d < x.2
    · have e1 : decW d (x :: r) = (x.1, x.2 - 1) :: decW d r := by
        unfold decW
        rw [List.takeWhile_cons_of_pos (by simpa using h), List.dropWhile_cons_of_pos (by simpa using h)]; rfl
      rw [e1]
      refine ⟨by simp only; omega, by simp only; omega, ?_⟩
      exact DepOk.dec hd h3 (by simp only; omega) (by simp only; omega)
    · have e1 : decW d (x :: r) = x :: r := by
        unfold decW
        rw [List.takeWhile_cons_of_neg (by simpa using h), List.dropWhile_cons_of_neg (by simpa using h)]; rfl
      rw [e1]
      exact ⟨h1, by omega, h3⟩
theorem decW_fst (d : Int) (B : DT) : (decW d B).map Prod.fst = B.map Prod.fst := by
  unfold decW
  rw [List.map_append, List.map_map]
  have : (List.takeWhile (fun x : SlotT × Int => decide (d < x.2)) B).map (Prod.fst ∘ fun x => (x.1, x.2 - 1)) = (List.takeWhile (fun x : SlotT × Int => decide (d < x.2)) B).map Prod.fst := rfl
  rw [this, ← List.map_append, List.takeWhile_append_dropWhile]
theorem decW_len (d : Int) (B : DT) : (decW d B).length = B.length := by
  have := congrArg List.length (decW_fst d B); simpa using this
structure GoodT (D : DT) (n : Nat) : Prop where
  nd : (D.map Prod.fst).Nodup
  dep : DepOk 0 D
  len : D.length ≤ n
theorem GoodT.small {D : DT} {n : Nat} (h : GoodT D n) (hn : n ≤ 1000000) : SmallD D := fun x hx => by
  have := h.dep.bound x hx
  have := h.len
  omega
theorem splitD_some {s : SlotT} : ∀ {D A B : DT} {d : Int}, splitD s D = some (A, d, B) → D = A ++ (s, d) :: B ∧ ∀ x, x ∈ A → x.1 ≠ s
  | [], _, _, _, h => by cases h
  | y :: r, A, B, d, h => by
    unfold splitD at h
    by_cases e : y.1 = s
    · rw [if_pos e] at h
      cases h
      refine ⟨by rw [← e]; rfl, by simp⟩
    · rw [if_neg e] at h
      cases h2 : splitD s r with
      | none => rw [h2] at h; cases h
      | some z =>
        rw [h2] at h
        obtain ⟨A', d', B'⟩ := z
        cases h
        obtain ⟨rfl, h3⟩ := splitD_some h2
        refine ⟨rfl, fun x hx => ?_⟩
        rcases List.mem_cons.1 hx with rfl | hx
        · exact e
        · exact h3 x hx
theorem splitD_none {s : SlotT} : ∀ {D : DT}, splitD s D = none ↔ ∀ x, x ∈ D → x.1 ≠ s
  | [] => ⟨fun _ x hx => (by cases hx), fun _ => rfl⟩
  | y :: r => by
    unfold splitD
    by_cases e : y.1 = s
    · rw [if_pos e]; exact ⟨fun h => (by cases h), fun h => absurd e (h y List.mem_cons_self)⟩
    · rw [if_neg e]
      constructor
      · intro h x hx
        have h2 : splitD s r = none := by cases h2 : splitD s r with | none => rfl | some z => rw [h2] at h; cases h
        rcases List.mem_cons.1 hx with rfl | hx
        · exact e
        · exact splitD_none.1 h2 x hx
      · intro h
        rw [splitD_none.2 fun x hx => h x (List.mem_cons_of_mem _ hx)]; rfl
theorem splitD_of {s : SlotT} {d : Int} {A B : DT} (h : ∀ x, x ∈ A → x.1 ≠ s) : splitD s (A ++ (s, d) :: B) = some (A, d, B) := by
  induction A with
  | nil => show splitD s ((s, d) :: B) = _; unfold splitD; rw [if_pos rfl]
  | cons y A ih =>
    show splitD s (y :: (A ++ (s, d) :: B)) = _
    unfold splitD
    rw [if_neg (h y List.mem_cons_self), ih fun x hx => h x (List.mem_cons_of_mem _ hx)]; rfl
theorem hasD_no {D : DT} {s : SlotT} : hasD D s = false ↔ ∀ x, x ∈ D → x.1 ≠ s := by
  unfold hasD
  rw [← splitD_none]
  cases splitD s D <;> simp
theorem hasD_yes {D : DT} {s : SlotT} : hasD D s = true ↔ s ∈ D.map Prod.fst := by
  constructor
  · intro h
    unfold hasD at h
    cases h2 : splitD s D with
    | none => rw [h2] at h; cases h
    | some z =>
      obtain ⟨A, d, B⟩ := z
      rw [(splitD_some h2).1]; simp
  · intro h
    cases h2 : hasD D s with
    | true => rfl
    | false =>
      obtain ⟨x, hx, rfl⟩ := List.mem_map.1 h
      exact absurd rfl (hasD_no.1 h2 x hx)
theorem GoodT.mono {D : DT} {n m : Nat} (h : GoodT D n) (hm : n ≤ m) : GoodT D m := ⟨h.nd, h.dep, Nat.le_trans h.len hm⟩
theorem GoodT.root {D : DT} {n : Nat} (h : GoodT D n) (s : SlotT) : GoodT (rootD D s).2 (n + 1) := by
  unfold rootD
  by_cases hs : hasD D s = true
  · rw [if_pos hs]; exact h.mono (by omega)
  · rw [if_neg hs]
    have hno := hasD_no.1 (by simpa using hs)
    refine ⟨?_, DepOk.app.2 ⟨h.dep, by simp only; omega, h.dep.last (by omega), trivial⟩, by have := h.len; simp; omega⟩
    rw [List.map_append, List.nodup_append]
    refine ⟨h.nd, by simp, fun a ha c hc e => ?_⟩
    obtain ⟨x, hx, rfl⟩ := List.mem_map.1 ha
    exact hno x hx (by rw [e]; simpa using hc)
theorem GoodT.child {D : DT} {n : Nat} (h : GoodT D n) (p s : SlotT) : GoodT (childD D p s).2 (n + 1) := by
  unfold childD
  cases h2 : splitD p D with
  | none => exact h.mono (by omega)
  | some z =>
    obtain ⟨A, d, B⟩ := z
    simp only
    by_cases hs : hasD D s = true
    · rw [if_pos hs]; exact h.mono (by omega)
    · rw [if_neg hs]
      have hno := hasD_no.1 (by simpa using hs)
      obtain ⟨rfl, hA⟩ := splitD_some h2
      obtain ⟨h3, h4, h5, h6⟩ := DepOk.app.1 h.dep
      refine ⟨?_, DepOk.app.2 ⟨h3, h4, h5, by simp only; omega, by simp only; omega, h6.mono (by simp only; omega)⟩, by have := h.len; simp at this ⊢; omega⟩
      have hp : ((A ++ (p, d) :: (s, d + 1) :: B).map Prod.fst).Perm (s :: (A ++ (p, d) :: B).map Prod.fst) := by
        have : (A ++ (p, d) :: (s, d + 1) :: B).Perm ((s, d + 1) :: (A ++ (p, d) :: B)) := by
          have e : A ++ (p, d) :: (s, d + 1) :: B = (A ++ [(p, d)]) ++ (s, d + 1) :: B := by simp
          have e2 : A ++ (p, d) :: B = (A ++ [(p, d)]) ++ B := by simp
          rw [e, e2]; exact List.perm_middle
        exact this.map _
      rw [hp.nodup_iff, List.nodup_cons]
      refine ⟨fun hm => ?_, h.nd⟩
      obtain ⟨x, hx, e⟩ := List.mem_map.1 hm
      exact hno x hx e
theorem GoodT.remove {D : DT} {n : Nat} (h : GoodT D n) (s : SlotT) : GoodT (removeD D s).2 n := by
  unfold removeD
  cases h2 : splitD s D with
  | none => exact h
  | some z =>
    obtain ⟨A, d, B⟩ := z
    simp only
    obtain ⟨rfl, hA⟩ := splitD_some h2
    obtain ⟨h3, h4, h5, h6⟩ := DepOk.app.1 h.dep
    refine ⟨?_, DepOk.app.2 ⟨h3, h6.dec h4 (by simp only at h5 ⊢; omega) h5⟩, by have := h.len; rw [List.length_append, decW_len]; simp at this ⊢; omega⟩
    rw [List.map_append, decW_fst, ← List.map_append]
    exact h.nd.sublist ((List.Sublist.append_left (List.sublist_cons_self _ _) _).map _)
theorem GoodT.move {D : DT} {n : Nat} (h : GoodT D n) (a c : SlotT) : GoodT (moveD D a c).2 n := by
  unfold moveD
  cases h2 : splitD a D with
  | none => exact h
  | some z =>
    obtain ⟨A, d, B⟩ := z
    simp only
    by_cases hs : hasD D c = true
    · rw [if_pos hs]; exact h
    · rw [if_neg hs]
      have hno := hasD_no.1 (by simpa using hs)
      obtain ⟨rfl, hA⟩ := splitD_some h2
      obtain ⟨h3, h4, h5, h6⟩ := DepOk.app.1 h.dep
      refine ⟨?_, DepOk.app.2 ⟨h3, h4, h5, h6⟩, by have := h.len; simp at this ⊢; omega⟩
      have hn := h.nd
      rw [List.map_append, List.map_cons] at hn ⊢
      have hn2 := List.nodup_cons.1 (List.perm_middle.nodup_iff.1 hn)
      refine List.perm_middle.nodup_iff.2 (List.nodup_cons.2 ⟨fun hm => ?_, hn2.2⟩)
      rcases List.mem_append.1 hm with hm | hm
      · obtain ⟨x, hx, e⟩ := List.mem_map.1 hm; exact hno x (List.mem_append_left _ hx) e
      · obtain ⟨x, hx, e⟩ := List.mem_map.1 hm; exact hno x (List.mem_append_right _ (.tail _ hx)) e
theorem DepOk.map {f : SlotT × Int → SlotT × Int} (hf : ∀ x, (f x).2 = x.2) : ∀ {D : DT} {e : Int}, DepOk e D → DepOk e (D.map f)
  | [], _, _ => trivial
  | x :: r, e, ⟨h1, h2, h3⟩ => by
    refine ⟨by rw [hf]; exact h1, by rw [hf]; exact h2, ?_⟩
    rw [hf]; exact DepOk.map hf h3
theorem swpS_snd (a c : SlotT) (x : SlotT × Int) : (swpS a c x).2 = x.2 := by unfold swpS; split <;> (try split) <;> rfl
theorem GoodT.swap {D : DT} {n : Nat} (h : GoodT D n) (a c : SlotT) : GoodT (swapD D a c) n := by
  refine ⟨?_, h.dep.map (swpS_snd a c), by unfold swapD; rw [List.length_map]; exact h.len⟩
  unfold swapD
  rw [List.map_map, List.nodup_iff_pairwise_ne, List.pairwise_map]
  have hn := h.nd
  rw [List.nodup_iff_pairwise_ne, List.pairwise_map] at hn
  exact hn.imp fun hne e => hne (swpS_inj e)
theorem GoodT.act {D : DT} {n : Nat} (h : GoodT D n) (x : ActT) : GoodT (actD D x) (n + 1) := by
  unfold actD
  split
  · exact h.root _
  · split
    · exact h.child _ _
    · split
      · exact (h.remove _).mono (by omega)
      · split
        · exact (h.move _ _).mono (by omega)
        · split
          · exact (h.swap _ _).mono (by omega)
          · exact h.mono (by omega)
theorem GoodT.none : GoodT [] 0 := ⟨by simp, trivial, by simp⟩
theorem good_play (xs : List ActT) : GoodT (playD xs) xs.length := by
  have key : ∀ (xs : List ActT) (D : DT) (n : Nat), GoodT D n → GoodT (xs.foldl actD D) (n + xs.length) := by
    intro xs
    induction xs with
    | nil => intro D n h; exact h
    | cons x xs ih => intro D n h; have := ih _ _ (h.act x); rw [List.length_cons, show n + (xs.length + 1) = n + 1 + xs.length by omega]; exact this
  have := key xs [] 0 .none
  rwa [Nat.zero_add] at this
theorem swap_swap (D : DT) (a c : SlotT) : swapD (swapD D a c) a c = D := by
  unfold swapD
  rw [List.map_map]
  have : ∀ x, (swpS a c ∘ swpS a c) x = x := fun x => by
    show swpS a c (swpS a c x) = x
    apply Prod.ext
    · rw [swpS_fst, swpS_fst, swf_swf]
    · rw [swpS_snd, swpS_snd]
  rw [List.map_congr_left fun x _ => this x, List.map_id']
theorem move_back {D : DT} {n : Nat} (h : GoodT D n) {a c : SlotT} (h0 : (moveD D a c).1 = 0) : moveD (moveD D a c).2 c a = (0, D) := by
  unfold moveD at h0 ⊢
  cases h2 : splitD a D with
  | none => rw [h2] at h0; cases h0
  | some z =>
    obtain ⟨A, d, B⟩ := z
    rw [h2] at h0
    simp only at h0 ⊢
    by_cases hs : hasD D c = true
    · rw [if_pos hs] at h0; cases h0
    · rw [if_neg hs]
      have hno := hasD_no.1 (by simpa using hs)
      obtain ⟨rfl, hA⟩ := splitD_some h2
      have hnd := h.nd
      rw [List.map_append, List.map_cons] at hnd
      have hac : c ≠ a := fun e => hno (a, d) (by simp) e.symm
      simp only
      rw [splitD_of fun x hx => hno x (List.mem_append_left _ hx)]
      simp only
      have h3 : hasD (A ++ (c, d) :: B) a = false := hasD_no.2 fun x hx e => by
        have hn2 := (List.nodup_cons.1 (List.perm_middle.nodup_iff.1 hnd)).1
        rcases List.mem_append.1 hx with hx | hx
        · exact hA x hx e
        · rcases List.mem_cons.1 hx with rfl | hx
          · exact hac e
          · exact hn2 (List.mem_append_right _ (List.mem_map.2 ⟨x, hx, e⟩))
      rw [h3]; rfl
theorem move_same {D : DT} {a c : SlotT} (h0 : (moveD D a c).1 ≠ 0) : (moveD D a c).2 = D := by
  unfold moveD at h0 ⊢
  cases h2 : splitD a D with
  | none => rfl
  | some z =>
    obtain ⟨A, d, B⟩ := z
    rw [h2] at h0
    simp only at h0 ⊢
    by_cases hs : hasD D c = true
    · rw [if_pos hs]
    · rw [if_neg hs] at h0; exact absurd rfl h0
theorem acts_of : ∀ {rows : List (List Value)}, (∀ r, r ∈ rows → ∃ x : ActT, r = encA x) → ∃ xs : List ActT, rows = xs.map encA
  | [], _ => ⟨[], rfl⟩
  | r :: rows, h => by
    obtain ⟨x, hx⟩ := h r List.mem_cons_self
    obtain ⟨xs, hxs⟩ := acts_of (rows := rows) fun q hq => h q (List.mem_cons_of_mem _ hq)
    exact ⟨x :: xs, by rw [hx, hxs]; rfl⟩
end Go.Proofs.Ytpplknmmjlgadaa.Tr

/- hold as plain data: the slots and the tree; what each call does; what stays so. -/
set_option linter.unusedVariables false
set_option linter.unusedSimpArgs false
namespace Go.Proofs.Ytpplknmmjlgadaa
open Go.RowKit
set_option maxRecDepth 20000

abbrev HS := SD × Tr.DT
def someC (c : CapT) : Bool := mayC c && !decide (c.kind = 0)
def rootH (H : HS) (s : slT) (c : CapT) : Int × HS :=
  if okD H.1 s = false then (3, H) else if someC c = false then (5, H) else if (atD H.1 s).kind ≠ 0 then (11, H) else (0, (putD H.1 s c, (Tr.rootD H.2 s).2))
def childH (H : HS) (p s : slT) (c : CapT) : Int × HS :=
  if okD H.1 p = false ∨ okD H.1 s = false then (3, H) else if someC c = false then (5, H) else if (atD H.1 p).kind = 0 then (10, H) else if (atD H.1 s).kind ≠ 0 then (11, H) else (0, (putD H.1 s c, (Tr.childD H.2 p s).2))
def setH (H : HS) (s : slT) (c : CapT) : Int × HS :=
  if okD H.1 s = false then (3, H) else if (atD H.1 s).kind = 0 then (10, H) else if alikeB (atD H.1 s) c = false then (5, H) else (0, (putD H.1 s c, H.2))
def fromE (H : HS) (a b : slT) : Int :=
  if okD H.1 a = false ∨ okD H.1 b = false then 3 else if (atD H.1 a).kind = 0 then 10 else if (atD H.1 b).kind ≠ 0 then 11 else 0
def derH (H : HS) (a b : slT) (r : CapT × Int) : Int × HS := if fromE H a b ≠ 0 then (fromE H a b, H) else if r.2 ≠ 0 then (r.2, H) else childH H a b r.1
def moveH (H : HS) (a b : slT) : Int × HS := if fromE H a b ≠ 0 then (fromE H a b, H) else (0, (putD (putD H.1 a capZ) b (atD H.1 a), (Tr.moveD H.2 a b).2))
def swapH (H : HS) (a b : slT) : Int × HS := if okD H.1 a = false ∨ okD H.1 b = false then (3, H) else (0, (putD (putD H.1 a (atD H.1 b)) b (atD H.1 a), Tr.swapD H.2 a b))
def clearH (H : HS) (s : slT) : (CapT × Int) × HS := if okD H.1 s = false then ((capZ, 3), H) else if (atD H.1 s).kind = 0 then ((capZ, 10), H) else ((atD H.1 s, 0), (putD H.1 s capZ, (Tr.removeD H.2 s).2))
def finalH (H : HS) (s : slT) : Bool := okD H.1 s && !decide ((atD H.1 s).kind = 0) && (usedD H.1).all fun x => decide (x.1 = s) || !alikeB x.2 (atD H.1 s)

structure InvH (H : HS) (n : Nat) : Prop where
  tree : Tr.GoodT H.2 n
  asc : H.1.Pairwise fun x y => x.1 < y.1
  val : ∀ x, x ∈ H.1 → ∀ c, c ∈ x.2 → mayC c = true ∧ CapW c
  link : ∀ s, Tr.hasD H.2 s = true ↔ okD H.1 s = true ∧ (atD H.1 s).kind ≠ 0
  len : H.1.length ≤ n + 3
theorem capZ_ok : mayC capZ = true ∧ CapW capZ := ⟨rfl, by decide, by decide⟩
theorem InvH.at {H : HS} {n : Nat} (h : InvH H n) (s : slT) : mayC (atD H.1 s) = true ∧ CapW (atD H.1 s) := by
  unfold atD
  split
  · rename_i x hx
    have hm := (findK_some hx).1
    rw [List.getD_eq_getElem?_getD]
    cases hk : x.2[s.2.toNat]? with
    | none => exact capZ_ok
    | some c => exact h.val x hm c (List.mem_of_getElem? hk)
  · exact capZ_ok
theorem InvH.zero {H : HS} {n : Nat} (h : InvH H n) {s : slT} (hk : (atD H.1 s).kind = 0) : atD H.1 s = capZ := may_zero (h.at s).1 hk
theorem InvH.valD {H : HS} {n : Nat} (h : InvH H n) : ValD H.1 := fun x hx c hc hk => may_zero (h.val x hx c hc).1 hk
theorem InvH.mono {H : HS} {n m : Nat} (h : InvH H n) (hm : n ≤ m) : InvH H m := ⟨h.tree.mono hm, h.asc, h.val, h.link, Nat.le_trans h.len (by omega)⟩
theorem put_asc {D : SD} (h : D.Pairwise fun x y => x.1 < y.1) (s : slT) (c : CapT) : (putD D s c).Pairwise fun x y => x.1 < y.1 := by
  have e : (putD D s c).map Prod.fst = D.map Prod.fst := by
    unfold putD
    rw [List.map_map]
    apply List.map_congr_left
    intro x _
    show (if x.1 = s.1 then (x.1, x.2.set s.2.toNat c) else x).1 = x.1
    split <;> rfl
  have h2 : (D.map Prod.fst).Pairwise (· < ·) := List.pairwise_map.2 h
  rw [← e] at h2
  exact List.pairwise_map.1 h2
theorem put_val {D : SD} (h : ∀ x, x ∈ D → ∀ c, c ∈ x.2 → mayC c = true ∧ CapW c) (s : slT) {c : CapT} (hc : mayC c = true ∧ CapW c) : ∀ x, x ∈ putD D s c → ∀ d, d ∈ x.2 → mayC d = true ∧ CapW d := by
  intro x hx y hy
  obtain ⟨z, hz, rfl⟩ := List.mem_map.1 hx
  split at hy
  · rcases List.mem_or_eq_of_mem_set hy with hy | rfl
    · exact h z hz y hy
    · exact hc
  · exact h z hz y hy
theorem put_len (D : SD) (s : slT) (c : CapT) : (putD D s c).length = D.length := by simp [putD]
theorem ok_nn {D : SD} {s : slT} (h : okD D s = true) : 0 ≤ s.2 := by
  unfold okD at h; rw [Bool.and_eq_true, decide_eq_true_eq] at h; exact h.1
/-- what a slot has behind a put -/
theorem at_putI {D : SD} {s t : slT} {c : CapT} (hs : okD D s = true) (ht : okD D t = true) : atD (putD D s c) t = if t = s then c else atD D t := by
  by_cases h : t = s
  · rw [if_pos h, h, at_put hs]
  · rw [if_neg h, at_put_ne (ok_nn hs) (ok_nn ht) h]
theorem set_ok {D : SD} {s : slT} {c : CapT} (h : okD D s = true) (hc : mayC c = true) : setD D s c = (0, putD D s c) := by unfold setD; rw [if_pos h, if_pos hc]
/-- the links behind a put -/
theorem InvH.put {H : HS} {n m : Nat} (h : InvH H n) (hm : n ≤ m) {s : slT} {c : CapT} (hs : okD H.1 s = true) (hc : mayC c = true ∧ CapW c) {T : Tr.DT} (hT : Tr.GoodT T m) (hl : ∀ t, Tr.hasD T t = true ↔ okD H.1 t = true ∧ (if t = s then c else atD H.1 t).kind ≠ 0) : InvH (putD H.1 s c, T) m :=
  ⟨hT, put_asc h.asc s c, put_val h.val s hc, fun t => by
    rw [hl t, ok_put]
    constructor
    · rintro ⟨h1, h2⟩; exact ⟨h1, by rw [at_putI hs h1]; exact h2⟩
    · rintro ⟨h1, h2⟩; exact ⟨h1, by rw [at_putI hs h1] at h2; exact h2⟩, by rw [put_len]; have := h.len; omega⟩
theorem InvH.put2 {H : HS} {n m : Nat} (h : InvH H n) (hm : n ≤ m) {s u : slT} {c d : CapT} (hs : okD H.1 s = true) (hu : okD H.1 u = true) (hc : mayC c = true ∧ CapW c) (hd : mayC d = true ∧ CapW d) {T : Tr.DT} (hT : Tr.GoodT T m) (hl : ∀ t, Tr.hasD T t = true ↔ okD H.1 t = true ∧ (if t = u then d else if t = s then c else atD H.1 t).kind ≠ 0) : InvH (putD (putD H.1 s c) u d, T) m :=
  ⟨hT, put_asc (put_asc h.asc s c) u d, put_val (put_val h.val s hc) u hd, fun t => by
    have hu' : okD (putD H.1 s c) u = true := by rw [ok_put]; exact hu
    rw [hl t, ok_put, ok_put]
    constructor
    · rintro ⟨h1, h2⟩; exact ⟨h1, by rw [at_putI hu' (by rw [ok_put]; exact h1), at_putI hs h1]; exact h2⟩
    · rintro ⟨h1, h2⟩; exact ⟨h1, by rw [at_putI hu' (by rw [ok_put]; exact h1), at_putI hs h1] at h2; exact h2⟩, by rw [put_len, put_len]; have := h.len; omega⟩
theorem some_c {c : CapT} (h : someC c = true) : mayC c = true ∧ c.kind ≠ 0 := by
  unfold someC at h; rw [Bool.and_eq_true] at h; exact ⟨h.1, by simpa using h.2⟩

/-! the tree's slots behind each call -/
theorem has_iff {D : Tr.DT} {s : slT} : Tr.hasD D s = true ↔ s ∈ D.map Prod.fst := Tr.hasD_yes
theorem has_root {D : Tr.DT} {s t : slT} (h : Tr.hasD D s = false) : (Tr.rootD D s).1 = 0 ∧ (Tr.hasD (Tr.rootD D s).2 t = true ↔ t = s ∨ Tr.hasD D t = true) := by
  have e : Tr.rootD D s = (0, D ++ [(s, 0)]) := by unfold Tr.rootD; rw [h]; rfl
  rw [e]
  refine ⟨rfl, ?_⟩
  rw [has_iff, has_iff]
  simp only [List.map_append, List.map_cons, List.map_nil, List.mem_append, List.mem_singleton]
  exact Or.comm
theorem has_child {D : Tr.DT} {p s t : slT} (hp : Tr.hasD D p = true) (h : Tr.hasD D s = false) : (Tr.childD D p s).1 = 0 ∧ (Tr.hasD (Tr.childD D p s).2 t = true ↔ t = s ∨ Tr.hasD D t = true) := by
  unfold Tr.hasD at hp
  cases h2 : Tr.splitD p D with
  | none => rw [h2] at hp; cases hp
  | some z =>
    obtain ⟨A, d, B⟩ := z
    have e : Tr.childD D p s = (0, A ++ (p, d) :: (s, d + 1) :: B) := by unfold Tr.childD; rw [h2]; simp only; rw [if_neg (by rw [h]; decide)]
    rw [e]
    refine ⟨rfl, ?_⟩
    have hD := (Tr.splitD_some h2).1
    rw [has_iff, has_iff, hD]
    simp only [List.map_append, List.map_cons, List.mem_append, List.mem_cons]
    constructor
    · rintro (h | h | h | h)
      · exact .inr (.inl h)
      · exact .inr (.inr (.inl h))
      · exact .inl h
      · exact .inr (.inr (.inr h))
    · rintro (h | h | h | h)
      · exact .inr (.inr (.inl h))
      · exact .inl h
      · exact .inr (.inl h)
      · exact .inr (.inr (.inr h))
theorem nd_mid {A B : List slT} {s t : slT} (h : (A ++ s :: B).Nodup) : t ∈ A ++ B ↔ t ∈ A ++ s :: B ∧ t ≠ s := by
  have h1 := List.nodup_cons.1 (List.perm_middle.nodup_iff.1 h)
  constructor
  · intro ht
    refine ⟨List.perm_middle.symm.mem_iff.1 (.tail _ ht), fun e => h1.1 (e ▸ ht)⟩
  · rintro ⟨h2, h3⟩
    rcases List.mem_cons.1 (List.perm_middle.mem_iff.1 h2) with h4 | h4
    · exact absurd h4 h3
    · exact h4
theorem has_remove {D : Tr.DT} {n : Nat} (hg : Tr.GoodT D n) {s t : slT} (h : Tr.hasD D s = true) : (Tr.removeD D s).1 = 0 ∧ (Tr.hasD (Tr.removeD D s).2 t = true ↔ Tr.hasD D t = true ∧ t ≠ s) := by
  unfold Tr.hasD at h
  cases h2 : Tr.splitD s D with
  | none => rw [h2] at h; cases h
  | some z =>
    obtain ⟨A, d, B⟩ := z
    have e : Tr.removeD D s = (0, A ++ Tr.decW d B) := by unfold Tr.removeD; rw [h2]
    rw [e]
    refine ⟨rfl, ?_⟩
    have hD := (Tr.splitD_some h2).1
    have hn := hg.nd
    rw [has_iff, has_iff]
    rw [hD] at hn ⊢
    rw [List.map_append, List.map_cons] at hn
    rw [List.map_append, List.map_append, List.map_cons, Tr.decW_fst]
    exact nd_mid hn
theorem has_move {D : Tr.DT} {n : Nat} (hg : Tr.GoodT D n) {a b t : slT} (ha : Tr.hasD D a = true) (hb : Tr.hasD D b = false) : (Tr.moveD D a b).1 = 0 ∧ (Tr.hasD (Tr.moveD D a b).2 t = true ↔ t = b ∨ (Tr.hasD D t = true ∧ t ≠ a)) := by
  unfold Tr.hasD at ha
  cases h2 : Tr.splitD a D with
  | none => rw [h2] at ha; cases ha
  | some z =>
    obtain ⟨A, d, B⟩ := z
    have e : Tr.moveD D a b = (0, A ++ (b, d) :: B) := by unfold Tr.moveD; rw [h2]; simp only; rw [if_neg (by rw [hb]; decide)]
    rw [e]
    refine ⟨rfl, ?_⟩
    have hD := (Tr.splitD_some h2).1
    have hn := hg.nd
    rw [has_iff, has_iff]
    rw [hD] at hn ⊢
    rw [List.map_append, List.map_cons] at hn
    rw [List.map_append, List.map_append, List.map_cons, List.map_cons, ← nd_mid hn, List.perm_middle.mem_iff, List.mem_cons]
theorem has_swap (D : Tr.DT) (a b t : slT) : Tr.hasD (Tr.swapD D a b) t = Tr.hasD D (Tr.swf a b t) := by
  rw [Bool.eq_iff_iff, has_iff, has_iff]
  unfold Tr.swapD
  rw [List.map_map]
  simp only [List.mem_map, Function.comp_apply, Tr.swpS_fst]
  constructor
  · rintro ⟨x, hx, rfl⟩; exact ⟨x, hx, (Tr.swf_swf a b x.1).symm⟩
  · rintro ⟨x, hx, he⟩; exact ⟨x, hx, by rw [he, Tr.swf_swf]⟩
theorem InvH.no {H : HS} {n : Nat} (h : InvH H n) {s : slT} (hk : (atD H.1 s).kind = 0) : Tr.hasD H.2 s = false := by
  cases e : Tr.hasD H.2 s with
  | false => rfl
  | true => exact absurd hk ((h.link s).1 e).2
/-! what stays so -/
theorem InvH.root {H : HS} {n : Nat} (h : InvH H n) (s : slT) (c : CapT) (hw : CapW c) : InvH (rootH H s c).2 (n + 1) := by
  unfold rootH
  by_cases h1 : okD H.1 s = false
  · rw [if_pos h1]; exact h.mono (by omega)
  rw [if_neg h1]
  by_cases h2 : someC c = false
  · rw [if_pos h2]; exact h.mono (by omega)
  rw [if_neg h2]
  by_cases h3 : (atD H.1 s).kind ≠ 0
  · rw [if_pos h3]; exact h.mono (by omega)
  rw [if_neg h3]
  obtain ⟨c1, c2⟩ := some_c (by simpa using h2)
  have hok : okD H.1 s = true := by simpa using h1
  refine h.put (by omega) hok ⟨c1, hw⟩ (h.tree.root s) fun t => ?_
  rw [(has_root (h.no (by simpa using h3))).2, h.link]
  by_cases e : t = s
  · subst e; simp [hok, c2]
  · simp [e]
theorem InvH.child {H : HS} {n : Nat} (h : InvH H n) (p s : slT) (c : CapT) (hw : CapW c) : InvH (childH H p s c).2 (n + 1) := by
  unfold childH
  by_cases h1 : okD H.1 p = false ∨ okD H.1 s = false
  · rw [if_pos h1]; exact h.mono (by omega)
  rw [if_neg h1]
  by_cases h2 : someC c = false
  · rw [if_pos h2]; exact h.mono (by omega)
  rw [if_neg h2]
  by_cases h3 : (atD H.1 p).kind = 0
  · rw [if_pos h3]; exact h.mono (by omega)
  rw [if_neg h3]
  by_cases h4 : (atD H.1 s).kind ≠ 0
  · rw [if_pos h4]; exact h.mono (by omega)
  rw [if_neg h4]
  obtain ⟨c1, c2⟩ := some_c (by simpa using h2)
  have hok : okD H.1 s = true := by cases e : okD H.1 s <;> simp_all
  have hokp : okD H.1 p = true := by cases e : okD H.1 p <;> simp_all
  refine h.put (by omega) hok ⟨c1, hw⟩ (h.tree.child p s) fun t => ?_
  rw [(has_child ((h.link p).2 ⟨hokp, h3⟩) (h.no (by simpa using h4))).2, h.link]
  by_cases e : t = s
  · subst e; simp [hok, c2]
  · simp [e]
theorem InvH.set {H : HS} {n : Nat} (h : InvH H n) (s : slT) (c : CapT) (hw : CapW c) : InvH (setH H s c).2 n := by
  unfold setH
  by_cases h1 : okD H.1 s = false
  · rw [if_pos h1]; exact h
  rw [if_neg h1]
  by_cases h2 : (atD H.1 s).kind = 0
  · rw [if_pos h2]; exact h
  rw [if_neg h2]
  by_cases h3 : alikeB (atD H.1 s) c = false
  · rw [if_pos h3]; exact h
  rw [if_neg h3]
  have h3' : alikeB (atD H.1 s) c = true := by simpa using h3
  unfold alikeB at h3'
  simp only [Bool.and_eq_true, Bool.not_eq_true', decide_eq_true_eq, decide_eq_false_iff_not] at h3'
  obtain ⟨⟨⟨⟨a1, a2⟩, a3⟩, a4⟩, a5⟩ := h3'
  refine h.put (Nat.le_refl _) (by simpa using h1) ⟨a2, hw⟩ h.tree fun t => ?_
  rw [h.link]
  by_cases e : t = s
  · subst e; simp [h2, ← a4]
  · simp [e]
theorem from_0 {H : HS} {a b : slT} (h : fromE H a b = 0) : okD H.1 a = true ∧ okD H.1 b = true ∧ (atD H.1 a).kind ≠ 0 ∧ (atD H.1 b).kind = 0 := by
  unfold fromE at h
  split at h
  · cases h
  rename_i h1
  split at h
  · cases h
  rename_i h2
  split at h
  · cases h
  rename_i h3
  exact ⟨by cases e : okD H.1 a <;> simp_all, by cases e : okD H.1 b <;> simp_all, h2, by simpa using h3⟩
theorem InvH.der {H : HS} {n : Nat} (h : InvH H n) (a b : slT) (r : CapT × Int) (hw : CapW r.1) : InvH (derH H a b r).2 (n + 1) := by
  unfold derH
  split
  · exact h.mono (by omega)
  split
  · exact h.mono (by omega)
  · exact h.child a b _ hw
theorem InvH.move {H : HS} {n : Nat} (h : InvH H n) (a b : slT) : InvH (moveH H a b).2 n := by
  unfold moveH
  by_cases h0 : fromE H a b = 0
  · rw [if_neg (by simpa using h0)]
    obtain ⟨h1, h2, h3, h4⟩ := from_0 h0
    have hne : a ≠ b := fun e => h3 (e ▸ h4)
    refine h.put2 (Nat.le_refl _) h1 h2 capZ_ok (h.at a) (h.tree.move a b) fun t => ?_
    rw [(has_move h.tree ((h.link a).2 ⟨h1, h3⟩) (h.no h4)).2, h.link]
    by_cases e : t = b
    · subst e; simp [h2, h3]
    · by_cases e2 : t = a
      · subst e2; simp [e]
      · simp [e, e2]
  · rw [if_pos h0]; exact h
theorem InvH.swap {H : HS} {n : Nat} (h : InvH H n) (a b : slT) : InvH (swapH H a b).2 n := by
  unfold swapH
  by_cases h1 : okD H.1 a = false ∨ okD H.1 b = false
  · rw [if_pos h1]; exact h
  rw [if_neg h1]
  have ha : okD H.1 a = true := by cases e : okD H.1 a <;> simp_all
  have hb : okD H.1 b = true := by cases e : okD H.1 b <;> simp_all
  refine h.put2 (Nat.le_refl _) ha hb (h.at b) (h.at a) (h.tree.swap a b) fun t => ?_
  rw [has_swap, h.link]
  unfold Tr.swf
  by_cases e : t = a
  · by_cases e2 : t = b
    · subst e; subst e2; simp
    · subst e; simp [e2, ha, hb]
  · by_cases e2 : t = b
    · subst e2; simp [e, ha, hb]
    · simp [e, e2]
theorem InvH.clear {H : HS} {n : Nat} (h : InvH H n) (s : slT) : InvH (clearH H s).2 n := by
  unfold clearH
  by_cases h1 : okD H.1 s = false
  · rw [if_pos h1]; exact h
  rw [if_neg h1]
  by_cases h2 : (atD H.1 s).kind = 0
  · rw [if_pos h2]; exact h
  rw [if_neg h2]
  have hok : okD H.1 s = true := by simpa using h1
  refine h.put (Nat.le_refl _) hok capZ_ok (h.tree.remove s) fun t => ?_
  rw [(has_remove h.tree ((h.link s).2 ⟨hok, h2⟩)).2, h.link]
  by_cases e : t = s
  · subst e; simp
  · simp [e]
theorem find_ins {D : SD} (h : D.Pairwise fun x y => x.1 < y.1) {x : Int × List CapT} (hn : findK Prod.fst D x.1 = none) (a : Int) : findK Prod.fst (insK Prod.fst D x) a = if a = x.1 then some x else findK Prod.fst D a := by
  have ha := ins_asc (key := Prod.fst) h hn
  by_cases e : a = x.1
  · rw [if_pos e, e]; exact asc_at ha (mem_ins.2 (.inl rfl))
  · rw [if_neg e]
    cases hf : findK Prod.fst D a with
    | none =>
      refine findK_none.2 fun y hy => ?_
      rcases mem_ins.1 hy with rfl | hy
      · exact fun e2 => e e2.symm
      · exact findK_none.1 hf y hy
    | some y =>
      obtain ⟨h1, h2⟩ := findK_some hf
      rw [← h2]; exact asc_at ha (mem_ins.2 (.inr h1))
theorem InvH.add {H : HS} {n : Nat} (h : InvH H n) (id k : Int) : InvH ((addN H.1 id k).2, H.2) (n + 1) := by
  unfold addN
  split
  · exact h.mono (by omega)
  split
  · exact h.mono (by omega)
  rename_i h1 h2
  have hn : findK Prod.fst H.1 id = none := by cases e : findK Prod.fst H.1 id <;> simp_all
  have hf := find_ins h.asc (x := (id, List.replicate k.toNat capZ)) hn
  refine ⟨h.tree.mono (by omega), ins_asc h.asc hn, fun x hx c hc => ?_, fun s => ?_, ?_⟩
  · rcases mem_ins.1 hx with rfl | hx
    · rw [List.eq_of_mem_replicate hc]; exact capZ_ok
    · exact h.val x hx c hc
  · rw [h.link]
    have e1 : sizeD H.1 id = 0 := by unfold sizeD; rw [hn]
    unfold okD sizeD atD
    simp only
    rw [hf]
    by_cases e : s.1 = id
    · rw [if_pos e, e, hn]
      simp
      intro _ _
      have : List.getD (List.replicate k.toNat capZ) s.2.toNat capZ = capZ := by
        rw [List.getD_eq_getElem?_getD]
        cases e3 : (List.replicate k.toNat capZ)[s.2.toNat]? with
        | none => rfl
        | some c => rw [List.eq_of_mem_replicate (List.mem_of_getElem? e3)]; rfl
      rw [List.getD_eq_getElem?_getD] at this
      rw [this]
    · rw [if_neg e]
  · show (insK Prod.fst H.1 (id, _)).length ≤ _
    rw [ins_len]; have := h.len; omega
theorem InvH.drop {H : HS} {n : Nat} (h : InvH H n) (a : Int) : InvH ((dropN H.1 a).2, H.2) n := by
  unfold dropN
  split
  · exact h
  split
  · rename_i x hx hall
    rw [List.all_eq_true] at hall
    have hf : ∀ b, findK Prod.fst (H.1.filter fun x => decide (x.1 ≠ a)) b = if b = a then none else findK Prod.fst H.1 b := fun b => by
      by_cases e : b = a
      · rw [if_pos e]
        refine findK_none.2 fun y hy => ?_
        have := (List.mem_filter.1 hy).2
        rw [e]; simpa using this
      · rw [if_neg e]
        cases hb : findK Prod.fst H.1 b with
        | none => exact findK_none.2 fun y hy => findK_none.1 hb y (List.mem_filter.1 hy).1
        | some y =>
          obtain ⟨h1, h2⟩ := findK_some hb
          rw [← h2]
          exact asc_at (h.asc.filter _) (List.mem_filter.2 ⟨h1, by rw [h2]; simpa using e⟩)
    refine ⟨h.tree, h.asc.filter _, fun y hy => h.val y (List.mem_filter.1 hy).1, fun s => ?_, Nat.le_trans (List.length_filter_le ..) h.len⟩
    rw [h.link]
    unfold okD sizeD atD
    simp only
    rw [hf]
    by_cases e : s.1 = a
    · rw [if_pos e, e, hx]
      simp
      intro h0 h1
      have hx2 : x.2[s.2.toNat]? = some (x.2[s.2.toNat]'(by omega)) := List.getElem?_eq_getElem (by omega)
      have h3 := hall _ (List.mem_of_getElem? hx2)
      rw [eqC_iff] at h3
      rw [hx2, h3]; rfl
    · rw [if_neg e]
  · exact h
end Go.Proofs.Ytpplknmmjlgadaa
