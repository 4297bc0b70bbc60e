/- Slots: those that have a capability. -/
import Derived.Test.YtikcekfalfllpaaU0
import Derived.Test.YtikcekfalfllpaaP8
import Derived.Test.YtikcekfalfllpaaP2
set_option linter.unusedVariables false
set_option linter.unusedSimpArgs false
namespace Go.Proofs.Ytikcekfalfllpaa
open Go.RowKit

theorem MB.sorted {α : Type} {key : α → Int} {val : α → Value} {L : List α} {es : List Ent} {clock : Nat} (h : MB key val L es clock) {xs : List Int} (hx : xs.Perm (es.map (·.1))) : srt xs = L.map key := by
  have h1 : (srt xs).Perm (L.map key) := (List.mergeSort_perm ..).trans (hx.trans h.keys)
  have h2 : (srt xs).Pairwise (fun x y => x ≤ y) := by
    have := List.pairwise_mergeSort (le := fun x y : Int => decide (x ≤ y)) (fun a b c h1 h2 => by simp at *; omega) (fun a b => by simp; omega) xs
    exact this.imp fun h => by simpa using h
  have h3 : (L.map key).Pairwise (fun x y => x ≤ y) := List.pairwise_map.2 (h.asc.imp fun hxy => by omega)
  exact h1.eq_of_pairwise (fun a b _ _ h1 h2 => by omega) h2 h3
theorem OwnSl.ints {e : Nat} {v : Value} {xs : List Int} {cs l : List Chunk} (h : OwnSl e 1 v xs.length (xs.map intV) cs) (hs : ∀ c, c ∈ cs → c ∈ l) : ∃ p cap, v = .slice p xs.length cap ∧ (0 < xs.length → ∃ b cl t fz, p = some ⟨b, 0, none⟩ ∧ (b, Obj.cells cl t fz) ∈ l ∧ ∀ i x, xs[i]? = some x → cl[i * 1]? = some (.int .i64 x)) := by
  rcases h.2 with ⟨rfl, h0, rfl⟩ | ⟨b, cap, sp, rfl, rfl, _⟩
  · exact ⟨none, 0, by rw [h0], fun h => by omega⟩
  · refine ⟨_, cap, rfl, fun h0 => ⟨b, _, e, (0, 0), rfl, hs _ List.mem_cons_self, fun i x hx => ?_⟩⟩
    have hlt := (List.getElem?_eq_some_iff.1 hx).1
    rw [Nat.mul_one, List.getElem?_toArray, List.getElem?_append_left (by simpa using hlt), List.getElem?_map, hx]; rfl
def usedTo (a : Int) (C : List CapT) : Nat → List HdT
  | 0 => []
  | k + 1 => usedTo a C k ++ (match C[k]? with
    | some c => if eqC c capZ = true then [] else [((a, ((k : Nat) : Int)), c)]
    | none => [])
def usedD (D : SD) : List HdT := D.flatMap fun x => usedTo x.1 x.2 x.2.length
theorem usedTo_t {a : Int} {C : List CapT} {k : Nat} {c : CapT} (hc : C[k]? = some c) (h : eqC c capZ = false) : usedTo a C (k + 1) = usedTo a C k ++ [((a, ((k : Nat) : Int)), c)] := by
  show usedTo a C k ++ _ = _
  rw [hc]; simp only; rw [h]; rfl
theorem usedTo_f {a : Int} {C : List CapT} {k : Nat} {c : CapT} (hc : C[k]? = some c) (h : eqC c capZ = true) : usedTo a C (k + 1) = usedTo a C k := by
  show usedTo a C k ++ _ = _
  rw [hc]; simp only; rw [h]; simp
theorem usedTo_pre (a : Int) (C : List CapT) (k : Nat) : ∀ m, usedTo a C k <+: usedTo a C (k + m)
  | 0 => List.prefix_rfl
  | m + 1 => (usedTo_pre a C k m).trans (List.prefix_append _ _)
theorem usedTo_len (a : Int) (C : List CapT) : ∀ k, (usedTo a C k).length ≤ k
  | 0 => Nat.le_refl _
  | k + 1 => by
    show (usedTo a C k ++ _).length ≤ k + 1
    have := usedTo_len a C k
    rw [List.length_append]
    have h2 : (match C[k]? with
      | some c => if eqC c capZ = true then [] else [((a, ((k : Nat) : Int)), c)]
      | none => [] : List HdT).length ≤ 1 := by
      split
      · split <;> simp
      · simp
    omega
theorem usedD_app (A B : SD) : usedD (A ++ B) = usedD A ++ usedD B := List.flatMap_append
theorem usedD_pre {D : SD} {i k : Nat} {x : Int × List CapT} (hx : D[i]? = some x) (hk : k ≤ x.2.length) : usedD (D.take i) ++ usedTo x.1 x.2 k <+: usedD D := by
  have hi := (List.getElem?_eq_some_iff.1 hx).1
  have h1 := List.take_append_drop i D
  rw [List.drop_eq_getElem_cons hi] at h1
  have h2 : D[i] = x := by rw [List.getElem?_eq_getElem hi] at hx; exact Option.some.inj hx
  rw [h2] at h1
  conv => rhs; rw [← h1]
  rw [usedD_app]
  refine (List.prefix_append_right_inj _).2 ?_
  show _ <+: usedTo x.1 x.2 x.2.length ++ usedD (D.drop (i + 1))
  have := usedTo_pre x.1 x.2 k (x.2.length - k)
  rw [show k + (x.2.length - k) = x.2.length by omega] at this
  exact this.trans (List.prefix_append _ _)
theorem usedD_len {D : SD} (h : ∀ x, x ∈ D → x.2.length ≤ 16) : (usedD D).length ≤ D.length * 16 := by
  induction D with
  | nil => simp [usedD]
  | cons x r ih =>
    rw [show x :: r = [x] ++ r from rfl, usedD_app, List.length_append]
    have h1 := ih fun y hy => h y (List.mem_cons_of_mem _ hy)
    have h2 := usedTo_len x.1 x.2 x.2.length
    have h3 := h x List.mem_cons_self
    have h4 : (usedD [x]).length ≤ 16 := by simp only [usedD, List.flatMap_cons, List.flatMap_nil, List.append_nil]; omega
    rw [List.length_append]
    show _ ≤ (1 + r.length) * 16
    omega
theorem IsS.sz {b : Nat} {D : SD} {lq : List Chunk} (h : IsS b D lq) : ∀ x, x ∈ D → 0 < x.2.length ∧ x.2.length ≤ 16 := by
  obtain ⟨S, m, es, clock, rfl, hS⟩ := h
  intro x hx
  obtain ⟨nd, hn, rfl⟩ := List.mem_map.1 hx
  exact hS.sz nd hn
set_option pp.deepTerms false
set_option pp.deepTerms.threshold 4
set_option maxHeartbeats 400000
set_option maxRecDepth 20000 in
theorem used_iter (B b : Nat) (D : SD) (lq : List Chunk) (hq : IsS b D lq) (hn : D.length ≤ 50000) :
    IterS Try.prog 37 [.pointer (some ⟨B, 0, none⟩)] (fun h : HdT => [hdV h]) (fun xs => xs = usedD D) (fun pre => pre <+: usedD D)
      (fun _ l => xB B (.pointer (some ⟨b, 0, none⟩)) ∈ l ∧ ∀ c, c ∈ lq → c ∈ l) := by
  refine ⟨fun r I Ix G0 hneed hY l G hG h0 => ?_⟩
  obtain ⟨S, m, es, clock, rfl, hS⟩ := hq
  obtain ⟨n1, n2⟩ := hneed _ _ G hG h0
  have n3 := n2 _ hS.m1
  have n4 := n2 _ hS.m2
  have hSl : S.length ≤ 50000 := by simpa using hn
  refine fn_of_body Try.func37 rfl rfl fun E => ?_
  simp only [argF, Try.ntmps37]
  repeat (first | (show OpsS _ _ _ _ _ _ (_ :: _) _ _ _; first | refine ozq ?_ | refine ozs ?_ | refine ozs0 ?_ | refine ozt ?_ | refine ozf ?_ | refine ozn ?_) | refine c_seq ?_ | refine p_then ?_ | refine c_region ?_ | refine s_nil ?_ | refine c_cond_t rfl ?_ | refine c_cond_f rfl ?_ | refine c_block ?_ | refine c_skip ?_ | refine c_exit ?_ | refine p_block ?_ | refine p_then_exit ?_ | refine p_block_here ?_ | refine p_block_on rfl ?_ | refine c_ret ?_ | refine p_then_ret ?_ | refine p_block_ret ?_ | refine p_end ?_ | refine c_if_t rfl (by omega) ?_ | refine c_if_f rfl (by omega) ?_)
  refine t_e (e_call0 rfl rfl (keys_any (some m) _)) rfl rfl rfl ?_
  rintro _ _ ⟨B', rfl, rfl⟩
  repeat (first | (show OpsS _ _ _ _ _ _ (_ :: _) _ _ _; first | refine ozq ?_ | refine ozs ?_ | refine ozs0 ?_ | refine ozt ?_ | refine ozf ?_ | refine ozn ?_) | refine c_seq ?_ | refine p_then ?_ | refine c_region ?_ | refine s_nil ?_ | refine c_cond_t rfl ?_ | refine c_cond_f rfl ?_ | refine c_block ?_ | refine c_skip ?_ | refine c_exit ?_ | refine p_block ?_ | refine p_then_exit ?_ | refine p_block_here ?_ | refine p_block_on rfl ?_ | refine c_ret ?_ | refine p_then_ret ?_ | refine p_block_ret ?_ | refine p_end ?_ | refine c_if_t rfl (by omega) ?_ | refine c_if_f rfl (by omega) ?_)
  refine t_e (e_call0 rfl rfl (mapKeys_any B' m clock es hS.mb.ok.stamps hS.mb.ok.below (by rw [hS.mb.len]; omega) _ (.head _) (.tail _ n4))) rfl rfl rfl ?_
  rintro v _ ⟨xs, cs, hxs, ho, rfl⟩
  rw [hS.mb.sorted hxs] at ho
  have hv1 : v.oneCell' = true := ho.one
  obtain ⟨p, cap, rfl, hR⟩ := ho.ints (l := cs) fun c hc => hc
  have hlen : (S.map NdS.id).length = S.length := List.length_map ..
  repeat (first | (show OpsS _ _ _ _ _ _ (_ :: _) _ _ _; first | refine ozq ?_ | refine ozs ?_ | refine ozs0 ?_ | refine ozt ?_ | refine ozf ?_ | refine ozn ?_) | refine c_seq ?_ | refine p_then ?_ | refine c_region ?_ | refine s_nil ?_ | refine c_cond_t rfl ?_ | refine c_cond_f rfl ?_ | refine c_block ?_ | refine c_skip ?_ | refine c_exit ?_ | refine p_block ?_ | refine p_then_exit ?_ | refine p_block_here ?_ | refine p_block_on rfl ?_ | refine c_ret ?_ | refine p_then_ret ?_ | refine p_block_ret ?_ | refine p_end ?_ | refine c_if_t rfl (by omega) ?_ | refine c_if_f rfl (by omega) ?_)
  refine k_loop (α := Nat × List Chunk) (fun x => [(0, .func (.yield r) #[] #[]), (1, .pointer (some ⟨B, 0, none⟩)), (14, .slice p (S.map NdS.id).length cap), (15, .int .i64 (S.map NdS.id).length), (16, .int .i64 x.1)]) (fun x => x.2 ++ (cs ++ G)) (fun x => x.1 ≤ S.length ∧ I (usedD ((S.map NdS.d).take x.1)) x.2) (fun x => S.length - x.1) (0, l) ⟨Nat.zero_le _, h0⟩ ⟨rfl, rfl, rfl, rfl, rfl, trivial⟩ ?_ ?_
  · exact Keep.trans (Keep.in_mid cs [_] (l ++ G)) (.drop (Keep.in_mid cs l G))
  clear n1 n2 n3 n4
  rintro ⟨i, l⟩ ⟨hi, hI⟩
  simp only at hi hI ⊢
  obtain ⟨n1, n2⟩ := hneed _ _ (cs ++ G) (fun c hc => List.mem_append_right _ (hG c hc)) hI
  have n3 := n2 _ hS.m1
  have n4 := n2 _ hS.m2
  by_cases hlt : i < S.length
  · obtain ⟨b9, cl, t9, fz, rfl, hmc, hcl⟩ := hR (by omega)
    have hm' : (b9, Obj.cells cl t9 fz) ∈ l ++ (cs ++ G) := List.mem_append_right _ (List.mem_append_left _ hmc)
    obtain ⟨nd, hnd⟩ : ∃ nd, S[i]? = some nd := ⟨_, List.getElem?_eq_getElem hlt⟩
    have hmem := List.mem_of_getElem? hnd
    have hc := hcl i nd.id (by rw [List.getElem?_map, hnd]; rfl)
    have hlk : (getE nd.id es).getD (.slice none 0 0) = nd.val := by rw [hS.look, hS.mb.at_ hmem]
    have hdi : (S.map NdS.d)[i]? = some nd.d := by rw [List.getElem?_map, hnd]; rfl
    have hsz := hS.sz nd hmem
    repeat (first | (show OpsS _ _ _ _ _ _ (_ :: _) _ _ _; first | refine ozq ?_ | refine ozs ?_ | refine ozs0 ?_ | refine ozt ?_ | refine ozf ?_ | refine ozn ?_) | refine c_seq ?_ | refine p_then ?_ | refine c_region ?_ | refine s_nil ?_ | refine c_cond_t rfl ?_ | refine c_cond_f rfl ?_ | refine c_block ?_ | refine c_skip ?_ | refine c_exit ?_ | refine p_block ?_ | refine p_then_exit ?_ | refine p_block_here ?_ | refine p_block_on rfl ?_ | refine c_ret ?_ | refine p_then_ret ?_ | refine p_block_ret ?_ | refine p_end ?_ | refine c_if_t rfl (by omega) ?_ | refine c_if_f rfl (by omega) ?_)
    rw [hlk]
    repeat (first | (show OpsS _ _ _ _ _ _ (_ :: _) _ _ _; first | refine ozq ?_ | refine ozs ?_ | refine ozs0 ?_ | refine ozt ?_ | refine ozf ?_ | refine ozn ?_) | refine c_seq ?_ | refine p_then ?_ | refine c_region ?_ | refine s_nil ?_ | refine c_cond_t rfl ?_ | refine c_cond_f rfl ?_ | refine c_block ?_ | refine c_skip ?_ | refine c_exit ?_ | refine p_block ?_ | refine p_then_exit ?_ | refine p_block_here ?_ | refine p_block_on rfl ?_ | refine c_ret ?_ | refine p_then_ret ?_ | refine p_block_ret ?_ | refine p_end ?_ | refine c_if_t rfl (by omega) ?_ | refine c_if_f rfl (by omega) ?_)
    refine k_loop (α := Nat × List Chunk) (fun x => [(0, .func (.yield r) #[] #[]), (1, .pointer (some ⟨B, 0, none⟩)), (4, .int .i64 nd.id), (14, .slice (some ⟨b9, 0, none⟩) (S.map NdS.id).length cap), (15, .int .i64 (S.map NdS.id).length), (16, .int .i64 i), (25, nd.val), (26, .int .i64 nd.C.length), (27, .int .i64 x.1)]) (fun x => x.2 ++ (cs ++ G)) (fun x => x.1 ≤ nd.C.length ∧ I (usedD ((S.map NdS.d).take i) ++ usedTo nd.id nd.C x.1) x.2) (fun x => nd.C.length - x.1) (0, l) ⟨Nat.zero_le _, by show I (_ ++ []) l; rw [List.append_nil]; exact hI⟩ ⟨rfl, rfl, rfl, rfl, rfl, rfl, rfl, rfl, rfl, trivial⟩ .refl ?_
    clear n1 n2 n3 n4 hI hm'
    rintro ⟨k, l⟩ ⟨hk, hI⟩
    simp only at hk hI ⊢
    obtain ⟨n1, n2⟩ := hneed _ _ (cs ++ G) (fun c hc => List.mem_append_right _ (hG c hc)) hI
    have hmb := n2 _ (hS.m3 hmem)
    by_cases hkl : k < nd.C.length
    · obtain ⟨c, hcc⟩ : ∃ c, nd.C[k]? = some c := ⟨_, List.getElem?_eq_getElem hkl⟩
      obtain ⟨g1, g2⟩ := ccs_at hcc
      repeat (first | (show OpsS _ _ _ _ _ _ (_ :: _) _ _ _; first | refine ozq ?_ | refine ozs ?_ | refine ozs0 ?_ | refine ozt ?_ | refine ozf ?_ | refine ozn ?_) | refine c_seq ?_ | refine p_then ?_ | refine c_region ?_ | refine s_nil ?_ | refine c_cond_t rfl ?_ | refine c_cond_f rfl ?_ | refine c_block ?_ | refine c_skip ?_ | refine c_exit ?_ | refine p_block ?_ | refine p_then_exit ?_ | refine p_block_here ?_ | refine p_block_on rfl ?_ | refine c_ret ?_ | refine p_then_ret ?_ | refine p_block_ret ?_ | refine p_end ?_ | refine c_if_t rfl (by omega) ?_ | refine c_if_f rfl (by omega) ?_)
      refine t_q (q_loadA (n := 8) rfl hmb g2 g1) rfl rfl rfl ?_
      refine t_e e_alloc rfl rfl rfl ?_; rintro _ _ ⟨b6, _, rfl, rfl⟩
      repeat (first | (show OpsS _ _ _ _ _ _ (_ :: _) _ _ _; first | refine ozq ?_ | refine ozs ?_ | refine ozs0 ?_ | refine ozt ?_ | refine ozf ?_ | refine ozn ?_) | refine c_seq ?_ | refine p_then ?_ | refine c_region ?_ | refine s_nil ?_ | refine c_cond_t rfl ?_ | refine c_cond_f rfl ?_ | refine c_block ?_ | refine c_skip ?_ | refine c_exit ?_ | refine p_block ?_ | refine p_then_exit ?_ | refine p_block_here ?_ | refine p_block_on rfl ?_ | refine c_ret ?_ | refine p_then_ret ?_ | refine p_block_ret ?_ | refine p_end ?_ | refine c_if_t rfl (by omega) ?_ | refine c_if_f rfl (by omega) ?_)
      refine t_q (q_neagg (ys := encC capZ) rfl rfl (encC_k c) (encC_k _)) rfl rfl rfl ?_
      rw [show eqCells (encC c) (encC capZ) = eqC c capZ from rfl]
      cases he : eqC c capZ with
      | true =>
        repeat (first | (show OpsS _ _ _ _ _ _ (_ :: _) _ _ _; first | refine ozq ?_ | refine ozs ?_ | refine ozs0 ?_ | refine ozt ?_ | refine ozf ?_ | refine ozn ?_) | refine c_seq ?_ | refine p_then ?_ | refine c_region ?_ | refine s_nil ?_ | refine c_cond_t rfl ?_ | refine c_cond_f rfl ?_ | refine c_block ?_ | refine c_skip ?_ | refine c_exit ?_ | refine p_block ?_ | refine p_then_exit ?_ | refine p_block_here ?_ | refine p_block_on rfl ?_ | refine c_ret ?_ | refine p_then_ret ?_ | refine p_block_ret ?_ | refine p_end ?_ | refine c_if_t rfl (by omega) ?_ | refine c_if_f rfl (by omega) ?_)
        exact k_next (k + 1, l) ⟨by simp only; omega, by simp only; rw [usedTo_f hcc he]; exact hI⟩ (by simp only; omega) ⟨rfl, rfl, rfl, rfl, rfl, rfl, rfl, rfl, rfl, trivial⟩ (.drop .refl)
      | false =>
        have hpre : (usedD ((S.map NdS.d).take i) ++ usedTo nd.id nd.C k) ++ [((nd.id, ((k : Nat) : Int)), c)] <+: usedD (S.map NdS.d) := by
          rw [List.append_assoc, ← usedTo_t hcc he]
          exact usedD_pre hdi (by show k + 1 ≤ nd.C.length; omega)
        have hy := hY _ ((nd.id, ((k : Nat) : Int)), c) l (capC b6 c :: (cs ++ G)) (fun x hx => .tail _ (List.mem_append_right _ (hG x hx))) hI hpre
        repeat (first | (show OpsS _ _ _ _ _ _ (_ :: _) _ _ _; first | refine ozq ?_ | refine ozs ?_ | refine ozs0 ?_ | refine ozt ?_ | refine ozf ?_ | refine ozn ?_) | refine c_seq ?_ | refine p_then ?_ | refine c_region ?_ | refine s_nil ?_ | refine c_cond_t rfl ?_ | refine c_cond_f rfl ?_ | refine c_block ?_ | refine c_skip ?_ | refine c_exit ?_ | refine p_block ?_ | refine p_then_exit ?_ | refine p_block_here ?_ | refine p_block_on rfl ?_ | refine c_ret ?_ | refine p_then_ret ?_ | refine p_block_ret ?_ | refine p_end ?_ | refine c_if_t rfl (by omega) ?_ | refine c_if_f rfl (by omega) ?_)
        refine s_keep (Keep.of_perm (l' := l ++ (capC b6 c :: (cs ++ G))) List.perm_middle.symm) ?_
        refine t_eh (e_yield rfl rfl hy) rfl rfl rfl ?_
        rintro w l' ⟨l1, rfl, ⟨rfl, hI'⟩ | ⟨rfl, hx⟩⟩
        · repeat (first | (show OpsS _ _ _ _ _ _ (_ :: _) _ _ _; first | refine ozq ?_ | refine ozs ?_ | refine ozs0 ?_ | refine ozt ?_ | refine ozf ?_ | refine ozn ?_) | refine c_seq ?_ | refine p_then ?_ | refine c_region ?_ | refine s_nil ?_ | refine c_cond_t rfl ?_ | refine c_cond_f rfl ?_ | refine c_block ?_ | refine c_skip ?_ | refine c_exit ?_ | refine p_block ?_ | refine p_then_exit ?_ | refine p_block_here ?_ | refine p_block_on rfl ?_ | refine c_ret ?_ | refine p_then_ret ?_ | refine p_block_ret ?_ | refine p_end ?_ | refine c_if_t rfl (by omega) ?_ | refine c_if_f rfl (by omega) ?_)
          exact k_next (k + 1, l1) ⟨by simp only; omega, by simp only; rw [usedTo_t hcc he, ← List.append_assoc]; exact hI'⟩ (by simp only; omega) ⟨rfl, rfl, rfl, rfl, rfl, rfl, rfl, rfl, rfl, trivial⟩ (Keep.trans (.of_perm List.perm_middle) (.drop .refl))
        · repeat (first | (show OpsS _ _ _ _ _ _ (_ :: _) _ _ _; first | refine ozq ?_ | refine ozs ?_ | refine ozs0 ?_ | refine ozt ?_ | refine ozf ?_ | refine ozn ?_) | refine c_seq ?_ | refine p_then ?_ | refine c_region ?_ | refine s_nil ?_ | refine c_cond_t rfl ?_ | refine c_cond_f rfl ?_ | refine c_block ?_ | refine c_skip ?_ | refine c_exit ?_ | refine p_block ?_ | refine p_then_exit ?_ | refine p_block_here ?_ | refine p_block_on rfl ?_ | refine c_ret ?_ | refine p_then_ret ?_ | refine p_block_ret ?_ | refine p_end ?_ | refine c_if_t rfl (by omega) ?_ | refine c_if_f rfl (by omega) ?_)
          exact k_ret [] rfl (Keep.trans (.of_perm List.perm_middle) (.drop (Keep.trans (Keep.in_mid l1 cs G) (Keep.dropL cs .refl)))) (by (repeat (first | apply ResS.nil | (apply rs_tmp; (· rfl)) | (apply rs_cell1; (· rfl); (· ((repeat (first | with_reducible apply List.mem_cons_self | with_reducible apply List.mem_cons_of_mem)); try with_reducible assumption)); (· rfl)) | (apply rs_cellA; (· rfl); (· ((repeat (first | with_reducible apply List.mem_cons_self | with_reducible apply List.mem_cons_of_mem)); try with_reducible assumption)); (· (repeat (first | with_reducible apply LSub.done | with_reducible apply LSub.take | with_reducible apply LSub.drop))))))) ⟨l1, rfl, .inr ⟨_, hpre, hx⟩⟩
    · obtain rfl : k = nd.C.length := by omega
      repeat (first | (show OpsS _ _ _ _ _ _ (_ :: _) _ _ _; first | refine ozq ?_ | refine ozs ?_ | refine ozs0 ?_ | refine ozt ?_ | refine ozf ?_ | refine ozn ?_) | refine c_seq ?_ | refine p_then ?_ | refine c_region ?_ | refine s_nil ?_ | refine c_cond_t rfl ?_ | refine c_cond_f rfl ?_ | refine c_block ?_ | refine c_skip ?_ | refine c_exit ?_ | refine p_block ?_ | refine p_then_exit ?_ | refine p_block_here ?_ | refine p_block_on rfl ?_ | refine c_ret ?_ | refine p_then_ret ?_ | refine p_block_ret ?_ | refine p_end ?_ | refine c_if_t rfl (by omega) ?_ | refine c_if_f rfl (by omega) ?_)
      refine k_next (i + 1, l) ⟨by simp only; omega, ?_⟩ (by simp only; omega) ⟨rfl, rfl, rfl, rfl, rfl, trivial⟩ .refl
      simp only
      rw [List.take_add_one, hdi, usedD_app]
      show I (_ ++ usedD [nd.d]) l
      rw [show usedD [nd.d] = usedTo nd.id nd.C nd.C.length by simp [usedD]]
      exact hI
  · obtain rfl : i = S.length := by omega
    rw [show (S.map NdS.d).take S.length = S.map NdS.d from List.take_of_length_le (by simp)] at hI
    repeat (first | (show OpsS _ _ _ _ _ _ (_ :: _) _ _ _; first | refine ozq ?_ | refine ozs ?_ | refine ozs0 ?_ | refine ozt ?_ | refine ozf ?_ | refine ozn ?_) | refine c_seq ?_ | refine p_then ?_ | refine c_region ?_ | refine s_nil ?_ | refine c_cond_t rfl ?_ | refine c_cond_f rfl ?_ | refine c_block ?_ | refine c_skip ?_ | refine c_exit ?_ | refine p_block ?_ | refine p_then_exit ?_ | refine p_block_here ?_ | refine p_block_on rfl ?_ | refine c_ret ?_ | refine p_then_ret ?_ | refine p_block_ret ?_ | refine p_end ?_ | refine c_if_t rfl (by omega) ?_ | refine c_if_f rfl (by omega) ?_)
    exact k_ret [] rfl (Keep.trans (Keep.in_mid l cs G) (Keep.dropL cs .refl)) (by (repeat (first | apply ResS.nil | (apply rs_tmp; (· rfl)) | (apply rs_cell1; (· rfl); (· ((repeat (first | with_reducible apply List.mem_cons_self | with_reducible apply List.mem_cons_of_mem)); try with_reducible assumption)); (· rfl)) | (apply rs_cellA; (· rfl); (· ((repeat (first | with_reducible apply List.mem_cons_self | with_reducible apply List.mem_cons_of_mem)); try with_reducible assumption)); (· (repeat (first | with_reducible apply LSub.done | with_reducible apply LSub.take | with_reducible apply LSub.drop))))))) ⟨l, rfl, .inl ⟨_, rfl, hI⟩⟩
theorem all_any (b : Nat) (D : SD) (lq : List Chunk) (hq : IsS b D lq) (hn : D.length ≤ 50000) (l : List Chunk) (hsub : ∀ c, c ∈ lq → c ∈ l) :
    Fn Try.prog 19 [.pointer (some ⟨b, 0, none⟩)] l fun v l' => ∃ cs, OwnSl 56 10 v (usedD D).length (hcs (usedD D)) cs ∧ l' = cs ++ l := by
  have hlen := usedD_len fun x hx => (hq.sz x hx).2
  refine fn_of_body Try.func19 rfl rfl fun E => ?_
  simp only [argF, Try.ntmps19]
  repeat (first | (show OpsS _ _ _ _ _ _ (_ :: _) _ _ _; first | refine ozq ?_) | refine c_seq ?_ | refine p_then ?_ | refine c_region ?_ | refine s_nil ?_ | refine c_ret ?_ | refine p_then_ret ?_ | refine p_end ?_)
  refine t_e (e_call0 rfl rfl (used_any _ rfl _)) rfl rfl rfl ?_
  rintro _ _ ⟨B, rfl, rfl⟩
  repeat (first | (show OpsS _ _ _ _ _ _ (_ :: _) _ _ _; first | refine ozq ?_) | refine c_seq ?_ | refine p_then ?_ | refine c_region ?_ | refine s_nil ?_ | refine c_ret ?_ | refine p_then_ret ?_ | refine p_end ?_)
  refine t_e (e_call0 rfl rfl (collectE_any 37 [.pointer (some ⟨B, 0, none⟩)] _ _ _ (used_iter B b D lq hq hn) (usedD D).length (fun pre h => h.length_le) (by omega) _ fun _ l2 hl => ⟨hl _ (.head _), fun c hc => hl _ (.tail _ (hsub c hc))⟩)) rfl rfl rfl ?_
  rintro v _ ⟨_, cs, rfl, ho, rfl⟩
  have hv1 : v.oneCell' = true := ho.one
  repeat (first | (show OpsS _ _ _ _ _ _ (_ :: _) _ _ _; first | refine ozq ?_) | refine c_seq ?_ | refine p_then ?_ | refine c_region ?_ | refine s_nil ?_ | refine c_ret ?_ | refine p_then_ret ?_ | refine p_end ?_)
  refine k_ret [] rfl (l' := cs ++ l) (Keep.trans (.of_perm List.perm_middle) (.drop .refl)) (by (repeat (first | apply ResS.nil | (apply rs_tmp; (· rfl)) | (apply rs_cell1; (· rfl); (· ((repeat (first | with_reducible apply List.mem_cons_self | with_reducible apply List.mem_cons_of_mem)); try with_reducible assumption)); (· rfl)) | (apply rs_cellA; (· rfl); (· ((repeat (first | with_reducible apply List.mem_cons_self | with_reducible apply List.mem_cons_of_mem)); try with_reducible assumption)); (· (repeat (first | with_reducible apply LSub.done | with_reducible apply LSub.take | with_reducible apply LSub.drop))))))) ?_
  exact ⟨cs, ho, rfl⟩
end Go.Proofs.Ytikcekfalfllpaa
