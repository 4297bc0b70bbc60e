/- Add, Drop, List, First of endpoints; slices.Clone. -/
import Derived.Test.YthhaldgpddmolaaF1
set_option linter.unusedVariables false
set_option linter.unusedSimpArgs false
namespace Go.Proofs.Ythhaldgpddmolaa
open Go.RowKit

def findD (D : DE) (id : Int) : Option (List Int × Bool) := (D.find? fun x => x.1 == id).map (·.2)
def addD (D : DE) (id : Int) : Int × DE := if id < 1 then (2, D) else if (findD D id).isSome then (11, D) else (0, D ++ [(id, [], false)])
def dropD (D : DE) (id : Int) : List Int × Int × DE := match findD D id with
  | some x => (x.1, 0, D.eraseP fun x => x.1 == id)
  | none => ([], 2, D)
def listD (D : DE) (id : Int) : List Int × Bool := match findD D id with
  | some x => if x.1.length = 0 then ([], false) else x
  | none => ([], false)
theorem getE_none {rows : List Row} {a : Int} (h : ∀ r, r ∈ rows → r.id ≠ a) : getE a (rows.map Row.ent) = none := by
  unfold getE
  rw [findE_none.2 fun e he => by
    rw [List.mem_map] at he
    obtain ⟨r, hr, rfl⟩ := he
    exact h r hr]; rfl
theorem getE_some {rows : List Row} (hn : (rows.map Row.id).Nodup) {r : Row} (hr : r ∈ rows) : getE r.id (rows.map Row.ent) = some (.pointer (some ⟨r.pb, 0, none⟩)) := by
  unfold getE
  cases h : findE r.id (rows.map Row.ent) 0 with
  | none =>
    have := findE_none.1 h _ (List.mem_map.2 ⟨r, hr, rfl⟩)
    exact absurd rfl this
  | some p =>
    obtain ⟨i, v⟩ := p
    obtain ⟨_, e, he, h1, h2, _⟩ := findE_some h
    have hm := List.mem_of_getElem? he
    rw [List.mem_map] at hm
    obtain ⟨r', hr', rfl⟩ := hm
    have : r' = r := nd_inj hn hr' hr h1
    subst this
    rw [← h2]; rfl
theorem findD_none {rows : List Row} {a : Int} (h : ∀ r, r ∈ rows → r.id ≠ a) : findD (rows.map Row.d) a = none := by
  unfold findD
  rw [List.find?_eq_none.2 fun x hx => by
    rw [List.mem_map] at hx
    obtain ⟨r, hr, rfl⟩ := hx
    simpa [Row.d] using h r hr]; rfl
theorem findD_some {rows : List Row} (hn : (rows.map Row.id).Nodup) {r : Row} (hr : r ∈ rows) : findD (rows.map Row.d) r.id = some (r.th, r.sd) := by
  unfold findD
  have hs : ((rows.map Row.d).find? fun x => x.1 == r.id).isSome = true := List.find?_isSome.2 ⟨r.d, List.mem_map.2 ⟨r, hr, rfl⟩, by simp [Row.d]⟩
  obtain ⟨x, hx⟩ := Option.isSome_iff_exists.1 hs
  rw [hx]
  have h1 := List.find?_some hx
  have hm := List.mem_of_find?_eq_some hx
  rw [List.mem_map] at hm
  obtain ⟨r', hr', rfl⟩ := hm
  have : r' = r := nd_inj hn hr' hr (by simpa [Row.d] using h1)
  subst this; rfl
theorem setE_none {rows : List Row} {a : Int} (h : ∀ r, r ∈ rows → r.id ≠ a) (v : Value) (clock : Nat) : setE a v clock (rows.map Row.ent) = (rows.map Row.ent ++ [(a, v, clock)], clock + 1) := by
  unfold setE
  rw [findE_none.2 fun e he => by
    rw [List.mem_map] at he
    obtain ⟨r, hr, rfl⟩ := he
    exact h r hr]
theorem findE_mid {a : Int} {v : Value} {s : Nat} : ∀ (A B : List Ent) (i : Nat), (∀ x, x ∈ A → x.1 ≠ a) → findE a (A ++ (a, v, s) :: B) i = some (i + A.length, v)
  | [], B, i, _ => by simp [findE]
  | x :: A, B, i, h => by
    have := h x List.mem_cons_self
    rw [List.cons_append, findE, if_neg (fun e => this e.symm), findE_mid A B (i + 1) fun y hy => h y (List.mem_cons_of_mem _ hy)]
    simp; omega
theorem delE_mid {a : Int} {v : Value} {s : Nat} (A B : List Ent) (h : ∀ x, x ∈ A → x.1 ≠ a) : delE a (A ++ (a, v, s) :: B) = A ++ B := by
  unfold delE
  rw [findE_mid A B 0 h]
  simp only [Nat.zero_add]
  rw [List.eraseIdx_append_of_length_le (Nat.le_refl _), Nat.sub_self]; rfl
theorem EB.split {b : Nat} {rows : List Row} {m clock : Nat} {lq : List Chunk} (h : EB b rows m clock lq) {r : Row} (hr : r ∈ rows) : ∃ A B, rows = A ++ r :: B ∧ (∀ x, x ∈ A → x.id ≠ r.id) ∧ (∀ x, x ∈ B → x.id ≠ r.id) := by
  obtain ⟨A, B, rfl⟩ := List.append_of_mem hr
  have hn := h.ids
  rw [List.map_append, List.map_cons, List.nodup_append] at hn
  obtain ⟨h1, h2, h3⟩ := hn
  rw [List.nodup_cons] at h2
  exact ⟨A, B, rfl, fun x hx e => h3 _ (List.mem_map.2 ⟨x, hx, rfl⟩) _ List.mem_cons_self e, fun x hx e => h2.1 (List.mem_map.2 ⟨x, hx, e⟩)⟩
set_option pp.deepTerms false
set_option pp.deepTerms.threshold 4
set_option maxHeartbeats 400000
theorem clone_any (v : Value) (xs : List Int) (cs l : List Chunk) (ho : OwnSl 3 1 v xs.length (xs.map intV) cs) (hs : ∀ c, c ∈ cs → c ∈ l) (hx : xs.length ≤ 1000000) :
    Fn Try.prog 27 [v] l fun r l' => ∃ c2, OwnSl 3 1 r xs.length (xs.map intV) c2 ∧ l' = c2 ++ l := by
  obtain ⟨hlen, h⟩ := ho
  refine fn_of_body Try.func27 rfl rfl fun E => ?_
  simp only [argF, Try.ntmps27]
  rcases h with ⟨rfl, h0, rfl⟩ | ⟨gb, cap, sp, rfl, rfl, hnc, hcm, hcl⟩
  · repeat (first | (show OpsS _ _ _ _ _ _ (_ :: _) _ _ _; first | (apply t_h; (· first | (show OpQ _ _ _ _ _ ⟨_, .move _, _, _, _, _⟩ _; exact q_move rfl) | (show OpQ _ _ _ _ _ ⟨_, .assign _, _, _, _, _⟩ _; exact q_assign rfl) | (show OpQ _ _ _ _ _ ⟨_, .binOp .eql _ _ _ _, _, _, _, _⟩ _; first | exact q_eql rfl rfl | exact q_eqnil rfl rfl | exact q_eqb rfl rfl Try.underlying4 | exact q_eqnilsl rfl rfl)); (· rfl); (· rfl); (· rfl))) | refine c_seq ?_ | refine p_then ?_ | refine c_region ?_ | refine s_nil ?_ | refine c_cond_t rfl ?_ | refine c_cond_f rfl ?_ | refine c_skip ?_ | refine c_ret ?_ | refine p_then_ret ?_ | refine p_end ?_ | refine c_if_t rfl (by omega) ?_ | refine c_if_f rfl (by omega) ?_)
    refine k_ret [] rfl .refl (by (repeat (first | apply ResS.nil | (apply rs_tmp; (· rfl)) | (apply rs_cell1; (· rfl); (· ((repeat (first | with_reducible apply List.mem_cons_self | with_reducible apply List.mem_cons_of_mem)); try with_reducible assumption)); (· rfl)) | (apply rs_cellA; (· rfl); (· ((repeat (first | with_reducible apply List.mem_cons_self | with_reducible apply List.mem_cons_of_mem)); try with_reducible assumption)); (· (repeat (first | with_reducible apply LSub.done | with_reducible apply LSub.take | with_reducible apply LSub.drop))))))) ?_
    exact ⟨[], ⟨hlen, .inl ⟨rfl, h0, rfl⟩⟩, rfl⟩
  · have hg := hs _ List.mem_cons_self
    repeat (first | (show OpsS _ _ _ _ _ _ (_ :: _) _ _ _; first | (apply t_h; (· first | (show OpQ _ _ _ _ _ ⟨_, .move _, _, _, _, _⟩ _; exact q_move rfl) | (show OpQ _ _ _ _ _ ⟨_, .assign _, _, _, _, _⟩ _; exact q_assign rfl) | (show OpQ _ _ _ _ _ ⟨_, .binOp .eql _ _ _ _, _, _, _, _⟩ _; first | exact q_eql rfl rfl | exact q_eqnil rfl rfl | exact q_eqb rfl rfl Try.underlying4 | exact q_eqnilsl rfl rfl)); (· rfl); (· rfl); (· rfl))) | refine c_seq ?_ | refine p_then ?_ | refine c_region ?_ | refine s_nil ?_ | refine c_cond_t rfl ?_ | refine c_cond_f rfl ?_ | refine c_skip ?_ | refine c_ret ?_ | refine p_then_ret ?_ | refine p_end ?_ | refine c_if_t rfl (by omega) ?_ | refine c_if_f rfl (by omega) ?_)
    refine t_e e_lit0 rfl rfl rfl ?_
    rintro _ _ ⟨bl, hbl, rfl, rfl⟩
    repeat (first | (show OpsS _ _ _ _ _ _ (_ :: _) _ _ _; first | (apply t_h; (· first | (show OpQ _ _ _ _ _ ⟨_, .move _, _, _, _, _⟩ _; exact q_move rfl) | (show OpQ _ _ _ _ _ ⟨_, .assign _, _, _, _, _⟩ _; exact q_assign rfl) | (show OpQ _ _ _ _ _ ⟨_, .binOp .eql _ _ _ _, _, _, _, _⟩ _; first | exact q_eql rfl rfl | exact q_eqnil rfl rfl | exact q_eqb rfl rfl Try.underlying4 | exact q_eqnilsl rfl rfl)); (· rfl); (· rfl); (· rfl))) | refine c_seq ?_ | refine p_then ?_ | refine c_region ?_ | refine s_nil ?_ | refine c_cond_t rfl ?_ | refine c_cond_f rfl ?_ | refine c_skip ?_ | refine c_ret ?_ | refine p_then_ret ?_ | refine p_end ?_ | refine c_if_t rfl (by omega) ?_ | refine c_if_f rfl (by omega) ?_)
    apply t_e
    · apply ce_append (e := 3) (k := 1) (xs := []) (cs := [(bl, .cells #[] 3 (0, 0))]) (F := l) (news := xs.map intV) (zs := [.int .i64 0]) (cl := List.toArray (xs.map intV ++ sp))
      · rfl
      · rfl
      · rfl
      · exact OwnSl.empty
      · exact .tail _ hg
      · intro j u hj
        have hlt := (List.getElem?_eq_some_iff.1 hj).1
        rw [Nat.zero_add, List.getElem?_toArray, List.getElem?_append_left hlt]; exact hj
      · simp
      · intro u hu; rw [List.mem_map] at hu; obtain ⟨a, _, rfl⟩ := hu; rfl
      · unfold maxLen; omega
      · omega
    · rfl
    · rfl
    · rfl
    rintro v' _ ⟨c2, ho2, rfl⟩
    rw [List.nil_append, Nat.zero_add] at ho2
    repeat (first | (show OpsS _ _ _ _ _ _ (_ :: _) _ _ _; first | (apply t_h; (· first | (show OpQ _ _ _ _ _ ⟨_, .move _, _, _, _, _⟩ _; exact q_move rfl) | (show OpQ _ _ _ _ _ ⟨_, .assign _, _, _, _, _⟩ _; exact q_assign rfl) | (show OpQ _ _ _ _ _ ⟨_, .binOp .eql _ _ _ _, _, _, _, _⟩ _; first | exact q_eql rfl rfl | exact q_eqnil rfl rfl | exact q_eqb rfl rfl Try.underlying4 | exact q_eqnilsl rfl rfl)); (· rfl); (· rfl); (· rfl))) | refine c_seq ?_ | refine p_then ?_ | refine c_region ?_ | refine s_nil ?_ | refine c_cond_t rfl ?_ | refine c_cond_f rfl ?_ | refine c_skip ?_ | refine c_ret ?_ | refine p_then_ret ?_ | refine p_end ?_ | refine c_if_t rfl (by omega) ?_ | refine c_if_f rfl (by omega) ?_)
    refine k_ret [] rfl .refl (by (repeat (first | apply ResS.nil | (apply rs_tmp; (· rfl)) | (apply rs_cell1; (· rfl); (· ((repeat (first | with_reducible apply List.mem_cons_self | with_reducible apply List.mem_cons_of_mem)); try with_reducible assumption)); (· rfl)) | (apply rs_cellA; (· rfl); (· ((repeat (first | with_reducible apply List.mem_cons_self | with_reducible apply List.mem_cons_of_mem)); try with_reducible assumption)); (· (repeat (first | with_reducible apply LSub.done | with_reducible apply LSub.take | with_reducible apply LSub.drop))))))) ?_
    exact ⟨c2, ho2, rfl⟩
theorem add_any (b : Nat) (D : DE) (lq : List Chunk) (id : Int) (hq : IsE b D lq) (F : List Chunk) :
    Fn Try.prog 9 [.pointer (some ⟨b, 0, none⟩), .int .i64 id] (lq ++ F) fun v l' => v = .int .i64 (addD D id).1 ∧ ∃ lq', IsE b (addD D id).2 lq' ∧ l' = lq' ++ F := by
  obtain ⟨rows, m, clock, rfl, hE⟩ := hq
  refine fn_of_body Try.func9 rfl rfl fun E => ?_
  simp only [argF, Try.ntmps9]
  by_cases h0 : id < 1
  · rw [show addD (rows.map Row.d) id = (2, rows.map Row.d) from if_pos h0]
    repeat (first | (show OpsS _ _ _ _ _ _ (_ :: _) _ _ _; first | (apply t_h; (· first | (show OpQ _ _ _ _ _ ⟨_, .move _, _, _, _, _⟩ _; exact q_move rfl) | (show OpQ _ _ _ _ _ ⟨_, .load _ _, _, _, _, _⟩ _; first | exact q_load rfl (by ((repeat (first | with_reducible apply List.mem_cons_self | with_reducible apply List.mem_cons_of_mem)); try with_reducible assumption)) (by (first | with_reducible assumption | ((with_reducible apply cell_get); (repeat (first | with_reducible apply LGet.zero | with_reducible apply LGet.succ))))) | exact q_loadL rfl (by ((repeat (first | with_reducible apply List.mem_cons_self | with_reducible apply List.mem_cons_of_mem)); try with_reducible assumption)) (by (repeat (first | with_reducible apply LSub.done | with_reducible apply LSub.take | with_reducible apply LSub.drop)))) | (show OpQ _ _ _ _ _ ⟨_, .fieldAddr _ _ _, _, _, _, _⟩ _; exact q_fieldAddr rfl (by (first | with_reducible exact Nat.zero_add _ | with_reducible exact Nat.add_zero _ | exact rfl))) | (show OpQ _ _ _ _ _ ⟨_, .nilCheck _, _, _, _, _⟩ _; first | exact q_nilCheck rfl | exact q_nilCheck_f rfl | exact q_nilCheck_y rfl) | (show OpQ _ _ _ _ _ ⟨_, .assign _, _, _, _, _⟩ _; exact q_assign rfl) | (show OpQ _ _ _ _ _ ⟨_, .binOp .eql _ _ _ _, _, _, _, _⟩ _; first | exact q_eql rfl rfl | exact q_eqnil rfl rfl | exact q_eqb rfl rfl Try.underlying4 | exact q_eqnilsl rfl rfl) | (show OpQ _ _ _ _ _ ⟨_, .binOp .lss _ _ _ _, _, _, _, _⟩ _; exact q_lss rfl rfl) | (show OpQ _ _ _ _ _ ⟨_, .binOp .neq _ _ _ _, _, _, _, _⟩ _; first | exact q_neq rfl rfl | exact q_nenil rfl rfl | exact q_neb rfl rfl Try.underlying4 | exact q_nenilsl rfl rfl) | (show OpQ _ _ _ _ _ ⟨_, .build _ _, _, _, _, _⟩ _; exact q_build rfl (by (repeat (first | apply BuildS.nil | (apply BuildS.one; (· infer_instance); (· infer_instance); (· rfl); (· (repeat (first | with_reducible apply LSet.zero | with_reducible apply LSet.succ)))) | (apply BuildS.agg; (· infer_instance); (· infer_instance); (· rfl); (· (repeat (first | with_reducible apply LSetA.done | with_reducible apply LSetA.put | with_reducible apply LSetA.skip)))))))) | (show OpQ _ _ _ _ _ ⟨_, .lookup _ _ _ _, _, _, _, _⟩ _; first | exact q_lookup rfl rfl (by ((repeat (first | with_reducible apply List.mem_cons_self | with_reducible apply List.mem_cons_of_mem)); try with_reducible assumption)) | exact q_lookup2 rfl rfl (by ((repeat (first | with_reducible apply List.mem_cons_self | with_reducible apply List.mem_cons_of_mem)); try with_reducible assumption)))); (· rfl); (· rfl); (· rfl))) | refine c_seq ?_ | refine p_then ?_ | refine c_region ?_ | refine s_nil ?_ | refine c_cond_t rfl ?_ | refine c_cond_f rfl ?_ | refine c_block ?_ | refine c_skip ?_ | refine p_block ?_ | refine p_block_here ?_ | refine p_block_on rfl ?_ | refine c_ret ?_ | refine p_then_ret ?_ | refine p_block_ret ?_ | refine p_end ?_ | refine c_if_t rfl (by omega) ?_ | refine c_if_f rfl (by omega) ?_)
    exact k_ret [] rfl .refl (by (repeat (first | apply ResS.nil | (apply rs_tmp; (· rfl)) | (apply rs_cell1; (· rfl); (· ((repeat (first | with_reducible apply List.mem_cons_self | with_reducible apply List.mem_cons_of_mem)); try with_reducible assumption)); (· rfl)) | (apply rs_cellA; (· rfl); (· ((repeat (first | with_reducible apply List.mem_cons_self | with_reducible apply List.mem_cons_of_mem)); try with_reducible assumption)); (· (repeat (first | with_reducible apply LSub.done | with_reducible apply LSub.take | with_reducible apply LSub.drop))))))) ⟨rfl, _, ⟨rows, m, clock, rfl, hE⟩, rfl⟩
  have hEq := hE.eq
  by_cases h1 : ∃ r, r ∈ rows ∧ r.id = id
  · obtain ⟨r, hr, rfl⟩ := h1
    have hg := getE_some hE.ids hr
    rw [show addD (rows.map Row.d) r.id = (11, rows.map Row.d) by unfold addD; rw [if_neg h0, findD_some hE.ids hr]; rfl]
    rw [hEq]
    simp only [List.cons_append]
    repeat (first | (show OpsS _ _ _ _ _ _ (_ :: _) _ _ _; first | (apply t_h; (· first | (show OpQ _ _ _ _ _ ⟨_, .move _, _, _, _, _⟩ _; exact q_move rfl) | (show OpQ _ _ _ _ _ ⟨_, .load _ _, _, _, _, _⟩ _; first | exact q_load rfl (by ((repeat (first | with_reducible apply List.mem_cons_self | with_reducible apply List.mem_cons_of_mem)); try with_reducible assumption)) (by (first | with_reducible assumption | ((with_reducible apply cell_get); (repeat (first | with_reducible apply LGet.zero | with_reducible apply LGet.succ))))) | exact q_loadL rfl (by ((repeat (first | with_reducible apply List.mem_cons_self | with_reducible apply List.mem_cons_of_mem)); try with_reducible assumption)) (by (repeat (first | with_reducible apply LSub.done | with_reducible apply LSub.take | with_reducible apply LSub.drop)))) | (show OpQ _ _ _ _ _ ⟨_, .fieldAddr _ _ _, _, _, _, _⟩ _; exact q_fieldAddr rfl (by (first | with_reducible exact Nat.zero_add _ | with_reducible exact Nat.add_zero _ | exact rfl))) | (show OpQ _ _ _ _ _ ⟨_, .nilCheck _, _, _, _, _⟩ _; first | exact q_nilCheck rfl | exact q_nilCheck_f rfl | exact q_nilCheck_y rfl) | (show OpQ _ _ _ _ _ ⟨_, .assign _, _, _, _, _⟩ _; exact q_assign rfl) | (show OpQ _ _ _ _ _ ⟨_, .binOp .eql _ _ _ _, _, _, _, _⟩ _; first | exact q_eql rfl rfl | exact q_eqnil rfl rfl | exact q_eqb rfl rfl Try.underlying4 | exact q_eqnilsl rfl rfl) | (show OpQ _ _ _ _ _ ⟨_, .binOp .lss _ _ _ _, _, _, _, _⟩ _; exact q_lss rfl rfl) | (show OpQ _ _ _ _ _ ⟨_, .binOp .neq _ _ _ _, _, _, _, _⟩ _; first | exact q_neq rfl rfl | exact q_nenil rfl rfl | exact q_neb rfl rfl Try.underlying4 | exact q_nenilsl rfl rfl) | (show OpQ _ _ _ _ _ ⟨_, .build _ _, _, _, _, _⟩ _; exact q_build rfl (by (repeat (first | apply BuildS.nil | (apply BuildS.one; (· infer_instance); (· infer_instance); (· rfl); (· (repeat (first | with_reducible apply LSet.zero | with_reducible apply LSet.succ)))) | (apply BuildS.agg; (· infer_instance); (· infer_instance); (· rfl); (· (repeat (first | with_reducible apply LSetA.done | with_reducible apply LSetA.put | with_reducible apply LSetA.skip)))))))) | (show OpQ _ _ _ _ _ ⟨_, .lookup _ _ _ _, _, _, _, _⟩ _; first | exact q_lookup rfl rfl (by ((repeat (first | with_reducible apply List.mem_cons_self | with_reducible apply List.mem_cons_of_mem)); try with_reducible assumption)) | exact q_lookup2 rfl rfl (by ((repeat (first | with_reducible apply List.mem_cons_self | with_reducible apply List.mem_cons_of_mem)); try with_reducible assumption)))); (· rfl); (· rfl); (· rfl))) | refine c_seq ?_ | refine p_then ?_ | refine c_region ?_ | refine s_nil ?_ | refine c_cond_t rfl ?_ | refine c_cond_f rfl ?_ | refine c_block ?_ | refine c_skip ?_ | refine p_block ?_ | refine p_block_here ?_ | refine p_block_on rfl ?_ | refine c_ret ?_ | refine p_then_ret ?_ | refine p_block_ret ?_ | refine p_end ?_ | refine c_if_t rfl (by omega) ?_ | refine c_if_f rfl (by omega) ?_)
    rw [hg]
    repeat (first | (show OpsS _ _ _ _ _ _ (_ :: _) _ _ _; first | (apply t_h; (· first | (show OpQ _ _ _ _ _ ⟨_, .move _, _, _, _, _⟩ _; exact q_move rfl) | (show OpQ _ _ _ _ _ ⟨_, .load _ _, _, _, _, _⟩ _; first | exact q_load rfl (by ((repeat (first | with_reducible apply List.mem_cons_self | with_reducible apply List.mem_cons_of_mem)); try with_reducible assumption)) (by (first | with_reducible assumption | ((with_reducible apply cell_get); (repeat (first | with_reducible apply LGet.zero | with_reducible apply LGet.succ))))) | exact q_loadL rfl (by ((repeat (first | with_reducible apply List.mem_cons_self | with_reducible apply List.mem_cons_of_mem)); try with_reducible assumption)) (by (repeat (first | with_reducible apply LSub.done | with_reducible apply LSub.take | with_reducible apply LSub.drop)))) | (show OpQ _ _ _ _ _ ⟨_, .fieldAddr _ _ _, _, _, _, _⟩ _; exact q_fieldAddr rfl (by (first | with_reducible exact Nat.zero_add _ | with_reducible exact Nat.add_zero _ | exact rfl))) | (show OpQ _ _ _ _ _ ⟨_, .nilCheck _, _, _, _, _⟩ _; first | exact q_nilCheck rfl | exact q_nilCheck_f rfl | exact q_nilCheck_y rfl) | (show OpQ _ _ _ _ _ ⟨_, .assign _, _, _, _, _⟩ _; exact q_assign rfl) | (show OpQ _ _ _ _ _ ⟨_, .binOp .eql _ _ _ _, _, _, _, _⟩ _; first | exact q_eql rfl rfl | exact q_eqnil rfl rfl | exact q_eqb rfl rfl Try.underlying4 | exact q_eqnilsl rfl rfl) | (show OpQ _ _ _ _ _ ⟨_, .binOp .lss _ _ _ _, _, _, _, _⟩ _; exact q_lss rfl rfl) | (show OpQ _ _ _ _ _ ⟨_, .binOp .neq _ _ _ _, _, _, _, _⟩ _; first | exact q_neq rfl rfl | exact q_nenil rfl rfl | exact q_neb rfl rfl Try.underlying4 | exact q_nenilsl rfl rfl) | (show OpQ _ _ _ _ _ ⟨_, .build _ _, _, _, _, _⟩ _; exact q_build rfl (by (repeat (first | apply BuildS.nil | (apply BuildS.one; (· infer_instance); (· infer_instance); (· rfl); (· (repeat (first | with_reducible apply LSet.zero | with_reducible apply LSet.succ)))) | (apply BuildS.agg; (· infer_instance); (· infer_instance); (· rfl); (· (repeat (first | with_reducible apply LSetA.done | with_reducible apply LSetA.put | with_reducible apply LSetA.skip)))))))) | (show OpQ _ _ _ _ _ ⟨_, .lookup _ _ _ _, _, _, _, _⟩ _; first | exact q_lookup rfl rfl (by ((repeat (first | with_reducible apply List.mem_cons_self | with_reducible apply List.mem_cons_of_mem)); try with_reducible assumption)) | exact q_lookup2 rfl rfl (by ((repeat (first | with_reducible apply List.mem_cons_self | with_reducible apply List.mem_cons_of_mem)); try with_reducible assumption)))); (· rfl); (· rfl); (· rfl))) | refine c_seq ?_ | refine p_then ?_ | refine c_region ?_ | refine s_nil ?_ | refine c_cond_t rfl ?_ | refine c_cond_f rfl ?_ | refine c_block ?_ | refine c_skip ?_ | refine p_block ?_ | refine p_block_here ?_ | refine p_block_on rfl ?_ | refine c_ret ?_ | refine p_then_ret ?_ | refine p_block_ret ?_ | refine p_end ?_ | refine c_if_t rfl (by omega) ?_ | refine c_if_f rfl (by omega) ?_)
    refine k_ret [] rfl .refl (by (repeat (first | apply ResS.nil | (apply rs_tmp; (· rfl)) | (apply rs_cell1; (· rfl); (· ((repeat (first | with_reducible apply List.mem_cons_self | with_reducible apply List.mem_cons_of_mem)); try with_reducible assumption)); (· rfl)) | (apply rs_cellA; (· rfl); (· ((repeat (first | with_reducible apply List.mem_cons_self | with_reducible apply List.mem_cons_of_mem)); try with_reducible assumption)); (· (repeat (first | with_reducible apply LSub.done | with_reducible apply LSub.take | with_reducible apply LSub.drop))))))) ⟨rfl, _, ⟨rows, m, clock, rfl, hE⟩, by rw [hEq]; rfl⟩
  · have hno : ∀ r, r ∈ rows → r.id ≠ id := fun r hr e => h1 ⟨r, hr, e⟩
    have hg := getE_none hno
    rw [show addD (rows.map Row.d) id = (0, rows.map Row.d ++ [(id, [], false)]) by unfold addD; rw [if_neg h0, findD_none hno]; rfl]
    rw [hEq]
    simp only [List.cons_append]
    repeat (first | (show OpsS _ _ _ _ _ _ (_ :: _) _ _ _; first | (apply t_h; (· first | (show OpQ _ _ _ _ _ ⟨_, .move _, _, _, _, _⟩ _; exact q_move rfl) | (show OpQ _ _ _ _ _ ⟨_, .load _ _, _, _, _, _⟩ _; first | exact q_load rfl (by ((repeat (first | with_reducible apply List.mem_cons_self | with_reducible apply List.mem_cons_of_mem)); try with_reducible assumption)) (by (first | with_reducible assumption | ((with_reducible apply cell_get); (repeat (first | with_reducible apply LGet.zero | with_reducible apply LGet.succ))))) | exact q_loadL rfl (by ((repeat (first | with_reducible apply List.mem_cons_self | with_reducible apply List.mem_cons_of_mem)); try with_reducible assumption)) (by (repeat (first | with_reducible apply LSub.done | with_reducible apply LSub.take | with_reducible apply LSub.drop)))) | (show OpQ _ _ _ _ _ ⟨_, .fieldAddr _ _ _, _, _, _, _⟩ _; exact q_fieldAddr rfl (by (first | with_reducible exact Nat.zero_add _ | with_reducible exact Nat.add_zero _ | exact rfl))) | (show OpQ _ _ _ _ _ ⟨_, .nilCheck _, _, _, _, _⟩ _; first | exact q_nilCheck rfl | exact q_nilCheck_f rfl | exact q_nilCheck_y rfl) | (show OpQ _ _ _ _ _ ⟨_, .assign _, _, _, _, _⟩ _; exact q_assign rfl) | (show OpQ _ _ _ _ _ ⟨_, .binOp .eql _ _ _ _, _, _, _, _⟩ _; first | exact q_eql rfl rfl | exact q_eqnil rfl rfl | exact q_eqb rfl rfl Try.underlying4 | exact q_eqnilsl rfl rfl) | (show OpQ _ _ _ _ _ ⟨_, .binOp .lss _ _ _ _, _, _, _, _⟩ _; exact q_lss rfl rfl) | (show OpQ _ _ _ _ _ ⟨_, .binOp .neq _ _ _ _, _, _, _, _⟩ _; first | exact q_neq rfl rfl | exact q_nenil rfl rfl | exact q_neb rfl rfl Try.underlying4 | exact q_nenilsl rfl rfl) | (show OpQ _ _ _ _ _ ⟨_, .build _ _, _, _, _, _⟩ _; exact q_build rfl (by (repeat (first | apply BuildS.nil | (apply BuildS.one; (· infer_instance); (· infer_instance); (· rfl); (· (repeat (first | with_reducible apply LSet.zero | with_reducible apply LSet.succ)))) | (apply BuildS.agg; (· infer_instance); (· infer_instance); (· rfl); (· (repeat (first | with_reducible apply LSetA.done | with_reducible apply LSetA.put | with_reducible apply LSetA.skip)))))))) | (show OpQ _ _ _ _ _ ⟨_, .lookup _ _ _ _, _, _, _, _⟩ _; first | exact q_lookup rfl rfl (by ((repeat (first | with_reducible apply List.mem_cons_self | with_reducible apply List.mem_cons_of_mem)); try with_reducible assumption)) | exact q_lookup2 rfl rfl (by ((repeat (first | with_reducible apply List.mem_cons_self | with_reducible apply List.mem_cons_of_mem)); try with_reducible assumption)))); (· rfl); (· rfl); (· rfl))) | refine c_seq ?_ | refine p_then ?_ | refine c_region ?_ | refine s_nil ?_ | refine c_cond_t rfl ?_ | refine c_cond_f rfl ?_ | refine c_block ?_ | refine c_skip ?_ | refine p_block ?_ | refine p_block_here ?_ | refine p_block_on rfl ?_ | refine c_ret ?_ | refine p_then_ret ?_ | refine p_block_ret ?_ | refine p_end ?_ | refine c_if_t rfl (by omega) ?_ | refine c_if_f rfl (by omega) ?_)
    rw [hg]
    repeat (first | (show OpsS _ _ _ _ _ _ (_ :: _) _ _ _; first | (apply t_h; (· first | (show OpQ _ _ _ _ _ ⟨_, .move _, _, _, _, _⟩ _; exact q_move rfl) | (show OpQ _ _ _ _ _ ⟨_, .load _ _, _, _, _, _⟩ _; first | exact q_load rfl (by ((repeat (first | with_reducible apply List.mem_cons_self | with_reducible apply List.mem_cons_of_mem)); try with_reducible assumption)) (by (first | with_reducible assumption | ((with_reducible apply cell_get); (repeat (first | with_reducible apply LGet.zero | with_reducible apply LGet.succ))))) | exact q_loadL rfl (by ((repeat (first | with_reducible apply List.mem_cons_self | with_reducible apply List.mem_cons_of_mem)); try with_reducible assumption)) (by (repeat (first | with_reducible apply LSub.done | with_reducible apply LSub.take | with_reducible apply LSub.drop)))) | (show OpQ _ _ _ _ _ ⟨_, .fieldAddr _ _ _, _, _, _, _⟩ _; exact q_fieldAddr rfl (by (first | with_reducible exact Nat.zero_add _ | with_reducible exact Nat.add_zero _ | exact rfl))) | (show OpQ _ _ _ _ _ ⟨_, .nilCheck _, _, _, _, _⟩ _; first | exact q_nilCheck rfl | exact q_nilCheck_f rfl | exact q_nilCheck_y rfl) | (show OpQ _ _ _ _ _ ⟨_, .assign _, _, _, _, _⟩ _; exact q_assign rfl) | (show OpQ _ _ _ _ _ ⟨_, .binOp .eql _ _ _ _, _, _, _, _⟩ _; first | exact q_eql rfl rfl | exact q_eqnil rfl rfl | exact q_eqb rfl rfl Try.underlying4 | exact q_eqnilsl rfl rfl) | (show OpQ _ _ _ _ _ ⟨_, .binOp .lss _ _ _ _, _, _, _, _⟩ _; exact q_lss rfl rfl) | (show OpQ _ _ _ _ _ ⟨_, .binOp .neq _ _ _ _, _, _, _, _⟩ _; first | exact q_neq rfl rfl | exact q_nenil rfl rfl | exact q_neb rfl rfl Try.underlying4 | exact q_nenilsl rfl rfl) | (show OpQ _ _ _ _ _ ⟨_, .build _ _, _, _, _, _⟩ _; exact q_build rfl (by (repeat (first | apply BuildS.nil | (apply BuildS.one; (· infer_instance); (· infer_instance); (· rfl); (· (repeat (first | with_reducible apply LSet.zero | with_reducible apply LSet.succ)))) | (apply BuildS.agg; (· infer_instance); (· infer_instance); (· rfl); (· (repeat (first | with_reducible apply LSetA.done | with_reducible apply LSetA.put | with_reducible apply LSetA.skip)))))))) | (show OpQ _ _ _ _ _ ⟨_, .lookup _ _ _ _, _, _, _, _⟩ _; first | exact q_lookup rfl rfl (by ((repeat (first | with_reducible apply List.mem_cons_self | with_reducible apply List.mem_cons_of_mem)); try with_reducible assumption)) | exact q_lookup2 rfl rfl (by ((repeat (first | with_reducible apply List.mem_cons_self | with_reducible apply List.mem_cons_of_mem)); try with_reducible assumption)))); (· rfl); (· rfl); (· rfl))) | refine c_seq ?_ | refine p_then ?_ | refine c_region ?_ | refine s_nil ?_ | refine c_cond_t rfl ?_ | refine c_cond_f rfl ?_ | refine c_block ?_ | refine c_skip ?_ | refine p_block ?_ | refine p_block_here ?_ | refine p_block_on rfl ?_ | refine c_ret ?_ | refine p_then_ret ?_ | refine p_block_ret ?_ | refine p_end ?_ | refine c_if_t rfl (by omega) ?_ | refine c_if_f rfl (by omega) ?_)
    refine t_e (e_boxA rfl) rfl rfl rfl ?_
    rintro _ _ ⟨pb, hpb, rfl, rfl⟩
    refine t_n (e_mapUpdate rfl rfl rfl (by (repeat (first | apply Upd.here | apply Upd.there)))) rfl rfl ?_
    rintro _ _ ⟨rfl, rfl⟩
    rw [setE_none hno]
    repeat (first | (show OpsS _ _ _ _ _ _ (_ :: _) _ _ _; first | (apply t_h; (· first | (show OpQ _ _ _ _ _ ⟨_, .move _, _, _, _, _⟩ _; exact q_move rfl) | (show OpQ _ _ _ _ _ ⟨_, .load _ _, _, _, _, _⟩ _; first | exact q_load rfl (by ((repeat (first | with_reducible apply List.mem_cons_self | with_reducible apply List.mem_cons_of_mem)); try with_reducible assumption)) (by (first | with_reducible assumption | ((with_reducible apply cell_get); (repeat (first | with_reducible apply LGet.zero | with_reducible apply LGet.succ))))) | exact q_loadL rfl (by ((repeat (first | with_reducible apply List.mem_cons_self | with_reducible apply List.mem_cons_of_mem)); try with_reducible assumption)) (by (repeat (first | with_reducible apply LSub.done | with_reducible apply LSub.take | with_reducible apply LSub.drop)))) | (show OpQ _ _ _ _ _ ⟨_, .fieldAddr _ _ _, _, _, _, _⟩ _; exact q_fieldAddr rfl (by (first | with_reducible exact Nat.zero_add _ | with_reducible exact Nat.add_zero _ | exact rfl))) | (show OpQ _ _ _ _ _ ⟨_, .nilCheck _, _, _, _, _⟩ _; first | exact q_nilCheck rfl | exact q_nilCheck_f rfl | exact q_nilCheck_y rfl) | (show OpQ _ _ _ _ _ ⟨_, .assign _, _, _, _, _⟩ _; exact q_assign rfl) | (show OpQ _ _ _ _ _ ⟨_, .binOp .eql _ _ _ _, _, _, _, _⟩ _; first | exact q_eql rfl rfl | exact q_eqnil rfl rfl | exact q_eqb rfl rfl Try.underlying4 | exact q_eqnilsl rfl rfl) | (show OpQ _ _ _ _ _ ⟨_, .binOp .lss _ _ _ _, _, _, _, _⟩ _; exact q_lss rfl rfl) | (show OpQ _ _ _ _ _ ⟨_, .binOp .neq _ _ _ _, _, _, _, _⟩ _; first | exact q_neq rfl rfl | exact q_nenil rfl rfl | exact q_neb rfl rfl Try.underlying4 | exact q_nenilsl rfl rfl) | (show OpQ _ _ _ _ _ ⟨_, .build _ _, _, _, _, _⟩ _; exact q_build rfl (by (repeat (first | apply BuildS.nil | (apply BuildS.one; (· infer_instance); (· infer_instance); (· rfl); (· (repeat (first | with_reducible apply LSet.zero | with_reducible apply LSet.succ)))) | (apply BuildS.agg; (· infer_instance); (· infer_instance); (· rfl); (· (repeat (first | with_reducible apply LSetA.done | with_reducible apply LSetA.put | with_reducible apply LSetA.skip)))))))) | (show OpQ _ _ _ _ _ ⟨_, .lookup _ _ _ _, _, _, _, _⟩ _; first | exact q_lookup rfl rfl (by ((repeat (first | with_reducible apply List.mem_cons_self | with_reducible apply List.mem_cons_of_mem)); try with_reducible assumption)) | exact q_lookup2 rfl rfl (by ((repeat (first | with_reducible apply List.mem_cons_self | with_reducible apply List.mem_cons_of_mem)); try with_reducible assumption)))); (· rfl); (· rfl); (· rfl))) | refine c_seq ?_ | refine p_then ?_ | refine c_region ?_ | refine s_nil ?_ | refine c_cond_t rfl ?_ | refine c_cond_f rfl ?_ | refine c_block ?_ | refine c_skip ?_ | refine p_block ?_ | refine p_block_here ?_ | refine p_block_on rfl ?_ | refine c_ret ?_ | refine p_then_ret ?_ | refine p_block_ret ?_ | refine p_end ?_ | refine c_if_t rfl (by omega) ?_ | refine c_if_f rfl (by omega) ?_)
    obtain ⟨r, hr⟩ : ∃ r : Row, r = ⟨id, [], false, pb, .slice none 0 0, [], clock⟩ := ⟨_, rfl⟩
    refine k_ret [] rfl (l' := (enC b m :: (m, mapO .i64 ((rows ++ [r]).map Row.ent) (clock + 1)) :: (rows ++ [r]).flatMap Row.ch) ++ F) ?_ (by (repeat (first | apply ResS.nil | (apply rs_tmp; (· rfl)) | (apply rs_cell1; (· rfl); (· ((repeat (first | with_reducible apply List.mem_cons_self | with_reducible apply List.mem_cons_of_mem)); try with_reducible assumption)); (· rfl)) | (apply rs_cellA; (· rfl); (· ((repeat (first | with_reducible apply List.mem_cons_self | with_reducible apply List.mem_cons_of_mem)); try with_reducible assumption)); (· (repeat (first | with_reducible apply LSub.done | with_reducible apply LSub.take | with_reducible apply LSub.drop))))))) ⟨rfl, _, ⟨rows ++ [r], m, clock + 1, by rw [List.map_append, hr]; rfl, ⟨rfl, fun x hx => ?_, fun x hx => ?_, ?_, ?_⟩⟩, rfl⟩
    · rw [List.map_append, List.flatMap_append, hr]
      refine .of_perm ?_
      show List.Perm ((pb, _) :: enC b m :: (m, _) :: (rows.flatMap Row.ch ++ F)) (enC b m :: (m, _) :: ((rows.flatMap Row.ch ++ [_]) ++ F))
      refine (List.Perm.swap _ _ _).trans (List.Perm.cons _ ((List.Perm.swap _ _ _).trans (List.Perm.cons _ ?_)))
      rw [List.append_assoc]
      exact List.perm_middle.symm
    · rcases List.mem_append.1 hx with hx | hx
      · exact hE.own x hx
      · rw [List.mem_singleton.1 hx, hr]; exact OwnSl.nil _ _
    · rcases List.mem_append.1 hx with hx | hx
      · exact Nat.lt_succ_of_lt (hE.st x hx)
      · rw [List.mem_singleton.1 hx, hr]; exact Nat.lt_succ_self _
    · rw [List.map_append, List.nodup_append]
      refine ⟨hE.nd, by simp, fun x hx y hy => ?_⟩
      rw [List.mem_map] at hx hy
      obtain ⟨x', hx', rfl⟩ := hx
      obtain ⟨y', hy', rfl⟩ := hy
      have := hE.st x' hx'
      rw [List.mem_singleton.1 hy', hr]; simp only; omega
    · rw [List.map_append, List.nodup_append]
      refine ⟨hE.ids, by simp, fun x hx y hy => ?_⟩
      rw [List.mem_map] at hx hy
      obtain ⟨x', hx', rfl⟩ := hx
      obtain ⟨y', hy', rfl⟩ := hy
      rw [List.mem_singleton.1 hy', hr]; exact hno x' hx'
end Go.Proofs.Ythhaldgpddmolaa
