/- Chapter 21's own answer: at, Has, All. -/
import Derived.Test.YtegnnombkjmolaaW9
set_option linter.unusedVariables false
set_option linter.unusedSimpArgs false
namespace Go.Proofs.Ytegnnombkjmolaa
open Go.RowKit

def oneC (L : List (Int × Int)) : List Value := L.flatMap fun y => [.int .i64 y.1, .int .i64 y.2]
theorem oneC_append (L M : List (Int × Int)) : oneC (L ++ M) = oneC L ++ oneC M := by simp [oneC]
theorem oneC_cons (y : Int × Int) (L : List (Int × Int)) : oneC (y :: L) = .int .i64 y.1 :: .int .i64 y.2 :: oneC L := rfl
theorem oneC_len (L : List (Int × Int)) : (oneC L).length = L.length * 2 := by
  induction L with
  | nil => rfl
  | cons y L ih => rw [oneC_cons, List.length_cons, List.length_cons, ih, List.length_cons]; omega
theorem oneC_get : ∀ (L : List (Int × Int)) (i : Nat) (y : Int × Int), L[i]? = some y → (oneC L)[i * 2]? = some (.int .i64 y.1) ∧ (oneC L)[i * 2 + 1]? = some (.int .i64 y.2)
  | [], i, y, h => by simp at h
  | z :: L, 0, y, h => by
    simp only [List.getElem?_cons_zero, Option.some.injEq] at h
    subst h; exact ⟨rfl, rfl⟩
  | z :: L, i + 1, y, h => by
    obtain ⟨h1, h2⟩ := oneC_get L i y (by simpa using h)
    rw [oneC_cons, Nat.succ_mul]
    exact ⟨by simpa using h1, by simpa using h2⟩
theorem oneC_ones (L : List (Int × Int)) : ∀ u, u ∈ oneC L → u.oneCell' = true := fun u hu => by
  unfold oneC at hu
  rw [List.mem_flatMap] at hu
  obtain ⟨y, _, h⟩ := hu
  rcases List.mem_cons.1 h with rfl | h
  · rfl
  · rw [List.mem_singleton.1 h]; rfl
/-- v is a slice whose pairs L can be read in l -/
def OneSl (l : List Chunk) (v : Value) (L : List (Int × Int)) : Prop :=
  ∃ a cap, v = .slice a L.length cap ∧ (0 < L.length → ∃ b off cs t fz, a = some ⟨b, off, none⟩ ∧ (b, Obj.cells cs t fz) ∈ l ∧ ∀ i y, L[i]? = some y → cs[off + i * 2]? = some (.int .i64 y.1) ∧ cs[off + i * 2 + 1]? = some (.int .i64 y.2) ∧ off + i * 2 + 2 ≤ cs.size ∧ cs.extract (off + i * 2) (off + i * 2 + 2) = List.toArray [.int .i64 y.1, .int .i64 y.2])
theorem ext2 {cs : Array Value} {k : Nat} {x y : Value} (h1 : cs[k]? = some x) (h2 : cs[k + 1]? = some y) : k + 2 ≤ cs.size ∧ cs.extract k (k + 2) = List.toArray [x, y] := by
  have hlt := (Array.getElem?_eq_some_iff.1 h2).1
  refine ⟨by omega, ?_⟩
  apply Array.ext_getElem?
  intro j
  rw [Array.getElem?_extract]
  by_cases hj : j < 2
  · rw [if_pos (by omega)]
    match j, hj with
    | 0, _ => simpa using h1
    | 1, _ => simpa using h2
  · rw [if_neg (by omega)]
    simp; omega
theorem OwnSl.ones {e : Nat} {v : Value} {L : List (Int × Int)} {cs l : List Chunk} (h : OwnSl e 2 v L.length (oneC L) cs) (hs : ∀ c, c ∈ cs → c ∈ l) : OneSl l v L := by
  rcases h.2 with ⟨rfl, h0, rfl⟩ | ⟨b, cap, sp, rfl, rfl, _⟩
  · exact ⟨none, 0, by rw [h0], fun h => by omega⟩
  · refine ⟨_, cap, rfl, fun h0 => ⟨b, 0, _, e, (0, 0), rfl, hs _ List.mem_cons_self, fun i y hy => ?_⟩⟩
    have hlt := (List.getElem?_eq_some_iff.1 hy).1
    obtain ⟨h1, h2⟩ := oneC_get L i y hy
    have k1 : (List.toArray (oneC L ++ sp))[0 + i * 2]? = some (.int .i64 y.1) := by
      rw [Nat.zero_add, List.getElem?_toArray, List.getElem?_append_left (by rw [oneC_len]; omega)]; exact h1
    have k2 : (List.toArray (oneC L ++ sp))[0 + i * 2 + 1]? = some (.int .i64 y.2) := by
      rw [Nat.zero_add, List.getElem?_toArray, List.getElem?_append_left (by rw [oneC_len]; omega)]; exact h2
    obtain ⟨k3, k4⟩ := ext2 k1 k2
    exact ⟨k1, k2, k3, k4⟩
abbrev rqC (b : Nat) (v : Value) : Chunk := (b, .cells #[v] 29 (0, 0))
def IsR (b : Nat) (L : List (Int × Int)) (lr : List Chunk) : Prop := ∃ v cs, OwnSl 51 2 v L.length (oneC L) cs ∧ lr = rqC b v :: cs
def fsts (L : List (Int × Int)) : List Int := L.map Prod.fst
theorem fsts_len (L : List (Int × Int)) : (fsts L).length = L.length := by simp [fsts]
theorem fsts_get (L : List (Int × Int)) (i : Nat) (y : Int × Int) (h : L[i]? = some y) : (fsts L)[i]? = some y.1 := by simp [fsts, h]

set_option pp.deepTerms false
set_option pp.deepTerms.threshold 4
set_option maxHeartbeats 400000
theorem rat_any (b : Nat) (L : List (Int × Int)) (lr : List Chunk) (id : Int) (hr : IsR b L lr) (hn : L.length ≤ 1000000) (l : List Chunk) (hsub : ∀ c, c ∈ lr → c ∈ l) :
    Fn Try.prog 24 [.pointer (some ⟨b, 0, none⟩), .int .i64 id] l fun v l' => v = .int .i64 (indexI (fsts L) id) ∧ l' = l := by
  obtain ⟨v, cs, ho, rfl⟩ := hr
  have hq : rqC b v ∈ l := hsub _ List.mem_cons_self
  obtain ⟨a, cap, rfl, hI⟩ := ho.ones fun c hc => hsub c (List.mem_cons_of_mem _ hc)
  refine fn_of_body Try.func24 rfl rfl fun E => ?_
  simp only [argF, Try.ntmps24]
  repeat (first | (show OpsS _ _ _ _ _ _ (_ :: _) _ _ _; first | (apply t_h; (· first | (show OpQ _ _ _ _ _ ⟨_, .move _, _, _, _, _⟩ _; exact q_move rfl) | (show OpQ _ _ _ _ _ ⟨_, .load _ _, _, _, _, _⟩ _; first | exact q_load rfl (by ((repeat (first | with_reducible apply List.mem_cons_self | with_reducible apply List.mem_cons_of_mem)); try with_reducible assumption)) (by (first | with_reducible assumption | ((with_reducible apply cell_get); (repeat (first | with_reducible apply LGet.zero | with_reducible apply LGet.succ))))) | exact q_loadL rfl (by ((repeat (first | with_reducible apply List.mem_cons_self | with_reducible apply List.mem_cons_of_mem)); try with_reducible assumption)) (by (repeat (first | with_reducible apply LSub.done | with_reducible apply LSub.take | with_reducible apply LSub.drop)))) | (show OpQ _ _ _ _ _ ⟨_, .fieldAddr _ _ _, _, _, _, _⟩ _; exact q_fieldAddr rfl (by (first | with_reducible exact Nat.zero_add _ | with_reducible exact Nat.add_zero _ | exact rfl))) | (show OpQ _ _ _ _ _ ⟨_, .nilCheck _, _, _, _, _⟩ _; first | exact q_nilCheck rfl | exact q_nilCheck_f rfl | exact q_nilCheck_y rfl) | (show OpQ _ _ _ _ _ ⟨_, .assign _, _, _, _, _⟩ _; exact q_assign rfl) | (show OpQ _ _ _ _ _ ⟨_, .indexAddr _ _ _, _, _, _, _⟩ _; first | exact q_indexArrN rfl rfl (by omega) (by (first | with_reducible exact Nat.zero_add _ | with_reducible exact Nat.add_zero _ | exact rfl)) | exact q_indexSlN rfl rfl (by omega) (by (first | with_reducible exact Nat.zero_add _ | with_reducible exact Nat.add_zero _ | exact rfl)) | exact q_indexArr rfl rfl (by omega) | exact q_indexSl rfl rfl (by omega)) | (show OpQ _ _ _ _ _ ⟨_, .binOp .eql _ _ _ _, _, _, _, _⟩ _; first | exact q_eql rfl rfl | exact q_eqnil rfl rfl | exact q_eqb rfl rfl Try.underlying4) | (show OpQ _ _ _ _ _ ⟨_, .binOp .add _ _ _ _, _, _, _, _⟩ _; exact q_add rfl rfl (rng_i64 (by omega) (by omega))) | (show OpQ _ _ _ _ _ ⟨_, .binOp .lss _ _ _ _, _, _, _, _⟩ _; exact q_lss rfl rfl) | (show OpQ _ _ _ _ _ ⟨_, .call { callee := .builtin .len, args := _, argTypes := _ }, _, _, _, _⟩ _; exact q_len_sl rfl)); (· rfl); (· rfl); (· rfl))) | refine c_seq ?_ | refine p_then ?_ | refine c_region ?_ | refine s_nil ?_ | refine c_cond_t rfl ?_ | refine c_cond_f rfl ?_ | refine c_block ?_ | refine c_skip ?_ | refine c_exit ?_ | refine p_block ?_ | refine p_then_exit ?_ | refine p_block_here ?_ | refine p_block_on rfl ?_ | refine c_ret ?_ | refine p_then_ret ?_ | refine p_block_ret ?_ | refine p_end ?_ | refine c_if_t rfl (by omega) ?_ | refine c_if_f rfl (by omega) ?_)
  refine k_loop (α := Nat) (fun k => [(0, .pointer (some ⟨b, 0, none⟩)), (1, .int .i64 id), (5, .int .i64 k)]) (fun k => l) (fun k => k ≤ L.length ∧ ∀ j, j < k → (fsts L)[j]? ≠ some id) (fun k => L.length - k) 0 ⟨Nat.zero_le _, fun j h => by omega⟩ ⟨rfl, rfl, rfl, trivial⟩ .refl ?_
  rintro k ⟨hk, hj⟩
  by_cases hlt : k < L.length
  · obtain ⟨gb, off, cc, t, fz, rfl, hm, hc⟩ := hI (by omega)
    obtain ⟨y, hy⟩ : ∃ y, L[k]? = some y := ⟨_, List.getElem?_eq_getElem hlt⟩
    have e1 := fsts_get L k y hy
    obtain ⟨g1, g2, _, _⟩ := hc k y hy
    by_cases hxy : y.1 = id
    · rw [hxy] at e1
      obtain ⟨i1, i2⟩ := idxOf_at id _ k e1 hj
      repeat (first | (show OpsS _ _ _ _ _ _ (_ :: _) _ _ _; first | (apply t_h; (· first | (show OpQ _ _ _ _ _ ⟨_, .move _, _, _, _, _⟩ _; exact q_move rfl) | (show OpQ _ _ _ _ _ ⟨_, .load _ _, _, _, _, _⟩ _; first | exact q_load rfl (by ((repeat (first | with_reducible apply List.mem_cons_self | with_reducible apply List.mem_cons_of_mem)); try with_reducible assumption)) (by (first | with_reducible assumption | ((with_reducible apply cell_get); (repeat (first | with_reducible apply LGet.zero | with_reducible apply LGet.succ))))) | exact q_loadL rfl (by ((repeat (first | with_reducible apply List.mem_cons_self | with_reducible apply List.mem_cons_of_mem)); try with_reducible assumption)) (by (repeat (first | with_reducible apply LSub.done | with_reducible apply LSub.take | with_reducible apply LSub.drop)))) | (show OpQ _ _ _ _ _ ⟨_, .fieldAddr _ _ _, _, _, _, _⟩ _; exact q_fieldAddr rfl (by (first | with_reducible exact Nat.zero_add _ | with_reducible exact Nat.add_zero _ | exact rfl))) | (show OpQ _ _ _ _ _ ⟨_, .nilCheck _, _, _, _, _⟩ _; first | exact q_nilCheck rfl | exact q_nilCheck_f rfl | exact q_nilCheck_y rfl) | (show OpQ _ _ _ _ _ ⟨_, .assign _, _, _, _, _⟩ _; exact q_assign rfl) | (show OpQ _ _ _ _ _ ⟨_, .indexAddr _ _ _, _, _, _, _⟩ _; first | exact q_indexArrN rfl rfl (by omega) (by (first | with_reducible exact Nat.zero_add _ | with_reducible exact Nat.add_zero _ | exact rfl)) | exact q_indexSlN rfl rfl (by omega) (by (first | with_reducible exact Nat.zero_add _ | with_reducible exact Nat.add_zero _ | exact rfl)) | exact q_indexArr rfl rfl (by omega) | exact q_indexSl rfl rfl (by omega)) | (show OpQ _ _ _ _ _ ⟨_, .binOp .eql _ _ _ _, _, _, _, _⟩ _; first | exact q_eql rfl rfl | exact q_eqnil rfl rfl | exact q_eqb rfl rfl Try.underlying4) | (show OpQ _ _ _ _ _ ⟨_, .binOp .add _ _ _ _, _, _, _, _⟩ _; exact q_add rfl rfl (rng_i64 (by omega) (by omega))) | (show OpQ _ _ _ _ _ ⟨_, .binOp .lss _ _ _ _, _, _, _, _⟩ _; exact q_lss rfl rfl) | (show OpQ _ _ _ _ _ ⟨_, .call { callee := .builtin .len, args := _, argTypes := _ }, _, _, _, _⟩ _; exact q_len_sl rfl)); (· rfl); (· rfl); (· rfl))) | refine c_seq ?_ | refine p_then ?_ | refine c_region ?_ | refine s_nil ?_ | refine c_cond_t rfl ?_ | refine c_cond_f rfl ?_ | refine c_block ?_ | refine c_skip ?_ | refine c_exit ?_ | refine p_block ?_ | refine p_then_exit ?_ | refine p_block_here ?_ | refine p_block_on rfl ?_ | refine c_ret ?_ | refine p_then_ret ?_ | refine p_block_ret ?_ | refine p_end ?_ | refine c_if_t rfl (by omega) ?_ | refine c_if_f rfl (by omega) ?_)
      refine k_ret [] rfl .refl (by (repeat (first | apply ResS.nil | (apply rs_tmp; (· rfl)) | (apply rs_cell1; (· rfl); (· ((repeat (first | with_reducible apply List.mem_cons_self | with_reducible apply List.mem_cons_of_mem)); try with_reducible assumption)); (· rfl)) | (apply rs_cellA; (· rfl); (· ((repeat (first | with_reducible apply List.mem_cons_self | with_reducible apply List.mem_cons_of_mem)); try with_reducible assumption)); (· (repeat (first | with_reducible apply LSub.done | with_reducible apply LSub.take | with_reducible apply LSub.drop))))))) ⟨?_, rfl⟩
      simp only [tup, indexI, if_pos i2, i1]
    · repeat (first | (show OpsS _ _ _ _ _ _ (_ :: _) _ _ _; first | (apply t_h; (· first | (show OpQ _ _ _ _ _ ⟨_, .move _, _, _, _, _⟩ _; exact q_move rfl) | (show OpQ _ _ _ _ _ ⟨_, .load _ _, _, _, _, _⟩ _; first | exact q_load rfl (by ((repeat (first | with_reducible apply List.mem_cons_self | with_reducible apply List.mem_cons_of_mem)); try with_reducible assumption)) (by (first | with_reducible assumption | ((with_reducible apply cell_get); (repeat (first | with_reducible apply LGet.zero | with_reducible apply LGet.succ))))) | exact q_loadL rfl (by ((repeat (first | with_reducible apply List.mem_cons_self | with_reducible apply List.mem_cons_of_mem)); try with_reducible assumption)) (by (repeat (first | with_reducible apply LSub.done | with_reducible apply LSub.take | with_reducible apply LSub.drop)))) | (show OpQ _ _ _ _ _ ⟨_, .fieldAddr _ _ _, _, _, _, _⟩ _; exact q_fieldAddr rfl (by (first | with_reducible exact Nat.zero_add _ | with_reducible exact Nat.add_zero _ | exact rfl))) | (show OpQ _ _ _ _ _ ⟨_, .nilCheck _, _, _, _, _⟩ _; first | exact q_nilCheck rfl | exact q_nilCheck_f rfl | exact q_nilCheck_y rfl) | (show OpQ _ _ _ _ _ ⟨_, .assign _, _, _, _, _⟩ _; exact q_assign rfl) | (show OpQ _ _ _ _ _ ⟨_, .indexAddr _ _ _, _, _, _, _⟩ _; first | exact q_indexArrN rfl rfl (by omega) (by (first | with_reducible exact Nat.zero_add _ | with_reducible exact Nat.add_zero _ | exact rfl)) | exact q_indexSlN rfl rfl (by omega) (by (first | with_reducible exact Nat.zero_add _ | with_reducible exact Nat.add_zero _ | exact rfl)) | exact q_indexArr rfl rfl (by omega) | exact q_indexSl rfl rfl (by omega)) | (show OpQ _ _ _ _ _ ⟨_, .binOp .eql _ _ _ _, _, _, _, _⟩ _; first | exact q_eql rfl rfl | exact q_eqnil rfl rfl | exact q_eqb rfl rfl Try.underlying4) | (show OpQ _ _ _ _ _ ⟨_, .binOp .add _ _ _ _, _, _, _, _⟩ _; exact q_add rfl rfl (rng_i64 (by omega) (by omega))) | (show OpQ _ _ _ _ _ ⟨_, .binOp .lss _ _ _ _, _, _, _, _⟩ _; exact q_lss rfl rfl) | (show OpQ _ _ _ _ _ ⟨_, .call { callee := .builtin .len, args := _, argTypes := _ }, _, _, _, _⟩ _; exact q_len_sl rfl)); (· rfl); (· rfl); (· rfl))) | refine c_seq ?_ | refine p_then ?_ | refine c_region ?_ | refine s_nil ?_ | refine c_cond_t rfl ?_ | refine c_cond_f rfl ?_ | refine c_block ?_ | refine c_skip ?_ | refine c_exit ?_ | refine p_block ?_ | refine p_then_exit ?_ | refine p_block_here ?_ | refine p_block_on rfl ?_ | refine c_ret ?_ | refine p_then_ret ?_ | refine p_block_ret ?_ | refine p_end ?_ | refine c_if_t rfl (by omega) ?_ | refine c_if_f rfl (by omega) ?_)
      exact k_next (k + 1) ⟨by omega, fun j hjk => by
        by_cases e : j = k
        · subst e; rw [e1]; intro h; exact hxy (by cases h; rfl)
        · exact hj j (by omega)⟩ (by omega) ⟨rfl, rfl, rfl, trivial⟩ .refl
  · obtain rfl : k = L.length := by omega
    repeat (first | (show OpsS _ _ _ _ _ _ (_ :: _) _ _ _; first | (apply t_h; (· first | (show OpQ _ _ _ _ _ ⟨_, .move _, _, _, _, _⟩ _; exact q_move rfl) | (show OpQ _ _ _ _ _ ⟨_, .load _ _, _, _, _, _⟩ _; first | exact q_load rfl (by ((repeat (first | with_reducible apply List.mem_cons_self | with_reducible apply List.mem_cons_of_mem)); try with_reducible assumption)) (by (first | with_reducible assumption | ((with_reducible apply cell_get); (repeat (first | with_reducible apply LGet.zero | with_reducible apply LGet.succ))))) | exact q_loadL rfl (by ((repeat (first | with_reducible apply List.mem_cons_self | with_reducible apply List.mem_cons_of_mem)); try with_reducible assumption)) (by (repeat (first | with_reducible apply LSub.done | with_reducible apply LSub.take | with_reducible apply LSub.drop)))) | (show OpQ _ _ _ _ _ ⟨_, .fieldAddr _ _ _, _, _, _, _⟩ _; exact q_fieldAddr rfl (by (first | with_reducible exact Nat.zero_add _ | with_reducible exact Nat.add_zero _ | exact rfl))) | (show OpQ _ _ _ _ _ ⟨_, .nilCheck _, _, _, _, _⟩ _; first | exact q_nilCheck rfl | exact q_nilCheck_f rfl | exact q_nilCheck_y rfl) | (show OpQ _ _ _ _ _ ⟨_, .assign _, _, _, _, _⟩ _; exact q_assign rfl) | (show OpQ _ _ _ _ _ ⟨_, .indexAddr _ _ _, _, _, _, _⟩ _; first | exact q_indexArrN rfl rfl (by omega) (by (first | with_reducible exact Nat.zero_add _ | with_reducible exact Nat.add_zero _ | exact rfl)) | exact q_indexSlN rfl rfl (by omega) (by (first | with_reducible exact Nat.zero_add _ | with_reducible exact Nat.add_zero _ | exact rfl)) | exact q_indexArr rfl rfl (by omega) | exact q_indexSl rfl rfl (by omega)) | (show OpQ _ _ _ _ _ ⟨_, .binOp .eql _ _ _ _, _, _, _, _⟩ _; first | exact q_eql rfl rfl | exact q_eqnil rfl rfl | exact q_eqb rfl rfl Try.underlying4) | (show OpQ _ _ _ _ _ ⟨_, .binOp .add _ _ _ _, _, _, _, _⟩ _; exact q_add rfl rfl (rng_i64 (by omega) (by omega))) | (show OpQ _ _ _ _ _ ⟨_, .binOp .lss _ _ _ _, _, _, _, _⟩ _; exact q_lss rfl rfl) | (show OpQ _ _ _ _ _ ⟨_, .call { callee := .builtin .len, args := _, argTypes := _ }, _, _, _, _⟩ _; exact q_len_sl rfl)); (· rfl); (· rfl); (· rfl))) | refine c_seq ?_ | refine p_then ?_ | refine c_region ?_ | refine s_nil ?_ | refine c_cond_t rfl ?_ | refine c_cond_f rfl ?_ | refine c_block ?_ | refine c_skip ?_ | refine c_exit ?_ | refine p_block ?_ | refine p_then_exit ?_ | refine p_block_here ?_ | refine p_block_on rfl ?_ | refine c_ret ?_ | refine p_then_ret ?_ | refine p_block_ret ?_ | refine p_end ?_ | refine c_if_t rfl (by omega) ?_ | refine c_if_f rfl (by omega) ?_)
    refine k_ret [] rfl .refl (by (repeat (first | apply ResS.nil | (apply rs_tmp; (· rfl)) | (apply rs_cell1; (· rfl); (· ((repeat (first | with_reducible apply List.mem_cons_self | with_reducible apply List.mem_cons_of_mem)); try with_reducible assumption)); (· rfl)) | (apply rs_cellA; (· rfl); (· ((repeat (first | with_reducible apply List.mem_cons_self | with_reducible apply List.mem_cons_of_mem)); try with_reducible assumption)); (· (repeat (first | with_reducible apply LSub.done | with_reducible apply LSub.take | with_reducible apply LSub.drop))))))) ⟨?_, rfl⟩
    have : id ∉ fsts L := fun hm => by
      obtain ⟨j, hjl, hj2⟩ := List.getElem_of_mem hm
      exact hj j (by rw [fsts_len] at hjl; exact hjl) (by rw [List.getElem?_eq_getElem hjl, hj2])
    simp only [tup, indexI, if_neg this]
theorem rhas_any (b : Nat) (L : List (Int × Int)) (lr : List Chunk) (id : Int) (hr : IsR b L lr) (hn : L.length ≤ 1000000) (l : List Chunk) (hsub : ∀ c, c ∈ lr → c ∈ l) :
    Fn Try.prog 20 [.pointer (some ⟨b, 0, none⟩), .int .i64 id] l fun v l' => v = .bool (decide (id ∈ fsts L)) ∧ l' = l := by
  have H := rat_any b L lr id hr hn
  refine fn_of_body Try.func20 rfl rfl fun E => ?_
  simp only [argF, Try.ntmps20]
  repeat (first | (show OpsS _ _ _ _ _ _ (_ :: _) _ _ _; first | (apply t_h; (· first | (show OpQ _ _ _ _ _ ⟨_, .move _, _, _, _, _⟩ _; exact q_move rfl) | (show OpQ _ _ _ _ _ ⟨_, .assign _, _, _, _, _⟩ _; exact q_assign rfl) | (show OpQ _ _ _ _ _ ⟨_, .binOp .geq _ _ _ _, _, _, _, _⟩ _; exact q_geq rfl rfl)); (· rfl); (· rfl); (· rfl))) | refine c_seq ?_ | refine p_then ?_ | refine c_region ?_ | refine s_nil ?_ | refine c_ret ?_ | refine p_then_ret ?_ | refine p_end ?_)
  by_cases hin : id ∈ fsts L
  · rw [show indexI (fsts L) id = (((fsts L).idxOf id : Nat) : Int) from if_pos hin] at H
    refine t_q (q_call rfl rfl (fun l2 hl => H l2 fun c hc => hl c (hsub c hc))) rfl rfl rfl ?_
    repeat (first | (show OpsS _ _ _ _ _ _ (_ :: _) _ _ _; first | (apply t_h; (· first | (show OpQ _ _ _ _ _ ⟨_, .move _, _, _, _, _⟩ _; exact q_move rfl) | (show OpQ _ _ _ _ _ ⟨_, .assign _, _, _, _, _⟩ _; exact q_assign rfl) | (show OpQ _ _ _ _ _ ⟨_, .binOp .geq _ _ _ _, _, _, _, _⟩ _; exact q_geq rfl rfl)); (· rfl); (· rfl); (· rfl))) | refine c_seq ?_ | refine p_then ?_ | refine c_region ?_ | refine s_nil ?_ | refine c_ret ?_ | refine p_then_ret ?_ | refine p_end ?_)
    refine k_ret [] rfl .refl (by (repeat (first | apply ResS.nil | (apply rs_tmp; (· rfl)) | (apply rs_cell1; (· rfl); (· ((repeat (first | with_reducible apply List.mem_cons_self | with_reducible apply List.mem_cons_of_mem)); try with_reducible assumption)); (· rfl)) | (apply rs_cellA; (· rfl); (· ((repeat (first | with_reducible apply List.mem_cons_self | with_reducible apply List.mem_cons_of_mem)); try with_reducible assumption)); (· (repeat (first | with_reducible apply LSub.done | with_reducible apply LSub.take | with_reducible apply LSub.drop))))))) ⟨?_, rfl⟩
    simp [tup, hin]
  · rw [show indexI (fsts L) id = -1 from if_neg hin] at H
    refine t_q (q_call rfl rfl (fun l2 hl => H l2 fun c hc => hl c (hsub c hc))) rfl rfl rfl ?_
    repeat (first | (show OpsS _ _ _ _ _ _ (_ :: _) _ _ _; first | (apply t_h; (· first | (show OpQ _ _ _ _ _ ⟨_, .move _, _, _, _, _⟩ _; exact q_move rfl) | (show OpQ _ _ _ _ _ ⟨_, .assign _, _, _, _, _⟩ _; exact q_assign rfl) | (show OpQ _ _ _ _ _ ⟨_, .binOp .geq _ _ _ _, _, _, _, _⟩ _; exact q_geq rfl rfl)); (· rfl); (· rfl); (· rfl))) | refine c_seq ?_ | refine p_then ?_ | refine c_region ?_ | refine s_nil ?_ | refine c_ret ?_ | refine p_then_ret ?_ | refine p_end ?_)
    refine k_ret [] rfl .refl (by (repeat (first | apply ResS.nil | (apply rs_tmp; (· rfl)) | (apply rs_cell1; (· rfl); (· ((repeat (first | with_reducible apply List.mem_cons_self | with_reducible apply List.mem_cons_of_mem)); try with_reducible assumption)); (· rfl)) | (apply rs_cellA; (· rfl); (· ((repeat (first | with_reducible apply List.mem_cons_self | with_reducible apply List.mem_cons_of_mem)); try with_reducible assumption)); (· (repeat (first | with_reducible apply LSub.done | with_reducible apply LSub.take | with_reducible apply LSub.drop))))))) ⟨?_, rfl⟩
    simp [tup, hin]
theorem rall_any (b : Nat) (L : List (Int × Int)) (lr : List Chunk) (hr : IsR b L lr) (hn : L.length ≤ 1000000) (l : List Chunk) (hsub : ∀ c, c ∈ lr → c ∈ l) :
    Fn Try.prog 17 [.pointer (some ⟨b, 0, none⟩)] l fun v l' => ∃ cs, OwnSl 3 1 v (fsts L).length ((fsts L).map intV) cs ∧ l' = cs ++ l := by
  obtain ⟨v, cs, ho, rfl⟩ := hr
  have hq : rqC b v ∈ l := hsub _ List.mem_cons_self
  obtain ⟨a, cap, rfl, hI⟩ := ho.ones fun c hc => hsub c (List.mem_cons_of_mem _ hc)
  refine fn_of_body Try.func17 rfl rfl fun E => ?_
  simp only [argF, Try.ntmps17]
  repeat (first | (show OpsS _ _ _ _ _ _ (_ :: _) _ _ _; first | (apply t_h; (· first | (show OpQ _ _ _ _ _ ⟨_, .move _, _, _, _, _⟩ _; exact q_move rfl) | (show OpQ _ _ _ _ _ ⟨_, .load _ _, _, _, _, _⟩ _; first | exact q_load rfl (by ((repeat (first | with_reducible apply List.mem_cons_self | with_reducible apply List.mem_cons_of_mem)); try with_reducible assumption)) (by (first | with_reducible assumption | ((with_reducible apply cell_get); (repeat (first | with_reducible apply LGet.zero | with_reducible apply LGet.succ))))) | exact q_loadL rfl (by ((repeat (first | with_reducible apply List.mem_cons_self | with_reducible apply List.mem_cons_of_mem)); try with_reducible assumption)) (by (repeat (first | with_reducible apply LSub.done | with_reducible apply LSub.take | with_reducible apply LSub.drop)))) | (show OpQ _ _ _ _ _ ⟨_, .fieldAddr _ _ _, _, _, _, _⟩ _; exact q_fieldAddr rfl (by (first | with_reducible exact Nat.zero_add _ | with_reducible exact Nat.add_zero _ | exact rfl))) | (show OpQ _ _ _ _ _ ⟨_, .nilCheck _, _, _, _, _⟩ _; first | exact q_nilCheck rfl | exact q_nilCheck_f rfl | exact q_nilCheck_y rfl) | (show OpQ _ _ _ _ _ ⟨_, .assign _, _, _, _, _⟩ _; exact q_assign rfl) | (show OpQ _ _ _ _ _ ⟨_, .indexAddr _ _ _, _, _, _, _⟩ _; first | exact q_indexArrN rfl rfl (by omega) (by (first | with_reducible exact Nat.zero_add _ | with_reducible exact Nat.add_zero _ | exact rfl)) | exact q_indexSlN rfl rfl (by omega) (by (first | with_reducible exact Nat.zero_add _ | with_reducible exact Nat.add_zero _ | exact rfl)) | exact q_indexArr rfl rfl (by omega) | exact q_indexSl rfl rfl (by omega)) | (show OpQ _ _ _ _ _ ⟨_, .binOp .add _ _ _ _, _, _, _, _⟩ _; exact q_add rfl rfl (rng_i64 (by omega) (by omega))) | (show OpQ _ _ _ _ _ ⟨_, .binOp .lss _ _ _ _, _, _, _, _⟩ _; exact q_lss rfl rfl) | (show OpQ _ _ _ _ _ ⟨_, .call { callee := .builtin .len, args := _, argTypes := _ }, _, _, _, _⟩ _; exact q_len_sl rfl)); (· rfl); (· rfl); (· rfl))) | refine c_seq ?_ | refine p_then ?_ | refine c_region ?_ | refine s_nil ?_ | refine c_cond_t rfl ?_ | refine c_cond_f rfl ?_ | refine c_block ?_ | refine c_skip ?_ | refine c_exit ?_ | refine p_block ?_ | refine p_then_exit ?_ | refine p_block_here ?_ | refine p_block_on rfl ?_ | refine c_ret ?_ | refine p_then_ret ?_ | refine p_block_ret ?_ | refine p_end ?_ | refine c_if_t rfl (by omega) ?_ | refine c_if_f rfl (by omega) ?_)
  refine k_loop (α := Nat × Value × List Chunk) (fun x => [(0, .pointer (some ⟨b, 0, none⟩)), (3, x.2.1), (4, .int .i64 x.1)]) (fun x => x.2.2 ++ l) (fun x => x.1 ≤ L.length ∧ OwnSl 3 1 x.2.1 x.1 (((fsts L).take x.1).map intV) x.2.2) (fun x => L.length - x.1) (0, .slice none 0 0, []) ⟨Nat.zero_le _, OwnSl.nil _ _⟩ ⟨rfl, rfl, rfl, trivial⟩ .refl ?_
  rintro ⟨k, u, cs2⟩ ⟨hk, hown⟩
  simp only at hk hown ⊢
  have hq' : rqC b (.slice a L.length cap) ∈ cs2 ++ l := List.mem_append_right _ hq
  by_cases hlt : k < L.length
  · obtain ⟨gb, off, cc, t, fz, rfl, hm, hc⟩ := hI (by omega)
    obtain ⟨y, hy⟩ : ∃ y, L[k]? = some y := ⟨_, List.getElem?_eq_getElem hlt⟩
    have e1 := fsts_get L k y hy
    obtain ⟨g1, g2, _, _⟩ := hc k y hy
    have hm' : (gb, Obj.cells cc t fz) ∈ cs2 ++ l := List.mem_append_right _ hm
    repeat (first | (show OpsS _ _ _ _ _ _ (_ :: _) _ _ _; first | (apply t_h; (· first | (show OpQ _ _ _ _ _ ⟨_, .move _, _, _, _, _⟩ _; exact q_move rfl) | (show OpQ _ _ _ _ _ ⟨_, .load _ _, _, _, _, _⟩ _; first | exact q_load rfl (by ((repeat (first | with_reducible apply List.mem_cons_self | with_reducible apply List.mem_cons_of_mem)); try with_reducible assumption)) (by (first | with_reducible assumption | ((with_reducible apply cell_get); (repeat (first | with_reducible apply LGet.zero | with_reducible apply LGet.succ))))) | exact q_loadL rfl (by ((repeat (first | with_reducible apply List.mem_cons_self | with_reducible apply List.mem_cons_of_mem)); try with_reducible assumption)) (by (repeat (first | with_reducible apply LSub.done | with_reducible apply LSub.take | with_reducible apply LSub.drop)))) | (show OpQ _ _ _ _ _ ⟨_, .fieldAddr _ _ _, _, _, _, _⟩ _; exact q_fieldAddr rfl (by (first | with_reducible exact Nat.zero_add _ | with_reducible exact Nat.add_zero _ | exact rfl))) | (show OpQ _ _ _ _ _ ⟨_, .nilCheck _, _, _, _, _⟩ _; first | exact q_nilCheck rfl | exact q_nilCheck_f rfl | exact q_nilCheck_y rfl) | (show OpQ _ _ _ _ _ ⟨_, .assign _, _, _, _, _⟩ _; exact q_assign rfl) | (show OpQ _ _ _ _ _ ⟨_, .indexAddr _ _ _, _, _, _, _⟩ _; first | exact q_indexArrN rfl rfl (by omega) (by (first | with_reducible exact Nat.zero_add _ | with_reducible exact Nat.add_zero _ | exact rfl)) | exact q_indexSlN rfl rfl (by omega) (by (first | with_reducible exact Nat.zero_add _ | with_reducible exact Nat.add_zero _ | exact rfl)) | exact q_indexArr rfl rfl (by omega) | exact q_indexSl rfl rfl (by omega)) | (show OpQ _ _ _ _ _ ⟨_, .binOp .add _ _ _ _, _, _, _, _⟩ _; exact q_add rfl rfl (rng_i64 (by omega) (by omega))) | (show OpQ _ _ _ _ _ ⟨_, .binOp .lss _ _ _ _, _, _, _, _⟩ _; exact q_lss rfl rfl) | (show OpQ _ _ _ _ _ ⟨_, .call { callee := .builtin .len, args := _, argTypes := _ }, _, _, _, _⟩ _; exact q_len_sl rfl)); (· rfl); (· rfl); (· rfl))) | refine c_seq ?_ | refine p_then ?_ | refine c_region ?_ | refine s_nil ?_ | refine c_cond_t rfl ?_ | refine c_cond_f rfl ?_ | refine c_block ?_ | refine c_skip ?_ | refine c_exit ?_ | refine p_block ?_ | refine p_then_exit ?_ | refine p_block_here ?_ | refine p_block_on rfl ?_ | refine c_ret ?_ | refine p_then_ret ?_ | refine p_block_ret ?_ | refine p_end ?_ | refine c_if_t rfl (by omega) ?_ | refine c_if_f rfl (by omega) ?_)
    refine t_e (e_lit1 rfl rfl) rfl rfl rfl ?_
    rintro _ _ ⟨bl, _, rfl, rfl⟩
    refine s_keep (Keep.of_perm List.perm_middle.symm) ?_
    apply t_e
    · apply ce_append (xs := ((fsts L).take k).map intV) (news := [.int .i64 y.1]) (zs := [.int .i64 0])
      · rfl
      · rfl
      · rfl
      · exact hown
      · exact List.mem_append_right _ List.mem_cons_self
      · intro j u hj; simpa using hj
      · rfl
      · simp [Value.oneCell']
      · unfold maxLen; omega
      · omega
    · rfl
    · rfl
    · rfl
    rintro v' _ ⟨cs3, ho3, rfl⟩
    have hv1 : v'.oneCell' = true := ho3.one
    repeat (first | (show OpsS _ _ _ _ _ _ (_ :: _) _ _ _; first | (apply t_h; (· first | (show OpQ _ _ _ _ _ ⟨_, .move _, _, _, _, _⟩ _; exact q_move rfl) | (show OpQ _ _ _ _ _ ⟨_, .load _ _, _, _, _, _⟩ _; first | exact q_load rfl (by ((repeat (first | with_reducible apply List.mem_cons_self | with_reducible apply List.mem_cons_of_mem)); try with_reducible assumption)) (by (first | with_reducible assumption | ((with_reducible apply cell_get); (repeat (first | with_reducible apply LGet.zero | with_reducible apply LGet.succ))))) | exact q_loadL rfl (by ((repeat (first | with_reducible apply List.mem_cons_self | with_reducible apply List.mem_cons_of_mem)); try with_reducible assumption)) (by (repeat (first | with_reducible apply LSub.done | with_reducible apply LSub.take | with_reducible apply LSub.drop)))) | (show OpQ _ _ _ _ _ ⟨_, .fieldAddr _ _ _, _, _, _, _⟩ _; exact q_fieldAddr rfl (by (first | with_reducible exact Nat.zero_add _ | with_reducible exact Nat.add_zero _ | exact rfl))) | (show OpQ _ _ _ _ _ ⟨_, .nilCheck _, _, _, _, _⟩ _; first | exact q_nilCheck rfl | exact q_nilCheck_f rfl | exact q_nilCheck_y rfl) | (show OpQ _ _ _ _ _ ⟨_, .assign _, _, _, _, _⟩ _; exact q_assign rfl) | (show OpQ _ _ _ _ _ ⟨_, .indexAddr _ _ _, _, _, _, _⟩ _; first | exact q_indexArrN rfl rfl (by omega) (by (first | with_reducible exact Nat.zero_add _ | with_reducible exact Nat.add_zero _ | exact rfl)) | exact q_indexSlN rfl rfl (by omega) (by (first | with_reducible exact Nat.zero_add _ | with_reducible exact Nat.add_zero _ | exact rfl)) | exact q_indexArr rfl rfl (by omega) | exact q_indexSl rfl rfl (by omega)) | (show OpQ _ _ _ _ _ ⟨_, .binOp .add _ _ _ _, _, _, _, _⟩ _; exact q_add rfl rfl (rng_i64 (by omega) (by omega))) | (show OpQ _ _ _ _ _ ⟨_, .binOp .lss _ _ _ _, _, _, _, _⟩ _; exact q_lss rfl rfl) | (show OpQ _ _ _ _ _ ⟨_, .call { callee := .builtin .len, args := _, argTypes := _ }, _, _, _, _⟩ _; exact q_len_sl rfl)); (· rfl); (· rfl); (· rfl))) | refine c_seq ?_ | refine p_then ?_ | refine c_region ?_ | refine s_nil ?_ | refine c_cond_t rfl ?_ | refine c_cond_f rfl ?_ | refine c_block ?_ | refine c_skip ?_ | refine c_exit ?_ | refine p_block ?_ | refine p_then_exit ?_ | refine p_block_here ?_ | refine p_block_on rfl ?_ | refine c_ret ?_ | refine p_then_ret ?_ | refine p_block_ret ?_ | refine p_end ?_ | refine c_if_t rfl (by omega) ?_ | refine c_if_f rfl (by omega) ?_)
    refine k_next (k + 1, v', cs3) ⟨hlt, ?_⟩ (by simp only; omega) ⟨rfl, rfl, rfl, trivial⟩ (Keep.trans (Keep.of_perm List.perm_middle) (.drop .refl))
    simp only
    rw [List.take_add_one, e1, List.map_append]
    exact ho3
  · obtain rfl : k = L.length := by omega
    repeat (first | (show OpsS _ _ _ _ _ _ (_ :: _) _ _ _; first | (apply t_h; (· first | (show OpQ _ _ _ _ _ ⟨_, .move _, _, _, _, _⟩ _; exact q_move rfl) | (show OpQ _ _ _ _ _ ⟨_, .load _ _, _, _, _, _⟩ _; first | exact q_load rfl (by ((repeat (first | with_reducible apply List.mem_cons_self | with_reducible apply List.mem_cons_of_mem)); try with_reducible assumption)) (by (first | with_reducible assumption | ((with_reducible apply cell_get); (repeat (first | with_reducible apply LGet.zero | with_reducible apply LGet.succ))))) | exact q_loadL rfl (by ((repeat (first | with_reducible apply List.mem_cons_self | with_reducible apply List.mem_cons_of_mem)); try with_reducible assumption)) (by (repeat (first | with_reducible apply LSub.done | with_reducible apply LSub.take | with_reducible apply LSub.drop)))) | (show OpQ _ _ _ _ _ ⟨_, .fieldAddr _ _ _, _, _, _, _⟩ _; exact q_fieldAddr rfl (by (first | with_reducible exact Nat.zero_add _ | with_reducible exact Nat.add_zero _ | exact rfl))) | (show OpQ _ _ _ _ _ ⟨_, .nilCheck _, _, _, _, _⟩ _; first | exact q_nilCheck rfl | exact q_nilCheck_f rfl | exact q_nilCheck_y rfl) | (show OpQ _ _ _ _ _ ⟨_, .assign _, _, _, _, _⟩ _; exact q_assign rfl) | (show OpQ _ _ _ _ _ ⟨_, .indexAddr _ _ _, _, _, _, _⟩ _; first | exact q_indexArrN rfl rfl (by omega) (by (first | with_reducible exact Nat.zero_add _ | with_reducible exact Nat.add_zero _ | exact rfl)) | exact q_indexSlN rfl rfl (by omega) (by (first | with_reducible exact Nat.zero_add _ | with_reducible exact Nat.add_zero _ | exact rfl)) | exact q_indexArr rfl rfl (by omega) | exact q_indexSl rfl rfl (by omega)) | (show OpQ _ _ _ _ _ ⟨_, .binOp .add _ _ _ _, _, _, _, _⟩ _; exact q_add rfl rfl (rng_i64 (by omega) (by omega))) | (show OpQ _ _ _ _ _ ⟨_, .binOp .lss _ _ _ _, _, _, _, _⟩ _; exact q_lss rfl rfl) | (show OpQ _ _ _ _ _ ⟨_, .call { callee := .builtin .len, args := _, argTypes := _ }, _, _, _, _⟩ _; exact q_len_sl rfl)); (· rfl); (· rfl); (· rfl))) | refine c_seq ?_ | refine p_then ?_ | refine c_region ?_ | refine s_nil ?_ | refine c_cond_t rfl ?_ | refine c_cond_f rfl ?_ | refine c_block ?_ | refine c_skip ?_ | refine c_exit ?_ | refine p_block ?_ | refine p_then_exit ?_ | refine p_block_here ?_ | refine p_block_on rfl ?_ | refine c_ret ?_ | refine p_then_ret ?_ | refine p_block_ret ?_ | refine p_end ?_ | refine c_if_t rfl (by omega) ?_ | refine c_if_f rfl (by omega) ?_)
    refine k_ret [] rfl .refl (by (repeat (first | apply ResS.nil | (apply rs_tmp; (· rfl)) | (apply rs_cell1; (· rfl); (· ((repeat (first | with_reducible apply List.mem_cons_self | with_reducible apply List.mem_cons_of_mem)); try with_reducible assumption)); (· rfl)) | (apply rs_cellA; (· rfl); (· ((repeat (first | with_reducible apply List.mem_cons_self | with_reducible apply List.mem_cons_of_mem)); try with_reducible assumption)); (· (repeat (first | with_reducible apply LSub.done | with_reducible apply LSub.take | with_reducible apply LSub.drop))))))) ?_
    refine ⟨cs2, ?_, rfl⟩
    rw [← fsts_len, List.take_length] at hown
    exact hown
end Go.Proofs.Ytegnnombkjmolaa
