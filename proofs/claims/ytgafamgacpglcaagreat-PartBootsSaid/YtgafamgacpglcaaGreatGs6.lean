/- slices.Insert of one struct. slices.Delete of one struct; cells laid over a row. Rows of numbers told by a function. Low. From a contract on all blocks to the form that a statement's last step wants. Arena: the state as plain data and its blocks. Arena: New, the iterator's closure, carve's and kinds' functions, apart, Next. Arena: apart, Next, the iterator, at. Arena: at, Get, All. Arena: Add. Arena: Add, the walk. The statements' helpers for lists of numbers: Num, SameInts, OverInts. slices.Index and slices.Delete on lists of numbers that are owned. The queue as plain data and its blocks; the priorities that have some; at. at, Has, First, All of a queue. All of a queue; New. Laws that the statement's proof leans on. -/
import Derived.Test.YtgafamgacpglcaaGreatGs4
import Derived.Test.YtgafamgacpglcaaGreatGs5
import Derived.Test.YtgafamgacpglcaaGreatGs3
import Derived.Below
import Derived.Test.YtgafamgacpglcaaGreatGs1
/- slices.Insert of one struct. -/
set_option linter.unusedVariables false
set_option linter.unusedSimpArgs false
namespace Go.Proofs.YtgafamgacpglcaaGreat.Ar
open Go.RowKit
set_option maxRecDepth 20000
set_option maxRecDepth 20000

section
variable {P : Program} {ro : Option Nat} {N : Nat} {fr : Fr} {R l : List Chunk} {d : Option Nat} {ty : TypeId} {pos : String} {aft : Array Edge} {g : Option (Nat × Bool)} {x : Operand}
theorem q_sliceP {T e k yb : Nat} {lo hi mx : Option Operand} {p : Option Addr} {n cap l0 h0 m0 n' c' : Nat} (hx : ev fr x = some (.slice p n cap)) [c : ST P T e k yb] (hl : Bnd fr lo 0 l0) (hh : Bnd fr hi n h0) (hm : Bnd fr mx cap m0) (hno : mx.isSome = true → hi.isSome = true) (h1 : l0 ≤ h0) (h2 : h0 ≤ m0) (h3 : m0 ≤ cap)
    (hn : h0 - l0 = n') (hc : m0 - l0 = c') : OpQ P ro N fr R ⟨d, .slice T x lo hi mx, ty, pos, aft, g⟩ (.slice (if m0 = l0 then p else p.map (·.add (l0 * k))) n' c') := opQ_of_sl rfl fun ρ l hρ _ => by
  obtain ⟨inf, u1, u2, u3, _⟩ := stV_spec c.out
  subst hn hc
  simp only [execOp, hρ x _ hx]
  rw [sl_bind]
  unfold Instr.sliceAt
  rw [sl_under u1]
  show sl P (Instr.slice T _ _ _ _) l _
  unfold Instr.slice
  rw [sl_under u1]
  simp only [sl_bind]
  rw [sl_sliceBounds hρ hl hh hm hno h1 h2 h3]
  simp only
  rw [sl_sizeOf' u2]
  simp only [sl_pure, u3]
  simp
end
theorem ov_f : Tryz.prog.funcs[150]? = some Tryz.f150 := Tryz.func150
theorem ov_n : (Tryz.f150.name == "runtime.NumGoroutine") = false := by kernel_rfl
theorem ov_b : Tryz.f150.body.isNone = true := by kernel_rfl
theorem ov_x : Extern.findNext Tryz.f150 = none := by kernel_rfl
theorem ov_e : Extern.find Tryz.f150 = some (Extern.SlicesOverlaps.overlaps #[22, 22] #[4]) := by kernel_rfl
/-- cells laid over others of the same number -/
theorem lay3 (A X Y cs : List Value) (h : cs.length = X.length) : (A ++ X ++ Y).take A.length ++ cs ++ (A ++ X ++ Y).drop (A.length + cs.length) = A ++ cs ++ Y := by
  rw [h]
  have e1 : (A ++ X ++ Y).take A.length = A := by rw [List.append_assoc, List.take_left' rfl]
  have e2 : (A ++ X ++ Y).drop (A.length + X.length) = Y := by rw [← List.length_append, List.drop_left' rfl]
  rw [e1, e2]
abbrev obZ : List Value := [.int .i64 0, .int .i64 0, .int .i64 0, .int .i64 0, .int .i64 0, .int .i64 0, .int .i64 0, .int .i64 0, .int .i64 0]
set_option pp.deepTerms false
set_option pp.deepTerms.threshold 4
set_option maxHeartbeats 400000
theorem insert_any (v : Value) (n i bl : Nat) (xs ws : List Value) (cs F : List Chunk) (ho : OwnSl 156 9 v n xs cs) (hi : i ≤ n) (hw : ws.length = 9) (h1 : ∀ u ∈ ws, u.oneCell' = true) (hx1 : ∀ u ∈ xs, u.oneCell' = true) (hne : ∀ c, c ∈ cs → c.1 ≠ bl) (hn : n ≤ 90000) :
    Fn Tryz.prog 105 [v, .int .i64 (i : Nat), .slice (some ⟨bl, 0, none⟩) 1 1] ((bl, .cells (List.toArray ws) 156 (0, 0)) :: (cs ++ F)) fun v' l' => ∃ c2, OwnSl 156 9 v' (n + 1) (xs.take (i * 9) ++ ws ++ xs.drop (i * 9)) c2 ∧ l' = c2 ++ F := by
  obtain ⟨p, cap, hv, hnc⟩ : ∃ p cap, v = .slice p n cap ∧ n ≤ cap := by
    rcases ho.2 with ⟨h, h0, _⟩ | ⟨b, cap, sp, h, _, h2, _⟩
    · exact ⟨none, 0, by rw [h, h0], by omega⟩
    · exact ⟨_, cap, h, h2⟩
  subst hv
  refine fn_of_body Tryz.func105 rfl rfl fun E => ?_
  simp only [argF, Tryz.ntmps105]
  refine gz ?_
  refine t_q (q_sliceP (l0 := i) (h0 := n) (m0 := cap) rfl (.some rfl (by omega) rfl) .none .none (by simp) hi hnc (by omega) rfl rfl) rfl rfl rfl ?_
  refine gz ?_
  by_cases hin : i = n
  · subst hin
    refine gz ?_
    refine t_e (e_appX (k := 9) (X := []) (cs := cs) (F := F) (xs := xs) (n := i) (ws := ws) (zs := obZ) rfl rfl rfl ho hw h1 (by omega) (by decide)) rfl rfl rfl ?_
    rintro v' _ ⟨c2, ho2, rfl⟩
    have hv1 : v'.oneCell' = true := ho2.one
    refine gz ?_
    refine k_ret [] rfl (l' := c2 ++ F) .refl (by exact zRes) ⟨c2, ?_, rfl⟩
    rw [List.take_of_length_le (by rw [ho.1]; omega), List.drop_of_length_le (by rw [ho.1]; omega), List.append_nil]; exact ho2
  refine gz ?_
  rcases ho.2 with ⟨h, h0, _⟩ | ⟨gb, cap', sp, h, rfl, h2, hcm, hcl⟩
  · omega
  cases h
  have hxl : xs.length = n * 9 := ho.1
  obtain ⟨A, hA⟩ : ∃ A, xs.take (i * 9) = A := ⟨_, rfl⟩
  obtain ⟨B, hB⟩ : ∃ B, xs.drop (i * 9) = B := ⟨_, rfl⟩
  have hAB : xs = A ++ B := by rw [← hA, ← hB, List.take_append_drop]
  have hAl : A.length = i * 9 := by rw [← hA, List.length_take]; omega
  have hBl : B.length = (n - i) * 9 := by rw [← hB, List.length_drop]; omega
  have hB1 : ∀ u ∈ B, u.oneCell' = true := fun u hu => hx1 u (by rw [hAB]; exact List.mem_append_right _ hu)
  rw [hA, hB]
  have hgb : gb ≠ bl := hne _ (.head _)
  rw [show xs ++ sp = A ++ (B ++ sp) by rw [hAB, List.append_assoc]] at hcl ⊢
  rw [List.length_append, List.length_append] at hcl
  simp only [List.cons_append, List.nil_append]
  refine t_q (q_cap rfl) rfl rfl rfl ?_
  refine gz ?_
  by_cases hroom : cap < n + 1
  · refine gz ?_
    refine t_q (q_slice (l0 := 0) (h0 := i) (m0 := cap) (off' := 0) (n' := i) (c' := cap) rfl .none (.some rfl (by omega) rfl) .none (by simp) (by omega) (by omega) (by omega) (by simp) (by omega) (by omega)) rfl rfl rfl ?_
    refine gz ?_
    refine s_keep (Keep.of_perm (l' := (gb, .cells (List.toArray (A ++ (B ++ sp))) 156 (0, 0)) :: ((bl, .cells (List.toArray ws) 156 (0, 0)) :: F)) (List.Perm.swap ..)) ?_
    refine t_e (e_appendZ (k := 9) (n := i) (m := n + 1 - i) (gb := gb) (cap := cap) (xs := A) (sp := B ++ sp) (zs := obZ) (F := (bl, .cells (List.toArray ws) 156 (0, 0)) :: F) rfl ?_ rfl (by omega) hAl (by omega) (by omega) (by omega) (by decide)) rfl rfl rfl ?_
    · show some (Value.int .i64 _) = _
      congr 2; omega
    rintro _ _ ⟨nb, cap2, sp2, hnb, rfl, rfl, hc1, hc2, hc3⟩
    rw [show i + (n + 1 - i) = n + 1 by omega] at hc1 ⊢
    obtain ⟨Z, hZ⟩ : ∃ Z, (List.replicate (n + 1 - i) obZ).flatten = Z := ⟨_, rfl⟩
    have hZl : Z.length = 9 + B.length := by rw [← hZ, hBl]; simp; omega
    rw [hZ] at hc3 ⊢
    have e0 : A ++ Z ++ sp2 = A ++ Z.take 9 ++ (Z.drop 9 ++ sp2) := by
      rw [List.append_assoc, List.append_assoc, ← List.append_assoc (Z.take 9), List.take_append_drop]
    have hZ9 : (Z.take 9).length = 9 := by rw [List.length_take]; omega
    have hZd : (Z.drop 9).length = B.length := by rw [List.length_drop]; omega
    rw [List.length_append, List.length_append] at hc3
    refine gz ?_
    refine t_q (q_slice (l0 := i) (h0 := n + 1) (m0 := cap2) (off' := A.length) (n' := n + 1 - i) (c' := cap2 - i) rfl (.some rfl (by omega) rfl) .none .none (by simp) (by omega) (by omega) (by omega) (by rw [if_neg (by omega)]; omega) rfl rfl) rfl rfl rfl ?_
    refine gz ?_
    have hl1 : (bl, Obj.cells (List.toArray ws) 156 (0, 0)) ∈ (nb, Obj.cells (List.toArray (A ++ Z ++ sp2)) 156 (0, 0)) :: (gb, .cells (List.toArray (A ++ (B ++ sp))) 156 (0, 0)) :: (bl, .cells (List.toArray ws) 156 (0, 0)) :: F := .tail _ (.tail _ (.head _))
    refine t_e (e_copyK (k := 9) (m := 1) (cs := ws) rfl rfl (by show min 1 (n + 1 - i) = 1; omega) hw hl1 (fun j u hj => by simpa using hj) (by simp only [List.length_append]; omega) h1) rfl rfl rfl ?_
    rintro _ _ ⟨rfl, rfl⟩
    rw [e0, lay3 A _ _ ws (by rw [hw, hZ9])]
    refine gz ?_
    have hAw : (A ++ ws).length = i * 9 + 9 := by rw [List.length_append]; omega
    have hl2 : (gb, Obj.cells (List.toArray (A ++ (B ++ sp))) 156 (0, 0)) ∈ (nb, Obj.cells (List.toArray (A ++ ws ++ (Z.drop 9 ++ sp2))) 156 (0, 0)) :: (gb, .cells (List.toArray (A ++ (B ++ sp))) 156 (0, 0)) :: (bl, .cells (List.toArray ws) 156 (0, 0)) :: F := .tail _ (.head _)
    refine c_draw [(0, true), (1, true), (2, true), (3, true), (4, true), (5, true), (6, true), (7, true), (8, false)] [[], [], [], [1, 2], [0, 1, 2, 3], [], [], [5, 6], [0, 1, 2, 3, 4, 5, 6, 7]] ([]) (by kernel_rfl) (by kernel_rfl) zAtt zHR ?_
    refine pz ?_
    apply pl_q
    · exact q_slice (l0 := i + 1) (h0 := n + 1) (m0 := cap2) (off' := i * 9 + 9) (n' := n - i) (c' := cap2 - (i + 1)) rfl (.some rfl (by omega) rfl) .none .none (by simp) (by omega) (by omega) (by omega) (by rw [if_neg (by omega)]; omega) (by omega) rfl
    · rfl
    · rfl
    · rfl
    refine pz ?_
    apply pl_q
    · exact q_slice (l0 := i) (h0 := n) (m0 := cap) (off' := i * 9) (n' := n - i) (c' := cap - i) rfl (.some rfl (by omega) rfl) .none .none (by simp) (by omega) (by omega) (by omega) (by rw [if_neg (by omega)]; omega) rfl rfl
    · rfl
    · rfl
    · rfl
    refine pz ?_
    apply pl_e
    · apply e_copyK (k := 9) (m := n - i) (cs := B) (cur := A ++ ws ++ (Z.drop 9 ++ sp2))
      · rfl
      · rfl
      · exact Nat.min_self _
      · omega
      · exact hl2
      · intro j u hj
        have hjl := (List.getElem?_eq_some_iff.1 hj).1
        rw [List.getElem?_toArray, List.getElem?_append_right (by omega), hAl, show i * 9 + j - i * 9 = j by omega, List.getElem?_append_left hjl]; exact hj
      · rw [List.length_append, List.length_append, List.length_append, hw, hAl, hZd]; omega
      · exact hB1
    · rfl
    · rfl
    · rfl
    · intro _ _ _ c hc; cases hc
    rintro _ _ ⟨rfl, rfl⟩
    have e3 : List.take (i * 9 + 9) (A ++ ws ++ (List.drop 9 Z ++ sp2)) ++ B ++ List.drop (i * 9 + 9 + B.length) (A ++ ws ++ (List.drop 9 Z ++ sp2)) = A ++ ws ++ B ++ sp2 := by
      have := lay3 (A ++ ws) (Z.drop 9) sp2 B hZd.symm
      rw [hAw, List.append_assoc (A ++ ws) (Z.drop 9) sp2] at this
      exact this
    rw [e3]
    refine pz ?_
    refine gz ?_
    refine k_ret [] rfl (l' := (nb, .cells (List.toArray (A ++ ws ++ B ++ sp2)) 156 (0, 0)) :: F) (by exact zKeep) (by exact zRes) ⟨[(nb, _)], ⟨?_, .inr ⟨nb, cap2, sp2, rfl, rfl, hc1, hc2, ?_⟩⟩, rfl⟩
    · rw [List.length_append, hAw]; omega
    · rw [List.length_append, List.length_append, hAw]; omega
  · obtain ⟨s1, s2, hs12, hs1⟩ : ∃ s1 s2, sp = s1 ++ s2 ∧ s1.length = 9 := ⟨sp.take 9, sp.drop 9, (List.take_append_drop ..).symm, by rw [List.length_take]; omega⟩
    refine gz ?_
    refine t_q (q_slice (l0 := 0) (h0 := n + 1) (m0 := cap) (off' := 0) (n' := n + 1) (c' := cap) rfl .none (.some rfl (by omega) (by omega)) .none (by simp) (by omega) (by omega) (by omega) (by simp) (by omega) (by omega)) rfl rfl rfl ?_
    refine gz ?_
    refine t_q (q_slice (l0 := i + 1) (h0 := n + 1) (m0 := cap) (off' := i * 9 + 9) (n' := n - i) (c' := cap - (i + 1)) rfl (.some rfl (by omega) rfl) .none .none (by simp) (by omega) (by omega) (by omega) (by rw [if_neg (by omega)]; omega) (by omega) rfl) rfl rfl rfl ?_
    refine gz ?_
    have hl2 : (gb, Obj.cells (List.toArray (A ++ (B ++ sp))) 156 (0, 0)) ∈ (bl, .cells (List.toArray ws) 156 (0, 0)) :: (gb, Obj.cells (List.toArray (A ++ (B ++ sp))) 156 (0, 0)) :: F := .tail _ (.head _)
    refine t_q (q_overlaps (cl1 := List.toArray ws) (cl2 := List.toArray (A ++ (B ++ sp))) rfl rfl rfl ov_f ov_n ov_b ov_x 4 ov_e (.head _) hl2 (fun h => hgb h.symm) (by simp; omega)) rfl rfl rfl ?_
    refine s_keep (Keep.of_perm (l' := (gb, .cells (List.toArray (A ++ (B ++ sp))) 156 (0, 0)) :: ((bl, .cells (List.toArray ws) 156 (0, 0)) :: F)) (List.Perm.swap ..)) ?_
    refine gz ?_
    refine c_draw [(0, true), (1, true), (2, true), (3, true), (4, true), (5, true), (6, true), (7, true), (8, false)] [[], [], [], [1, 2], [0, 1, 2, 3], [], [], [5, 6], [0, 1, 2, 3, 4, 5, 6, 7]] ([]) (by kernel_rfl) (by kernel_rfl) zAtt zHR ?_
    refine pz ?_
    apply pl_q
    · exact q_slice (l0 := i + 1) (h0 := n + 1) (m0 := cap) (off' := i * 9 + 9) (n' := n - i) (c' := cap - (i + 1)) rfl (.some rfl (by omega) rfl) .none .none (by simp) (by omega) (by omega) (by omega) (by rw [if_neg (by omega)]; omega) (by omega) rfl
    · rfl
    · rfl
    · rfl
    refine pz ?_
    apply pl_q
    · exact q_slice (l0 := i) (h0 := n + 1) (m0 := cap) (off' := i * 9) (n' := n + 1 - i) (c' := cap - i) rfl (.some rfl (by omega) rfl) .none .none (by simp) (by omega) (by omega) (by omega) (by rw [if_neg (by omega)]; omega) rfl rfl
    · rfl
    · rfl
    · rfl
    refine pz ?_
    apply pl_e
    · apply e_copyK (k := 9) (m := n - i) (cs := B) (cur := A ++ (B ++ sp))
      · rfl
      · rfl
      · show min (n + 1 - i) (n - i) = n - i; omega
      · omega
      · exact .head _
      · intro j u hj
        have hjl := (List.getElem?_eq_some_iff.1 hj).1
        rw [List.getElem?_toArray, List.getElem?_append_right (by omega), hAl, show i * 9 + j - i * 9 = j by omega, List.getElem?_append_left hjl]; exact hj
      · rw [List.length_append, List.length_append, hAl]; omega
      · exact hB1
    · rfl
    · rfl
    · rfl
    · intro _ _ _ c hc; cases hc
    rintro _ _ ⟨rfl, rfl⟩
    obtain ⟨Y, hY⟩ : ∃ Y, (B ++ sp).take 9 = Y := ⟨_, rfl⟩
    have hYl : Y.length = 9 := by rw [← hY, List.length_take, List.length_append]; omega
    have hD : (B ++ sp).drop (9 + B.length) = s2 := by
      rw [Nat.add_comm, ← List.drop_drop, List.drop_left' rfl, hs12, List.drop_left' hs1]
    have e3 : List.take (i * 9 + 9) (A ++ (B ++ sp)) ++ B ++ List.drop (i * 9 + 9 + B.length) (A ++ (B ++ sp)) = A ++ Y ++ (B ++ s2) := by
      rw [← hAl, Nat.add_assoc, List.drop_append, List.take_append, List.drop_of_length_le (by omega), List.take_of_length_le (by omega), Nat.add_sub_cancel_left, Nat.add_sub_cancel_left, hD, hY]
      simp
    rw [e3]
    refine pz ?_
    refine gz ?_
    refine t_q (q_slice (l0 := i) (h0 := n + 1) (m0 := cap) (off' := A.length) (n' := n + 1 - i) (c' := cap - i) rfl (.some rfl (by omega) rfl) .none .none (by simp) (by omega) (by omega) (by omega) (by rw [if_neg (by omega)]; omega) rfl rfl) rfl rfl rfl ?_
    refine gz ?_
    have hl3 : (bl, Obj.cells (List.toArray ws) 156 (0, 0)) ∈ (gb, Obj.cells (List.toArray (A ++ Y ++ (B ++ s2))) 156 (0, 0)) :: (bl, .cells (List.toArray ws) 156 (0, 0)) :: F := .tail _ (.head _)
    refine t_e (e_copyK (k := 9) (m := 1) (cs := ws) rfl rfl (by show min 1 (n + 1 - i) = 1; omega) hw hl3 (fun j u hj => by simpa using hj) (by simp only [List.length_append]; omega) h1) rfl rfl rfl ?_
    rintro _ _ ⟨rfl, rfl⟩
    rw [lay3 A _ _ ws (by rw [hw, hYl])]
    refine gz ?_
    rw [hs12, List.length_append] at hcl
    refine k_ret [] rfl (l' := (gb, .cells (List.toArray (A ++ ws ++ (B ++ s2))) 156 (0, 0)) :: F) (by exact zKeep) (by exact zRes) ⟨[(gb, _)], ⟨?_, .inr ⟨gb, cap, s2, rfl, ?_, by omega, hcm, ?_⟩⟩, rfl⟩
    · rw [List.length_append, List.length_append]; omega
    · rw [List.append_assoc (A ++ ws)]
    · rw [List.length_append, List.length_append, List.length_append]; omega
end Go.Proofs.YtgafamgacpglcaaGreat.Ar


/- slices.Delete of one struct; cells laid over a row. -/
set_option linter.unusedVariables false
set_option linter.unusedSimpArgs false
namespace Go.Proofs.YtgafamgacpglcaaGreat.Ar
open Go.RowKit
set_option maxRecDepth 20000
set_option maxRecDepth 20000

set_option pp.deepTerms false
set_option pp.deepTerms.threshold 4
set_option maxHeartbeats 400000
end Go.Proofs.YtgafamgacpglcaaGreat.Ar


/- Rows of numbers told by a function. -/
set_option linter.unusedVariables false
set_option linter.unusedSimpArgs false
namespace Go.Proofs.YtgafamgacpglcaaGreat
open Go.RowKit

def upd {α : Type} (f : Nat → α) (k : Nat) (v : α) : Nat → α := fun i => if i = k then v else f i
theorem upd_same {α : Type} (f : Nat → α) (k : Nat) (v : α) : upd f k v k = v := if_pos rfl
theorem upd_other {α : Type} (f : Nat → α) (k i : Nat) (v : α) (h : i ≠ k) : upd f k v i = f i := if_neg h
/-- f a, f (a + 1), .. (n of them) -/
def seqI (f : Nat → Int) (a n : Nat) : List Int := (List.range n).map fun j => f (a + j)
theorem seqI_len (f : Nat → Int) (a n : Nat) : (seqI f a n).length = n := by simp [seqI]
end Go.Proofs.YtgafamgacpglcaaGreat


/- Low. -/
set_option linter.unusedVariables false
set_option linter.unusedSimpArgs false
namespace Go.Proofs.YtgafamgacpglcaaGreat
open Go.RowKit
set_option maxRecDepth 20000

end Go.Proofs.YtgafamgacpglcaaGreat


/- From a contract on all blocks to the form that a statement's last step wants. -/
set_option linter.unusedVariables false
set_option linter.unusedSimpArgs false
namespace Go.Proofs.YtgafamgacpglcaaGreat
open Go.RowKit

def allOf (W : World) : List Chunk := W.heap.toList.zipIdx.map fun x => (x.2, x.1)
theorem allOf_mem (W : World) (k : Nat) (o : Obj) : (k, o) ∈ allOf W ↔ W.heap[k]? = some o := by
  unfold allOf
  rw [List.mem_map]
  constructor
  · rintro ⟨⟨o', k'⟩, h, e⟩
    cases e
    have := List.mem_zipIdx_iff_getElem?.1 h
    simpa using this
  · intro h
    exact ⟨(o, k), List.mem_zipIdx_iff_getElem?.2 (by simpa using h), rfl⟩
theorem sat_all (W : World) : Sat W (allOf W) W := by
  refine ⟨rfl, rfl, rfl, ?_, fun c hc => (allOf_mem W c.1 c.2).1 hc⟩
  unfold allOf
  rw [List.map_map]
  have : (Prod.fst ∘ fun x : Obj × Nat => (x.2, x.1)) = Prod.snd := rfl
  rw [this, List.zipIdx_map_snd]
  exact List.nodup_range'
theorem law_walk {P : Program} {f : FuncId} {args : List Value} {W : World} (h : Fn P f args (allOf W) fun v l' => v = .bool true ∧ ∃ X, l' = X ++ allOf W) :
    Calls P f args.toArray W fun e W' => e = .returned (.bool true) ∧ Below W.heap.size W W' := by
  refine (h.run W W (sat_all W)).mono ?_
  rintro e W' ⟨v, l', rfl, ⟨rfl, X, rfl⟩, hs⟩
  have hb : ∀ k, k < W.heap.size → W'.heap[k]? = W.heap[k]? := fun k hk => by
    rw [Array.getElem?_eq_getElem hk]
    exact hs.has (k, W.heap[k]) (List.mem_append_right _ ((allOf_mem W k _).2 (Array.getElem?_eq_getElem hk)))
  refine ⟨rfl, ⟨hs.os, hs.tape, hs.output, ?_, hb⟩⟩
  by_cases h0 : W.heap.size = 0
  · omega
  · have h1 := hb (W.heap.size - 1) (by omega)
    rw [Array.getElem?_eq_getElem (xs := W.heap) (by omega)] at h1
    have := (Array.getElem?_eq_some_iff.1 h1).1
    omega
end Go.Proofs.YtgafamgacpglcaaGreat


/- Arena: the state as plain data and its blocks. -/
set_option linter.unusedVariables false
set_option linter.unusedSimpArgs false
namespace Go.Proofs.YtgafamgacpglcaaGreat.Ar
open Go.RowKit
set_option maxRecDepth 20000
set_option maxRecDepth 20000

abbrev intV (x : Int) : Value := .int .i64 x
structure ObT where
  id : Int
  kd : Int
  sz : Int
  fi : Int
  fr : Int
  ma : Int
  se : Int
  pg : Int
  lv : Int
deriving DecidableEq
abbrev obC (o : ObT) : List Value := [.int .i64 o.id, .int .i64 o.kd, .int .i64 o.sz, .int .i64 o.fi, .int .i64 o.fr, .int .i64 o.ma, .int .i64 o.se, .int .i64 o.pg, .int .i64 o.lv]
abbrev obO : ObT := ⟨0, 0, 0, 0, 0, 0, 0, 0, 0⟩
abbrev OL := List ObT
def ocs (os : OL) : List Value := os.flatMap obC
theorem ocs_l (os : OL) : (ocs os).length = os.length * 9 := by
  induction os with
  | nil => rfl
  | cons x r ih =>
    rw [show ocs (x :: r) = obC x ++ ocs r from rfl, List.length_append, ih]
    show 9 + r.length * 9 = (r.length + 1) * 9
    omega
theorem ocs_app (a b : OL) : ocs (a ++ b) = ocs a ++ ocs b := List.flatMap_append ..
theorem ocs_one (os : OL) : ∀ u ∈ ocs os, u.oneCell' = true := by
  intro u hu
  obtain ⟨o, _, h⟩ := List.mem_flatMap.1 hu
  simp only [obC, List.mem_cons, List.not_mem_nil, or_false] at h
  rcases h with rfl | rfl | rfl | rfl | rfl | rfl | rfl | rfl | rfl <;> rfl
/-- the place of a row's cell -/
theorem ocs_at {os : OL} {i : Nat} {o : ObT} (h : os[i]? = some o) (sp : List Value) (j : Nat) (hj : j < 9) : (List.toArray (ocs os ++ sp))[i * 9 + j]? = (obC o)[j]? := by
  obtain ⟨h1, h2⟩ := flat_row (enc := obC) (k := 9) (fun _ => rfl) sp os i o h
  rw [← h1, List.getElem?_take, if_pos hj, List.getElem?_drop, List.getElem?_toArray]; rfl
theorem ocs_ext {os : OL} {i : Nat} {o : ObT} (h : os[i]? = some o) (sp : List Value) : i * 9 + 9 ≤ (List.toArray (ocs os ++ sp)).size ∧ (List.toArray (ocs os ++ sp)).extract (i * 9) (i * 9 + 9) = List.toArray (obC o) := by
  obtain ⟨h1, h2⟩ := flat_row (enc := obC) (k := 9) (fun _ => rfl) sp os i o h
  refine ⟨by rw [List.size_toArray]; exact h2, ?_⟩
  rw [List.extract_toArray, List.extract_eq_take_drop, Nat.add_sub_cancel_left]
  exact congrArg List.toArray h1
/-- an arena's own cells -/
def arL (n : Int) (g : Nat → Int) (v : Value) : List Value := .int .i64 n :: ((seqI g 0 64).map intV ++ [v])
theorem arL_len (n : Int) (g : Nat → Int) (v : Value) : (arL n g v).length = 66 := by unfold arL; simp [seqI_len]
theorem arL_n (n : Int) (g : Nat → Int) (v : Value) : (List.toArray (arL n g v))[0]? = some (.int .i64 n) := rfl
theorem arL_l (n : Int) (g : Nat → Int) (v : Value) : (List.toArray (arL n g v))[65]? = some v := by
  rw [List.getElem?_toArray]; unfold arL
  rw [List.getElem?_cons_succ, List.getElem?_append_right (by simp [seqI_len])]; simp [seqI_len]
theorem arL_g (n : Int) (g : Nat → Int) (v : Value) {j : Nat} (hj : j < 64) : (List.toArray (arL n g v))[1 + j * 1]? = some (.int .i64 (g j)) := by
  rw [List.getElem?_toArray, show 1 + j * 1 = j + 1 by omega]; unfold arL
  rw [List.getElem?_cons_succ, List.getElem?_append_left (by simp [seqI_len]; omega), List.getElem?_map]
  simp [seqI, hj]
theorem arL_setG (n : Int) (g : Nat → Int) (v : Value) {j : Nat} (hj : j < 64) (x : Int) : (List.toArray (arL n g v)).setIfInBounds (1 + j * 1) (.int .i64 x) = List.toArray (arL n (upd g j x) v) := by
  rw [List.setIfInBounds_toArray, show 1 + j * 1 = j + 1 by omega]; unfold arL
  rw [List.set_cons_succ, List.set_append_left _ _ (by simp [seqI_len]; omega)]
  congr 3
  apply List.ext_getElem?
  intro k
  rw [List.getElem?_set]
  by_cases hk : k < 64
  · by_cases e : j = k
    · subst e
      rw [if_pos rfl, if_pos (by simp [seqI_len]; omega)]
      simp [seqI, hk, upd_same]
    · rw [if_neg e]
      simp [seqI, hk, upd_other _ _ _ _ (fun h => e h.symm)]
  · rw [if_neg (by omega)]
    rw [List.getElem?_eq_none (by simp [seqI_len]; omega), List.getElem?_eq_none (by simp [seqI_len]; omega)]
theorem arL_setL (n : Int) (g : Nat → Int) (v u : Value) : (List.toArray (arL n g v)).setIfInBounds 65 u = List.toArray (arL n g u) := by
  rw [List.setIfInBounds_toArray]; unfold arL
  rw [List.set_cons_succ, List.set_append_right _ _ (by simp [seqI_len])]
  simp [seqI_len]
abbrev arC (b : Nat) (n : Int) (g : Nat → Int) (v : Value) : Chunk := (b, .cells (List.toArray (arL n g v)) 205 (0, 0))
/-- an arena as plain data: how many frames, how many ever began at each, the objects -/
structure ArT where
  n : Int
  g : Nat → Int
  os : OL
structure ArT.Ok (S : ArT) : Prop where
  n1 : 1 ≤ S.n
  n2 : S.n ≤ 64
  g1 : ∀ j, 0 ≤ S.g j ∧ S.g j ≤ 1024
  asc : S.os.Pairwise fun x y => x.id < y.id
  rng : ∀ x ∈ S.os, 1 ≤ x.id ∧ x.id ≤ 65535
  num : ∀ x ∈ S.os, 0 ≤ x.fi ∧ x.fi < S.n ∧ ∃ c : Int, 0 ≤ c ∧ c < S.g x.fi.toNat ∧ x.id = x.fi + 1 + 64 * c
theorem asc_len : ∀ (os : OL) (a : Int), 0 ≤ a → a ≤ 65535 → (os.Pairwise fun x y => x.id < y.id) → (∀ x ∈ os, a < x.id ∧ x.id ≤ 65535) → (os.length : Int) ≤ 65535 - a
  | [], a, h0, ha, _, _ => by simp; omega
  | x :: r, a, h0, ha, h, hr => by
    obtain ⟨h1, h2⟩ := List.pairwise_cons.1 h
    have hx := hr x (.head _)
    have := asc_len r x.id (by omega) (by omega) h2 fun y hy => ⟨h1 y hy, (hr y (.tail _ hy)).2⟩
    simp only [List.length_cons]; omega
theorem ArT.Ok.len {S : ArT} (h : S.Ok) : S.os.length ≤ 65535 := by
  have := asc_len S.os 0 (by omega) (by omega) h.asc fun x hx => by have := h.rng x hx; omega
  omega
structure IsA (b : Nat) (S : ArT) (lq : List Chunk) : Prop where
  ok : S.Ok
  ex : ∃ v cs, lq = arC b S.n S.g v :: cs ∧ OwnSl 156 9 v S.os.length (ocs S.os) cs
end Go.Proofs.YtgafamgacpglcaaGreat.Ar


/- Arena: New, the iterator's closure, carve's and kinds' functions, apart, Next. -/
-- GU
set_option linter.unusedVariables false
set_option linter.unusedSimpArgs false
namespace Go.Proofs.YtgafamgacpglcaaGreat.Ar
open Go.RowKit
set_option maxRecDepth 20000
set_option maxRecDepth 20000

def framesD (k s : Int) : Int :=
  if k = 1 then (if 1 ≤ s ∧ s ≤ 64 then s else 0)
  else if k = 2 then (if s = 1 then 1 else if s = 2 then 1 else if s = 3 then 2 else if s = 4 then 4 else 0)
  else if k = 3 ∨ k = 4 ∨ k = 5 ∨ k = 6 ∨ k = 8 ∨ k = 9 then (if s = 0 then 1 else 0) else 0
def slotsD (k s : Int) : Int :=
  if k = 2 then (if s = 1 then 2 else if s = 2 then 4 else if s = 3 then 8 else if s = 4 then 16 else 0)
  else if k = 9 then (if s = 0 then 3 else 0) else 0
def smallI (x : Int) : Prop := 0 ≤ x ∧ x ≤ 1048576
instance (x : Int) : Decidable (smallI x) := by unfold smallI; exact inferInstance
def mayD (a n b k : Int) : Bool := decide (smallI a ∧ smallI n ∧ smallI b ∧ smallI k)
def meetD (a n b k : Int) : Bool := mayD a n b k && decide (n > 0) && decide (k > 0) && decide (a < b + k) && decide (b < a + n)
def withinD (a n b k : Int) : Bool := mayD a n b k && (decide (n = 0) || (decide (a ≥ b) && decide (a + n ≤ b + k)))
def apartD (kd fi n : Int) (o : ObT) : Bool := !meetD fi n o.fi o.fr || ((decide (o.kd = 1) && withinD fi n o.fi o.fr) || (decide (kd = 1) && withinD o.fi o.fr fi n))
def nextD (S : ArT) (f : Int) : Int := if f < 0 then 0 else if f ≥ S.n then 0 else if f + 1 + 64 * S.g f.toNat > 65535 then 0 else f + 1 + 64 * S.g f.toNat
set_option pp.deepTerms false
set_option pp.deepTerms.threshold 4
set_option maxHeartbeats 400000
theorem new_any (n : Int) (l : List Chunk) : Fn Tryz.prog 52 [.int .i64 n] l fun v l' =>
    (¬ (1 ≤ n ∧ n ≤ 64) ∧ v = .tuple #[.pointer none, .int .i64 3] ∧ l' = l) ∨ ((1 ≤ n ∧ n ≤ 64) ∧ ∃ b lq, v = .tuple #[.pointer (some ⟨b, 0, none⟩), .int .i64 0] ∧ IsA b ⟨n, fun _ => 0, []⟩ lq ∧ l' = lq ++ l) := by
  refine fn_of_body Tryz.func52 rfl rfl fun E => ?_
  simp only [argF, Tryz.ntmps52]
  by_cases h1 : n < 1
  · refine gzU ?_
    exact k_ret [] rfl .refl (by exact zRes) (.inl ⟨by omega, rfl, rfl⟩)
  by_cases h2 : n > 64
  · refine gzU ?_
    exact k_ret [] rfl .refl (by exact zRes) (.inl ⟨by omega, rfl, rfl⟩)
  refine gzU ?_
  refine t_e (e_boxA rfl) rfl rfl rfl ?_
  rintro _ _ ⟨b, hb, rfl, rfl⟩
  refine gzU ?_
  refine k_ret [] rfl .refl (by exact zRes) (.inr ⟨by omega, b, [arC b n (fun _ => 0) (.slice none 0 0)], rfl, ⟨⟨by show 1 ≤ n; omega, by show n ≤ 64; omega, fun j => by simp, .nil, (fun x hx => by cases hx), fun x hx => by cases hx⟩, _, [], rfl, OwnSl.nil _ _⟩, rfl⟩)
theorem each_any (b : Value) (h1 : b.oneCell' = true) (l : List Chunk) : Fn Tryz.prog 79 [b] l fun v l' => ∃ B, v = .func (.func 124) #[] #[.pointer (some ⟨B, 0, none⟩)] ∧ l' = (B, .cells #[b] 88 (0, 0)) :: l := by
  refine fn_of_body Tryz.func79 rfl rfl fun E => ?_
  simp only [argF, Tryz.ntmps79]
  refine gzU ?_
  refine t_e (e_box1 rfl h1) rfl rfl rfl ?_
  rintro _ _ ⟨B, hB, rfl, rfl⟩
  refine gzU ?_
  exact k_ret [] rfl .refl (by exact zRes) ⟨B, rfl, rfl⟩
theorem slots_any (k s : Int) (l : List Chunk) : Fn Tryz.prog 64 [.int .i64 k, .int .i64 s] l fun v l' => v = .int .i64 (slotsD k s) ∧ l' = l := by
  refine fn_of_body Tryz.func64 rfl rfl fun E => ?_
  simp only [argF, Tryz.ntmps64]
  by_cases h2 : k = 2
  · subst h2
    by_cases h1 : 1 ≤ s ∧ s ≤ 4
    · have hs : s = 1 ∨ s = 2 ∨ s = 3 ∨ s = 4 := by omega
      rcases hs with rfl | rfl | rfl | rfl
      · refine gzU ?_
        refine t_q (q_shl (i := 1) (n := 1) rfl rfl (by decide)) rfl rfl rfl ?_
        refine gzU ?_
        exact k_ret [] rfl .refl (by exact zRes) ⟨rfl, rfl⟩
      · refine gzU ?_
        refine t_q (q_shl (i := 1) (n := 2) rfl rfl (by decide)) rfl rfl rfl ?_
        refine gzU ?_
        exact k_ret [] rfl .refl (by exact zRes) ⟨rfl, rfl⟩
      · refine gzU ?_
        refine t_q (q_shl (i := 1) (n := 3) rfl rfl (by decide)) rfl rfl rfl ?_
        refine gzU ?_
        exact k_ret [] rfl .refl (by exact zRes) ⟨rfl, rfl⟩
      · refine gzU ?_
        refine t_q (q_shl (i := 1) (n := 4) rfl rfl (by decide)) rfl rfl rfl ?_
        refine gzU ?_
        exact k_ret [] rfl .refl (by exact zRes) ⟨rfl, rfl⟩
    · by_cases h3 : 1 ≤ s
      · refine gzU ?_
        refine k_ret [] rfl .refl (by exact zRes) ⟨?_, rfl⟩
        unfold slotsD
        rw [if_pos rfl, if_neg (by omega), if_neg (by omega), if_neg (by omega), if_neg (by omega)]; rfl
      · refine gzU ?_
        refine k_ret [] rfl .refl (by exact zRes) ⟨?_, rfl⟩
        unfold slotsD
        rw [if_pos rfl, if_neg (by omega), if_neg (by omega), if_neg (by omega), if_neg (by omega)]; rfl
  · by_cases h9 : k = 9
    · subst h9
      by_cases h0 : s = 0
      · subst h0
        refine gzU ?_
        exact k_ret [] rfl .refl (by exact zRes) ⟨rfl, rfl⟩
      · refine gzU ?_
        refine k_ret [] rfl .refl (by exact zRes) ⟨?_, rfl⟩
        unfold slotsD
        rw [if_neg (by omega), if_pos rfl, if_neg h0]; rfl
    · refine gzU ?_
      refine k_ret [] rfl .refl (by exact zRes) ⟨?_, rfl⟩
      unfold slotsD
      rw [if_neg h2, if_neg h9]; rfl
theorem may_any (a n b k : Int) (B : Nat) (l : List Chunk) (hm : (B, Obj.cells (List.toArray [.int .i64 a, .int .i64 n, .int .i64 b, .int .i64 k]) 3 (0, 0)) ∈ l) : Fn Tryz.prog 176 [.slice (some ⟨B, 0, none⟩) 4 4] l fun v l' => v = .bool (mayD a n b k) ∧ l' = l := by
  refine fn_of_body Tryz.func176 rfl rfl fun E => ?_
  simp only [argF, Tryz.ntmps176]
  refine gzU ?_
  refine k_loop (α := Nat) (fun i => [(5, .slice (some ⟨B, 0, none⟩) 4 4), (6, .int .i64 4), (7, .int .i64 i)]) (fun i => l) (fun i => i ≤ 4 ∧ ∀ j x, j < i → [a, n, b, k][j]? = some x → smallI x) (fun i => 4 - i) 0 ⟨Nat.zero_le _, fun j x h => by omega⟩ ⟨rfl, rfl, rfl, trivial⟩ .refl ?_
  rintro i ⟨hi, hj⟩
  by_cases hlt : i < 4
  · obtain ⟨x, hx⟩ : ∃ x, [a, n, b, k][i]? = some x := ⟨_, List.getElem?_eq_getElem (show i < [a, n, b, k].length from hlt)⟩
    have hc : (List.toArray [Value.int .i64 a, .int .i64 n, .int .i64 b, .int .i64 k])[i * 1]? = some (.int .i64 x) := by
      have : i = 0 ∨ i = 1 ∨ i = 2 ∨ i = 3 := by omega
      rcases this with rfl | rfl | rfl | rfl <;> (simp at hx; subst hx; rfl)
    have hF : ¬ smallI x → mayD a n b k = false := fun h => by
      refine decide_eq_false fun hh => h ?_
      have : i = 0 ∨ i = 1 ∨ i = 2 ∨ i = 3 := by omega
      rcases this with rfl | rfl | rfl | rfl <;> (simp at hx; subst hx; simp [hh])
    refine gzU ?_
    by_cases h1 : x < 0
    · refine gzU ?_
      exact k_ret [] rfl .refl (by exact zRes) ⟨by rw [hF (fun h => by unfold smallI at h; omega)]; rfl, rfl⟩
    by_cases h2 : x > 1048576
    · refine gzU ?_
      exact k_ret [] rfl .refl (by exact zRes) ⟨by rw [hF (fun h => by unfold smallI at h; omega)]; rfl, rfl⟩
    · refine gzU ?_
      refine k_next (i + 1) ⟨by omega, fun j y hji hy => ?_⟩ (by omega) ⟨rfl, rfl, rfl, trivial⟩ .refl
      by_cases e : j = i
      · subst e; rw [hx] at hy; cases hy; exact ⟨by omega, by omega⟩
      · exact hj j y (by omega) hy
  · obtain rfl : i = 4 := by omega
    have hT : mayD a n b k = true := decide_eq_true ⟨hj 0 a (by omega) rfl, hj 1 n (by omega) rfl, hj 2 b (by omega) rfl, hj 3 k (by omega) rfl⟩
    refine gzU ?_
    exact k_ret [] rfl .refl (by exact zRes) ⟨by rw [hT]; rfl, rfl⟩
theorem may_sm {a n b k : Int} (h : mayD a n b k = true) : smallI a ∧ smallI n ∧ smallI b ∧ smallI k := of_decide_eq_true h
theorem meet_any (a n b k : Int) (l : List Chunk) : Fn Tryz.prog 148 [.int .i64 a, .int .i64 n, .int .i64 b, .int .i64 k] l fun v l' => v = .bool (meetD a n b k) ∧ l' = l := by
  refine fn_of_body Tryz.func148 rfl rfl fun E => ?_
  simp only [argF, Tryz.ntmps148]
  refine gzU ?_
  refine t_e (e_litN rfl (by decide) (by decide) rfl) rfl rfl rfl ?_
  rintro _ _ ⟨B, hB, rfl, rfl⟩
  refine gzU ?_
  refine t_q (q_call rfl rfl fun l2 hl => may_any a n b k B l2 (hl _ (.head _))) rfl rfl rfl ?_
  cases hm : mayD a n b k with
  | false =>
    refine gzU ?_
    exact k_ret [] rfl (.drop .refl) (by exact zRes) ⟨by unfold meetD; rw [hm]; rfl, rfl⟩
  | true =>
    obtain ⟨⟨a1, a2⟩, ⟨n1, n2⟩, ⟨b1, b2⟩, k1, k2⟩ := may_sm hm
    by_cases h1 : n > 0
    · by_cases h2 : k > 0
      · by_cases h3 : a < b + k
        · by_cases h4 : b < a + n
          · refine gzU ?_
            exact k_ret [] rfl (.drop .refl) (by exact zRes) ⟨by unfold meetD; rw [hm, decide_eq_true h1, decide_eq_true h2, decide_eq_true h3, decide_eq_true h4]; rfl, rfl⟩
          · refine gzU ?_
            exact k_ret [] rfl (.drop .refl) (by exact zRes) ⟨by unfold meetD; rw [hm, decide_eq_true h1, decide_eq_true h2, decide_eq_true h3, decide_eq_false h4]; rfl, rfl⟩
        · refine gzU ?_
          exact k_ret [] rfl (.drop .refl) (by exact zRes) ⟨by unfold meetD; rw [hm, decide_eq_true h1, decide_eq_true h2, decide_eq_false h3]; rfl, rfl⟩
      · refine gzU ?_
        exact k_ret [] rfl (.drop .refl) (by exact zRes) ⟨by unfold meetD; rw [hm, decide_eq_true h1, decide_eq_false h2]; rfl, rfl⟩
    · refine gzU ?_
      exact k_ret [] rfl (.drop .refl) (by exact zRes) ⟨by unfold meetD; rw [hm, decide_eq_false h1]; rfl, rfl⟩
theorem within_any (a n b k : Int) (l : List Chunk) : Fn Tryz.prog 149 [.int .i64 a, .int .i64 n, .int .i64 b, .int .i64 k] l fun v l' => v = .bool (withinD a n b k) ∧ l' = l := by
  refine fn_of_body Tryz.func149 rfl rfl fun E => ?_
  simp only [argF, Tryz.ntmps149]
  refine gzU ?_
  refine t_e (e_litN rfl (by decide) (by decide) rfl) rfl rfl rfl ?_
  rintro _ _ ⟨B, hB, rfl, rfl⟩
  refine gzU ?_
  refine t_q (q_call rfl rfl fun l2 hl => may_any a n b k B l2 (hl _ (.head _))) rfl rfl rfl ?_
  cases hm : mayD a n b k with
  | false =>
    refine gzU ?_
    exact k_ret [] rfl (.drop .refl) (by exact zRes) ⟨by unfold withinD; rw [hm]; rfl, rfl⟩
  | true =>
    obtain ⟨⟨a1, a2⟩, ⟨n1, n2⟩, ⟨b1, b2⟩, k1, k2⟩ := may_sm hm
    by_cases h1 : n = 0
    · refine gzU ?_
      exact k_ret [] rfl (.drop .refl) (by exact zRes) ⟨by unfold withinD; rw [hm, decide_eq_true h1]; rfl, rfl⟩
    · by_cases h3 : a ≥ b
      · by_cases h4 : a + n ≤ b + k
        · refine gzU ?_
          exact k_ret [] rfl (.drop .refl) (by exact zRes) ⟨by unfold withinD; rw [hm, decide_eq_false h1, decide_eq_true h3, decide_eq_true h4]; rfl, rfl⟩
        · refine gzU ?_
          exact k_ret [] rfl (.drop .refl) (by exact zRes) ⟨by unfold withinD; rw [hm, decide_eq_false h1, decide_eq_true h3, decide_eq_false h4]; rfl, rfl⟩
      · refine gzU ?_
        exact k_ret [] rfl (.drop .refl) (by exact zRes) ⟨by unfold withinD; rw [hm, decide_eq_false h1, decide_eq_false h3]; rfl, rfl⟩
theorem frames_any (k s : Int) (l : List Chunk) : Fn Tryz.prog 60 [.int .i64 k, .int .i64 s] l fun v l' => v = .int .i64 (framesD k s) ∧ l' = l := by
  refine fn_of_body Tryz.func60 rfl rfl fun E => ?_
  simp only [argF, Tryz.ntmps60]
  by_cases h1 : k = 1
  · subst h1
    by_cases hs : s ≥ 1
    · by_cases hs2 : s ≤ 64
      · refine gzU ?_
        exact k_ret [] rfl .refl (by exact zRes) ⟨by unfold framesD; rw [if_pos rfl, if_pos ⟨hs, hs2⟩]; rfl, rfl⟩
      · refine gzU ?_
        exact k_ret [] rfl .refl (by exact zRes) ⟨by unfold framesD; rw [if_pos rfl, if_neg (by omega)]; rfl, rfl⟩
    · refine gzU ?_
      exact k_ret [] rfl .refl (by exact zRes) ⟨by unfold framesD; rw [if_pos rfl, if_neg (by omega)]; rfl, rfl⟩
  by_cases h2 : k = 2
  · subst h2
    by_cases hs : s = 1 ∨ s = 2 ∨ s = 3 ∨ s = 4
    · rcases hs with rfl | rfl | rfl | rfl
      · refine gzU ?_
        refine t_q (q_call rfl rfl fun l2 _ => slots_any 2 _ l2) rfl rfl rfl ?_
        simp only [slotsD, if_true, if_false, Int.reduceEq]
        refine gzU ?_
        exact k_ret [] rfl .refl (by exact zRes) ⟨rfl, rfl⟩
      · refine gzU ?_
        refine t_q (q_call rfl rfl fun l2 _ => slots_any 2 _ l2) rfl rfl rfl ?_
        simp only [slotsD, if_true, if_false, Int.reduceEq]
        refine gzU ?_
        exact k_ret [] rfl .refl (by exact zRes) ⟨rfl, rfl⟩
      · refine gzU ?_
        refine t_q (q_call rfl rfl fun l2 _ => slots_any 2 _ l2) rfl rfl rfl ?_
        simp only [slotsD, if_true, if_false, Int.reduceEq]
        refine gzU ?_
        exact k_ret [] rfl .refl (by exact zRes) ⟨rfl, rfl⟩
      · refine gzU ?_
        refine t_q (q_call rfl rfl fun l2 _ => slots_any 2 _ l2) rfl rfl rfl ?_
        simp only [slotsD, if_true, if_false, Int.reduceEq]
        refine gzU ?_
        exact k_ret [] rfl .refl (by exact zRes) ⟨rfl, rfl⟩
    · refine gzU ?_
      refine t_q (q_call rfl rfl fun l2 _ => slots_any 2 _ l2) rfl rfl rfl ?_
      rw [show slotsD 2 s = 0 by unfold slotsD; rw [if_pos rfl, if_neg (by omega), if_neg (by omega), if_neg (by omega), if_neg (by omega)]]
      refine gzU ?_
      exact k_ret [] rfl .refl (by exact zRes) ⟨by unfold framesD; rw [if_neg (by omega), if_pos rfl, if_neg (by omega), if_neg (by omega), if_neg (by omega), if_neg (by omega)]; rfl, rfl⟩
  by_cases hk : k = 3 ∨ k = 4 ∨ k = 5 ∨ k = 6 ∨ k = 8 ∨ k = 9
  · have e : framesD k s = if s = 0 then 1 else 0 := by unfold framesD; rw [if_neg h1, if_neg h2, if_pos hk]
    rw [e]
    rcases hk with rfl | rfl | rfl | rfl | rfl | rfl
    · by_cases hs : s = 0
      · refine gzU ?_
        exact k_ret [] rfl .refl (by exact zRes) ⟨by rw [if_pos hs]; rfl, rfl⟩
      · refine gzU ?_
        exact k_ret [] rfl .refl (by exact zRes) ⟨by rw [if_neg hs]; rfl, rfl⟩
    · by_cases hs : s = 0
      · refine gzU ?_
        exact k_ret [] rfl .refl (by exact zRes) ⟨by rw [if_pos hs]; rfl, rfl⟩
      · refine gzU ?_
        exact k_ret [] rfl .refl (by exact zRes) ⟨by rw [if_neg hs]; rfl, rfl⟩
    · by_cases hs : s = 0
      · refine gzU ?_
        exact k_ret [] rfl .refl (by exact zRes) ⟨by rw [if_pos hs]; rfl, rfl⟩
      · refine gzU ?_
        exact k_ret [] rfl .refl (by exact zRes) ⟨by rw [if_neg hs]; rfl, rfl⟩
    · by_cases hs : s = 0
      · refine gzU ?_
        exact k_ret [] rfl .refl (by exact zRes) ⟨by rw [if_pos hs]; rfl, rfl⟩
      · refine gzU ?_
        exact k_ret [] rfl .refl (by exact zRes) ⟨by rw [if_neg hs]; rfl, rfl⟩
    · by_cases hs : s = 0
      · refine gzU ?_
        exact k_ret [] rfl .refl (by exact zRes) ⟨by rw [if_pos hs]; rfl, rfl⟩
      · refine gzU ?_
        exact k_ret [] rfl .refl (by exact zRes) ⟨by rw [if_neg hs]; rfl, rfl⟩
    · by_cases hs : s = 0
      · refine gzU ?_
        exact k_ret [] rfl .refl (by exact zRes) ⟨by rw [if_pos hs]; rfl, rfl⟩
      · refine gzU ?_
        exact k_ret [] rfl .refl (by exact zRes) ⟨by rw [if_neg hs]; rfl, rfl⟩
  · have e : framesD k s = 0 := by unfold framesD; rw [if_neg h1, if_neg h2, if_neg hk]
    rw [e]
    refine gzU ?_
    exact k_ret [] rfl .refl (by exact zRes) ⟨rfl, rfl⟩
end Go.Proofs.YtgafamgacpglcaaGreat.Ar


/- Arena: apart, Next, the iterator, at. -/
-- GU
set_option linter.unusedVariables false
set_option linter.unusedSimpArgs false
namespace Go.Proofs.YtgafamgacpglcaaGreat.Ar
open Go.RowKit
set_option maxRecDepth 20000
set_option maxRecDepth 20000

set_option pp.deepTerms false
set_option pp.deepTerms.threshold 4
set_option maxHeartbeats 400000
theorem apart_any (kd fi n : Int) (o : ObT) (gb off : Nat) (cs : Array Value) (t : TypeId) (fz : Nat × Nat) (l : List Chunk) (hm : (gb, Obj.cells cs t fz) ∈ l) (hc : ∀ j, j < 9 → cs[off + j]? = (obC o)[j]?) :
    Fn Tryz.prog 103 [.int .i64 kd, .int .i64 fi, .int .i64 n, .pointer (some ⟨gb, off, none⟩)] l fun v l' => v = .bool (apartD kd fi n o) ∧ l' = l := by
  have c1 : cs[off + 1]? = some (.int .i64 o.kd) := hc 1 (by omega)
  have c3 : cs[off + 3]? = some (.int .i64 o.fi) := hc 3 (by omega)
  have c4 : cs[off + 4]? = some (.int .i64 o.fr) := hc 4 (by omega)
  refine fn_of_body Tryz.func103 rfl rfl fun E => ?_
  simp only [argF, Tryz.ntmps103]
  refine gzU ?_
  refine c_draw [(0, true), (1, true), (2, true), (3, true), (4, true), (5, true), (6, true), (7, true), (8, true), (9, true), (10, true), (11, true), (12, true)] [[], [], [], [2], [2, 3], [2, 3, 4], [], [6], [6, 7], [6, 7, 8], [0, 1, 2, 3, 4, 5, 6, 7, 8, 9], [0, 1, 2, 3, 4, 5, 6, 7, 8, 9, 10], [0, 1, 2, 3, 4, 5, 6, 7, 8, 9, 10, 11]] _ (by kernel_rfl) (by kernel_rfl) zAtt (fun _ h => h) ?_
  refine pzU ?_
  apply pl_q
  · exact q_call rfl rfl fun l2 hl => meet_any fi n o.fi o.fr l2
  · rfl
  · rfl
  · rfl
  cases hM : meetD fi n o.fi o.fr with
  | false =>
    refine pzU ?_
    refine gzU ?_
    exact k_ret [] rfl .refl (by exact zRes) ⟨by unfold apartD; rw [hM]; rfl, rfl⟩
  | true =>
    refine pzU ?_
    refine gzU ?_
    refine c_draw [(0, true), (1, true), (2, true), (3, true), (4, true), (5, true), (6, true), (7, true), (8, true), (9, true), (10, true), (11, true), (12, true), (13, true), (14, true), (15, true), (16, true), (17, true), (18, true)] [[], [0], [0, 1], [0, 1, 2], [0, 1, 2, 3], [0, 1, 2, 3, 4], [0, 1, 2, 3, 4, 5], [0, 1, 2, 3, 4, 5], [0, 1, 2, 3, 4, 5], [0, 1, 2, 3, 4, 5, 8], [0, 1, 2, 3, 4, 5, 8, 9], [0, 1, 2, 3, 4, 5, 8, 9, 10], [0, 1, 2, 3, 4, 5], [0, 1, 2, 3, 4, 5, 12], [0, 1, 2, 3, 4, 5, 12, 13], [0, 1, 2, 3, 4, 5, 12, 13, 14], [0, 1, 2, 3, 4, 5, 6, 7, 8, 9, 10, 11, 12, 13, 14, 15], [0, 1, 2, 3, 4, 5, 6, 7, 8, 9, 10, 11, 12, 13, 14, 15, 16], [0, 1, 2, 3, 4, 5, 6, 7, 8, 9, 10, 11, 12, 13, 14, 15, 16, 17]] _ (by kernel_rfl) (by kernel_rfl) zAtt (fun _ h => h) ?_
    refine pzU ?_
    by_cases h1 : o.kd = 1
    · refine pzU ?_
      apply pl_gq
      · exact q_call rfl rfl fun l2 hl => within_any fi n o.fi o.fr l2
      all_goals try rfl
      cases hW : withinD fi n o.fi o.fr with
      | true =>
        refine pzU ?_
        refine gzU ?_
        exact k_ret [] rfl .refl (by exact zRes) ⟨by unfold apartD; rw [hM, decide_eq_true h1, hW]; rfl, rfl⟩
      | false =>
        refine pzU ?_
        refine gzU ?_
        refine c_draw [(0, true), (1, true), (2, true), (3, true), (4, true), (5, true), (6, true), (7, true), (8, true), (9, true), (10, true), (11, true), (12, true), (13, true), (14, true), (15, true)] [[], [0], [0, 1], [0, 1, 2], [0, 1, 2, 3], [0, 1, 2, 3, 4], [0, 1, 2, 3, 4, 5], [0, 1, 2], [0, 1, 2, 7], [0, 1, 2, 7, 8], [0, 1, 2, 7, 8, 9], [0, 1, 2], [0, 1, 2], [0, 1, 2, 3, 4, 5, 6, 7, 8, 9, 10, 11, 12], [0, 1, 2, 3, 4, 5, 6, 7, 8, 9, 10, 11, 12, 13], [0, 1, 2, 3, 4, 5, 6, 7, 8, 9, 10, 11, 12, 13, 14]] _ (by kernel_rfl) (by kernel_rfl) zAtt (fun _ h => h) ?_
        by_cases h5 : kd = 1
        · refine pzU ?_
          apply pl_gq
          · exact q_call rfl rfl fun l2 hl => within_any o.fi o.fr fi n l2
          all_goals try rfl
          refine pzU ?_
          refine gzU ?_
          exact k_ret [] rfl .refl (by exact zRes) ⟨by unfold apartD; rw [hM, decide_eq_true h1, hW, decide_eq_true h5]; rfl, rfl⟩
        · refine pzU ?_
          refine gzU ?_
          exact k_ret [] rfl .refl (by exact zRes) ⟨by unfold apartD; rw [hM, decide_eq_true h1, hW, decide_eq_false h5]; rfl, rfl⟩
    · refine pzU ?_
      refine gzU ?_
      refine c_draw [(0, true), (1, true), (2, true), (3, true), (4, true), (5, true), (6, true), (7, true), (8, true), (9, true), (10, true), (11, true), (12, true), (13, true), (14, true), (15, true)] [[], [0], [0, 1], [0, 1, 2], [0, 1, 2, 3], [0, 1, 2, 3, 4], [0, 1, 2, 3, 4, 5], [0, 1, 2], [0, 1, 2, 7], [0, 1, 2, 7, 8], [0, 1, 2, 7, 8, 9], [0, 1, 2], [0, 1, 2], [0, 1, 2, 3, 4, 5, 6, 7, 8, 9, 10, 11, 12], [0, 1, 2, 3, 4, 5, 6, 7, 8, 9, 10, 11, 12, 13], [0, 1, 2, 3, 4, 5, 6, 7, 8, 9, 10, 11, 12, 13, 14]] _ (by kernel_rfl) (by kernel_rfl) zAtt (fun _ h => h) ?_
      by_cases h5 : kd = 1
      · refine pzU ?_
        apply pl_gq
        · exact q_call rfl rfl fun l2 hl => within_any o.fi o.fr fi n l2
        all_goals try rfl
        refine pzU ?_
        refine gzU ?_
        exact k_ret [] rfl .refl (by exact zRes) ⟨by unfold apartD; rw [hM, decide_eq_false h1, decide_eq_true h5]; rfl, rfl⟩
      · refine pzU ?_
        refine gzU ?_
        exact k_ret [] rfl .refl (by exact zRes) ⟨by unfold apartD; rw [hM, decide_eq_false h1, decide_eq_false h5]; rfl, rfl⟩
theorem next_any (b : Nat) (S : ArT) (lq : List Chunk) (hA : IsA b S lq) (f : Int) (l : List Chunk) (hsub : ∀ c, c ∈ lq → c ∈ l) :
    Fn Tryz.prog 104 [.pointer (some ⟨b, 0, none⟩), .int .i64 f] l fun v l' => v = .int .i64 (nextD S f) ∧ l' = l := by
  obtain ⟨hok, v, cs, rfl, ho⟩ := hA
  have hm := hsub _ (.head _)
  have c0 := arL_n S.n S.g v
  have hn1 := hok.n1
  have hn2 := hok.n2
  refine fn_of_body Tryz.func104 rfl rfl fun E => ?_
  simp only [argF, Tryz.ntmps104]
  refine gzU ?_
  by_cases h1 : f < 0
  · refine gzU ?_
    exact k_ret [] rfl .refl (by exact zRes) ⟨by unfold nextD; rw [if_pos h1]; rfl, rfl⟩
  by_cases h2 : f ≥ S.n
  · refine gzU ?_
    exact k_ret [] rfl .refl (by exact zRes) ⟨by unfold nextD; rw [if_neg h1, if_pos h2]; rfl, rfl⟩
  obtain ⟨j, rfl⟩ : ∃ j : Nat, f = j := ⟨f.toNat, by omega⟩
  have hj : j < 64 := by omega
  have cg := arL_g S.n S.g v hj
  have hg := hok.g1 j
  by_cases h3 : (j : Int) + 1 + 64 * S.g j > 65535
  · refine gzU ?_
    exact k_ret [] rfl .refl (by exact zRes) ⟨by unfold nextD; rw [if_neg h1, if_neg h2, Int.toNat_natCast, if_pos h3]; rfl, rfl⟩
  · refine gzU ?_
    exact k_ret [] rfl .refl (by exact zRes) ⟨by unfold nextD; rw [if_neg h1, if_neg h2, Int.toNat_natCast, if_neg h3]; rfl, rfl⟩
/-- the objects with their places -/
def itm (os : OL) : List (ObT × Nat) := os.zipIdx
theorem itm_get (os : OL) (k : Nat) : (itm os)[k]? = os[k]?.map fun o => (o, k) := by
  unfold itm; rw [List.getElem?_zipIdx]; simp
theorem itm_len (os : OL) : (itm os).length = os.length := List.length_zipIdx
theorem itm_take {os : OL} {k : Nat} {o : ObT} (h : os[k]? = some o) : (itm os).take (k + 1) = (itm os).take k ++ [(o, k)] := by
  rw [List.take_add_one, itm_get, h]; rfl
theorem itm_pre {os : OL} {pre : List (ObT × Nat)} {x : ObT × Nat} (h : pre ++ [x] <+: itm os) : os[x.2]? = some x.1 ∧ x.2 = pre.length ∧ pre = (itm os).take x.2 := by
  obtain ⟨r, hr⟩ := h
  have h1 : (itm os)[pre.length]? = some x := by rw [← hr]; simp
  rw [itm_get] at h1
  cases ho : os[pre.length]? with
  | none => rw [ho] at h1; simp at h1
  | some o =>
    rw [ho] at h1
    have : x = (o, pre.length) := by simpa using h1.symm
    subst this
    refine ⟨ho, rfl, ?_⟩
    show pre = (itm os).take pre.length
    rw [← hr, List.append_assoc, List.take_left' rfl]
abbrev xB (B : Nat) (b : Option Addr) : Chunk := (B, .cells #[.pointer b] 88 (0, 0))
abbrev rowV (gb : Nat) (v : Value) (os : OL) : Prop := v = .slice none 0 0 ∧ os.length = 0 ∨ ∃ cap, v = .slice (some ⟨gb, 0, none⟩) os.length cap
theorem each_iter (B b : Nat) (n : Int) (g : Nat → Int) (v : Value) (os : OL) (gb : Nat) (hv : rowV gb v os) (hn : os.length ≤ 900000) :
    IterS Tryz.prog 124 [.pointer (some ⟨B, 0, none⟩)] (fun x : ObT × Nat => [.int .i64 (x.2 : Nat), .pointer (some ⟨gb, x.2 * 9, none⟩)]) (fun xs => xs = itm os) (fun pre => pre <+: itm os)
      (fun _ l => xB B (some ⟨b, 0, none⟩) ∈ l ∧ arC b n g v ∈ l) := by
  refine ⟨fun r I Ix G0 hneed hY l G hG h0 => ?_⟩
  obtain ⟨p, cap, rfl, hp⟩ : ∃ p cap, v = .slice p os.length cap ∧ (0 < os.length → p = some ⟨gb, 0, none⟩) := by
    rcases hv with ⟨h, h0⟩ | ⟨cap, h⟩
    · exact ⟨none, 0, by rw [h, h0], fun h => by omega⟩
    · exact ⟨_, cap, h, fun _ => rfl⟩
  obtain ⟨n1, n2⟩ := hneed _ _ G hG h0
  have cl := arL_l n g (.slice p os.length cap)
  refine fn_of_body Tryz.func124 rfl rfl fun E => ?_
  simp only [argF, Tryz.ntmps124]
  refine gzU ?_
  refine k_loop (α := Nat × List Chunk) (fun x => [(0, .func (.yield r) #[] #[]), (1, .pointer (some ⟨B, 0, none⟩)), (10, .int .i64 os.length), (11, .int .i64 x.1)]) (fun x => x.2 ++ G) (fun x => x.1 ≤ os.length ∧ I ((itm os).take x.1) x.2) (fun x => os.length - x.1) (0, l) ⟨Nat.zero_le _, h0⟩ ⟨rfl, rfl, rfl, rfl, trivial⟩ .refl ?_
  clear n1 n2
  rintro ⟨k, l⟩ ⟨hk, hI⟩
  simp only at hk hI ⊢
  obtain ⟨n1, n2⟩ := hneed _ _ G hG hI
  by_cases hlt : k < os.length
  · obtain ⟨o, ho⟩ : ∃ o, os[k]? = some o := ⟨_, List.getElem?_eq_getElem hlt⟩
    have hpp := hp (by omega)
    subst hpp
    refine gzU ?_
    have hy := hY ((itm os).take k) (o, k) l G hG hI (by rw [← itm_take ho]; exact List.take_prefix _ _)
    refine t_e (e_yield rfl rfl hy) rfl rfl rfl ?_
    rintro v l' ⟨l1, rfl, ⟨rfl, hI'⟩ | ⟨rfl, hx⟩⟩
    · refine gzU ?_
      exact k_next (k + 1, l1) ⟨by simp only; omega, by simp only; rw [itm_take ho]; exact hI'⟩ (by simp only; omega) ⟨rfl, rfl, rfl, rfl, trivial⟩ .refl
    · refine gzU ?_
      exact k_ret [] rfl .refl (by exact zRes) ⟨l1, rfl, .inr ⟨_, by rw [← itm_take ho]; exact List.take_prefix _ _, hx⟩⟩
  · obtain rfl : k = os.length := by omega
    rw [← itm_len, List.take_length] at hI
    refine gzU ?_
    exact k_ret [] rfl .refl (by exact zRes) ⟨l, rfl, .inl ⟨_, rfl, hI⟩⟩
end Go.Proofs.YtgafamgacpglcaaGreat.Ar


/- Arena: at, Get, All. -/
set_option linter.unusedVariables false
set_option linter.unusedSimpArgs false
namespace Go.Proofs.YtgafamgacpglcaaGreat.Ar
open Go.RowKit
set_option maxRecDepth 20000
set_option maxRecDepth 20000

abbrev inC (B : Nat) (x : Int) : Chunk := (B, .cells #[.int .i64 x] 3 (0, 0))
theorem rowV_of {e : Nat} {v : Value} {os : OL} {cs : List Chunk} (ho : OwnSl e 9 v os.length (ocs os) cs) : ∃ gb, rowV gb v os ∧ ∀ (k : Nat) (o : ObT), os[k]? = some o → ∃ sp, cs = [(gb, Obj.cells (List.toArray (ocs os ++ sp)) e (0, 0))] := by
  rcases ho.2 with ⟨rfl, h0, rfl⟩ | ⟨b, cap, sp, rfl, rfl, _⟩
  · exact ⟨0, .inl ⟨rfl, h0⟩, fun k o h => by have := (List.getElem?_eq_some_iff.1 h).1; omega⟩
  · exact ⟨b, .inr ⟨cap, rfl⟩, fun k o h => ⟨sp, rfl⟩⟩
set_option pp.deepTerms false
set_option pp.deepTerms.threshold 4
set_option maxHeartbeats 400000
theorem ocs_snoc (pre : OL) (y : ObT) : ocs (pre ++ [y]) = ocs pre ++ obC y := by rw [ocs_app]; show _ ++ (obC y ++ []) = _; rw [List.append_nil]
end Go.Proofs.YtgafamgacpglcaaGreat.Ar


/- Arena: Add. -/
-- GU
set_option linter.unusedVariables false
set_option linter.unusedSimpArgs false
namespace Go.Proofs.YtgafamgacpglcaaGreat.Ar
open Go.RowKit
set_option maxRecDepth 20000
set_option maxRecDepth 20000

def insD (os : OL) (o : ObT) : OL := os.takeWhile (fun x => decide (x.id ≤ o.id)) ++ o :: os.dropWhile (fun x => decide (x.id ≤ o.id))
def newO (S : ArT) (kd sz fi : Int) : ObT := ⟨nextD S fi, kd, sz, fi, framesD kd sz, 0, 0, 0, 0⟩
def addE (S : ArT) (kd sz fi : Int) : Int :=
  if framesD kd sz = 0 then 2 else if fi < 0 ∨ fi > S.n - framesD kd sz then 3
  else if (S.os.all fun o => apartD kd fi (framesD kd sz) o) = false then 16 else if nextD S fi = 0 then 11 else 0
def addD (S : ArT) (kd sz fi : Int) : (Int × Int) × ArT :=
  if addE S kd sz fi = 0 then ((nextD S fi, 0), { S with g := upd S.g fi.toNat (S.g fi.toNat + 1), os := insD S.os (newO S kd sz fi) }) else ((0, addE S kd sz fi), S)
theorem frames_rng (k s : Int) : 0 ≤ framesD k s ∧ framesD k s ≤ 64 := by
  unfold framesD
  repeat' split
  all_goals omega
theorem ins_at {os : OL} {o : ObT} {k : Nat} (hk : k ≤ os.length) (h1 : ∀ x ∈ os.take k, x.id ≤ o.id) (h2 : ∀ x ∈ os.drop k, ¬ x.id ≤ o.id) : insD os o = os.take k ++ o :: os.drop k := by
  have e : os = os.take k ++ os.drop k := (List.take_append_drop ..).symm
  have t1 : os.takeWhile (fun x => decide (x.id ≤ o.id)) = os.take k := by
    conv => lhs; rw [e]
    rw [List.takeWhile_append_of_pos fun x hx => by simpa using h1 x hx]
    cases hd : os.drop k with
    | nil => simp
    | cons y r =>
      rw [List.takeWhile_cons_of_neg, List.append_nil]
      simpa using h2 y (by rw [hd]; exact .head _)
  have t2 : os.dropWhile (fun x => decide (x.id ≤ o.id)) = os.drop k := by
    conv => lhs; rw [e]
    rw [List.dropWhile_append_of_pos fun x hx => by simpa using h1 x hx]
    cases hd : os.drop k with
    | nil => simp
    | cons y r =>
      rw [List.dropWhile_cons_of_neg]
      simpa using h2 y (by rw [hd]; exact .head _)
  unfold insD
  rw [t1, t2]
theorem asc_get {os : OL} (h : os.Pairwise fun x y => x.id < y.id) {i j : Nat} {x y : ObT} (hx : os[i]? = some x) (hy : os[j]? = some y) (hij : i < j) : x.id < y.id := by
  obtain ⟨h1, rfl⟩ := List.getElem?_eq_some_iff.1 hx
  obtain ⟨h2, rfl⟩ := List.getElem?_eq_some_iff.1 hy
  exact List.pairwise_iff_getElem.1 h i j h1 h2 hij
theorem ins_mem {os : OL} {o x : ObT} : x ∈ insD os o ↔ x = o ∨ x ∈ os := by
  unfold insD
  have e := List.takeWhile_append_dropWhile (p := fun x : ObT => decide (x.id ≤ o.id)) (l := os)
  conv => rhs; rw [← e]
  simp only [List.mem_append, List.mem_cons]
  constructor
  · rintro (h | h | h)
    · exact .inr (.inl h)
    · exact .inl h
    · exact .inr (.inr h)
  · rintro (h | h | h)
    · exact .inr (.inl h)
    · exact .inl h
    · exact .inr (.inr h)
theorem ins_len (os : OL) (o : ObT) : (insD os o).length = os.length + 1 := by
  unfold insD
  have e := congrArg List.length (List.takeWhile_append_dropWhile (p := fun x : ObT => decide (x.id ≤ o.id)) (l := os))
  rw [List.length_append] at e
  rw [List.length_append, List.length_cons]; omega
theorem dropW_gt {os : OL} (h : os.Pairwise fun x y => x.id < y.id) (a : Int) : ∀ x ∈ os.dropWhile (fun x => decide (x.id ≤ a)), a < x.id := by
  induction os with
  | nil => intro x hx; cases hx
  | cons y r ih =>
    obtain ⟨h1, h2⟩ := List.pairwise_cons.1 h
    intro x hx
    by_cases hy : y.id ≤ a
    · rw [List.dropWhile_cons_of_pos (by simpa using hy)] at hx
      exact ih h2 x hx
    · rw [List.dropWhile_cons_of_neg (by simpa using hy)] at hx
      rcases List.mem_cons.1 hx with rfl | hx
      · omega
      · have := h1 x hx; omega
theorem takeW_le {os : OL} (a : Int) : ∀ x ∈ os.takeWhile (fun x => decide (x.id ≤ a)), x.id ≤ a := by
  induction os with
  | nil => intro x hx; cases hx
  | cons y r ih =>
    intro x hx
    by_cases hy : y.id ≤ a
    · rw [List.takeWhile_cons_of_pos (by simpa using hy)] at hx
      rcases List.mem_cons.1 hx with rfl | hx
      · exact hy
      · exact ih x hx
    · rw [List.takeWhile_cons_of_neg (by simpa using hy)] at hx; cases hx
theorem ins_asc {os : OL} {o : ObT} (h : os.Pairwise fun x y => x.id < y.id) (hne : ∀ x ∈ os, x.id ≠ o.id) : (insD os o).Pairwise fun x y => x.id < y.id := by
  unfold insD
  have hT := (List.takeWhile_sublist (l := os) fun x : ObT => decide (x.id ≤ o.id))
  have hD := (List.dropWhile_sublist (l := os) fun x : ObT => decide (x.id ≤ o.id))
  refine List.pairwise_append.2 ⟨h.sublist hT, List.pairwise_cons.2 ⟨fun x hx => dropW_gt h o.id x hx, h.sublist hD⟩, fun x hx y hy => ?_⟩
  have h1 := takeW_le o.id x hx
  have h2 := hne x (hT.subset hx)
  rcases List.mem_cons.1 hy with rfl | hy
  · omega
  · have := dropW_gt h o.id y hy; omega
theorem next_pos {S : ArT} (hS : S.Ok) {f : Int} (h : nextD S f ≠ 0) : 0 ≤ f ∧ f < S.n ∧ nextD S f = f + 1 + 64 * S.g f.toNat ∧ nextD S f ≤ 65535 ∧ 1 ≤ nextD S f := by
  unfold nextD at *
  have := hS.g1 f.toNat
  split at h
  · exact absurd rfl h
  split at h
  · exact absurd rfl h
  split at h
  · exact absurd rfl h
  rename_i h1 h2 h3
  rw [if_neg h1, if_neg h2, if_neg h3]
  refine ⟨by omega, by omega, rfl, by omega, by omega⟩
theorem next_new {S : ArT} (hS : S.Ok) {f : Int} (h : nextD S f ≠ 0) : ∀ x ∈ S.os, x.id ≠ nextD S f := by
  intro x hx he
  obtain ⟨f0, f1, f2, _⟩ := next_pos hS h
  obtain ⟨a0, a1, c, c0, c1, c2⟩ := hS.num x hx
  have := hS.n2
  have e : x.fi = f := by omega
  subst e
  omega
theorem addE_zero {S : ArT} {kd sz fi : Int} (h : addE S kd sz fi = 0) : framesD kd sz ≠ 0 ∧ 0 ≤ fi ∧ fi ≤ S.n - framesD kd sz ∧ (S.os.all fun o => apartD kd fi (framesD kd sz) o) = true ∧ nextD S fi ≠ 0 := by
  unfold addE at h
  split at h
  · omega
  split at h
  · omega
  split at h
  · omega
  split at h
  · omega
  rename_i h1 h2 h3 h4
  exact ⟨h1, by omega, by omega, by simpa using h3, h4⟩
theorem add_ok {S : ArT} (hS : S.Ok) (kd sz fi : Int) : (addD S kd sz fi).2.Ok := by
  unfold addD
  split
  · rename_i h
    obtain ⟨h1, h2, h3, h4, h5⟩ := addE_zero h
    obtain ⟨f0, f1, f2, f3, f4⟩ := next_pos hS h5
    have hg := hS.g1 fi.toNat
    refine ⟨hS.n1, hS.n2, fun j => ?_, ins_asc hS.asc (next_new hS h5), fun x hx => ?_, fun x hx => ?_⟩
    · show 0 ≤ upd S.g fi.toNat (S.g fi.toNat + 1) j ∧ upd S.g fi.toNat (S.g fi.toNat + 1) j ≤ 1024
      by_cases e : j = fi.toNat
      · subst e; rw [upd_same]; omega
      · rw [upd_other _ _ _ _ e]; exact hS.g1 j
    · rcases ins_mem.1 hx with rfl | hx
      · exact ⟨f4, f3⟩
      · exact hS.rng x hx
    · show 0 ≤ x.fi ∧ x.fi < S.n ∧ ∃ c : Int, 0 ≤ c ∧ c < upd S.g fi.toNat (S.g fi.toNat + 1) x.fi.toNat ∧ _
      rcases ins_mem.1 hx with rfl | hx
      · exact ⟨f0, f1, S.g fi.toNat, hg.1, by rw [show (newO S kd sz fi).fi.toNat = fi.toNat from rfl, upd_same]; omega, f2⟩
      · obtain ⟨a0, a1, c, c0, c1, c2⟩ := hS.num x hx
        refine ⟨a0, a1, c, c0, ?_, c2⟩
        by_cases e : x.fi.toNat = fi.toNat
        · rw [e, upd_same]; rw [e] at c1; omega
        · rw [upd_other _ _ _ _ e]; exact c1
  · exact hS
end Go.Proofs.YtgafamgacpglcaaGreat.Ar


/- Arena: Add, the walk. -/
-- GU
set_option linter.unusedVariables false
set_option linter.unusedSimpArgs false
namespace Go.Proofs.YtgafamgacpglcaaGreat.Ar
open Go.RowKit
set_option maxRecDepth 20000
set_option maxRecDepth 20000

abbrev erC (B : Nat) (x : Int) : Chunk := (B, .cells #[.int .i64 x] 39 (0, 0))
theorem add_e {S : ArT} {kd sz fi e : Int} (h : addE S kd sz fi = e) (h0 : e ≠ 0) : addD S kd sz fi = ((0, e), S) := by unfold addD; rw [h, if_neg h0]
theorem add_0 {S : ArT} {kd sz fi : Int} (h : addE S kd sz fi = 0) : addD S kd sz fi = ((nextD S fi, 0), { S with g := upd S.g fi.toNat (S.g fi.toNat + 1), os := insD S.os (newO S kd sz fi) }) := by unfold addD; rw [h, if_pos rfl]
theorem all_itm {os : OL} {p : ObT → Bool} (h : ∀ x, x ∈ itm os → p x.1 = true) : (os.all p) = true := by
  rw [List.all_eq_true]
  intro o ho
  obtain ⟨k, hk⟩ := List.getElem?_of_mem ho
  exact h (o, k) (List.mem_of_getElem? (i := k) (by rw [itm_get, hk]; rfl))
theorem all_not {os : OL} {p : ObT → Bool} {o : ObT} (ho : o ∈ os) (h : p o = false) : (os.all p) = false := by
  cases e : os.all p with
  | false => rfl
  | true => rw [List.all_eq_true] at e; rw [e o ho] at h; cases h
theorem ocs_cut {os : OL} {k : Nat} (hk : k ≤ os.length) : (ocs os).take (k * 9) = ocs (os.take k) ∧ (ocs os).drop (k * 9) = ocs (os.drop k) := by
  have e : ocs os = ocs (os.take k) ++ ocs (os.drop k) := by rw [← ocs_app, List.take_append_drop]
  have hl : (ocs (os.take k)).length = k * 9 := by rw [ocs_l, List.length_take]; omega
  exact ⟨by rw [e, List.take_left' hl], by rw [e, List.drop_left' hl]⟩
theorem Keep.appL (X : List Chunk) {A B : List Chunk} (h : Keep A B) : Keep (X ++ A) (X ++ B) := by
  obtain ⟨r, p⟩ := h
  exact ⟨r, (List.Perm.append_left X p).trans (List.perm_append_comm_assoc X r B)⟩
theorem insert_mid (X : List Chunk) (v : Value) (n i bl : Nat) (xs ws : List Value) (cs F : List Chunk) (ho : OwnSl 156 9 v n xs cs) (hi : i ≤ n) (hw : ws.length = 9) (h1 : ∀ u ∈ ws, u.oneCell' = true) (hx1 : ∀ u ∈ xs, u.oneCell' = true) (hne : ∀ c, c ∈ cs → c.1 ≠ bl) (hn : n ≤ 90000) :
    Fn Tryz.prog 105 [v, .int .i64 (i : Nat), .slice (some ⟨bl, 0, none⟩) 1 1] ((bl, .cells (List.toArray ws) 156 (0, 0)) :: (X ++ (cs ++ F))) fun v' l' => ∃ c2, OwnSl 156 9 v' (n + 1) (xs.take (i * 9) ++ ws ++ xs.drop (i * 9)) c2 ∧ l' = X ++ (c2 ++ F) :=
  Fn.re (Keep.appL [_] (Keep.in_mid X cs F)) (insert_any v n i bl xs ws cs (X ++ F) ho hi hw h1 hx1 hne hn) fun v' l' ⟨c2, h2, e⟩ => ⟨X ++ (c2 ++ F), by rw [e]; exact Keep.in_mid c2 X F, c2, h2, rfl⟩
theorem drop_le {os : OL} {k : Nat} {I : Int} (h : os.Pairwise fun x y => x.id < y.id) (hk : k ≤ os.length) (hn : ¬ ∃ o, 0 < k ∧ os[k - 1]? = some o ∧ o.id > I) : ∀ x ∈ os.take k, x.id ≤ I := by
  intro x hx
  obtain ⟨j, hj⟩ := List.getElem?_of_mem hx
  rw [List.getElem?_take] at hj
  split at hj
  · rename_i hjk
    obtain ⟨o, ho⟩ : ∃ o, os[k - 1]? = some o := ⟨_, List.getElem?_eq_getElem (by omega)⟩
    have h1 : o.id ≤ I := by
      by_cases h : o.id > I
      · exact absurd ⟨o, by omega, ho, h⟩ hn
      · omega
    by_cases e : j = k - 1
    · subst e; rw [ho] at hj; cases hj; exact h1
    · have := asc_get h hj ho (by omega); omega
  · cases hj
set_option pp.deepTerms false
set_option pp.deepTerms.threshold 4
set_option maxHeartbeats 400000
theorem add_any (b : Nat) (S : ArT) (lq : List Chunk) (hA : IsA b S lq) (kd sz fi : Int) (F : List Chunk) :
    Fn Tryz.prog 62 [.pointer (some ⟨b, 0, none⟩), .int .i64 kd, .int .i64 sz, .int .i64 fi] (lq ++ F) fun v l' => v = .tuple #[.int .i64 (addD S kd sz fi).1.1, .int .i64 (addD S kd sz fi).1.2] ∧ ∃ lq', IsA b (addD S kd sz fi).2 lq' ∧ l' = lq' ++ F := by
  have hA' := hA
  have hlen := hA.ok.len
  obtain ⟨hok, v, cs, rfl, ho⟩ := hA
  have hn1 := hok.n1
  have hn2 := hok.n2
  obtain ⟨gb, hrow, hcs⟩ := rowV_of ho
  have c0 := arL_n S.n S.g v
  have hm : arC b S.n S.g v ∈ arC b S.n S.g v :: cs ++ F := .head _
  obtain ⟨L, hL⟩ : ∃ L, arC b S.n S.g v :: cs ++ F = L := ⟨_, rfl⟩
  have hsub : ∀ c, c ∈ arC b S.n S.g v :: cs → c ∈ L := fun c hc => by rw [← hL]; exact List.mem_append_left _ hc
  rw [hL] at hm ⊢
  obtain ⟨N, hN⟩ : ∃ N, framesD kd sz = N := ⟨_, rfl⟩
  have hNr := frames_rng kd sz
  rw [hN] at hNr
  refine fn_of_body Tryz.func62 rfl rfl fun E => ?_
  simp only [argF, Tryz.ntmps62]
  refine gzU ?_
  (first | refine t_e (e_box1 rfl rfl) rfl rfl rfl ?_ | refine t_e (e_boxA rfl) rfl rfl rfl ?_); rintro _ _ ⟨b5, _, rfl, rfl⟩
  refine gzU ?_
  (first | refine t_e (e_box1 rfl rfl) rfl rfl rfl ?_ | refine t_e (e_boxA rfl) rfl rfl rfl ?_); rintro _ _ ⟨b7, _, rfl, rfl⟩
  refine gzU ?_
  refine t_e e_alloc rfl rfl rfl ?_; rintro _ _ ⟨b8, _, rfl, rfl⟩
  refine gzU ?_
  refine t_e e_alloc rfl rfl rfl ?_; rintro _ _ ⟨b9, _, rfl, rfl⟩
  refine gzU ?_
  refine t_q (q_call rfl rfl fun l2 _ => frames_any kd sz l2) rfl rfl rfl ?_
  rw [hN]
  refine gzU ?_
  refine t_e e_alloc rfl rfl rfl ?_; rintro _ _ ⟨b10, _, rfl, rfl⟩
  refine gzU ?_
  by_cases h1 : N = 0
  · refine gzU ?_
    have e := add_e (S := S) (fi := fi) (show addE S kd sz fi = 2 by unfold addE; rw [hN, if_pos h1]) (by decide)
    refine k_ret2 [] (inC b10 N :: erC b9 2 :: inC b8 0 :: inC b7 fi :: inC b5 kd :: L) rfl (l' := L) .refl (by exact zRes) (.drop (.drop (.drop (.drop (.drop .refl))))) ⟨by rw [e]; rfl, _, by rw [e]; exact hA', hL.symm⟩
  refine gzU ?_
  refine c_draw [(0, true), (1, true), (2, true), (3, true), (4, true), (5, true), (6, true), (7, true), (8, true), (9, true), (10, true), (11, true), (12, true)] [[], [0], [0, 1], [0, 1, 2], [0, 1, 2], [0, 1, 2, 4], [0, 1, 2, 4, 5], [0, 1, 2, 4, 5, 6], [0, 1, 2], [0, 1, 2, 4, 5, 6, 7, 8], [0, 1, 2, 3, 4, 5, 6, 7, 8, 9], [0, 1, 2, 3, 4, 5, 6, 7, 8, 9, 10], [0, 1, 2, 3, 4, 5, 6, 7, 8, 9, 10, 11]] _ (by kernel_rfl) (by kernel_rfl) zAtt (fun _ h => h) ?_
  by_cases h2 : fi < 0
  · refine pzU ?_
    refine gzU ?_
    have e := add_e (show addE S kd sz fi = 3 by unfold addE; rw [hN, if_neg h1, if_pos (.inl h2)]) (by decide)
    refine k_ret2 [] (inC b10 N :: erC b9 3 :: inC b8 0 :: inC b7 fi :: inC b5 kd :: L) rfl (l' := L) .refl (by exact zRes) (.drop (.drop (.drop (.drop (.drop .refl))))) ⟨by rw [e]; rfl, _, by rw [e]; exact hA', hL.symm⟩
  by_cases h3 : fi > S.n - N
  · refine pzU ?_
    refine gzU ?_
    have e := add_e (show addE S kd sz fi = 3 by unfold addE; rw [hN, if_neg h1, if_pos (.inr h3)]) (by decide)
    refine k_ret2 [] (inC b10 N :: erC b9 3 :: inC b8 0 :: inC b7 fi :: inC b5 kd :: L) rfl (l' := L) .refl (by exact zRes) (.drop (.drop (.drop (.drop (.drop .refl))))) ⟨by rw [e]; rfl, _, by rw [e]; exact hA', hL.symm⟩
  refine pzU ?_
  refine gzU ?_
  refine t_e (e_call0 rfl rfl (each_any _ rfl _)) rfl rfl rfl ?_
  rintro _ _ ⟨B, rfl, rfl⟩
  refine gzU ?_
  refine c_range (α := ObT × Nat) (ps := [38, 39]) (lb := [.pointer (some ⟨B, 0, none⟩)]) rfl (each_iter B b S.n S.g v S.os gb hrow (by omega)) (fun _ => rfl) rfl
    (fun pre l => l = [xB B (some ⟨b, 0, none⟩), inC b10 N, erC b9 0, inC b8 0, inC b7 fi, inC b5 kd] ∧ ∀ x, x ∈ pre → apartD kd fi N x.1 = true)
    (fun c pre l => c = .ret ∧ ∃ (pre' : List (ObT × Nat)) (x : ObT × Nat), pre = pre' ++ [x] ∧ apartD kd fi N x.1 = false ∧ l = [erC b9 16, inC b8 0])
    _ L (fun pre l2 X2 hX h => ⟨by rw [h.1]; exact List.Mem.head _, List.mem_append_right _ (hX _ (hsub _ (.head _)))⟩) (by exact zKeep) ⟨rfl, by simp⟩ ?_ ?_ ?_
  · rintro E r0 rec pre ⟨o, k⟩ l' T ⟨fn, tmps, D, rfl⟩ hT ⟨rfl, hpre⟩ hsp
    obtain ⟨ho1, _, _⟩ := itm_pre hsp
    simp only at ho1
    obtain ⟨sp, hcse⟩ := hcs _ _ ho1
    have hmT := hT _ (hsub _ (.tail _ (by rw [hcse]; exact .head _)))
    simp only [putPs, List.cons_append, List.nil_append]
    refine gzU ?_
    refine p_begin (by exact zUpd) ?_
    refine gzU ?_
    refine t_q (q_call rfl rfl fun l2 hl => apart_any kd fi N o gb (k * 9) _ _ _ l2 (hl _ (.tail _ (.tail _ (.tail _ (.tail _ (.tail _ (.tail _ (.tail _ hmT)))))))) (ocs_at ho1 sp)) rfl rfl rfl ?_
    cases hap : apartD kd fi N o with
    | false =>
      refine gzU ?_
      refine p_round_ret [erC b9 16, inC b8 0] (by exact zKeep) ⟨rfl, pre, (o, k), rfl, hap, rfl⟩
    | true =>
      refine gzU ?_
      refine p_round _ .refl ⟨rfl, fun x hx => ?_⟩
      rcases List.mem_append.1 hx with hx | hx
      · exact hpre x hx
      · rw [List.mem_singleton.1 hx]; exact hap
  · rintro D xs l' rfl ⟨rfl, hpre⟩
    simp only [List.cons_append, List.nil_append]
    refine gzU ?_
    refine t_q (q_call rfl rfl fun l2 hl => next_any b S _ hA' fi l2 (fun c hc => hl _ (.tail _ (.tail _ (.tail _ (.tail _ (.tail _ (.tail _ (.tail _ (hsub c hc))))))))) ) rfl rfl rfl ?_
    have hall := all_itm (p := fun o => apartD kd fi N o) hpre
    by_cases h4 : nextD S fi = 0
    · rw [h4]
      refine gzU ?_
      have e := add_e (show addE S kd sz fi = 11 by unfold addE; rw [hN, if_neg h1, if_neg (by omega), if_neg (by rw [hall]; decide), if_pos h4]) (by decide)
      exact k_ret2 [D] (inC b10 N :: erC b9 11 :: inC b8 0 :: inC b7 fi :: inC b5 kd :: L) rfl (l' := L) (by exact zKeep) (by exact zRes) (.drop (.drop (.drop (.drop (.drop .refl))))) ⟨by rw [e]; rfl, _, by rw [e]; exact hA', hL.symm⟩
    have hE : addE S kd sz fi = 0 := by unfold addE; rw [hN, if_neg h1, if_neg (by omega), if_neg (by rw [hall]; decide), if_neg h4]
    obtain ⟨f0, f1, f2, f3, f4⟩ := next_pos hok h4
    obtain ⟨I, hI⟩ : ∃ I, nextD S fi = I := ⟨_, rfl⟩
    rw [hI] at f2 f3 f4 h4 ⊢
    obtain ⟨j, rfl⟩ : ∃ j : Nat, fi = j := ⟨fi.toNat, by omega⟩
    have hj : j < 64 := by omega
    rw [Int.toNat_natCast] at f2
    have cg := arL_g S.n S.g v hj
    have hg := hok.g1 j
    have hOk := add_ok hok kd sz j
    rw [add_0 hE] at hOk ⊢
    rw [hI, Int.toNat_natCast] at hOk ⊢
    rw [← hL]
    obtain ⟨p, cap, rfl, hp⟩ : ∃ p cap, v = .slice p S.os.length cap ∧ (0 < S.os.length → p = some ⟨gb, 0, none⟩) := by
      rcases hrow with ⟨h, h0⟩ | ⟨cap, h⟩
      · exact ⟨none, 0, by rw [h, h0], fun h => by omega⟩
      · exact ⟨_, cap, h, fun _ => rfl⟩
    clear hsub hm hL hA'
    refine gzU ?_
    refine c_draw [(0, true), (1, true), (2, true), (3, true), (4, true), (5, true), (6, true), (7, true), (8, true), (9, true), (10, false)] [[], [], [0], [0, 2], [0, 1, 2, 3], [0, 1, 2, 3, 4], [0, 1, 2, 3, 4, 5], [0], [0, 7], [0, 1, 2, 3, 4, 5, 6, 7, 8], [0, 1, 2, 3, 4, 5, 6, 7, 8, 9]] ([]) (by kernel_rfl) (by kernel_rfl) zAtt zHR ?_
    refine pzU ?_
    apply pl_s (S := [inC b7 (j : Nat)]); (· exact zLd); (· exact sing_mem (.tail _ (.tail _ (.tail _ (.tail _ (.tail _ (.head _))))))); (· rfl); (· rfl); (· rfl)
    refine pzU ?_
    apply pl_s (S := [arC b S.n S.g (.slice p S.os.length cap)])
    · exact q_load rfl (.head _) cg
    · exact sing_mem (.tail _ (.tail _ (.tail _ (.tail _ (.tail _ (.tail _ (.tail _ (.head _))))))))
    · rfl
    · rfl
    · rfl
    refine pzU ?_
    apply pl_nS
    · exact e_store (b := b) (off := 1 + j * 1) (cs := List.toArray (arL S.n S.g (.slice p S.os.length cap))) rfl rfl rfl (by rw [arL_setG _ _ _ hj]; exact zUpd) (by rw [List.size_toArray, arL_len]; omega)
    (· rfl); (· rfl); (· intro _ _ _ c hc; cases hc); (· exact fun _ _ _ x hx ha => anc_all (by kernel_rfl) hx ha)
    rintro _ _ ⟨rfl, rfl⟩
    obtain ⟨g', hg'⟩ : ∃ g', upd S.g j (S.g j + 1) = g' := ⟨_, rfl⟩
    rw [hg'] at hOk ⊢
    have cl := arL_l S.n g' (.slice p S.os.length cap)
    refine pzU ?_
    refine gzU ?_
    refine k_loop (α := Nat) (fun k => [(0, .pointer (some ⟨b, 0, none⟩)), (2, .int .i64 sz), (5, .pointer (some ⟨b5, 0, none⟩)), (7, .pointer (some ⟨b7, 0, none⟩)), (8, .pointer (some ⟨b8, 0, none⟩)), (9, .pointer (some ⟨b9, 0, none⟩)), (10, .pointer (some ⟨b10, 0, none⟩)), (13, .int .i64 I), (14, .int .i64 k)])
      (fun k => markC D :: xB B (some ⟨b, 0, none⟩) :: inC b10 N :: erC b9 0 :: inC b8 0 :: inC b7 (j : Nat) :: inC b5 kd :: arC b S.n g' (.slice p S.os.length cap) :: (cs ++ F)) (fun k => k ≤ S.os.length ∧ ∀ x ∈ S.os.drop k, ¬ x.id ≤ I) (fun k => k) S.os.length ⟨Nat.le_refl _, by simp⟩ ⟨rfl, rfl, rfl, rfl, rfl, rfl, rfl, rfl, rfl, trivial⟩ .refl ?_
    rintro k ⟨hk, hd⟩
    by_cases hnx : ∃ o, 0 < k ∧ S.os[k - 1]? = some o ∧ o.id > I
    · obtain ⟨o, hk0, ho1, hoI⟩ := hnx
      obtain ⟨k, rfl⟩ : ∃ q, k = q + 1 := ⟨k - 1, by omega⟩
      rw [Nat.add_sub_cancel] at ho1
      obtain ⟨sp, hcse⟩ := hcs _ _ ho1
      have hpp := hp (by omega)
      have co : (List.toArray (ocs S.os ++ sp))[k * 9]? = some (.int .i64 o.id) := ocs_at ho1 sp 0 (by omega)
      rw [hpp] at cl ⊢
      refine gzU ?_
      refine t_gq (q_load (v := .int .i64 o.id) (cs := List.toArray (ocs S.os ++ sp)) rfl (.tail _ (.tail _ (.tail _ (.tail _ (.tail _ (.tail _ (.tail _ (.tail _ (List.mem_append_left _ (by rw [hcse]; exact .head _)))))))))) ?_) rfl rfl rfl rfl rfl rfl ?_
      · rw [show ((((k + 1 : Nat)) : Int) - 1).toNat = k by omega, Nat.zero_add]; exact co
      refine gzU ?_
      rw [show (((k + 1 : Nat)) : Int) - 1 = (k : Nat) by omega, ← hpp]
      refine k_next k ⟨by omega, fun x hx => ?_⟩ (by omega) ⟨rfl, rfl, rfl, rfl, rfl, rfl, rfl, rfl, rfl, trivial⟩ .refl
      rw [List.drop_eq_getElem_cons (by omega)] at hx
      rcases List.mem_cons.1 hx with rfl | hx
      · rw [(List.getElem?_eq_some_iff.1 ho1).2]; omega
      · exact hd x hx
    · have hT := drop_le hok.asc hk hnx
      have hins := ins_at (o := newO S kd sz j) hk (fun x hx => by show x.id ≤ nextD S j; rw [hI]; exact hT x hx) (fun x hx => by show ¬ x.id ≤ nextD S j; rw [hI]; exact hd x hx)
      have hnewO : newO S kd sz j = ⟨I, kd, sz, j, N, 0, 0, 0, 0⟩ := by unfold newO; rw [hI, hN]
      rw [hnewO] at hins hOk ⊢
      obtain ⟨ob, hob⟩ : ∃ ob : ObT, ob = ⟨I, kd, sz, j, N, 0, 0, 0, 0⟩ := ⟨_, rfl⟩
      have hobC : obC ob = [.int .i64 I, .int .i64 kd, .int .i64 sz, .int .i64 j, .int .i64 N, .int .i64 0, .int .i64 0, .int .i64 0, .int .i64 0] := by rw [hob]
      rw [← hob] at hins hOk ⊢
      have hX : ∀ x : Chunk, x ∈ [inC b5 kd, inC b7 (j : Nat), inC b10 N, arC b S.n g' (.slice p S.os.length cap)] → x ∈ markC D :: xB B (some ⟨b, 0, none⟩) :: inC b10 N :: erC b9 0 :: inC b8 0 :: inC b7 (j : Nat) :: inC b5 kd :: arC b S.n g' (.slice p S.os.length cap) :: (cs ++ F) := by
        intro x hx
        simp only [List.mem_cons, List.not_mem_nil, or_false] at hx ⊢
        rcases hx with rfl | rfl | rfl | rfl <;> simp only [true_or, or_true]
      have hbl2 : ∀ bl, (∀ c, c ∈ markC D :: xB B (some ⟨b, 0, none⟩) :: inC b10 N :: erC b9 0 :: inC b8 0 :: inC b7 (j : Nat) :: inC b5 kd :: arC b S.n g' (.slice p S.os.length cap) :: (cs ++ F) → c.1 ≠ bl) → ∀ c, c ∈ cs → c.1 ≠ bl := fun bl h c hc => h c (.tail _ (.tail _ (.tail _ (.tail _ (.tail _ (.tail _ (.tail _ (.tail _ (List.mem_append_left _ hc)))))))))
      rcases Nat.eq_zero_or_pos k with hk0 | hk0
      case' inl =>
        refine gzU ?_
      case' inr =>
        obtain ⟨q, hq⟩ : ∃ q, k = q + 1 := ⟨k - 1, by omega⟩
        obtain ⟨o, ho1⟩ : ∃ o, S.os[q]? = some o := ⟨_, List.getElem?_eq_getElem (by omega)⟩
        have hoI : ¬ o.id > I := fun h => hnx ⟨o, by omega, by rw [hq]; exact ho1, h⟩
        obtain ⟨sp, hcse⟩ := hcs _ _ ho1
        have hpp := hp (by omega)
        have co : (List.toArray (ocs S.os ++ sp))[q * 9]? = some (.int .i64 o.id) := ocs_at ho1 sp 0 (by omega)
        rw [hpp] at cl ⊢
        refine gzU ?_
        refine t_gq (q_load (v := .int .i64 o.id) (cs := List.toArray (ocs S.os ++ sp)) rfl (.tail _ (.tail _ (.tail _ (.tail _ (.tail _ (.tail _ (.tail _ (.tail _ (List.mem_append_left _ (by rw [hcse]; exact .head _)))))))))) ?_) rfl rfl rfl rfl rfl rfl ?_
        · rw [show (((k : Nat) : Int) - 1).toNat = q by omega, Nat.zero_add]; exact co
        refine gzU ?_
        rw [← hpp] at cl ⊢
      all_goals
        refine c_draw [(0, true), (1, true), (2, true), (3, true), (4, true), (5, true), (6, true), (7, true), (8, true), (9, true), (10, true), (11, true), (12, false), (13, false), (14, true), (15, true), (16, false)] [[], [], [1], [1, 2], [1, 2, 3], [], [], [], [], [], [], [6, 7, 8, 9, 10], [6, 7, 8, 9, 10, 11], [1, 2, 3, 4, 5, 6, 7, 8, 9, 10, 11, 12], [0, 1, 2, 3, 4, 5, 6, 7, 8, 9, 10, 11, 12, 13], [0, 1, 2, 3, 4, 5, 6, 7, 8, 9, 10, 11, 12, 13, 14], [0, 1, 2, 3, 4, 5, 6, 7, 8, 9, 10, 11, 12, 13, 14, 15]] ([]) (by kernel_rfl) (by kernel_rfl) zAtt zHR ?_
        refine pzU ?_
        apply pl_s (S := [arC b S.n g' (.slice p S.os.length cap)])
        · exact q_load rfl (.head _) cl
        · exact sing_mem (hX _ (.tail _ (.tail _ (.tail _ (.head _)))))
        · rfl
        · rfl
        · rfl
        refine pzU ?_
        apply pl_s (S := [inC b5 kd]); (· exact zLd); (· exact sing_mem (hX _ (.head _))); (· rfl); (· rfl); (· rfl)
        refine pzU ?_
        apply pl_s (S := [inC b7 (j : Nat)]); (· exact zLd); (· exact sing_mem (hX _ (.tail _ (.head _)))); (· rfl); (· rfl); (· rfl)
        refine pzU ?_
        apply pl_s (S := [inC b10 N]); (· exact zLd); (· exact sing_mem (hX _ (.tail _ (.tail _ (.head _))))); (· rfl); (· rfl); (· rfl)
        refine pzU ?_
        apply pl_eS
        · apply e_litA (ws := obC ob) (k := 9)
          · rw [hobC]; rfl
          · rfl
          · rfl
          · decide
          · decide
        · rfl
        · rfl
        · rfl
        · intro _ _ _ c hc; cases hc
        · rintro _ _ ⟨bl, _, rfl, rfl⟩ x hx _ c hc
          refine .tail _ (hX _ ?_)
          simp only [List.mem_cons, List.not_mem_nil, or_false] at hx
          rcases hx with rfl | rfl | rfl | rfl <;> simp only [List.mem_cons, List.not_mem_nil, or_false] at hc <;> subst hc <;> simp only [List.mem_cons, true_or, or_true]
        rintro _ _ ⟨bl, hbl, rfl, rfl⟩
        refine pzU ?_
        apply pl_eS
        · exact e_call0 rfl rfl (insert_mid [markC D, xB B (some ⟨b, 0, none⟩), inC b10 N, erC b9 0, inC b8 0, inC b7 (j : Nat), inC b5 kd, arC b S.n g' (.slice p S.os.length cap)] (.slice p S.os.length cap) S.os.length k bl (ocs S.os) (obC ob) cs F ho hk rfl (by simp [Value.oneCell']) (ocs_one _) (hbl2 bl hbl) (by omega))
        · rfl
        · rfl
        · rfl
        · intro _ _ _ c hc; cases hc
        · exact fun _ _ _ x hx ha => anc_all (by kernel_rfl) hx ha
        rintro v' _ ⟨c2, ho2, rfl⟩
        have hv1 : v'.oneCell' = true := ho2.one
        simp only [List.cons_append, List.nil_append]
        refine pzU ?_
        apply pl_nS
        · exact e_store (b := b) (off := 65) (cs := List.toArray (arL S.n g' (.slice p S.os.length cap))) rfl rfl hv1 (by rw [arL_setL]; exact zUpd) (by rw [List.size_toArray, arL_len]; omega)
        (· rfl); (· rfl); (· intro _ _ _ c hc; cases hc); (· exact fun _ _ _ x hx ha => anc_all (by kernel_rfl) hx ha)
        rintro _ _ ⟨rfl, rfl⟩
        refine pzU ?_
        refine gzU ?_
        rw [(ocs_cut hk).1, (ocs_cut hk).2] at ho2
        refine k_ret2 [D] (inC b10 N :: erC b9 0 :: inC b8 I :: inC b7 (j : Nat) :: inC b5 kd :: arC b S.n g' v' :: (c2 ++ F)) rfl (l' := arC b S.n g' v' :: (c2 ++ F)) (by exact zKeep) (by exact zRes) (.drop (.drop (.drop (.drop (.drop .refl))))) ⟨rfl, arC b S.n g' v' :: c2, ⟨hOk, v', c2, rfl, ?_⟩, rfl⟩
        show OwnSl 156 9 v' (insD S.os ob).length (ocs (insD S.os ob)) c2
        rw [ins_len, hins, ocs_app, show ocs (ob :: List.drop k S.os) = obC ob ++ ocs (List.drop k S.os) from rfl, ← List.append_assoc]
        exact ho2
  · rintro D c pre l' hsp ⟨rfl, pre', x, rfl, hap, rfl⟩
    obtain ⟨ho1, _, _⟩ := itm_pre hsp
    simp only [List.cons_append, List.nil_append]
    refine gzU ?_
    have e := add_e (show addE S kd sz fi = 16 by unfold addE; rw [hN, if_neg h1, if_neg (by omega), if_pos (all_not (List.mem_of_getElem? ho1) hap)]) (by decide)
    exact k_ret2 [D] (erC b9 16 :: inC b8 0 :: L) rfl (l' := L) (by exact zKeep) (by exact zRes) (.drop (.drop .refl)) ⟨by rw [e]; rfl, _, by rw [e]; exact hA', hL.symm⟩
end Go.Proofs.YtgafamgacpglcaaGreat.Ar


/- The statements' helpers for lists of numbers: Num, SameInts, OverInts. -/
set_option linter.unusedVariables false
set_option linter.unusedSimpArgs false
namespace Go.Proofs.YtgafamgacpglcaaGreat
open Go.RowKit
set_option maxRecDepth 20000

/-- v is a slice whose numbers xs can be read in l -/
def IntSl (l : List Chunk) (v : Value) (xs : List Int) : Prop :=
  ∃ a cap, v = .slice a xs.length cap ∧ (0 < xs.length → ∃ b off cs t fz, a = some ⟨b, off, none⟩ ∧ (b, Obj.cells cs t fz) ∈ l ∧ ∀ i x, xs[i]? = some x → cs[off + i * 1]? = some (.int .i64 x))
def intQ (x : Int) : Value := .int .i64 x
theorem OwnSl.intsQ {e : Nat} {v : Value} {xs : List Int} {cs l : List Chunk} (h : OwnSl e 1 v xs.length (xs.map intQ) cs) (hs : ∀ c, c ∈ cs → c ∈ l) : IntSl l v xs := by
  rcases h.2 with ⟨rfl, h0, rfl⟩ | ⟨b, cap, sp, rfl, rfl, _⟩
  · exact ⟨none, 0, by rw [h0], fun h => by omega⟩
  · refine ⟨_, cap, rfl, fun h0 => ⟨b, 0, _, e, (0, 0), rfl, hs _ List.mem_cons_self, fun i x hx => ?_⟩⟩
    have hlt := (List.getElem?_eq_some_iff.1 hx).1
    rw [Nat.zero_add, Nat.mul_one, List.getElem?_toArray, List.getElem?_append_left (by simpa using hlt), List.getElem?_map, hx]; rfl
end Go.Proofs.YtgafamgacpglcaaGreat


/- slices.Index and slices.Delete on lists of numbers that are owned. -/
set_option linter.unusedVariables false
set_option linter.unusedSimpArgs false
namespace Go.Proofs.YtgafamgacpglcaaGreat.Qu
open Go.RowKit
set_option maxRecDepth 20000

theorem idxOf_at (id : Int) : ∀ (xs : List Int) (k : Nat), xs[k]? = some id → (∀ j, j < k → xs[j]? ≠ some id) → xs.idxOf id = k ∧ id ∈ xs
  | [], k, h, _ => by simp at h
  | x :: xs, 0, h, _ => by
    simp only [List.getElem?_cons_zero, Option.some.injEq] at h
    subst h; simp
  | x :: xs, k + 1, h, hn => by
    have h0 : x ≠ id := fun e => hn 0 (by omega) (by simp [e])
    have ih := idxOf_at id xs k (by simpa using h) fun j hj => by simpa using hn (j + 1) (by omega)
    refine ⟨?_, List.mem_cons_of_mem _ ih.2⟩
    rw [List.idxOf_cons, show (x == id) = false by simpa using h0, ih.1]; rfl
def indexI (xs : List Int) (id : Int) : Int := if id ∈ xs then (xs.idxOf id : Nat) else -1
set_option pp.deepTerms false
set_option pp.deepTerms.threshold 4
set_option maxHeartbeats 400000
theorem index_any (v : Value) (xs : List Int) (id : Int) (l : List Chunk) (h1 : IntSl l v xs) (hx : xs.length ≤ 1000000) :
    Fn Tryz.prog 147 [v, .int .i64 id] l fun r l' => r = .int .i64 (indexI xs id) ∧ l' = l := by
  obtain ⟨a, ca, rfl, h1⟩ := h1
  refine fn_of_body Tryz.func147 rfl rfl fun E => ?_
  simp only [argF, Tryz.ntmps147]
  refine gz ?_
  refine k_loop (α := Nat) (fun k => [(0, .slice a xs.length ca), (1, .int .i64 id), (7, .int .i64 xs.length), (8, .int .i64 k)]) (fun k => l) (fun k => k ≤ xs.length ∧ ∀ j, j < k → xs[j]? ≠ some id) (fun k => xs.length - k) 0 ⟨Nat.zero_le _, fun j h => by omega⟩ ⟨rfl, rfl, rfl, rfl, trivial⟩ .refl ?_
  rintro k ⟨hk, hj⟩
  by_cases hlt : k < xs.length
  · obtain ⟨b, off, cs, t, fz, rfl, hm, hc⟩ := h1 (by omega)
    have g1 := hc k _ (List.getElem?_eq_getElem hlt)
    obtain ⟨x, hx0⟩ : ∃ x, xs[k] = x := ⟨_, rfl⟩
    rw [hx0] at g1
    have e1 : xs[k]? = some x := by rw [List.getElem?_eq_getElem hlt, hx0]
    by_cases hxy : id = x
    · subst hxy
      obtain ⟨i1, i2⟩ := idxOf_at id xs k e1 hj
      refine gz ?_
      refine k_ret [] rfl .refl (by exact zRes) ⟨?_, rfl⟩
      simp only [tup, indexI, if_pos i2, i1]
    · refine gz ?_
      exact k_next (k + 1) ⟨by omega, fun j hjk => by
        by_cases e : j = k
        · subst e; rw [e1]; intro h; exact hxy (by cases h; rfl)
        · exact hj j (by omega)⟩ (by omega) ⟨rfl, rfl, rfl, rfl, trivial⟩ .refl
  · obtain rfl : k = xs.length := by omega
    refine gz ?_
    refine k_ret [] rfl .refl (by exact zRes) ⟨?_, rfl⟩
    have : id ∉ xs := fun hm => by
      obtain ⟨j, hjl, hj2⟩ := List.getElem_of_mem hm
      exact hj j hjl (by rw [List.getElem?_eq_getElem hjl, hj2])
    simp only [tup, indexI, if_neg this]
end Go.Proofs.YtgafamgacpglcaaGreat.Qu


/- The queue as plain data and its blocks; the priorities that have some; at. -/
set_option linter.unusedVariables false
set_option linter.unusedSimpArgs false
namespace Go.Proofs.YtgafamgacpglcaaGreat.Qu
open Go.RowKit
set_option maxRecDepth 20000

def upd {α : Type} (f : Nat → α) (k : Nat) (v : α) : Nat → α := fun i => if i = k then v else f i
theorem upd_same {α : Type} (f : Nat → α) (k : Nat) (v : α) : upd f k v k = v := if_pos rfl
theorem upd_other {α : Type} (f : Nat → α) (k i : Nat) (v : α) (h : i ≠ k) : upd f k v i = f i := if_neg h
theorem upd_upd {α : Type} (f : Nat → α) (k : Nat) (v w : α) : upd (upd f k v) k w = upd f k w := by funext i; unfold upd; split <;> rfl
abbrev qC (b : Nat) (vs : Nat → Value) : Chunk := (b, .cells (Array.ofFn (n := 8) fun i => vs i.val) 209 (0, 0))
theorem qC_get (vs : Nat → Value) (p : Nat) (hp : p < 8) : (Array.ofFn (n := 8) fun i => vs i.val)[p * 1]? = some (vs p) := by simp [hp]
theorem qC_set (vs : Nat → Value) (p : Nat) (hp : p < 8) (v : Value) : (Array.ofFn (n := 8) fun i => vs i.val).setIfInBounds (p * 1) v = Array.ofFn (n := 8) fun i => upd vs p v i.val := by
  apply Array.ext_getElem?
  intro j
  rw [Nat.mul_one]
  by_cases hj : j < 8
  · by_cases e : p = j
    · subst e; rw [Array.getElem?_setIfInBounds_self_of_lt (by simpa using hp)]; simp [hp, upd_same]
    · rw [Array.getElem?_setIfInBounds_ne e]; simp [hj, upd_other _ _ _ _ (Ne.symm e)]
  · rw [Array.getElem?_eq_none (by simpa using hj), Array.getElem?_eq_none (by simpa using hj)]
def csTo (cs : Nat → List Chunk) : Nat → List Chunk
  | 0 => []
  | k + 1 => cs k ++ csTo cs k
theorem csTo_congr {cs cs' : Nat → List Chunk} : ∀ k, (∀ i, i < k → cs i = cs' i) → csTo cs k = csTo cs' k
  | 0, _ => rfl
  | k + 1, h => by rw [csTo, csTo, h k (by omega), csTo_congr k fun i hi => h i (by omega)]
theorem csTo_split (cs : Nat → List Chunk) (p : Nat) : ∀ k, p < k → (csTo cs k).Perm (cs p ++ csTo (upd cs p []) k)
  | 0, h => by omega
  | k + 1, h => by
    by_cases e : p = k
    · subst e
      rw [csTo, csTo, upd_same, List.nil_append, csTo_congr p fun i hi => (upd_other cs p i [] (by omega)).symm]
    · rw [csTo, csTo, upd_other _ _ _ _ (Ne.symm e)]
      exact ((csTo_split cs p k (by omega)).append_left _).trans (List.perm_append_comm_assoc _ _ _)
theorem csTo_mem (cs : Nat → List Chunk) (p : Nat) (c : Chunk) (hc : c ∈ cs p) : ∀ k, p < k → c ∈ csTo cs k
  | 0, h => by omega
  | k + 1, h => by
    rw [csTo, List.mem_append]
    by_cases e : p = k
    · subst e; exact .inl hc
    · exact .inr (csTo_mem cs p c hc k (by omega))
/-- lq holds a queue whose lists are X, at b -/
structure QS (X : Nat → List Int) (vs : Nat → Value) (cs : Nat → List Chunk) : Prop where
  own : ∀ p, p < 8 → OwnSl 3 1 (vs p) (X p).length ((X p).map intQ) (cs p)
theorem QS.upd {X : Nat → List Int} {vs : Nat → Value} {cs : Nat → List Chunk} (h : QS X vs cs) (p : Nat) (ys : List Int) (v : Value) (c : List Chunk) (ho : OwnSl 3 1 v ys.length (ys.map intQ) c) : QS (upd X p ys) (upd vs p v) (upd cs p c) := ⟨fun q hq => by
  by_cases e : q = p
  · subst e; rw [upd_same, upd_same, upd_same]; exact ho
  · rw [upd_other _ _ _ _ e, upd_other _ _ _ _ e, upd_other _ _ _ _ e]; exact h.own q hq⟩
def IsQ (b : Nat) (X : Nat → List Int) (lq : List Chunk) : Prop := ∃ vs cs, QS X vs cs ∧ lq = qC b vs :: csTo cs 8
theorem QS.ints {X : Nat → List Int} {vs : Nat → Value} {cs : Nat → List Chunk} (h : QS X vs cs) (p : Nat) (hp : p < 8) (l : List Chunk) (hs : ∀ c, c ∈ csTo cs 8 → c ∈ l) : IntSl l (vs p) (X p) := (h.own p hp).intsQ fun c hc => hs c (csTo_mem cs p c hc 8 hp)

/-- the priorities from 7 down to m at which ne holds -/
def fallT (ne : Nat → Bool) (m : Nat) : List Nat := ((List.range (8 - m)).map (7 - ·)).filter ne
theorem fallT_succ (ne : Nat → Bool) (p : Nat) (hp : p < 8) : fallT ne p = fallT ne (p + 1) ++ if ne p then [p] else [] := by
  unfold fallT
  rw [show 8 - p = (8 - (p + 1)) + 1 by omega, List.range_succ, List.map_append, List.filter_append]
  congr 1
  simp only [List.map_cons, List.map_nil, show 7 - (8 - (p + 1)) = p by omega, List.filter_cons, List.filter_nil]
theorem fallT_pre (ne : Nat → Bool) : ∀ (d m : Nat), m + d ≤ 8 → fallT ne (m + d) <+: fallT ne m
  | 0, m, _ => List.prefix_rfl
  | d + 1, m, h => by
    rw [← Nat.add_assoc, show m + d + 1 = (m + d) + 1 from rfl]
    refine List.IsPrefix.trans ?_ (fallT_pre ne d m (by omega))
    rw [fallT_succ ne (m + d) (by omega)]
    exact List.prefix_append _ _
theorem fallT_mem (ne : Nat → Bool) (m p : Nat) : p ∈ fallT ne m ↔ m ≤ p ∧ p < 8 ∧ ne p = true := by
  unfold fallT
  simp only [List.mem_filter, List.mem_map, List.mem_range]
  constructor
  · rintro ⟨⟨i, hi, rfl⟩, h⟩; exact ⟨by omega, by omega, h⟩
  · rintro ⟨h1, h2, h3⟩; exact ⟨⟨7 - p, by omega, by omega⟩, h3⟩

set_option pp.deepTerms false
set_option pp.deepTerms.threshold 4
set_option maxHeartbeats 400000
theorem falling_any (pv : Option Addr) (l : List Chunk) : Fn Tryz.prog 85 [.pointer pv] l fun v l' => ∃ B, (∀ c, c ∈ l → c.1 ≠ B) ∧ v = .func (.func 131) #[] #[.pointer (some ⟨B, 0, none⟩)] ∧ l' = (B, .cells #[.pointer pv] 91 (0, 0)) :: l := by
  refine fn_of_body Tryz.func85 rfl rfl fun E => ?_
  simp only [argF, Tryz.ntmps85]
  refine gz ?_
  refine t_e (e_box1 rfl rfl) rfl rfl rfl ?_
  rintro _ _ ⟨B, hB, rfl, rfl⟩
  refine gz ?_
  exact k_ret [] rfl .refl (by exact zRes) ⟨B, hB, rfl, rfl⟩
theorem fall_iter (B b : Nat) (vs : Nat → Value) (ns : Nat → Nat) (hv : ∀ p, p < 8 → ∃ a cap, vs p = .slice a (ns p) cap) : IterS Tryz.prog 131 [.pointer (some ⟨B, 0, none⟩)] (fun p : Nat => [.int .i64 (p : Nat), vs p]) (fun xs => xs = fallT (fun p => ns p != 0) 0) (fun pre => pre <+: fallT (fun p => ns p != 0) 0)
    (fun _ l => (B, .cells #[.pointer (some ⟨b, 0, none⟩)] 91 (0, 0)) ∈ l ∧ qC b vs ∈ l) := by
  obtain ⟨ne, hne⟩ : ∃ ne, (fun p => ns p != 0) = ne := ⟨_, rfl⟩
  rw [hne]
  have hne' : ∀ p, ne p = (ns p != 0) := fun p => by rw [← hne]
  refine ⟨fun r I Ix G0 hneed hY l G hG h0 => ?_⟩
  refine fn_of_body Tryz.func131 rfl rfl fun E => ?_
  simp only [argF, Tryz.ntmps131]
  obtain ⟨hm1, hm2⟩ := hneed _ _ G hG h0
  refine gz ?_
  refine k_loop (α := Nat × List Chunk) (fun x => [(0, .func (.yield r) #[] #[]), (1, .pointer (some ⟨B, 0, none⟩)), (3, .int .i64 ((x.1 : Nat) - 1))]) (fun x => x.2 ++ G) (fun x => x.1 ≤ 8 ∧ I (fallT ne x.1) x.2) (fun x => x.1) (8, l) ⟨by simp, h0⟩ ⟨rfl, rfl, rfl, trivial⟩ .refl ?_
  clear hm1 hm2
  rintro ⟨k, l⟩ ⟨hk, hI⟩
  simp only at hk hI ⊢
  cases k with
  | zero =>
    refine gz ?_
    exact k_ret [] rfl .refl (by exact zRes) ⟨l, rfl, .inl ⟨_, rfl, hI⟩⟩
  | succ p =>
    rw [show ((p + 1 : Nat) : Int) - 1 = (p : Int) by omega]
    obtain ⟨hm1, hm2⟩ := hneed _ _ G hG hI
    obtain ⟨a, cap, hvp⟩ := hv p (by omega)
    have hg := qC_get vs p (by omega)
    rw [hvp] at hg
    have e1 := fallT_succ ne p (by omega)
    by_cases hz : ns p = 0
    · rw [show ne p = false by rw [hne', hz]; rfl] at e1
      simp only [Bool.false_eq_true, if_false, List.append_nil] at e1
      refine gz ?_
      exact k_next (p, l) ⟨by simp only; omega, by simp only; rw [e1]; exact hI⟩ (by simp) ⟨rfl, rfl, rfl, trivial⟩ .refl
    · rw [show ne p = true by rw [hne']; simpa using hz] at e1
      simp only [if_true] at e1
      have hsp : fallT ne (p + 1) ++ [p] <+: fallT ne 0 := by
        rw [← e1]; have := fallT_pre ne p 0 (by omega); rwa [Nat.zero_add] at this
      have hy := hY (fallT ne (p + 1)) p l G hG hI hsp
      rw [← e1, hvp] at hy
      refine gz ?_
      refine t_e (e_yield rfl rfl hy) rfl rfl rfl ?_
      rintro v l' ⟨l1, rfl, ⟨rfl, hI'⟩ | ⟨rfl, hx⟩⟩
      · refine gz ?_
        exact k_next (p, l1) ⟨by simp only; omega, hI'⟩ (by simp) ⟨rfl, rfl, rfl, trivial⟩ .refl
      · refine gz ?_
        exact k_ret [] rfl .refl (by exact zRes) ⟨l1, rfl, .inr ⟨_, by rw [e1]; exact hsp, hx⟩⟩
end Go.Proofs.YtgafamgacpglcaaGreat.Qu


/- at, Has, First, All of a queue. -/
set_option linter.unusedVariables false
set_option linter.unusedSimpArgs false
namespace Go.Proofs.YtgafamgacpglcaaGreat.Qu
open Go.RowKit
set_option maxRecDepth 20000

theorem find_prefix {α : Type} (f : α → Bool) (pre l : List α) (i : α) (h : pre ++ [i] <+: l) (hp : ∀ j ∈ pre, f j = false) (hi : f i = true) : l.find? f = some i := by
  obtain ⟨rest, rfl⟩ := h
  rw [List.append_assoc, List.find?_append, List.find?_eq_none.2 (fun j hj => by simp [hp j hj])]
  simp [hi]
def neX (X : Nat → List Int) : Nat → Bool := fun p => (X p).length != 0
def findP (X : Nat → List Int) (id : Int) : Option Nat := (fallT (neX X) 0).find? fun p => decide (id ∈ X p)
def atQ (X : Nat → List Int) (id : Int) : Int × Int := match findP X id with | some p => ((p : Nat), ((X p).idxOf id : Nat)) | none => (-1, -1)
theorem QS.shape {X : Nat → List Int} {vs : Nat → Value} {cs : Nat → List Chunk} (h : QS X vs cs) : ∀ p, p < 8 → ∃ a cap, vs p = .slice a ((fun p => (X p).length) p) cap := fun p hp => (h.own p hp).shape
set_option pp.deepTerms false
set_option pp.deepTerms.threshold 4
set_option maxHeartbeats 400000
theorem at_any (b : Nat) (X : Nat → List Int) (lq : List Chunk) (id : Int) (hq : IsQ b X lq) (hb : ∀ p, p < 8 → (X p).length ≤ 1000000) (l : List Chunk) (hsub : ∀ c, c ∈ lq → c ∈ l) :
    Fn Tryz.prog 122 [.pointer (some ⟨b, 0, none⟩), .int .i64 id] l fun v l' => v = .tuple #[.int .i64 (atQ X id).1, .int .i64 (atQ X id).2] ∧ l' = l := by
  obtain ⟨vs, cs, hqs, rfl⟩ := hq
  have hsub2 : ∀ c, c ∈ csTo cs 8 → c ∈ l := fun c hc => hsub c (List.mem_cons_of_mem _ hc)
  refine fn_of_body Tryz.func122 rfl rfl fun E => ?_
  simp only [argF, Tryz.ntmps122]
  refine gz ?_
  (first | refine t_e (e_box1 rfl rfl) rfl rfl rfl ?_ | refine t_e (e_boxA rfl) rfl rfl rfl ?_); rintro _ _ ⟨b3, _, rfl, rfl⟩
  refine gz ?_
  refine t_e e_alloc rfl rfl rfl ?_; rintro _ _ ⟨b4, _, rfl, rfl⟩
  refine gz ?_
  refine t_e e_alloc rfl rfl rfl ?_; rintro _ _ ⟨b5, _, rfl, rfl⟩
  refine gz ?_
  refine t_e (e_call rfl rfl (falling_any _ _)) rfl rfl rfl ?_
  rintro v l' ⟨B, hB, rfl, rfl⟩
  refine gz ?_
  refine c_range (α := Nat) (ps := [11, 12]) (lb := [.pointer (some ⟨B, 0, none⟩)]) rfl (fall_iter B b vs (fun p => (X p).length) hqs.shape) (fun _ => rfl) rfl
    (fun pre l => l = [(B, .cells #[.pointer (some ⟨b, 0, none⟩)] 91 (0, 0)), (b5, .cells #[.int .i64 0] 3 (0, 0)), (b4, .cells #[.int .i64 0] 3 (0, 0)), (b3, .cells #[.int .i64 id] 3 (0, 0))] ∧ ∀ j ∈ pre, id ∉ X j)
    (fun c pre l => c = .ret ∧ ∃ (pre' : List Nat) (p : Nat), pre = pre' ++ [p] ∧ (∀ j ∈ pre', id ∉ X j) ∧ id ∈ X p ∧ l = [(b4, .cells #[.int .i64 (p : Nat)] 3 (0, 0)), (b5, .cells #[.int .i64 ((X p).idxOf id : Nat)] 3 (0, 0))])
    _ l (fun pre l2 X2 hX h => ⟨by rw [h.1]; exact List.Mem.head _, List.mem_append_right _ (hX _ (hsub _ List.mem_cons_self))⟩) (by exact zKeep) ⟨rfl, by simp⟩ ?_ ?_ ?_
  · rintro E r0 rec pre y l' T ⟨fn, tmps, D, rfl⟩ hT ⟨rfl, hpre⟩ hsp
    have hy := (fallT_mem _ _ _).1 (List.IsPrefix.subset hsp (List.mem_append_right _ List.mem_cons_self))
    simp only [putPs, List.cons_append, List.nil_append]
    refine gz ?_
    refine p_begin (by exact zUpd) ?_
    refine gz ?_
    refine t_q (q_call rfl rfl (fun l2 hl => index_any (vs y) (X y) id l2 (hqs.ints y hy.2.1 l2 fun c hc => hl c (by simp [hT c (hsub2 c hc)])) (hb y hy.2.1))) rfl rfl rfl ?_
    by_cases hin : id ∈ X y
    · rw [show indexI (X y) id = ((X y).idxOf id : Nat) from if_pos hin]
      refine gz ?_
      refine p_round_ret [(b4, .cells #[.int .i64 (y : Nat)] 3 (0, 0)), (b5, .cells #[.int .i64 ((X y).idxOf id : Nat)] 3 (0, 0))] (by exact zKeep) ⟨rfl, pre, y, rfl, hpre, hin, rfl⟩
    · rw [show indexI (X y) id = -1 from if_neg hin]
      refine gz ?_
      refine p_round _ .refl ⟨rfl, fun j hj => ?_⟩
      rcases List.mem_append.1 hj with hj | hj
      · exact hpre j hj
      · simp at hj; subst hj; exact hin
  · rintro D xs l' rfl ⟨rfl, hpre⟩
    have hno : findP X id = none := List.find?_eq_none.2 fun j hj => by simp [hpre j hj]
    simp only [List.cons_append, List.nil_append]
    refine gz ?_
    exact k_ret2 [D] ((b4, .cells #[.int .i64 (-1)] 3 (0, 0)) :: (b5, .cells #[.int .i64 (-1)] 3 (0, 0)) :: l) rfl (l' := l) (by exact zKeep) (by exact zRes) (by exact zKeep) ⟨by simp [tup, atQ, hno], rfl⟩
  · rintro D c pre l' hsp ⟨rfl, pre', p, rfl, hp', hi, rfl⟩
    have hfd : findP X id = some p := find_prefix _ pre' _ p hsp (fun j hj => by simp [hp' j hj]) (by simp [hi])
    simp only [List.cons_append, List.nil_append]
    refine gz ?_
    exact k_ret2 [D] ((b4, .cells #[.int .i64 (p : Nat)] 3 (0, 0)) :: (b5, .cells #[.int .i64 ((X p).idxOf id : Nat)] 3 (0, 0)) :: l) rfl (l' := l) (by exact zKeep) (by exact zRes) (by exact zKeep) ⟨by simp [tup, atQ, hfd], rfl⟩
theorem has_any (b : Nat) (X : Nat → List Int) (lq : List Chunk) (id : Int) (hq : IsQ b X lq) (hb : ∀ p, p < 8 → (X p).length ≤ 1000000) (l : List Chunk) (hsub : ∀ c, c ∈ lq → c ∈ l) :
    Fn Tryz.prog 121 [.pointer (some ⟨b, 0, none⟩), .int .i64 id] l fun v l' => v = .bool (findP X id).isSome ∧ l' = l := by
  have H := at_any b X lq id hq hb
  refine fn_of_body Tryz.func121 rfl rfl fun E => ?_
  simp only [argF, Tryz.ntmps121]
  refine gz ?_
  cases hf : findP X id with
  | none =>
    rw [show atQ X id = (-1, -1) by unfold atQ; rw [hf]] at H
    dsimp only at H
    refine t_q (q_call rfl rfl (fun l2 hl => H l2 fun c hc => hl c (hsub c hc))) rfl rfl rfl ?_
    refine gz ?_
    exact k_ret [] rfl .refl (by exact zRes) ⟨rfl, rfl⟩
  | some p =>
    rw [show atQ X id = (((p : Nat) : Int), (((X p).idxOf id : Nat) : Int)) by unfold atQ; rw [hf]] at H
    dsimp only at H
    refine t_q (q_call rfl rfl (fun l2 hl => H l2 fun c hc => hl c (hsub c hc))) rfl rfl rfl ?_
    refine gz ?_
    refine k_ret [] rfl .refl (by exact zRes) ⟨?_, rfl⟩
    simp [tup]
end Go.Proofs.YtgafamgacpglcaaGreat.Qu


/- All of a queue; New. -/
set_option linter.unusedVariables false
set_option linter.unusedSimpArgs false
namespace Go.Proofs.YtgafamgacpglcaaGreat.Qu
open Go.RowKit
set_option maxRecDepth 20000

def allX (X : Nat → List Int) (pre : List Nat) : List Int := pre.flatMap X
theorem allX_snoc (X : Nat → List Int) (pre : List Nat) (y : Nat) : allX X (pre ++ [y]) = allX X pre ++ X y := by simp [allX]
theorem allX_len (X : Nat → List Int) (N : Nat) : ∀ (pre : List Nat), (∀ p ∈ pre, (X p).length ≤ N) → (allX X pre).length ≤ pre.length * N
  | [], _ => by simp [allX]
  | p :: pre, h => by
    have h1 := h p List.mem_cons_self
    have h2 := allX_len X N pre fun q hq => h q (List.mem_cons_of_mem _ hq)
    unfold allX at h2 ⊢
    rw [List.flatMap_cons, List.length_append, List.length_cons, Nat.succ_mul]; omega
theorem fallT_len (ne : Nat → Bool) : (fallT ne 0).length ≤ 8 := by
  unfold fallT; refine Nat.le_trans (List.length_filter_le _ _) ?_; simp
set_option pp.deepTerms false
set_option pp.deepTerms.threshold 4
set_option maxHeartbeats 400000
theorem all_any (b : Nat) (X : Nat → List Int) (lq : List Chunk) (hq : IsQ b X lq) (hb : ∀ p, p < 8 → (X p).length ≤ 1000000) (l : List Chunk) (hsub : ∀ c, c ∈ lq → c ∈ l) :
    Fn Tryz.prog 36 [.pointer (some ⟨b, 0, none⟩)] l fun v l' => ∃ cs, OwnSl 3 1 v (allX X (fallT (neX X) 0)).length ((allX X (fallT (neX X) 0)).map intQ) cs ∧ l' = cs ++ l := by
  obtain ⟨vs, cs, hqs, rfl⟩ := hq
  have hsub2 : ∀ c, c ∈ csTo cs 8 → c ∈ l := fun c hc => hsub c (List.mem_cons_of_mem _ hc)
  refine fn_of_body Tryz.func36 rfl rfl fun E => ?_
  simp only [argF, Tryz.ntmps36]
  refine gz ?_
  refine t_e e_alloc rfl rfl rfl ?_; rintro _ _ ⟨b3, _, rfl, rfl⟩
  refine gz ?_
  refine t_e (e_call rfl rfl (falling_any _ _)) rfl rfl rfl ?_
  rintro v l' ⟨B, hB, rfl, rfl⟩
  refine gz ?_
  refine c_range (α := Nat) (ps := [8, 9]) (lb := [.pointer (some ⟨B, 0, none⟩)]) rfl (fall_iter B b vs (fun p => (X p).length) hqs.shape) (fun _ => rfl) rfl
    (fun pre l => ∃ v cs, OwnSl 3 1 v (allX X pre).length ((allX X pre).map intQ) cs ∧ l = [(B, .cells #[.pointer (some ⟨b, 0, none⟩)] 91 (0, 0)), (b3, .cells #[v] 30 (0, 0))] ++ cs)
    (fun c pre l => False)
    _ l (fun pre l2 X2 hX h => by obtain ⟨v, cs, _, rfl⟩ := h; exact ⟨List.Mem.head _, List.mem_append_right _ (hX _ (hsub _ List.mem_cons_self))⟩) (by exact zKeep) ⟨_, [], OwnSl.nil _ _, rfl⟩ ?_ ?_ ?_
  · rintro E r0 rec pre y l' T ⟨fn, tmps, D, rfl⟩ hT ⟨v, cs', hown, rfl⟩ hsp
    have hy := (fallT_mem _ _ _).1 (List.IsPrefix.subset hsp (List.mem_append_right _ List.mem_cons_self))
    have hn0 : 0 < (X y).length := by have := hy.2.2; simp at this; exact List.length_pos_iff.2 this
    have hplen : pre.length < 8 := by have h1 := List.IsPrefix.length_le hsp; have h2 := fallT_len (fun p => (X p).length != 0); simp at h1; omega
    have hlen : (allX X pre).length ≤ 8000000 := by
      refine Nat.le_trans (allX_len X 1000000 pre fun p hp => hb p ?_) (by omega)
      exact ((fallT_mem _ _ _).1 (List.IsPrefix.subset hsp (List.mem_append_left _ hp))).2.1
    have hby := hb y hy.2.1
    obtain ⟨a, cap, hv, hI⟩ := hqs.ints y hy.2.1 (csTo cs 8) (fun _ h => h)
    obtain ⟨gb, off, cc, t, fz, rfl, hm, hc⟩ := hI hn0
    have hmT : (gb, Obj.cells cc t fz) ∈ T := hT _ (hsub2 _ hm)
    simp only [putPs, List.cons_append, List.nil_append]
    rw [hv]
    refine gz ?_
    refine p_begin (.there (.there (upd_mid _ _ _ _ _))) ?_
    refine gz ?_
    refine s_keep (Keep.of_perm (List.perm_append_comm_assoc [(B, .cells #[.pointer (some ⟨b, 0, none⟩)] 91 (0, 0)), (b3, .cells #[v] 30 (0, 0))] cs' _)) ?_
    apply t_e
    · apply ce_append (xs := (allX X pre).map intQ) (news := (X y).map intQ) (zs := [.int .i64 0]) (cl := cc)
      · rfl
      · rfl
      · rfl
      · exact hown
      · exact List.mem_append_right _ (.tail _ (.tail _ (.tail _ hmT)))
      · intro j u hj
        rw [List.getElem?_map, Option.map_eq_some_iff] at hj
        obtain ⟨x, hx, rfl⟩ := hj
        have := hc j x hx; rwa [Nat.mul_one] at this
      · simp
      · intro u hu; rw [List.mem_map] at hu; obtain ⟨a, _, rfl⟩ := hu; rfl
      · unfold maxLen; omega
      · omega
    · rfl
    · rfl
    · rfl
    rintro v' _ ⟨cs2, hown', rfl⟩
    have hv1 : v'.oneCell' = true := hown'.one
    refine s_keep (Keep.of_perm (List.perm_append_comm_assoc cs2 [(B, .cells #[.pointer (some ⟨b, 0, none⟩)] 91 (0, 0)), (b3, .cells #[v] 30 (0, 0))] _)) ?_
    simp only [List.cons_append, List.nil_append]
    refine gz ?_
    refine p_round _ (.refl) ⟨v', cs2, ?_, rfl⟩
    rw [allX_snoc, List.length_append, List.map_append]; exact hown'
  · rintro D xs l' rfl ⟨v, cs', hown, rfl⟩
    simp only [List.cons_append, List.nil_append]
    refine gz ?_
    refine k_ret2 [D] (cs' ++ l) rfl (l' := cs' ++ l) (by exact zKeep) (by exact zRes) .refl ?_
    exact ⟨cs', hown, rfl⟩
  · rintro D c pre l' hsp h
    exact h.elim
def noX : Nat → List Int := fun _ => []
theorem noX_own : QS noX (fun _ => .slice none 0 0) (fun _ => []) := ⟨fun p hp => OwnSl.nil _ _⟩
theorem noX_cells (v : Value) : (Array.ofFn (n := 8) fun i => (fun _ => v) i.val) = List.toArray [v, v, v, v, v, v, v, v] := by kernel_rfl
theorem new_any (l : List Chunk) : Fn Tryz.prog 56 [] l fun v l' => ∃ b, v = .pointer (some ⟨b, 0, none⟩) ∧ ∃ lq, IsQ b noX lq ∧ l' = lq ++ l := by
  refine fn_of_body Tryz.func56 rfl rfl fun E => ?_
  simp only [argF, Tryz.ntmps56]
  refine gz ?_
  refine t_e (e_boxA rfl) rfl rfl rfl ?_
  rintro _ _ ⟨b, hb, rfl, rfl⟩
  refine gz ?_
  exact k_ret [] rfl .refl (by exact zRes) ⟨b, rfl, [qC b fun _ => .slice none 0 0], ⟨_, _, noX_own, rfl⟩, by rw [qC, noX_cells]; rfl⟩
end Go.Proofs.YtgafamgacpglcaaGreat.Qu

