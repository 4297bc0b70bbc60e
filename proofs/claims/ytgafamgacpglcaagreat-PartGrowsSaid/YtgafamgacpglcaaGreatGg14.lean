/- slices.Equal of numbers. append of n noughts to a nil slice (slices.Grow). A law of my own, no program's. slices.Grow of a nil slice, slices.Concat of two slices of numbers. slices.Concat of two slices of numbers. slices.Compact of numbers: how long its result is. part: the plain law of parted and of Apart's answers: sorted lists, and what the parts of Apart mean. part.parted: are two lists together all threads of a view, each once? Effects that only add blocks, none of which looks at another's result, in any order. Laws of my own, no program's. part.Apart: are two groups apart? What came in, opened: a struct whose fields are flat or slices of flat rows. A view that came in, opened: its rows as data. Is a view great? Is a number in a list? part: the plain law, made ready for deciding: what threads reach and lean on as lists; groups apart, groups not apart. No program. The plain law of PartBoots: a boot's view; which splits of its threads are apart. Laws that the statement's proof leans on. -/
import Derived.Test.YtgafamgacpglcaaGreatGg4
import Derived.Test.YtgafamgacpglcaaGreatGg5
import Derived.Test.YtgafamgacpglcaaGreatGg13
import Derived.Test.YtgafamgacpglcaaGreatGg3
import Derived.Lib.AppendZeros
import Derived.Test.YtgafamgacpglcaaGreatGg6
import Derived.Test.YtgafamgacpglcaaGreatGg8
import Derived.Test.YtgafamgacpglcaaGreatGg12
import Derived.Test.YtgafamgacpglcaaGreatGg11
/- slices.Equal of numbers. -/
-- GU
set_option linter.unusedVariables false
set_option linter.unusedSimpArgs false
namespace Go.Proofs.YtgafamgacpglcaaGreat
open Go.RowKit
set_option maxRecDepth 20000
set_option pp.deepTerms false
set_option pp.deepTerms.threshold 4

set_option maxHeartbeats 1000000 in
theorem equalI_any (v1 v2 : Value) (xs ys : List Int) (l : List Chunk) (h1 : IntSl l v1 xs) (h2 : IntSl l v2 ys) (hx : xs.length ≤ 1000000) :
    Fn Tryz.prog 43 [v1, v2] l fun r l' => r = .bool (decide (xs = ys)) ∧ l' = l := by
  obtain ⟨a, ca, rfl, h1⟩ := h1
  obtain ⟨b, cb, rfl, h2⟩ := h2
  refine fn_of_body Tryz.func43 rfl rfl fun E => ?_
  simp only [argF, Tryz.ntmps43]
  refine gzU ?_
  by_cases hle : (xs.length : Int) = (ys.length : Int)
  case neg =>
    refine gzU ?_
    refine k_ret [] rfl .refl (by exact zRes) ⟨?_, rfl⟩
    have : ¬ xs = ys := fun e => hle (by rw [e])
    simp [tup, this]
  have hle' : xs.length = ys.length := by omega
  refine gzU ?_
  refine k_loop (α := Nat) (fun k => [(0, .slice a xs.length ca), (1, .slice b ys.length cb), (12, .int .i64 (xs.length : Nat)), (13, .int .i64 k)]) (fun k => l) (fun k => k ≤ xs.length ∧ xs.take k = ys.take k) (fun k => xs.length - k) 0 ⟨Nat.zero_le _, by simp⟩ ⟨rfl, rfl, rfl, rfl, trivial⟩ .refl ?_
  rintro k ⟨hk, hj⟩
  by_cases hlt : k < xs.length
  · obtain ⟨b1, o1, c1, t1, z1, rfl, m1, q1⟩ := h1 (by omega)
    obtain ⟨b2, o2, c2, t2, z2, rfl, m2, q2⟩ := h2 (by omega)
    obtain ⟨x, e1⟩ : ∃ x, xs[k]? = some x := ⟨_, List.getElem?_eq_getElem hlt⟩
    obtain ⟨y, e2⟩ : ∃ y, ys[k]? = some y := ⟨_, List.getElem?_eq_getElem (by omega)⟩
    have g1 := q1 k x e1
    have g2 := q2 k y e2
    refine gzU ?_
    refine c_draw [(0, true), (1, true), (2, true), (3, true), (4, true), (5, true), (6, true), (7, true), (8, true)] [[], [], [0, 1], [0, 1, 2], [], [], [4, 5], [4, 5, 6], [0, 1, 2, 3, 4, 5, 6, 7]] _ (by kernel_rfl) (by kernel_rfl) zAtt (fun _ h => h) ?_
    refine pzU ?_
    by_cases hxy : x = y
    · refine gzU ?_
      refine k_next (k + 1) ⟨by omega, ?_⟩ (by omega) ⟨rfl, rfl, rfl, rfl, trivial⟩ .refl
      rw [List.take_add_one, List.take_add_one, hj, e1, e2, hxy]
    · refine gzU ?_
      refine k_ret [] rfl .refl (by exact zRes) ⟨?_, rfl⟩
      have : ¬ xs = ys := fun e => hxy (by rw [e, e2] at e1; exact (Option.some.inj e1).symm)
      simp [tup, this]
  obtain rfl : k = xs.length := by omega
  refine gzU ?_
  refine k_ret [] rfl .refl (by exact zRes) ⟨?_, rfl⟩
  rw [List.take_length, hle', List.take_length] at hj
  simp [tup, hj]
end Go.Proofs.YtgafamgacpglcaaGreat


/- append of n noughts to a nil slice (slices.Grow). A law of my own, no program's. -/
set_option linter.unusedVariables false
set_option linter.unusedSimpArgs false
namespace Go.Proofs.YtgafamgacpglcaaGreat
open Go.RowKit Go.Lib

section
variable {P : Program} {ro : Option Nat} {N : Nat} {fr : Fr} {l : List Chunk} {d : Option Nat} {ty : TypeId} {pos : String} {aft : Array Edge} {g : Option (Nat × Bool)}
theorem e_appendZ {s x : Operand} {T T2 e yb n : Nat} {kn : IntKind} {z0 : Value} (hx : ev fr s = some (.slice none 0 0)) (hy : ev fr x = some (.int .i64 (n : Nat))) [c : ST P T e 1 yb] [cz : ZV P e [z0]] [ci : IT P T2 kn] (h0 : 0 < n) (hn : n ≤ 1000000) (hb : yb ≤ 1000) :
    OpE P ro N fr l ⟨d, .call { callee := .builtin .append, args := #[s, x], argTypes := #[T, T2] }, ty, pos, aft, g⟩ (fun v' l' => ∃ b cap sp, v' = .slice (some ⟨b, 0, none⟩) n cap ∧ n ≤ cap ∧ cap ≤ maxLen ∧ sp.length = cap ∧ l' = (b, .cells (List.toArray sp) e (0, 0)) :: l) := by
  refine ⟨rfl, fun E a W hf hs => ?_⟩
  have hρ := hf.agrees
  obtain ⟨inf, u1, u2, u3, u4⟩ := stV_spec c.out
  obtain ⟨inf', zv, z1, z2, z3⟩ := zvV_spec cz.out
  rw [u2] at z1
  cases z1
  have hex : execOp a.eval ⟨d, .call { callee := .builtin .append, args := #[s, x], argTypes := #[T, T2] }, ty, pos, aft, g⟩ = (do pure (.value (← Builtin.append_ #[T, T2] ty #[.slice none 0 0, .int .i64 (n : Nat)])) : Sem Next) := by
    simp [execOp, resolve, hρ s _ hx, hρ x _ hy, invoke, builtin]
  unfold OpVal
  rw [hex, Sem.run_bind]
  have hby : n * yb ≤ 1000000 * 1000 := Nat.mul_le_mul hn hb
  have hr := run_append_nil_zeros (P := P) W T T2 ty e inf zv .i64 kn u1 (itV_spec ci.out) u2 z2 n h0 (by rw [u3]; omega) (by omega) (by rw [u4]; omega)
  rw [hr]
  have hzz : zv.cells.size = 1 := by have := congrArg List.length z3; simpa using this
  have hge := grownCap_ge W n 0 e
  refine ⟨_, ⟨W.heap.size, grownCap W n 0 e, (Builtin.zeroCells zv.cells n ++ Builtin.zeroCells zv.cells (grownCap W n 0 e - n)).toList, rfl, hge, grownCap_le_maxLen _ _ _ _ (by unfold maxLen; omega), ?_, rfl⟩, ?_⟩
  · rw [Array.toList_append, List.length_append, Array.length_toList, Array.length_toList, size_zeroCells, size_zeroCells, hzz]; omega
  · have h2 := hs.drew.alloc (.cells (Builtin.zeroCells zv.cells n ++ Builtin.zeroCells zv.cells (grownCap W n 0 e - n)) e)
    rw [Array.toArray_toList]; exact h2
theorem q_slice0 {R : List Chunk} {x : Operand} {T e k yb : Nat} {lo hi mx : Option Operand} {l0 h0 m0 : Nat} (hx : ev fr x = some (.slice none 0 0)) [c : ST P T e k yb] (hl : Bnd fr lo 0 l0) (hh : Bnd fr hi 0 h0) (hm : Bnd fr mx 0 m0) (hno : mx.isSome = true → hi.isSome = true) (h1 : l0 ≤ h0) (h2 : h0 ≤ m0) (h3 : m0 ≤ 0) :
    OpQ P ro N fr R ⟨d, .slice T x lo hi mx, ty, pos, aft, g⟩ (.slice none 0 0) := opQ_of_sl rfl fun ρ l hρ _ => by
  obtain ⟨inf, u1, u2, u3, _⟩ := stV_spec c.out
  obtain rfl : m0 = 0 := by omega
  obtain rfl : h0 = 0 := by omega
  obtain rfl : l0 = 0 := by omega
  simp only [execOp, hρ x _ hx]
  rw [sl_bind]
  unfold Instr.sliceAt
  rw [sl_under u1]
  show sl P (Instr.slice T _ _ _ _) l _
  unfold Instr.slice
  rw [sl_under u1]
  simp only [sl_bind]
  rw [sl_sliceBounds hρ hl hh hm hno h1 h2 h3]
  simp only
  rw [sl_sizeOf' u2]
  simp only [sl_pure, u3]
  refine ⟨?_, trivial⟩
  simp
theorem q_append0 {R : List Chunk} {s x : Operand} {p q : Option Addr} {T e kk yb n cap cp : Nat} (hs : ev fr s = some (.slice p n cap)) (hx : ev fr x = some (.slice q 0 cp)) [c : ST P T e kk yb] (hn : n ≤ cap) :
    OpQ P ro N fr R ⟨d, .call { callee := .builtin .append, args := #[s, x], argTypes := #[T, T] }, ty, pos, aft, g⟩ (.slice p n cap) := opQ_of_sl rfl fun ρ l hρ _ => by
  obtain ⟨inf, u1, u2, _⟩ := stV_spec c.out
  simp only [execOp, resolve, sl_bind, sl_pure, invoke, builtin, List.map_toArray, List.map_cons, List.map_nil, hρ s _ hs, hρ x _ hx]
  unfold Builtin.append_
  simp only [List.getElem?_toArray, List.getElem?_cons_zero, List.getElem?_cons_succ, sl_bind]
  rw [sl_under' u1]
  simp only
  rw [sl_sizeOf u2]
  simp only [sl_bind]
  rw [sl_under' u1]
  simp only [sl_pure, Bool.false_eq_true, if_false, Builtin.lenOf, Bool.not_false, if_true, Nat.add_zero, if_pos hn, sl_bind, Builtin.firstCells]
  cases q with
  | none =>
    cases p with
    | none => exact ⟨rfl, rfl⟩
    | some a => exact ⟨rfl, rfl⟩
  | some a' =>
    simp only [Nat.zero_mul, loadCells, loadCellsFrom, sl_pure]
    cases p with
    | none => exact ⟨rfl, rfl⟩
    | some a => exact ⟨rfl, rfl⟩
end
end Go.Proofs.YtgafamgacpglcaaGreat


/- slices.Grow of a nil slice, slices.Concat of two slices of numbers. -/
-- GU
set_option linter.unusedVariables false
set_option linter.unusedSimpArgs false
namespace Go.Proofs.YtgafamgacpglcaaGreat
open Go.RowKit
set_option maxRecDepth 20000
set_option pp.deepTerms false
set_option pp.deepTerms.threshold 4

theorem grow_any (n : Nat) (hn : n ≤ 1000000) (l : List Chunk) :
    Fn Tryz.prog 94 [.slice none 0 0, .int .i64 (n : Nat)] l fun v l' => ∃ cs, OwnSl 3 1 v 0 [] cs ∧ l' = cs ++ l := by
  refine fn_of_body Tryz.func94 rfl rfl fun E => ?_
  simp only [argF, Tryz.ntmps94]
  refine gzU ?_
  refine t_q (Ar.q_cap rfl) rfl rfl rfl ?_
  refine gzU ?_
  by_cases h0 : n = 0
  · subst h0
    refine gzU ?_
    exact k_ret [] rfl (l' := l) .refl (by exact zRes) ⟨[], OwnSl.nil _ _, rfl⟩
  refine gzU ?_
  refine t_q (Ar.q_cap rfl) rfl rfl rfl ?_
  refine gzU ?_
  refine t_q (q_slice0 (l0 := 0) (h0 := 0) (m0 := 0) rfl .none (.some rfl (by omega) rfl) .none (by simp) (by omega) (by omega) (by omega)) rfl rfl rfl ?_
  refine gzU ?_
  refine t_e (e_appendZ (n := n) rfl rfl (by omega) hn (by decide)) rfl rfl rfl ?_
  rintro _ _ ⟨b, cap, sp, rfl, k1, k2, k3, rfl⟩
  refine gzU ?_
  refine t_q (q_slice (l0 := 0) (h0 := 0) (m0 := cap) (off' := 0) (n' := 0) (c' := cap) rfl .none (.some rfl (by omega) rfl) .none (by simp) (by omega) (by omega) (by omega) (by simp) (by omega) (by omega)) rfl rfl rfl ?_
  refine gzU ?_
  refine k_ret [] rfl (l' := (b, Obj.cells (List.toArray sp) 3 (0, 0)) :: l) .refl (by exact zRes) ?_
  exact ⟨[(b, Obj.cells (List.toArray sp) 3 (0, 0))], ⟨by simp, .inr ⟨b, cap, sp, rfl, by simp, by omega, k2, by simpa using k3⟩⟩, rfl⟩
theorem e_appendIs {N : Nat} {fr : Fr} {F : List Chunk} {d : Option Nat} {ty : TypeId} {pos : String} {aft : Array Edge} {g : Option (Nat × Bool)} {s x : Operand} {v vx : Value} {xs ys : List Int} {cs : List Chunk} (hs : ev fr s = some v) (hx : ev fr x = some vx) (ho : OwnSl 3 1 v xs.length (xs.map intQ) cs) (hI : IntSl F vx ys) (h1 : xs.length ≤ 1000000) (h2 : ys.length ≤ 1000000) :
    OpE Tryz.prog none N fr (cs ++ F) ⟨d, .call { callee := .builtin .append, args := #[s, x], argTypes := #[30, 30] }, ty, pos, aft, g⟩ (fun v' l' => ∃ cs', OwnSl 3 1 v' (xs ++ ys).length ((xs ++ ys).map intQ) cs' ∧ l' = cs' ++ F) := by
  obtain ⟨a, cp, rfl, hr⟩ := hI
  by_cases h0 : ys.length = 0
  · obtain rfl : ys = [] := List.eq_nil_of_length_eq_zero h0
    obtain ⟨p, cap, hv⟩ := ho.shape
    subst hv
    have hle : xs.length ≤ cap := by
      rcases ho.2 with ⟨e1, e2, _⟩ | ⟨b, c2, sp, e1, _, e2, _⟩
      · omega
      · cases e1; exact e2
    have hq := q_append0 (P := Tryz.prog) (ro := none) (N := N) (R := []) (d := d) (ty := ty) (pos := pos) (aft := aft) (g := g) (T := 30) hs hx hle
    refine (hq.run (cs ++ F) fun c hc => by cases hc).mono ?_
    rintro _ _ ⟨rfl, rfl⟩
    exact ⟨cs, by rw [List.append_nil]; exact ho, rfl⟩
  · obtain ⟨b, off, rw_, t, fz, rfl, hm, hc⟩ := hr (by omega)
    rw [List.length_append, List.map_append]
    exact ce_append (k := 1) (yb := 8) (news := ys.map intQ) (zs := [.int .i64 0]) (m := ys.length) hs hx rfl ho (List.mem_append_right _ hm) (fun j u hj => by
      rw [List.getElem?_map] at hj
      cases hy : ys[j]? with
      | none => rw [hy] at hj; cases hj
      | some y => rw [hy] at hj; cases hj; have := hc j y hy; rw [Nat.mul_one] at this; exact this) (by simp) (by simp [Value.oneCell', intQ]) (by unfold maxLen; omega) (by omega)
end Go.Proofs.YtgafamgacpglcaaGreat


/- slices.Concat of two slices of numbers. -/
-- GU
set_option linter.unusedVariables false
set_option linter.unusedSimpArgs false
namespace Go.Proofs.YtgafamgacpglcaaGreat
open Go.RowKit
set_option maxRecDepth 20000
set_option pp.deepTerms false
set_option pp.deepTerms.threshold 4

abbrev catC (b : Nat) (v1 v2 : Value) : Chunk := (b, .cells (List.toArray [v1, v2]) 30 (0, 0))
def szC (xs ys : List Int) (i : Nat) : Nat := if i = 0 then 0 else if i = 1 then xs.length else xs.length + ys.length
def apC (xs ys : List Int) (i : Nat) : List Int := if i = 0 then [] else if i = 1 then xs else xs ++ ys
set_option maxHeartbeats 2000000 in
theorem concat_any (v1 v2 : Value) (xs ys : List Int) (B : Nat) (l : List Chunk) (h1 : IntSl l v1 xs) (h2 : IntSl l v2 ys) (hm : catC B v1 v2 ∈ l) (hx : xs.length ≤ 1000) (hy : ys.length ≤ 1000) :
    Fn Tryz.prog 41 [.slice (some ⟨B, 0, none⟩) 2 2] l fun v l' => ∃ cs, OwnSl 3 1 v (xs ++ ys).length ((xs ++ ys).map intQ) cs ∧ l' = cs ++ l := by
  have h1' := h1
  have h2' := h2
  obtain ⟨a1, c1, rfl, _⟩ := h1'
  obtain ⟨a2, c2, rfl, _⟩ := h2'
  refine fn_of_body Tryz.func41 rfl rfl fun E => ?_
  simp only [argF, Tryz.ntmps41]
  refine gzU ?_
  refine k_loop (α := Nat) (fun i => [(0, .slice (some ⟨B, 0, none⟩) 2 2), (9, .slice (some ⟨B, 0, none⟩) 2 2), (10, .int .i64 2), (11, .int .i64 i), (3, .int .i64 (szC xs ys i : Nat))]) (fun _ => l) (fun i => i ≤ 2) (fun i => 2 - i) 0 (by omega) ⟨rfl, rfl, rfl, rfl, rfl, trivial⟩ .refl ?_
  intro i hi
  rcases i with _ | _ | _ | i
  · rw [show szC xs ys 0 = 0 from rfl]
    refine gzU ?_
    refine k_next 1 (by omega) (by omega) ⟨rfl, rfl, rfl, rfl, ?_, trivial⟩ .refl
    show some (Value.int _ _) = some (Value.int _ _)
    simp [szC]
  · rw [show szC xs ys 1 = xs.length from rfl]
    refine gzU ?_
    refine k_next 2 (by omega) (by omega) ⟨rfl, rfl, rfl, rfl, ?_, trivial⟩ .refl
    show some (Value.int _ _) = some (Value.int _ _)
    simp [szC]
  · rw [show szC xs ys 2 = xs.length + ys.length from rfl]
    refine gzU ?_
    refine t_e (e_call0 rfl rfl (grow_any (xs.length + ys.length) (by omega) _)) rfl rfl rfl ?_
    rintro vg _ ⟨cg, hg, rfl⟩
    have hvg := hg.one
    refine gzU ?_
    refine k_loop (α := Nat × Value × List Chunk) (fun y => [(25, .slice (some ⟨B, 0, none⟩) 2 2), (26, .int .i64 2), (27, .int .i64 y.1), (6, y.2.1)]) (fun y => y.2.2 ++ l) (fun y => y.1 ≤ 2 ∧ OwnSl 3 1 y.2.1 (apC xs ys y.1).length ((apC xs ys y.1).map intQ) y.2.2) (fun y => 2 - y.1) (0, vg, cg) ⟨by simp only; omega, hg⟩ ⟨rfl, rfl, rfl, rfl, trivial⟩ .refl ?_
    rintro ⟨i, v, cs⟩ ⟨hi, ho⟩
    simp only at hi ho ⊢
    have hv1 := ho.one
    rcases i with _ | _ | _ | i
    · refine gzU ?_
      refine t_q (q_load (v := .slice a1 xs.length c1) rfl (List.mem_append_right _ hm) rfl) rfl rfl rfl ?_
      refine gzU ?_
      refine t_e (e_appendIs (xs := []) rfl rfl ho h1 (by simp) (by omega)) rfl rfl rfl ?_
      rintro v' _ ⟨c', ho', rfl⟩
      have hv2 := ho'.one
      refine gzU ?_
      exact k_next (1, v', c') ⟨by simp only; omega, ho'⟩ (by simp only; omega) ⟨rfl, rfl, rfl, rfl, trivial⟩ .refl
    · refine gzU ?_
      refine t_q (q_load (v := .slice a2 ys.length c2) rfl (List.mem_append_right _ hm) rfl) rfl rfl rfl ?_
      refine gzU ?_
      refine t_e (e_appendIs (xs := xs) rfl rfl ho h2 (by omega) (by omega)) rfl rfl rfl ?_
      rintro v' _ ⟨c', ho', rfl⟩
      have hv2 := ho'.one
      refine gzU ?_
      exact k_next (2, v', c') ⟨by simp only; omega, ho'⟩ (by simp only; omega) ⟨rfl, rfl, rfl, rfl, trivial⟩ .refl
    · refine gzU ?_
      refine k_ret [] rfl (l' := cs ++ l) .refl (by exact zRes) ?_
      exact ⟨cs, ho, rfl⟩
    · omega
  · omega
end Go.Proofs.YtgafamgacpglcaaGreat


/- slices.Compact of numbers: how long its result is. -/
-- GU
set_option linter.unusedVariables false
set_option linter.unusedSimpArgs false
namespace Go.Proofs.YtgafamgacpglcaaGreat
open Go.RowKit
set_option maxRecDepth 20000
set_option pp.deepTerms false
set_option pp.deepTerms.threshold 4

/-- no neighbours are alike -/
def NoTwin (xs : List Int) : Prop := ∀ (i : Nat) (x y : Int), xs[i]? = some x → xs[i + 1]? = some y → x ≠ y
/-- n numbers stand first -/
def IntsTo (n : Nat) (cs : Array Value) : Prop := ∀ j, j < n → ∃ x : Int, cs[j]? = some (intQ x)
theorem IntsTo.set {n : Nat} {cs : Array Value} (h : IntsTo n cs) (i : Nat) (x : Int) : IntsTo n (cs.setIfInBounds i (intQ x)) := fun j hj => by
  obtain ⟨y, hy⟩ := h j hj
  rw [Array.getElem?_setIfInBounds]
  split
  · rename_i e
    have := (Array.getElem?_eq_some_iff.1 hy).1
    rw [if_pos (by omega)]
    exact ⟨x, rfl⟩
  · exact ⟨y, hy⟩
abbrev cpB (b : Nat) (cs : Array Value) : Chunk := (b, .cells cs 3 (0, 0))
set_option pp.deepTerms.threshold 12 in
set_option maxHeartbeats 4000000 in
theorem compact_any (b cap : Nat) (xs : List Int) (cs : Array Value) (hcs : ∀ (k : Nat) (x : Int), xs[k]? = some x → cs[k]? = some (intQ x)) (hsz : xs.length ≤ cs.size) (hn : xs.length ≤ 1000000) (hcap : xs.length ≤ cap) (hcm : cap ≤ maxLen) (l : List Chunk) :
    Fn Tryz.prog 44 [.slice (some ⟨b, 0, none⟩) xs.length cap] (cpB b cs :: l) fun v l' => ∃ n' a' c' ys, v = .slice a' n' c' ∧ (n' = xs.length ↔ NoTwin xs) ∧ l' = cpB b ys :: l := by
  refine fn_of_body Tryz.func44 rfl rfl fun E => ?_
  simp only [argF, Tryz.ntmps44]
  refine gzU ?_
  by_cases h2 : xs.length < 2
  · refine gzU ?_
    refine k_ret [] rfl (l' := _) .refl (by exact zRes) ?_
    exact ⟨xs.length, _, cap, _, rfl, ⟨fun _ i x y h1 h2' => by have := (List.getElem?_eq_some_iff.1 h2').1; omega, fun _ => rfl⟩, rfl⟩
  refine gzU ?_
  refine k_loop (α := Nat) (fun k => [(0, .slice (some ⟨b, 0, none⟩) xs.length cap), (3, .int .i64 k)]) (fun _ => cpB b cs :: l) (fun k => 1 ≤ k ∧ k ≤ xs.length ∧ ∀ (i : Nat) (x y : Int), i + 1 < k → xs[i]? = some x → xs[i + 1]? = some y → x ≠ y) (fun k => xs.length - k) 1 ⟨by omega, by omega, fun i _ _ h => by omega⟩ ⟨rfl, rfl, trivial⟩ .refl ?_
  rintro k ⟨hk1, hk, hno⟩
  by_cases hlt : k < xs.length
  · obtain ⟨x, e1⟩ : ∃ x, xs[k]? = some x := ⟨_, List.getElem?_eq_getElem hlt⟩
    obtain ⟨y, e2⟩ : ∃ y, xs[k - 1]? = some y := ⟨_, List.getElem?_eq_getElem (by omega)⟩
    have g1 : cs[k * 1]? = some (intQ x) := by rw [Nat.mul_one]; exact hcs k x e1
    have g2 : cs[0 + ((k : Int) - 1).toNat * 1]? = some (intQ y) := by rw [Nat.zero_add, Nat.mul_one, show ((k : Int) - 1).toNat = k - 1 by omega]; exact hcs _ y e2
    refine gzU ?_
    refine c_draw [(0, true), (1, true), (2, true), (3, true), (4, true), (5, true), (6, true), (7, true), (8, true), (9, true)] [[], [], [0, 1], [0, 1, 2], [], [], [5], [4, 5, 6], [4, 5, 6, 7], [0, 1, 2, 3, 4, 5, 6, 7, 8]] _ (by kernel_rfl) (by kernel_rfl) zAtt (fun _ h => h) ?_
    refine pzU ?_
    by_cases hxy : x = y
    case neg =>
      refine gzU ?_
      refine k_next (k + 1) ⟨by omega, by omega, fun i a c hi q1 q2 => ?_⟩ (by omega) ⟨rfl, rfl, trivial⟩ .refl
      by_cases e : i + 1 = k
      · subst e; rw [e1] at q2; rw [Nat.add_sub_cancel, q1] at e2; cases q2; cases e2; exact fun h => hxy h.symm
      · exact hno i a c (by omega) q1 q2
    refine gzU ?_
    refine t_q (q_slice (l0 := k) (h0 := xs.length) (m0 := cap) (off' := k) (n' := xs.length - k) (c' := cap - k) rfl (.some rfl (by omega) rfl) .none .none (by simp) (by omega) (by omega) (by omega) (by rw [if_neg (by omega)]; omega) (by omega) (by omega)) rfl rfl rfl ?_
    refine gzU ?_
    refine k_loop (α := Nat × Nat × Array Value) (fun y => [(0, .slice (some ⟨b, 0, none⟩) xs.length cap), (3, .int .i64 (y.2.1 : Nat)), (4, .slice (some ⟨b, k, none⟩) (xs.length - k) (cap - k)), (5, .int .i64 (y.1 : Nat))]) (fun y => cpB b y.2.2 :: l) (fun y => 1 ≤ y.1 ∧ y.1 ≤ xs.length - k ∧ k ≤ y.2.1 ∧ y.2.1 ≤ k + y.1 - 1 ∧ y.2.2.size = cs.size ∧ IntsTo xs.length y.2.2) (fun y => xs.length - k - y.1) (1, k, cs) ⟨by simp only; omega, by simp only; omega, by simp only; omega, by simp only; omega, rfl, fun j hj => ⟨_, hcs j _ (List.getElem?_eq_getElem hj)⟩⟩ ⟨rfl, rfl, rfl, rfl, trivial⟩ .refl ?_
    rintro ⟨k2, k3, ds⟩ ⟨hj1, hj2, hj3, hj4, hds, hI⟩
    simp only at hj1 hj2 hj3 hj4 hds hI ⊢
    by_cases hlt2 : k2 < xs.length - k
    · obtain ⟨u, f1⟩ := hI (k + k2) (by omega)
      obtain ⟨w, f2⟩ := hI (k + (k2 - 1)) (by omega)
      have g3 : ds[k + k2 * 1]? = some (intQ u) := by rw [Nat.mul_one]; exact f1
      have g4 : ds[k + ((k2 : Int) - 1).toNat * 1]? = some (intQ w) := by rw [Nat.mul_one, show ((k2 : Int) - 1).toNat = k2 - 1 by omega]; exact f2
      refine gzU ?_
      refine c_draw [(0, true), (1, true), (2, true), (3, true), (4, true), (5, true), (6, true), (7, true), (8, true), (9, true)] [[], [], [0, 1], [0, 1, 2], [], [], [5], [4, 5, 6], [4, 5, 6, 7], [0, 1, 2, 3, 4, 5, 6, 7, 8]] _ (by kernel_rfl) (by kernel_rfl) zAtt (fun _ h => h) ?_
      refine pzU ?_
      by_cases huw : u = w
      · refine gzU ?_
        exact k_next (k2 + 1, k3, ds) ⟨by simp only; omega, by simp only; omega, by simp only; omega, by simp only; omega, hds, hI⟩ (by simp only; omega) ⟨rfl, rfl, rfl, rfl, trivial⟩ .refl
      refine gzU ?_
      refine t_n (e_store (cs := ds) rfl rfl rfl .here (by omega)) rfl rfl ?_
      rintro _ _ ⟨rfl, rfl⟩
      refine gzU ?_
      have hds2 : (ds.setIfInBounds (k3 * 1) (intQ u)).size = cs.size := by rw [Array.size_setIfInBounds]; exact hds
      have hI2 := hI.set (k3 * 1) u
      exact k_next (k2 + 1, k3 + 1, ds.setIfInBounds (k3 * 1) (intQ u)) ⟨by simp only; omega, by simp only; omega, by simp only; omega, by simp only; omega, hds2, hI2⟩ (by simp only; omega) ⟨rfl, rfl, rfl, rfl, trivial⟩ .refl
    refine gzU ?_
    refine t_q (q_slice (l0 := k3) (h0 := xs.length) (m0 := cap) (off' := k3) (n' := xs.length - k3) (c' := cap - k3) rfl (.some rfl (by omega) rfl) .none .none (by simp) (by omega) (by omega) (by omega) (by rw [if_neg (by omega)]; omega) (by omega) (by omega)) rfl rfl rfl ?_
    refine t_n (e_clear (cs := ds) (zs := [.int .i64 0]) rfl (by omega) (by simp [Value.oneCell']) .here (by simp only [List.length_cons, List.length_nil]; omega)) rfl rfl ?_
    rintro _ _ ⟨rfl, rfl⟩
    refine gzU ?_
    refine t_q (q_slice (l0 := 0) (h0 := k3) (m0 := cap) (off' := 0) (n' := k3) (c' := cap) rfl .none (.some rfl (by omega) rfl) .none (by simp) (by omega) (by omega) (by omega) (by simp) (by omega) (by omega)) rfl rfl rfl ?_
    refine gzU ?_
    refine k_ret [] rfl (l' := _) .refl (by exact zRes) ?_
    exact ⟨k3, _, cap, _, rfl, ⟨fun h => by omega, fun h => absurd hxy.symm (h (k - 1) y x e2 (by rw [Nat.sub_add_cancel hk1]; exact e1))⟩, rfl⟩
  obtain rfl : k = xs.length := by omega
  refine gzU ?_
  refine k_ret [] rfl (l' := _) .refl (by exact zRes) ?_
  exact ⟨xs.length, _, cap, _, rfl, ⟨fun _ i x y h1 h2' => hno i x y (by have := (List.getElem?_eq_some_iff.1 h2').1; omega) h1 h2', fun _ => rfl⟩, rfl⟩
end Go.Proofs.YtgafamgacpglcaaGreat


/- part: the plain law of parted and of Apart's answers: sorted lists, and what the parts of Apart mean. -/
set_option linter.unusedVariables false
set_option linter.unusedSimpArgs false
namespace Go.Proofs.YtgafamgacpglcaaGreat
open Go.RowKit

theorem srt_pw (zs : List Int) : (srt zs).Pairwise (· ≤ ·) := by
  have := List.pairwise_mergeSort (le := fun x y : Int => decide (x ≤ y)) (fun a b c h1 h2 => by simp at *; omega) (fun a b => by simp; omega) zs
  exact this.imp fun h => by simpa using h
theorem srt_eq (xs ys : List Int) : srt xs = srt ys ↔ xs.Perm ys := by
  constructor
  · intro h
    have h1 := List.mergeSort_perm xs (fun x y : Int => decide (x ≤ y))
    have h2 := List.mergeSort_perm ys (fun x y : Int => decide (x ≤ y))
    exact h1.symm.trans ((show (srt xs).Perm (srt ys) by rw [h]).trans h2)
  · intro h
    have h1 := List.mergeSort_perm xs (fun x y : Int => decide (x ≤ y))
    have h2 := List.mergeSort_perm ys (fun x y : Int => decide (x ≤ y))
    exact List.Perm.eq_of_pairwise (le := (· ≤ ·)) (fun a b _ _ h1 h2 => Int.le_antisymm h1 h2) (srt_pw xs) (srt_pw ys) (h1.trans (h.trans h2.symm))
theorem noTwin_cons {x y : Int} {r : List Int} (h : NoTwin (x :: y :: r)) : x ≠ y ∧ NoTwin (y :: r) := ⟨h 0 x y rfl rfl, fun i a b h1 h2 => h (i + 1) a b (by simpa using h1) (by simpa using h2)⟩
theorem noTwin_lt : ∀ {zs : List Int}, zs.Pairwise (· ≤ ·) → NoTwin zs → zs.Pairwise (· < ·)
  | [], _, _ => .nil
  | [x], _, _ => by simp
  | x :: y :: r, hp, hn => by
    obtain ⟨h1, h2⟩ := noTwin_cons hn
    rw [List.pairwise_cons] at hp
    have ih := noTwin_lt hp.2 h2
    rw [List.pairwise_cons]
    refine ⟨fun z hz => ?_, ih⟩
    have hxy := hp.1 y List.mem_cons_self
    rcases List.mem_cons.1 hz with rfl | hz
    · omega
    · have := (List.pairwise_cons.1 ih).1 z hz; omega
theorem nodup_noTwin {zs : List Int} (h : zs.Nodup) : NoTwin zs := fun i x y h1 h2 e => by
  obtain ⟨l1, q1⟩ := List.getElem?_eq_some_iff.1 h1
  obtain ⟨l2, q2⟩ := List.getElem?_eq_some_iff.1 h2
  have := List.pairwise_iff_getElem.1 h i (i + 1) l1 l2 (by omega)
  exact this (by rw [q1, q2, e])
theorem srt_twin (zs : List Int) : NoTwin (srt zs) ↔ zs.Nodup := by
  have hp := List.mergeSort_perm zs (fun x y : Int => decide (x ≤ y))
  rw [← hp.nodup_iff]
  exact ⟨fun h => (noTwin_lt (srt_pw zs) h).imp fun h => by omega, nodup_noTwin⟩
theorem srt_len (zs : List Int) : (srt zs).length = zs.length := List.length_mergeSort ..
def wrP (h : Pt.HD) : Bool := decide (landI h.rights 2 ≠ 0)
def hdP (h : HdT) : Pt.HD := (h.1, h.2.kind, h.2.obj, h.2.rights, h.2.serial)
theorem mem_cs {x : VwT} {q : Pt.HD} : q ∈ x.vd.cs ↔ ∃ h, h ∈ x.hs ∧ q = hdP h := by
  show q ∈ x.hs.map hdP ↔ _
  rw [List.mem_map]
  exact ⟨fun ⟨h, h1, h2⟩ => ⟨h, h1, h2.symm⟩, fun ⟨h, h1, h2⟩ => ⟨h, h1, h2.symm⟩⟩
theorem und_iff (x : VwT) (xs : List Int) (s : Int × Int) : UndTo x.tr (Pt.Slt x.vd xs) x.tr.length s ↔ Pt.Und x.vd xs s := by
  constructor
  · rintro ⟨i, _, j, n, h⟩; exact ⟨i, j, n, h⟩
  · rintro ⟨i, j, n, h⟩; exact ⟨i, (List.getElem?_eq_some_iff.1 h.1).1, j, n, h⟩
theorem use_iff (x : VwT) (xs : List Int) (f : Int) (h : HdT) (hf : Pt.kn x.vd f 3 = true) : (FrT x f h ∧ (Pt.Slt x.vd xs h.1 ∨ Pt.Mps x.vd xs h.1)) ∧ h ∈ x.hs → Pt.Use x.vd xs f (hdP h) := fun ⟨⟨⟨h1, h2, h3⟩, h4⟩, h5⟩ => ⟨mem_cs.2 ⟨h, h5, rfl⟩, h1, h3, h4⟩
theorem wrt_iff (x : VwT) (xs ys : List Int) : (∃ f, WrtT x (Pt.Slt x.vd xs) (Pt.Mps x.vd xs) (Pt.Slt x.vd ys) (Pt.Mps x.vd ys) f) ↔ Pt.Wrt x.vd wrP xs ys := by
  constructor
  · rintro ⟨f, ⟨h1, k1, f1, s1⟩, ⟨h2, k2, f2, s2⟩, h3, k3, f3, s3, w⟩
    have hf : Pt.kn x.vd f 3 = true := by rw [← f1.2.2]; exact f1.2.1
    refine ⟨f, hf, ⟨_, use_iff x xs f h1 hf ⟨⟨f1, s1⟩, k1⟩⟩, ⟨_, use_iff x ys f h2 hf ⟨⟨f2, s2⟩, k2⟩⟩, hdP h3, ?_, w⟩
    rcases s3 with s3 | s3
    · exact .inl (use_iff x xs f h3 hf ⟨⟨f3, s3⟩, k3⟩)
    · exact .inr (use_iff x ys f h3 hf ⟨⟨f3, s3⟩, k3⟩)
  · rintro ⟨f, hf, ⟨q1, u1⟩, ⟨q2, u2⟩, q3, u3, w⟩
    have key : ∀ zs q, Pt.Use x.vd zs f q → ∃ h, q = hdP h ∧ h ∈ x.hs ∧ FrT x f h ∧ (Pt.Slt x.vd zs h.1 ∨ Pt.Mps x.vd zs h.1) := by
      rintro zs q ⟨hm, h1, h2, h3⟩
      obtain ⟨h, hh, rfl⟩ := mem_cs.1 hm
      have h2' : h.2.obj = f := h2
      exact ⟨h, rfl, hh, ⟨h1, by rw [h2']; exact hf, h2'⟩, h3⟩
    obtain ⟨h1, _, k1, f1, s1⟩ := key _ _ u1
    obtain ⟨h2, _, k2, f2, s2⟩ := key _ _ u2
    refine ⟨f, ⟨h1, k1, f1, s1⟩, ⟨h2, k2, f2, s2⟩, ?_⟩
    rcases u3 with u3 | u3
    · obtain ⟨h3, rfl, k3, f3, s3⟩ := key _ _ u3
      exact ⟨h3, k3, f3, .inl s3, w⟩
    · obtain ⟨h3, rfl, k3, f3, s3⟩ := key _ _ u3
      exact ⟨h3, k3, f3, .inr s3, w⟩
theorem abv_iff (x : VwT) (xs ys : List Int) : (∃ h, h ∈ x.hs ∧ AbvH x (Pt.Slt x.vd xs) (UndTo x.tr (Pt.Slt x.vd xs) x.tr.length) (Pt.Mps x.vd ys) (Pt.Slt x.vd ys) (Pt.Lns x.vd ys) h) ↔ Pt.Abv x.vd xs ys := by
  constructor
  · rintro ⟨h, hm, hh⟩
    refine ⟨hdP h, mem_cs.2 ⟨h, hm, rfl⟩, ?_⟩
    rcases hh with hh | ⟨h1, h2⟩
    · exact .inl hh
    · exact .inr ⟨(und_iff ..).1 h1, h2⟩
  · rintro ⟨q, hm, hh⟩
    obtain ⟨h, hm2, rfl⟩ := mem_cs.1 hm
    refine ⟨h, hm2, ?_⟩
    rcases hh with hh | ⟨h1, h2⟩
    · exact .inl hh
    · exact .inr ⟨(und_iff ..).2 h1, h2⟩
theorem prt_iff (x : VwT) (xs ys : List Int) : (srt (x.ts.map Th.ThT.id) = srt (xs ++ ys) ∧ NoTwin (srt (x.ts.map Th.ThT.id))) ↔ Pt.Prt x.vd xs ys := by
  have e : x.vd.ts.map (fun t => t.1) = x.ts.map Th.ThT.id := by show (x.ts.map _).map _ = _; rw [List.map_map]; rfl
  unfold Pt.Prt
  rw [e, srt_eq, srt_twin]
  exact ⟨fun ⟨h1, h2⟩ => ⟨h1.symm, h1.nodup_iff.1 h2⟩, fun ⟨h1, h2⟩ => ⟨h1.symm, h1.nodup_iff.1 h2⟩⟩
end Go.Proofs.YtgafamgacpglcaaGreat


/- part.parted: are two lists together all threads of a view, each once? -/
-- GU
set_option linter.unusedVariables false
set_option linter.unusedSimpArgs false
namespace Go.Proofs.YtgafamgacpglcaaGreat
open Go.RowKit
set_option maxRecDepth 20000
set_option pp.deepTerms false
set_option pp.deepTerms.threshold 4

theorem compactNil_any (l : List Chunk) : Fn Tryz.prog 44 [.slice none 0 0] l fun r l' => r = .slice none 0 0 ∧ l' = l := by
  refine fn_of_body Tryz.func44 rfl rfl fun E => ?_
  simp only [argF, Tryz.ntmps44]
  refine gzU ?_
  exact k_ret [] rfl .refl (by exact zRes) ⟨rfl, rfl⟩
theorem compactOwn_any (v : Value) (zs : List Int) (cs l : List Chunk) (ho : OwnSl 3 1 v zs.length (zs.map intQ) cs) (hn : zs.length ≤ 1000000) :
    Fn Tryz.prog 44 [v] (cs ++ l) fun r l' => ∃ n' a' c' cs', r = .slice a' n' c' ∧ (n' = zs.length ↔ NoTwin zs) ∧ l' = cs' ++ l := by
  rcases ho.2 with ⟨rfl, h0, rfl⟩ | ⟨b, cap, sp, rfl, rfl, h1, h2, h3⟩
  · obtain rfl : zs = [] := List.eq_nil_of_length_eq_zero h0
    exact (compactNil_any l).mono fun r l' ⟨h1, h2⟩ => ⟨0, none, 0, [], h1, ⟨fun _ i x y h1 _ => by simp at h1, fun _ => rfl⟩, h2⟩
  · refine (compact_any b cap zs _ (fun k x hk => ?_) ?_ hn h1 h2 l).mono ?_
    · rw [List.getElem?_toArray, List.getElem?_append_left (by rw [List.length_map]; exact (List.getElem?_eq_some_iff.1 hk).1), List.getElem?_map, hk]; rfl
    · simp
    · rintro r l' ⟨n', a', c', ys, h1, h2, rfl⟩
      exact ⟨n', a', c', [_], h1, h2, rfl⟩
theorem kp1 (cb cs l : List Chunk) (z : Chunk) : Keep (cb ++ z :: (cs ++ l)) (cs ++ (cb ++ l)) := keep_ac [z]
theorem kp2 (cb cs l : List Chunk) : Keep (cs ++ (cb ++ l)) (cb ++ (cs ++ l)) := keep_ac []
set_option maxHeartbeats 4000000 in
theorem parted_any (x : VwT) (c : List Value) (v1 v2 : Value) (xs ys : List Int) (l : List Chunk) (hV : VwIn l x c) (h1 : IntSl l v1 xs) (h2 : IntSl l v2 ys) (hx : xs.length ≤ 100) (hy : ys.length ≤ 100) :
    Fn Tryz.prog 15 [.agg (List.toArray c), v1, v2] l fun v l' => (∃ b, v = .bool b ∧ (b = true ↔ Pt.Prt x.vd xs ys)) ∧ l' = l := by
  have h1' := h1
  have h2' := h2
  obtain ⟨a1, ca1, rfl, _⟩ := h1'
  obtain ⟨a2, ca2, rfl, _⟩ := h2'
  obtain ⟨vo, vc, vt, vh, hC⟩ := hV.cells
  have hls := hV.ls
  obtain ⟨a, cap, hvh, hr⟩ := hC.s
  rw [List.length_map] at hvh hr
  subst hvh
  refine fn_of_body Tryz.func15 rfl rfl fun E => ?_
  simp only [argF, Tryz.ntmps15]
  refine gzU ?_
  refine t_e (e_boxA rfl) rfl rfl rfl ?_
  rintro _ _ ⟨b3, _, rfl, rfl⟩
  refine gzU ?_
  refine t_q (q_load rfl (.head _) hC.c3) rfl rfl rfl ?_
  refine gzU ?_
  refine k_loop (α := Nat × Value × List Chunk) (fun y => [(1, .slice a1 xs.length ca1), (2, .slice a2 ys.length ca2), (7, y.2.1), (12, .slice a x.ts.length cap), (13, .int .i64 (x.ts.length : Nat)), (14, .int .i64 y.1)]) (fun y => y.2.2 ++ l) (fun y => y.1 ≤ x.ts.length ∧ OwnSl 3 1 y.2.1 y.1 (((x.ts.take y.1).map Th.ThT.id).map intQ) y.2.2) (fun y => x.ts.length - y.1) (0, nilS, []) ⟨Nat.zero_le _, OwnSl.nil _ _⟩ ⟨rfl, rfl, rfl, rfl, rfl, rfl, trivial⟩ (.drop .refl) ?_
  rintro ⟨k, v, cs⟩ ⟨hk, ho⟩
  simp only at hk ho ⊢
  by_cases hlt : k < x.ts.length
  · obtain ⟨t, hit⟩ : ∃ t, x.ts[k]? = some t := ⟨_, List.getElem?_eq_getElem hlt⟩
    obtain ⟨bB, off, rw_, tt, fz, rfl, hmr, hrow⟩ := hr (by omega)
    obtain ⟨x1, x2, _⟩ := hrow k (Th.encH t) (by rw [List.getElem?_map, hit]; rfl)
    have htk : x.ts.take (k + 1) = x.ts.take k ++ [t] := by rw [List.take_add_one, hit]; rfl
    have hv3 := ho.one
    refine gzU ?_
    refine t_q (q_loadA rfl (List.mem_append_right _ hmr) x1 x2) rfl rfl rfl ?_
    refine gzU ?_
    refine t_e e_alloc rfl rfl rfl ?_; rintro _ _ ⟨b9, _, rfl, rfl⟩
    refine gzU ?_
    refine t_e (e_lit1 (v := intQ t.id) rfl rfl) rfl rfl rfl ?_
    rintro _ _ ⟨bl, _, rfl, rfl⟩
    refine t_e (e_appX (k := 1) (X := [_]) (ws := [intQ t.id]) (zs := [.int .i64 0]) rfl rfl rfl ho rfl (by simp [Value.oneCell', intQ]) (by omega) (by decide)) rfl rfl rfl ?_
    rintro v' _ ⟨c2, ho2, rfl⟩
    have hv4 : v'.oneCell' = true := ho2.one
    refine gzU ?_
    refine k_next (k + 1, v', c2) ⟨by simp only; omega, ?_⟩ (by simp only; omega) ⟨rfl, rfl, rfl, rfl, rfl, rfl, trivial⟩ (.drop .refl)
    simp only [htk, List.map_append, List.map_cons, List.map_nil]
    exact ho2
  obtain rfl : k = x.ts.length := by omega
  rw [List.take_length] at ho
  have hv3 := ho.one
  refine gzU ?_
  refine t_e (e_litN (z0 := .slice none 0 0) (cs := [.slice a1 xs.length ca1, .slice a2 ys.length ca2]) rfl (by decide) (by decide) rfl) rfl rfl rfl ?_
  rintro _ _ ⟨bl, _, rfl, rfl⟩
  refine t_e (e_call0 rfl rfl (concat_any _ _ xs ys bl _ (h1.mono fun q hq => .tail _ (List.mem_append_right _ hq)) (h2.mono fun q hq => .tail _ (List.mem_append_right _ hq)) (.head _) (by omega) (by omega))) rfl rfl rfl ?_
  rintro vb _ ⟨cb, hob, rfl⟩
  have hv5 : vb.oneCell' = true := hob.one
  obtain ⟨pb, cpb, rfl⟩ := hob.shape
  refine gzU ?_
  obtain ⟨ids, hids⟩ : ∃ ids, ids = x.ts.map Th.ThT.id := ⟨_, rfl⟩
  have hil : ids.length = x.ts.length := by rw [hids, List.length_map]
  rw [← hids] at ho
  have hPi := prt_iff x xs ys
  rw [← hids] at hPi
  have ho' : OwnSl 3 1 v ids.length (ids.map intV) cs := by rw [hil]; exact ho
  refine s_keep (l' := cs ++ (cb ++ l)) (kp1 ..) ?_
  refine t_e (e_call rfl rfl (sortOwn_any v ids cs _ ho' (by omega))) rfl rfl rfl ?_
  rintro _ _ ⟨rfl, cs', ho2, rfl⟩
  refine gzU ?_
  refine s_keep (l' := cb ++ (cs' ++ l)) (kp2 ..) ?_
  refine t_e (e_call rfl rfl (sortOwn_any _ (xs ++ ys) cb _ hob (by rw [List.length_append]; omega))) rfl rfl rfl ?_
  rintro _ _ ⟨rfl, cb', hob2, rfl⟩
  refine gzU ?_
  refine s_keep (l' := cs' ++ (cb' ++ l)) (kp2 ..) ?_
  refine t_q (q_call rfl rfl (fun l2 hl => equalI_any v _ (srt ids) (srt (xs ++ ys)) l2 (OwnSl.intsQ ho2 fun q hq => hl _ (List.mem_append_left _ hq)) (OwnSl.intsQ hob2 fun q hq => hl _ (List.mem_append_right _ (List.mem_append_left _ hq))) (by rw [srt_len]; omega))) rfl rfl rfl ?_
  by_cases he : srt ids = srt (xs ++ ys)
  case neg =>
    rw [decide_eq_false he]
    refine gzU ?_
    exact k_ret [] rfl (l' := l) (.dropL _ (.dropL _ .refl)) (by exact zRes) ⟨⟨false, rfl, fun h => (nomatch h), fun h => absurd (hPi.2 h).1 he⟩, rfl⟩
  rw [decide_eq_true he]
  refine gzU ?_
  refine t_eh (e_call rfl rfl (compactOwn_any v (srt ids) cs' _ ho2 (by rw [srt_len]; omega))) rfl rfl rfl ?_
  rintro _ _ ⟨n', a', c', cs2, rfl, hn', rfl⟩
  refine gzU ?_
  have hl2 : (srt ids).length = (xs ++ ys).length := by rw [he, srt_len]
  refine k_ret [] rfl (l' := l) (.dropL _ (.dropL _ .refl)) (by exact zRes) ⟨⟨_, rfl, ?_⟩, rfl⟩
  rw [decide_eq_true_iff, ← hPi, ← hn', hl2]
  exact ⟨fun h => ⟨he, by omega⟩, fun h => by omega⟩
end Go.Proofs.YtgafamgacpglcaaGreat


/- Effects that only add blocks, none of which looks at another's result, in any order. Laws of my own, no program's. -/
set_option linter.unusedVariables false
set_option linter.unusedSimpArgs false
namespace Go.Proofs.YtgafamgacpglcaaGreat
open Go.RowKit

section
variable {P : Program} {ro : Option Nat} {N : Nat} {E : World} {ops : Array Oper} {Q : Exit → Act → World → Prop} {R : List Chunk} {tbl : List (List Nat)}
def swOf (L : List (Nat × Nat)) : Sw := if L.isEmpty then none else some L
def offL (L : List (Nat × Nat)) (j : Nat) : List (Nat × Nat) := L.filter fun p => p.1 != j && p.2 != j
/-- whichever comes first: what is left is in order -/
def anyOk (ops : Array Oper) (tbl : List (List Nat)) (rest : List PlanOp) : Nat → List (Nat × Nat) → List PlanOp → Bool
  | 0, _, _ => false
  | n + 1, L, xs => if L.isEmpty then true else match xs with
    | [] => false
    | x :: r => L.all (fun p => (x :: r).any fun y => y.1 == p.2) && (x :: r).all fun y => !(y.1 == x.1 || L.contains (x.1, y.1)) || (pairsOk ops tbl (swOf (offL L y.1)) ((x :: r).eraseP (fun z => z.1 == y.1) ++ rest) && swIn (swOf (offL L y.1)) ((x :: r).eraseP (fun z => z.1 == y.1) ++ rest) && anyOk ops tbl rest n (offL L y.1) ((x :: r).eraseP fun z => z.1 == y.1))
theorem addK_app {k : Fr → List Chunk → Prop} : ∀ {A B : List AdS} {fr : Fr} {l : List Chunk}, AddK (A ++ B) fr l k ↔ AddK A fr l (fun fr' l' => AddK B fr' l' k)
  | [], _, _, _ => Iff.rfl
  | x :: A, B, fr, l => ⟨fun h v cs hv => addK_app.1 (h v cs hv), fun h v cs hv => addK_app.2 (h v cs hv)⟩
theorem addK_pick {k : Fr → List Chunk → Prop} (hk : Inv k) {A B : List AdS} {y : AdS} {d : Nat} (hd : y.2.1.dst = some d) (hA : ∀ x, x ∈ A → ∃ e, x.2.1.dst = some e ∧ e ≠ d) {fr : Fr} {l : List Chunk} (h : AddK (A ++ y :: B) fr l k) : AddK (y :: (A ++ B)) fr l k := by
  have h2 : AddK (A ++ [y]) fr l (fun fr' l' => AddK B fr' l' k) := by rw [show A ++ y :: B = (A ++ [y]) ++ B by simp] at h; exact addK_app.1 h
  have h3 := AddK.first (k := fun fr' l' => AddK B fr' l' k) (fun fr fr' l l' h1 h2 h => AddK.inv hk h1 h2 h) hd hA h2
  exact fun v cs hv => addK_app.2 (h3 v cs hv)
theorem pl_anyA {sp : Spec} {ds : List Deferred} {rest : List PlanOp} {fr0 : Fr} {l0 : List Chunk} (hR : ∀ c, c ∈ R → c ∈ l0) (hS : ∀ x, x ∈ sp → ∀ c, c ∈ x.2 → c ∈ l0) : ∀ (n : Nat) (L : List (Nat × Nat)) (xs : List AdS) {fr : Fr} {l : List Chunk}, FLe fr0 fr → (∀ c, c ∈ l0 → c ∈ l) → (∀ x, x ∈ xs → IsAd P ro N fr0 l0 x) → (xs.map fun x => x.2.1.dst).Nodup → anyOk ops tbl rest n L (xs.map plA) = true →
    AddK xs fr l (fun fr' l' => PlanS P ro N E ops Q R tbl none sp rest fr' ds l') → PlanS P ro N E ops Q R tbl (swOf L) sp (xs.map plA ++ rest) fr ds l := by
  have hInv : Inv (fun fr' l' => PlanS P ro N E ops Q R tbl none sp rest fr' ds l') := fun fr fr' l l' h1 h2 h => pl_perm h2 (.weak h1 h)
  intro n
  induction n with
  | zero => intro L xs fr l _ _ _ _ h; cases h
  | succ n ih =>
    intro L xs fr l h1 h2 hx hn hok hk
    have hfn : ∀ x, x ∈ xs → ∀ d, x.2.1.dst = some d → flook fr0 d = none := fun x hxm d hd => by
      obtain ⟨d', hd', _, h⟩ := (hx x hxm).dst; rw [hd] at hd'; cases hd'; exact h
    by_cases hL : L.isEmpty = true
    · unfold swOf
      rw [if_pos hL]
      exact pl_seqA xs h1 h2 hx hn hfn hR hS hk
    · have hsw : swOf L = some L := by unfold swOf; rw [if_neg hL]
      rw [hsw]
      unfold anyOk at hok
      rw [if_neg hL] at hok
      cases xs with
      | nil => cases hok
      | cons x r =>
        simp only [List.map_cons, Bool.and_eq_true] at hok
        obtain ⟨hok1, hok2⟩ := hok
        have hin : ∀ j, swOk (some L) x.1 j = true → ∃ y, y ∈ x :: r ∧ y.1 = j := fun j hj => by
          simp only [swOk, List.contains_iff_mem] at hj
          obtain ⟨z, hz, e⟩ := List.any_eq_true.1 (List.all_eq_true.1 hok1 _ hj)
          rw [← List.map_cons (f := plA)] at hz
          obtain ⟨y, hy, rfl⟩ := List.mem_map.1 hz
          exact ⟨y, hy, by simpa using e⟩
        have key : ∀ j, Cand tbl (some L) x.1 (r.map plA ++ rest) j → ∃ y A B, y.1 = j ∧ x :: r = A ++ y :: B ∧ (x :: r).find? (fun z => z.1 == j) = some y ∧ (x :: r).eraseP (fun z => z.1 == j) = A ++ B ∧ pairsOk ops tbl (swOf (offL L j)) ((A ++ B).map plA ++ rest) = true ∧ swIn (swOf (offL L j)) ((A ++ B).map plA ++ rest) = true ∧ anyOk ops tbl rest n (offL L j) ((A ++ B).map plA) = true := fun j hj => by
          have hm : ∃ y, y ∈ x :: r ∧ y.1 = j := by
            rcases hj with h | ⟨h, _⟩
            · exact ⟨x, List.mem_cons_self, h.symm⟩
            · exact hin j h
          obtain ⟨y0, hy0, e0⟩ := hm
          obtain ⟨y, A, B, hA, hy, hxs, he⟩ := List.exists_of_eraseP (p := fun z : AdS => z.1 == j) hy0 (by simpa using e0)
          have hyj : y.1 = j := by simpa using hy
          have hmem : plA y ∈ plA x :: r.map plA := by rw [← List.map_cons (f := plA)]; exact List.mem_map_of_mem (by rw [hxs]; simp)
          have h3 := List.all_eq_true.1 hok2 _ hmem
          have h4 : ((plA y).1 == (plA x).1 || L.contains ((plA x).1, (plA y).1)) = true := by
            show (y.1 == x.1 || L.contains (x.1, y.1)) = true
            rw [hyj]
            rcases hj with h | ⟨h, _⟩
            · simp [h]
            · rw [Bool.or_eq_true]; exact .inr h
          have he2 : (plA x :: r.map plA).eraseP (fun z => z.1 == (plA y).1) = (A ++ B).map plA := by
            rw [← List.map_cons (f := plA), List.eraseP_map, ← he]
            congr 2
            show (fun z : AdS => z.1 == y.1) = _
            rw [hyj]
          rw [h4, Bool.not_true, Bool.false_or, he2] at h3
          simp only [Bool.and_eq_true] at h3
          have e5 : (plA y).1 = j := hyj
          rw [e5] at h3
          exact ⟨y, A, B, hyj, hxs, List.find?_eq_some_iff_append.2 ⟨hy, A, B, hxs, fun a ha => by have := hA a ha; simpa using this⟩, he, h3.1.1, h3.1.2, h3.2⟩
        refine .alt (fun j => (((x :: r).find? fun z => z.1 == j).getD x).2.1) (fun j v l2 => ∃ cs, (((x :: r).find? fun z => z.1 == j).getD x).2.2 v cs ∧ l2 = cs ++ l) (fun j => ((x :: r).eraseP fun z => z.1 == j).map plA ++ rest) (fun j => swOf (offL L j)) (fun j hj => ?_) (fun j hj => ?_) (fun j hj => ?_) fun j hj => ?_
        all_goals obtain ⟨y, A, B, hyj, hxs, hf, he, q1, q2, q3⟩ := key j hj
        all_goals simp only [hf, he, Option.getD_some]
        · refine ⟨?_, q1, q2⟩
          have : ((x :: r).map plA).Perm (plA y :: (A ++ B).map plA) := by rw [hxs]; simp
          rw [← hyj]
          exact (this.symm.append_right rest : (plA y :: (A ++ B).map plA ++ rest).Perm ((x :: r).map plA ++ rest))
        all_goals have hym : y ∈ x :: r := by rw [hxs]; simp
        all_goals have hI := hx y hym
        all_goals obtain ⟨d, hd, hb, hfd⟩ := hI.dst
        · exact ⟨hI.law fr l h1 h2, by rw [hI.guard]; rfl, by rw [hd]; exact hb⟩
        · rintro v l' ⟨cs, _, rfl⟩
          exact ⟨fun c hc => List.mem_append_right _ (h2 _ (hR c hc)), fun z hz _ c hc => List.mem_append_right _ (h2 _ (hS z hz c hc))⟩
        · rintro v l' ⟨cs, hv, rfl⟩
          rw [hxs] at hn hk
          have hsubm : ∀ z, z ∈ A ++ B → z ∈ x :: r := fun z hz => by rw [hxs]; rcases List.mem_append.1 hz with h | h <;> simp [h]
          have hn2 : ((A ++ B).map fun x => x.2.1.dst).Nodup := by
            have hp : ((A ++ y :: B).map fun x => x.2.1.dst).Perm (y.2.1.dst :: (A ++ B).map fun x => x.2.1.dst) := by simp
            exact (List.nodup_cons.1 (hp.nodup_iff.1 hn)).2
          refine ih (offL L j) (A ++ B) (by rw [hd]; exact h1.low hfd) (fun c hc => List.mem_append_right _ (h2 c hc)) (fun z hz => hx z (hsubm z hz)) hn2 q3 ?_
          refine addK_pick hInv hd (fun z hz => ?_) hk v cs hv
          obtain ⟨e, hde, _⟩ := (hx z (hsubm z (List.mem_append_left _ hz))).dst
          refine ⟨e, hde, fun e1 => ?_⟩
          rw [List.map_append, List.nodup_append] at hn
          exact hn.2.2 z.2.1.dst (List.mem_map.2 ⟨z, hz, rfl⟩) y.2.1.dst (List.mem_map.2 ⟨y, List.mem_cons_self, rfl⟩) (by rw [hde, hd, e1])
/-- effects that add blocks, in any order that the open pairs L allow -/
theorem pl_any {sp : Spec} {ds : List Deferred} {rest pl : List PlanOp} {L : List (Nat × Nat)} {fr : Fr} {l : List Chunk} (xs : List AdS) (hpl : xs.map plA ++ rest = pl) (hL : L.isEmpty = false) (hR : ∀ c, c ∈ R → c ∈ l) (hS : ∀ x, x ∈ sp → ∀ c, c ∈ x.2 → c ∈ l) (hx : AllAd P ro N fr l xs) (hn : ndB (xs.map fun x => x.2.1.dst) = true) (hok : anyOk ops tbl rest (xs.length + 1) L (xs.map plA) = true)
    (hk : AddK xs fr l (fun fr' l' => PlanS P ro N E ops Q R tbl none sp rest fr' ds l')) : PlanS P ro N E ops Q R tbl (some L) sp pl fr ds l := by
  subst hpl
  have := pl_anyA (E := E) hR hS (xs.length + 1) L xs (fun _ _ h => h) (fun _ h => h) hx.mem (ndB_spec hn) hok hk
  unfold swOf at this
  rw [hL] at this
  exact this
end
end Go.Proofs.YtgafamgacpglcaaGreat


/- part.Apart: are two groups apart? -/
-- GU
set_option linter.unusedVariables false
set_option linter.unusedSimpArgs false
namespace Go.Proofs.YtgafamgacpglcaaGreat
open Go.RowKit
set_option maxRecDepth 20000
set_option pp.deepTerms false
set_option pp.deepTerms.threshold 4

/-- a statement's truth, as a bool -/
noncomputable def cB (p : Prop) : Bool := @decide p (Classical.propDecidable p)
theorem cB_iff {p : Prop} : cB p = true ↔ p := @decide_eq_true_iff p (Classical.propDecidable p)
theorem Fn.cB {P : Program} {f : FuncId} {args : List Value} {l : List Chunk} {p : Prop} (h : Fn P f args l fun v l' => (∃ b, v = .bool b ∧ (b = true ↔ p)) ∧ l' = l) : Fn P f args l fun v l' => v = .bool (Go.Proofs.YtgafamgacpglcaaGreat.cB p) ∧ l' = l :=
  h.mono fun v l' ⟨⟨b, h1, h2⟩, h3⟩ => ⟨by rw [h1]; congr 1; exact Bool.eq_iff_iff.2 (h2.trans cB_iff.symm), h3⟩
theorem apt_c (V : Pt.VD) (wr : Pt.HD → Bool) (xs ys : List Int) : cB (Pt.Apt V wr xs ys) = (cB (Pt.Prt V xs ys) && (cB (Pt.Disj V xs ys) && (!cB (Pt.Wrt V wr xs ys) && (!cB (Pt.Abv V xs ys) && !cB (Pt.Abv V ys xs))))) := by
  apply Bool.eq_iff_iff.2
  simp only [cB_iff, Bool.and_eq_true, Bool.not_eq_true', ← Bool.not_eq_true, Pt.Apt]
section
variable (x : VwT) (c : List Value) (xs ys : List Int) (m1 m2 m3 n1 n2 n3 : Nat) (c1 c2 c3 d1 d2 d3 : Chunk) (l : List Chunk) (hV : VwIn l x c)
include hV
theorem disjoint_c (h1 : StI m1 (Pt.Lns x.vd xs) c1) (k1 : StI n1 (Pt.Lns x.vd ys) d1) (j1 : c1 ∈ l) (i1 : d1 ∈ l) : Fn Tryz.prog 17 [.agg (List.toArray c), .agg (List.toArray (sdV m1 m2 m3)), .agg (List.toArray (sdV n1 n2 n3))] l fun v l' => v = .bool (cB (Pt.Disj x.vd xs ys)) ∧ l' = l :=
  Fn.cB (disjoint_any x c m1 m2 m3 n1 n2 n3 _ _ c1 d1 h1 k1 l hV j1 i1)
theorem written_c (h2 : StS m2 (Pt.Slt x.vd xs) c2) (h3 : StS m3 (Pt.Mps x.vd xs) c3) (k2 : StS n2 (Pt.Slt x.vd ys) d2) (k3 : StS n3 (Pt.Mps x.vd ys) d3) (j2 : c2 ∈ l) (j3 : c3 ∈ l) (i2 : d2 ∈ l) (i3 : d3 ∈ l) : Fn Tryz.prog 18 [.agg (List.toArray c), .agg (List.toArray (sdV m1 m2 m3)), .agg (List.toArray (sdV n1 n2 n3))] l fun v l' => v = .bool (cB (Pt.Wrt x.vd wrP xs ys)) ∧ l' = l := by
  rw [← show (∃ f, WrtT x (Pt.Slt x.vd xs) (Pt.Mps x.vd xs) (Pt.Slt x.vd ys) (Pt.Mps x.vd ys) f) = Pt.Wrt x.vd wrP xs ys from propext (wrt_iff x xs ys)]
  exact Fn.cB (written_any x c m1 m2 m3 n1 n2 n3 _ _ _ _ c2 c3 d2 d3 h2 h3 k2 k3 l hV j2 j3 i2 i3)
theorem above_c (h2 : StS m2 (Pt.Slt x.vd xs) c2) (k1 : StI n1 (Pt.Lns x.vd ys) d1) (k2 : StS n2 (Pt.Slt x.vd ys) d2) (k3 : StS n3 (Pt.Mps x.vd ys) d3) (j2 : c2 ∈ l) (i1 : d1 ∈ l) (i2 : d2 ∈ l) (i3 : d3 ∈ l) : Fn Tryz.prog 19 [.agg (List.toArray c), .agg (List.toArray (sdV m1 m2 m3)), .agg (List.toArray (sdV n1 n2 n3))] l fun v l' => v = .bool (cB (Pt.Abv x.vd xs ys)) ∧ l' = l := by
  rw [← show (∃ h, h ∈ x.hs ∧ AbvH x (Pt.Slt x.vd xs) (UndTo x.tr (Pt.Slt x.vd xs) x.tr.length) (Pt.Mps x.vd ys) (Pt.Slt x.vd ys) (Pt.Lns x.vd ys) h) = Pt.Abv x.vd xs ys from propext (abv_iff x xs ys)]
  exact Fn.cB (above_any x c m1 m2 m3 n1 n2 n3 _ _ _ _ c2 d1 d2 d3 h2 k1 k2 k3 l hV j2 i1 i2 i3)
end
/-- what sideOf gives: a side, in three blocks -/
def SdI (x : VwT) (xs : List Int) (v : Value) (cs : List Chunk) : Prop := ∃ m1 m2 m3 c1 c2 c3, v = .agg (List.toArray (sdV m1 m2 m3)) ∧ StI m1 (Pt.Lns x.vd xs) c1 ∧ StS m2 (Pt.Slt x.vd xs) c2 ∧ StS m3 (Pt.Mps x.vd xs) c3 ∧ cs = [c1, c2, c3]
theorem side_ad (x : VwT) (c : List Value) (vt : Value) (ths : List Int) (l : List Chunk) (hV : VwIn l x c) (hth : IntSl l vt ths) (hn : ths.length ≤ 100) :
    Fn Tryz.prog 16 [.agg (List.toArray c), vt] l fun v l' => ∃ cs, SdI x ths v cs ∧ l' = cs ++ l :=
  (sideOf_any x c vt ths l hV hth hn).mono fun v l' ⟨m1, m2, m3, c1, c2, c3, h1, h2, h3, h4, h5⟩ => ⟨[c1, c2, c3], ⟨m1, m2, m3, c1, c2, c3, h1, h2, h3, h4, rfl⟩, h5⟩
set_option maxHeartbeats 4000000 in
theorem Apart_any (x : VwT) (c : List Value) (v1 v2 : Value) (xs ys : List Int) (l : List Chunk) (hV : VwIn l x c) (h1 : IntSl l v1 xs) (h2 : IntSl l v2 ys) (hx : xs.length ≤ 100) (hy : ys.length ≤ 100) :
    Fn Tryz.prog 8 [.agg (List.toArray c), v1, v2] l fun v l' => v = .bool (cB (Pt.Apt x.vd wrP xs ys)) ∧ l' = l := by
  have hv1 : v1.oneCell' = true := by obtain ⟨a, ca, rfl, _⟩ := h1; rfl
  have hv2 : v2.oneCell' = true := by obtain ⟨a, ca, rfl, _⟩ := h2; rfl
  obtain ⟨vo, vc, vt, vh, hC⟩ := hV.cells
  have hA := apt_c x.vd wrP xs ys
  refine fn_of_body Tryz.func8 rfl rfl fun E => ?_
  simp only [argF, Tryz.ntmps8]
  refine gzU ?_
  refine t_e (e_boxA rfl) rfl rfl rfl ?_
  rintro _ _ ⟨b3, _, rfl, rfl⟩
  refine gzU ?_
  refine t_q (q_loadL rfl (.head _) (As.LSub.of_all (n := 86) _ hC.len)) rfl rfl rfl ?_
  refine gzU ?_
  refine t_q (q_call rfl rfl (fun l2 hl => Fn.cB (parted_any x c v1 v2 xs ys l2 (hV.mono fun q hq => hl _ (.tail _ hq)) (h1.mono fun q hq => hl _ (.tail _ hq)) (h2.mono fun q hq => hl _ (.tail _ hq)) hx hy))) rfl rfl rfl ?_
  cases hP : cB (Pt.Prt x.vd xs ys) with
  | false =>
    rw [hP, Bool.false_and] at hA
    refine gzU ?_
    exact k_ret [] rfl (l' := l) (.drop .refl) (by exact zRes) ⟨by rw [hA]; rfl, rfl⟩
  | true =>
  rw [hP, Bool.true_and] at hA
  refine gzU ?_
  refine c_drawL [(0, true), (1, true), (3, true), (4, true), (2, false), (5, false), (6, false), (7, false), (8, false), (9, false)] [[], [], [0, 1], [], [], [0, 1, 2, 3, 4], [], [], [0, 1, 2, 3, 4, 5, 6, 7], [0, 1, 2, 3, 4, 5, 6, 7, 8]] (some [(2, 6), (2, 7), (5, 6), (5, 7), (6, 7)]) _ (by kernel_rfl) (by kernel_rfl) zAtt (fun _ h => h) ?_
  refine pzU ?_
  apply pl_q
  · exact q_loadL rfl (.head _) (As.LSub.of_all (n := 86) _ hC.len)
  · rfl
  · rfl
  · rfl
  refine pzU ?_
  apply pl_q
  · exact q_loadL rfl (.head _) (As.LSub.of_all (n := 86) _ hC.len)
  · rfl
  · rfl
  · rfl
  refine pzU ?_
  refine pl_any [(2, _, fun v cs => SdI x xs v cs), (5, _, fun v cs => SdI x ys v cs), (6, _, fun v cs => ∃ b, v = .pointer (some ⟨b, 0, none⟩) ∧ cs = [sd0 b]), (7, _, fun v cs => ∃ b, v = .pointer (some ⟨b, 0, none⟩) ∧ cs = [sd0 b])] rfl rfl (fun _ h => h) (fun _ h => by cases h) ⟨ad_call rfl rfl (fun l' hl => side_ad x c v1 xs l' (hV.mono fun q hq => hl _ (.tail _ hq)) (h1.mono fun q hq => hl _ (.tail _ hq)) hx) rfl rfl, ad_call rfl rfl (fun l' hl => side_ad x c v2 ys l' (hV.mono fun q hq => hl _ (.tail _ hq)) (h2.mono fun q hq => hl _ (.tail _ hq)) hy) rfl rfl, ad_alloc rfl rfl, ad_alloc rfl rfl, trivial⟩ (by kernel_rfl) (by kernel_rfl) ?_
  rintro _ _ ⟨m1, m2, m3, c1, c2, c3, rfl, p1, p2, p3, rfl⟩ _ _ ⟨n1, n2, n3, d1, d2, d3, rfl, r1, r2, r3, rfl⟩ _ _ ⟨b7, rfl, rfl⟩ _ _ ⟨b8, rfl, rfl⟩
  simp only [putF, AddK, List.cons_append, List.nil_append]
  apply pl_n
  · refine e_storeA (cs := List.toArray [.map none, .map none, .map none]) (T := 52) (l' := sd0 b8 :: sdB b7 m1 m2 m3 :: d1 :: d2 :: d3 :: c1 :: c2 :: c3 :: vwB b3 c :: l) rfl rfl rfl (by simp [Value.oneCell']) ?_ (Nat.le_refl 3)
    rw [List.toList_toArray, As.setFrom_all [.map none, .map none, .map none] (sdV m1 m2 m3) rfl]
    exact .there .here
  · rfl
  · rfl
  · rintro _ _ ⟨_, rfl⟩ q hq; exact .tail _ (.tail _ (.tail _ (.tail _ (.tail _ (.tail _ (.tail _ (.tail _ hq)))))))
  rintro _ _ ⟨rfl, rfl⟩
  refine pzU ?_
  obtain ⟨L, hL⟩ : ∃ L, L = sdB b8 n1 n2 n3 :: sdB b7 m1 m2 m3 :: d1 :: d2 :: d3 :: c1 :: c2 :: c3 :: vwB b3 c :: l := ⟨_, rfl⟩
  refine p_keep (l' := L) (by rw [hL]; exact .refl) ?_
  have hkeep : Keep L l := by rw [hL]; exact .drop (.drop (.drop (.drop (.drop (.drop (.drop (.drop (.drop .refl))))))))
  have hsub : ∀ q, q ∈ l → q ∈ L := fun q hq => by rw [hL]; exact .tail _ (.tail _ (.tail _ (.tail _ (.tail _ (.tail _ (.tail _ (.tail _ (.tail _ hq))))))))
  have hVL := hV.mono hsub
  have mv : vwB b3 c ∈ L := by rw [hL]; exact .tail _ (.tail _ (.tail _ (.tail _ (.tail _ (.tail _ (.tail _ (.tail _ (.head _))))))))
  have mx : sdB b7 m1 m2 m3 ∈ L := by rw [hL]; exact .tail _ (.head _)
  have my : sdB b8 n1 n2 n3 ∈ L := by rw [hL]; exact .head _
  have j1 : c1 ∈ L := by rw [hL]; simp
  have j2 : c2 ∈ L := by rw [hL]; simp
  have j3 : c3 ∈ L := by rw [hL]; simp
  have i1 : d1 ∈ L := by rw [hL]; simp
  have i2 : d2 ∈ L := by rw [hL]; simp
  have i3 : d3 ∈ L := by rw [hL]; simp
  clear hL hsub
  refine gzU ?_
  refine t_q (q_loadL rfl mv (As.LSub.of_all (n := 86) _ hC.len)) rfl rfl rfl ?_
  refine gzU ?_
  refine t_q (q_call rfl rfl (fun l2 hl => disjoint_c x c xs ys m1 m2 m3 n1 n2 n3 c1 d1 l2 (hVL.mono hl) p1 r1 (hl _ j1) (hl _ i1))) rfl rfl rfl ?_
  cases h4 : cB (Pt.Disj x.vd xs ys) with
  | false =>
    rw [h4] at hA
    refine gzU ?_
    exact k_ret [] rfl (l' := l) hkeep (by exact zRes) ⟨by rw [hA]; rfl, rfl⟩
  | true =>
  rw [h4] at hA
  refine gzU ?_
  refine t_h (q_loadL rfl mv (As.LSub.of_all (n := 86) _ hC.len)) rfl rfl rfl ?_
  refine gzU ?_
  refine t_h (q_call rfl rfl (fun l2 hl => written_c x c xs ys m1 m2 m3 n1 n2 n3 c2 c3 d2 d3 l2 (hVL.mono hl) p2 p3 r2 r3 (hl _ j2) (hl _ j3) (hl _ i2) (hl _ i3))) rfl rfl rfl ?_
  cases h5 : cB (Pt.Wrt x.vd wrP xs ys) with
  | true =>
    rw [h5] at hA
    refine gzU ?_
    exact k_ret [] rfl (l' := l) hkeep (by exact zRes) ⟨by rw [hA]; rfl, rfl⟩
  | false =>
  rw [h5] at hA
  refine gzU ?_
  refine t_h (q_loadL rfl mv (As.LSub.of_all (n := 86) _ hC.len)) rfl rfl rfl ?_
  refine gzU ?_
  refine t_h (q_call rfl rfl (fun l2 hl => above_c x c xs ys m1 m2 m3 n1 n2 n3 c2 d1 d2 d3 l2 (hVL.mono hl) p2 r1 r2 r3 (hl _ j2) (hl _ i1) (hl _ i2) (hl _ i3))) rfl rfl rfl ?_
  cases h6 : cB (Pt.Abv x.vd xs ys) with
  | true =>
    rw [h6] at hA
    refine gzU ?_
    exact k_ret [] rfl (l' := l) hkeep (by exact zRes) ⟨by rw [hA]; rfl, rfl⟩
  | false =>
  rw [h6] at hA
  refine gzU ?_
  refine t_h (q_loadL rfl mv (As.LSub.of_all (n := 86) _ hC.len)) rfl rfl rfl ?_
  refine gzU ?_
  refine t_h (q_call rfl rfl (fun l2 hl => above_c x c ys xs n1 n2 n3 m1 m2 m3 d2 c1 c2 c3 l2 (hVL.mono hl) r2 p1 p2 p3 (hl _ i2) (hl _ j1) (hl _ j2) (hl _ j3))) rfl rfl rfl ?_
  cases h7 : cB (Pt.Abv x.vd ys xs) with
  | true =>
    rw [h7] at hA
    refine gzU ?_
    exact k_ret [] rfl (l' := l) hkeep (by exact zRes) ⟨by rw [hA]; rfl, rfl⟩
  | false =>
    rw [h7] at hA
    refine gzU ?_
    exact k_ret [] rfl (l' := l) hkeep (by exact zRes) ⟨by rw [hA]; rfl, rfl⟩
end Go.Proofs.YtgafamgacpglcaaGreat


/- What came in, opened: a struct whose fields are flat or slices of flat rows. -/
set_option linter.unusedVariables false
set_option linter.unusedSimpArgs false
namespace Go.Proofs.YtgafamgacpglcaaGreat
open Go.ChangeShapes Go.WideShapes Go.ChangeAt Go.RowKit Go.Deep

/-- a field's cells: flat, or one slice of flat rows -/
inductive FK
  | flat (ks : List (Option IntKind))
  | rows (ks : List (Option IntKind))
def MixIs (w : World) : List FK → List Value → Prop
  | [], cs => cs = []
  | .flat ks :: r, cs => ∃ x y, cs = x ++ y ∧ AllIs ks x ∧ MixIs w r y
  | .rows ks :: r, cs => ∃ a n cap rows y, cs = .slice a n cap :: y ∧ IsRows ks w a n cap rows ∧ MixIs w r y
def mixF (P : Program) (n tot : Nat) : List Field → Nat → Option (List FK)
  | [], o => if o = tot then some [] else none
  | f :: fs, o => if f.offset = o then
      match P.underlying f.type with
      | some (.slice e) => (flatK P n e).bind fun ks => if ks.length = P.cellsOf e ∧ 0 < P.cellsOf e ∧ P.cellsOf f.type = 1 then (mixF P n tot fs (o + 1)).map fun r => .rows ks :: r else none
      | _ => (flatK P n f.type).bind fun ks => if ks.length = P.cellsOf f.type then (mixF P n tot fs (o + ks.length)).map fun r => .flat ks :: r else none
    else none
def mixK (P : Program) (n : Nat) (t : TypeId) : Option (List FK) := match P.underlying t with
  | some (.struct fs) => mixF P n (P.cellsOf t) fs.toList 0
  | _ => none
section
variable {H : Type} {enc : TypeId × Value → H} {P : Program} {w : World} {base : Nat} {spare : Nat → Bool} {held : Bool}
theorem rows_open {t e : TypeId} {fuel : Nat} {cs : List Value} {x : DataW H × List MemPlace} {ks : List (Option IntKind)} (n : Nat) (ht : P.underlying t = some (.slice e)) (hk : flatK P n e = some ks) (hkl : ks.length = P.cellsOf e) (hpos : 0 < P.cellsOf e) (hf : DataW.trod enc P w base spare held fuel t cs = some x) :
    ∃ a len cap rows, cs = [.slice a len cap] ∧ IsRows ks w a len cap rows := by
  rcases open_slice ht hf with ⟨rfl, _⟩ | ⟨a, len, cap, m, n', D, Pl, rfl, hb, hl, hm, hmm, _, hel⟩
  · exact ⟨none, 0, 0, [], rfl, ⟨fun _ => ⟨rfl, rfl⟩, Nat.le_refl _, Nat.zero_le _, rfl, by simp, by simp⟩⟩
  · have hlm : len ≤ m := by rw [hmm]; split <;> omega
    have hch : ∀ i, i < len → ∃ cs', w.cells? base (a.add (i * P.cellsOf e)) (P.cellsOf e) = some cs' ∧ AllIs ks cs' := fun i hi => by
      obtain ⟨cs', h1, h2⟩ := hel i (by omega)
      exact ⟨cs', h1, flat_open n e n' cs' _ ks h2 hk⟩
    refine ⟨some a, len, cap, (List.range len).map fun i => (w.cells? base (a.add (i * P.cellsOf e)) (P.cellsOf e)).getD [], rfl, ⟨by simp, hl, hm, by simp, ?_, ?_⟩⟩
    · intro r hr
      obtain ⟨i, hi, rfl⟩ := List.mem_map.1 hr
      obtain ⟨cs', h1, h2⟩ := hch i (by simpa using hi)
      rw [h1]; exact h2
    · intro h0
      obtain ⟨cs0, h1, h2⟩ := hch 0 h0
      obtain ⟨_, hl0, hc0⟩ := World.cells?_some h1
      have hc00 := hc0 0 hpos
      have hlen0 : 0 < cs0.length := by omega
      rw [List.getElem?_eq_getElem hlen0] at hc00
      have hsp := World.cell?_spot hc00
      obtain ⟨b, off, spot⟩ := a
      simp [Addr.add] at hsp
      subst hsp
      refine ⟨b, off, rfl, ?_, fun i j hi hj => ?_⟩
      · have := (cells_of_cell0 hc00).1
        simpa [Addr.add] using this
      · obtain ⟨cs', h1, h2⟩ := hch i hi
        obtain ⟨_, hl1, hc1⟩ := World.cells?_some h1
        have := hc1 j (by omega)
        simp only [List.getElem?_map, List.getElem?_range hi, Option.map_some, Option.getD_some, h1]
        rw [← this, hkl]
        congr 1
        unfold Addr.add
        by_cases hi0 : i * P.cellsOf e = 0
        · rw [if_pos hi0, hi0]
          by_cases hj0 : j = 0
          · rw [if_pos hj0]; simp [hj0]
          · rw [if_neg hj0]; simp
        · rw [if_neg hi0]
          by_cases hj0 : j = 0
          · rw [if_pos hj0]; simp [hj0]
          · rw [if_neg hj0]
theorem mix_fields (n m : Nat) (cs : List Value) : ∀ (fs : List Field) (o : Nat) (ms : List FK), (∀ f ∈ fs, ∃ x, DataW.trod enc P w base spare held m f.type ((cs.drop f.offset).take (P.cellsOf f.type)) = some x) → mixF P n cs.length fs o = some ms → MixIs w ms (cs.drop o) := by
  intro fs
  induction fs with
  | nil =>
    intro o ms _ h
    unfold mixF at h
    split at h
    · rename_i ho; cases h; subst ho; exact List.drop_length ..
    · cases h
  | cons f fs ih =>
    intro o ms hx h
    obtain ⟨x, hxf⟩ := hx f List.mem_cons_self
    unfold mixF at h
    split at h
    · rename_i ho
      rw [ho] at hxf
      split at h
      · rename_i e ht
        obtain ⟨ks, hk, h2⟩ := Option.bind_eq_some_iff.1 h
        split at h2
        · rename_i hc
          obtain ⟨r, hr, rfl⟩ := Option.map_eq_some_iff.1 h2
          have ih2 := ih (o + 1) r (fun g hg => hx g (List.mem_cons_of_mem _ hg)) hr
          obtain ⟨a, len, cap, rows, e1, e2⟩ := rows_open n ht hk hc.1 hc.2.1 hxf
          rw [hc.2.2] at e1
          have hd : cs.drop o = .slice a len cap :: cs.drop (o + 1) := by
            cases hq : cs.drop o with
            | nil => rw [hq] at e1; simp at e1
            | cons z zs =>
              rw [hq] at e1
              simp at e1
              subst e1
              rw [← List.drop_drop, hq]; rfl
          exact ⟨a, len, cap, rows, _, hd, e2, ih2⟩
        · cases h2
      · obtain ⟨ks, hk, h2⟩ := Option.bind_eq_some_iff.1 h
        split at h2
        · rename_i hc
          obtain ⟨r, hr, rfl⟩ := Option.map_eq_some_iff.1 h2
          have ih2 := ih (o + ks.length) r (fun g hg => hx g (List.mem_cons_of_mem _ hg)) hr
          have hA := flat_open n f.type m _ x ks hxf hk
          rw [← hc] at hA
          refine ⟨_, _, ?_, hA, ih2⟩
          rw [← List.drop_drop, List.take_append_drop]
        · cases h2
    · cases h
theorem mix_open {r : Reach} {b0 : Nat} {t : TypeId} {v : Value} {d : DataW H} {p : List MemPlace} {ms : List FK} (n : Nat) (hk : mixK P n t = some ms) (hv : Value.okWide P w r b0 t v) (h : DataW.Trod enc P w base spare held t v d p) : ∃ cs : List Value, v = .agg cs.toArray ∧ MixIs w ms cs := by
  unfold mixK at hk
  split at hk
  · rename_i fs ht
    obtain ⟨cs, rfl⟩ : ∃ cs, v = .agg cs := by
      unfold Value.okWide at hv
      split at hv
      · obtain ⟨cs, h1, _⟩ := hv; exact ⟨cs, h1⟩
      · obtain ⟨cs, h1, _⟩ := hv; exact ⟨cs, h1⟩
      · rename_i h1 h2; exact absurd ht (h1 _)
    obtain ⟨fuel, hf⟩ := h
    simp only [Value.cells] at hf
    obtain ⟨xs, m', _, _, hl, hlen, hfs⟩ := DataW.trod_struct ht hf
    refine ⟨cs.toList, by simp, ?_⟩
    have := mix_fields (w := w) (base := base) (spare := spare) (held := held) (enc := enc) n m' cs.toList fs.toList 0 ms (fun f hfm => by
      obtain ⟨i, hi, he⟩ := List.getElem_of_mem hfm
      have h0 := hfs i f (by rw [← Array.getElem?_toList]; exact List.getElem?_eq_some_iff.2 ⟨hi, he⟩)
      have hix : i < xs.length := by rw [hlen]; simpa using hi
      exact ⟨xs[i], by rw [h0]; exact List.getElem?_eq_getElem hix⟩) (by rw [hl]; exact hk)
    simpa using this
  · cases hk
end
end Go.Proofs.YtgafamgacpglcaaGreat


/- A view that came in, opened: its rows as data. -/
set_option linter.unusedVariables false
set_option linter.unusedSimpArgs false
namespace Go.Proofs.YtgafamgacpglcaaGreat
open Go.RowKit

abbrev obK : List (Option IntKind) := [some .i64, some .i64, some .i64, some .i64, some .i64, some .i64, some .i64, some .i64, some .i64]
abbrev heK : List (Option IntKind) := [some .i64, some .i64, some .i64, some .i64, some .i64, some .u64, some .i64, some .i64, some .i64, some .i64]
abbrev ndK : List (Option IntKind) := [some .i64, some .i64, some .i64]
def plK : List (Option IntKind) := (List.range 80).map fun j => if j % 10 = 1 then none else some .i64
def vwK : List FK := [.rows obK, .rows heK, .rows ndK, .rows Th.thK, .flat plK, .rows [some .i64], .rows [some .i64]]
theorem AllIs.at {ks : List (Option IntKind)} {cs : List Value} (h : AllIs ks cs) : ∀ (j : Nat) (k : Option IntKind), ks[j]? = some k → ∃ c, cs[j]? = some c ∧ CellIs k c := by
  induction ks generalizing cs with
  | nil => intro j k hj; simp at hj
  | cons q r ih =>
    obtain ⟨c, r2, rfl, h1, h2⟩ := h
    intro j k hj
    cases j with
    | zero => simp at hj; subst hj; exact ⟨c, rfl, h1⟩
    | succ j => exact ih h2 j k (by simpa using hj)
def intOf : Option Value → Int
  | some (.int _ x) => x
  | _ => 0
def boolOf : Option Value → Bool
  | some (.bool b) => b
  | _ => false
def poolsOf (cs : List Value) : As.ASt := ⟨fun p => intOf cs[10 * p]?, fun p => boolOf cs[10 * p + 1]?, fun q => intOf cs[10 * (q / 4) + 2 + q % 4]?, fun q => intOf cs[10 * (q / 4) + 6 + q % 4]?, fun _ => 0⟩
theorem pools_plc {cs : List Value} (h : AllIs plK cs) : cs = plc (poolsOf cs) := by
  have hl : cs.length = 80 := by rw [h.len]; rfl
  apply List.ext_getElem?
  intro j
  unfold plc
  rw [List.getElem?_map]
  by_cases hj : j < 80
  · rw [List.getElem?_range hj, Option.map_some]
    have hk : plK[j]? = some (if j % 10 = 1 then none else some .i64) := by unfold plK; rw [List.getElem?_map, List.getElem?_range hj]; rfl
    obtain ⟨c, e1, e2⟩ := h.at j _ hk
    rw [e1]
    unfold As.ASt.at poolsOf
    simp only [if_pos hj]
    by_cases h1 : j % 10 = 1
    · rw [if_pos h1] at e2
      obtain ⟨b, rfl⟩ := e2
      rw [if_neg (by omega), if_pos h1, show 10 * (j / 10) + 1 = j by omega, e1]; rfl
    · rw [if_neg h1] at e2
      obtain ⟨x, rfl, _⟩ := e2
      by_cases h0 : j % 10 = 0
      · rw [if_pos h0, show 10 * (j / 10) = j by omega, e1]; rfl
      · rw [if_neg h0, if_neg h1]
        by_cases h6 : j % 10 < 6
        · rw [if_pos h6, show 10 * ((4 * (j / 10) + (j % 10 - 2)) / 4) + 2 + (4 * (j / 10) + (j % 10 - 2)) % 4 = j by omega, e1]; rfl
        · rw [if_neg h6, show 10 * ((4 * (j / 10) + (j % 10 - 6)) / 4) + 6 + (4 * (j / 10) + (j % 10 - 6)) % 4 = j by omega, e1]; rfl
  · rw [List.getElem?_eq_none (by omega), List.getElem?_eq_none (by simp; omega)]; rfl
theorem all_map {α : Type} {ks : List (Option IntKind)} {f : α → List Value} (hf : ∀ r, AllIs ks r → ∃ o, r = f o) : ∀ rows : List (List Value), (∀ r ∈ rows, AllIs ks r) → ∃ os : List α, rows = os.map f
  | [], _ => ⟨[], rfl⟩
  | r :: rs, h => by
    obtain ⟨o, rfl⟩ := hf r (h r List.mem_cons_self)
    obtain ⟨os, rfl⟩ := all_map hf rs fun q hq => h q (List.mem_cons_of_mem _ hq)
    exact ⟨o :: os, rfl⟩
theorem all_ob {r : List Value} (h : AllIs obK r) : ∃ o : Ar.ObT, r = Ar.obC o := by
  obtain ⟨_, _, rfl, ⟨x0, rfl, _⟩, _, _, rfl, ⟨x1, rfl, _⟩, _, _, rfl, ⟨x2, rfl, _⟩, _, _, rfl, ⟨x3, rfl, _⟩, _, _, rfl, ⟨x4, rfl, _⟩, _, _, rfl, ⟨x5, rfl, _⟩, _, _, rfl, ⟨x6, rfl, _⟩, _, _, rfl, ⟨x7, rfl, _⟩, _, _, rfl, ⟨x8, rfl, _⟩, rfl⟩ := h
  exact ⟨⟨x0, x1, x2, x3, x4, x5, x6, x7, x8⟩, rfl⟩
theorem all_he {r : List Value} (h : AllIs heK r) : ∃ o : HdT, r = encE o := by
  obtain ⟨_, _, rfl, ⟨x0, rfl, _⟩, _, _, rfl, ⟨x1, rfl, _⟩, _, _, rfl, ⟨x2, rfl, _⟩, _, _, rfl, ⟨x3, rfl, _⟩, _, _, rfl, ⟨x4, rfl, _⟩, _, _, rfl, ⟨x5, rfl, _⟩, _, _, rfl, ⟨x6, rfl, _⟩, _, _, rfl, ⟨x7, rfl, _⟩, _, _, rfl, ⟨x8, rfl, _⟩, _, _, rfl, ⟨x9, rfl, _⟩, rfl⟩ := h
  exact ⟨((x0, x1), ⟨x2, x3, x4, x5, x6, x7, x8, x9⟩), rfl⟩
theorem all_nd {r : List Value} (h : AllIs ndK r) : ∃ o : Tr.SlotT × Int, r = Tr.nV o := by
  obtain ⟨_, _, rfl, ⟨x0, rfl, _⟩, _, _, rfl, ⟨x1, rfl, _⟩, _, _, rfl, ⟨x2, rfl, _⟩, rfl⟩ := h
  exact ⟨((x0, x1), x2), rfl⟩
theorem all_th {r : List Value} (h : AllIs Th.thK r) : ∃ o : Th.ThT, r = Th.encH o := by
  obtain ⟨_, _, rfl, ⟨x0, rfl, _⟩, _, _, rfl, ⟨x1, rfl, _⟩, _, _, rfl, ⟨x2, rfl, _⟩, _, _, rfl, ⟨x3, rfl, _⟩, _, _, rfl, ⟨x4, rfl, _⟩, _, _, rfl, ⟨x5, rfl, _⟩, _, _, rfl, ⟨x6, rfl, _⟩, _, _, rfl, ⟨x7, rfl, _⟩, _, _, rfl, ⟨x8, rfl⟩, _, _, rfl, ⟨x9, rfl, _⟩, _, _, rfl, ⟨x10, rfl, _⟩, _, _, rfl, ⟨x11, rfl, _⟩, _, _, rfl, ⟨x12, rfl, _⟩, _, _, rfl, ⟨x13, rfl, _⟩, _, _, rfl, ⟨x14, rfl, _⟩, _, _, rfl, ⟨x15, rfl, _⟩, _, _, rfl, ⟨x16, rfl, _⟩, _, _, rfl, ⟨x17, rfl, _⟩, _, _, rfl, ⟨x18, rfl⟩, _, _, rfl, ⟨x19, rfl⟩, _, _, rfl, ⟨x20, rfl⟩, _, _, rfl, ⟨x21, rfl⟩, _, _, rfl, ⟨x22, rfl, _⟩, _, _, rfl, ⟨x23, rfl, _⟩, rfl⟩ := h
  exact ⟨⟨x0, x1, x2, x3, x4, x5, x6, x7, x8, x9, x10, x11, x12, x13, x14, x15, x16, x17, x18, x19, x20, x21, x22, x23⟩, rfl⟩
/-- a view as it came in: rows that can be read; how long the lists are -/
structure VwRaw (l : List Chunk) (x : VwT) (nr nq : Nat) (c : List Value) : Prop where
  eq : ∃ vo vc vt vh vr vq, c = vwV vo vc vt vh x.nn vr vq ∧ RdS l vo 9 (x.os.map Ar.obC) ∧ RdS l vc 10 (x.hs.map encE) ∧ RdS l vt 3 (x.tr.map Tr.nV) ∧ RdS l vh 24 (x.ts.map Th.encH) ∧ (∃ a cap, vr = .slice a nr cap) ∧ ∃ a cap, vq = .slice a nq cap
  cp : ∀ (a : Option Addr) (n cap : Nat), (List.toArray c)[2]? = some (.slice a n cap) → n ≤ cap
theorem VwRaw.vw {l : List Chunk} {x : VwT} {nr nq : Nat} {c : List Value} (h : VwRaw l x nr nq c) (h1 : x.os.length ≤ 40) (h2 : x.hs.length ≤ 40) (h3 : x.tr.length ≤ 40) (h4 : x.ts.length ≤ 40) : VwIn l x c := by
  obtain ⟨⟨vo, vc, vt, vh, vr, vq, k1, k2, k3, k4, k5, ⟨_, _, rfl⟩, _, _, rfl⟩, kc⟩ := h
  exact ⟨⟨vo, vc, vt, vh, _, _, k1, k2, k3, k4, k5, rfl, rfl⟩, by omega, by omega, by omega, by omega, kc⟩
theorem VwRaw.mono {l l' : List Chunk} {x : VwT} {nr nq : Nat} {c : List Value} (h : VwRaw l x nr nq c) (hl : ∀ c, c ∈ l → c ∈ l') : VwRaw l' x nr nq c := by
  obtain ⟨⟨vo, vc, vt, vh, vr, vq, k1, k2, k3, k4, k5, k6⟩, kc⟩ := h
  exact ⟨⟨vo, vc, vt, vh, _, _, k1, k2.mono hl, k3.mono hl, k4.mono hl, k5.mono hl, k6⟩, kc⟩
theorem view_in {W : World} {cs : List Value} (h : MixIs W vwK cs) : ∃ x nr nq, VwRaw (allOf W) x nr nq cs := by
  obtain ⟨a1, n1, c1, r1, _, rfl, h1, a2, n2, c2, r2, _, rfl, h2, a3, n3, c3, r3, _, rfl, h3, a4, n4, c4, r4, _, rfl, h4, p, _, rfl, hp, a5, n5, c5, r5, _, rfl, h5, a6, n6, c6, r6, _, rfl, h6, rfl⟩ := h
  obtain ⟨os, rfl⟩ := all_map (fun r => all_ob) r1 h1.all
  obtain ⟨hs, rfl⟩ := all_map (fun r => all_he) r2 h2.all
  obtain ⟨tr, rfl⟩ := all_map (fun r => all_nd) r3 h3.all
  obtain ⟨ts, rfl⟩ := all_map (fun r => all_th) r4 h4.all
  have s1 := h1.size
  have s2 := h2.size
  have s3 := h3.size
  have s4 := h4.size
  subst s1 s2 s3 s4
  refine ⟨⟨os, hs, tr, ts, poolsOf p⟩, n5, n6, ⟨_, _, _, _, _, _, ?_, ⟨a1, c1, rfl, rows_in h1 (by decide)⟩, ⟨a2, c2, rfl, rows_in h2 (by decide)⟩, ⟨a3, c3, rfl, rows_in h3 (by decide)⟩, ⟨a4, c4, rfl, rows_in h4 (by decide)⟩, ⟨a5, c5, rfl⟩, a6, c6, rfl⟩, ?_⟩
  · rw [vwV, ← pools_plc hp]
  · intro a n cap e
    have e2 : (Value.slice a3 (tr.map Tr.nV).length c3) = .slice a n cap := Option.some.inj e
    cases e2
    exact h3.le
/-- numbers that came in -/
theorem ints_in {W : World} {a : Option Addr} {n cap : Nat} {rows : List (List Value)} (h : IsRows [some .i64] W a n cap rows) : ∃ xs : List Int, xs.length = n ∧ IntSl (allOf W) (.slice a n cap) xs := by
  have hi := rows_in h (by decide)
  obtain ⟨xs, rfl⟩ := all_map (f := fun x : Int => [.int .i64 x]) (fun r hr => by obtain ⟨_, _, rfl, ⟨x, rfl, _⟩, rfl⟩ := hr; exact ⟨x, rfl⟩) rows h.all
  have s := h.size
  rw [List.length_map] at s
  subst s
  refine ⟨xs, rfl, a, cap, rfl, fun h0 => ?_⟩
  obtain ⟨b, off, cs, t, fz, rfl, hm, hr⟩ := hi h0
  refine ⟨b, off, cs, t, fz, rfl, hm, fun i x hx => ?_⟩
  obtain ⟨_, _, k⟩ := hr i [.int .i64 x] (by rw [List.getElem?_map, hx]; rfl)
  exact k 0 _ rfl
end Go.Proofs.YtgafamgacpglcaaGreat


/- Is a view great? Is a number in a list? -/
-- GU
set_option linter.unusedVariables false
set_option linter.unusedSimpArgs false
namespace Go.Proofs.YtgafamgacpglcaaGreat
open Go.RowKit
set_option maxRecDepth 20000
set_option pp.deepTerms false
set_option pp.deepTerms.threshold 4

def SmallV (x : VwT) (nr nq : Nat) : Prop := x.os.length ≤ 40 ∧ x.hs.length ≤ 40 ∧ x.tr.length ≤ 40 ∧ x.ts.length ≤ 40 ∧ nr ≤ 40 ∧ nq ≤ 40
instance (x : VwT) (nr nq : Nat) : Decidable (SmallV x nr nq) := by unfold SmallV; infer_instance
theorem vw_at (vo vc vt vh : Value) (N : As.ASt) (vr vq : Value) : (List.toArray (vwV vo vc vt vh N vr vq))[84]? = some vr ∧ (List.toArray (vwV vo vc vt vh N vr vq))[85]? = some vq := by
  have h1 := cell_get (LGet.mid (vo :: vc :: vt :: vh :: plc N) [vq] vr (k := 84) (by simp [plc_len]))
  have h2 := cell_get (LGet.mid (vo :: vc :: vt :: vh :: (plc N ++ [vr])) [] vq (k := 85) (by simp [plc_len]))
  exact ⟨by simpa [vwV] using h1, by simpa [vwV] using h2⟩
set_option maxHeartbeats 2000000 in
theorem great_any (x : VwT) (nr nq : Nat) (c : List Value) (l : List Chunk) (h : VwRaw l x nr nq c) : Fn Tryz.prog 6 [.agg (List.toArray c)] l fun v l' => v = .bool (!decide (SmallV x nr nq)) ∧ l' = l := by
  obtain ⟨⟨vo, vc, vt, vh, vr, vq, rfl, ⟨ao, co, rfl, _⟩, ⟨ac, cc, rfl, _⟩, ⟨at_, ct, rfl, _⟩, ⟨ah, ch, rfl, _⟩, ⟨ar, cr, rfl⟩, aq, cq, rfl⟩, _⟩ := h
  simp only [List.length_map]
  obtain ⟨g1, g2⟩ := vw_at (.slice ao x.os.length co) (.slice ac x.hs.length cc) (.slice at_ x.tr.length ct) (.slice ah x.ts.length ch) x.nn (.slice ar nr cr) (.slice aq nq cq)
  obtain ⟨C, hC⟩ : ∃ C, C = vwV (.slice ao x.os.length co) (.slice ac x.hs.length cc) (.slice at_ x.tr.length ct) (.slice ah x.ts.length ch) x.nn (.slice ar nr cr) (.slice aq nq cq) := ⟨_, rfl⟩
  have k0 : (List.toArray C)[0]? = some (.slice ao x.os.length co) := by rw [hC]; rfl
  have k1 : (List.toArray C)[1]? = some (.slice ac x.hs.length cc) := by rw [hC]; rfl
  have k2 : (List.toArray C)[2]? = some (.slice at_ x.tr.length ct) := by rw [hC]; rfl
  have k3 : (List.toArray C)[3]? = some (.slice ah x.ts.length ch) := by rw [hC]; rfl
  rw [← hC] at g1 g2 ⊢
  clear hC
  refine fn_of_body Tryz.func6 rfl rfl fun E => ?_
  simp only [argF, Tryz.ntmps6]
  refine gzU ?_
  refine t_e (e_boxA rfl) rfl rfl rfl ?_
  rintro _ _ ⟨b1, _, rfl, rfl⟩
  by_cases z0 : 40 < x.os.length
  · refine gzU ?_
    exact k_ret [] rfl (l' := l) (.drop .refl) (by exact zRes) ⟨by rw [decide_eq_false (fun h : SmallV x nr nq => by unfold SmallV at h; omega)]; rfl, rfl⟩
  by_cases z1 : 40 < x.hs.length
  · refine gzU ?_
    exact k_ret [] rfl (l' := l) (.drop .refl) (by exact zRes) ⟨by rw [decide_eq_false (fun h : SmallV x nr nq => by unfold SmallV at h; omega)]; rfl, rfl⟩
  by_cases z2 : 40 < x.tr.length
  · refine gzU ?_
    exact k_ret [] rfl (l' := l) (.drop .refl) (by exact zRes) ⟨by rw [decide_eq_false (fun h : SmallV x nr nq => by unfold SmallV at h; omega)]; rfl, rfl⟩
  by_cases z3 : 40 < x.ts.length
  · refine gzU ?_
    exact k_ret [] rfl (l' := l) (.drop .refl) (by exact zRes) ⟨by rw [decide_eq_false (fun h : SmallV x nr nq => by unfold SmallV at h; omega)]; rfl, rfl⟩
  by_cases z4 : 40 < nr
  · refine gzU ?_
    exact k_ret [] rfl (l' := l) (.drop .refl) (by exact zRes) ⟨by rw [decide_eq_false (fun h : SmallV x nr nq => by unfold SmallV at h; omega)]; rfl, rfl⟩
  by_cases z5 : 40 < nq
  · refine gzU ?_
    exact k_ret [] rfl (l' := l) (.drop .refl) (by exact zRes) ⟨by rw [decide_eq_false (fun h : SmallV x nr nq => by unfold SmallV at h; omega)]; simp [tup]; omega, rfl⟩
  refine gzU ?_
  exact k_ret [] rfl (l' := l) (.drop .refl) (by exact zRes) ⟨by rw [decide_eq_true (show SmallV x nr nq by unfold SmallV; omega)]; simp [tup]; omega, rfl⟩
set_option maxHeartbeats 1000000 in
theorem in_any (v : Value) (xs : List Int) (z : Int) (l : List Chunk) (h : IntSl l v xs) (hn : xs.length ≤ 1000000) : Fn Tryz.prog 14 [v, .int .i64 z] l fun r l' => r = .bool (decide (z ∈ xs)) ∧ l' = l := by
  obtain ⟨a, ca, rfl, h⟩ := h
  refine fn_of_body Tryz.func14 rfl rfl fun E => ?_
  simp only [argF, Tryz.ntmps14]
  refine gzU ?_
  refine k_loop (α := Nat) (fun k => [(0, .slice a xs.length ca), (1, .int .i64 z), (5, .int .i64 k)]) (fun _ => l) (fun k => k ≤ xs.length ∧ ∀ j, j < k → xs[j]? ≠ some z) (fun k => xs.length - k) 0 ⟨Nat.zero_le _, fun j h => by omega⟩ ⟨rfl, rfl, rfl, trivial⟩ .refl ?_
  rintro k ⟨hk, hj⟩
  by_cases hlt : k < xs.length
  · obtain ⟨b, off, cs, t, fz, rfl, hm, hc⟩ := h (by omega)
    obtain ⟨x, e1⟩ : ∃ x, xs[k]? = some x := ⟨_, List.getElem?_eq_getElem hlt⟩
    have g1 := hc k x e1
    by_cases hxz : x = z
    · refine gzU ?_
      refine k_ret [] rfl .refl (by exact zRes) ⟨?_, rfl⟩
      have : z ∈ xs := by rw [← hxz]; exact List.mem_of_getElem? e1
      simp [tup, this]
    · refine gzU ?_
      exact k_next (k + 1) ⟨by omega, fun j hjk => by
        by_cases e : j = k
        · subst e; rw [e1]; exact fun h => hxz (Option.some.inj h)
        · exact hj j (by omega)⟩ (by omega) ⟨rfl, rfl, rfl, trivial⟩ .refl
  obtain rfl : k = xs.length := by omega
  refine gzU ?_
  refine k_ret [] rfl .refl (by exact zRes) ⟨?_, rfl⟩
  have : z ∉ xs := fun hm => by
    obtain ⟨j, hl, e⟩ := List.getElem_of_mem hm
    exact hj j hl (by rw [List.getElem?_eq_getElem hl, e])
  simp [tup, this]
end Go.Proofs.YtgafamgacpglcaaGreat


/- part: the plain law, made ready for deciding: what threads reach and lean on as lists; groups apart, groups not apart. No program. -/
set_option linter.unusedVariables false
set_option linter.unusedSimpArgs false
namespace Go.Proofs.YtgafamgacpglcaaGreat.Pt
/-- what a list of numbers leads to, so many steps on -/
def stepL (V : VD) (xs : List Int) : List Int := (xs ++ (xs.filter (goes V)).flatMap (fromP V)).eraseDups
def goL (V : VD) : Nat → List Int → List Int
  | 0, xs => xs
  | n + 1, xs => goL V n (stepL V xs)
def rchL (V : VD) (ts : List Int) : List Int := goL V 3 (ts.filter fun t => kn V t 9)
def closedL (V : VD) (ts xs : List Int) : Bool := (xs.all fun y => !goes V y || (fromP V y).all fun z => xs.elem z) && ts.all fun t => !kn V t 9 || xs.elem t
theorem goL_sound {V : VD} {ts : List Int} : ∀ (n : Nat) (xs : List Int), (∀ z, z ∈ xs → Rch V ts z) → ∀ z, z ∈ goL V n xs → Rch V ts z
  | 0, xs, h, z, hz => h z hz
  | n + 1, xs, h, z, hz => goL_sound n (stepL V xs) (fun y hy => by
      unfold stepL at hy
      rw [List.mem_eraseDups, List.mem_append, List.mem_flatMap] at hy
      rcases hy with hy | ⟨w, hw, hy⟩
      · exact h y hy
      · rw [List.mem_filter] at hw
        exact .go (h w hw.1) hw.2 hy) z hz
theorem rchL_iff {V : VD} {ts : List Int} (h : closedL V ts (rchL V ts) = true) (z : Int) : z ∈ rchL V ts ↔ Rch V ts z := by
  simp only [closedL, Bool.and_eq_true, List.all_eq_true, Bool.or_eq_true, Bool.not_eq_true', List.elem_eq_mem, decide_eq_true_eq] at h
  constructor
  · exact goL_sound 3 _ (fun y hy => by rw [List.mem_filter] at hy; exact .th hy.1 hy.2) z
  · refine Rch.least (S := fun z => z ∈ rchL V ts) (fun t h1 h2 => ?_) (fun y x h1 h2 h3 => ?_)
    · rcases h.2 t h1 with h3 | h3
      · rw [h2] at h3; cases h3
      · exact h3
    · rcases h.1 y h1 with h4 | h4
      · rw [h2] at h4; cases h4
      · exact h4 x h3
/-- the pairs of a reached root -/
def rootL (V : VD) (A : List Int) : List (Int × Int) := V.ps.flatMap fun p => (p.2.filter fun q => decide (q.1 ≠ 0) && A.elem q.1 && kn V q.1 5).map fun q => (p.1, q.2)
theorem rootL_iff {V : VD} {A : List Int} {o s : Int} : (o, s) ∈ rootL V A ↔ ∃ p, Root V (· ∈ A) p s ∧ o = p.1 := by
  simp only [rootL, List.mem_flatMap, List.mem_map, List.mem_filter, Bool.and_eq_true, decide_eq_true_eq, List.elem_eq_mem, Prod.mk.injEq, Root]
  constructor
  · rintro ⟨p, hp, ⟨r, s'⟩, ⟨hq, ⟨h1, h2⟩, h3⟩, rfl, rfl⟩
    exact ⟨p, ⟨hp, r, hq, h1, h2, h3⟩, rfl⟩
  · rintro ⟨p, ⟨hp, r, hq, h1, h2, h3⟩, rfl⟩
    exact ⟨p, hp, (r, s), ⟨hq, ⟨h1, h2⟩, h3⟩, rfl, rfl⟩
def spcB (V : VD) (A : List Int) (s : Int) : Bool := decide (s ≠ 0) && (rootL V A).any fun q => decide (q.2 = s)
theorem spcB_iff {V : VD} {A : List Int} {s : Int} : spcB V A s = true ↔ Spc V (· ∈ A) s := by
  simp only [spcB, Bool.and_eq_true, decide_eq_true_eq, List.any_eq_true, Spc]
  constructor
  · rintro ⟨h0, ⟨o, s'⟩, hq, rfl⟩
    obtain ⟨p, hp, _⟩ := rootL_iff.1 hq
    exact ⟨h0, p, hp⟩
  · rintro ⟨h0, p, hp⟩
    exact ⟨h0, (p.1, s), rootL_iff.2 ⟨p, hp, rfl⟩, rfl⟩
def lnsL (V : VD) (A : List Int) : List Int :=
  A ++ ((rootL V A).map (·.1)).filter (fun o => decide (o ≠ 0)) ++ (V.os.filter fun o => decide (o.2.1 = 4) && spcB V A o.2.2).map (·.1) ++ (V.ts.filter fun t => A.elem t.2.1 && kn V t.2.1 9).map (·.1) ++ (V.ts.filter fun t => A.elem t.1).flatMap fun t => [t.2.2, t.2.1].filter fun x => decide (x ≠ 0)
theorem lnsL_iff {V : VD} {A : List Int} {z : Int} : z ∈ lnsL V A ↔ LnA V (· ∈ A) z := by
  unfold lnsL LnA
  simp only [List.mem_append, or_assoc]
  refine or_congr Iff.rfl (or_congr ?_ (or_congr ?_ (or_congr ?_ ?_)))
  · simp only [List.mem_filter, List.mem_map, decide_eq_true_eq, Pol]
    constructor
    · rintro ⟨⟨⟨o, s⟩, hq, rfl⟩, h0⟩
      obtain ⟨p, hp, e⟩ := rootL_iff.1 hq
      exact ⟨h0, p, s, hp, e⟩
    · rintro ⟨h0, p, s, hp, rfl⟩
      exact ⟨⟨(p.1, s), rootL_iff.2 ⟨p, hp, rfl⟩, rfl⟩, h0⟩
  · simp only [List.mem_filter, List.mem_map, Bool.and_eq_true, decide_eq_true_eq, spcB_iff]
    exact ⟨fun ⟨o, ⟨h1, h2, h3⟩, e⟩ => ⟨o, h1, h2, h3, e.symm⟩, fun ⟨o, h1, h2, h3, e⟩ => ⟨o, ⟨h1, h2, h3⟩, e.symm⟩⟩
  · simp only [List.mem_filter, List.mem_map, Bool.and_eq_true, List.elem_eq_mem, decide_eq_true_eq]
    exact ⟨fun ⟨o, ⟨h1, h2, h3⟩, e⟩ => ⟨o, h1, h2, h3, e.symm⟩, fun ⟨o, h1, h2, h3, e⟩ => ⟨o, ⟨h1, h2, h3⟩, e.symm⟩⟩
  · simp only [List.mem_flatMap, List.mem_filter, List.elem_eq_mem, decide_eq_true_eq, List.mem_cons, List.not_mem_nil, or_false]
    exact ⟨fun ⟨t, ⟨h1, h2⟩, h3, h4⟩ => ⟨t, h1, h2, h4, h3⟩, fun ⟨t, h1, h2, h4, h3⟩ => ⟨t, ⟨h1, h2⟩, h3, h4⟩⟩
theorem LnA.congr {V : VD} {A B : Int → Prop} (h : ∀ x, A x ↔ B x) (x : Int) : LnA V A x ↔ LnA V B x := ⟨LnA.mono fun x => (h x).1, LnA.mono fun x => (h x).2⟩
theorem Spc.congr {V : VD} {A B : Int → Prop} (h : ∀ x, A x ↔ B x) (s : Int) : Spc V A s ↔ Spc V B s := by
  unfold Spc Root
  simp only [h]
section
variable {V : VD} {ts : List Int} (hc : closedL V ts (rchL V ts) = true)
include hc
theorem lns_dec (z : Int) : Lns V ts z ↔ z ∈ lnsL V (rchL V ts) := by rw [lnsL_iff]; exact LnA.congr (fun x => (rchL_iff hc x).symm) z
def sltB (A : List Int) (h : HD) : Bool := A.elem h.1.1
def mpsB (V : VD) (A : List Int) (h : HD) : Bool := decide (h.kind = 3) && spcB V A h.serial
def slots (V : VD) (f : HD → Bool) (s : Int × Int) : Bool := V.cs.any fun h => f h && decide (s = h.1)
theorem slt_dec (s : Int × Int) : Slt V ts s ↔ slots V (sltB (rchL V ts)) s = true := by
  simp only [Slt, slots, sltB, List.any_eq_true, Bool.and_eq_true, List.elem_eq_mem, decide_eq_true_eq, rchL_iff hc]
theorem mps_dec (s : Int × Int) : Mps V ts s ↔ slots V (mpsB V (rchL V ts)) s = true := by
  simp only [Mps, slots, mpsB, List.any_eq_true, Bool.and_eq_true, decide_eq_true_eq, spcB_iff, Spc.congr (rchL_iff hc), and_assoc]
def ndsB (V : VD) (A : List Int) (h : HD) : Bool := if h.kind = 7 then (lnsL V A).elem 0 else decide (h.kind ≠ 0) && (lnsL V A).elem h.obj && !kn V h.obj 3
theorem nds_dec (h : HD) : Nds V ts h ↔ ndsB V (rchL V ts) h = true := by
  unfold Nds ndsB
  simp only [lns_dec hc]
  split <;> simp [and_assoc]
def useB (V : VD) (A : List Int) (h : HD) : Bool := slots V (sltB A) h.1 || slots V (mpsB V A) h.1
theorem use_dec (f : Int) (h : HD) : Use V ts f h ↔ (h ∈ V.cs ∧ h.kind = 3 ∧ h.obj = f ∧ useB V (rchL V ts) h = true) := by
  simp only [Use, useB, slt_dec hc, mps_dec hc, Bool.or_eq_true]
end
def wrtB (V : VD) (wr : HD → Bool) (A B : List Int) : Bool := V.cs.any fun h : HD => decide (h.kind = 3) && kn V h.obj 3 && useB V A h && V.cs.any fun q : HD => decide (q.kind = 3) && decide (q.obj = h.obj) && useB V B q && V.cs.any fun w : HD => decide (w.kind = 3) && decide (w.obj = h.obj) && (useB V A w || useB V B w) && wr w
theorem wrt_dec {V : VD} {wr : HD → Bool} {xs ys : List Int} (hx : closedL V xs (rchL V xs) = true) (hy : closedL V ys (rchL V ys) = true) : Wrt V wr xs ys ↔ wrtB V wr (rchL V xs) (rchL V ys) = true := by
  simp only [Wrt, wrtB, use_dec hx, use_dec hy, List.any_eq_true, Bool.and_eq_true, Bool.or_eq_true, decide_eq_true_eq]
  constructor
  · rintro ⟨f, hf, ⟨h1, m1, k1, rfl, u1⟩, ⟨h2, m2, k2, o2, u2⟩, h3, u3, w⟩
    refine ⟨h1, m1, ⟨⟨k1, hf⟩, u1⟩, h2, m2, ⟨⟨k2, o2⟩, u2⟩, h3, ?_⟩
    rcases u3 with ⟨m3, k3, o3, u3⟩ | ⟨m3, k3, o3, u3⟩
    · exact ⟨m3, ⟨⟨k3, o3⟩, .inl u3⟩, w⟩
    · exact ⟨m3, ⟨⟨k3, o3⟩, .inr u3⟩, w⟩
  · rintro ⟨h1, m1, ⟨⟨k1, hf⟩, u1⟩, h2, m2, ⟨⟨k2, o2⟩, u2⟩, h3, m3, ⟨⟨k3, o3⟩, u3⟩, w⟩
    refine ⟨HD.obj h1, hf, ⟨h1, m1, k1, rfl, u1⟩, ⟨h2, m2, k2, o2, u2⟩, h3, ?_, w⟩
    rcases u3 with u3 | u3
    · exact .inl ⟨m3, k3, o3, u3⟩
    · exact .inr ⟨m3, k3, o3, u3⟩
def disjB (V : VD) (A B : List Int) : Bool := (lnsL V A).all fun z => !(lnsL V B).elem z || kn V z 3
theorem disj_dec {V : VD} {xs ys : List Int} (hx : closedL V xs (rchL V xs) = true) (hy : closedL V ys (rchL V ys) = true) (h : disjB V (rchL V xs) (rchL V ys) = true) : Disj V xs ys := by
  simp only [disjB, List.all_eq_true, Bool.or_eq_true, Bool.not_eq_true', List.elem_eq_mem] at h
  intro z h1 h2
  rw [lns_dec hx] at h1
  rw [lns_dec hy] at h2
  rcases h z h1 with h3 | h3
  · simp [h2] at h3
  · exact h3
/-- the slots below those of f -/
def undL (f : Int × Int → Bool) : List ((Int × Int) × Int) → List (Int × Int)
  | [] => []
  | n :: r => (if f n.1 then (r.takeWhile fun m => decide (n.2 < m.2)).map (·.1) else []) ++ undL f r
theorem mem_while {α : Type} {p : α → Bool} : ∀ {r : List α} {j : Nat} {m : α}, r[j]? = some m → (∀ (k : Nat) (q : α), k ≤ j → r[k]? = some q → p q = true) → m ∈ r.takeWhile p
  | [], j, m, h, _ => by simp at h
  | x :: r, 0, m, h, hp => by
    simp only [List.getElem?_cons_zero, Option.some.injEq] at h
    subst h
    rw [List.takeWhile_cons, if_pos (hp 0 x (Nat.le_refl _) rfl)]
    exact List.mem_cons_self
  | x :: r, j + 1, m, h, hp => by
    rw [List.takeWhile_cons, if_pos (hp 0 x (Nat.zero_le _) rfl)]
    exact List.mem_cons_of_mem _ (mem_while (by simpa using h) fun k q hk hq => hp (k + 1) q (by omega) (by simpa using hq))
theorem mem_undL {f : Int × Int → Bool} : ∀ {tr : List ((Int × Int) × Int)} {i j : Nat} {n m : (Int × Int) × Int}, tr[i]? = some n → f n.1 = true → i < j → tr[j]? = some m → (∀ (k : Nat) (q : (Int × Int) × Int), i < k → k ≤ j → tr[k]? = some q → n.2 < q.2) → m.1 ∈ undL f tr
  | [], i, j, n, m, h, _, _, _, _ => by simp at h
  | x :: r, 0, j, n, m, h, hf, hj, hm, hd => by
    simp only [List.getElem?_cons_zero, Option.some.injEq] at h
    subst h
    obtain ⟨j, rfl⟩ : ∃ j', j = j' + 1 := ⟨j - 1, by omega⟩
    unfold undL
    rw [if_pos hf, List.mem_append]
    exact .inl (List.mem_map.2 ⟨m, mem_while (j := j) (by simpa using hm) fun k q hk hq => decide_eq_true (hd (k + 1) q (by omega) (by omega) (by simpa using hq)), rfl⟩)
  | x :: r, i + 1, j, n, m, h, hf, hj, hm, hd => by
    obtain ⟨j, rfl⟩ : ∃ j', j = j' + 1 := ⟨j - 1, by omega⟩
    unfold undL
    rw [List.mem_append]
    exact .inr (mem_undL (i := i) (j := j) (by simpa using h) hf (by omega) (by simpa using hm) fun k q h1 h2 hq => hd (k + 1) q (by omega) (by omega) (by simpa using hq))
def inA (A : List Int) (s : Int × Int) : Bool := A.elem s.1
theorem slt_in {V : VD} {ts : List Int} (hc : closedL V ts (rchL V ts) = true) {s : Int × Int} (h : Slt V ts s) : inA (rchL V ts) s = true := by
  obtain ⟨h, _, h2, rfl⟩ := h
  simp only [inA, List.elem_eq_mem, decide_eq_true_eq]
  exact (rchL_iff hc _).2 h2
theorem und_dec {V : VD} {ts : List Int} (hc : closedL V ts (rchL V ts) = true) {s : Int × Int} (h : Und V ts s) : s ∈ undL (inA (rchL V ts)) V.tr := by
  obtain ⟨i, j, n, h1, h2, h3, ⟨m, h4, rfl⟩, h5⟩ := h
  exact mem_undL h1 (slt_in hc h2) h3 h4 h5
def abvB (V : VD) (A B : List Int) : Bool :=
  let U := undL (inA A) V.tr
  V.cs.any fun h => (inA A h.1 || U.elem h.1) && (slots V (mpsB V B) h.1 || ndsB V B h) || (U.elem h.1 && inA B h.1)
theorem abv_dec {V : VD} {xs ys : List Int} (hx : closedL V xs (rchL V xs) = true) (hy : closedL V ys (rchL V ys) = true) (h : Abv V xs ys) : abvB V (rchL V xs) (rchL V ys) = true := by
  obtain ⟨h, hm, hh⟩ := h
  unfold abvB
  rw [List.any_eq_true]
  refine ⟨h, hm, ?_⟩
  simp only [Bool.and_eq_true, Bool.or_eq_true, List.elem_eq_mem, decide_eq_true_eq]
  rcases hh with ⟨h1, h2⟩ | ⟨h1, h2⟩
  · rw [mps_dec hy, nds_dec hy] at h2
    exact .inl ⟨.inl (slt_in hx h1), h2⟩
  · have h1' := und_dec hx h1
    rcases h2 with h2 | h2 | h2
    · exact .inl ⟨.inr h1', .inl ((mps_dec hy _).1 h2)⟩
    · exact .inl ⟨.inr h1', .inr ((nds_dec hy _).1 h2)⟩
    · exact .inr ⟨h1', slt_in hy h2⟩
def prtB (V : VD) (xs ys : List Int) : Bool := (xs ++ ys).isPerm (V.ts.map fun t => t.1) && decide (xs ++ ys).Nodup
theorem prt_dec {V : VD} {xs ys : List Int} : Prt V xs ys ↔ prtB V xs ys = true := by
  simp [Prt, prtB, List.isPerm_iff]
/-- apart -/
def aptB (V : VD) (wr : HD → Bool) (xs ys : List Int) : Bool :=
  let A := rchL V xs
  let B := rchL V ys
  closedL V xs A && closedL V ys B && prtB V xs ys && disjB V A B && !wrtB V wr A B && !abvB V A B && !abvB V B A
theorem apt_of {V : VD} {wr : HD → Bool} {xs ys : List Int} (h : aptB V wr xs ys = true) : Apt V wr xs ys := by
  simp only [aptB, Bool.and_eq_true, Bool.not_eq_true'] at h
  obtain ⟨⟨⟨⟨⟨⟨h2, h3⟩, h4⟩, h5⟩, h6⟩, h7⟩, h8⟩ := h
  refine ⟨prt_dec.2 h4, disj_dec h2 h3 h5, ?_, ?_, ?_⟩
  · rw [wrt_dec h2 h3, h6]; exact Bool.false_ne_true
  · intro h; rw [abv_dec h2 h3 h] at h7; cases h7
  · intro h; rw [abv_dec h3 h2 h] at h8; cases h8
/-- both lean on something that is no frame: not apart -/
def sharB (V : VD) (xs ys : List Int) : Bool := closedL V xs (rchL V xs) && closedL V ys (rchL V ys) && (lnsL V (rchL V xs)).any fun z => (lnsL V (rchL V ys)).elem z && !kn V z 3
theorem not_apt {V : VD} {wr : HD → Bool} {xs ys : List Int} (h : sharB V xs ys = true) : ¬ Apt V wr xs ys := by
  simp only [sharB, Bool.and_eq_true, List.any_eq_true, List.elem_eq_mem, decide_eq_true_eq, Bool.not_eq_true'] at h
  obtain ⟨⟨h1, h2⟩, z, h3, h4, h5⟩ := h
  intro ha
  have := ha.2.1 z ((lns_dec h1 z).2 h3) ((lns_dec h2 z).2 h4)
  rw [h5] at this; cases this
theorem Rch.none {V : VD} {z : Int} (h : Rch V [] z) : False := by
  induction h with
  | th h1 _ => cases h1
  | go _ _ _ ih => exact ih
theorem Spc.none {V : VD} {s : Int} (h : Spc V (Rch V []) s) : False := by
  obtain ⟨_, p, _, r, _, _, h, _⟩ := h; exact h.none
theorem Lns.none {V : VD} {z : Int} (h : Lns V [] z) : False := by
  rcases h with h | ⟨_, p, s, ⟨_, r, _, _, h, _⟩, _⟩ | ⟨o, _, _, h, _⟩ | ⟨t, _, h, _⟩ | ⟨t, _, h, _⟩
  · exact h.none
  · exact h.none
  · exact h.none
  · exact h.none
  · exact h.none
/-- apart from none: all threads, each once -/
theorem apt_none {V : VD} {wr : HD → Bool} {xs : List Int} : Apt V wr xs [] ↔ Prt V xs [] := by
  refine ⟨fun h => h.1, fun h => ⟨h, fun x _ h2 => h2.none.elim, ?_, ?_, ?_⟩⟩
  · rintro ⟨f, _, _, ⟨h, _, _, _, ⟨q, _, r, _⟩ | ⟨q, _, _, r, _⟩⟩, _⟩
    · exact r.none
    · exact r.none
  · rintro ⟨h, _, ⟨_, h2⟩ | ⟨_, h2⟩⟩
    · rcases h2 with ⟨q, _, _, r, _⟩ | h2
      · exact r.none
      · unfold Nds at h2
        split at h2
        · exact h2.none
        · exact h2.2.1.none
    · rcases h2 with ⟨q, _, _, r, _⟩ | h2 | ⟨q, _, r, _⟩
      · exact r.none
      · unfold Nds at h2
        split at h2
        · exact h2.none
        · exact h2.2.1.none
      · exact r.none
  · rintro ⟨h, _, ⟨⟨q, _, r, _⟩, _⟩ | ⟨⟨i, j, n, _, ⟨q, _, r, _⟩, _⟩, _⟩⟩
    · exact r.none
    · exact r.none
/-- the threads split by f -/
def spl (f : Nat → Bool) : Nat → List Int → List Int × List Int
  | _, [] => ([], [])
  | i, t :: r => if f i then (t :: (spl f (i + 1) r).1, (spl f (i + 1) r).2) else ((spl f (i + 1) r).1, t :: (spl f (i + 1) r).2)
def splits : List Int → List (List Int × List Int)
  | [] => [([], [])]
  | t :: r => (splits r).flatMap fun p => [(t :: p.1, p.2), (p.1, t :: p.2)]
theorem spl_mem (f : Nat → Bool) : ∀ (th : List Int) (i : Nat), spl f i th ∈ splits th
  | [], _ => by simp [spl, splits]
  | t :: r, i => by
    unfold spl splits
    rw [List.mem_flatMap]
    refine ⟨spl f (i + 1) r, spl_mem f r (i + 1), ?_⟩
    split <;> simp
theorem splits_swap : ∀ {th xs ys : List Int}, (xs, ys) ∈ splits th → (ys, xs) ∈ splits th
  | [], xs, ys, h => by
    simp only [splits, List.mem_singleton, Prod.mk.injEq] at h ⊢
    exact ⟨h.2, h.1⟩
  | t :: r, xs, ys, h => by
    simp only [splits, List.mem_flatMap, List.mem_cons, Prod.mk.injEq, List.not_mem_nil, or_false] at h ⊢
    obtain ⟨p, hp, h⟩ := h
    refine ⟨(p.2, p.1), splits_swap hp, ?_⟩
    rcases h with ⟨rfl, rfl⟩ | ⟨rfl, rfl⟩
    · exact .inr ⟨rfl, rfl⟩
    · exact .inl ⟨rfl, rfl⟩
/-- of two groups it is known whether they are apart -/
def okS (V : VD) (wr : HD → Bool) (sh : Bool) (xs ys : List Int) : Bool := if ys.isEmpty then prtB V xs ys else if sh then sharB V xs ys else aptB V wr xs ys
theorem okS_spec {V : VD} {wr : HD → Bool} {sh : Bool} {xs ys : List Int} (hn : xs ≠ []) (h1 : okS V wr sh xs ys = true) : Apt V wr xs ys ↔ (sh = false ∨ xs = [] ∨ ys = []) := by
  unfold okS at h1
  by_cases e2 : ys = []
  · simp only [e2, List.isEmpty_nil, if_true] at h1
    rw [e2]
    exact ⟨fun _ => .inr (.inr rfl), fun _ => apt_none.2 (prt_dec.2 h1)⟩
  · rw [if_neg (by simpa using e2)] at h1
    cases sh with
    | true => exact ⟨fun ha => absurd ha (not_apt h1), fun hh => by rcases hh with hh | hh | hh; cases hh; exact absurd hh hn; exact absurd hh e2⟩
    | false => exact ⟨fun _ => .inl rfl, fun _ => apt_of h1⟩
/-- of any split it is known -/
def allOk (V : VD) (wr : HD → Bool) (sh : Bool) : List Int → Bool
  | [] => false
  | t :: r => (splits r).all fun p => okS V wr sh (t :: p.1) p.2
theorem allOk_spec {V : VD} {wr : HD → Bool} {sh : Bool} {th : List Int} (h : allOk V wr sh th = true) {p : List Int × List Int} (hp : p ∈ splits th) : Apt V wr p.1 p.2 ↔ (sh = false ∨ p.1 = [] ∨ p.2 = []) := by
  cases th with
  | nil => cases h
  | cons t r =>
    have h1 := List.all_eq_true.1 h
    simp only [splits, List.mem_flatMap, List.mem_cons, List.not_mem_nil, or_false] at hp
    obtain ⟨q, hq, rfl | rfl⟩ := hp
    · exact okS_spec (by simp) (h1 q hq)
    · have h2 := okS_spec (by simp) (h1 (q.2, q.1) (splits_swap hq))
      have h3 : Apt V wr q.1 (t :: q.2) ↔ Apt V wr (t :: q.2) q.1 := ⟨Apt.symm, Apt.symm⟩
      rw [h3, h2]
      exact or_congr Iff.rfl or_comm
end Go.Proofs.YtgafamgacpglcaaGreat.Pt


/- The plain law of PartBoots: a boot's view; which splits of its threads are apart. -/
set_option linter.unusedVariables false
set_option linter.unusedSimpArgs false
namespace Go.Proofs.YtgafamgacpglcaaGreat
open Go.RowKit
set_option maxRecDepth 100000

def bootV (F T : Nat) (sh : Bool) : VwT := ⟨(bootR F T sh).A.os, usedD (bootR F T sh).H.1, (bootR F T sh).H.2, (bootR F T sh).T, (bootR F T sh).N⟩
def bootT (F T : Nat) (sh : Bool) : List Int := (bootO F T sh).map OwT.th
def bootOk (F T : Nat) (sh : Bool) : Bool := Pt.allOk (bootV F T sh).vd wrP sh (bootT F T sh) && decide ((bootV F T sh).os.length ≤ 40) && decide ((bootV F T sh).hs.length ≤ 40) && decide ((bootV F T sh).tr.length ≤ 40) && decide ((bootV F T sh).ts.length ≤ 40) && decide ((bootT F T sh).length = T)
theorem boot_1_11 : ((List.range' 11 27).all fun F => bootOk F 1 false && bootOk F 1 true) = true := by decide +kernel
theorem boot_1_38 : ((List.range' 38 27).all fun F => bootOk F 1 false && bootOk F 1 true) = true := by decide +kernel
theorem boot_2_22 : ((List.range' 22 11).all fun F => bootOk F 2 false && bootOk F 2 true) = true := by decide +kernel
theorem boot_2_33 : ((List.range' 33 11).all fun F => bootOk F 2 false && bootOk F 2 true) = true := by decide +kernel
theorem boot_2_44 : ((List.range' 44 11).all fun F => bootOk F 2 false && bootOk F 2 true) = true := by decide +kernel
theorem boot_2_55 : ((List.range' 55 10).all fun F => bootOk F 2 false && bootOk F 2 true) = true := by decide +kernel
theorem boot_3_33 : ((List.range' 33 4).all fun F => bootOk F 3 false && bootOk F 3 true) = true := by decide +kernel
theorem boot_3_37 : ((List.range' 37 4).all fun F => bootOk F 3 false && bootOk F 3 true) = true := by decide +kernel
theorem boot_3_41 : ((List.range' 41 4).all fun F => bootOk F 3 false && bootOk F 3 true) = true := by decide +kernel
theorem boot_3_45 : ((List.range' 45 4).all fun F => bootOk F 3 false && bootOk F 3 true) = true := by decide +kernel
theorem boot_3_49 : ((List.range' 49 4).all fun F => bootOk F 3 false && bootOk F 3 true) = true := by decide +kernel
theorem boot_3_53 : ((List.range' 53 4).all fun F => bootOk F 3 false && bootOk F 3 true) = true := by decide +kernel
theorem boot_3_57 : ((List.range' 57 4).all fun F => bootOk F 3 false && bootOk F 3 true) = true := by decide +kernel
theorem boot_3_61 : ((List.range' 61 4).all fun F => bootOk F 3 false && bootOk F 3 true) = true := by decide +kernel
theorem boot_any {F T : Nat} (sh : Bool) (hT1 : 1 ≤ T) (hT : T ≤ 3) (hF : 11 * T ≤ F) (hF2 : F ≤ 64) : bootOk F T sh = true := by
  have key : ∀ a n, ((List.range' a n).all fun F => bootOk F T false && bootOk F T true) = true → a ≤ F → F < a + n → bootOk F T sh = true := fun a n h h1 h2 => by
    have h3 := List.all_eq_true.1 h F (List.mem_range'_1.2 ⟨h1, h2⟩)
    rw [Bool.and_eq_true] at h3
    cases sh
    · exact h3.1
    · exact h3.2
  obtain rfl | rfl | rfl : T = 1 ∨ T = 2 ∨ T = 3 := by omega
  · by_cases h0 : F < 38
    · exact key 11 27 boot_1_11 (by omega) (by omega)
    exact key 38 27 boot_1_38 (by omega) (by omega)
  · by_cases h0 : F < 33
    · exact key 22 11 boot_2_22 (by omega) (by omega)
    by_cases h1 : F < 44
    · exact key 33 11 boot_2_33 (by omega) (by omega)
    by_cases h2 : F < 55
    · exact key 44 11 boot_2_44 (by omega) (by omega)
    exact key 55 10 boot_2_55 (by omega) (by omega)
  · by_cases h0 : F < 37
    · exact key 33 4 boot_3_33 (by omega) (by omega)
    by_cases h1 : F < 41
    · exact key 37 4 boot_3_37 (by omega) (by omega)
    by_cases h2 : F < 45
    · exact key 41 4 boot_3_41 (by omega) (by omega)
    by_cases h3 : F < 49
    · exact key 45 4 boot_3_45 (by omega) (by omega)
    by_cases h4 : F < 53
    · exact key 49 4 boot_3_49 (by omega) (by omega)
    by_cases h5 : F < 57
    · exact key 53 4 boot_3_53 (by omega) (by omega)
    by_cases h6 : F < 61
    · exact key 57 4 boot_3_57 (by omega) (by omega)
    exact key 61 4 boot_3_61 (by omega) (by omega)
/-- a boot's threads, split by f: apart, where nothing is shared or one group is empty -/
structure BootF (F T : Nat) (sh : Bool) : Prop where
  o : (bootV F T sh).os.length ≤ 40
  h : (bootV F T sh).hs.length ≤ 40
  t : (bootV F T sh).tr.length ≤ 40
  s : (bootV F T sh).ts.length ≤ 40
  th : (bootT F T sh).length = T
  apart : ∀ f : Nat → Bool, Pt.Apt (bootV F T sh).vd wrP (Pt.spl f 0 (bootT F T sh)).1 (Pt.spl f 0 (bootT F T sh)).2 ↔ (sh = false ∨ (Pt.spl f 0 (bootT F T sh)).1 = [] ∨ (Pt.spl f 0 (bootT F T sh)).2 = [])
theorem boot_facts {F T : Nat} (sh : Bool) (hT1 : 1 ≤ T) (hT : T ≤ 3) (hF : 11 * T ≤ F) (hF2 : F ≤ 64) : BootF F T sh := by
  have h := boot_any sh hT1 hT hF hF2
  simp only [bootOk, Bool.and_eq_true, decide_eq_true_eq] at h
  obtain ⟨⟨⟨⟨⟨h1, h3⟩, h4⟩, h5⟩, h6⟩, h7⟩ := h
  refine ⟨h3, h4, h5, h6, h7, fun f => ?_⟩
  exact Pt.allOk_spec h1 (Pt.spl_mem f _ 0)
end Go.Proofs.YtgafamgacpglcaaGreat

