/- append of n noughts to a nil slice (slices.Grow). A law of my own, no program's. slices.Grow of a nil slice, slices.Concat of two slices of numbers. slices.Concat of two slices of numbers. slices.Compact of numbers: how long its result is. part: the plain law of parted and of Apart's answers: sorted lists, and what the parts of Apart mean. part.parted: are two lists together all threads of a view, each once? Effects that only add blocks, none of which looks at another's result, in any order. Laws of my own, no program's. part.Apart: are two groups apart? What came in, opened: a struct whose fields are flat or slices of flat rows. A view that came in, opened: its rows as data. Is a view great? Is a number in a list? part: the plain law, made ready for deciding: what threads reach and lean on as lists; groups apart, groups not apart. No program. The plain law of PartBoots: a boot's view; which splits of its threads are apart. A boot's view, as one that can be read; awake. The walk of PartBoots. PartBoots' walk, as the last step wants it. Laws that the statement's proof leans on. -/
import Derived.Test.YtgafamgacpglcaaGreatGs5
import Derived.Test.YtgafamgacpglcaaGreatGs3
import Derived.Lib.AppendZeros
import Derived.Test.YtgafamgacpglcaaGreatGs4
import Derived.Test.YtgafamgacpglcaaGreatGs13
import Derived.Test.YtgafamgacpglcaaGreatGs6
import Derived.Test.YtgafamgacpglcaaGreatGs8
import Derived.Test.YtgafamgacpglcaaGreatGs12
import Derived.Test.YtgafamgacpglcaaGreatGs11
/- append of n noughts to a nil slice (slices.Grow). A law of my own, no program's. -/
set_option linter.unusedVariables false
set_option linter.unusedSimpArgs false
namespace Go.Proofs.YtgafamgacpglcaaGreat
open Go.RowKit Go.Lib

section
variable {P : Program} {ro : Option Nat} {N : Nat} {fr : Fr} {l : List Chunk} {d : Option Nat} {ty : TypeId} {pos : String} {aft : Array Edge} {g : Option (Nat × Bool)}
theorem e_appendZ {s x : Operand} {T T2 e yb n : Nat} {kn : IntKind} {z0 : Value} (hx : ev fr s = some (.slice none 0 0)) (hy : ev fr x = some (.int .i64 (n : Nat))) [c : ST P T e 1 yb] [cz : ZV P e [z0]] [ci : IT P T2 kn] (h0 : 0 < n) (hn : n ≤ 1000000) (hb : yb ≤ 1000) :
    OpE P ro N fr l ⟨d, .call { callee := .builtin .append, args := #[s, x], argTypes := #[T, T2] }, ty, pos, aft, g⟩ (fun v' l' => ∃ b cap sp, v' = .slice (some ⟨b, 0, none⟩) n cap ∧ n ≤ cap ∧ cap ≤ maxLen ∧ sp.length = cap ∧ l' = (b, .cells (List.toArray sp) e (0, 0)) :: l) := by
  refine ⟨rfl, fun E a W hf hs => ?_⟩
  have hρ := hf.agrees
  obtain ⟨inf, u1, u2, u3, u4⟩ := stV_spec c.out
  obtain ⟨inf', zv, z1, z2, z3⟩ := zvV_spec cz.out
  rw [u2] at z1
  cases z1
  have hex : execOp a.eval ⟨d, .call { callee := .builtin .append, args := #[s, x], argTypes := #[T, T2] }, ty, pos, aft, g⟩ = (do pure (.value (← Builtin.append_ #[T, T2] ty #[.slice none 0 0, .int .i64 (n : Nat)])) : Sem Next) := by
    simp [execOp, resolve, hρ s _ hx, hρ x _ hy, invoke, builtin]
  unfold OpVal
  rw [hex, Sem.run_bind]
  have hby : n * yb ≤ 1000000 * 1000 := Nat.mul_le_mul hn hb
  have hr := run_append_nil_zeros (P := P) W T T2 ty e inf zv .i64 kn u1 (itV_spec ci.out) u2 z2 n h0 (by rw [u3]; omega) (by omega) (by rw [u4]; omega)
  rw [hr]
  have hzz : zv.cells.size = 1 := by have := congrArg List.length z3; simpa using this
  have hge := grownCap_ge W n 0 e
  refine ⟨_, ⟨W.heap.size, grownCap W n 0 e, (Builtin.zeroCells zv.cells n ++ Builtin.zeroCells zv.cells (grownCap W n 0 e - n)).toList, rfl, hge, grownCap_le_maxLen _ _ _ _ (by unfold maxLen; omega), ?_, rfl⟩, ?_⟩
  · rw [Array.toList_append, List.length_append, Array.length_toList, Array.length_toList, size_zeroCells, size_zeroCells, hzz]; omega
  · have h2 := hs.drew.alloc (.cells (Builtin.zeroCells zv.cells n ++ Builtin.zeroCells zv.cells (grownCap W n 0 e - n)) e)
    rw [Array.toArray_toList]; exact h2
theorem q_slice0 {R : List Chunk} {x : Operand} {T e k yb : Nat} {lo hi mx : Option Operand} {l0 h0 m0 : Nat} (hx : ev fr x = some (.slice none 0 0)) [c : ST P T e k yb] (hl : Bnd fr lo 0 l0) (hh : Bnd fr hi 0 h0) (hm : Bnd fr mx 0 m0) (hno : mx.isSome = true → hi.isSome = true) (h1 : l0 ≤ h0) (h2 : h0 ≤ m0) (h3 : m0 ≤ 0) :
    OpQ P ro N fr R ⟨d, .slice T x lo hi mx, ty, pos, aft, g⟩ (.slice none 0 0) := opQ_of_sl rfl fun ρ l hρ _ => by
  obtain ⟨inf, u1, u2, u3, _⟩ := stV_spec c.out
  obtain rfl : m0 = 0 := by omega
  obtain rfl : h0 = 0 := by omega
  obtain rfl : l0 = 0 := by omega
  simp only [execOp, hρ x _ hx]
  rw [sl_bind]
  unfold Instr.sliceAt
  rw [sl_under u1]
  show sl P (Instr.slice T _ _ _ _) l _
  unfold Instr.slice
  rw [sl_under u1]
  simp only [sl_bind]
  rw [sl_sliceBounds hρ hl hh hm hno h1 h2 h3]
  simp only
  rw [sl_sizeOf' u2]
  simp only [sl_pure, u3]
  refine ⟨?_, trivial⟩
  simp
theorem q_append0 {R : List Chunk} {s x : Operand} {p q : Option Addr} {T e kk yb n cap cp : Nat} (hs : ev fr s = some (.slice p n cap)) (hx : ev fr x = some (.slice q 0 cp)) [c : ST P T e kk yb] (hn : n ≤ cap) :
    OpQ P ro N fr R ⟨d, .call { callee := .builtin .append, args := #[s, x], argTypes := #[T, T] }, ty, pos, aft, g⟩ (.slice p n cap) := opQ_of_sl rfl fun ρ l hρ _ => by
  obtain ⟨inf, u1, u2, _⟩ := stV_spec c.out
  simp only [execOp, resolve, sl_bind, sl_pure, invoke, builtin, List.map_toArray, List.map_cons, List.map_nil, hρ s _ hs, hρ x _ hx]
  unfold Builtin.append_
  simp only [List.getElem?_toArray, List.getElem?_cons_zero, List.getElem?_cons_succ, sl_bind]
  rw [sl_under' u1]
  simp only
  rw [sl_sizeOf u2]
  simp only [sl_bind]
  rw [sl_under' u1]
  simp only [sl_pure, Bool.false_eq_true, if_false, Builtin.lenOf, Bool.not_false, if_true, Nat.add_zero, if_pos hn, sl_bind, Builtin.firstCells]
  cases q with
  | none =>
    cases p with
    | none => exact ⟨rfl, rfl⟩
    | some a => exact ⟨rfl, rfl⟩
  | some a' =>
    simp only [Nat.zero_mul, loadCells, loadCellsFrom, sl_pure]
    cases p with
    | none => exact ⟨rfl, rfl⟩
    | some a => exact ⟨rfl, rfl⟩
end
end Go.Proofs.YtgafamgacpglcaaGreat


/- slices.Grow of a nil slice, slices.Concat of two slices of numbers. -/
-- GU
set_option linter.unusedVariables false
set_option linter.unusedSimpArgs false
namespace Go.Proofs.YtgafamgacpglcaaGreat
open Go.RowKit
set_option maxRecDepth 20000
set_option pp.deepTerms false
set_option pp.deepTerms.threshold 4

theorem grow_any (n : Nat) (hn : n ≤ 1000000) (l : List Chunk) :
    Fn Tryz.prog 94 [.slice none 0 0, .int .i64 (n : Nat)] l fun v l' => ∃ cs, OwnSl 3 1 v 0 [] cs ∧ l' = cs ++ l := by
  refine fn_of_body Tryz.func94 rfl rfl fun E => ?_
  simp only [argF, Tryz.ntmps94]
  refine gzU ?_
  refine t_q (Ar.q_cap rfl) rfl rfl rfl ?_
  refine gzU ?_
  by_cases h0 : n = 0
  · subst h0
    refine gzU ?_
    exact k_ret [] rfl (l' := l) .refl (by exact zRes) ⟨[], OwnSl.nil _ _, rfl⟩
  refine gzU ?_
  refine t_q (Ar.q_cap rfl) rfl rfl rfl ?_
  refine gzU ?_
  refine t_q (q_slice0 (l0 := 0) (h0 := 0) (m0 := 0) rfl .none (.some rfl (by omega) rfl) .none (by simp) (by omega) (by omega) (by omega)) rfl rfl rfl ?_
  refine gzU ?_
  refine t_e (e_appendZ (n := n) rfl rfl (by omega) hn (by decide)) rfl rfl rfl ?_
  rintro _ _ ⟨b, cap, sp, rfl, k1, k2, k3, rfl⟩
  refine gzU ?_
  refine t_q (q_slice (l0 := 0) (h0 := 0) (m0 := cap) (off' := 0) (n' := 0) (c' := cap) rfl .none (.some rfl (by omega) rfl) .none (by simp) (by omega) (by omega) (by omega) (by simp) (by omega) (by omega)) rfl rfl rfl ?_
  refine gzU ?_
  refine k_ret [] rfl (l' := (b, Obj.cells (List.toArray sp) 3 (0, 0)) :: l) .refl (by exact zRes) ?_
  exact ⟨[(b, Obj.cells (List.toArray sp) 3 (0, 0))], ⟨by simp, .inr ⟨b, cap, sp, rfl, by simp, by omega, k2, by simpa using k3⟩⟩, rfl⟩
theorem e_appendIs {N : Nat} {fr : Fr} {F : List Chunk} {d : Option Nat} {ty : TypeId} {pos : String} {aft : Array Edge} {g : Option (Nat × Bool)} {s x : Operand} {v vx : Value} {xs ys : List Int} {cs : List Chunk} (hs : ev fr s = some v) (hx : ev fr x = some vx) (ho : OwnSl 3 1 v xs.length (xs.map intQ) cs) (hI : IntSl F vx ys) (h1 : xs.length ≤ 1000000) (h2 : ys.length ≤ 1000000) :
    OpE Tryz.prog none N fr (cs ++ F) ⟨d, .call { callee := .builtin .append, args := #[s, x], argTypes := #[30, 30] }, ty, pos, aft, g⟩ (fun v' l' => ∃ cs', OwnSl 3 1 v' (xs ++ ys).length ((xs ++ ys).map intQ) cs' ∧ l' = cs' ++ F) := by
  obtain ⟨a, cp, rfl, hr⟩ := hI
  by_cases h0 : ys.length = 0
  · obtain rfl : ys = [] := List.eq_nil_of_length_eq_zero h0
    obtain ⟨p, cap, hv⟩ := ho.shape
    subst hv
    have hle : xs.length ≤ cap := by
      rcases ho.2 with ⟨e1, e2, _⟩ | ⟨b, c2, sp, e1, _, e2, _⟩
      · omega
      · cases e1; exact e2
    have hq := q_append0 (P := Tryz.prog) (ro := none) (N := N) (R := []) (d := d) (ty := ty) (pos := pos) (aft := aft) (g := g) (T := 30) hs hx hle
    refine (hq.run (cs ++ F) fun c hc => by cases hc).mono ?_
    rintro _ _ ⟨rfl, rfl⟩
    exact ⟨cs, by rw [List.append_nil]; exact ho, rfl⟩
  · obtain ⟨b, off, rw_, t, fz, rfl, hm, hc⟩ := hr (by omega)
    rw [List.length_append, List.map_append]
    exact ce_append (k := 1) (yb := 8) (news := ys.map intQ) (zs := [.int .i64 0]) (m := ys.length) hs hx rfl ho (List.mem_append_right _ hm) (fun j u hj => by
      rw [List.getElem?_map] at hj
      cases hy : ys[j]? with
      | none => rw [hy] at hj; cases hj
      | some y => rw [hy] at hj; cases hj; have := hc j y hy; rw [Nat.mul_one] at this; exact this) (by simp) (by simp [Value.oneCell', intQ]) (by unfold maxLen; omega) (by omega)
end Go.Proofs.YtgafamgacpglcaaGreat


/- slices.Concat of two slices of numbers. -/
-- GU
set_option linter.unusedVariables false
set_option linter.unusedSimpArgs false
namespace Go.Proofs.YtgafamgacpglcaaGreat
open Go.RowKit
set_option maxRecDepth 20000
set_option pp.deepTerms false
set_option pp.deepTerms.threshold 4

abbrev catC (b : Nat) (v1 v2 : Value) : Chunk := (b, .cells (List.toArray [v1, v2]) 30 (0, 0))
def szC (xs ys : List Int) (i : Nat) : Nat := if i = 0 then 0 else if i = 1 then xs.length else xs.length + ys.length
def apC (xs ys : List Int) (i : Nat) : List Int := if i = 0 then [] else if i = 1 then xs else xs ++ ys
set_option maxHeartbeats 2000000 in
theorem concat_any (v1 v2 : Value) (xs ys : List Int) (B : Nat) (l : List Chunk) (h1 : IntSl l v1 xs) (h2 : IntSl l v2 ys) (hm : catC B v1 v2 ∈ l) (hx : xs.length ≤ 1000) (hy : ys.length ≤ 1000) :
    Fn Tryz.prog 41 [.slice (some ⟨B, 0, none⟩) 2 2] l fun v l' => ∃ cs, OwnSl 3 1 v (xs ++ ys).length ((xs ++ ys).map intQ) cs ∧ l' = cs ++ l := by
  have h1' := h1
  have h2' := h2
  obtain ⟨a1, c1, rfl, _⟩ := h1'
  obtain ⟨a2, c2, rfl, _⟩ := h2'
  refine fn_of_body Tryz.func41 rfl rfl fun E => ?_
  simp only [argF, Tryz.ntmps41]
  refine gzU ?_
  refine k_loop (α := Nat) (fun i => [(0, .slice (some ⟨B, 0, none⟩) 2 2), (9, .slice (some ⟨B, 0, none⟩) 2 2), (10, .int .i64 2), (11, .int .i64 i), (3, .int .i64 (szC xs ys i : Nat))]) (fun _ => l) (fun i => i ≤ 2) (fun i => 2 - i) 0 (by omega) ⟨rfl, rfl, rfl, rfl, rfl, trivial⟩ .refl ?_
  intro i hi
  rcases i with _ | _ | _ | i
  · rw [show szC xs ys 0 = 0 from rfl]
    refine gzU ?_
    refine k_next 1 (by omega) (by omega) ⟨rfl, rfl, rfl, rfl, ?_, trivial⟩ .refl
    show some (Value.int _ _) = some (Value.int _ _)
    simp [szC]
  · rw [show szC xs ys 1 = xs.length from rfl]
    refine gzU ?_
    refine k_next 2 (by omega) (by omega) ⟨rfl, rfl, rfl, rfl, ?_, trivial⟩ .refl
    show some (Value.int _ _) = some (Value.int _ _)
    simp [szC]
  · rw [show szC xs ys 2 = xs.length + ys.length from rfl]
    refine gzU ?_
    refine t_e (e_call0 rfl rfl (grow_any (xs.length + ys.length) (by omega) _)) rfl rfl rfl ?_
    rintro vg _ ⟨cg, hg, rfl⟩
    have hvg := hg.one
    refine gzU ?_
    refine k_loop (α := Nat × Value × List Chunk) (fun y => [(25, .slice (some ⟨B, 0, none⟩) 2 2), (26, .int .i64 2), (27, .int .i64 y.1), (6, y.2.1)]) (fun y => y.2.2 ++ l) (fun y => y.1 ≤ 2 ∧ OwnSl 3 1 y.2.1 (apC xs ys y.1).length ((apC xs ys y.1).map intQ) y.2.2) (fun y => 2 - y.1) (0, vg, cg) ⟨by simp only; omega, hg⟩ ⟨rfl, rfl, rfl, rfl, trivial⟩ .refl ?_
    rintro ⟨i, v, cs⟩ ⟨hi, ho⟩
    simp only at hi ho ⊢
    have hv1 := ho.one
    rcases i with _ | _ | _ | i
    · refine gzU ?_
      refine t_q (q_load (v := .slice a1 xs.length c1) rfl (List.mem_append_right _ hm) rfl) rfl rfl rfl ?_
      refine gzU ?_
      refine t_e (e_appendIs (xs := []) rfl rfl ho h1 (by simp) (by omega)) rfl rfl rfl ?_
      rintro v' _ ⟨c', ho', rfl⟩
      have hv2 := ho'.one
      refine gzU ?_
      exact k_next (1, v', c') ⟨by simp only; omega, ho'⟩ (by simp only; omega) ⟨rfl, rfl, rfl, rfl, trivial⟩ .refl
    · refine gzU ?_
      refine t_q (q_load (v := .slice a2 ys.length c2) rfl (List.mem_append_right _ hm) rfl) rfl rfl rfl ?_
      refine gzU ?_
      refine t_e (e_appendIs (xs := xs) rfl rfl ho h2 (by omega) (by omega)) rfl rfl rfl ?_
      rintro v' _ ⟨c', ho', rfl⟩
      have hv2 := ho'.one
      refine gzU ?_
      exact k_next (2, v', c') ⟨by simp only; omega, ho'⟩ (by simp only; omega) ⟨rfl, rfl, rfl, rfl, trivial⟩ .refl
    · refine gzU ?_
      refine k_ret [] rfl (l' := cs ++ l) .refl (by exact zRes) ?_
      exact ⟨cs, ho, rfl⟩
    · omega
  · omega
end Go.Proofs.YtgafamgacpglcaaGreat


/- slices.Compact of numbers: how long its result is. -/
-- GU
set_option linter.unusedVariables false
set_option linter.unusedSimpArgs false
namespace Go.Proofs.YtgafamgacpglcaaGreat
open Go.RowKit
set_option maxRecDepth 20000
set_option pp.deepTerms false
set_option pp.deepTerms.threshold 4

/-- no neighbours are alike -/
def NoTwin (xs : List Int) : Prop := ∀ (i : Nat) (x y : Int), xs[i]? = some x → xs[i + 1]? = some y → x ≠ y
/-- n numbers stand first -/
def IntsTo (n : Nat) (cs : Array Value) : Prop := ∀ j, j < n → ∃ x : Int, cs[j]? = some (intQ x)
theorem IntsTo.set {n : Nat} {cs : Array Value} (h : IntsTo n cs) (i : Nat) (x : Int) : IntsTo n (cs.setIfInBounds i (intQ x)) := fun j hj => by
  obtain ⟨y, hy⟩ := h j hj
  rw [Array.getElem?_setIfInBounds]
  split
  · rename_i e
    have := (Array.getElem?_eq_some_iff.1 hy).1
    rw [if_pos (by omega)]
    exact ⟨x, rfl⟩
  · exact ⟨y, hy⟩
abbrev cpB (b : Nat) (cs : Array Value) : Chunk := (b, .cells cs 3 (0, 0))
set_option pp.deepTerms.threshold 12 in
set_option maxHeartbeats 4000000 in
theorem compact_any (b cap : Nat) (xs : List Int) (cs : Array Value) (hcs : ∀ (k : Nat) (x : Int), xs[k]? = some x → cs[k]? = some (intQ x)) (hsz : xs.length ≤ cs.size) (hn : xs.length ≤ 1000000) (hcap : xs.length ≤ cap) (hcm : cap ≤ maxLen) (l : List Chunk) :
    Fn Tryz.prog 44 [.slice (some ⟨b, 0, none⟩) xs.length cap] (cpB b cs :: l) fun v l' => ∃ n' a' c' ys, v = .slice a' n' c' ∧ (n' = xs.length ↔ NoTwin xs) ∧ l' = cpB b ys :: l := by
  refine fn_of_body Tryz.func44 rfl rfl fun E => ?_
  simp only [argF, Tryz.ntmps44]
  refine gzU ?_
  by_cases h2 : xs.length < 2
  · refine gzU ?_
    refine k_ret [] rfl (l' := _) .refl (by exact zRes) ?_
    exact ⟨xs.length, _, cap, _, rfl, ⟨fun _ i x y h1 h2' => by have := (List.getElem?_eq_some_iff.1 h2').1; omega, fun _ => rfl⟩, rfl⟩
  refine gzU ?_
  refine k_loop (α := Nat) (fun k => [(0, .slice (some ⟨b, 0, none⟩) xs.length cap), (3, .int .i64 k)]) (fun _ => cpB b cs :: l) (fun k => 1 ≤ k ∧ k ≤ xs.length ∧ ∀ (i : Nat) (x y : Int), i + 1 < k → xs[i]? = some x → xs[i + 1]? = some y → x ≠ y) (fun k => xs.length - k) 1 ⟨by omega, by omega, fun i _ _ h => by omega⟩ ⟨rfl, rfl, trivial⟩ .refl ?_
  rintro k ⟨hk1, hk, hno⟩
  by_cases hlt : k < xs.length
  · obtain ⟨x, e1⟩ : ∃ x, xs[k]? = some x := ⟨_, List.getElem?_eq_getElem hlt⟩
    obtain ⟨y, e2⟩ : ∃ y, xs[k - 1]? = some y := ⟨_, List.getElem?_eq_getElem (by omega)⟩
    have g1 : cs[k * 1]? = some (intQ x) := by rw [Nat.mul_one]; exact hcs k x e1
    have g2 : cs[0 + ((k : Int) - 1).toNat * 1]? = some (intQ y) := by rw [Nat.zero_add, Nat.mul_one, show ((k : Int) - 1).toNat = k - 1 by omega]; exact hcs _ y e2
    refine gzU ?_
    refine c_draw [(0, true), (1, true), (2, true), (3, true), (4, true), (5, true), (6, true), (7, true), (8, true), (9, true)] [[], [], [0, 1], [0, 1, 2], [], [], [5], [4, 5, 6], [4, 5, 6, 7], [0, 1, 2, 3, 4, 5, 6, 7, 8]] _ (by kernel_rfl) (by kernel_rfl) zAtt (fun _ h => h) ?_
    refine pzU ?_
    by_cases hxy : x = y
    case neg =>
      refine gzU ?_
      refine k_next (k + 1) ⟨by omega, by omega, fun i a c hi q1 q2 => ?_⟩ (by omega) ⟨rfl, rfl, trivial⟩ .refl
      by_cases e : i + 1 = k
      · subst e; rw [e1] at q2; rw [Nat.add_sub_cancel, q1] at e2; cases q2; cases e2; exact fun h => hxy h.symm
      · exact hno i a c (by omega) q1 q2
    refine gzU ?_
    refine t_q (q_slice (l0 := k) (h0 := xs.length) (m0 := cap) (off' := k) (n' := xs.length - k) (c' := cap - k) rfl (.some rfl (by omega) rfl) .none .none (by simp) (by omega) (by omega) (by omega) (by rw [if_neg (by omega)]; omega) (by omega) (by omega)) rfl rfl rfl ?_
    refine gzU ?_
    refine k_loop (α := Nat × Nat × Array Value) (fun y => [(0, .slice (some ⟨b, 0, none⟩) xs.length cap), (3, .int .i64 (y.2.1 : Nat)), (4, .slice (some ⟨b, k, none⟩) (xs.length - k) (cap - k)), (5, .int .i64 (y.1 : Nat))]) (fun y => cpB b y.2.2 :: l) (fun y => 1 ≤ y.1 ∧ y.1 ≤ xs.length - k ∧ k ≤ y.2.1 ∧ y.2.1 ≤ k + y.1 - 1 ∧ y.2.2.size = cs.size ∧ IntsTo xs.length y.2.2) (fun y => xs.length - k - y.1) (1, k, cs) ⟨by simp only; omega, by simp only; omega, by simp only; omega, by simp only; omega, rfl, fun j hj => ⟨_, hcs j _ (List.getElem?_eq_getElem hj)⟩⟩ ⟨rfl, rfl, rfl, rfl, trivial⟩ .refl ?_
    rintro ⟨k2, k3, ds⟩ ⟨hj1, hj2, hj3, hj4, hds, hI⟩
    simp only at hj1 hj2 hj3 hj4 hds hI ⊢
    by_cases hlt2 : k2 < xs.length - k
    · obtain ⟨u, f1⟩ := hI (k + k2) (by omega)
      obtain ⟨w, f2⟩ := hI (k + (k2 - 1)) (by omega)
      have g3 : ds[k + k2 * 1]? = some (intQ u) := by rw [Nat.mul_one]; exact f1
      have g4 : ds[k + ((k2 : Int) - 1).toNat * 1]? = some (intQ w) := by rw [Nat.mul_one, show ((k2 : Int) - 1).toNat = k2 - 1 by omega]; exact f2
      refine gzU ?_
      refine c_draw [(0, true), (1, true), (2, true), (3, true), (4, true), (5, true), (6, true), (7, true), (8, true), (9, true)] [[], [], [0, 1], [0, 1, 2], [], [], [5], [4, 5, 6], [4, 5, 6, 7], [0, 1, 2, 3, 4, 5, 6, 7, 8]] _ (by kernel_rfl) (by kernel_rfl) zAtt (fun _ h => h) ?_
      refine pzU ?_
      by_cases huw : u = w
      · refine gzU ?_
        exact k_next (k2 + 1, k3, ds) ⟨by simp only; omega, by simp only; omega, by simp only; omega, by simp only; omega, hds, hI⟩ (by simp only; omega) ⟨rfl, rfl, rfl, rfl, trivial⟩ .refl
      refine gzU ?_
      refine t_n (e_store (cs := ds) rfl rfl rfl .here (by omega)) rfl rfl ?_
      rintro _ _ ⟨rfl, rfl⟩
      refine gzU ?_
      have hds2 : (ds.setIfInBounds (k3 * 1) (intQ u)).size = cs.size := by rw [Array.size_setIfInBounds]; exact hds
      have hI2 := hI.set (k3 * 1) u
      exact k_next (k2 + 1, k3 + 1, ds.setIfInBounds (k3 * 1) (intQ u)) ⟨by simp only; omega, by simp only; omega, by simp only; omega, by simp only; omega, hds2, hI2⟩ (by simp only; omega) ⟨rfl, rfl, rfl, rfl, trivial⟩ .refl
    refine gzU ?_
    refine t_q (q_slice (l0 := k3) (h0 := xs.length) (m0 := cap) (off' := k3) (n' := xs.length - k3) (c' := cap - k3) rfl (.some rfl (by omega) rfl) .none .none (by simp) (by omega) (by omega) (by omega) (by rw [if_neg (by omega)]; omega) (by omega) (by omega)) rfl rfl rfl ?_
    refine t_n (e_clear (cs := ds) (zs := [.int .i64 0]) rfl (by omega) (by simp [Value.oneCell']) .here (by simp only [List.length_cons, List.length_nil]; omega)) rfl rfl ?_
    rintro _ _ ⟨rfl, rfl⟩
    refine gzU ?_
    refine t_q (q_slice (l0 := 0) (h0 := k3) (m0 := cap) (off' := 0) (n' := k3) (c' := cap) rfl .none (.some rfl (by omega) rfl) .none (by simp) (by omega) (by omega) (by omega) (by simp) (by omega) (by omega)) rfl rfl rfl ?_
    refine gzU ?_
    refine k_ret [] rfl (l' := _) .refl (by exact zRes) ?_
    exact ⟨k3, _, cap, _, rfl, ⟨fun h => by omega, fun h => absurd hxy.symm (h (k - 1) y x e2 (by rw [Nat.sub_add_cancel hk1]; exact e1))⟩, rfl⟩
  obtain rfl : k = xs.length := by omega
  refine gzU ?_
  refine k_ret [] rfl (l' := _) .refl (by exact zRes) ?_
  exact ⟨xs.length, _, cap, _, rfl, ⟨fun _ i x y h1 h2' => hno i x y (by have := (List.getElem?_eq_some_iff.1 h2').1; omega) h1 h2', fun _ => rfl⟩, rfl⟩
end Go.Proofs.YtgafamgacpglcaaGreat


/- part: the plain law of parted and of Apart's answers: sorted lists, and what the parts of Apart mean. -/
set_option linter.unusedVariables false
set_option linter.unusedSimpArgs false
namespace Go.Proofs.YtgafamgacpglcaaGreat
open Go.RowKit

theorem srt_pw (zs : List Int) : (srt zs).Pairwise (· ≤ ·) := by
  have := List.pairwise_mergeSort (le := fun x y : Int => decide (x ≤ y)) (fun a b c h1 h2 => by simp at *; omega) (fun a b => by simp; omega) zs
  exact this.imp fun h => by simpa using h
theorem srt_eq (xs ys : List Int) : srt xs = srt ys ↔ xs.Perm ys := by
  constructor
  · intro h
    have h1 := List.mergeSort_perm xs (fun x y : Int => decide (x ≤ y))
    have h2 := List.mergeSort_perm ys (fun x y : Int => decide (x ≤ y))
    exact h1.symm.trans ((show (srt xs).Perm (srt ys) by rw [h]).trans h2)
  · intro h
    have h1 := List.mergeSort_perm xs (fun x y : Int => decide (x ≤ y))
    have h2 := List.mergeSort_perm ys (fun x y : Int => decide (x ≤ y))
    exact List.Perm.eq_of_pairwise (le := (· ≤ ·)) (fun a b _ _ h1 h2 => Int.le_antisymm h1 h2) (srt_pw xs) (srt_pw ys) (h1.trans (h.trans h2.symm))
theorem noTwin_cons {x y : Int} {r : List Int} (h : NoTwin (x :: y :: r)) : x ≠ y ∧ NoTwin (y :: r) := ⟨h 0 x y rfl rfl, fun i a b h1 h2 => h (i + 1) a b (by simpa using h1) (by simpa using h2)⟩
theorem noTwin_lt : ∀ {zs : List Int}, zs.Pairwise (· ≤ ·) → NoTwin zs → zs.Pairwise (· < ·)
  | [], _, _ => .nil
  | [x], _, _ => by simp
  | x :: y :: r, hp, hn => by
    obtain ⟨h1, h2⟩ := noTwin_cons hn
    rw [List.pairwise_cons] at hp
    have ih := noTwin_lt hp.2 h2
    rw [List.pairwise_cons]
    refine ⟨fun z hz => ?_, ih⟩
    have hxy := hp.1 y List.mem_cons_self
    rcases List.mem_cons.1 hz with rfl | hz
    · omega
    · have := (List.pairwise_cons.1 ih).1 z hz; omega
theorem nodup_noTwin {zs : List Int} (h : zs.Nodup) : NoTwin zs := fun i x y h1 h2 e => by
  obtain ⟨l1, q1⟩ := List.getElem?_eq_some_iff.1 h1
  obtain ⟨l2, q2⟩ := List.getElem?_eq_some_iff.1 h2
  have := List.pairwise_iff_getElem.1 h i (i + 1) l1 l2 (by omega)
  exact this (by rw [q1, q2, e])
theorem srt_twin (zs : List Int) : NoTwin (srt zs) ↔ zs.Nodup := by
  have hp := List.mergeSort_perm zs (fun x y : Int => decide (x ≤ y))
  rw [← hp.nodup_iff]
  exact ⟨fun h => (noTwin_lt (srt_pw zs) h).imp fun h => by omega, nodup_noTwin⟩
theorem srt_len (zs : List Int) : (srt zs).length = zs.length := List.length_mergeSort ..
def wrP (h : Pt.HD) : Bool := decide (landI h.rights 2 ≠ 0)
def hdP (h : HdT) : Pt.HD := (h.1, h.2.kind, h.2.obj, h.2.rights, h.2.serial)
theorem mem_cs {x : VwT} {q : Pt.HD} : q ∈ x.vd.cs ↔ ∃ h, h ∈ x.hs ∧ q = hdP h := by
  show q ∈ x.hs.map hdP ↔ _
  rw [List.mem_map]
  exact ⟨fun ⟨h, h1, h2⟩ => ⟨h, h1, h2.symm⟩, fun ⟨h, h1, h2⟩ => ⟨h, h1, h2.symm⟩⟩
theorem und_iff (x : VwT) (xs : List Int) (s : Int × Int) : UndTo x.tr (Pt.Slt x.vd xs) x.tr.length s ↔ Pt.Und x.vd xs s := by
  constructor
  · rintro ⟨i, _, j, n, h⟩; exact ⟨i, j, n, h⟩
  · rintro ⟨i, j, n, h⟩; exact ⟨i, (List.getElem?_eq_some_iff.1 h.1).1, j, n, h⟩
theorem use_iff (x : VwT) (xs : List Int) (f : Int) (h : HdT) (hf : Pt.kn x.vd f 3 = true) : (FrT x f h ∧ (Pt.Slt x.vd xs h.1 ∨ Pt.Mps x.vd xs h.1)) ∧ h ∈ x.hs → Pt.Use x.vd xs f (hdP h) := fun ⟨⟨⟨h1, h2, h3⟩, h4⟩, h5⟩ => ⟨mem_cs.2 ⟨h, h5, rfl⟩, h1, h3, h4⟩
theorem wrt_iff (x : VwT) (xs ys : List Int) : (∃ f, WrtT x (Pt.Slt x.vd xs) (Pt.Mps x.vd xs) (Pt.Slt x.vd ys) (Pt.Mps x.vd ys) f) ↔ Pt.Wrt x.vd wrP xs ys := by
  constructor
  · rintro ⟨f, ⟨h1, k1, f1, s1⟩, ⟨h2, k2, f2, s2⟩, h3, k3, f3, s3, w⟩
    have hf : Pt.kn x.vd f 3 = true := by rw [← f1.2.2]; exact f1.2.1
    refine ⟨f, hf, ⟨_, use_iff x xs f h1 hf ⟨⟨f1, s1⟩, k1⟩⟩, ⟨_, use_iff x ys f h2 hf ⟨⟨f2, s2⟩, k2⟩⟩, hdP h3, ?_, w⟩
    rcases s3 with s3 | s3
    · exact .inl (use_iff x xs f h3 hf ⟨⟨f3, s3⟩, k3⟩)
    · exact .inr (use_iff x ys f h3 hf ⟨⟨f3, s3⟩, k3⟩)
  · rintro ⟨f, hf, ⟨q1, u1⟩, ⟨q2, u2⟩, q3, u3, w⟩
    have key : ∀ zs q, Pt.Use x.vd zs f q → ∃ h, q = hdP h ∧ h ∈ x.hs ∧ FrT x f h ∧ (Pt.Slt x.vd zs h.1 ∨ Pt.Mps x.vd zs h.1) := by
      rintro zs q ⟨hm, h1, h2, h3⟩
      obtain ⟨h, hh, rfl⟩ := mem_cs.1 hm
      have h2' : h.2.obj = f := h2
      exact ⟨h, rfl, hh, ⟨h1, by rw [h2']; exact hf, h2'⟩, h3⟩
    obtain ⟨h1, _, k1, f1, s1⟩ := key _ _ u1
    obtain ⟨h2, _, k2, f2, s2⟩ := key _ _ u2
    refine ⟨f, ⟨h1, k1, f1, s1⟩, ⟨h2, k2, f2, s2⟩, ?_⟩
    rcases u3 with u3 | u3
    · obtain ⟨h3, rfl, k3, f3, s3⟩ := key _ _ u3
      exact ⟨h3, k3, f3, .inl s3, w⟩
    · obtain ⟨h3, rfl, k3, f3, s3⟩ := key _ _ u3
      exact ⟨h3, k3, f3, .inr s3, w⟩
theorem abv_iff (x : VwT) (xs ys : List Int) : (∃ h, h ∈ x.hs ∧ AbvH x (Pt.Slt x.vd xs) (UndTo x.tr (Pt.Slt x.vd xs) x.tr.length) (Pt.Mps x.vd ys) (Pt.Slt x.vd ys) (Pt.Lns x.vd ys) h) ↔ Pt.Abv x.vd xs ys := by
  constructor
  · rintro ⟨h, hm, hh⟩
    refine ⟨hdP h, mem_cs.2 ⟨h, hm, rfl⟩, ?_⟩
    rcases hh with hh | ⟨h1, h2⟩
    · exact .inl hh
    · exact .inr ⟨(und_iff ..).1 h1, h2⟩
  · rintro ⟨q, hm, hh⟩
    obtain ⟨h, hm2, rfl⟩ := mem_cs.1 hm
    refine ⟨h, hm2, ?_⟩
    rcases hh with hh | ⟨h1, h2⟩
    · exact .inl hh
    · exact .inr ⟨(und_iff ..).2 h1, h2⟩
theorem prt_iff (x : VwT) (xs ys : List Int) : (srt (x.ts.map Th.ThT.id) = srt (xs ++ ys) ∧ NoTwin (srt (x.ts.map Th.ThT.id))) ↔ Pt.Prt x.vd xs ys := by
  have e : x.vd.ts.map (fun t => t.1) = x.ts.map Th.ThT.id := by show (x.ts.map _).map _ = _; rw [List.map_map]; rfl
  unfold Pt.Prt
  rw [e, srt_eq, srt_twin]
  exact ⟨fun ⟨h1, h2⟩ => ⟨h1.symm, h1.nodup_iff.1 h2⟩, fun ⟨h1, h2⟩ => ⟨h1.symm, h1.nodup_iff.1 h2⟩⟩
end Go.Proofs.YtgafamgacpglcaaGreat


/- part.parted: are two lists together all threads of a view, each once? -/
-- GU
set_option linter.unusedVariables false
set_option linter.unusedSimpArgs false
namespace Go.Proofs.YtgafamgacpglcaaGreat
open Go.RowKit
set_option maxRecDepth 20000
set_option pp.deepTerms false
set_option pp.deepTerms.threshold 4

theorem compactNil_any (l : List Chunk) : Fn Tryz.prog 44 [.slice none 0 0] l fun r l' => r = .slice none 0 0 ∧ l' = l := by
  refine fn_of_body Tryz.func44 rfl rfl fun E => ?_
  simp only [argF, Tryz.ntmps44]
  refine gzU ?_
  exact k_ret [] rfl .refl (by exact zRes) ⟨rfl, rfl⟩
theorem compactOwn_any (v : Value) (zs : List Int) (cs l : List Chunk) (ho : OwnSl 3 1 v zs.length (zs.map intQ) cs) (hn : zs.length ≤ 1000000) :
    Fn Tryz.prog 44 [v] (cs ++ l) fun r l' => ∃ n' a' c' cs', r = .slice a' n' c' ∧ (n' = zs.length ↔ NoTwin zs) ∧ l' = cs' ++ l := by
  rcases ho.2 with ⟨rfl, h0, rfl⟩ | ⟨b, cap, sp, rfl, rfl, h1, h2, h3⟩
  · obtain rfl : zs = [] := List.eq_nil_of_length_eq_zero h0
    exact (compactNil_any l).mono fun r l' ⟨h1, h2⟩ => ⟨0, none, 0, [], h1, ⟨fun _ i x y h1 _ => by simp at h1, fun _ => rfl⟩, h2⟩
  · refine (compact_any b cap zs _ (fun k x hk => ?_) ?_ hn h1 h2 l).mono ?_
    · rw [List.getElem?_toArray, List.getElem?_append_left (by rw [List.length_map]; exact (List.getElem?_eq_some_iff.1 hk).1), List.getElem?_map, hk]; rfl
    · simp
    · rintro r l' ⟨n', a', c', ys, h1, h2, rfl⟩
      exact ⟨n', a', c', [_], h1, h2, rfl⟩
theorem kp1 (cb cs l : List Chunk) (z : Chunk) : Keep (cb ++ z :: (cs ++ l)) (cs ++ (cb ++ l)) := keep_ac [z]
theorem kp2 (cb cs l : List Chunk) : Keep (cs ++ (cb ++ l)) (cb ++ (cs ++ l)) := keep_ac []
set_option maxHeartbeats 4000000 in
theorem parted_any (x : VwT) (c : List Value) (v1 v2 : Value) (xs ys : List Int) (l : List Chunk) (hV : VwIn l x c) (h1 : IntSl l v1 xs) (h2 : IntSl l v2 ys) (hx : xs.length ≤ 100) (hy : ys.length ≤ 100) :
    Fn Tryz.prog 15 [.agg (List.toArray c), v1, v2] l fun v l' => (∃ b, v = .bool b ∧ (b = true ↔ Pt.Prt x.vd xs ys)) ∧ l' = l := by
  have h1' := h1
  have h2' := h2
  obtain ⟨a1, ca1, rfl, _⟩ := h1'
  obtain ⟨a2, ca2, rfl, _⟩ := h2'
  obtain ⟨vo, vc, vt, vh, hC⟩ := hV.cells
  have hls := hV.ls
  obtain ⟨a, cap, hvh, hr⟩ := hC.s
  rw [List.length_map] at hvh hr
  subst hvh
  refine fn_of_body Tryz.func15 rfl rfl fun E => ?_
  simp only [argF, Tryz.ntmps15]
  refine gzU ?_
  refine t_e (e_boxA rfl) rfl rfl rfl ?_
  rintro _ _ ⟨b3, _, rfl, rfl⟩
  refine gzU ?_
  refine t_q (q_load rfl (.head _) hC.c3) rfl rfl rfl ?_
  refine gzU ?_
  refine k_loop (α := Nat × Value × List Chunk) (fun y => [(1, .slice a1 xs.length ca1), (2, .slice a2 ys.length ca2), (7, y.2.1), (12, .slice a x.ts.length cap), (13, .int .i64 (x.ts.length : Nat)), (14, .int .i64 y.1)]) (fun y => y.2.2 ++ l) (fun y => y.1 ≤ x.ts.length ∧ OwnSl 3 1 y.2.1 y.1 (((x.ts.take y.1).map Th.ThT.id).map intQ) y.2.2) (fun y => x.ts.length - y.1) (0, nilS, []) ⟨Nat.zero_le _, OwnSl.nil _ _⟩ ⟨rfl, rfl, rfl, rfl, rfl, rfl, trivial⟩ (.drop .refl) ?_
  rintro ⟨k, v, cs⟩ ⟨hk, ho⟩
  simp only at hk ho ⊢
  by_cases hlt : k < x.ts.length
  · obtain ⟨t, hit⟩ : ∃ t, x.ts[k]? = some t := ⟨_, List.getElem?_eq_getElem hlt⟩
    obtain ⟨bB, off, rw_, tt, fz, rfl, hmr, hrow⟩ := hr (by omega)
    obtain ⟨x1, x2, _⟩ := hrow k (Th.encH t) (by rw [List.getElem?_map, hit]; rfl)
    have htk : x.ts.take (k + 1) = x.ts.take k ++ [t] := by rw [List.take_add_one, hit]; rfl
    have hv3 := ho.one
    refine gzU ?_
    refine t_q (q_loadA rfl (List.mem_append_right _ hmr) x1 x2) rfl rfl rfl ?_
    refine gzU ?_
    refine t_e e_alloc rfl rfl rfl ?_; rintro _ _ ⟨b9, _, rfl, rfl⟩
    refine gzU ?_
    refine t_e (e_lit1 (v := intQ t.id) rfl rfl) rfl rfl rfl ?_
    rintro _ _ ⟨bl, _, rfl, rfl⟩
    refine t_e (e_appX (k := 1) (X := [_]) (ws := [intQ t.id]) (zs := [.int .i64 0]) rfl rfl rfl ho rfl (by simp [Value.oneCell', intQ]) (by omega) (by decide)) rfl rfl rfl ?_
    rintro v' _ ⟨c2, ho2, rfl⟩
    have hv4 : v'.oneCell' = true := ho2.one
    refine gzU ?_
    refine k_next (k + 1, v', c2) ⟨by simp only; omega, ?_⟩ (by simp only; omega) ⟨rfl, rfl, rfl, rfl, rfl, rfl, trivial⟩ (.drop .refl)
    simp only [htk, List.map_append, List.map_cons, List.map_nil]
    exact ho2
  obtain rfl : k = x.ts.length := by omega
  rw [List.take_length] at ho
  have hv3 := ho.one
  refine gzU ?_
  refine t_e (e_litN (z0 := .slice none 0 0) (cs := [.slice a1 xs.length ca1, .slice a2 ys.length ca2]) rfl (by decide) (by decide) rfl) rfl rfl rfl ?_
  rintro _ _ ⟨bl, _, rfl, rfl⟩
  refine t_e (e_call0 rfl rfl (concat_any _ _ xs ys bl _ (h1.mono fun q hq => .tail _ (List.mem_append_right _ hq)) (h2.mono fun q hq => .tail _ (List.mem_append_right _ hq)) (.head _) (by omega) (by omega))) rfl rfl rfl ?_
  rintro vb _ ⟨cb, hob, rfl⟩
  have hv5 : vb.oneCell' = true := hob.one
  obtain ⟨pb, cpb, rfl⟩ := hob.shape
  refine gzU ?_
  obtain ⟨ids, hids⟩ : ∃ ids, ids = x.ts.map Th.ThT.id := ⟨_, rfl⟩
  have hil : ids.length = x.ts.length := by rw [hids, List.length_map]
  rw [← hids] at ho
  have hPi := prt_iff x xs ys
  rw [← hids] at hPi
  have ho' : OwnSl 3 1 v ids.length (ids.map intV) cs := by rw [hil]; exact ho
  refine s_keep (l' := cs ++ (cb ++ l)) (kp1 ..) ?_
  refine t_e (e_call rfl rfl (sortOwn_any v ids cs _ ho' (by omega))) rfl rfl rfl ?_
  rintro _ _ ⟨rfl, cs', ho2, rfl⟩
  refine gzU ?_
  refine s_keep (l' := cb ++ (cs' ++ l)) (kp2 ..) ?_
  refine t_e (e_call rfl rfl (sortOwn_any _ (xs ++ ys) cb _ hob (by rw [List.length_append]; omega))) rfl rfl rfl ?_
  rintro _ _ ⟨rfl, cb', hob2, rfl⟩
  refine gzU ?_
  refine s_keep (l' := cs' ++ (cb' ++ l)) (kp2 ..) ?_
  refine t_q (q_call rfl rfl (fun l2 hl => equalI_any v _ (srt ids) (srt (xs ++ ys)) l2 (OwnSl.intsQ ho2 fun q hq => hl _ (List.mem_append_left _ hq)) (OwnSl.intsQ hob2 fun q hq => hl _ (List.mem_append_right _ (List.mem_append_left _ hq))) (by rw [srt_len]; omega))) rfl rfl rfl ?_
  by_cases he : srt ids = srt (xs ++ ys)
  case neg =>
    rw [decide_eq_false he]
    refine gzU ?_
    exact k_ret [] rfl (l' := l) (.dropL _ (.dropL _ .refl)) (by exact zRes) ⟨⟨false, rfl, fun h => (nomatch h), fun h => absurd (hPi.2 h).1 he⟩, rfl⟩
  rw [decide_eq_true he]
  refine gzU ?_
  refine t_eh (e_call rfl rfl (compactOwn_any v (srt ids) cs' _ ho2 (by rw [srt_len]; omega))) rfl rfl rfl ?_
  rintro _ _ ⟨n', a', c', cs2, rfl, hn', rfl⟩
  refine gzU ?_
  have hl2 : (srt ids).length = (xs ++ ys).length := by rw [he, srt_len]
  refine k_ret [] rfl (l' := l) (.dropL _ (.dropL _ .refl)) (by exact zRes) ⟨⟨_, rfl, ?_⟩, rfl⟩
  rw [decide_eq_true_iff, ← hPi, ← hn', hl2]
  exact ⟨fun h => ⟨he, by omega⟩, fun h => by omega⟩
end Go.Proofs.YtgafamgacpglcaaGreat


/- Effects that only add blocks, none of which looks at another's result, in any order. Laws of my own, no program's. -/
set_option linter.unusedVariables false
set_option linter.unusedSimpArgs false
namespace Go.Proofs.YtgafamgacpglcaaGreat
open Go.RowKit

section
variable {P : Program} {ro : Option Nat} {N : Nat} {E : World} {ops : Array Oper} {Q : Exit → Act → World → Prop} {R : List Chunk} {tbl : List (List Nat)}
def swOf (L : List (Nat × Nat)) : Sw := if L.isEmpty then none else some L
def offL (L : List (Nat × Nat)) (j : Nat) : List (Nat × Nat) := L.filter fun p => p.1 != j && p.2 != j
/-- whichever comes first: what is left is in order -/
def anyOk (ops : Array Oper) (tbl : List (List Nat)) (rest : List PlanOp) : Nat → List (Nat × Nat) → List PlanOp → Bool
  | 0, _, _ => false
  | n + 1, L, xs => if L.isEmpty then true else match xs with
    | [] => false
    | x :: r => L.all (fun p => (x :: r).any fun y => y.1 == p.2) && (x :: r).all fun y => !(y.1 == x.1 || L.contains (x.1, y.1)) || (pairsOk ops tbl (swOf (offL L y.1)) ((x :: r).eraseP (fun z => z.1 == y.1) ++ rest) && swIn (swOf (offL L y.1)) ((x :: r).eraseP (fun z => z.1 == y.1) ++ rest) && anyOk ops tbl rest n (offL L y.1) ((x :: r).eraseP fun z => z.1 == y.1))
theorem addK_app {k : Fr → List Chunk → Prop} : ∀ {A B : List AdS} {fr : Fr} {l : List Chunk}, AddK (A ++ B) fr l k ↔ AddK A fr l (fun fr' l' => AddK B fr' l' k)
  | [], _, _, _ => Iff.rfl
  | x :: A, B, fr, l => ⟨fun h v cs hv => addK_app.1 (h v cs hv), fun h v cs hv => addK_app.2 (h v cs hv)⟩
theorem addK_pick {k : Fr → List Chunk → Prop} (hk : Inv k) {A B : List AdS} {y : AdS} {d : Nat} (hd : y.2.1.dst = some d) (hA : ∀ x, x ∈ A → ∃ e, x.2.1.dst = some e ∧ e ≠ d) {fr : Fr} {l : List Chunk} (h : AddK (A ++ y :: B) fr l k) : AddK (y :: (A ++ B)) fr l k := by
  have h2 : AddK (A ++ [y]) fr l (fun fr' l' => AddK B fr' l' k) := by rw [show A ++ y :: B = (A ++ [y]) ++ B by simp] at h; exact addK_app.1 h
  have h3 := AddK.first (k := fun fr' l' => AddK B fr' l' k) (fun fr fr' l l' h1 h2 h => AddK.inv hk h1 h2 h) hd hA h2
  exact fun v cs hv => addK_app.2 (h3 v cs hv)
theorem pl_anyA {sp : Spec} {ds : List Deferred} {rest : List PlanOp} {fr0 : Fr} {l0 : List Chunk} (hR : ∀ c, c ∈ R → c ∈ l0) (hS : ∀ x, x ∈ sp → ∀ c, c ∈ x.2 → c ∈ l0) : ∀ (n : Nat) (L : List (Nat × Nat)) (xs : List AdS) {fr : Fr} {l : List Chunk}, FLe fr0 fr → (∀ c, c ∈ l0 → c ∈ l) → (∀ x, x ∈ xs → IsAd P ro N fr0 l0 x) → (xs.map fun x => x.2.1.dst).Nodup → anyOk ops tbl rest n L (xs.map plA) = true →
    AddK xs fr l (fun fr' l' => PlanS P ro N E ops Q R tbl none sp rest fr' ds l') → PlanS P ro N E ops Q R tbl (swOf L) sp (xs.map plA ++ rest) fr ds l := by
  have hInv : Inv (fun fr' l' => PlanS P ro N E ops Q R tbl none sp rest fr' ds l') := fun fr fr' l l' h1 h2 h => pl_perm h2 (.weak h1 h)
  intro n
  induction n with
  | zero => intro L xs fr l _ _ _ _ h; cases h
  | succ n ih =>
    intro L xs fr l h1 h2 hx hn hok hk
    have hfn : ∀ x, x ∈ xs → ∀ d, x.2.1.dst = some d → flook fr0 d = none := fun x hxm d hd => by
      obtain ⟨d', hd', _, h⟩ := (hx x hxm).dst; rw [hd] at hd'; cases hd'; exact h
    by_cases hL : L.isEmpty = true
    · unfold swOf
      rw [if_pos hL]
      exact pl_seqA xs h1 h2 hx hn hfn hR hS hk
    · have hsw : swOf L = some L := by unfold swOf; rw [if_neg hL]
      rw [hsw]
      unfold anyOk at hok
      rw [if_neg hL] at hok
      cases xs with
      | nil => cases hok
      | cons x r =>
        simp only [List.map_cons, Bool.and_eq_true] at hok
        obtain ⟨hok1, hok2⟩ := hok
        have hin : ∀ j, swOk (some L) x.1 j = true → ∃ y, y ∈ x :: r ∧ y.1 = j := fun j hj => by
          simp only [swOk, List.contains_iff_mem] at hj
          obtain ⟨z, hz, e⟩ := List.any_eq_true.1 (List.all_eq_true.1 hok1 _ hj)
          rw [← List.map_cons (f := plA)] at hz
          obtain ⟨y, hy, rfl⟩ := List.mem_map.1 hz
          exact ⟨y, hy, by simpa using e⟩
        have key : ∀ j, Cand tbl (some L) x.1 (r.map plA ++ rest) j → ∃ y A B, y.1 = j ∧ x :: r = A ++ y :: B ∧ (x :: r).find? (fun z => z.1 == j) = some y ∧ (x :: r).eraseP (fun z => z.1 == j) = A ++ B ∧ pairsOk ops tbl (swOf (offL L j)) ((A ++ B).map plA ++ rest) = true ∧ swIn (swOf (offL L j)) ((A ++ B).map plA ++ rest) = true ∧ anyOk ops tbl rest n (offL L j) ((A ++ B).map plA) = true := fun j hj => by
          have hm : ∃ y, y ∈ x :: r ∧ y.1 = j := by
            rcases hj with h | ⟨h, _⟩
            · exact ⟨x, List.mem_cons_self, h.symm⟩
            · exact hin j h
          obtain ⟨y0, hy0, e0⟩ := hm
          obtain ⟨y, A, B, hA, hy, hxs, he⟩ := List.exists_of_eraseP (p := fun z : AdS => z.1 == j) hy0 (by simpa using e0)
          have hyj : y.1 = j := by simpa using hy
          have hmem : plA y ∈ plA x :: r.map plA := by rw [← List.map_cons (f := plA)]; exact List.mem_map_of_mem (by rw [hxs]; simp)
          have h3 := List.all_eq_true.1 hok2 _ hmem
          have h4 : ((plA y).1 == (plA x).1 || L.contains ((plA x).1, (plA y).1)) = true := by
            show (y.1 == x.1 || L.contains (x.1, y.1)) = true
            rw [hyj]
            rcases hj with h | ⟨h, _⟩
            · simp [h]
            · rw [Bool.or_eq_true]; exact .inr h
          have he2 : (plA x :: r.map plA).eraseP (fun z => z.1 == (plA y).1) = (A ++ B).map plA := by
            rw [← List.map_cons (f := plA), List.eraseP_map, ← he]
            congr 2
            show (fun z : AdS => z.1 == y.1) = _
            rw [hyj]
          rw [h4, Bool.not_true, Bool.false_or, he2] at h3
          simp only [Bool.and_eq_true] at h3
          have e5 : (plA y).1 = j := hyj
          rw [e5] at h3
          exact ⟨y, A, B, hyj, hxs, List.find?_eq_some_iff_append.2 ⟨hy, A, B, hxs, fun a ha => by have := hA a ha; simpa using this⟩, he, h3.1.1, h3.1.2, h3.2⟩
        refine .alt (fun j => (((x :: r).find? fun z => z.1 == j).getD x).2.1) (fun j v l2 => ∃ cs, (((x :: r).find? fun z => z.1 == j).getD x).2.2 v cs ∧ l2 = cs ++ l) (fun j => ((x :: r).eraseP fun z => z.1 == j).map plA ++ rest) (fun j => swOf (offL L j)) (fun j hj => ?_) (fun j hj => ?_) (fun j hj => ?_) fun j hj => ?_
        all_goals obtain ⟨y, A, B, hyj, hxs, hf, he, q1, q2, q3⟩ := key j hj
        all_goals simp only [hf, he, Option.getD_some]
        · refine ⟨?_, q1, q2⟩
          have : ((x :: r).map plA).Perm (plA y :: (A ++ B).map plA) := by rw [hxs]; simp
          rw [← hyj]
          exact (this.symm.append_right rest : (plA y :: (A ++ B).map plA ++ rest).Perm ((x :: r).map plA ++ rest))
        all_goals have hym : y ∈ x :: r := by rw [hxs]; simp
        all_goals have hI := hx y hym
        all_goals obtain ⟨d, hd, hb, hfd⟩ := hI.dst
        · exact ⟨hI.law fr l h1 h2, by rw [hI.guard]; rfl, by rw [hd]; exact hb⟩
        · rintro v l' ⟨cs, _, rfl⟩
          exact ⟨fun c hc => List.mem_append_right _ (h2 _ (hR c hc)), fun z hz _ c hc => List.mem_append_right _ (h2 _ (hS z hz c hc))⟩
        · rintro v l' ⟨cs, hv, rfl⟩
          rw [hxs] at hn hk
          have hsubm : ∀ z, z ∈ A ++ B → z ∈ x :: r := fun z hz => by rw [hxs]; rcases List.mem_append.1 hz with h | h <;> simp [h]
          have hn2 : ((A ++ B).map fun x => x.2.1.dst).Nodup := by
            have hp : ((A ++ y :: B).map fun x => x.2.1.dst).Perm (y.2.1.dst :: (A ++ B).map fun x => x.2.1.dst) := by simp
            exact (List.nodup_cons.1 (hp.nodup_iff.1 hn)).2
          refine ih (offL L j) (A ++ B) (by rw [hd]; exact h1.low hfd) (fun c hc => List.mem_append_right _ (h2 c hc)) (fun z hz => hx z (hsubm z hz)) hn2 q3 ?_
          refine addK_pick hInv hd (fun z hz => ?_) hk v cs hv
          obtain ⟨e, hde, _⟩ := (hx z (hsubm z (List.mem_append_left _ hz))).dst
          refine ⟨e, hde, fun e1 => ?_⟩
          rw [List.map_append, List.nodup_append] at hn
          exact hn.2.2 z.2.1.dst (List.mem_map.2 ⟨z, hz, rfl⟩) y.2.1.dst (List.mem_map.2 ⟨y, List.mem_cons_self, rfl⟩) (by rw [hde, hd, e1])
/-- effects that add blocks, in any order that the open pairs L allow -/
theorem pl_any {sp : Spec} {ds : List Deferred} {rest pl : List PlanOp} {L : List (Nat × Nat)} {fr : Fr} {l : List Chunk} (xs : List AdS) (hpl : xs.map plA ++ rest = pl) (hL : L.isEmpty = false) (hR : ∀ c, c ∈ R → c ∈ l) (hS : ∀ x, x ∈ sp → ∀ c, c ∈ x.2 → c ∈ l) (hx : AllAd P ro N fr l xs) (hn : ndB (xs.map fun x => x.2.1.dst) = true) (hok : anyOk ops tbl rest (xs.length + 1) L (xs.map plA) = true)
    (hk : AddK xs fr l (fun fr' l' => PlanS P ro N E ops Q R tbl none sp rest fr' ds l')) : PlanS P ro N E ops Q R tbl (some L) sp pl fr ds l := by
  subst hpl
  have := pl_anyA (E := E) hR hS (xs.length + 1) L xs (fun _ _ h => h) (fun _ h => h) hx.mem (ndB_spec hn) hok hk
  unfold swOf at this
  rw [hL] at this
  exact this
end
end Go.Proofs.YtgafamgacpglcaaGreat


/- part.Apart: are two groups apart? -/
-- GU
set_option linter.unusedVariables false
set_option linter.unusedSimpArgs false
namespace Go.Proofs.YtgafamgacpglcaaGreat
open Go.RowKit
set_option maxRecDepth 20000
set_option pp.deepTerms false
set_option pp.deepTerms.threshold 4

/-- a statement's truth, as a bool -/
noncomputable def cB (p : Prop) : Bool := @decide p (Classical.propDecidable p)
theorem cB_iff {p : Prop} : cB p = true ↔ p := @decide_eq_true_iff p (Classical.propDecidable p)
theorem Fn.cB {P : Program} {f : FuncId} {args : List Value} {l : List Chunk} {p : Prop} (h : Fn P f args l fun v l' => (∃ b, v = .bool b ∧ (b = true ↔ p)) ∧ l' = l) : Fn P f args l fun v l' => v = .bool (Go.Proofs.YtgafamgacpglcaaGreat.cB p) ∧ l' = l :=
  h.mono fun v l' ⟨⟨b, h1, h2⟩, h3⟩ => ⟨by rw [h1]; congr 1; exact Bool.eq_iff_iff.2 (h2.trans cB_iff.symm), h3⟩
theorem apt_c (V : Pt.VD) (wr : Pt.HD → Bool) (xs ys : List Int) : cB (Pt.Apt V wr xs ys) = (cB (Pt.Prt V xs ys) && (cB (Pt.Disj V xs ys) && (!cB (Pt.Wrt V wr xs ys) && (!cB (Pt.Abv V xs ys) && !cB (Pt.Abv V ys xs))))) := by
  apply Bool.eq_iff_iff.2
  simp only [cB_iff, Bool.and_eq_true, Bool.not_eq_true', ← Bool.not_eq_true, Pt.Apt]
section
variable (x : VwT) (c : List Value) (xs ys : List Int) (m1 m2 m3 n1 n2 n3 : Nat) (c1 c2 c3 d1 d2 d3 : Chunk) (l : List Chunk) (hV : VwIn l x c)
include hV
theorem disjoint_c (h1 : StI m1 (Pt.Lns x.vd xs) c1) (k1 : StI n1 (Pt.Lns x.vd ys) d1) (j1 : c1 ∈ l) (i1 : d1 ∈ l) : Fn Tryz.prog 17 [.agg (List.toArray c), .agg (List.toArray (sdV m1 m2 m3)), .agg (List.toArray (sdV n1 n2 n3))] l fun v l' => v = .bool (cB (Pt.Disj x.vd xs ys)) ∧ l' = l :=
  Fn.cB (disjoint_any x c m1 m2 m3 n1 n2 n3 _ _ c1 d1 h1 k1 l hV j1 i1)
theorem written_c (h2 : StS m2 (Pt.Slt x.vd xs) c2) (h3 : StS m3 (Pt.Mps x.vd xs) c3) (k2 : StS n2 (Pt.Slt x.vd ys) d2) (k3 : StS n3 (Pt.Mps x.vd ys) d3) (j2 : c2 ∈ l) (j3 : c3 ∈ l) (i2 : d2 ∈ l) (i3 : d3 ∈ l) : Fn Tryz.prog 18 [.agg (List.toArray c), .agg (List.toArray (sdV m1 m2 m3)), .agg (List.toArray (sdV n1 n2 n3))] l fun v l' => v = .bool (cB (Pt.Wrt x.vd wrP xs ys)) ∧ l' = l := by
  rw [← show (∃ f, WrtT x (Pt.Slt x.vd xs) (Pt.Mps x.vd xs) (Pt.Slt x.vd ys) (Pt.Mps x.vd ys) f) = Pt.Wrt x.vd wrP xs ys from propext (wrt_iff x xs ys)]
  exact Fn.cB (written_any x c m1 m2 m3 n1 n2 n3 _ _ _ _ c2 c3 d2 d3 h2 h3 k2 k3 l hV j2 j3 i2 i3)
theorem above_c (h2 : StS m2 (Pt.Slt x.vd xs) c2) (k1 : StI n1 (Pt.Lns x.vd ys) d1) (k2 : StS n2 (Pt.Slt x.vd ys) d2) (k3 : StS n3 (Pt.Mps x.vd ys) d3) (j2 : c2 ∈ l) (i1 : d1 ∈ l) (i2 : d2 ∈ l) (i3 : d3 ∈ l) : Fn Tryz.prog 19 [.agg (List.toArray c), .agg (List.toArray (sdV m1 m2 m3)), .agg (List.toArray (sdV n1 n2 n3))] l fun v l' => v = .bool (cB (Pt.Abv x.vd xs ys)) ∧ l' = l := by
  rw [← show (∃ h, h ∈ x.hs ∧ AbvH x (Pt.Slt x.vd xs) (UndTo x.tr (Pt.Slt x.vd xs) x.tr.length) (Pt.Mps x.vd ys) (Pt.Slt x.vd ys) (Pt.Lns x.vd ys) h) = Pt.Abv x.vd xs ys from propext (abv_iff x xs ys)]
  exact Fn.cB (above_any x c m1 m2 m3 n1 n2 n3 _ _ _ _ c2 d1 d2 d3 h2 k1 k2 k3 l hV j2 i1 i2 i3)
end
/-- what sideOf gives: a side, in three blocks -/
def SdI (x : VwT) (xs : List Int) (v : Value) (cs : List Chunk) : Prop := ∃ m1 m2 m3 c1 c2 c3, v = .agg (List.toArray (sdV m1 m2 m3)) ∧ StI m1 (Pt.Lns x.vd xs) c1 ∧ StS m2 (Pt.Slt x.vd xs) c2 ∧ StS m3 (Pt.Mps x.vd xs) c3 ∧ cs = [c1, c2, c3]
theorem side_ad (x : VwT) (c : List Value) (vt : Value) (ths : List Int) (l : List Chunk) (hV : VwIn l x c) (hth : IntSl l vt ths) (hn : ths.length ≤ 100) :
    Fn Tryz.prog 16 [.agg (List.toArray c), vt] l fun v l' => ∃ cs, SdI x ths v cs ∧ l' = cs ++ l :=
  (sideOf_any x c vt ths l hV hth hn).mono fun v l' ⟨m1, m2, m3, c1, c2, c3, h1, h2, h3, h4, h5⟩ => ⟨[c1, c2, c3], ⟨m1, m2, m3, c1, c2, c3, h1, h2, h3, h4, rfl⟩, h5⟩
set_option maxHeartbeats 4000000 in
theorem Apart_any (x : VwT) (c : List Value) (v1 v2 : Value) (xs ys : List Int) (l : List Chunk) (hV : VwIn l x c) (h1 : IntSl l v1 xs) (h2 : IntSl l v2 ys) (hx : xs.length ≤ 100) (hy : ys.length ≤ 100) :
    Fn Tryz.prog 8 [.agg (List.toArray c), v1, v2] l fun v l' => v = .bool (cB (Pt.Apt x.vd wrP xs ys)) ∧ l' = l := by
  have hv1 : v1.oneCell' = true := by obtain ⟨a, ca, rfl, _⟩ := h1; rfl
  have hv2 : v2.oneCell' = true := by obtain ⟨a, ca, rfl, _⟩ := h2; rfl
  obtain ⟨vo, vc, vt, vh, hC⟩ := hV.cells
  have hA := apt_c x.vd wrP xs ys
  refine fn_of_body Tryz.func8 rfl rfl fun E => ?_
  simp only [argF, Tryz.ntmps8]
  refine gzU ?_
  refine t_e (e_boxA rfl) rfl rfl rfl ?_
  rintro _ _ ⟨b3, _, rfl, rfl⟩
  refine gzU ?_
  refine t_q (q_loadL rfl (.head _) (As.LSub.of_all (n := 86) _ hC.len)) rfl rfl rfl ?_
  refine gzU ?_
  refine t_q (q_call rfl rfl (fun l2 hl => Fn.cB (parted_any x c v1 v2 xs ys l2 (hV.mono fun q hq => hl _ (.tail _ hq)) (h1.mono fun q hq => hl _ (.tail _ hq)) (h2.mono fun q hq => hl _ (.tail _ hq)) hx hy))) rfl rfl rfl ?_
  cases hP : cB (Pt.Prt x.vd xs ys) with
  | false =>
    rw [hP, Bool.false_and] at hA
    refine gzU ?_
    exact k_ret [] rfl (l' := l) (.drop .refl) (by exact zRes) ⟨by rw [hA]; rfl, rfl⟩
  | true =>
  rw [hP, Bool.true_and] at hA
  refine gzU ?_
  refine c_drawL [(0, true), (1, true), (3, true), (4, true), (2, false), (5, false), (6, false), (7, false), (8, false), (9, false)] [[], [], [0, 1], [], [], [0, 1, 2, 3, 4], [], [], [0, 1, 2, 3, 4, 5, 6, 7], [0, 1, 2, 3, 4, 5, 6, 7, 8]] (some [(2, 6), (2, 7), (5, 6), (5, 7), (6, 7)]) _ (by kernel_rfl) (by kernel_rfl) zAtt (fun _ h => h) ?_
  refine pzU ?_
  apply pl_q
  · exact q_loadL rfl (.head _) (As.LSub.of_all (n := 86) _ hC.len)
  · rfl
  · rfl
  · rfl
  refine pzU ?_
  apply pl_q
  · exact q_loadL rfl (.head _) (As.LSub.of_all (n := 86) _ hC.len)
  · rfl
  · rfl
  · rfl
  refine pzU ?_
  refine pl_any [(2, _, fun v cs => SdI x xs v cs), (5, _, fun v cs => SdI x ys v cs), (6, _, fun v cs => ∃ b, v = .pointer (some ⟨b, 0, none⟩) ∧ cs = [sd0 b]), (7, _, fun v cs => ∃ b, v = .pointer (some ⟨b, 0, none⟩) ∧ cs = [sd0 b])] rfl rfl (fun _ h => h) (fun _ h => by cases h) ⟨ad_call rfl rfl (fun l' hl => side_ad x c v1 xs l' (hV.mono fun q hq => hl _ (.tail _ hq)) (h1.mono fun q hq => hl _ (.tail _ hq)) hx) rfl rfl, ad_call rfl rfl (fun l' hl => side_ad x c v2 ys l' (hV.mono fun q hq => hl _ (.tail _ hq)) (h2.mono fun q hq => hl _ (.tail _ hq)) hy) rfl rfl, ad_alloc rfl rfl, ad_alloc rfl rfl, trivial⟩ (by kernel_rfl) (by kernel_rfl) ?_
  rintro _ _ ⟨m1, m2, m3, c1, c2, c3, rfl, p1, p2, p3, rfl⟩ _ _ ⟨n1, n2, n3, d1, d2, d3, rfl, r1, r2, r3, rfl⟩ _ _ ⟨b7, rfl, rfl⟩ _ _ ⟨b8, rfl, rfl⟩
  simp only [putF, AddK, List.cons_append, List.nil_append]
  apply pl_n
  · refine e_storeA (cs := List.toArray [.map none, .map none, .map none]) (T := 52) (l' := sd0 b8 :: sdB b7 m1 m2 m3 :: d1 :: d2 :: d3 :: c1 :: c2 :: c3 :: vwB b3 c :: l) rfl rfl rfl (by simp [Value.oneCell']) ?_ (Nat.le_refl 3)
    rw [List.toList_toArray, As.setFrom_all [.map none, .map none, .map none] (sdV m1 m2 m3) rfl]
    exact .there .here
  · rfl
  · rfl
  · rintro _ _ ⟨_, rfl⟩ q hq; exact .tail _ (.tail _ (.tail _ (.tail _ (.tail _ (.tail _ (.tail _ (.tail _ hq)))))))
  rintro _ _ ⟨rfl, rfl⟩
  refine pzU ?_
  obtain ⟨L, hL⟩ : ∃ L, L = sdB b8 n1 n2 n3 :: sdB b7 m1 m2 m3 :: d1 :: d2 :: d3 :: c1 :: c2 :: c3 :: vwB b3 c :: l := ⟨_, rfl⟩
  refine p_keep (l' := L) (by rw [hL]; exact .refl) ?_
  have hkeep : Keep L l := by rw [hL]; exact .drop (.drop (.drop (.drop (.drop (.drop (.drop (.drop (.drop .refl))))))))
  have hsub : ∀ q, q ∈ l → q ∈ L := fun q hq => by rw [hL]; exact .tail _ (.tail _ (.tail _ (.tail _ (.tail _ (.tail _ (.tail _ (.tail _ (.tail _ hq))))))))
  have hVL := hV.mono hsub
  have mv : vwB b3 c ∈ L := by rw [hL]; exact .tail _ (.tail _ (.tail _ (.tail _ (.tail _ (.tail _ (.tail _ (.tail _ (.head _))))))))
  have mx : sdB b7 m1 m2 m3 ∈ L := by rw [hL]; exact .tail _ (.head _)
  have my : sdB b8 n1 n2 n3 ∈ L := by rw [hL]; exact .head _
  have j1 : c1 ∈ L := by rw [hL]; simp
  have j2 : c2 ∈ L := by rw [hL]; simp
  have j3 : c3 ∈ L := by rw [hL]; simp
  have i1 : d1 ∈ L := by rw [hL]; simp
  have i2 : d2 ∈ L := by rw [hL]; simp
  have i3 : d3 ∈ L := by rw [hL]; simp
  clear hL hsub
  refine gzU ?_
  refine t_q (q_loadL rfl mv (As.LSub.of_all (n := 86) _ hC.len)) rfl rfl rfl ?_
  refine gzU ?_
  refine t_q (q_call rfl rfl (fun l2 hl => disjoint_c x c xs ys m1 m2 m3 n1 n2 n3 c1 d1 l2 (hVL.mono hl) p1 r1 (hl _ j1) (hl _ i1))) rfl rfl rfl ?_
  cases h4 : cB (Pt.Disj x.vd xs ys) with
  | false =>
    rw [h4] at hA
    refine gzU ?_
    exact k_ret [] rfl (l' := l) hkeep (by exact zRes) ⟨by rw [hA]; rfl, rfl⟩
  | true =>
  rw [h4] at hA
  refine gzU ?_
  refine t_h (q_loadL rfl mv (As.LSub.of_all (n := 86) _ hC.len)) rfl rfl rfl ?_
  refine gzU ?_
  refine t_h (q_call rfl rfl (fun l2 hl => written_c x c xs ys m1 m2 m3 n1 n2 n3 c2 c3 d2 d3 l2 (hVL.mono hl) p2 p3 r2 r3 (hl _ j2) (hl _ j3) (hl _ i2) (hl _ i3))) rfl rfl rfl ?_
  cases h5 : cB (Pt.Wrt x.vd wrP xs ys) with
  | true =>
    rw [h5] at hA
    refine gzU ?_
    exact k_ret [] rfl (l' := l) hkeep (by exact zRes) ⟨by rw [hA]; rfl, rfl⟩
  | false =>
  rw [h5] at hA
  refine gzU ?_
  refine t_h (q_loadL rfl mv (As.LSub.of_all (n := 86) _ hC.len)) rfl rfl rfl ?_
  refine gzU ?_
  refine t_h (q_call rfl rfl (fun l2 hl => above_c x c xs ys m1 m2 m3 n1 n2 n3 c2 d1 d2 d3 l2 (hVL.mono hl) p2 r1 r2 r3 (hl _ j2) (hl _ i1) (hl _ i2) (hl _ i3))) rfl rfl rfl ?_
  cases h6 : cB (Pt.Abv x.vd xs ys) with
  | true =>
    rw [h6] at hA
    refine gzU ?_
    exact k_ret [] rfl (l' := l) hkeep (by exact zRes) ⟨by rw [hA]; rfl, rfl⟩
  | false =>
  rw [h6] at hA
  refine gzU ?_
  refine t_h (q_loadL rfl mv (As.LSub.of_all (n := 86) _ hC.len)) rfl rfl rfl ?_
  refine gzU ?_
  refine t_h (q_call rfl rfl (fun l2 hl => above_c x c ys xs n1 n2 n3 m1 m2 m3 d2 c1 c2 c3 l2 (hVL.mono hl) r2 p1 p2 p3 (hl _ i2) (hl _ j1) (hl _ j2) (hl _ j3))) rfl rfl rfl ?_
  cases h7 : cB (Pt.Abv x.vd ys xs) with
  | true =>
    rw [h7] at hA
    refine gzU ?_
    exact k_ret [] rfl (l' := l) hkeep (by exact zRes) ⟨by rw [hA]; rfl, rfl⟩
  | false =>
    rw [h7] at hA
    refine gzU ?_
    exact k_ret [] rfl (l' := l) hkeep (by exact zRes) ⟨by rw [hA]; rfl, rfl⟩
end Go.Proofs.YtgafamgacpglcaaGreat


/- What came in, opened: a struct whose fields are flat or slices of flat rows. -/
set_option linter.unusedVariables false
set_option linter.unusedSimpArgs false
namespace Go.Proofs.YtgafamgacpglcaaGreat
open Go.ChangeShapes Go.WideShapes Go.ChangeAt Go.RowKit Go.Deep

section
variable {H : Type} {enc : TypeId × Value → H} {P : Program} {w : World} {base : Nat} {spare : Nat → Bool} {held : Bool}
end
end Go.Proofs.YtgafamgacpglcaaGreat


/- A view that came in, opened: its rows as data. -/
set_option linter.unusedVariables false
set_option linter.unusedSimpArgs false
namespace Go.Proofs.YtgafamgacpglcaaGreat
open Go.RowKit

theorem AllIs.at {ks : List (Option IntKind)} {cs : List Value} (h : AllIs ks cs) : ∀ (j : Nat) (k : Option IntKind), ks[j]? = some k → ∃ c, cs[j]? = some c ∧ CellIs k c := by
  induction ks generalizing cs with
  | nil => intro j k hj; simp at hj
  | cons q r ih =>
    obtain ⟨c, r2, rfl, h1, h2⟩ := h
    intro j k hj
    cases j with
    | zero => simp at hj; subst hj; exact ⟨c, rfl, h1⟩
    | succ j => exact ih h2 j k (by simpa using hj)
theorem all_map {α : Type} {ks : List (Option IntKind)} {f : α → List Value} (hf : ∀ r, AllIs ks r → ∃ o, r = f o) : ∀ rows : List (List Value), (∀ r ∈ rows, AllIs ks r) → ∃ os : List α, rows = os.map f
  | [], _ => ⟨[], rfl⟩
  | r :: rs, h => by
    obtain ⟨o, rfl⟩ := hf r (h r List.mem_cons_self)
    obtain ⟨os, rfl⟩ := all_map hf rs fun q hq => h q (List.mem_cons_of_mem _ hq)
    exact ⟨o :: os, rfl⟩
/-- a view as it came in: rows that can be read; how long the lists are -/
structure VwRaw (l : List Chunk) (x : VwT) (nr nq : Nat) (c : List Value) : Prop where
  eq : ∃ vo vc vt vh vr vq, c = vwV vo vc vt vh x.nn vr vq ∧ RdS l vo 9 (x.os.map Ar.obC) ∧ RdS l vc 10 (x.hs.map encE) ∧ RdS l vt 3 (x.tr.map Tr.nV) ∧ RdS l vh 24 (x.ts.map Th.encH) ∧ (∃ a cap, vr = .slice a nr cap) ∧ ∃ a cap, vq = .slice a nq cap
  cp : ∀ (a : Option Addr) (n cap : Nat), (List.toArray c)[2]? = some (.slice a n cap) → n ≤ cap
theorem VwRaw.mono {l l' : List Chunk} {x : VwT} {nr nq : Nat} {c : List Value} (h : VwRaw l x nr nq c) (hl : ∀ c, c ∈ l → c ∈ l') : VwRaw l' x nr nq c := by
  obtain ⟨⟨vo, vc, vt, vh, vr, vq, k1, k2, k3, k4, k5, k6⟩, kc⟩ := h
  exact ⟨⟨vo, vc, vt, vh, _, _, k1, k2.mono hl, k3.mono hl, k4.mono hl, k5.mono hl, k6⟩, kc⟩
end Go.Proofs.YtgafamgacpglcaaGreat


/- Is a view great? Is a number in a list? -/
-- GU
set_option linter.unusedVariables false
set_option linter.unusedSimpArgs false
namespace Go.Proofs.YtgafamgacpglcaaGreat
open Go.RowKit
set_option maxRecDepth 20000
set_option pp.deepTerms false
set_option pp.deepTerms.threshold 4

def SmallV (x : VwT) (nr nq : Nat) : Prop := x.os.length ≤ 40 ∧ x.hs.length ≤ 40 ∧ x.tr.length ≤ 40 ∧ x.ts.length ≤ 40 ∧ nr ≤ 40 ∧ nq ≤ 40
instance (x : VwT) (nr nq : Nat) : Decidable (SmallV x nr nq) := by unfold SmallV; infer_instance
end Go.Proofs.YtgafamgacpglcaaGreat


/- part: the plain law, made ready for deciding: what threads reach and lean on as lists; groups apart, groups not apart. No program. -/
set_option linter.unusedVariables false
set_option linter.unusedSimpArgs false
namespace Go.Proofs.YtgafamgacpglcaaGreat.Pt
/-- what a list of numbers leads to, so many steps on -/
def stepL (V : VD) (xs : List Int) : List Int := (xs ++ (xs.filter (goes V)).flatMap (fromP V)).eraseDups
def goL (V : VD) : Nat → List Int → List Int
  | 0, xs => xs
  | n + 1, xs => goL V n (stepL V xs)
def rchL (V : VD) (ts : List Int) : List Int := goL V 3 (ts.filter fun t => kn V t 9)
def closedL (V : VD) (ts xs : List Int) : Bool := (xs.all fun y => !goes V y || (fromP V y).all fun z => xs.elem z) && ts.all fun t => !kn V t 9 || xs.elem t
theorem goL_sound {V : VD} {ts : List Int} : ∀ (n : Nat) (xs : List Int), (∀ z, z ∈ xs → Rch V ts z) → ∀ z, z ∈ goL V n xs → Rch V ts z
  | 0, xs, h, z, hz => h z hz
  | n + 1, xs, h, z, hz => goL_sound n (stepL V xs) (fun y hy => by
      unfold stepL at hy
      rw [List.mem_eraseDups, List.mem_append, List.mem_flatMap] at hy
      rcases hy with hy | ⟨w, hw, hy⟩
      · exact h y hy
      · rw [List.mem_filter] at hw
        exact .go (h w hw.1) hw.2 hy) z hz
theorem rchL_iff {V : VD} {ts : List Int} (h : closedL V ts (rchL V ts) = true) (z : Int) : z ∈ rchL V ts ↔ Rch V ts z := by
  simp only [closedL, Bool.and_eq_true, List.all_eq_true, Bool.or_eq_true, Bool.not_eq_true', List.elem_eq_mem, decide_eq_true_eq] at h
  constructor
  · exact goL_sound 3 _ (fun y hy => by rw [List.mem_filter] at hy; exact .th hy.1 hy.2) z
  · refine Rch.least (S := fun z => z ∈ rchL V ts) (fun t h1 h2 => ?_) (fun y x h1 h2 h3 => ?_)
    · rcases h.2 t h1 with h3 | h3
      · rw [h2] at h3; cases h3
      · exact h3
    · rcases h.1 y h1 with h4 | h4
      · rw [h2] at h4; cases h4
      · exact h4 x h3
/-- the pairs of a reached root -/
def rootL (V : VD) (A : List Int) : List (Int × Int) := V.ps.flatMap fun p => (p.2.filter fun q => decide (q.1 ≠ 0) && A.elem q.1 && kn V q.1 5).map fun q => (p.1, q.2)
theorem rootL_iff {V : VD} {A : List Int} {o s : Int} : (o, s) ∈ rootL V A ↔ ∃ p, Root V (· ∈ A) p s ∧ o = p.1 := by
  simp only [rootL, List.mem_flatMap, List.mem_map, List.mem_filter, Bool.and_eq_true, decide_eq_true_eq, List.elem_eq_mem, Prod.mk.injEq, Root]
  constructor
  · rintro ⟨p, hp, ⟨r, s'⟩, ⟨hq, ⟨h1, h2⟩, h3⟩, rfl, rfl⟩
    exact ⟨p, ⟨hp, r, hq, h1, h2, h3⟩, rfl⟩
  · rintro ⟨p, ⟨hp, r, hq, h1, h2, h3⟩, rfl⟩
    exact ⟨p, hp, (r, s), ⟨hq, ⟨h1, h2⟩, h3⟩, rfl, rfl⟩
def spcB (V : VD) (A : List Int) (s : Int) : Bool := decide (s ≠ 0) && (rootL V A).any fun q => decide (q.2 = s)
theorem spcB_iff {V : VD} {A : List Int} {s : Int} : spcB V A s = true ↔ Spc V (· ∈ A) s := by
  simp only [spcB, Bool.and_eq_true, decide_eq_true_eq, List.any_eq_true, Spc]
  constructor
  · rintro ⟨h0, ⟨o, s'⟩, hq, rfl⟩
    obtain ⟨p, hp, _⟩ := rootL_iff.1 hq
    exact ⟨h0, p, hp⟩
  · rintro ⟨h0, p, hp⟩
    exact ⟨h0, (p.1, s), rootL_iff.2 ⟨p, hp, rfl⟩, rfl⟩
def lnsL (V : VD) (A : List Int) : List Int :=
  A ++ ((rootL V A).map (·.1)).filter (fun o => decide (o ≠ 0)) ++ (V.os.filter fun o => decide (o.2.1 = 4) && spcB V A o.2.2).map (·.1) ++ (V.ts.filter fun t => A.elem t.2.1 && kn V t.2.1 9).map (·.1) ++ (V.ts.filter fun t => A.elem t.1).flatMap fun t => [t.2.2, t.2.1].filter fun x => decide (x ≠ 0)
theorem lnsL_iff {V : VD} {A : List Int} {z : Int} : z ∈ lnsL V A ↔ LnA V (· ∈ A) z := by
  unfold lnsL LnA
  simp only [List.mem_append, or_assoc]
  refine or_congr Iff.rfl (or_congr ?_ (or_congr ?_ (or_congr ?_ ?_)))
  · simp only [List.mem_filter, List.mem_map, decide_eq_true_eq, Pol]
    constructor
    · rintro ⟨⟨⟨o, s⟩, hq, rfl⟩, h0⟩
      obtain ⟨p, hp, e⟩ := rootL_iff.1 hq
      exact ⟨h0, p, s, hp, e⟩
    · rintro ⟨h0, p, s, hp, rfl⟩
      exact ⟨⟨(p.1, s), rootL_iff.2 ⟨p, hp, rfl⟩, rfl⟩, h0⟩
  · simp only [List.mem_filter, List.mem_map, Bool.and_eq_true, decide_eq_true_eq, spcB_iff]
    exact ⟨fun ⟨o, ⟨h1, h2, h3⟩, e⟩ => ⟨o, h1, h2, h3, e.symm⟩, fun ⟨o, h1, h2, h3, e⟩ => ⟨o, ⟨h1, h2, h3⟩, e.symm⟩⟩
  · simp only [List.mem_filter, List.mem_map, Bool.and_eq_true, List.elem_eq_mem, decide_eq_true_eq]
    exact ⟨fun ⟨o, ⟨h1, h2, h3⟩, e⟩ => ⟨o, h1, h2, h3, e.symm⟩, fun ⟨o, h1, h2, h3, e⟩ => ⟨o, ⟨h1, h2, h3⟩, e.symm⟩⟩
  · simp only [List.mem_flatMap, List.mem_filter, List.elem_eq_mem, decide_eq_true_eq, List.mem_cons, List.not_mem_nil, or_false]
    exact ⟨fun ⟨t, ⟨h1, h2⟩, h3, h4⟩ => ⟨t, h1, h2, h4, h3⟩, fun ⟨t, h1, h2, h4, h3⟩ => ⟨t, ⟨h1, h2⟩, h3, h4⟩⟩
theorem LnA.congr {V : VD} {A B : Int → Prop} (h : ∀ x, A x ↔ B x) (x : Int) : LnA V A x ↔ LnA V B x := ⟨LnA.mono fun x => (h x).1, LnA.mono fun x => (h x).2⟩
theorem Spc.congr {V : VD} {A B : Int → Prop} (h : ∀ x, A x ↔ B x) (s : Int) : Spc V A s ↔ Spc V B s := by
  unfold Spc Root
  simp only [h]
section
variable {V : VD} {ts : List Int} (hc : closedL V ts (rchL V ts) = true)
include hc
theorem lns_dec (z : Int) : Lns V ts z ↔ z ∈ lnsL V (rchL V ts) := by rw [lnsL_iff]; exact LnA.congr (fun x => (rchL_iff hc x).symm) z
def sltB (A : List Int) (h : HD) : Bool := A.elem h.1.1
def mpsB (V : VD) (A : List Int) (h : HD) : Bool := decide (h.kind = 3) && spcB V A h.serial
def slots (V : VD) (f : HD → Bool) (s : Int × Int) : Bool := V.cs.any fun h => f h && decide (s = h.1)
theorem slt_dec (s : Int × Int) : Slt V ts s ↔ slots V (sltB (rchL V ts)) s = true := by
  simp only [Slt, slots, sltB, List.any_eq_true, Bool.and_eq_true, List.elem_eq_mem, decide_eq_true_eq, rchL_iff hc]
theorem mps_dec (s : Int × Int) : Mps V ts s ↔ slots V (mpsB V (rchL V ts)) s = true := by
  simp only [Mps, slots, mpsB, List.any_eq_true, Bool.and_eq_true, decide_eq_true_eq, spcB_iff, Spc.congr (rchL_iff hc), and_assoc]
def ndsB (V : VD) (A : List Int) (h : HD) : Bool := if h.kind = 7 then (lnsL V A).elem 0 else decide (h.kind ≠ 0) && (lnsL V A).elem h.obj && !kn V h.obj 3
theorem nds_dec (h : HD) : Nds V ts h ↔ ndsB V (rchL V ts) h = true := by
  unfold Nds ndsB
  simp only [lns_dec hc]
  split <;> simp [and_assoc]
def useB (V : VD) (A : List Int) (h : HD) : Bool := slots V (sltB A) h.1 || slots V (mpsB V A) h.1
theorem use_dec (f : Int) (h : HD) : Use V ts f h ↔ (h ∈ V.cs ∧ h.kind = 3 ∧ h.obj = f ∧ useB V (rchL V ts) h = true) := by
  simp only [Use, useB, slt_dec hc, mps_dec hc, Bool.or_eq_true]
end
def wrtB (V : VD) (wr : HD → Bool) (A B : List Int) : Bool := V.cs.any fun h : HD => decide (h.kind = 3) && kn V h.obj 3 && useB V A h && V.cs.any fun q : HD => decide (q.kind = 3) && decide (q.obj = h.obj) && useB V B q && V.cs.any fun w : HD => decide (w.kind = 3) && decide (w.obj = h.obj) && (useB V A w || useB V B w) && wr w
theorem wrt_dec {V : VD} {wr : HD → Bool} {xs ys : List Int} (hx : closedL V xs (rchL V xs) = true) (hy : closedL V ys (rchL V ys) = true) : Wrt V wr xs ys ↔ wrtB V wr (rchL V xs) (rchL V ys) = true := by
  simp only [Wrt, wrtB, use_dec hx, use_dec hy, List.any_eq_true, Bool.and_eq_true, Bool.or_eq_true, decide_eq_true_eq]
  constructor
  · rintro ⟨f, hf, ⟨h1, m1, k1, rfl, u1⟩, ⟨h2, m2, k2, o2, u2⟩, h3, u3, w⟩
    refine ⟨h1, m1, ⟨⟨k1, hf⟩, u1⟩, h2, m2, ⟨⟨k2, o2⟩, u2⟩, h3, ?_⟩
    rcases u3 with ⟨m3, k3, o3, u3⟩ | ⟨m3, k3, o3, u3⟩
    · exact ⟨m3, ⟨⟨k3, o3⟩, .inl u3⟩, w⟩
    · exact ⟨m3, ⟨⟨k3, o3⟩, .inr u3⟩, w⟩
  · rintro ⟨h1, m1, ⟨⟨k1, hf⟩, u1⟩, h2, m2, ⟨⟨k2, o2⟩, u2⟩, h3, m3, ⟨⟨k3, o3⟩, u3⟩, w⟩
    refine ⟨HD.obj h1, hf, ⟨h1, m1, k1, rfl, u1⟩, ⟨h2, m2, k2, o2, u2⟩, h3, ?_, w⟩
    rcases u3 with u3 | u3
    · exact .inl ⟨m3, k3, o3, u3⟩
    · exact .inr ⟨m3, k3, o3, u3⟩
def disjB (V : VD) (A B : List Int) : Bool := (lnsL V A).all fun z => !(lnsL V B).elem z || kn V z 3
theorem disj_dec {V : VD} {xs ys : List Int} (hx : closedL V xs (rchL V xs) = true) (hy : closedL V ys (rchL V ys) = true) (h : disjB V (rchL V xs) (rchL V ys) = true) : Disj V xs ys := by
  simp only [disjB, List.all_eq_true, Bool.or_eq_true, Bool.not_eq_true', List.elem_eq_mem] at h
  intro z h1 h2
  rw [lns_dec hx] at h1
  rw [lns_dec hy] at h2
  rcases h z h1 with h3 | h3
  · simp [h2] at h3
  · exact h3
/-- the slots below those of f -/
def undL (f : Int × Int → Bool) : List ((Int × Int) × Int) → List (Int × Int)
  | [] => []
  | n :: r => (if f n.1 then (r.takeWhile fun m => decide (n.2 < m.2)).map (·.1) else []) ++ undL f r
theorem mem_while {α : Type} {p : α → Bool} : ∀ {r : List α} {j : Nat} {m : α}, r[j]? = some m → (∀ (k : Nat) (q : α), k ≤ j → r[k]? = some q → p q = true) → m ∈ r.takeWhile p
  | [], j, m, h, _ => by simp at h
  | x :: r, 0, m, h, hp => by
    simp only [List.getElem?_cons_zero, Option.some.injEq] at h
    subst h
    rw [List.takeWhile_cons, if_pos (hp 0 x (Nat.le_refl _) rfl)]
    exact List.mem_cons_self
  | x :: r, j + 1, m, h, hp => by
    rw [List.takeWhile_cons, if_pos (hp 0 x (Nat.zero_le _) rfl)]
    exact List.mem_cons_of_mem _ (mem_while (by simpa using h) fun k q hk hq => hp (k + 1) q (by omega) (by simpa using hq))
theorem mem_undL {f : Int × Int → Bool} : ∀ {tr : List ((Int × Int) × Int)} {i j : Nat} {n m : (Int × Int) × Int}, tr[i]? = some n → f n.1 = true → i < j → tr[j]? = some m → (∀ (k : Nat) (q : (Int × Int) × Int), i < k → k ≤ j → tr[k]? = some q → n.2 < q.2) → m.1 ∈ undL f tr
  | [], i, j, n, m, h, _, _, _, _ => by simp at h
  | x :: r, 0, j, n, m, h, hf, hj, hm, hd => by
    simp only [List.getElem?_cons_zero, Option.some.injEq] at h
    subst h
    obtain ⟨j, rfl⟩ : ∃ j', j = j' + 1 := ⟨j - 1, by omega⟩
    unfold undL
    rw [if_pos hf, List.mem_append]
    exact .inl (List.mem_map.2 ⟨m, mem_while (j := j) (by simpa using hm) fun k q hk hq => decide_eq_true (hd (k + 1) q (by omega) (by omega) (by simpa using hq)), rfl⟩)
  | x :: r, i + 1, j, n, m, h, hf, hj, hm, hd => by
    obtain ⟨j, rfl⟩ : ∃ j', j = j' + 1 := ⟨j - 1, by omega⟩
    unfold undL
    rw [List.mem_append]
    exact .inr (mem_undL (i := i) (j := j) (by simpa using h) hf (by omega) (by simpa using hm) fun k q h1 h2 hq => hd (k + 1) q (by omega) (by omega) (by simpa using hq))
def inA (A : List Int) (s : Int × Int) : Bool := A.elem s.1
theorem slt_in {V : VD} {ts : List Int} (hc : closedL V ts (rchL V ts) = true) {s : Int × Int} (h : Slt V ts s) : inA (rchL V ts) s = true := by
  obtain ⟨h, _, h2, rfl⟩ := h
  simp only [inA, List.elem_eq_mem, decide_eq_true_eq]
  exact (rchL_iff hc _).2 h2
theorem und_dec {V : VD} {ts : List Int} (hc : closedL V ts (rchL V ts) = true) {s : Int × Int} (h : Und V ts s) : s ∈ undL (inA (rchL V ts)) V.tr := by
  obtain ⟨i, j, n, h1, h2, h3, ⟨m, h4, rfl⟩, h5⟩ := h
  exact mem_undL h1 (slt_in hc h2) h3 h4 h5
def abvB (V : VD) (A B : List Int) : Bool :=
  let U := undL (inA A) V.tr
  V.cs.any fun h => (inA A h.1 || U.elem h.1) && (slots V (mpsB V B) h.1 || ndsB V B h) || (U.elem h.1 && inA B h.1)
theorem abv_dec {V : VD} {xs ys : List Int} (hx : closedL V xs (rchL V xs) = true) (hy : closedL V ys (rchL V ys) = true) (h : Abv V xs ys) : abvB V (rchL V xs) (rchL V ys) = true := by
  obtain ⟨h, hm, hh⟩ := h
  unfold abvB
  rw [List.any_eq_true]
  refine ⟨h, hm, ?_⟩
  simp only [Bool.and_eq_true, Bool.or_eq_true, List.elem_eq_mem, decide_eq_true_eq]
  rcases hh with ⟨h1, h2⟩ | ⟨h1, h2⟩
  · rw [mps_dec hy, nds_dec hy] at h2
    exact .inl ⟨.inl (slt_in hx h1), h2⟩
  · have h1' := und_dec hx h1
    rcases h2 with h2 | h2 | h2
    · exact .inl ⟨.inr h1', .inl ((mps_dec hy _).1 h2)⟩
    · exact .inl ⟨.inr h1', .inr ((nds_dec hy _).1 h2)⟩
    · exact .inr ⟨h1', slt_in hy h2⟩
def prtB (V : VD) (xs ys : List Int) : Bool := (xs ++ ys).isPerm (V.ts.map fun t => t.1) && decide (xs ++ ys).Nodup
theorem prt_dec {V : VD} {xs ys : List Int} : Prt V xs ys ↔ prtB V xs ys = true := by
  simp [Prt, prtB, List.isPerm_iff]
/-- apart -/
def aptB (V : VD) (wr : HD → Bool) (xs ys : List Int) : Bool :=
  let A := rchL V xs
  let B := rchL V ys
  closedL V xs A && closedL V ys B && prtB V xs ys && disjB V A B && !wrtB V wr A B && !abvB V A B && !abvB V B A
theorem apt_of {V : VD} {wr : HD → Bool} {xs ys : List Int} (h : aptB V wr xs ys = true) : Apt V wr xs ys := by
  simp only [aptB, Bool.and_eq_true, Bool.not_eq_true'] at h
  obtain ⟨⟨⟨⟨⟨⟨h2, h3⟩, h4⟩, h5⟩, h6⟩, h7⟩, h8⟩ := h
  refine ⟨prt_dec.2 h4, disj_dec h2 h3 h5, ?_, ?_, ?_⟩
  · rw [wrt_dec h2 h3, h6]; exact Bool.false_ne_true
  · intro h; rw [abv_dec h2 h3 h] at h7; cases h7
  · intro h; rw [abv_dec h3 h2 h] at h8; cases h8
/-- both lean on something that is no frame: not apart -/
def sharB (V : VD) (xs ys : List Int) : Bool := closedL V xs (rchL V xs) && closedL V ys (rchL V ys) && (lnsL V (rchL V xs)).any fun z => (lnsL V (rchL V ys)).elem z && !kn V z 3
theorem not_apt {V : VD} {wr : HD → Bool} {xs ys : List Int} (h : sharB V xs ys = true) : ¬ Apt V wr xs ys := by
  simp only [sharB, Bool.and_eq_true, List.any_eq_true, List.elem_eq_mem, decide_eq_true_eq, Bool.not_eq_true'] at h
  obtain ⟨⟨h1, h2⟩, z, h3, h4, h5⟩ := h
  intro ha
  have := ha.2.1 z ((lns_dec h1 z).2 h3) ((lns_dec h2 z).2 h4)
  rw [h5] at this; cases this
theorem Rch.none {V : VD} {z : Int} (h : Rch V [] z) : False := by
  induction h with
  | th h1 _ => cases h1
  | go _ _ _ ih => exact ih
theorem Spc.none {V : VD} {s : Int} (h : Spc V (Rch V []) s) : False := by
  obtain ⟨_, p, _, r, _, _, h, _⟩ := h; exact h.none
theorem Lns.none {V : VD} {z : Int} (h : Lns V [] z) : False := by
  rcases h with h | ⟨_, p, s, ⟨_, r, _, _, h, _⟩, _⟩ | ⟨o, _, _, h, _⟩ | ⟨t, _, h, _⟩ | ⟨t, _, h, _⟩
  · exact h.none
  · exact h.none
  · exact h.none
  · exact h.none
  · exact h.none
/-- apart from none: all threads, each once -/
theorem apt_none {V : VD} {wr : HD → Bool} {xs : List Int} : Apt V wr xs [] ↔ Prt V xs [] := by
  refine ⟨fun h => h.1, fun h => ⟨h, fun x _ h2 => h2.none.elim, ?_, ?_, ?_⟩⟩
  · rintro ⟨f, _, _, ⟨h, _, _, _, ⟨q, _, r, _⟩ | ⟨q, _, _, r, _⟩⟩, _⟩
    · exact r.none
    · exact r.none
  · rintro ⟨h, _, ⟨_, h2⟩ | ⟨_, h2⟩⟩
    · rcases h2 with ⟨q, _, _, r, _⟩ | h2
      · exact r.none
      · unfold Nds at h2
        split at h2
        · exact h2.none
        · exact h2.2.1.none
    · rcases h2 with ⟨q, _, _, r, _⟩ | h2 | ⟨q, _, r, _⟩
      · exact r.none
      · unfold Nds at h2
        split at h2
        · exact h2.none
        · exact h2.2.1.none
      · exact r.none
  · rintro ⟨h, _, ⟨⟨q, _, r, _⟩, _⟩ | ⟨⟨i, j, n, _, ⟨q, _, r, _⟩, _⟩, _⟩⟩
    · exact r.none
    · exact r.none
/-- the threads split by f -/
def spl (f : Nat → Bool) : Nat → List Int → List Int × List Int
  | _, [] => ([], [])
  | i, t :: r => if f i then (t :: (spl f (i + 1) r).1, (spl f (i + 1) r).2) else ((spl f (i + 1) r).1, t :: (spl f (i + 1) r).2)
def splits : List Int → List (List Int × List Int)
  | [] => [([], [])]
  | t :: r => (splits r).flatMap fun p => [(t :: p.1, p.2), (p.1, t :: p.2)]
theorem spl_mem (f : Nat → Bool) : ∀ (th : List Int) (i : Nat), spl f i th ∈ splits th
  | [], _ => by simp [spl, splits]
  | t :: r, i => by
    unfold spl splits
    rw [List.mem_flatMap]
    refine ⟨spl f (i + 1) r, spl_mem f r (i + 1), ?_⟩
    split <;> simp
theorem splits_swap : ∀ {th xs ys : List Int}, (xs, ys) ∈ splits th → (ys, xs) ∈ splits th
  | [], xs, ys, h => by
    simp only [splits, List.mem_singleton, Prod.mk.injEq] at h ⊢
    exact ⟨h.2, h.1⟩
  | t :: r, xs, ys, h => by
    simp only [splits, List.mem_flatMap, List.mem_cons, Prod.mk.injEq, List.not_mem_nil, or_false] at h ⊢
    obtain ⟨p, hp, h⟩ := h
    refine ⟨(p.2, p.1), splits_swap hp, ?_⟩
    rcases h with ⟨rfl, rfl⟩ | ⟨rfl, rfl⟩
    · exact .inr ⟨rfl, rfl⟩
    · exact .inl ⟨rfl, rfl⟩
/-- of two groups it is known whether they are apart -/
def okS (V : VD) (wr : HD → Bool) (sh : Bool) (xs ys : List Int) : Bool := if ys.isEmpty then prtB V xs ys else if sh then sharB V xs ys else aptB V wr xs ys
theorem okS_spec {V : VD} {wr : HD → Bool} {sh : Bool} {xs ys : List Int} (hn : xs ≠ []) (h1 : okS V wr sh xs ys = true) : Apt V wr xs ys ↔ (sh = false ∨ xs = [] ∨ ys = []) := by
  unfold okS at h1
  by_cases e2 : ys = []
  · simp only [e2, List.isEmpty_nil, if_true] at h1
    rw [e2]
    exact ⟨fun _ => .inr (.inr rfl), fun _ => apt_none.2 (prt_dec.2 h1)⟩
  · rw [if_neg (by simpa using e2)] at h1
    cases sh with
    | true => exact ⟨fun ha => absurd ha (not_apt h1), fun hh => by rcases hh with hh | hh | hh; cases hh; exact absurd hh hn; exact absurd hh e2⟩
    | false => exact ⟨fun _ => .inl rfl, fun _ => apt_of h1⟩
/-- of any split it is known -/
def allOk (V : VD) (wr : HD → Bool) (sh : Bool) : List Int → Bool
  | [] => false
  | t :: r => (splits r).all fun p => okS V wr sh (t :: p.1) p.2
theorem allOk_spec {V : VD} {wr : HD → Bool} {sh : Bool} {th : List Int} (h : allOk V wr sh th = true) {p : List Int × List Int} (hp : p ∈ splits th) : Apt V wr p.1 p.2 ↔ (sh = false ∨ p.1 = [] ∨ p.2 = []) := by
  cases th with
  | nil => cases h
  | cons t r =>
    have h1 := List.all_eq_true.1 h
    simp only [splits, List.mem_flatMap, List.mem_cons, List.not_mem_nil, or_false] at hp
    obtain ⟨q, hq, rfl | rfl⟩ := hp
    · exact okS_spec (by simp) (h1 q hq)
    · have h2 := okS_spec (by simp) (h1 (q.2, q.1) (splits_swap hq))
      have h3 : Apt V wr q.1 (t :: q.2) ↔ Apt V wr (t :: q.2) q.1 := ⟨Apt.symm, Apt.symm⟩
      rw [h3, h2]
      exact or_congr Iff.rfl or_comm
end Go.Proofs.YtgafamgacpglcaaGreat.Pt


/- The plain law of PartBoots: a boot's view; which splits of its threads are apart. -/
set_option linter.unusedVariables false
set_option linter.unusedSimpArgs false
namespace Go.Proofs.YtgafamgacpglcaaGreat
open Go.RowKit
set_option maxRecDepth 100000

def bootV (F T : Nat) (sh : Bool) : VwT := ⟨(bootR F T sh).A.os, usedD (bootR F T sh).H.1, (bootR F T sh).H.2, (bootR F T sh).T, (bootR F T sh).N⟩
def bootT (F T : Nat) (sh : Bool) : List Int := (bootO F T sh).map OwT.th
def bootOk (F T : Nat) (sh : Bool) : Bool := Pt.allOk (bootV F T sh).vd wrP sh (bootT F T sh) && decide ((bootV F T sh).os.length ≤ 40) && decide ((bootV F T sh).hs.length ≤ 40) && decide ((bootV F T sh).tr.length ≤ 40) && decide ((bootV F T sh).ts.length ≤ 40) && decide ((bootT F T sh).length = T)
theorem boot_1_11 : ((List.range' 11 27).all fun F => bootOk F 1 false && bootOk F 1 true) = true := by decide +kernel
theorem boot_1_38 : ((List.range' 38 27).all fun F => bootOk F 1 false && bootOk F 1 true) = true := by decide +kernel
theorem boot_2_22 : ((List.range' 22 11).all fun F => bootOk F 2 false && bootOk F 2 true) = true := by decide +kernel
theorem boot_2_33 : ((List.range' 33 11).all fun F => bootOk F 2 false && bootOk F 2 true) = true := by decide +kernel
theorem boot_2_44 : ((List.range' 44 11).all fun F => bootOk F 2 false && bootOk F 2 true) = true := by decide +kernel
theorem boot_2_55 : ((List.range' 55 10).all fun F => bootOk F 2 false && bootOk F 2 true) = true := by decide +kernel
theorem boot_3_33 : ((List.range' 33 4).all fun F => bootOk F 3 false && bootOk F 3 true) = true := by decide +kernel
theorem boot_3_37 : ((List.range' 37 4).all fun F => bootOk F 3 false && bootOk F 3 true) = true := by decide +kernel
theorem boot_3_41 : ((List.range' 41 4).all fun F => bootOk F 3 false && bootOk F 3 true) = true := by decide +kernel
theorem boot_3_45 : ((List.range' 45 4).all fun F => bootOk F 3 false && bootOk F 3 true) = true := by decide +kernel
theorem boot_3_49 : ((List.range' 49 4).all fun F => bootOk F 3 false && bootOk F 3 true) = true := by decide +kernel
theorem boot_3_53 : ((List.range' 53 4).all fun F => bootOk F 3 false && bootOk F 3 true) = true := by decide +kernel
theorem boot_3_57 : ((List.range' 57 4).all fun F => bootOk F 3 false && bootOk F 3 true) = true := by decide +kernel
theorem boot_3_61 : ((List.range' 61 4).all fun F => bootOk F 3 false && bootOk F 3 true) = true := by decide +kernel
theorem boot_any {F T : Nat} (sh : Bool) (hT1 : 1 ≤ T) (hT : T ≤ 3) (hF : 11 * T ≤ F) (hF2 : F ≤ 64) : bootOk F T sh = true := by
  have key : ∀ a n, ((List.range' a n).all fun F => bootOk F T false && bootOk F T true) = true → a ≤ F → F < a + n → bootOk F T sh = true := fun a n h h1 h2 => by
    have h3 := List.all_eq_true.1 h F (List.mem_range'_1.2 ⟨h1, h2⟩)
    rw [Bool.and_eq_true] at h3
    cases sh
    · exact h3.1
    · exact h3.2
  obtain rfl | rfl | rfl : T = 1 ∨ T = 2 ∨ T = 3 := by omega
  · by_cases h0 : F < 38
    · exact key 11 27 boot_1_11 (by omega) (by omega)
    exact key 38 27 boot_1_38 (by omega) (by omega)
  · by_cases h0 : F < 33
    · exact key 22 11 boot_2_22 (by omega) (by omega)
    by_cases h1 : F < 44
    · exact key 33 11 boot_2_33 (by omega) (by omega)
    by_cases h2 : F < 55
    · exact key 44 11 boot_2_44 (by omega) (by omega)
    exact key 55 10 boot_2_55 (by omega) (by omega)
  · by_cases h0 : F < 37
    · exact key 33 4 boot_3_33 (by omega) (by omega)
    by_cases h1 : F < 41
    · exact key 37 4 boot_3_37 (by omega) (by omega)
    by_cases h2 : F < 45
    · exact key 41 4 boot_3_41 (by omega) (by omega)
    by_cases h3 : F < 49
    · exact key 45 4 boot_3_45 (by omega) (by omega)
    by_cases h4 : F < 53
    · exact key 49 4 boot_3_49 (by omega) (by omega)
    by_cases h5 : F < 57
    · exact key 53 4 boot_3_53 (by omega) (by omega)
    by_cases h6 : F < 61
    · exact key 57 4 boot_3_57 (by omega) (by omega)
    exact key 61 4 boot_3_61 (by omega) (by omega)
/-- a boot's threads, split by f: apart, where nothing is shared or one group is empty -/
structure BootF (F T : Nat) (sh : Bool) : Prop where
  o : (bootV F T sh).os.length ≤ 40
  h : (bootV F T sh).hs.length ≤ 40
  t : (bootV F T sh).tr.length ≤ 40
  s : (bootV F T sh).ts.length ≤ 40
  th : (bootT F T sh).length = T
  apart : ∀ f : Nat → Bool, Pt.Apt (bootV F T sh).vd wrP (Pt.spl f 0 (bootT F T sh)).1 (Pt.spl f 0 (bootT F T sh)).2 ↔ (sh = false ∨ (Pt.spl f 0 (bootT F T sh)).1 = [] ∨ (Pt.spl f 0 (bootT F T sh)).2 = [])
theorem boot_facts {F T : Nat} (sh : Bool) (hT1 : 1 ≤ T) (hT : T ≤ 3) (hF : 11 * T ≤ F) (hF2 : F ≤ 64) : BootF F T sh := by
  have h := boot_any sh hT1 hT hF hF2
  simp only [bootOk, Bool.and_eq_true, decide_eq_true_eq] at h
  obtain ⟨⟨⟨⟨⟨h1, h3⟩, h4⟩, h5⟩, h6⟩, h7⟩ := h
  refine ⟨h3, h4, h5, h6, h7, fun f => ?_⟩
  exact Pt.allOk_spec h1 (Pt.spl_mem f _ 0)
end Go.Proofs.YtgafamgacpglcaaGreat


/- A boot's view, as one that can be read; awake. -/
-- GU
set_option linter.unusedVariables false
set_option linter.unusedSimpArgs false
namespace Go.Proofs.YtgafamgacpglcaaGreat
open Go.RowKit
set_option maxRecDepth 20000
set_option pp.deepTerms false
set_option pp.deepTerms.threshold 4

theorem krealm_any (B b : Nat) (l : List Chunk) (hm : knC B b ∈ l) : Fn Tryz.prog 10 [pV B] l fun v l' => v = pV b ∧ l' = l := by
  refine fn_of_body Tryz.func10 rfl rfl fun E => ?_
  simp only [argF, Tryz.ntmps10]
  refine gzU ?_
  exact k_ret [] rfl .refl (by exact zRes) ⟨rfl, rfl⟩
def VwL.all (x : VwL) : List Chunk := x.co ++ (x.cc ++ (x.ct ++ (x.ch ++ (x.cr ++ x.cq))))
theorem view_at (F C n : Nat) (R : RT) (b : Nat) (p : RP) (s : RL) (hR : IsRl F C n R p s) (hn : n ≤ 900) (hT : R.T.length ≤ 900000) (L G : List Chunk) (hL : L.Perm (allL b p s R G)) : Fn Tryz.prog 11 [pV b] L fun v l' =>
    ∃ cs, (∃ x : VwL, v = .agg (List.toArray (vwV x.vo x.vc x.vt x.vh R.N x.vr x.vq)) ∧ IsVw C R x ∧ cs = x.all) ∧ l' = cs ++ L :=
  Fn.re (.of_perm hL) (view_any F C n R b p s hR hn hT G) fun v l' ⟨x, h1, h2, h3⟩ => ⟨x.all ++ L, by
    rw [h3]
    refine .of_perm ?_
    simp only [VwL.all, List.append_assoc]
    exact (((((hL.symm.append_left _).append_left _).append_left _).append_left _).append_left _).append_left _, _, ⟨x, h1, h2, rfl⟩, rfl⟩
theorem boot_vw {F T C : Nat} {sh : Bool} {x : VwL} (h : IsVw C (bootR F T sh) x) (hF : BootF F T sh) (L : List Chunk) (hL : ∀ c, c ∈ x.all → c ∈ L) : VwIn L (bootV F T sh) (vwV x.vo x.vc x.vt x.vh (bootR F T sh).N x.vr x.vq) := by
  have m : ∀ c, (c ∈ x.co ∨ c ∈ x.cc ∨ c ∈ x.ct ∨ c ∈ x.ch) → c ∈ L := fun c hc => hL c (by unfold VwL.all; simp only [List.mem_append]; rcases hc with h | h | h | h <;> simp [h])
  obtain ⟨h1, h2, h3, h4, h5, h6⟩ := h
  have o := hF.o
  have hh := hF.h
  have t := hF.t
  have ss := hF.s
  refine ⟨⟨_, _, _, _, _, _, rfl, ?_, ?_, ?_, ?_, h5.one, h6.one⟩, by omega, by omega, by omega, by omega, ?_⟩
  · refine OwnSl.rd (cs := x.co) (e := 156) ?_ (fun r hr => by obtain ⟨q, _, rfl⟩ := List.mem_map.1 hr; rfl) fun c hc => m c (.inl hc)
    rw [List.length_map, ← List.flatMap_def]; exact h1
  · refine OwnSl.rd (cs := x.cc) (e := 119) ?_ (fun r hr => by obtain ⟨q, _, rfl⟩ := List.mem_map.1 hr; rfl) fun c hc => m c (.inr (.inl hc))
    rw [List.length_map, ← List.flatMap_def]; exact h2
  · refine OwnSl.rd (cs := x.ct) (e := 192) ?_ (fun r hr => by obtain ⟨q, _, rfl⟩ := List.mem_map.1 hr; rfl) fun c hc => m c (.inr (.inr (.inl hc)))
    rw [List.length_map, ← List.flatMap_def]; exact h3
  · refine OwnSl.rd (cs := x.ch) (e := 75) ?_ (fun r hr => by obtain ⟨q, _, rfl⟩ := List.mem_map.1 hr; rfl) fun c hc => m c (.inr (.inr (.inr hc)))
    rw [List.length_map, ← List.flatMap_def]; exact h4
  · intro a n cap e
    have e2 : x.vt = .slice a n cap := Option.some.inj e
    rcases h3.2 with ⟨e1, _, _⟩ | ⟨b, cp, sp, e1, _, h, _⟩
    · rw [e1] at e2; cases e2; exact Nat.le_refl _
    · rw [e1] at e2; cases e2; exact h
theorem boot_two (sh : Bool) : ∃ a b, bootT 33 2 sh = [a, b] ∧ cB (Pt.Apt (bootV 33 2 sh).vd wrP [a] [b]) = !sh := by
  have hF := boot_facts (F := 33) (T := 2) sh (by decide) (by decide) (by decide) (by decide)
  have hl := hF.th
  obtain ⟨a, b, hab⟩ : ∃ a b, bootT 33 2 sh = [a, b] := by
    match h : bootT 33 2 sh, hl with
    | [a, b], _ => exact ⟨a, b, rfl⟩
  refine ⟨a, b, hab, ?_⟩
  have ha := hF.apart fun i => decide (i = 0)
  rw [hab] at ha
  have e : Pt.spl (fun i => decide (i = 0)) 0 [a, b] = ([a], [b]) := rfl
  rw [e] at ha
  apply Bool.eq_iff_iff.2
  rw [cB_iff, ha]
  cases sh <;> simp
theorem allL_ex (b : Nat) (p : RP) (s : RL) (R : RT) : ∃ A, ∀ G, allL b p s R G = A ++ G := ⟨allL b p s R [], fun G => by unfold allL; simp⟩
theorem kw2 (b b2 : Nat) (p p2 : RP) (s s2 : RL) (R R2 : RT) (k c k2 c2 : Chunk) (X X2 l : List Chunk) : (k2 :: ([c2] ++ allL b2 p2 s2 R2 (X2 ++ (k :: ([c] ++ allL b p s R (X ++ l)))))).Perm (allL b p s R (k2 :: c2 :: k :: c :: allL b2 p2 s2 R2 (X2 ++ (X ++ l)))) := by
  obtain ⟨A1, hA⟩ := allL_ex b p s R
  obtain ⟨A2, hA2⟩ := allL_ex b2 p2 s2 R2
  simp only [hA, hA2]
  exact perm_ac
theorem kw3 (b2 : Nat) (p2 : RP) (s2 : RL) (R2 : RT) (k2 c2 : Chunk) (A Y : List Chunk) : (A ++ (k2 :: ([c2] ++ allL b2 p2 s2 R2 Y))).Perm (allL b2 p2 s2 R2 (A ++ k2 :: c2 :: Y)) := by
  obtain ⟨A2, hA2⟩ := allL_ex b2 p2 s2 R2
  simp only [hA2]
  exact perm_ac
theorem kw4 (b b2 : Nat) (p p2 : RP) (s s2 : RL) (R R2 : RT) (k c k2 c2 : Chunk) (A X X2 l : List Chunk) : Keep (A ++ (k2 :: ([c2] ++ allL b2 p2 s2 R2 (X2 ++ (k :: ([c] ++ allL b p s R (X ++ l))))))) ((A ++ k2 :: c2 :: k :: c :: allL b p s R (allL b2 p2 s2 R2 (X2 ++ X))) ++ l) := by
  obtain ⟨A1, hA⟩ := allL_ex b p s R
  obtain ⟨A2, hA2⟩ := allL_ex b2 p2 s2 R2
  simp only [hA, hA2]
  exact keep_ac []
theorem mem_allL {b : Nat} {p : RP} {s : RL} {R : RT} {G : List Chunk} {c : Chunk} (h : c ∈ G) : c ∈ allL b p s R G := by unfold allL; simp [h]
theorem half1 {l : List Chunk} {a b : Int} {sp : List Value} {gb cap : Nat} (hm : (gb, Obj.cells (List.toArray ([a, b].map intQ ++ sp)) 3 (0, 0)) ∈ l) : IntSl l (.slice (some ⟨gb, 0, none⟩) 1 cap) [a] := ⟨_, cap, rfl, fun _ => ⟨gb, 0, _, _, _, rfl, hm, fun i x hx => by cases i with | zero => simp at hx; subst hx; rfl | succ i => simp at hx⟩⟩
theorem half2 {l : List Chunk} {a b : Int} {sp : List Value} {gb cap : Nat} (hm : (gb, Obj.cells (List.toArray ([a, b].map intQ ++ sp)) 3 (0, 0)) ∈ l) : IntSl l (.slice (some ⟨gb, 1, none⟩) 1 cap) [b] := ⟨_, cap, rfl, fun _ => ⟨gb, 1, _, _, _, rfl, hm, fun i x hx => by cases i with | zero => simp at hx; subst hx; rfl | succ i => simp at hx⟩⟩
set_option maxHeartbeats 4000000 in
theorem awake_any (l : List Chunk) : Fn Tryz.prog 7 [] l fun v l' => v = .bool true ∧ ∃ X, l' = X ++ l := by
  obtain ⟨t1, t2, hth, hap⟩ := boot_two false
  obtain ⟨u1, u2, hu, hap2⟩ := boot_two true
  have hF1 := boot_facts (F := 33) (T := 2) false (by decide) (by decide) (by decide) (by decide)
  have hF2 := boot_facts (F := 33) (T := 2) true (by decide) (by decide) (by decide) (by decide)
  refine fn_of_body Tryz.func7 rfl rfl fun E => ?_
  simp only [argF, Tryz.ntmps7]
  refine gzU ?_
  refine t_e (e_call0 rfl rfl (bnew_ok 33 1 2 false (by decide) (by decide) (by decide) (by decide) (by decide) (by decide) l)) rfl rfl rfl ?_
  rintro _ _ ⟨B, b, v14, p, s, X, cs, rfl, hR, ho, rfl⟩
  rw [show (bootO 33 2 false).map OwT.th = [t1, t2] from hth] at ho
  rcases ho.2 with ⟨_, h0, _⟩ | ⟨gb, cap, sp, rfl, rfl, hc1, _⟩
  · omega
  obtain ⟨L1, hL1⟩ : ∃ L1, L1 = knC B b :: ([(gb, Obj.cells (List.toArray ([t1, t2].map intQ ++ sp)) 3 (0, 0))] ++ allL b p s (bootR 33 2 false) (X ++ l)) := ⟨_, rfl⟩
  rw [← hL1]
  refine gzU ?_
  refine t_e (e_call0 rfl rfl (bnew_ok 33 1 2 true (by decide) (by decide) (by decide) (by decide) (by decide) (by decide) L1)) rfl rfl rfl ?_
  rintro _ _ ⟨B2, b2, v24, p2, s2, X2, cs2, rfl, hR2, ho2, rfl⟩
  rw [show (bootO 33 2 true).map OwT.th = [u1, u2] from hu] at ho2
  rcases ho2.2 with ⟨_, h0, _⟩ | ⟨gb2, cap2, sp2, rfl, rfl, hc2, _⟩
  · omega
  refine gzU ?_
  obtain ⟨L, hL⟩ : ∃ L, L = knC B2 b2 :: ([(gb2, Obj.cells (List.toArray ([u1, u2].map intQ ++ sp2)) 3 (0, 0))] ++ allL b2 p2 s2 (bootR 33 2 true) (X2 ++ L1)) := ⟨_, rfl⟩
  rw [← hL]
  have mk2 : knC B2 b2 ∈ L := by rw [hL]; exact .head _
  have mt2 : (gb2, Obj.cells (List.toArray ([u1, u2].map intQ ++ sp2)) 3 (0, 0)) ∈ L := by rw [hL]; exact .tail _ (.head _)
  have mL1 : ∀ c, c ∈ L1 → c ∈ L := fun c hc => by rw [hL]; exact .tail _ (List.mem_append_right _ (mem_allL (List.mem_append_right _ hc)))
  have mk1 : knC B b ∈ L := mL1 _ (by rw [hL1]; exact .head _)
  have mt1 : (gb, Obj.cells (List.toArray ([t1, t2].map intQ ++ sp)) 3 (0, 0)) ∈ L := mL1 _ (by rw [hL1]; exact .tail _ (.head _))
  have hP1 : L.Perm (allL b p s (bootR 33 2 false) (knC B2 b2 :: (gb2, Obj.cells (List.toArray ([u1, u2].map intQ ++ sp2)) 3 (0, 0)) :: knC B b :: (gb, Obj.cells (List.toArray ([t1, t2].map intQ ++ sp)) 3 (0, 0)) :: allL b2 p2 s2 (bootR 33 2 true) (X2 ++ (X ++ l)))) := by rw [hL, hL1]; exact kw2 ..
  have hP2 : ∀ A, (A ++ L).Perm (allL b2 p2 s2 (bootR 33 2 true) (A ++ knC B2 b2 :: (gb2, Obj.cells (List.toArray ([u1, u2].map intQ ++ sp2)) 3 (0, 0)) :: (X2 ++ L1))) := fun A => by rw [hL]; exact kw3 ..
  have hK : ∀ A, ∃ Y, Keep (A ++ L) (Y ++ l) := fun A => ⟨A ++ knC B2 b2 :: (gb2, Obj.cells (List.toArray ([u1, u2].map intQ ++ sp2)) 3 (0, 0)) :: knC B b :: (gb, Obj.cells (List.toArray ([t1, t2].map intQ ++ sp)) 3 (0, 0)) :: allL b p s (bootR 33 2 false) (allL b2 p2 s2 (bootR 33 2 true) (X2 ++ X)), by rw [hL, hL1]; exact kw4 ..⟩
  clear hL hL1
  refine c_draw [(0, true), (1, true), (3, true), (4, true), (5, true), (6, true), (2, false), (7, false), (8, true), (9, true), (10, true), (12, true), (13, true), (14, true), (15, true), (11, false), (16, false), (17, true), (18, true), (19, true)] [[], [0], [0, 1], [], [3], [], [5], [0, 1, 2, 3, 4, 5, 6], [0, 1, 2, 3, 4, 5, 6, 7], [0, 1, 2, 3, 4, 5, 6, 7, 8], [0, 1, 2, 3, 4, 5, 6, 7, 8, 9], [0, 1, 2, 3, 4, 5, 6, 7, 8, 9, 10], [0, 1, 2, 3, 4, 5, 6, 7, 8], [0, 1, 2, 3, 4, 5, 6, 7, 8, 12], [0, 1, 2, 3, 4, 5, 6, 7, 8], [0, 1, 2, 3, 4, 5, 6, 7, 8, 14], [0, 1, 2, 3, 4, 5, 6, 7, 8, 9, 10, 11, 12, 13, 14, 15], [0, 1, 2, 3, 4, 5, 6, 7, 8, 9, 10, 11, 12, 13, 14, 15, 16], [0, 1, 2, 3, 4, 5, 6, 7, 8, 9, 10, 11, 12, 13, 14, 15, 16, 17], [0, 1, 2, 3, 4, 5, 6, 7, 8, 9, 10, 11, 12, 13, 14, 15, 16, 17, 18]] _ (by kernel_rfl) (by kernel_rfl) zAtt (fun _ h => h) ?_
  refine pzU ?_
  apply pl_q
  · exact q_call rfl rfl (fun l2 hl => krealm_any B b l2 (hl _ mk1))
  · rfl
  · rfl
  · rfl
  refine pzU ?_
  apply pl_q
  · exact q_slice (l0 := 0) (h0 := 1) (m0 := cap) (off' := 0) (n' := 1) (c' := cap) rfl .none (.some rfl (by omega) rfl) .none (by simp) (by omega) (by omega) (by omega) (by simp) (by omega) (by omega)
  · rfl
  · rfl
  · rfl
  refine pzU ?_
  apply pl_q
  · exact q_slice (l0 := 1) (h0 := 2) (m0 := cap) (off' := 1) (n' := 1) (c' := cap - 1) rfl (.some rfl (by omega) rfl) .none .none (by simp) (by omega) (by omega) (by omega) (by rw [if_neg (by omega)]) (by omega) (by omega)
  · rfl
  · rfl
  · rfl
  refine pzU ?_
  apply pl_e
  · exact e_call0 rfl rfl (view_at 33 1 60 _ b p s hR (by omega) (by have := hF1.s; exact Nat.le_trans this (by omega)) L _ hP1)
  · rfl
  · rfl
  · rfl
  · rintro _ _ ⟨_, _, rfl⟩ q hq; exact List.mem_append_right _ hq
  rintro _ _ ⟨_, ⟨x1, rfl, hx1, rfl⟩, rfl⟩
  refine pzU ?_
  apply pl_e
  · exact e_call0 rfl rfl (Apart_any (bootV 33 2 false) _ _ _ [t1] [t2] _ (boot_vw hx1 hF1 _ fun c hc => List.mem_append_left _ hc) (half1 (List.mem_append_right _ mt1)) (half2 (List.mem_append_right _ mt1)) (by simp) (by simp))
  · rfl
  · rfl
  · rfl
  · rintro _ _ ⟨_, rfl⟩ q hq; exact List.mem_append_right _ hq
  rintro _ _ ⟨rfl, rfl⟩
  rw [hap]
  refine pzU ?_
  apply pl_gq
  · exact q_call rfl rfl (fun l2 hl => krealm_any B2 b2 l2 (hl _ mk2))
  all_goals try rfl
  refine pzU ?_
  apply pl_gq
  · exact q_slice (l0 := 0) (h0 := 1) (m0 := cap2) (off' := 0) (n' := 1) (c' := cap2) rfl .none (.some rfl (by omega) rfl) .none (by simp) (by omega) (by omega) (by omega) (by simp) (by omega) (by omega)
  all_goals try rfl
  refine pzU ?_
  apply pl_gq
  · exact q_slice (l0 := 1) (h0 := 2) (m0 := cap2) (off' := 1) (n' := 1) (c' := cap2 - 1) rfl (.some rfl (by omega) rfl) .none .none (by simp) (by omega) (by omega) (by omega) (by rw [if_neg (by omega)]) (by omega) (by omega)
  all_goals try rfl
  refine pzU ?_
  apply pl_geS
  · exact e_call0 rfl rfl (view_at 33 1 60 _ b2 p2 s2 hR2 (by omega) (by have := hF2.s; exact Nat.le_trans this (by omega)) _ _ (hP2 _))
  · rfl
  · rfl
  · rfl
  · rintro _ _ ⟨_, _, rfl⟩ q hq; exact List.mem_append_right _ (List.mem_append_right _ hq)
  · exact fun _ _ _ x hx => by cases hx
  rintro _ _ ⟨_, ⟨x2, rfl, hx2, rfl⟩, rfl⟩
  refine pzU ?_
  apply pl_geS
  · exact e_call0 rfl rfl (Apart_any (bootV 33 2 true) _ _ _ [u1] [u2] _ (boot_vw hx2 hF2 _ fun c hc => List.mem_append_left _ hc) (half1 (List.mem_append_right _ (List.mem_append_right _ mt2))) (half2 (List.mem_append_right _ (List.mem_append_right _ mt2))) (by simp) (by simp))
  · rfl
  · rfl
  · rfl
  · rintro _ _ ⟨_, rfl⟩ q hq; exact List.mem_append_right _ (List.mem_append_right _ hq)
  · exact fun _ _ _ x hx => by cases hx
  rintro _ _ ⟨rfl, rfl⟩
  rw [hap2]
  refine pzU ?_
  refine gzU ?_
  obtain ⟨Y, hY⟩ := hK (x2.all ++ x1.all)
  exact k_ret [] rfl (l' := Y ++ l) (by rw [List.append_assoc] at hY; exact hY) (by exact zRes) ⟨rfl, _, rfl⟩
end Go.Proofs.YtgafamgacpglcaaGreat


/- The walk of PartBoots. -/
-- GU
set_option linter.unusedVariables false
set_option linter.unusedSimpArgs false
namespace Go.Proofs.YtgafamgacpglcaaGreat
open Go.RowKit
set_option maxRecDepth 20000
set_option pp.deepTerms false
set_option pp.deepTerms.threshold 4

abbrev cfA (F C T : Int) (sh : Bool) : Value := .agg (List.toArray [.int .i64 F, .int .i64 C, .int .i64 T, .bool sh])
def bitF (w : Int) (i : Nat) : Bool := decide (landI (w / 2 ^ i) 1 = 1)
theorem spl_snoc (f : Nat → Bool) (t : Int) : ∀ (A : List Int) (i : Nat), Pt.spl f i (A ++ [t]) = (if f (i + A.length) then ((Pt.spl f i A).1 ++ [t], (Pt.spl f i A).2) else ((Pt.spl f i A).1, (Pt.spl f i A).2 ++ [t]))
  | [], i => by simp [Pt.spl]
  | a :: A, i => by
    have ih := spl_snoc f t A (i + 1)
    rw [show i + 1 + A.length = i + (a :: A).length by simp only [List.length_cons]; omega] at ih
    show Pt.spl f i (a :: (A ++ [t])) = _
    unfold Pt.spl
    rw [ih]
    by_cases h1 : f i = true
    · by_cases h2 : f (i + (a :: A).length) = true
      · simp only [h1, h2, if_true, List.cons_append]
      · simp only [h1, h2, if_true, if_false]; rfl
    · by_cases h2 : f (i + (a :: A).length) = true
      · simp only [h1, h2, if_true, if_false]; rfl
      · simp only [h1, h2, if_false, List.cons_append]; rfl
theorem spl_len (f : Nat → Bool) : ∀ (A : List Int) (i : Nat), (Pt.spl f i A).1.length + (Pt.spl f i A).2.length = A.length
  | [], i => rfl
  | a :: A, i => by
    have ih := spl_len f A (i + 1)
    unfold Pt.spl
    split
    · simp only [List.length_cons]; omega
    · simp only [List.length_cons]; omega
theorem kw5 (b : Nat) (p : RP) (s : RL) (R : RT) (k c z : Chunk) (A X l : List Chunk) : Keep (A ++ (k :: ([c] ++ allL b p s R (X ++ (z :: l))))) ((A ++ k :: c :: allL b p s R (X ++ [z])) ++ l) := by
  obtain ⟨A1, hA⟩ := allL_ex b p s R
  simp only [hA]
  exact keep_ac []
set_option maxHeartbeats 4000000 in
theorem boots_any (F C T : Int) (sh : Bool) (w : Int) (l : List Chunk) : Fn Tryz.prog 4 [cfA F C T sh, .int .i64 w] l fun v l' => v = .bool true ∧ ∃ X, l' = X ++ l := by
  refine fn_of_body Tryz.func4 rfl rfl fun E => ?_
  simp only [argF, Tryz.ntmps4]
  refine gzU ?_
  refine t_e (e_boxA rfl) rfl rfl rfl ?_
  rintro _ _ ⟨b2, _, rfl, rfl⟩
  cases hmay : mayB F C T with
  | false =>
    refine gzU ?_
    refine t_q (q_call rfl rfl (fun l hl => bnew_no F C T sh hmay l)) rfl rfl rfl ?_
    refine gzU ?_
    refine t_e (e_call0 rfl rfl (awake_any _)) rfl rfl rfl ?_
    rintro _ _ ⟨rfl, X, rfl⟩
    refine gzU ?_
    exact k_ret [] rfl (l' := X ++ l) (keep_app X (.drop .refl)) (by exact zRes) ⟨rfl, X, rfl⟩
  | true =>
  obtain ⟨hT1, hT, hC1, hC, hF, hF2⟩ : 1 ≤ T ∧ T ≤ 3 ∧ 1 ≤ C ∧ C ≤ 3 ∧ 11 * T ≤ F ∧ F ≤ 64 := by simp [mayB] at hmay; omega
  obtain ⟨T, rfl⟩ : ∃ n : Nat, T = n := ⟨T.toNat, by omega⟩
  obtain ⟨F, rfl⟩ : ∃ n : Nat, F = n := ⟨F.toNat, by omega⟩
  obtain ⟨C, rfl⟩ : ∃ n : Nat, C = n := ⟨C.toNat, by omega⟩
  have hB := boot_facts (F := F) (T := T) sh (by omega) (by omega) (by omega) (by omega)
  refine gzU ?_
  refine t_e (e_call0 rfl rfl (bnew_ok F C T sh (by omega) (by omega) (by omega) (by omega) (by omega) (by omega) _)) rfl rfl rfl ?_
  rintro _ _ ⟨B, b, v14, p, s, X, cs, rfl, hR, ho, rfl⟩
  obtain ⟨th, hth⟩ : ∃ th, th = bootT F T sh := ⟨_, rfl⟩
  have hth' : (bootO F T sh).map OwT.th = th := hth.symm
  rw [hth'] at ho
  have hap := hB.apart (bitF w)
  have hthl := hB.th
  rw [← hth] at hap hthl
  rcases ho.2 with ⟨_, h0, _⟩ | ⟨gb, cap, sp, rfl, rfl, _⟩
  · omega
  obtain ⟨Z, hZ⟩ : ∃ Z, Z = knC B b :: ([(gb, Obj.cells (List.toArray (th.map intQ ++ sp)) 3 (0, 0))] ++ allL b p s (bootR F T sh) (X ++ (ccC b2 F C T sh :: l))) := ⟨_, rfl⟩
  rw [← hZ]
  have hmk : knC B b ∈ Z := by rw [hZ]; exact .head _
  have hmt : (gb, Obj.cells (List.toArray (th.map intQ ++ sp)) 3 (0, 0)) ∈ Z := by rw [hZ]; exact .tail _ (.head _)
  have hmc : ccC b2 F C T sh ∈ Z := by rw [hZ]; exact .tail _ (.tail _ (mem_allL (List.mem_append_right _ (.head _))))
  have hPZ : ∀ A, (A ++ Z).Perm (allL b p s (bootR F T sh) (A ++ knC B b :: (gb, Obj.cells (List.toArray (th.map intQ ++ sp)) 3 (0, 0)) :: (X ++ (ccC b2 F C T sh :: l)))) := fun A => by rw [hZ]; exact kw3 ..
  have hKZ : ∀ A, ∃ Y, Keep (A ++ Z) (Y ++ l) := fun A => ⟨A ++ knC B b :: (gb, Obj.cells (List.toArray (th.map intQ ++ sp)) 3 (0, 0)) :: allL b p s (bootR F T sh) (X ++ [ccC b2 F C T sh]), by rw [hZ]; exact kw5 ..⟩
  clear hZ
  refine gzU ?_
  refine k_loop (α := Nat × (Value × List Chunk) × Value × List Chunk) (fun y => [(1, .int .i64 w), (2, pV b2), (5, pV B), (6, .slice (some ⟨gb, 0, none⟩) T cap), (8, y.2.1.1), (9, y.2.2.1), (10, .int .i64 y.1)]) (fun y => y.2.1.2 ++ (y.2.2.2 ++ Z)) (fun y => y.1 ≤ T ∧ OwnSl 3 1 y.2.1.1 (Pt.spl (bitF w) 0 (th.take y.1)).1.length ((Pt.spl (bitF w) 0 (th.take y.1)).1.map intQ) y.2.1.2 ∧ OwnSl 3 1 y.2.2.1 (Pt.spl (bitF w) 0 (th.take y.1)).2.length ((Pt.spl (bitF w) 0 (th.take y.1)).2.map intQ) y.2.2.2) (fun y => T - y.1) (0, (nilS, []), nilS, []) ⟨Nat.zero_le _, OwnSl.nil _ _, OwnSl.nil _ _⟩ ⟨rfl, rfl, rfl, rfl, rfl, rfl, rfl, trivial⟩ .refl ?_
  rintro ⟨i, ⟨va, ca⟩, vb, cb⟩ ⟨hi, oa, ob⟩
  simp only at hi oa ob ⊢
  have hva := oa.one
  have hvb := ob.one
  by_cases hlt : i < T
  · obtain ⟨t, e1⟩ : ∃ t, th[i]? = some t := ⟨_, List.getElem?_eq_getElem (by omega)⟩
    have g1 : (List.toArray (th.map intQ ++ sp))[i * 1]? = some (intQ t) := by rw [Nat.mul_one, List.getElem?_toArray, List.getElem?_append_left (by rw [List.length_map]; omega), List.getElem?_map, e1]; rfl
    have htk : th.take (i + 1) = th.take i ++ [t] := by rw [List.take_add_one, e1]; rfl
    have hsn := spl_snoc (bitF w) t (th.take i) 0
    have hsl := spl_len (bitF w) (th.take i) 0
    rw [List.length_take, Nat.min_eq_left (by omega)] at hsl
    rw [← htk, Nat.zero_add, List.length_take, Nat.min_eq_left (by omega)] at hsn
    refine gzU ?_
    refine t_q (q_shr (n := i) rfl rfl (by show i ≤ 64; omega)) rfl rfl rfl ?_
    refine t_q (q_landI rfl rfl) rfl rfl rfl ?_
    by_cases hb : landI (w / 2 ^ i) 1 = 1
    · rw [if_pos (show bitF w i = true from decide_eq_true hb)] at hsn
      refine gzU ?_
      refine t_q (q_load (v := intQ t) rfl (List.mem_append_right _ (List.mem_append_right _ hmt)) g1) rfl rfl rfl ?_
      refine t_e (e_lit1 (v := intQ t) rfl rfl) rfl rfl rfl ?_
      rintro _ _ ⟨bl, _, rfl, rfl⟩
      refine t_e (e_appX (k := 1) (X := []) (ws := [intQ t]) (zs := [.int .i64 0]) rfl rfl rfl oa rfl (by simp [Value.oneCell', intQ]) (by omega) (by decide)) rfl rfl rfl ?_
      rintro v' _ ⟨c2, oa2, rfl⟩
      have hva2 := oa2.one
      refine gzU ?_
      refine k_next (i + 1, (v', c2), vb, cb) ⟨by simp only; omega, ?_, ?_⟩ (by simp only; omega) ⟨rfl, rfl, rfl, rfl, rfl, rfl, rfl, trivial⟩ .refl
      · rw [hsn]; simp only [List.length_append, List.map_append, List.map_cons, List.map_nil]; exact oa2
      · rw [hsn]; exact ob
    · rw [if_neg (show ¬ bitF w i = true by simp [bitF, hb])] at hsn
      refine gzU ?_
      refine t_q (q_load (v := intQ t) rfl (List.mem_append_right _ (List.mem_append_right _ hmt)) g1) rfl rfl rfl ?_
      refine t_e (e_lit1 (v := intQ t) rfl rfl) rfl rfl rfl ?_
      rintro _ _ ⟨bl, _, rfl, rfl⟩
      refine t_e (e_appX (k := 1) (X := ca) (ws := [intQ t]) (zs := [.int .i64 0]) rfl rfl rfl ob rfl (by simp [Value.oneCell', intQ]) (by omega) (by decide)) rfl rfl rfl ?_
      rintro v' _ ⟨c2, ob2, rfl⟩
      have hvb2 := ob2.one
      refine gzU ?_
      refine k_next (i + 1, (va, ca), v', c2) ⟨by simp only; omega, ?_, ?_⟩ (by simp only; omega) ⟨rfl, rfl, rfl, rfl, rfl, rfl, rfl, trivial⟩ .refl
      · rw [hsn]; exact oa
      · rw [hsn]; simp only [List.length_append, List.map_append, List.map_cons, List.map_nil]; exact ob2
  obtain rfl : i = T := by omega
  rw [List.take_of_length_le (by omega)] at oa ob
  obtain ⟨az, bz, hsp⟩ : ∃ az bz, Pt.spl (bitF w) 0 th = (az, bz) := ⟨_, _, rfl⟩
  have hll := spl_len (bitF w) th 0
  rw [hsp] at oa ob hap hll
  simp only at oa ob hap hll
  obtain ⟨pa, cpa, rfl⟩ := oa.shape
  obtain ⟨pb, cpb, rfl⟩ := ob.shape
  obtain ⟨W, hW⟩ : ∃ W, W = cB (Pt.Apt (bootV F i sh).vd wrP az bz) := ⟨_, rfl⟩
  have hWt : (sh = false ∨ az = [] ∨ bz = []) → W = true := fun h => by rw [hW, cB_iff, hap]; exact h
  have hWf : ¬ (sh = false ∨ az = [] ∨ bz = []) → W = false := fun h => by
    rw [hW, ← Bool.not_eq_true, cB_iff, hap]; exact h
  iterate 15 refine gzSU ?_
  refine c_join (α := Unit) (fun _ => [(5, pV B), (8, .slice pa az.length cpa), (9, .slice pb bz.length cpb), (11, .bool W)]) (fun _ => ca ++ (cb ++ Z)) (fun _ => True) ?_ ?_
  · cases sh with
    | false =>
      refine gzU ?_
      refine t_q (q_load (v := .bool false) rfl (List.mem_append_right _ (List.mem_append_right _ hmc)) rfl) rfl rfl rfl ?_
      refine gzU ?_
      exact p_join () trivial ⟨rfl, rfl, rfl, by rw [hWt (.inl rfl)]; rfl, trivial⟩ .refl
    | true =>
      refine gzU ?_
      refine t_q (q_load (v := .bool true) rfl (List.mem_append_right _ (List.mem_append_right _ hmc)) rfl) rfl rfl rfl ?_
      by_cases ha : az.length = 0
      · refine gzU ?_
        exact p_join () trivial ⟨rfl, rfl, rfl, by rw [hWt (.inr (.inl (List.eq_nil_of_length_eq_zero ha)))]; rfl, trivial⟩ .refl
      by_cases hb : bz.length = 0
      · refine gzU ?_
        exact p_join () trivial ⟨rfl, rfl, rfl, by rw [hWt (.inr (.inr (List.eq_nil_of_length_eq_zero hb)))]; show some (Value.bool (decide ((bz.length : Int) = 0))) = _; rw [decide_eq_true (by omega)], trivial⟩ .refl
      refine gzU ?_
      refine p_join () trivial ⟨rfl, rfl, rfl, ?_, trivial⟩ .refl
      rw [hWf (by rintro (h | h | h); cases h; exact ha (by rw [h]; rfl); exact hb (by rw [h]; rfl))]
      show some (Value.bool (decide ((bz.length : Int) = 0))) = _
      rw [decide_eq_false (by omega)]
  rintro _ _
  refine gzU ?_
  refine t_q (q_call rfl rfl (fun l2 hl => krealm_any B b l2 (hl _ (List.mem_append_right _ (List.mem_append_right _ hmk))))) rfl rfl rfl ?_
  refine gzU ?_
  refine t_e (e_call0 rfl rfl (view_at F C 60 _ b p s hR (by omega) (by have := hB.s; exact Nat.le_trans this (by omega)) _ _ (by rw [← List.append_assoc]; exact hPZ (ca ++ cb)))) rfl rfl rfl ?_
  rintro _ _ ⟨_, ⟨x, rfl, hx, rfl⟩, rfl⟩
  refine gzU ?_
  refine t_q (q_call rfl rfl (fun l2 hl => Apart_any (bootV F i sh) _ _ _ az bz l2 (boot_vw hx hB _ fun c hc => hl _ (List.mem_append_left _ hc)) (oa.intsQ fun q hq => hl _ (List.mem_append_right _ (List.mem_append_left _ hq))) (ob.intsQ fun q hq => hl _ (List.mem_append_right _ (List.mem_append_right _ (List.mem_append_left _ hq)))) (by omega) (by omega))) rfl rfl rfl ?_
  rw [← hW]
  refine gzU ?_
  rw [beq_self_eq_true]
  refine gzU ?_
  refine t_eh (e_call0 rfl rfl (awake_any _)) rfl rfl rfl ?_
  rintro _ _ ⟨rfl, X9, rfl⟩
  refine gzU ?_
  obtain ⟨Y, hY⟩ := hKZ (X9 ++ (x.all ++ (ca ++ cb)))
  exact k_ret [] rfl (l' := Y ++ l) (by simp only [List.append_assoc] at hY ⊢; exact hY) (by exact zRes) ⟨rfl, _, rfl⟩
end Go.Proofs.YtgafamgacpglcaaGreat


/- PartBoots' walk, as the last step wants it. -/
set_option linter.unusedVariables false
set_option linter.unusedSimpArgs false
namespace Go.Proofs.YtgafamgacpglcaaGreat
open Go.RowKit

theorem boots_walk (cs : List Value) (h : AllIs [some .i64, some .i64, some .i64, none] cs) (w : Int) (hw : (Lit.int IntKind.i64 w).wf = true) (W : World) :
    Calls Tryz.prog 4 #[.agg cs.toArray, .int .i64 w] W fun e W' => e = .returned (.bool true) ∧ Below W.heap.size W W' := by
  obtain ⟨_, _, rfl, ⟨F, rfl, _⟩, _, _, rfl, ⟨C, rfl, _⟩, _, _, rfl, ⟨T, rfl, _⟩, _, _, rfl, ⟨sh, rfl⟩, rfl⟩ := h
  exact law_walk (boots_any F C T sh w _)
end Go.Proofs.YtgafamgacpglcaaGreat

