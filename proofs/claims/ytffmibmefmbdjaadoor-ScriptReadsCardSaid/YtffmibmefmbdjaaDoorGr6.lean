/- ref35: parts. A line's event: plain. script.line. script.Parse. strings.Builder, told of the blocks that are held. strings.Builder in blocks that are held. From a contract on all blocks to the form that a statement's last step wants. Rows of any flat struct that came in, as blocks. script.Print. Lines and events: plain laws of reading what was printed, and printing what was read. awake; ScriptStrict. ScriptStrict. What is printed is read again: plain. Laws that the statement's proof leans on. -/
import Derived.Test.YtffmibmefmbdjaaDoorGr4
import Derived.Test.YtffmibmefmbdjaaDoorGr5
import Derived.Lib.AppendStr
import Derived.Lib.Builder
import Derived.Lib.UnsafeStr
import Derived.Laws.Externs
import Derived.BigCall
import Derived.BigGuard
import Derived.Test.YtffmibmefmbdjaaDoorGr3
import Derived.Below
/- ref35: parts. -/
-- GU
set_option linter.unusedVariables false
set_option linter.unusedSimpArgs false
namespace Go.Proofs.YtffmibmefmbdjaaDoor
open Go.RowKit
set_option maxRecDepth 20000

/-- a kind's small numbers and its words -/
def nsE (e : EvT) : List Int :=
  if e.kd = 1 then [e.co, e.th] else if e.kd = 2 then [e.co] else if e.kd = 3 then [e.co] else if e.kd = 4 then [e.co] else if e.kd = 5 then [e.co, e.se, e.wy] else if e.kd = 6 then [e.co, e.pg] else []
def wsE (e : EvT) : List Nat :=
  if e.kd = 1 then [] else if e.kd = 2 then [e.op, e.a0, e.a1, e.a2, e.a3, e.a4, e.a5] else if e.kd = 3 then [e.va] else if e.kd = 4 then [e.va, e.vl] else []
def nV35 (x : Int) : Value := .int .i64 x
def wV35 (x : Nat) : Value := .int .u64 (x : Nat)
def RPartsQ (e : EvT) (l : List Chunk) (v : Value) (l' : List Chunk) : Prop :=
  ∃ nv wv c1 c2, v = .tuple #[str (nm e.kd), nv, wv] ∧ OwnSl 3 1 nv (nsE e).length ((nsE e).map nV35) c1 ∧ OwnSl 38 1 wv (wsE e).length ((wsE e).map wV35) c2 ∧ l' = c1 ++ (c2 ++ l)
section
variable {P : Program} {ro : Option Nat} {N : Nat} {fr : Fr} {R : List Chunk} {d : Option Nat} {ty : TypeId} {pos : String} {aft : Array Edge} {g : Option (Nat × Bool)} {x : Operand}
/-- all of an array -/
theorem q_sliceArr {T n e k b off : Nat} (hx : ev fr x = some (.pointer (some ⟨b, off, none⟩))) [c : AT P T n e k] (hn : 0 < n) : OpQ P ro N fr R ⟨d, .slice T x none none none, ty, pos, aft, g⟩ (.slice (some ⟨b, off, none⟩) n n) := opQ_of_sl rfl fun ρ l hρ _ => by
  obtain ⟨inf, hu, hi, _⟩ := atV_spec c.out
  simp only [execOp, hρ x _ hx]
  rw [sl_bind]
  unfold Instr.sliceAt
  rw [sl_under hu]
  simp only [sl_bind, sl_pure, Instr.sureAddr, Instr.sliceBounds, Option.map_none]
  rw [sl_sizeOf' hi]
  simp only [sl_pure, if_neg (show ¬ n = 0 by omega), Nat.sub_zero]
  exact ⟨by simp [addr_add], trivial⟩
end
set_option maxHeartbeats 2000000 in
theorem rparts_any (e : EvT) (l : List Chunk) : Fn Tryd.prog 27 [.agg (List.toArray e.cells)] l (RPartsQ e l) := by
  obtain ⟨kd, co, th, op, a0, a1, a2, a3, a4, a5, va, vl, se, wy, pg⟩ := e
  unfold EvT.cells
  dsimp only
  refine fn_of_body Tryd.func27 rfl rfl fun E => ?_
  simp only [argF, Tryd.ntmps27]
  refine gzU ?_
  refine t_e (e_boxA rfl) rfl rfl rfl ?_
  rintro _ _ ⟨b1, hb1, rfl, rfl⟩
  refine gzU ?_
  by_cases h1 : kd = 1
  · subst h1
    refine gzU ?_
    refine c_draw [(0, true), (1, true), (2, true), (3, true), (5, true), (4, false), (6, true), (7, true)] [[], [0], [], [2], [0, 1, 2, 3], [], [0, 1, 2, 3, 4, 5], [0, 1, 2, 3, 4, 5, 6]] _ (by kernel_rfl) (by kernel_rfl) zAtt (fun _ h => h) ?_
    refine pzU ?_
    apply pl_e
    · exact e_litN (z0 := .int .i64 0) (cs := [.int .i64 co, .int .i64 th]) rfl (by decide) (by decide) rfl
    · rfl
    · rfl
    · rfl
    · rintro _ _ ⟨_, _, _, rfl⟩ x hx; exact .tail _ hx
    rintro _ _ ⟨gb, hgb, rfl, rfl⟩
    refine pzU ?_
    refine gzU ?_
    exact k_ret [] rfl (l' := [_] ++ ([] ++ l)) (by exact zKeep) (by exact zRes) ⟨_, _, _, _, rfl, OwnSl.lit (n := 2) (by decide) rfl (by decide), OwnSl.nil _ _, rfl⟩
  by_cases h2 : kd = 2
  · subst h2
    have hnw : ∀ (j : Nat) (u : Value), ([.int .u64 (a0 : Nat), .int .u64 (a1 : Nat), .int .u64 (a2 : Nat), .int .u64 (a3 : Nat), .int .u64 (a4 : Nat), .int .u64 (a5 : Nat)] : List Value)[j]? = some u → (List.toArray [.int .i64 2, .int .i64 co, .int .i64 th, .int .u64 (op : Nat), .int .u64 (a0 : Nat), .int .u64 (a1 : Nat), .int .u64 (a2 : Nat), .int .u64 (a3 : Nat), .int .u64 (a4 : Nat), .int .u64 (a5 : Nat), .int .u64 (va : Nat), .int .u64 (vl : Nat), .int .i64 se, .int .i64 wy, .int .i64 pg] : Array Value)[4 + j]? = some u := by
      intro j u hj
      rcases j with _ | _ | _ | _ | _ | _ | j
      all_goals first | exact hj | simp at hj
    refine gzU ?_
    refine c_drawL [(0, true), (1, true), (3, true), (4, true), (5, true), (7, true), (8, true), (9, true), (6, false), (10, false), (11, true), (2, false), (12, true), (13, true)] [[], [0], [0, 1], [], [3], [3, 4], [3, 4, 5], [], [7], [7, 8], [3, 4, 5, 6, 7, 8, 9], [3, 4, 5, 6, 7, 8, 9, 10], [0, 1, 2, 3, 4, 5, 6, 7, 8, 9, 10, 11], [0, 1, 2, 3, 4, 5, 6, 7, 8, 9, 10, 11, 12]] (some [(6, 2), (10, 2)]) _ (by kernel_rfl) (by kernel_rfl) zAtt (fun _ h => h) ?_
    refine pzU ?_
    apply pl_q
    · exact q_sliceArr rfl (by decide)
    · rfl
    · rfl
    · rfl
    refine pzU ?_
    apply pl_two [(6, false), (10, false), (11, true), (2, false), (12, true), (13, true)] [(2, false), (6, false), (10, false), (11, true), (12, true), (13, true)] 6 2 (some [(10, 2)]) none
    · exact zAtt
    · exact zAtt
    · exact (List.Perm.swap _ _ _).trans (List.Perm.cons _ ((List.Perm.swap _ _ _).trans (List.Perm.cons _ (List.Perm.swap _ _ _))))
    · kernel_rfl
    · exact e_litN (z0 := .int .u64 0) (cs := [.int .u64 (op : Nat)]) rfl (by decide) (by decide) rfl
    · rfl
    · rfl
    · rintro _ _ ⟨_, _, _, rfl⟩ x hx; repeat (first | exact hx | apply List.Mem.tail | apply List.mem_append_right)
    · intro _ _ _ x hx; cases hx
    · exact e_litN (z0 := .int .i64 0) (cs := [.int .i64 co]) rfl (by decide) (by decide) rfl
    · rfl
    · rfl
    · rintro _ _ ⟨_, _, _, rfl⟩ x hx; repeat (first | exact hx | apply List.Mem.tail | apply List.mem_append_right)
    · intro _ _ _ x hx; cases hx
    · rintro _ _ ⟨gb, hgb, rfl, rfl⟩
      refine pl_alt [(2, false), (10, false), (11, true), (12, true), (13, true)] zAtt ((List.Perm.swap _ _ _).trans (List.Perm.cons _ (List.Perm.swap _ _ _))) (by kernel_rfl) ?_ ?_
      · apply pl_e
        · exact OpE.re (.refl) (ce_append (n := 1) (m := 6) (k := 1) (zs := [.int .u64 0]) (xs := [.int .u64 (op : Nat)]) (news := [.int .u64 (a0 : Nat), .int .u64 (a1 : Nat), .int .u64 (a2 : Nat), .int .u64 (a3 : Nat), .int .u64 (a4 : Nat), .int .u64 (a5 : Nat)]) (cs := [_]) rfl rfl rfl (OwnSl.lit (by decide) rfl (by decide)) (List.mem_append_right _ (by exact zMem)) hnw rfl (by simp [Value.oneCell']) (by decide) (by decide)) (fun v l' h => ⟨l', .refl, h⟩)
        · rfl
        · rfl
        · rfl
        · rintro _ _ ⟨_, _, rfl⟩ x hx; refine List.mem_append_right _ ?_; repeat (first | exact hx | apply List.Mem.tail | apply List.mem_append_right)
        rintro _ _ ⟨cs', hown, rfl⟩
        have hv1 := hown.one
        refine pzU ?_
        apply pl_e
        · exact e_litN (z0 := .int .i64 0) (cs := [.int .i64 co]) rfl (by decide) (by decide) rfl
        · rfl
        · rfl
        · rfl
        · rintro _ _ ⟨_, _, _, rfl⟩ x hx; repeat (first | exact hx | apply List.Mem.tail | apply List.mem_append_right)
        rintro _ _ ⟨ga, hga, rfl, rfl⟩
        refine pzU ?_
        refine gzU ?_
        exact k_ret [] rfl (l' := [(ga, _)] ++ (cs' ++ l)) (Keep.mid' (L1 := [_]) (Keep.mid' (Keep.drop .refl))) (by exact zRes) ⟨_, _, _, _, rfl, OwnSl.lit (n := 1) (by decide) rfl (by decide), hown, rfl⟩
      · apply pl_e
        · exact e_litN (z0 := .int .i64 0) (cs := [.int .i64 co]) rfl (by decide) (by decide) rfl
        · rfl
        · rfl
        · rfl
        · rintro _ _ ⟨_, _, _, rfl⟩ x hx; repeat (first | exact hx | apply List.Mem.tail | apply List.mem_append_right)
        rintro _ _ ⟨ga, hga, rfl, rfl⟩
        refine pzU ?_
        apply pl_e
        · exact OpE.re (by exact zKeep) (ce_append (n := 1) (m := 6) (k := 1) (zs := [.int .u64 0]) (xs := [.int .u64 (op : Nat)]) (news := [.int .u64 (a0 : Nat), .int .u64 (a1 : Nat), .int .u64 (a2 : Nat), .int .u64 (a3 : Nat), .int .u64 (a4 : Nat), .int .u64 (a5 : Nat)]) (cs := [_]) rfl rfl rfl (OwnSl.lit (by decide) rfl (by decide)) (List.mem_append_right _ (by exact zMem)) hnw rfl (by simp [Value.oneCell']) (by decide) (by decide)) (fun v l' h => ⟨l', .refl, h⟩)
        · rfl
        · rfl
        · rfl
        · rintro _ _ ⟨_, _, rfl⟩ x hx; refine List.mem_append_right _ ?_; repeat (first | exact hx | apply List.Mem.tail | apply List.mem_append_right)
        rintro _ _ ⟨cs', hown, rfl⟩
        have hv1 := hown.one
        refine pzU ?_
        refine gzU ?_
        exact k_ret [] rfl (l' := [(ga, _)] ++ (cs' ++ l)) ((Keep.in_mid _ [_] _).trans (Keep.mid' (L1 := [_]) (Keep.mid' (Keep.drop .refl)))) (by exact zRes) ⟨_, _, _, _, rfl, OwnSl.lit (n := 1) (by decide) rfl (by decide), hown, rfl⟩
    · rintro _ _ ⟨ga, hga, rfl, rfl⟩
      apply pl_e
      · exact e_litN (z0 := .int .u64 0) (cs := [.int .u64 (op : Nat)]) rfl (by decide) (by decide) rfl
      · rfl
      · rfl
      · rfl
      · rintro _ _ ⟨_, _, _, rfl⟩ x hx; repeat (first | exact hx | apply List.Mem.tail | apply List.mem_append_right)
      rintro _ _ ⟨gb, hgb, rfl, rfl⟩
      refine pzU ?_
      apply pl_e
      · exact OpE.re (.refl) (ce_append (n := 1) (m := 6) (k := 1) (zs := [.int .u64 0]) (xs := [.int .u64 (op : Nat)]) (news := [.int .u64 (a0 : Nat), .int .u64 (a1 : Nat), .int .u64 (a2 : Nat), .int .u64 (a3 : Nat), .int .u64 (a4 : Nat), .int .u64 (a5 : Nat)]) (cs := [_]) rfl rfl rfl (OwnSl.lit (by decide) rfl (by decide)) (List.mem_append_right _ (by exact zMem)) hnw rfl (by simp [Value.oneCell']) (by decide) (by decide)) (fun v l' h => ⟨l', .refl, h⟩)
      · rfl
      · rfl
      · rfl
      · rintro _ _ ⟨_, _, rfl⟩ x hx; refine List.mem_append_right _ ?_; repeat (first | exact hx | apply List.Mem.tail | apply List.mem_append_right)
      rintro _ _ ⟨cs', hown, rfl⟩
      have hv1 := hown.one
      refine pzU ?_
      refine gzU ?_
      exact k_ret [] rfl (l' := [(ga, _)] ++ (cs' ++ l)) ((Keep.in_mid _ [_] _).trans (Keep.mid' (L1 := [_]) (Keep.mid' (Keep.drop .refl)))) (by exact zRes) ⟨_, _, _, _, rfl, OwnSl.lit (n := 1) (by decide) rfl (by decide), hown, rfl⟩
  by_cases h3 : kd = 3
  · subst h3
    refine gzU ?_
    refine c_drawL [(0, true), (1, true), (3, true), (4, true), (6, true), (2, false), (7, true), (5, false), (8, true)] [[], [0], [0, 1], [], [3], [3, 4], [], [0, 1, 2, 6], [0, 1, 2, 3, 4, 5, 6, 7]] (some [(2, 5)]) _ (by kernel_rfl) (by kernel_rfl) zAtt (fun _ h => h) ?_
    refine pzU ?_
    refine pl_alt [(5, false), (2, false), (7, true), (8, true)] zAtt ((List.Perm.swap _ _ _).trans (List.Perm.cons _ (List.Perm.swap _ _ _))) (by kernel_rfl) ?_ ?_
    · apply pl_e
      · exact e_litN (z0 := .int .i64 0) (cs := [.int .i64 co]) rfl (by decide) (by decide) rfl
      · rfl
      · rfl
      · rfl
      · rintro _ _ ⟨_, _, _, rfl⟩ x hx; repeat (first | exact hx | apply List.Mem.tail | apply List.mem_append_right)
      rintro _ _ ⟨ga, hga, rfl, rfl⟩
      refine pzU ?_
      apply pl_e
      · exact e_litN (z0 := .int .u64 0) (cs := [.int .u64 (va : Nat)]) rfl (by decide) (by decide) rfl
      · rfl
      · rfl
      · rfl
      · rintro _ _ ⟨_, _, _, rfl⟩ x hx; repeat (first | exact hx | apply List.Mem.tail | apply List.mem_append_right)
      rintro _ _ ⟨gb, hgb, rfl, rfl⟩
      refine pzU ?_
      refine gzU ?_
      exact k_ret [] rfl (l' := [(ga, _)] ++ ([(gb, _)] ++ l)) (by exact zKeep) (by exact zRes) ⟨_, _, _, _, rfl, OwnSl.lit (n := 1) (by decide) rfl (by decide), OwnSl.lit (n := 1) (by decide) rfl (by decide), rfl⟩
    · apply pl_e
      · exact e_litN (z0 := .int .u64 0) (cs := [.int .u64 (va : Nat)]) rfl (by decide) (by decide) rfl
      · rfl
      · rfl
      · rfl
      · rintro _ _ ⟨_, _, _, rfl⟩ x hx; repeat (first | exact hx | apply List.Mem.tail | apply List.mem_append_right)
      rintro _ _ ⟨gb, hgb, rfl, rfl⟩
      refine pzU ?_
      apply pl_e
      · exact e_litN (z0 := .int .i64 0) (cs := [.int .i64 co]) rfl (by decide) (by decide) rfl
      · rfl
      · rfl
      · rfl
      · rintro _ _ ⟨_, _, _, rfl⟩ x hx; repeat (first | exact hx | apply List.Mem.tail | apply List.mem_append_right)
      rintro _ _ ⟨ga, hga, rfl, rfl⟩
      refine pzU ?_
      refine gzU ?_
      exact k_ret [] rfl (l' := [(ga, _)] ++ ([(gb, _)] ++ l)) (by exact zKeep) (by exact zRes) ⟨_, _, _, _, rfl, OwnSl.lit (n := 1) (by decide) rfl (by decide), OwnSl.lit (n := 1) (by decide) rfl (by decide), rfl⟩
  by_cases h4 : kd = 4
  · subst h4
    refine gzU ?_
    refine c_drawL [(0, true), (1, true), (3, true), (4, true), (5, true), (6, true), (8, true), (2, false), (9, true), (7, false), (10, true)] [[], [0], [0, 1], [], [3], [], [5], [3, 4, 5, 6], [], [0, 1, 2, 8], [0, 1, 2, 3, 4, 5, 6, 7, 8, 9]] (some [(2, 7)]) _ (by kernel_rfl) (by kernel_rfl) zAtt (fun _ h => h) ?_
    refine pzU ?_
    refine pl_alt [(7, false), (2, false), (9, true), (10, true)] zAtt ((List.Perm.swap _ _ _).trans (List.Perm.cons _ (List.Perm.swap _ _ _))) (by kernel_rfl) ?_ ?_
    · apply pl_e
      · exact e_litN (z0 := .int .i64 0) (cs := [.int .i64 co]) rfl (by decide) (by decide) rfl
      · rfl
      · rfl
      · rfl
      · rintro _ _ ⟨_, _, _, rfl⟩ x hx; repeat (first | exact hx | apply List.Mem.tail | apply List.mem_append_right)
      rintro _ _ ⟨ga, hga, rfl, rfl⟩
      refine pzU ?_
      apply pl_e
      · exact e_litN (z0 := .int .u64 0) (cs := [.int .u64 (va : Nat), .int .u64 (vl : Nat)]) rfl (by decide) (by decide) rfl
      · rfl
      · rfl
      · rfl
      · rintro _ _ ⟨_, _, _, rfl⟩ x hx; repeat (first | exact hx | apply List.Mem.tail | apply List.mem_append_right)
      rintro _ _ ⟨gb, hgb, rfl, rfl⟩
      refine pzU ?_
      refine gzU ?_
      exact k_ret [] rfl (l' := [(ga, _)] ++ ([(gb, _)] ++ l)) (by exact zKeep) (by exact zRes) ⟨_, _, _, _, rfl, OwnSl.lit (n := 1) (by decide) rfl (by decide), OwnSl.lit (n := 2) (by decide) rfl (by decide), rfl⟩
    · apply pl_e
      · exact e_litN (z0 := .int .u64 0) (cs := [.int .u64 (va : Nat), .int .u64 (vl : Nat)]) rfl (by decide) (by decide) rfl
      · rfl
      · rfl
      · rfl
      · rintro _ _ ⟨_, _, _, rfl⟩ x hx; repeat (first | exact hx | apply List.Mem.tail | apply List.mem_append_right)
      rintro _ _ ⟨gb, hgb, rfl, rfl⟩
      refine pzU ?_
      apply pl_e
      · exact e_litN (z0 := .int .i64 0) (cs := [.int .i64 co]) rfl (by decide) (by decide) rfl
      · rfl
      · rfl
      · rfl
      · rintro _ _ ⟨_, _, _, rfl⟩ x hx; repeat (first | exact hx | apply List.Mem.tail | apply List.mem_append_right)
      rintro _ _ ⟨ga, hga, rfl, rfl⟩
      refine pzU ?_
      refine gzU ?_
      exact k_ret [] rfl (l' := [(ga, _)] ++ ([(gb, _)] ++ l)) (by exact zKeep) (by exact zRes) ⟨_, _, _, _, rfl, OwnSl.lit (n := 1) (by decide) rfl (by decide), OwnSl.lit (n := 2) (by decide) rfl (by decide), rfl⟩
  by_cases h5 : kd = 5
  · subst h5
    refine gzU ?_
    refine c_draw [(0, true), (1, true), (2, true), (3, true), (4, true), (5, true), (7, true), (6, false), (8, true), (9, true)] [[], [0], [], [2], [], [4], [0, 1, 2, 3, 4, 5], [], [0, 1, 2, 3, 4, 5, 6, 7], [0, 1, 2, 3, 4, 5, 6, 7, 8]] _ (by kernel_rfl) (by kernel_rfl) zAtt (fun _ h => h) ?_
    refine pzU ?_
    apply pl_e
    · exact e_litN (z0 := .int .i64 0) (cs := [.int .i64 co, .int .i64 se, .int .i64 wy]) rfl (by decide) (by decide) rfl
    · rfl
    · rfl
    · rfl
    · rintro _ _ ⟨_, _, _, rfl⟩ x hx; repeat (first | exact hx | apply List.Mem.tail | apply List.mem_append_right)
    rintro _ _ ⟨ga, hga, rfl, rfl⟩
    refine pzU ?_
    refine gzU ?_
    exact k_ret [] rfl (l' := [_] ++ ([] ++ l)) (by exact zKeep) (by exact zRes) ⟨_, _, _, _, rfl, OwnSl.lit (n := 3) (by decide) rfl (by decide), OwnSl.nil _ _, rfl⟩
  by_cases h6 : kd = 6
  · subst h6
    refine gzU ?_
    refine c_draw [(0, true), (1, true), (2, true), (3, true), (5, true), (4, false), (6, true), (7, true)] [[], [0], [], [2], [0, 1, 2, 3], [], [0, 1, 2, 3, 4, 5], [0, 1, 2, 3, 4, 5, 6]] _ (by kernel_rfl) (by kernel_rfl) zAtt (fun _ h => h) ?_
    refine pzU ?_
    apply pl_e
    · exact e_litN (z0 := .int .i64 0) (cs := [.int .i64 co, .int .i64 pg]) rfl (by decide) (by decide) rfl
    · rfl
    · rfl
    · rfl
    · rintro _ _ ⟨_, _, _, rfl⟩ x hx; repeat (first | exact hx | apply List.Mem.tail | apply List.mem_append_right)
    rintro _ _ ⟨ga, hga, rfl, rfl⟩
    refine pzU ?_
    refine gzU ?_
    exact k_ret [] rfl (l' := [_] ++ ([] ++ l)) (by exact zKeep) (by exact zRes) ⟨_, _, _, _, rfl, OwnSl.lit (n := 2) (by decide) rfl (by decide), OwnSl.nil _ _, rfl⟩
  have e1 : nm kd = [] := by unfold nm; rw [if_neg h1, if_neg h2, if_neg h3, if_neg h4, if_neg h5, if_neg h6]
  have e2 : nsE ⟨kd, co, th, op, a0, a1, a2, a3, a4, a5, va, vl, se, wy, pg⟩ = [] := by unfold nsE; simp only [if_neg h1, if_neg h2, if_neg h3, if_neg h4, if_neg h5, if_neg h6]
  have e3 : wsE ⟨kd, co, th, op, a0, a1, a2, a3, a4, a5, va, vl, se, wy, pg⟩ = [] := by unfold wsE; simp only [if_neg h1, if_neg h2, if_neg h3, if_neg h4]
  refine gzU ?_
  refine k_ret [] rfl (l' := [] ++ ([] ++ l)) (by exact zKeep) (by exact zRes) ?_
  unfold RPartsQ
  rw [e2, e3]
  exact ⟨_, _, [], [], by rw [e1]; rfl, OwnSl.nil _ _, OwnSl.nil _ _, rfl⟩
end Go.Proofs.YtffmibmefmbdjaaDoor

/- A line's event: plain. -/
set_option linter.unusedVariables false
set_option linter.unusedSimpArgs false
namespace Go.Proofs.YtffmibmefmbdjaaDoor
open Go.RowKit

def limP (p : Nat × Bool) : Nat := if p.2 then 18446744073709551615 else 999999
def valP (p : Nat × Bool) (n : Nat) : Value := if p.2 then .int .u64 (n : Nat) else .int .i64 (n : Nat)
abbrev zEv : List Value := [.int .i64 0, .int .i64 0, .int .i64 0, .int .u64 0, .int .u64 0, .int .u64 0, .int .u64 0, .int .u64 0, .int .u64 0, .int .u64 0, .int .u64 0, .int .u64 0, .int .i64 0, .int .i64 0, .int .i64 0]
def zk (k : Int) : List Value := zEv.set 0 (.int .i64 k)
/-- the words' numbers, put where they belong -/
noncomputable def fillG : List Value → List (Nat × Bool) → List (List UInt8) → Option (List Value)
  | cs, _, [] => some cs
  | _, [], _ :: _ => none
  | cs, p :: ps, w :: ws => match rdL w (limP p) with
    | some n => fillG (cs.set p.1 (valP p n)) ps ws
    | none => none
def kindOf (w : List UInt8) : Option Int := if w = nm 1 then some 1 else if w = nm 2 then some 2 else if w = nm 3 then some 3 else if w = nm 4 then some 4 else if w = nm 5 then some 5 else if w = nm 6 then some 6 else none
noncomputable def evWs : List (List UInt8) → Option (List Value)
  | [] => none
  | w0 :: ws => match kindOf w0 with
    | none => none
    | some k => if ws.length = (pts k).length then fillG (zk k) (pts k) ws else none
/-- the event of a line -/
noncomputable def evOf (s : List UInt8) : Option (List Value) := evWs (splitL 32 s)
theorem fillG_nil (cs : List Value) (ps : List (Nat × Bool)) : fillG cs ps [] = some cs := by cases ps <;> rfl
theorem fillG_app (b : List (List UInt8)) : ∀ (a : List (List UInt8)) (cs : List Value) (ps : List (Nat × Bool)), fillG cs ps (a ++ b) = (fillG cs ps a).bind fun c => fillG c (ps.drop a.length) b := by
  intro a
  induction a with
  | nil => intro cs ps; cases ps <;> rfl
  | cons w a ih =>
    intro cs ps
    cases ps with
    | nil => rfl
    | cons p ps =>
      have e : fillG cs (p :: ps) (w :: (a ++ b)) = match rdL w (limP p) with | some n => fillG (cs.set p.1 (valP p n)) ps (a ++ b) | none => none := rfl
      have e2 : fillG cs (p :: ps) (w :: a) = match rdL w (limP p) with | some n => fillG (cs.set p.1 (valP p n)) ps a | none => none := rfl
      rw [List.cons_append, e, e2]
      cases rdL w (limP p) with
      | none => rfl
      | some n => exact ih _ _
theorem numb_len {α : Type} : ∀ (L : List α) (i : Nat), (numb i L).length = L.length
  | [], _ => rfl
  | x :: r, i => by show (numb (i + 1) r).length + 1 = r.length + 1; rw [numb_len r]
theorem numb_app {α : Type} (b : List α) : ∀ (a : List α) (i : Nat), numb i (a ++ b) = numb i a ++ numb (i + a.length) b
  | [], i => rfl
  | x :: r, i => by
    show (i, x) :: numb (i + 1) (r ++ b) = (i, x) :: (numb (i + 1) r ++ numb (i + (r.length + 1)) b)
    rw [numb_app b r, Nat.add_right_comm, Nat.add_assoc]
theorem numb_snd {α : Type} : ∀ (L : List α) (i : Nat), (numb i L).map Prod.snd = L
  | [], _ => rfl
  | x :: r, i => by show x :: (numb (i + 1) r).map Prod.snd = x :: r; rw [numb_snd r]
theorem numb_pre {α : Type} {pre : List (Nat × α)} {L : List α} (h : pre <+: numb 0 L) : ∃ a b, L = a ++ b ∧ pre = numb 0 a := by
  obtain ⟨t, ht⟩ := h
  refine ⟨pre.map Prod.snd, t.map Prod.snd, by rw [← List.map_append, ht, numb_snd], ?_⟩
  have h1 : numb 0 L = numb 0 (pre.map Prod.snd ++ t.map Prod.snd) := by rw [← List.map_append, ht, numb_snd]
  rw [← ht, numb_app] at h1
  exact (List.append_inj h1 (by rw [numb_len, List.length_map])).1
theorem numb_snoc {α : Type} {pre : List (Nat × α)} {x : Nat × α} {L : List α} (h : pre ++ [x] <+: numb 0 L) : ∃ a w b, L = a ++ w :: b ∧ pre = numb 0 a ∧ x = (a.length, w) := by
  obtain ⟨a, b, h1, h2⟩ := numb_pre h
  have hl : a ≠ [] := fun e => by rw [e] at h2; simp [numb] at h2
  obtain ⟨a', w, rfl⟩ : ∃ a' w, a = a' ++ [w] := ⟨a.dropLast, a.getLast hl, (List.dropLast_concat_getLast hl).symm⟩
  rw [numb_app] at h2
  have h3 := List.append_inj' h2 rfl
  refine ⟨a', w, b, by rw [h1]; simp, h3.1, ?_⟩
  have := h3.2
  simp only [numb, Nat.zero_add, List.cons.injEq, and_true] at this
  exact this
theorem splitL_ne (c : UInt8) (s : List UInt8) : splitL c s ≠ [] := by rw [splitL_cut]; exact List.cons_ne_nil _ _
theorem splitL_words (c : UInt8) (s : List UInt8) : ∀ w ∈ splitL c s, w.length ≤ s.length := by
  induction hn : s.length using Nat.strongRecOn generalizing s with
  | ind n ih =>
    subst hn
    intro w hw
    rw [splitL_cut] at hw
    obtain ⟨h1, h2, h3⟩ := cutL_len c s
    rcases List.mem_cons.1 hw with rfl | hw
    · exact h1
    · cases hb : (cutL c s).2.2 with
      | true =>
        rw [hb, if_pos rfl] at hw
        have := ih _ (h3 hb) _ rfl w hw
        omega
      | false => rw [hb] at hw; cases hw
theorem evOf_kind {s w : List UInt8} {ws : List (List UInt8)} (hL : splitL 32 s = w :: ws) (h : kindOf w = none) : evOf s = none := by
  unfold evOf
  rw [hL]
  show (match kindOf w with | none => none | some k => if ws.length = (pts k).length then fillG (zk k) (pts k) ws else none) = none
  rw [h]
theorem evOf_len {s w : List UInt8} {k : Int} {ws : List (List UInt8)} (hL : splitL 32 s = w :: ws) (h : kindOf w = some k) (hl : ws.length ≠ (pts k).length) : evOf s = none := by
  unfold evOf
  rw [hL]
  show (match kindOf w with | none => none | some k => if ws.length = (pts k).length then fillG (zk k) (pts k) ws else none) = none
  rw [h]
  exact if_neg hl
theorem evOf_fill {s w : List UInt8} {k : Int} {ws : List (List UInt8)} (hL : splitL 32 s = w :: ws) (h : kindOf w = some k) (hl : ws.length = (pts k).length) : evOf s = fillG (zk k) (pts k) ws := by
  unfold evOf
  rw [hL]
  show (match kindOf w with | none => none | some k => if ws.length = (pts k).length then fillG (zk k) (pts k) ws else none) = _
  rw [h]
  exact if_pos hl
theorem fill_len : ∀ (ws : List (List UInt8)) (cs : List Value) (ps : List (Nat × Bool)) {r : List Value}, fillG cs ps ws = some r → r.length = cs.length
  | [], cs, ps, r, h => by rw [fillG_nil] at h; cases h; rfl
  | w :: ws, cs, [], r, h => by cases h
  | w :: ws, cs, p :: ps, r, h => by
    have e : fillG cs (p :: ps) (w :: ws) = match rdL w (limP p) with | some n => fillG (cs.set p.1 (valP p n)) ps ws | none => none := rfl
    rw [e] at h
    cases hr : rdL w (limP p) with
    | none => rw [hr] at h; cases h
    | some n => rw [hr] at h; rw [fill_len ws _ ps h, List.length_set]
theorem fill_one : ∀ (ws : List (List UInt8)) (cs : List Value) (ps : List (Nat × Bool)) {r : List Value}, (∀ v ∈ cs, v.oneCell' = true) → fillG cs ps ws = some r → ∀ v ∈ r, v.oneCell' = true
  | [], cs, ps, r, h1, h => by rw [fillG_nil] at h; cases h; exact h1
  | w :: ws, cs, [], r, h1, h => by cases h
  | w :: ws, cs, p :: ps, r, h1, h => by
    have e : fillG cs (p :: ps) (w :: ws) = match rdL w (limP p) with | some n => fillG (cs.set p.1 (valP p n)) ps ws | none => none := rfl
    rw [e] at h
    cases hr : rdL w (limP p) with
    | none => rw [hr] at h; cases h
    | some n =>
      rw [hr] at h
      refine fill_one ws _ ps (fun v hv => ?_) h
      rcases List.mem_or_eq_of_mem_set hv with hv | rfl
      · exact h1 v hv
      · unfold valP; split <;> rfl
theorem zk_one (k : Int) : ∀ v ∈ zk k, v.oneCell' = true := by
  have h0 : ∀ v ∈ zEv, v.oneCell' = true := by decide
  intro v hv
  rcases List.mem_or_eq_of_mem_set hv with hv | rfl
  · exact h0 v hv
  · rfl
/-- one word more -/
theorem fill_snoc {cs cs' : List Value} {ps : List (Nat × Bool)} {a : List (List UInt8)} {w : List UInt8} {p : Nat × Bool} (h : fillG cs ps a = some cs') (hp : ps[a.length]? = some p) : fillG cs ps (a ++ [w]) = (rdL w (limP p)).map fun n => cs'.set p.1 (valP p n) := by
  rw [fillG_app, h]
  show fillG cs' (ps.drop a.length) [w] = _
  have hlt := (List.getElem?_eq_some_iff.1 hp).1
  have hd : ps.drop a.length = p :: ps.drop (a.length + 1) := by
    rw [List.drop_eq_getElem_cons hlt, (List.getElem?_eq_some_iff.1 hp).2]
  rw [hd]
  have e : fillG cs' (p :: ps.drop (a.length + 1)) [w] = match rdL w (limP p) with | some n => fillG (cs'.set p.1 (valP p n)) (ps.drop (a.length + 1)) [] | none => none := rfl
  rw [e]
  cases rdL w (limP p) with
  | none => rfl
  | some n => exact fillG_nil _ _
theorem fill_none {cs : List Value} {ps : List (Nat × Bool)} {a b : List (List UInt8)} (h : fillG cs ps a = none) : fillG cs ps (a ++ b) = none := by
  rw [fillG_app, h]; rfl
theorem kind_nm {w : List UInt8} {k : Int} (h : 1 ≤ k ∧ k ≤ 6) (hw : nm k = w) : kindOf w = some k := by
  have h1 : k = 1 ∨ k = 2 ∨ k = 3 ∨ k = 4 ∨ k = 5 ∨ k = 6 := by omega
  subst hw
  rcases h1 with rfl | rfl | rfl | rfl | rfl | rfl <;> decide
theorem kind_none {w : List UInt8} (h : ∀ j : Int, 1 ≤ j → j ≤ 6 → nm j ≠ w) : kindOf w = none := by
  unfold kindOf
  rw [if_neg fun e => h 1 (by omega) (by omega) e.symm, if_neg fun e => h 2 (by omega) (by omega) e.symm, if_neg fun e => h 3 (by omega) (by omega) e.symm, if_neg fun e => h 4 (by omega) (by omega) e.symm, if_neg fun e => h 5 (by omega) (by omega) e.symm, if_neg fun e => h 6 (by omega) (by omega) e.symm]
end Go.Proofs.YtffmibmefmbdjaaDoor

/- script.line. -/
set_option linter.unusedVariables false
set_option linter.unusedSimpArgs false
namespace Go.Proofs.YtffmibmefmbdjaaDoor
open Go.RowKit
set_option maxRecDepth 20000
set_option pp.deepTerms false
set_option pp.deepTerms.threshold 4

abbrev blC (B : Nat) (q : Bool) : Chunk := (B, .cells (List.toArray [.bool q]) 4 (0, 0))
abbrev psC (B : Nat) (v : Value) : Chunk := (B, .cells (List.toArray [v]) 63 (0, 0))
abbrev inC35 (B : Nat) (i : Nat) : Chunk := (B, .cells (List.toArray [.int .i64 (i : Nat)]) 3 (0, 0))
theorem lsub_full : ∀ l : List Value, LSub l 0 l.length l
  | [] => .done
  | _ :: l => .take (lsub_full l)
theorem lsub15 {cs : List Value} (h : cs.length = 15) : LSub cs 0 15 cs := h ▸ lsub_full cs
theorem lseta_full : ∀ zs ws : List Value, zs.length = ws.length → LSetA zs 0 ws ws
  | [], [], _ => .done
  | _ :: zs, _ :: ws, h => .put (lseta_full zs ws (by simpa using h))
/-- what is held behind so many words -/
def LineI (b2 b3 b4 b5 b6 : Nat) (pre : List (Nat × List UInt8)) (l1 : List Chunk) : Prop :=
  (pre = [] ∧ l1 = [evC b2 zEv, blC b3 false, evC b4 zEv, psC b5 (.slice none 0 0), inC35 b6 0]) ∨
  (∃ w0 a k cs sv c1, pre = numb 0 (w0 :: a) ∧ (1 ≤ k ∧ k ≤ 6) ∧ nm k = w0 ∧ a.length ≤ (pts k).length ∧ fillG (zk k) (pts k) a = some cs ∧ OwnSl 70 2 sv (pts k).length (partsV b4 k) c1 ∧
    l1 = evC b2 zEv :: blC b3 false :: evC b4 cs :: psC b5 sv :: inC35 b6 a.length :: c1)
noncomputable def lineR (s : List UInt8) : Value := match evOf s with | some cs => .tuple #[.agg (List.toArray cs), .bool true] | none => .tuple #[.agg (List.toArray zEv), .bool false]
theorem lineR_none {s : List UInt8} (h : evOf s = none) : lineR s = .tuple #[.agg (List.toArray zEv), .bool false] := by unfold lineR; rw [h]
set_option maxHeartbeats 2000000 in
theorem lineS_any (s : List UInt8) (hs : s.length ≤ 100000) (l : List Chunk) (hG : GL l) : Fn Tryd.prog 19 [str s] l fun v l' => v = lineR s ∧ l' = l := by
  refine fn_of_body Tryd.func19 rfl rfl fun E => ?_
  simp only [argF, Tryd.ntmps19]
  refine gz ?_
  refine t_e e_alloc rfl rfl rfl ?_; rintro _ _ ⟨b2, _, rfl, rfl⟩
  refine gz ?_
  refine t_e e_alloc rfl rfl rfl ?_; rintro _ _ ⟨b3, _, rfl, rfl⟩
  refine gz ?_
  refine t_e e_alloc rfl rfl rfl ?_; rintro _ _ ⟨b4, _, rfl, rfl⟩
  refine gz ?_
  refine t_e e_alloc rfl rfl rfl ?_; rintro _ _ ⟨b5, _, rfl, rfl⟩
  refine gz ?_
  refine t_e e_alloc rfl rfl rfl ?_; rintro _ _ ⟨b6, _, rfl, rfl⟩
  refine gz ?_
  refine t_e (e_call0 rfl rfl (words_any s _)) rfl rfl rfl ?_
  rintro _ _ ⟨B, rfl, rfl⟩
  refine gz ?_
  refine c_rangeM (α := Nat × List UInt8) (ps := [19, 20]) (lb := [.pointer (some ⟨B, 0, none⟩)]) rfl (words_iter B s (by omega)) (fun _ => rfl) rfl
    (LineI b2 b3 b4 b5 b6) (fun c pre l1 => c = .ret ∧ evOf s = none ∧ l1 = [evC b2 zEv, blC b3 false])
    [evC b2 zEv, blC b3 false, evC b4 zEv, psC b5 (.slice none 0 0), inC35 b6 0] l (fun _ _ _ _ _ => trivial) (by exact zKeep) (.inl ⟨rfl, rfl⟩) ?_ ?_ ?_
  · rintro E r rec pre x l1 T ⟨fn, tmps, D, rfl⟩ hT hI hsp
    obtain ⟨a, w, bb, hL, rfl, rfl⟩ := numb_snoc hsp
    have hww : w.length ≤ 100000 := by
      have := splitL_words 32 s w (by rw [hL]; simp)
      omega
    simp only [putPs, wdV]
    rcases hI with ⟨hp, rfl⟩ | ⟨w0, a', k, cs, sv, c1, hp, hk, hnm, hle, hf, ho, rfl⟩
    · obtain rfl : a = [] := by
        have := congrArg List.length hp
        rw [numb_len] at this
        exact List.length_eq_zero_iff.1 this
      simp only [List.cons_append, List.nil_append]
      refine gz ?_
      refine p_begin (by exact zUpd) ?_
      refine gz ?_
      generalize hLO : Obj.loop _ = LO
      have hz0 : zEv = zk ((1 : Nat) - 1 : Int) := rfl
      refine k_loop (α := Nat) (fun j => [(2, .pointer (some ⟨b2, 0, none⟩)), (3, .pointer (some ⟨b3, 0, none⟩)), (4, .pointer (some ⟨b4, 0, none⟩)), (5, .pointer (some ⟨b5, 0, none⟩)), (6, .pointer (some ⟨b6, 0, none⟩)), (8, str w), (9, .int .i64 j)])
        (fun j => evC b2 zEv :: blC b3 false :: evC b4 (zk ((j : Int) - 1)) :: psC b5 (.slice none 0 0) :: inC35 b6 0 :: (r, LO) :: T) (fun j => 1 ≤ j ∧ j ≤ 7 ∧ ∀ i : Nat, 1 ≤ i → i < j → nm i ≠ w) (fun j => 7 - j) 1 ⟨by omega, by omega, fun i h1 h2 => by omega⟩ ⟨rfl, rfl, rfl, rfl, rfl, rfl, rfl, trivial⟩ .refl ?_
      rintro j ⟨hj1, hj7, hne⟩
      by_cases hj : j ≤ 6
      · refine gz ?_
        apply t_n
        · exact e_storeL rfl rfl rfl (by exact zMem) (show LSet (zk ((j : Int) - 1)) 0 (.int .i64 j) (zk j) from LSet.zero) (by exact zUpd)
        · rfl
        · rfl
        rintro _ _ ⟨rfl, rfl⟩
        refine gz ?_
        refine t_e (e_call0 rfl rfl (parts_any b4 (zk j) j _ rfl rfl (by exact zMem))) rfl rfl rfl ?_
        rintro _ _ ⟨sv, c1, rfl, ho, rfl⟩
        refine s_keep (Keep.of_perm (List.perm_append_comm_assoc c1 [evC b2 zEv, blC b3 false, evC b4 (zk j), psC b5 (.slice none 0 0), inC35 b6 0, (r, LO)] T)) ?_
        simp only [List.cons_append, List.nil_append]
        refine gz ?_
        by_cases hw : nm j = w
        · refine c_if_t rfl hw ?_
          refine gz ?_
          apply t_n
          · exact e_storeL rfl rfl ho.one (by exact zMem) .zero (by exact zUpd)
          · rfl
          · rfl
          rintro _ _ ⟨rfl, rfl⟩
          refine gz ?_
          subst hLO
          exact p_round (evC b2 zEv :: blC b3 false :: evC b4 (zk j) :: psC b5 sv :: inC35 b6 0 :: c1) (Keep.of_perm ((((((List.perm_middle.symm).cons _).cons _).cons _).cons _).cons _)) (.inr ⟨w, [], j, zk j, sv, c1, rfl, ⟨by omega, by omega⟩, hw, Nat.zero_le _, fillG_nil _ _, ho, rfl⟩)
        · refine c_if_f rfl hw ?_
          refine gz ?_
          have e : (((j + 1 : Nat) : Int) - 1) = j := by omega
          refine k_next (j + 1) ⟨by omega, by omega, fun i h1 h2 => ?_⟩ (by omega) ⟨rfl, rfl, rfl, rfl, rfl, rfl, rfl, trivial⟩ ?_
          · by_cases ei : i = j
            · subst ei; exact hw
            · exact hne i h1 (by omega)
          · rw [e]
            exact Keep.mid' (L1 := [_, _, _, _, _, _]) (Keep.dropL c1 .refl)
      · obtain rfl : j = 7 := by omega
        refine gz ?_
        subst hLO
        refine p_round_ret [evC b2 zEv, blC b3 false] (by exact zKeep) ⟨rfl, evOf_kind hL (kind_none fun i h1 h2 => ?_), rfl⟩
        have := hne i.toNat (by omega) (by omega)
        rwa [Int.toNat_of_nonneg (by omega)] at this
    · obtain ⟨a, rfl⟩ : ∃ a0, a = w0 :: a0 := by
        have := congrArg (List.map Prod.snd) hp
        rw [numb_snd, numb_snd] at this
        exact ⟨_, this⟩
      obtain rfl : a' = a := by
        have := congrArg (List.map Prod.snd) hp
        rw [numb_snd, numb_snd] at this
        exact (List.cons.inj this).2.symm
      have hkd := kind_nm hk hnm
      have hcl := fill_len _ _ _ hf
      have hcl : cs.length = 15 := hcl
      obtain ⟨_, ⟨rfl, h0, rfl⟩ | ⟨gb, cap, sp, rfl, rfl, hnc, hcm, hcx⟩⟩ := id ho
      · exact absurd h0 (by have h1 : k = 1 ∨ k = 2 ∨ k = 3 ∨ k = 4 ∨ k = 5 ∨ k = 6 := by omega
                            rcases h1 with h | h | h | h | h | h <;> rw [h] <;> decide)
      have hlen : (w0 :: a').length = a'.length + 1 := rfl
      rw [hlen]
      have hL' : splitL 32 s = w0 :: (a' ++ w :: bb) := hL
      have hal8 := pts_len k
      simp only [List.cons_append, List.nil_append]
      refine gz ?_
      refine p_begin (by exact zUpd) ?_
      refine gz ?_
      by_cases hgt : a'.length = (pts k).length
      · refine gz ?_
        refine p_round_ret [evC b2 zEv, blC b3 false] (by exact zKeep) ⟨rfl, evOf_len hL' hkd (by rw [List.length_append, List.length_cons]; omega), rfl⟩
      · obtain ⟨p, hp⟩ : ∃ p, (pts k)[a'.length]? = some p := ⟨_, List.getElem?_eq_getElem (by omega)⟩
        obtain ⟨q1, q2⟩ := flat_row (enc := ptrV b4) (k := 2) (fun x => by unfold ptrV; split <;> rfl) sp (pts k) a'.length p hp
        have hsn := fill_snoc (w := w) hf hp
        have hnone : rdL w (limP p) = none → evOf s = none := fun hr => by
          rw [hr] at hsn
          by_cases hll : (a' ++ w :: bb).length = (pts k).length
          · rw [evOf_fill hL' hkd hll, show a' ++ w :: bb = (a' ++ [w]) ++ bb by simp, fill_none hsn]
          · exact evOf_len hL' hkd hll
        have q3 : ((partsV b4 k ++ sp).drop (a'.length * 2)).take 2 = ptrV b4 p := q1
        have q4 : a'.length * 2 + 2 ≤ (partsV b4 k ++ sp).length := q2
        clear q1 q2
        rcases pts_mem (List.mem_of_getElem? hp) with ⟨hp2, hp1⟩ | ⟨hp2, hp1⟩
        · rw [show ptrV b4 p = [.pointer (some ⟨b4, p.1, none⟩), .pointer none] by unfold ptrV; rw [hp2]; rfl] at q3
          have hlim : limP p = 999999 := by unfold limP; rw [hp2]; rfl
          have hp15 : p.1 < 15 := by omega
          rw [hlim] at hnone hsn
          refine gz ?_
          refine t_q (q_loadA (n := 2) (off := a'.length * 2) (ptr_off rfl (by omega)) (by exact zMem) (by simpa using q4) (by rw [List.extract_toArray, List.extract_eq_take_drop, Nat.add_sub_cancel_left, q3])) rfl rfl rfl ?_
          refine t_e e_alloc rfl rfl rfl ?_; rintro _ _ ⟨b13, _, rfl, rfl⟩
          refine gz ?_
          refine t_e (e_call0 rfl rfl (number_any w 999999 hww (by omega) _ (hG.mono fun c hc => by (repeat apply List.mem_cons_of_mem); exact hT c hc))) rfl rfl rfl ?_
          rintro _ _ ⟨⟨n, hr, rfl⟩ | ⟨hr, x, hx, rfl⟩, rfl⟩
          · have hv : valP p n = .int .i64 (n : Nat) := by unfold valP; rw [hp2]; rfl
            have hr2 := rdL_some.1 hr
            rw [hr] at hsn
            refine gz ?_
            apply t_n
            · exact e_store rfl rfl rfl (by exact zUpd) (by simp; omega)
            · rfl
            · rfl
            rintro _ _ ⟨rfl, rfl⟩
            rw [List.setIfInBounds_toArray]
            refine gz ?_
            refine p_round (evC b2 zEv :: blC b3 false :: evC b4 (cs.set p.1 (valP p n)) :: psC b5 (.slice (some ⟨gb, 0, none⟩) (pts k).length cap) :: inC35 b6 (a' ++ [w]).length :: [_]) ?_ (.inr ⟨w0, a' ++ [w], k, _, _, _, ?_, hk, hnm, by rw [List.length_append]; simp; omega, hsn, ho, rfl⟩)
            · rw [hv, List.length_append]
              exact .drop .refl
            · show numb 0 (w0 :: a') ++ [((w0 :: a').length, w)] = numb 0 ((w0 :: a') ++ [w])
              rw [numb_app, Nat.zero_add]; rfl
          · refine gz ?_
            refine p_round_ret [evC b2 zEv, blC b3 false] (by exact zKeep) ⟨rfl, hnone hr, rfl⟩
        · rw [show ptrV b4 p = [.pointer none, .pointer (some ⟨b4, p.1, none⟩)] by unfold ptrV; rw [hp2]; rfl] at q3
          have hlim : limP p = 18446744073709551615 := by unfold limP; rw [hp2]; rfl
          have hp15 : p.1 < 15 := by omega
          rw [hlim] at hnone hsn
          refine gz ?_
          refine t_q (q_loadA (n := 2) (off := a'.length * 2) (ptr_off rfl (by omega)) (by exact zMem) (by simpa using q4) (by rw [List.extract_toArray, List.extract_eq_take_drop, Nat.add_sub_cancel_left, q3])) rfl rfl rfl ?_
          refine t_e e_alloc rfl rfl rfl ?_; rintro _ _ ⟨b13, _, rfl, rfl⟩
          refine gz ?_
          refine t_e (e_call0 rfl rfl (number_any w 18446744073709551615 hww (by omega) _ (hG.mono fun c hc => by (repeat apply List.mem_cons_of_mem); exact hT c hc))) rfl rfl rfl ?_
          rintro _ _ ⟨⟨n, hr, rfl⟩ | ⟨hr, x, hx, rfl⟩, rfl⟩
          · have hv : valP p n = .int .u64 (n : Nat) := by unfold valP; rw [hp2]; rfl
            have hr2 := rdL_some.1 hr
            rw [hr] at hsn
            refine gz ?_
            apply t_n
            · exact e_store rfl rfl rfl (by exact zUpd) (by simp; omega)
            · rfl
            · rfl
            rintro _ _ ⟨rfl, rfl⟩
            rw [List.setIfInBounds_toArray]
            refine gz ?_
            refine p_round (evC b2 zEv :: blC b3 false :: evC b4 (cs.set p.1 (valP p n)) :: psC b5 (.slice (some ⟨gb, 0, none⟩) (pts k).length cap) :: inC35 b6 (a' ++ [w]).length :: [_]) ?_ (.inr ⟨w0, a' ++ [w], k, _, _, _, ?_, hk, hnm, by rw [List.length_append]; simp; omega, hsn, ho, rfl⟩)
            · rw [hv, List.length_append]
              exact .drop .refl
            · show numb 0 (w0 :: a') ++ [((w0 :: a').length, w)] = numb 0 ((w0 :: a') ++ [w])
              rw [numb_app, Nat.zero_add]; rfl
          · refine gz ?_
            refine p_round_ret [evC b2 zEv, blC b3 false] (by exact zKeep) ⟨rfl, hnone hr, rfl⟩
  · rintro D xs l1 rfl hI
    rcases hI with ⟨hp, rfl⟩ | ⟨w0, a', k, cs, sv, c1, hp, hk, hnm, hle, hf, ho, rfl⟩
    · exfalso
      have := congrArg (List.map Prod.snd) hp
      rw [numb_snd] at this
      exact splitL_ne _ _ this
    · have hL : splitL 32 s = w0 :: a' := by
        have := congrArg (List.map Prod.snd) hp
        rwa [numb_snd, numb_snd] at this
      have hkd := kind_nm hk hnm
      have hcl : cs.length = 15 := fill_len _ _ _ hf
      obtain ⟨_, ⟨rfl, h0, rfl⟩ | ⟨gb, cap, sp, rfl, rfl, hnc, hcm, hcx⟩⟩ := id ho
      · exact absurd h0 (by have h1 : k = 1 ∨ k = 2 ∨ k = 3 ∨ k = 4 ∨ k = 5 ∨ k = 6 := by omega
                            rcases h1 with h | h | h | h | h | h <;> rw [h] <;> decide)
      simp only [List.cons_append, List.nil_append]
      by_cases hal : a'.length = (pts k).length
      · have hE := evOf_fill hL hkd hal
        rw [hf] at hE
        refine gz ?_
        refine t_q (q_loadL rfl (by exact zMem) (lsub15 hcl)) rfl rfl rfl ?_
        apply t_n
        · apply e_storeLA
          · rfl
          · rfl
          · exact hcl
          · exact fill_one _ _ _ (zk_one k) hf
          · exact zMem
          · exact lseta_full zEv cs hcl.symm
          · exact zUpd
        · rfl
        · rfl
        rintro _ _ ⟨rfl, rfl⟩
        refine gz ?_
        refine k_ret2 [D] (evC b2 cs :: blC b3 true :: l) rfl (by exact zKeep) (rs_cellA rfl (.head _) (lsub15 hcl) (by exact zRes)) (by exact zKeep) ⟨?_, rfl⟩
        unfold lineR; rw [hE]; rfl
      · refine gz ?_
        refine k_ret2 [D] (evC b2 zEv :: blC b3 false :: l) rfl (by exact zKeep) (rs_cellA rfl (.head _) (lsub15 rfl) (by exact zRes)) (by exact zKeep) ⟨?_, rfl⟩
        rw [lineR_none (evOf_len hL hkd hal)]; rfl
  · rintro D c pre l1 hsp ⟨rfl, hE, rfl⟩
    simp only [List.cons_append, List.nil_append]
    refine gz ?_
    refine k_ret2 [D] (evC b2 zEv :: blC b3 false :: l) rfl (by exact zKeep) (rs_cellA rfl (.head _) (lsub15 rfl) (by exact zRes)) (by exact zKeep) ⟨?_, rfl⟩
    rw [lineR_none hE]; rfl
end Go.Proofs.YtffmibmefmbdjaaDoor

/- script.Parse. -/
set_option linter.unusedVariables false
set_option linter.unusedSimpArgs false
namespace Go.Proofs.YtffmibmefmbdjaaDoor
open Go.RowKit
set_option maxRecDepth 20000
set_option pp.deepTerms false
set_option pp.deepTerms.threshold 4

def trimE : List (List UInt8) → List (List UInt8)
  | [] => []
  | [w] => if w = [] then [] else [w]
  | w :: x :: r => w :: trimE (x :: r)
/-- a text's lines -/
def linesL (s : List UInt8) : List (List UInt8) := trimE (splitL 10 s)
theorem linesL_nil : linesL [] = [] := rfl
theorem linesL_cons {s : List UInt8} (h : s ≠ []) : linesL s = (cutL 10 s).1 :: linesL (cutL 10 s).2.1 := by
  have h0 := splitL_cut 10 s
  unfold linesL
  cases hm : (cutL 10 s).2.2 with
  | true =>
    rw [h0, hm, if_pos rfl]
    cases hb : splitL 10 (cutL 10 s).2.1 with
    | nil => exact absurd hb (splitL_ne _ _)
    | cons x r => rfl
  | false =>
    rw [h0, hm]
    rcases cut_index 10 s with ⟨_, h2⟩ | ⟨i, _, _, h2⟩
    · rw [h2]
      show (if s = [] then [] else [s]) = s :: []
      rw [if_neg h]
    · rw [h2] at hm; cases hm
theorem cut_short {s : List UInt8} (h : s ≠ []) : (cutL 10 s).2.1.length < s.length := by
  obtain ⟨_, _, h3⟩ := cutL_len 10 s
  cases hm : (cutL 10 s).2.2 with
  | true => exact h3 hm
  | false =>
    rcases cut_index 10 s with ⟨_, h2⟩ | ⟨i, _, _, h2⟩
    · rw [h2]; exact List.length_pos_iff.2 h
    · rw [h2] at hm; cases hm
/-- the lines' events, or the number of the first that has none -/
noncomputable def goL : List (List UInt8) → Except Nat (List (List Value))
  | [] => .ok []
  | w :: r => match evOf w with
    | none => .error 1
    | some e => match goL r with
      | .ok es => .ok (e :: es)
      | .error n => .error (n + 1)
def addP (es : List (List Value)) : Except Nat (List (List Value)) → Except Nat (List (List Value))
  | .ok r => .ok (es ++ r)
  | .error n => .error (es.length + n)
theorem goL_step {w : List UInt8} {e : List Value} (h : evOf w = some e) (r : List (List UInt8)) (es : List (List Value)) : addP es (goL (w :: r)) = addP (es ++ [e]) (goL r) := by
  have h1 : goL (w :: r) = match evOf w with | none => .error 1 | some e => match goL r with | .ok es => .ok (e :: es) | .error n => .error (n + 1) := rfl
  rw [h1, h]
  cases goL r with
  | ok x => show Except.ok (es ++ e :: x) = Except.ok (es ++ [e] ++ x); rw [List.append_assoc]; rfl
  | error n => show Except.error (es.length + (n + 1)) = Except.error ((es ++ [e]).length + n); rw [List.length_append]; simp; omega
theorem goL_bad {w : List UInt8} (h : evOf w = none) (r : List (List UInt8)) (es : List (List Value)) : addP es (goL (w :: r)) = .error (es.length + 1) := by
  have h1 : goL (w :: r) = match evOf w with | none => .error 1 | some e => match goL r with | .ok es => .ok (e :: es) | .error n => .error (n + 1) := rfl
  rw [h1, h]; rfl
noncomputable def parseR (s : List UInt8) : List (List Value) × Int × Int :=
  if s.length > 65536 then ([], 0, 11) else match goL (linesL s) with
    | .ok es => (es, 0, 0)
    | .error n => ([], ((n : Nat) : Int), 5)
theorem parseR_ok {s : List UInt8} {es : List (List Value)} (h : ¬ s.length > 65536) (hg : goL (linesL s) = .ok es) : parseR s = (es, 0, 0) := by unfold parseR; rw [if_neg h, hg]
theorem parseR_bad {s : List UInt8} {n : Nat} (h : ¬ s.length > 65536) (hg : goL (linesL s) = .error n) : parseR s = ([], ((n : Nat) : Int), 5) := by unfold parseR; rw [if_neg h, hg]
def ParseQ (r : List (List Value) × Int × Int) (l : List Chunk) (v : Value) (l' : List Chunk) : Prop :=
  ∃ sv c1, v = .tuple #[sv, .int .i64 r.2.1, .int .i64 r.2.2] ∧ OwnSl 43 15 sv r.1.length r.1.flatten c1 ∧ l' = c1 ++ l
theorem isEv_zk {k : Int} : IsEv (zk k) := by
  refine ⟨rfl, fun o ho => ?_, fun o ho => ?_⟩
  · rcases ho with rfl | rfl | rfl | rfl | rfl | rfl <;> rfl
  · have h1 : o = 3 ∨ o = 4 ∨ o = 5 ∨ o = 6 ∨ o = 7 ∨ o = 8 ∨ o = 9 ∨ o = 10 ∨ o = 11 := by omega
    rcases h1 with rfl | rfl | rfl | rfl | rfl | rfl | rfl | rfl | rfl
    all_goals exact ⟨rfl, Int.le_refl 0, (by decide : (0 : Int) < 18446744073709551616)⟩
theorem fldI_set {cs : List Value} {o o' : Nat} {v : Value} : fldI (cs.set o v) o' = if o = o' ∧ o < cs.length then (match v with | .int _ x => x | _ => 0) else fldI cs o' := by
  unfold fldI
  rw [List.getElem?_set]
  by_cases h : o = o'
  · subst h
    by_cases h2 : o < cs.length
    · rw [if_pos rfl, if_pos h2, if_pos ⟨rfl, h2⟩]
      cases v <;> rfl
    · rw [if_pos rfl, if_neg h2, if_neg (fun h => h2 h.2), List.getElem?_eq_none (by omega)]
  · rw [if_neg h, if_neg (fun h2 => h h2.1)]
theorem isEv_set {cs : List Value} (h : IsEv cs) {p : Nat × Bool} {n : Nat} (hp : (p.2 = false ∧ (p.1 = 1 ∨ p.1 = 2 ∨ p.1 = 12 ∨ p.1 = 13 ∨ p.1 = 14)) ∨ (p.2 = true ∧ 3 ≤ p.1 ∧ p.1 ≤ 11)) (hn : n < 18446744073709551616) : IsEv (cs.set p.1 (valP p n)) := by
  have hl := h.len
  refine ⟨by rw [List.length_set]; exact h.len, fun o ho => ?_, fun o ho => ?_⟩
  · rw [fldI_set, List.getElem?_set]
    by_cases e : p.1 = o
    · have hp2 : p.2 = false := by
        rcases hp with h | h
        · exact h.1
        · omega
      rw [if_pos e, if_pos (by omega), if_pos ⟨e, by omega⟩]
      unfold valP; rw [hp2]; rfl
    · rw [if_neg e, if_neg (fun h => e h.1)]; exact h.num o ho
  · rw [fldI_set, List.getElem?_set]
    by_cases e : p.1 = o
    · have hp2 : p.2 = true := by
        rcases hp with h | h
        · omega
        · exact h.1
      rw [if_pos e, if_pos (by omega), if_pos ⟨e, by omega⟩]
      unfold valP; rw [hp2]
      exact ⟨rfl, by show (0 : Int) ≤ (n : Nat); omega, by show ((n : Nat) : Int) < 18446744073709551616; omega⟩
    · rw [if_neg e, if_neg (fun h => e h.1)]; exact h.word o ho
theorem fill_ev : ∀ (ws : List (List UInt8)) (cs : List Value) (ps : List (Nat × Bool)) {r : List Value}, IsEv cs → (∀ p ∈ ps, (p.2 = false ∧ (p.1 = 1 ∨ p.1 = 2 ∨ p.1 = 12 ∨ p.1 = 13 ∨ p.1 = 14)) ∨ (p.2 = true ∧ 3 ≤ p.1 ∧ p.1 ≤ 11)) → fillG cs ps ws = some r → IsEv r
  | [], cs, ps, r, h1, _, h => by rw [fillG_nil] at h; cases h; exact h1
  | w :: ws, cs, [], r, h1, _, h => by cases h
  | w :: ws, cs, p :: ps, r, h1, hp, h => by
    have e : fillG cs (p :: ps) (w :: ws) = match rdL w (limP p) with | some n => fillG (cs.set p.1 (valP p n)) ps ws | none => none := rfl
    rw [e] at h
    cases hr : rdL w (limP p) with
    | none => rw [hr] at h; cases h
    | some n =>
      rw [hr] at h
      exact fill_ev ws _ ps (isEv_set h1 (hp p (.head _)) (rdN_some (rdL_some.1 hr).1).1) (fun q hq => hp q (.tail _ hq)) h
theorem evOf_some {s : List UInt8} {cs : List Value} (h : evOf s = some cs) : ∃ w ws k, splitL 32 s = w :: ws ∧ kindOf w = some k ∧ ws.length = (pts k).length ∧ fillG (zk k) (pts k) ws = some cs := by
  cases hL : splitL 32 s with
  | nil => exact absurd hL (splitL_ne _ _)
  | cons w ws =>
    cases hk : kindOf w with
    | none => rw [evOf_kind hL hk] at h; cases h
    | some k =>
      by_cases hl : ws.length = (pts k).length
      · rw [evOf_fill hL hk hl] at h
        exact ⟨w, ws, k, rfl, hk, hl, h⟩
      · rw [evOf_len hL hk hl] at h; cases h
theorem evOf_ev {s : List UInt8} {cs : List Value} (h : evOf s = some cs) : IsEv cs ∧ ∀ v ∈ cs, v.oneCell' = true := by
  obtain ⟨w, ws, k, _, _, _, hf⟩ := evOf_some h
  exact ⟨fill_ev _ _ _ isEv_zk (fun p hp => pts_mem hp) hf, fill_one _ _ _ (zk_one k) hf⟩

set_option maxHeartbeats 1000000 in
theorem parse_any (s : List UInt8) (hs : s.length ≤ 1000000) (l : List Chunk) (hG : GL l) : Fn Tryd.prog 9 [str s] l (ParseQ (parseR s) l) := by
  refine fn_of_body Tryd.func9 rfl rfl fun E => ?_
  simp only [argF, Tryd.ntmps9]
  by_cases h6 : s.length > 65536
  · refine gz ?_
    refine k_ret [] rfl .refl (by exact zRes) ⟨.slice none 0 0, [], ?_, ?_, rfl⟩
    · unfold parseR; rw [if_pos h6]; rfl
    · unfold parseR; rw [if_pos h6]; exact OwnSl.nil _ _
  · refine gz ?_
    refine k_loop (α := List UInt8 × List (List Value) × Value × List Chunk) (fun x => [(0, str x.1), (5, x.2.2.1), (6, .int .i64 (x.2.1.length + 1 : Nat))]) (fun x => x.2.2.2 ++ l)
      (fun x => OwnSl 43 15 x.2.2.1 x.2.1.length x.2.1.flatten x.2.2.2 ∧ goL (linesL s) = addP x.2.1 (goL (linesL x.1)) ∧ x.2.1.length + x.1.length ≤ s.length) (fun x => x.1.length) (s, [], .slice none 0 0, []) ⟨OwnSl.nil _ _, by cases goL (linesL s) <;> simp [addP], by simp⟩ ⟨rfl, rfl, rfl, trivial⟩ .refl ?_
    rintro ⟨q, es, v, c1⟩ ⟨ho, hg, hb⟩
    simp only at ho hg hb ⊢
    by_cases hq : q = []
    · subst hq
      refine gz ?_
      have hg' : goL (linesL s) = .ok es := by rw [hg]; show Except.ok (es ++ []) = _; rw [List.append_nil]
      refine k_ret [] rfl .refl (by exact zRes) ⟨v, c1, ?_, ?_, rfl⟩
      · rw [parseR_ok h6 hg']; rfl
      · rw [parseR_ok h6 hg']; exact ho
    · have hlc := linesL_cons hq
      have hsh := cut_short hq
      obtain ⟨k1, k2, k3⟩ := cutL_len 10 q
      rw [hlc] at hg
      refine gz ?_
      refine t_e (e_call0 rfl rfl (cut_any q 10 (by omega) _)) rfl rfl rfl ?_
      rintro _ _ ⟨rfl, rfl⟩
      unfold cutV
      refine gz ?_
      refine t_e (e_call0 rfl rfl (lineS_any (cutL 10 q).1 (by omega) _ (hG.app c1))) rfl rfl rfl ?_
      rintro _ _ ⟨hv, rfl⟩
      cases hev : evOf (cutL 10 q).1 with
      | none =>
        rw [lineR_none hev] at hv
        subst hv
        refine gz ?_
        refine t_e e_alloc rfl rfl rfl ?_; rintro _ _ ⟨b10, _, rfl, rfl⟩
        refine gz ?_
        have hg' := hg.trans (goL_bad hev _ es)
        refine k_ret [] rfl (l' := l) (.drop (Keep.dropL c1 .refl)) (by exact zRes) ⟨.slice none 0 0, [], ?_, ?_, rfl⟩
        · rw [parseR_bad h6 hg']; rfl
        · rw [parseR_bad h6 hg']; exact OwnSl.nil _ _
      | some e =>
        have hv2 : lineR (cutL 10 q).1 = .tuple #[.agg (List.toArray e), .bool true] := by unfold lineR; rw [hev]
        rw [hv2] at hv
        subst hv
        obtain ⟨hE1, hE2⟩ := evOf_ev hev
        refine gz ?_
        refine t_e e_alloc rfl rfl rfl ?_; rintro _ _ ⟨b10, _, rfl, rfl⟩
        refine gz ?_
        apply t_n
        · apply e_storeLA
          · rfl
          · rfl
          · exact hE1.len
          · exact hE2
          · exact zMem
          · exact lseta_full zEv e hE1.len.symm
          · exact zUpd
        · rfl
        · rfl
        rintro _ _ ⟨rfl, rfl⟩
        refine gz ?_
        refine t_q (q_loadL rfl (by exact zMem) (lsub15 hE1.len)) rfl rfl rfl ?_
        refine t_e (e_litA (k := 15) (zs := zEv) rfl rfl hE1.len (by decide) (by decide)) rfl rfl rfl ?_
        rintro _ _ ⟨bl, hbl, rfl, rfl⟩
        refine t_e (e_appX (k := 15) (X := [_]) (cs := c1) (F := l) (n := es.length) (xs := es.flatten) (zs := zEv) rfl rfl rfl ho hE1.len hE2 (by omega) (by decide)) rfl rfl rfl ?_
        rintro v2 _ ⟨c2, ho2, rfl⟩
        refine gz ?_
        refine k_next ((cutL 10 q).2.1, es ++ [e], v2, c2) ⟨?_, ?_, ?_⟩ hsh ⟨rfl, rfl, ?_, trivial⟩ (.drop .refl)
        · simp only [List.length_append, List.length_cons, List.length_nil, List.flatten_append, List.flatten_cons, List.flatten_nil, List.append_nil]; exact ho2
        · exact hg.trans (goL_step hev _ es)
        · simp only [List.length_append, List.length_cons, List.length_nil]; omega
        · simp only [List.length_append, List.length_cons, List.length_nil]; rfl
end Go.Proofs.YtffmibmefmbdjaaDoor

/- strings.Builder, told of the blocks that are held. -/
set_option linter.unusedVariables false
set_option linter.unusedSimpArgs false
namespace Go.Proofs.YtffmibmefmbdjaaDoor
open Go.RowKit
set_option maxRecDepth 100000

theorem infoOf {P : Program} {t : TypeId} {z : Option Value} {n m : Nat} (h : (P.info? t).map (fun i => (i.zero, i.size, i.bytes)) = some (z, n, m)) : ∃ i, P.info? t = some i ∧ i.zero = z ∧ i.size = n ∧ i.bytes = m := by
  obtain ⟨i, h1, h2⟩ := Option.map_eq_some_iff.1 h
  exact ⟨i, h1, by cases h2; exact ⟨rfl, rfl, rfl⟩⟩
set_option maxHeartbeats 1000000 in
theorem copyW_used (b : Nat) (w : World) (h0 : w.cell? ⟨b, 0, none⟩ = some (.pointer (some ⟨b, 0, none⟩))) :
    Calls Tryd.prog 34 #[.pointer (some ⟨b, 0, none⟩)] w fun e w' => e = .returned (.tuple #[]) ∧ w' = w := by
  obtain ⟨j, hj, _⟩ := infoOf (show (Tryd.prog.info? 56).map (fun i => (i.zero, i.size, i.bytes)) = some (some (.agg #[.pointer none, .slice none 0 0]), 2, 32) by kernel_rfl)
  go_enter Tryd.func34, Tryd.ntmps34
  go_wp2
  rw [Lib.run_neq_ptr_same w _ Tryd.underlying53 hj]
  go_wp2
  go_end0
  exact ⟨rfl, rfl⟩
set_option maxHeartbeats 1000000 in
theorem copyW_fresh (b : Nat) (w : World) (h0 : w.cell? ⟨b, 0, none⟩ = some (.pointer none)) (hf : w.frozen? ⟨b, 0, none⟩ = false) (hs : w.shape? b = some (56, 2)) :
    Calls Tryd.prog 34 #[.pointer (some ⟨b, 0, none⟩)] w fun e w' => e = .returned (.tuple #[]) ∧ w' = w.setCell ⟨b, 0, none⟩ (.pointer (some ⟨b, 0, none⟩)) := by
  go_enter Tryd.func34, Tryd.ntmps34
  obtain ⟨j, hj, _, hjs, _⟩ := infoOf (show (Tryd.prog.info? 56).map (fun i => (i.zero, i.size, i.bytes)) = some (some (.agg #[.pointer none, .slice none 0 0]), 2, 32) by kernel_rfl)
  go_wp2
  rw [Lib.run_to_unsafe w ⟨b, 0, none⟩ Tryd.underlying53 Tryd.underlying94 hj (by rw [hjs]; decide) hs (Nat.zero_lt_succ 1)]
  simp only [Result.andThen]
  rw [Oper.upon_value]
  go_wp2
  rw [run_callFunc_extern Tryd.func41 (by kernel_rfl) (by kernel_rfl) (by kernel_rfl) (e := Extern.AbiNoEscape.same) (by kernel_rfl)]
  rw [Lib.run_noEscape]
  simp only [Result.andThen]
  rw [Oper.upon_value]
  go_wp2
  rw [Lib.run_from_unsafe w ⟨b, 0, none⟩ Tryd.underlying94 Tryd.underlying53 hj hs (by kernel_rfl)]
  simp only [Result.andThen]
  rw [Oper.upon_value]
  go_wp2
  go_end0
  exact ⟨rfl, rfl⟩
theorem copyW (B b : Nat) (bs : List Value) (w : World) (h : Lib.IsBuilder 56 5 B b bs w) :
    Calls Tryd.prog 34 #[.pointer (some ⟨b, 0, none⟩)] w fun e w' => e = .returned (.tuple #[]) ∧ Lib.BuilderAt 56 5 B b (.pointer (some ⟨b, 0, none⟩)) bs w' ∧ Below B w w' := by
  rcases h with h | h
  · refine (copyW_fresh b w h.cell0 h.frozen0 h.shape).mono ?_
    rintro e w' ⟨rfl, rfl⟩
    exact ⟨rfl, h.used _, (Below.refl B w).setCell (p := ⟨b, 0, none⟩) h.1 _⟩
  · refine (copyW_used b w h.cell0).mono ?_
    rintro e w' ⟨rfl, rfl⟩
    exact ⟨rfl, h, Below.refl B _⟩
set_option maxHeartbeats 2000000 in
theorem writeW (B b : Nat) (bs : List Value) (s : ByteArray) (w : World) (h : Lib.IsBuilder 56 5 B b bs w) (hlen : bs.length + s.size ≤ 140737488355328) (hBw : B ≤ w.heap.size) :
    Calls Tryd.prog 23 #[.pointer (some ⟨b, 0, none⟩), .string s] w fun e w' => e = .returned (.tuple #[.int .i64 s.size, .nilIface]) ∧ Lib.BuilderAt 56 5 B b (.pointer (some ⟨b, 0, none⟩)) (bs ++ Lib.strCells s) w' ∧ Below B w w' := by
  obtain ⟨i0, hi, hz0, hz1, hz2⟩ := infoOf (show (Tryd.prog.info? 5).map (fun i => (i.zero, i.size, i.bytes)) = some (some (.int .u8 0), 1, 1) by kernel_rfl)
  go_enter Tryd.func23, Tryd.ntmps23
  go_wp2_with (go_at_call 34; refine (copyW B b bs _ h).mono ?_)
  rintro e w1 ⟨rfl, h1, hb1⟩
  obtain ⟨hB, v, hbk, hown, hne⟩ := h1
  have c0 : w1.cell? ⟨b, 0, none⟩ = some (.pointer (some ⟨b, 0, none⟩)) := by rw [Lib.cell_of_heap hbk]; rfl
  have c1 : w1.cell? ⟨b, 1, none⟩ = some v := by rw [Lib.cell_of_heap hbk]; rfl
  go_wp2_with (at_builtin; refine Lib.wpList_append_own_string _ rfl _ _ 54 9 rfl B 5 i0 Tryd.underlying54 Tryd.underlying9 hi hz0 hz1 hz2 _ _ _ rfl hown s rfl ?c3 ?c4 ?c5 ?_)
  case c3 => unfold maxLen; omega
  case c4 => omega
  case c5 => have := hb1.size; omega
  intro v' w2 hown' hgrow _
  have hlt : b < w1.heap.size := (Array.getElem?_eq_some_iff.1 hbk).1
  have hb2 : w2.heap[b]? = some (.cells #[.pointer (some ⟨b, 0, none⟩), v] 56 (0, 0)) := by
    rw [hgrow.block b hlt (fun e => hne e.symm)]
    exact hbk
  have d0 : w2.cell? ⟨b, 0, none⟩ = some (.pointer (some ⟨b, 0, none⟩)) := by rw [Lib.cell_of_heap hb2]; rfl
  have d1 : w2.cell? ⟨b, 1, none⟩ = some v := by rw [Lib.cell_of_heap hb2]; rfl
  have f1 : w2.frozen? ⟨b, 1, none⟩ = false := Lib.frozen_of_heap hb2 1
  obtain ⟨ao, n', cap, rfl⟩ : ∃ ao n' cap, v' = .slice ao n' cap := by
    rcases hown'.2 with ⟨hv, _⟩ | ⟨g, cap, cur, hv, _⟩
    · exact ⟨_, _, _, hv⟩
    · exact ⟨_, _, _, hv⟩
  go_wp2
  go_ret2
  refine ⟨rfl, ?_, ?_⟩
  · exact Lib.BuilderAt.put (T := 56) (e := 5) hB hb2 (bs' := bs ++ Lib.strCells s) (by simpa [Lib.strCells_length] using hown') (by decide)
  · exact (hb1.grown hgrow (by have := hb1.size; omega) (fun k hk => (hown.lt k hk).1)).setCell (p := ⟨b, 1, none⟩) hB _
end Go.Proofs.YtffmibmefmbdjaaDoor

/- strings.Builder in blocks that are held. -/
set_option linter.unusedVariables false
set_option linter.unusedSimpArgs false
namespace Go.Proofs.YtffmibmefmbdjaaDoor
open Go.RowKit
set_option maxRecDepth 20000

/-- a builder of one's own, and what it holds -/
def IsBld (b : Nat) (l : List UInt8) (cs : List Chunk) : Prop :=
  ∃ p v c1, cs = (b, .cells #[p, v] 56 (0, 0)) :: c1 ∧ (p = .pointer none ∨ p = .pointer (some ⟨b, 0, none⟩)) ∧ OwnSl 5 1 v l.length (Lib.byteCells l) c1 ∧ ∀ c ∈ c1, b < c.1
theorem IsBld.is {E W : World} {b : Nat} {l : List UInt8} {cs F : List Chunk} (h : IsBld b l cs) (hs : Sat E (cs ++ F) W) : Lib.IsBuilder 56 5 b b (Lib.byteCells l) W := by
  obtain ⟨p, v, c1, rfl, hp, ho, hlt⟩ := h
  have hb := hs.has (b, _) (List.mem_append_left _ (.head _))
  have key : ∀ p, W.heap[b]? = some (.cells #[p, v] 56 (0, 0)) → Lib.BuilderAt 56 5 b b p (Lib.byteCells l) W := fun p hb => by
    refine ⟨Nat.le_refl _, v, hb, ?_, ?_⟩
    · rw [Lib.byteCells_length]
      refine ⟨ho.1, ?_⟩
      rcases ho.2 with ⟨rfl, h0, rfl⟩ | ⟨g, cap, sp, rfl, rfl, h1, h2, h3⟩
      · exact .inl ⟨rfl, h0⟩
      · refine .inr ⟨g, cap, List.toArray (Lib.byteCells l ++ sp), rfl, Nat.le_of_lt (hlt _ (.head _)), hs.has (g, _) (List.mem_append_left _ (.tail _ (.head _))), h1, h2, h3, ?_⟩
        have hl : (Lib.byteCells l).length = l.length * 1 := ho.1
        rw [← hl]
        show (Lib.byteCells l ++ sp).take _ = _
        simp
    · rcases ho.2 with ⟨rfl, h0, rfl⟩ | ⟨g, cap, sp, rfl, rfl, h1, h2, h3⟩
      · simp [Value.ownBlock]
      · have := hlt _ (.head _)
        simp only at this
        simp only [Value.ownBlock, ne_eq, Option.some.injEq]
        omega
  rcases hp with rfl | rfl
  · exact .inl (key _ hb)
  · exact .inr (key _ hb)
theorem IsBld.of {E W W' : World} {b : Nat} {l2 : List UInt8} {cs F : List Chunk} (hs : Sat E (cs ++ F) W) (hF : ∀ c ∈ F, c.1 < b) (hb : Below b W W') (h : Lib.BuilderAt 56 5 b b (.pointer (some ⟨b, 0, none⟩)) (Lib.byteCells l2) W') : ∃ cs', IsBld b l2 cs' ∧ Sat E (cs' ++ F) W' := by
  obtain ⟨_, v, hv, ho, hne⟩ := h
  rw [Lib.byteCells_length] at ho
  have hFs : ∀ c ∈ F, W'.heap[c.1]? = some c.2 := fun c hc => (hb.block _ (hF c hc)).trans (hs.has c (List.mem_append_right _ hc))
  have hFn : (F.map Prod.fst).Nodup := by
    have := hs.nodup
    rw [List.map_append, List.nodup_append] at this
    exact this.2.1
  have hFb : ∀ k, b ≤ k → k ∉ F.map Prod.fst := fun k hk hm => by
    obtain ⟨c, hc, e⟩ := List.mem_map.1 hm
    have := hF c hc
    omega
  rcases ho.2 with ⟨rfl, h0⟩ | ⟨g, cap, cur, rfl, hbg, hg, h1, h2, h3, h4⟩
  · refine ⟨[(b, _)], ⟨_, _, [], rfl, .inr rfl, ⟨ho.1, .inl ⟨rfl, h0, rfl⟩⟩, fun c hc => by cases hc⟩, ⟨hb.os.trans hs.os, hb.tape.trans hs.tape, hb.output.trans hs.output, ?_, ?_⟩⟩
    · show (b :: F.map Prod.fst).Nodup
      exact List.nodup_cons.2 ⟨hFb b (Nat.le_refl _), hFn⟩
    · intro c hc
      rcases List.mem_cons.1 hc with rfl | hc
      · exact hv
      · exact hFs c hc
  · have hgb : g ≠ b := fun e => hne (by simp [Value.ownBlock, e])
    have hcur : List.toArray (Lib.byteCells l2 ++ cur.toList.drop (l2.length * 1)) = cur := by
      rw [← h4, List.take_append_drop]
    refine ⟨[(b, _), (g, .cells cur 5 (0, 0))], ⟨_, _, [(g, .cells cur 5 (0, 0))], rfl, .inr rfl, ⟨ho.1, .inr ⟨g, cap, cur.toList.drop (l2.length * 1), rfl, by rw [hcur], h1, h2, ?_⟩⟩, fun c hc => ?_⟩, ⟨hb.os.trans hs.os, hb.tape.trans hs.tape, hb.output.trans hs.output, ?_, ?_⟩⟩
    · exact (congrArg Array.size hcur).trans h3
    · rw [List.mem_singleton.1 hc]; show b < g; omega
    · show (b :: g :: F.map Prod.fst).Nodup
      refine List.nodup_cons.2 ⟨fun hm => ?_, List.nodup_cons.2 ⟨hFb g hbg, hFn⟩⟩
      rcases List.mem_cons.1 hm with e | hm
      · exact hgb e.symm
      · exact hFb b (Nat.le_refl _) hm
    · intro c hc
      rcases List.mem_cons.1 hc with rfl | hc
      · exact hv
      · rcases List.mem_cons.1 hc with rfl | hc
        · exact hg
        · exact hFs c hc
theorem bldLen_any (b : Nat) (t : List UInt8) (cs F : List Chunk) (h : IsBld b t cs) : Fn Tryd.prog 22 [.pointer (some ⟨b, 0, none⟩)] (cs ++ F) fun v l' => v = .int .i64 (t.length : Nat) ∧ l' = cs ++ F := by
  refine ⟨fun E W hs => (Tryd.Builder_Len b b _ W (h.is hs)).mono ?_⟩
  rintro e w' ⟨rfl, rfl⟩
  rw [Lib.byteCells_length]
  exact ⟨_, _, rfl, ⟨rfl, rfl⟩, hs⟩
theorem bldWrite_any (b : Nat) (t s : List UInt8) (cs F : List Chunk) (h : IsBld b t cs) (hF : ∀ c ∈ F, c.1 < b) (hl : t.length + s.length ≤ 1000000) : Fn Tryd.prog 23 [.pointer (some ⟨b, 0, none⟩), str s] (cs ++ F) fun v l' => ∃ cs', IsBld b (t ++ s) cs' ∧ l' = cs' ++ F := by
  refine ⟨fun E W hs => (writeW b b _ ⟨List.toArray s⟩ W (h.is hs) (by rw [Lib.byteCells_length, ba_size]; omega) ?_).mono ?_⟩
  · obtain ⟨p, v, c1, rfl, _⟩ := h
    exact Nat.le_of_lt (hs.lt (c := (b, _)) (List.mem_append_left _ (.head _)))
  · rintro e w' ⟨rfl, h2, h3⟩
    rw [show Lib.strCells ⟨List.toArray s⟩ = Lib.byteCells s from rfl, ← Lib.byteCells_append] at h2
    obtain ⟨cs', h4, h5⟩ := IsBld.of hs hF h3 h2
    exact ⟨_, _, rfl, ⟨cs', h4, rfl⟩, h5⟩
theorem bldString_any (b : Nat) (t : List UInt8) (cs F : List Chunk) (h : IsBld b t cs) (hF : ∀ c ∈ F, c.1 < b) : Fn Tryd.prog 24 [.pointer (some ⟨b, 0, none⟩)] (cs ++ F) fun v l' => v = str t ∧ l' = F := by
  refine ⟨fun E W hs => (Tryd.Builder_String_any b b t W (h.is hs) ?_).mono ?_⟩
  · obtain ⟨p, v, c1, rfl, _⟩ := h
    exact Nat.le_of_lt (hs.lt (c := (b, _)) (List.mem_append_left _ (.head _)))
  · rintro e w' ⟨rfl, h3⟩
    refine ⟨_, F, rfl, ⟨rfl, rfl⟩, ⟨h3.os.trans hs.os, h3.tape.trans hs.tape, h3.output.trans hs.output, ?_, fun c hc => (h3.block _ (hF c hc)).trans (hs.has c (List.mem_append_right _ hc))⟩⟩
    have := hs.nodup
    rw [List.map_append, List.nodup_append] at this
    exact this.2.1
section
variable {P : Program} {ro : Option Nat} {N : Nat} {fr : Fr} {l : List Chunk} {d : Option Nat} {ty : TypeId} {pos : String} {aft : Array Edge} {g : Option (Nat × Bool)} {t : TypeId}
theorem e_allocLt {zs : List Value} [c : ZV P t zs] : OpE P ro N fr l ⟨d, .alloc t, ty, pos, aft, g⟩ (fun v l' => ∃ b, (∀ c, c ∈ l → c.1 < b) ∧ v = .pointer (some ⟨b, 0, none⟩) ∧ l' = (b, .cells zs.toArray t (0, 0)) :: l) := by
  refine ⟨rfl, fun E a W hf hs => ?_⟩
  obtain ⟨i, zv, h1, h2, h3⟩ := zvV_spec c.out
  have hex : (execOp a.eval ⟨d, .alloc t, ty, pos, aft, g⟩).run P W = .ok (.value (.pointer (some ⟨W.heap.size, 0, none⟩))) (W.alloc (.cells zv.cells t)) := by
    simp [execOp, Instr.alloc, zeroValue, newVar, newRow, typeInfo, h1, h2]
  unfold OpVal
  rw [hex]
  refine ⟨_, ⟨W.heap.size, fun c hc => hs.lt hc, rfl, rfl⟩, ?_⟩
  have := hs.alloc (.cells zv.cells t)
  rw [show zs.toArray = zv.cells by rw [← h3]]
  exact this
end
end Go.Proofs.YtffmibmefmbdjaaDoor

/- From a contract on all blocks to the form that a statement's last step wants. -/
set_option linter.unusedVariables false
set_option linter.unusedSimpArgs false
namespace Go.Proofs.YtffmibmefmbdjaaDoor
open Go.RowKit

/-- a list of numbers that came in -/
def InInts (l : List Chunk) (a : Option Addr) (n : Nat) (g : Nat → Int) : Prop :=
  0 < n → ∃ bB off cs t fz, a = some ⟨bB, off, none⟩ ∧ (bB, Obj.cells cs t fz) ∈ l ∧ ∀ i, i < n → cs[off + i * 1]? = some (.int .i64 (g i))

/-- a list of acts that came in -/
def InActs (l : List Chunk) (a : Option Addr) (n : Nat) (D A B : Nat → Int) : Prop :=
  0 < n → ∃ bB off cs t fz, a = some ⟨bB, off, none⟩ ∧ (bB, Obj.cells cs t fz) ∈ l ∧ ∀ i, i < n → off + i * 3 + 3 ≤ cs.size ∧ cs.extract (off + i * 3) (off + i * 3 + 3) = List.toArray [.int .i64 (D i), .int .i64 (A i), .int .i64 (B i)]

def allOf (W : World) : List Chunk := W.heap.toList.zipIdx.map fun x => (x.2, x.1)
theorem allOf_mem (W : World) (k : Nat) (o : Obj) : (k, o) ∈ allOf W ↔ W.heap[k]? = some o := by
  unfold allOf
  rw [List.mem_map]
  constructor
  · rintro ⟨⟨o', k'⟩, h, e⟩
    cases e
    have := List.mem_zipIdx_iff_getElem?.1 h
    simpa using this
  · intro h
    exact ⟨(o, k), List.mem_zipIdx_iff_getElem?.2 (by simpa using h), rfl⟩
theorem sat_all (W : World) : Sat W (allOf W) W := by
  refine ⟨rfl, rfl, rfl, ?_, fun c hc => (allOf_mem W c.1 c.2).1 hc⟩
  unfold allOf
  rw [List.map_map]
  have : (Prod.fst ∘ fun x : Obj × Nat => (x.2, x.1)) = Prod.snd := rfl
  rw [this, List.zipIdx_map_snd]
  exact List.nodup_range'
theorem law_walk {P : Program} {f : FuncId} {args : List Value} {W : World} (h : Fn P f args (allOf W) fun v l' => v = .bool true ∧ ∃ X, l' = X ++ allOf W) :
    Calls P f args.toArray W fun e W' => e = .returned (.bool true) ∧ Below W.heap.size W W' := by
  refine (h.run W W (sat_all W)).mono ?_
  rintro e W' ⟨v, l', rfl, ⟨rfl, X, rfl⟩, hs⟩
  have hb : ∀ k, k < W.heap.size → W'.heap[k]? = W.heap[k]? := fun k hk => by
    rw [Array.getElem?_eq_getElem hk]
    exact hs.has (k, W.heap[k]) (List.mem_append_right _ ((allOf_mem W k _).2 (Array.getElem?_eq_getElem hk)))
  refine ⟨rfl, ⟨hs.os, hs.tape, hs.output, ?_, hb⟩⟩
  by_cases h0 : W.heap.size = 0
  · omega
  · have h1 := hb (W.heap.size - 1) (by omega)
    rw [Array.getElem?_eq_getElem (xs := W.heap) (by omega)] at h1
    have := (Array.getElem?_eq_some_iff.1 h1).1
    omega
theorem rows_ints {W : World} {a : Option Addr} {n cap : Nat} {rows : List (List Value)} (h : IsRows [some .i64] W a n cap rows) : ∃ g, InInts (allOf W) a n g := by
  have hx : ∀ i, i < n → ∃ x : Int, rows[i]?.getD [] = [.int .i64 x] := fun i hi => by
    have hlt : i < rows.length := by rw [h.size]; exact hi
    obtain ⟨c, r, e1, ⟨x, rfl, _⟩, e2⟩ := h.all rows[i] (List.getElem_mem hlt)
    refine ⟨x, ?_⟩
    rw [List.getElem?_eq_getElem hlt, Option.getD_some, e1, show r = [] from e2]
  refine ⟨fun i => if hi : i < n then Classical.choose (hx i hi) else 0, fun h0 => ?_⟩
  obtain ⟨b, off, rfl, hb, hcell⟩ := h.at_ h0
  have c0 := hcell 0 0 h0 (by simp)
  unfold World.cell? at c0
  split at c0
  · rename_i cs t fz hob
    refine ⟨b, off, cs, t, fz, rfl, (allOf_mem W b _).2 hob, fun i hi => ?_⟩
    have ci := hcell i 0 hi (by simp)
    have hob' : W.heap[b]? = some (.cells cs t fz) := hob
    rw [blk_cell hob', Classical.choose_spec (hx i hi)] at ci
    show cs[off + i * 1]? = some (.int .i64 (if hi : i < n then Classical.choose (hx i hi) else 0))
    rw [dif_pos hi]
    simpa using ci
  · have := hx 0 h0
    obtain ⟨x, hx0⟩ := this
    rw [hx0] at c0
    cases c0
theorem rows_acts {W : World} {a : Option Addr} {n cap : Nat} {rows : List (List Value)} (h : IsRows [some .i64, some .i64, some .i64] W a n cap rows) : ∃ D A B, InActs (allOf W) a n D A B := by
  have hx : ∀ i, i < n → ∃ x : Int × Int × Int, rows[i]?.getD [] = [.int .i64 x.1, .int .i64 x.2.1, .int .i64 x.2.2] := fun i hi => by
    have hlt : i < rows.length := by rw [h.size]; exact hi
    obtain ⟨c, r, e1, ⟨x, rfl, _⟩, c2, r2, e2, ⟨y, rfl, _⟩, c3, r3, e3, ⟨z, rfl, _⟩, e4⟩ := h.all rows[i] (List.getElem_mem hlt)
    refine ⟨(x, y, z), ?_⟩
    rw [List.getElem?_eq_getElem hlt, Option.getD_some, e1, e2, e3, show r3 = [] from e4]
  obtain ⟨g, hg⟩ : ∃ g : Nat → Int × Int × Int, ∀ i, i < n → rows[i]?.getD [] = [.int .i64 (g i).1, .int .i64 (g i).2.1, .int .i64 (g i).2.2] :=
    ⟨fun i => if hi : i < n then Classical.choose (hx i hi) else (0, 0, 0), fun i hi => by dsimp only; rw [dif_pos hi]; exact Classical.choose_spec (hx i hi)⟩
  refine ⟨fun i => (g i).1, fun i => (g i).2.1, fun i => (g i).2.2, fun h0 => ?_⟩
  obtain ⟨b, off, rfl, hb, hcell⟩ := h.at_ h0
  have c0 := hcell 0 0 h0 (by simp)
  unfold World.cell? at c0
  split at c0
  · rename_i cs t fz hob
    have hob' : W.heap[b]? = some (.cells cs t fz) := hob
    refine ⟨b, off, cs, t, fz, rfl, (allOf_mem W b _).2 hob', fun i hi => ?_⟩
    have c1 := hcell i 0 hi (by simp)
    have c2 := hcell i 1 hi (by simp)
    have c3 := hcell i 2 hi (by simp)
    rw [blk_cell hob', hg i hi] at c1 c2 c3
    simp only [List.length_cons, List.length_nil, Nat.reduceAdd, Nat.add_zero, List.getElem?_cons_zero, List.getElem?_cons_succ] at c1 c2 c3
    have hlt := (Array.getElem?_eq_some_iff.1 c3).1
    refine ⟨by omega, ?_⟩
    apply Array.ext_getElem?
    intro j
    rw [Array.getElem?_extract]
    by_cases hj : j < 3
    · rw [if_pos (by omega)]
      match j, hj with
      | 0, _ => simpa using c1
      | 1, _ => simpa using c2
      | 2, _ => simpa using c3
    · rw [if_neg (by omega)]
      simp; omega
  · obtain ⟨x, hx0⟩ := hx 0 h0
    rw [hx0] at c0
    cases c0
end Go.Proofs.YtffmibmefmbdjaaDoor

/- Rows of any flat struct that came in, as blocks. -/
set_option linter.unusedVariables false
set_option linter.unusedSimpArgs false
namespace Go.Proofs.YtffmibmefmbdjaaDoor
open Go.RowKit

def InRows (l : List Chunk) (a : Option Addr) (n k : Nat) (rows : List (List Value)) : Prop :=
  0 < n → ∃ bB off cs t fz, a = some ⟨bB, off, none⟩ ∧ (bB, Obj.cells cs t fz) ∈ l ∧ ∀ i row, rows[i]? = some row → off + i * k + k ≤ cs.size ∧ cs.extract (off + i * k) (off + i * k + k) = List.toArray row ∧ ∀ j v, row[j]? = some v → cs[off + i * k + j]? = some v
theorem rows_in {W : World} {a : Option Addr} {n cap : Nat} {rows : List (List Value)} {ks : List (Option IntKind)} (h : IsRows ks W a n cap rows) (hk : 0 < ks.length) : InRows (allOf W) a n ks.length rows := by
  intro h0
  obtain ⟨b, off, rfl, hb, hcell⟩ := h.at_ h0
  have hr0 : ∃ r0, rows[0]? = some r0 := ⟨_, List.getElem?_eq_getElem (by rw [h.size]; exact h0)⟩
  obtain ⟨r0, hr0⟩ := hr0
  have c0 := hcell 0 0 h0 hk
  rw [hr0, Option.getD_some] at c0
  have hl0 := (h.all r0 (List.mem_of_getElem? hr0)).len
  have e0 : r0[0]? = some (r0[0]'(by omega)) := List.getElem?_eq_getElem (by omega)
  unfold World.cell? at c0
  split at c0
  · rename_i cs t fz hob
    have hob' : W.heap[b]? = some (.cells cs t fz) := hob
    refine ⟨b, off, cs, t, fz, rfl, (allOf_mem W b _).2 hob', fun i row hrow => ?_⟩
    have hi : i < n := by have := (List.getElem?_eq_some_iff.1 hrow).1; rw [h.size] at this; exact this
    have hl := (h.all row (List.mem_of_getElem? hrow)).len
    have hc : ∀ j, j < ks.length → cs[off + i * ks.length + j]? = row[j]? := fun j hj => by
      have := hcell i j hi hj
      rw [blk_cell hob', hrow, Option.getD_some] at this
      exact this
    have hlast := hc (ks.length - 1) (by omega)
    rw [List.getElem?_eq_getElem (show ks.length - 1 < row.length by omega)] at hlast
    have hlt := (Array.getElem?_eq_some_iff.1 hlast).1
    refine ⟨by omega, ?_, fun j v hv => ?_⟩
    · apply Array.ext_getElem?
      intro j
      rw [Array.getElem?_extract]
      by_cases hj : j < ks.length
      · rw [if_pos (by omega), hc j hj, List.getElem?_toArray]
      · rw [if_neg (by omega), List.getElem?_toArray, List.getElem?_eq_none (by omega)]
    · have hj := (List.getElem?_eq_some_iff.1 hv).1
      rw [hc j (by omega)]; exact hv
  · rw [e0] at c0
    cases c0
end Go.Proofs.YtffmibmefmbdjaaDoor

/- script.Print. -/
set_option linter.unusedVariables false
set_option linter.unusedSimpArgs false
namespace Go.Proofs.YtffmibmefmbdjaaDoor
open Go.RowKit
set_option maxRecDepth 20000
set_option pp.deepTerms false
set_option pp.deepTerms.threshold 4

theorem lineGo_len {cs : List Value} (hc : IsEv cs) : ∀ (ps : List (Nat × Bool)) (s : List UInt8), (∀ p ∈ ps, (p.2 = false ∧ (p.1 = 1 ∨ p.1 = 2 ∨ p.1 = 12 ∨ p.1 = 13 ∨ p.1 = 14)) ∨ (p.2 = true ∧ 3 ≤ p.1 ∧ p.1 ≤ 11)) → (lineGo cs s ps).1.length ≤ s.length + 21 * ps.length
  | [], s, _ => by show s.length ≤ _; omega
  | p :: ps, s, hp => by
    have e : lineGo cs s (p :: ps) = if p.2 = false ∧ ¬ (0 ≤ fldI cs p.1 ∧ fldI cs p.1 ≤ 999999) then ([], 3) else lineGo cs (s ++ (32 :: Lib.decDigits (fldI cs p.1).toNat)) ps := rfl
    rw [e]
    by_cases h : p.2 = false ∧ ¬ (0 ≤ fldI cs p.1 ∧ fldI cs p.1 ≤ 999999)
    · rw [if_pos h]; simp
    · rw [if_neg h]
      have h1 := lineGo_len hc ps (s ++ (32 :: Lib.decDigits (fldI cs p.1).toNat)) (fun q hq => hp q (.tail _ hq))
      have h2 : (fldI cs p.1).toNat < 18446744073709551616 := by
        rcases hp p (.head _) with ⟨h3, _⟩ | ⟨h3, h4⟩
        · have : 0 ≤ fldI cs p.1 ∧ fldI cs p.1 ≤ 999999 := Decidable.byContradiction fun h5 => h ⟨h3, h5⟩
          omega
        · have := (hc.word p.1 h4).2; omega
      have h3 := dec_len _ h2
      rw [List.length_append, List.length_cons] at h1
      rw [List.length_cons]
      omega
theorem lineC_len {cs : List Value} (hc : IsEv cs) : (lineC cs).1.length ≤ 176 := by
  unfold lineC
  split
  · have h1 := lineGo_len hc (pts (fldI cs 0)) (nm (fldI cs 0)) (fun p h => pts_mem h)
    have h2 := nm_len (fldI cs 0)
    have h3 := pts_len (fldI cs 0)
    omega
  · simp
def lnOf (e : List Value) : List UInt8 := (lineC e).1 ++ [10]
def prFirst : List (List Value) → Int
  | [] => 0
  | e :: r => if (lineC e).2 ≠ 0 then (lineC e).2 else prFirst r
def txt (es : List (List Value)) : List UInt8 := es.flatMap lnOf
/-- events' text, or the error -/
def printR (es : List (List Value)) : List UInt8 × Int := if prFirst es ≠ 0 then ([], prFirst es) else if (txt es).length > 65536 then ([], 11) else (txt es, 0)
theorem prFirst_at {es : List (List Value)} {i : Nat} {e : List Value} (he : es[i]? = some e) (hn : (lineC e).2 ≠ 0) (h : ∀ j, j < i → ∀ x, es[j]? = some x → (lineC x).2 = 0) : prFirst es = (lineC e).2 := by
  induction es generalizing i with
  | nil => simp at he
  | cons x r ih =>
    cases i with
    | zero =>
      simp only [List.getElem?_cons_zero, Option.some.injEq] at he
      subst he
      exact if_pos hn
    | succ i =>
      have h0 := h 0 (by omega) x rfl
      show (if (lineC x).2 ≠ 0 then (lineC x).2 else prFirst r) = _
      rw [if_neg (by simpa using h0)]
      exact ih (by simpa using he) fun j hj y hy => h (j + 1) (by omega) y (by simpa using hy)
theorem prFirst_no {es : List (List Value)} (h : ∀ (j : Nat) (x : List Value), es[j]? = some x → (lineC x).2 = 0) : prFirst es = 0 := by
  induction es with
  | nil => rfl
  | cons x r ih =>
    have h0 := h 0 x rfl
    show (if (lineC x).2 ≠ 0 then (lineC x).2 else prFirst r) = _
    rw [if_neg (by simpa using h0)]
    exact ih fun j y hy => h (j + 1) y (by simpa using hy)
theorem txt_take {es : List (List Value)} {i : Nat} {e : List Value} (he : es[i]? = some e) : txt (es.take (i + 1)) = txt (es.take i) ++ lnOf e := by
  unfold txt
  rw [List.take_add_one, he, List.flatMap_append]
  simp
theorem txt_le (es : List (List Value)) (i : Nat) : (txt (es.take i)).length ≤ (txt es).length := by
  have : txt es = txt (es.take i) ++ txt (es.drop i) := by unfold txt; rw [← List.flatMap_append, List.take_append_drop]
  rw [this, List.length_append]; omega
set_option maxHeartbeats 1000000 in
theorem print_any (a : Option Addr) (cap : Nat) (es : List (List Value)) (hes : ∀ e ∈ es, IsEv e) (h1s : ∀ e ∈ es, ∀ v ∈ e, v.oneCell' = true) (hn : es.length ≤ 1000000) (l : List Chunk) (hG : GL l) (hR : InRows l a es.length 15 es) :
    Fn Tryd.prog 14 [.slice a es.length cap] l fun v l' => v = lnV (printR es) ∧ l' = l := by
  refine fn_of_body Tryd.func14 rfl rfl fun E => ?_
  simp only [argF, Tryd.ntmps14]
  refine gz ?_
  refine t_e e_allocLt rfl rfl rfl ?_
  rintro _ _ ⟨bB, hB, rfl, rfl⟩
  refine gz ?_
  refine k_loop (α := Nat × Bool × List UInt8 × List Chunk) (fun x => [(4, .pointer (some ⟨bB, 0, none⟩)), (5, .bool x.2.1), (10, .slice a es.length cap), (11, .int .i64 es.length), (12, .int .i64 x.1)]) (fun x => x.2.2.2 ++ l)
    (fun x => x.1 ≤ es.length ∧ IsBld bB x.2.2.1 x.2.2.2 ∧ x.2.2.1.length ≤ 65536 ∧ (∀ j, j < x.1 → ∀ y, es[j]? = some y → (lineC y).2 = 0) ∧ ((x.2.1 = false ∧ x.2.2.1 = txt (es.take x.1)) ∨ (x.2.1 = true ∧ 65536 < (txt (es.take x.1)).length))) (fun x => es.length - x.1)
    (0, false, [], [(bB, .cells (List.toArray [.pointer none, .slice none 0 0]) 56 (0, 0))]) ⟨by omega, ⟨_, _, [], rfl, .inl rfl, OwnSl.nil _ _, fun c hc => by cases hc⟩, by simp, fun j hj => by simp at hj, .inl ⟨rfl, rfl⟩⟩ ⟨rfl, rfl, rfl, rfl, rfl, trivial⟩ .refl ?_
  rintro ⟨i, lg, t, cs⟩ ⟨hi, hb, htl, hj, hst⟩
  simp only at hi hb htl hj hst ⊢
  by_cases hlt : i < es.length
  · obtain ⟨e, he⟩ : ∃ e, es[i]? = some e := ⟨_, List.getElem?_eq_getElem hlt⟩
    have hem := List.mem_of_getElem? he
    have hE := hes e hem
    have h1 := h1s e hem
    obtain ⟨bE, off, ec, et, fz, rfl, hm, hrow⟩ := hR (by omega)
    obtain ⟨r1, r2, _⟩ := hrow i e he
    have hll := lineC_len hE
    have htx := txt_take he
    refine gz ?_
    refine t_q (q_loadA (n := 15) rfl (List.mem_append_right _ hm) r1 r2) rfl rfl rfl ?_
    refine t_e e_alloc rfl rfl rfl ?_; rintro _ _ ⟨b7, _, rfl, rfl⟩
    apply t_n
    · apply e_storeLA
      · rfl
      · rfl
      · exact hE.len
      · exact h1
      · exact zMem
      · exact lseta_full zEv e hE.len.symm
      · exact zUpd
    · rfl
    · rfl
    rintro _ _ ⟨rfl, rfl⟩
    refine gz ?_
    refine t_q (q_loadL rfl (by exact zMem) (lsub15 hE.len)) rfl rfl rfl ?_
    refine t_e (e_call0 rfl rfl (line_any e hE _ ((hG.app cs).cons _))) rfl rfl rfl ?_
    rintro _ _ ⟨rfl, rfl⟩
    unfold lnV
    refine gz ?_
    by_cases hc : (lineC e).2 = 0
    · refine gz ?_
      refine s_keep (.drop .refl) ?_
      refine t_e (e_call0 rfl rfl (bldLen_any bB t cs l hb)) rfl rfl rfl ?_
      rintro _ _ ⟨rfl, rfl⟩
      refine gz ?_
      have hj' : ∀ j, j < i + 1 → ∀ y, es[j]? = some y → (lineC y).2 = 0 := fun j hjk y hy => by
        by_cases ej : j = i
        · subst ej; rw [he] at hy; cases hy; exact hc
        · exact hj j (by omega) y hy
      have hln : (lnOf e).length = (lineC e).1.length + 1 := by unfold lnOf; simp
      by_cases hov : t.length + (lineC e).1.length + 1 > 65536
      · refine gz ?_
        refine k_next (i + 1, true, t, cs) ⟨by omega, hb, htl, hj', .inr ⟨rfl, ?_⟩⟩ (by simp only; omega) ⟨rfl, rfl, rfl, rfl, rfl, trivial⟩ .refl
        simp only
        rw [htx, List.length_append, hln]
        rcases hst with ⟨_, rfl⟩ | ⟨_, h⟩ <;> omega
      · refine gz ?_
        refine t_e (e_call0 rfl rfl (bldWrite_any bB t ((lineC e).1 ++ [10]) cs l hb hB (by simp; omega))) rfl rfl rfl ?_
        rintro _ _ ⟨cs', hb', rfl⟩
        refine gz ?_
        refine k_next (i + 1, lg, t ++ ((lineC e).1 ++ [10]), cs') ⟨by omega, hb', by simp; omega, hj', ?_⟩ (by simp only; omega) ⟨rfl, rfl, rfl, rfl, rfl, trivial⟩ .refl
        simp only
        rw [htx]
        rcases hst with ⟨h2, rfl⟩ | ⟨h2, h⟩
        · exact .inl ⟨h2, rfl⟩
        · exact .inr ⟨h2, by rw [List.length_append]; omega⟩
    · refine gz ?_
      refine k_ret [] rfl (l' := l) (.drop (Keep.dropL cs .refl)) (by exact zRes) ⟨?_, rfl⟩
      unfold printR
      rw [prFirst_at he hc hj, if_pos hc]
      rfl
  · obtain rfl : i = es.length := by omega
    have hpf : prFirst es = 0 := prFirst_no fun j x hx => hj j (List.getElem?_eq_some_iff.1 hx).1 x hx
    rw [List.take_length] at hst
    rcases hst with ⟨rfl, rfl⟩ | ⟨rfl, h⟩
    · refine gz ?_
      refine t_e (e_call0 rfl rfl (bldString_any bB _ cs l hb hB)) rfl rfl rfl ?_
      rintro _ _ ⟨rfl, rfl⟩
      refine gz ?_
      refine k_ret [] rfl .refl (by exact zRes) ⟨?_, rfl⟩
      unfold printR
      rw [hpf, if_neg (by simp), if_neg (by omega)]; rfl
    · refine gz ?_
      refine k_ret [] rfl (l' := l) (Keep.dropL cs .refl) (by exact zRes) ⟨?_, rfl⟩
      unfold printR
      rw [hpf, if_neg (by simp), if_pos h]; rfl
end Go.Proofs.YtffmibmefmbdjaaDoor

/- Lines and events: plain laws of reading what was printed, and printing what was read. -/
set_option linter.unusedVariables false
set_option linter.unusedSimpArgs false
namespace Go.Proofs.YtffmibmefmbdjaaDoor
open Go.RowKit

theorem fldI_set_ne {cs : List Value} {o o' : Nat} {v : Value} (h : o ≠ o') : fldI (cs.set o v) o' = fldI cs o' := by
  rw [fldI_set, if_neg fun h2 => h h2.1]
theorem fldI_set_eq {cs : List Value} {p : Nat × Bool} {n : Nat} (h : p.1 < cs.length) : fldI (cs.set p.1 (valP p n)) p.1 = n := by
  rw [fldI_set, if_pos ⟨rfl, h⟩]
  unfold valP
  cases p.2 <;> rfl
theorem fill_line : ∀ (ws : List (List UInt8)) (cs0 : List Value) (ps : List (Nat × Bool)) (s : List UInt8) {cs : List Value}, fillG cs0 ps ws = some cs → ws.length = ps.length → (ps.map Prod.fst).Nodup → (∀ p ∈ ps, p.1 < cs0.length) →
    (∀ o, o ∉ ps.map Prod.fst → fldI cs o = fldI cs0 o) ∧ lineGo cs s ps = (s ++ ws.flatMap fun w => 32 :: w, 0)
  | [], cs0, [], s, cs, h, _, _, _ => by
    rw [fillG_nil] at h; cases h
    exact ⟨fun o _ => rfl, by show (s, (0 : Int)) = (s ++ [], 0); rw [List.append_nil]⟩
  | [], _, _ :: _, _, _, _, hl, _, _ => by simp at hl
  | _ :: _, _, [], _, _, _, hl, _, _ => by simp at hl
  | w :: ws, cs0, p :: ps, s, cs, h, hl, hn, hlt => by
    have e : fillG cs0 (p :: ps) (w :: ws) = match rdL w (limP p) with | some n => fillG (cs0.set p.1 (valP p n)) ps ws | none => none := rfl
    rw [e] at h
    cases hr : rdL w (limP p) with
    | none => rw [hr] at h; cases h
    | some n =>
      rw [hr] at h
      rw [List.map_cons, List.nodup_cons] at hn
      obtain ⟨h1, h2⟩ := rdL_some.1 hr
      obtain ⟨h3, h4⟩ := rdN_some h1
      obtain ⟨i1, i2⟩ := fill_line ws (cs0.set p.1 (valP p n)) ps (s ++ (32 :: w)) h (by simpa using hl) hn.2 (fun q hq => by rw [List.length_set]; exact hlt q (.tail _ hq))
      have hp : fldI cs p.1 = n := by rw [i1 _ hn.1, fldI_set_eq (hlt p (.head _))]
      refine ⟨fun o ho => ?_, ?_⟩
      · rw [List.map_cons, List.mem_cons, not_or] at ho
        rw [i1 o ho.2, fldI_set_ne fun e => ho.1 e.symm]
      · show (if p.2 = false ∧ ¬ (0 ≤ fldI cs p.1 ∧ fldI cs p.1 ≤ 999999) then ([], 3) else lineGo cs (s ++ (32 :: Lib.decDigits (fldI cs p.1).toNat)) ps) = _
        rw [hp, if_neg, Int.toNat_natCast, h4, i2]
        · rw [List.flatMap_cons, List.append_assoc]
        · rintro ⟨h5, h6⟩
          unfold limP at h2
          rw [h5] at h2
          simp only [Bool.false_eq_true, if_false] at h2
          omega
theorem pts_nodup (k : Int) : ((pts k).map Prod.fst).Nodup := by
  unfold pts
  repeat' split
  all_goals decide
theorem pts_zero (k : Int) : 0 ∉ (pts k).map Prod.fst := by
  unfold pts
  repeat' split
  all_goals decide
theorem pts_lt {k : Int} {p : Nat × Bool} (h : p ∈ pts k) : p.1 < 15 := by
  have := pts_mem h; omega
theorem kind_some {w : List UInt8} {k : Int} (h : kindOf w = some k) : (1 ≤ k ∧ k ≤ 6) ∧ nm k = w := by
  unfold kindOf at h
  repeat' split at h
  all_goals first | (cases h; refine ⟨by omega, ?_⟩; symm; assumption) | cases h
/-- the text of a list of words -/
def joinL (c : UInt8) : List (List UInt8) → List UInt8
  | [] => []
  | w :: ws => w ++ ws.flatMap fun x => c :: x
theorem split_join (c : UInt8) (s : List UInt8) : joinL c (splitL c s) = s := by
  induction s with
  | nil => rfl
  | cons x r ih =>
    have e1 : splitL c (x :: r) = if x = c then [] :: splitL c r else match splitL c r with | w :: ws => (x :: w) :: ws | [] => [[x]] := rfl
    rw [e1]
    cases hr : splitL c r with
    | nil => exact absurd hr (splitL_ne _ _)
    | cons w ws =>
      rw [hr] at ih
      by_cases h : x = c
      · rw [if_pos h]
        show [] ++ (w :: ws).flatMap (fun x => c :: x) = x :: r
        rw [List.flatMap_cons, h, ← ih]; rfl
      · rw [if_neg h, ← ih]; rfl
theorem split_word {c : UInt8} {w : List UInt8} (h : c ∉ w) (t : List UInt8) : splitL c (w ++ c :: t) = w :: splitL c t := by
  induction w with
  | nil => show (if c = c then [] :: splitL c t else _) = _; rw [if_pos rfl]
  | cons x r ih =>
    rw [List.mem_cons, not_or] at h
    have e1 : splitL c (x :: (r ++ c :: t)) = if x = c then [] :: splitL c (r ++ c :: t) else match splitL c (r ++ c :: t) with | w :: ws => (x :: w) :: ws | [] => [[x]] := rfl
    rw [List.cons_append, e1, if_neg fun e => h.1 e.symm, ih h.2]
theorem split_one {c : UInt8} {w : List UInt8} (h : c ∉ w) : splitL c w = [w] := by
  induction w with
  | nil => rfl
  | cons x r ih =>
    rw [List.mem_cons, not_or] at h
    have e1 : splitL c (x :: r) = if x = c then [] :: splitL c r else match splitL c r with | w :: ws => (x :: w) :: ws | [] => [[x]] := rfl
    rw [e1, if_neg fun e => h.1 e.symm, ih h.2]
theorem split_of_join {c : UInt8} : ∀ (ws : List (List UInt8)) (w : List UInt8), c ∉ w → (∀ x ∈ ws, c ∉ x) → splitL c (w ++ ws.flatMap fun x => c :: x) = w :: ws
  | [], w, h, _ => by rw [List.flatMap_nil, List.append_nil]; exact split_one h
  | x :: ws, w, h, hw => by
    rw [List.flatMap_cons]
    show splitL c (w ++ c :: (x ++ ws.flatMap fun x => c :: x)) = _
    rw [split_word h, split_of_join ws x (hw x (.head _)) fun y hy => hw y (.tail _ hy)]
/-- what is read is printed so -/
theorem ev_line {w : List UInt8} {cs : List Value} (h : evOf w = some cs) : lineC cs = (w, 0) ∧ fldI cs 0 ≠ 0 := by
  obtain ⟨w0, ws, k, hL, hk, hl, hf⟩ := evOf_some h
  obtain ⟨hk1, hk2⟩ := kind_some hk
  obtain ⟨i1, i2⟩ := fill_line ws (zk k) (pts k) (nm k) hf hl (pts_nodup k) (fun p hp => pts_lt hp)
  have h0 : fldI cs 0 = k := by rw [i1 0 (pts_zero k)]; rfl
  refine ⟨?_, by rw [h0]; omega⟩
  unfold lineC
  rw [h0, if_pos hk1, i2, hk2]
  have := split_join 32 w
  rw [hL] at this
  exact Prod.ext this rfl
/-- all lines of a text, each with its end: the text, but for an end behind it -/
theorem lines_text : ∀ (n : Nat) (s : List UInt8), s.length = n → (linesL s).flatMap (fun w => w ++ [10]) = s ∨ (linesL s).flatMap (fun w => w ++ [10]) = s ++ [10] := by
  intro n
  induction n using Nat.strongRecOn with
  | ind n ih =>
    intro s hn
    by_cases h : s = []
    · subst h; exact .inl rfl
    · rw [linesL_cons h, List.flatMap_cons]
      rcases cut_index 10 s with ⟨_, h2⟩ | ⟨i, _, hi, h2⟩
      · rw [h2]
        right
        show (s ++ [10]) ++ (linesL []).flatMap _ = _
        rw [linesL_nil]; simp
      · have hsh := cut_short h
        have hs : s = s.take i ++ 10 :: s.drop (i + 1) := by
          have hj := split_join 10 s
          have hc := splitL_cut 10 s
          rw [h2, if_pos rfl] at hc
          rw [hc] at hj
          have hj2 := split_join 10 (s.drop (i + 1))
          cases hd : splitL 10 (s.drop (i + 1)) with
          | nil => exact absurd hd (splitL_ne _ _)
          | cons x r =>
            rw [hd] at hj hj2
            conv => lhs; rw [← hj]
            rw [← hj2]
            show s.take i ++ (x :: r).flatMap (fun x => 10 :: x) = s.take i ++ 10 :: (x ++ r.flatMap fun x => 10 :: x)
            rw [List.flatMap_cons]; rfl
        rw [h2] at hsh ⊢
        have hsh : (s.drop (i + 1)).length < s.length := hsh
        rcases ih _ (by omega) (s.drop (i + 1)) rfl with h3 | h3
        · left
          simp only
          rw [h3]
          conv => rhs; rw [hs]
          simp
        · right
          simp only
          rw [h3]
          conv => rhs; rw [hs]
          simp
theorem goL_ok : ∀ (L : List (List UInt8)) {es : List (List Value)}, goL L = .ok es → es.length = L.length ∧ (∀ e ∈ es, IsEv e ∧ (∀ v ∈ e, v.oneCell' = true) ∧ (lineC e).2 = 0) ∧ txt es = L.flatMap fun w => w ++ [10]
  | [], es, h => by cases h; exact ⟨rfl, fun e he => (by cases he), rfl⟩
  | w :: r, es, h => by
    have h1 : goL (w :: r) = match evOf w with | none => .error 1 | some e => match goL r with | .ok es => .ok (e :: es) | .error n => .error (n + 1) := rfl
    rw [h1] at h
    cases he : evOf w with
    | none => rw [he] at h; cases h
    | some e =>
      rw [he] at h
      cases hr : goL r with
      | error n => rw [hr] at h; cases h
      | ok es2 =>
        rw [hr] at h
        obtain rfl : e :: es2 = es := by cases h; rfl
        obtain ⟨i1, i2, i3⟩ := goL_ok r hr
        obtain ⟨k1, k2⟩ := ev_line he
        obtain ⟨k3, k4⟩ := evOf_ev he
        refine ⟨by simp [i1], fun x hx => ?_, ?_⟩
        · rcases List.mem_cons.1 hx with rfl | hx
          · exact ⟨k3, k4, by rw [k1]⟩
          · exact i2 x hx
        · unfold txt at i3 ⊢
          rw [List.flatMap_cons, List.flatMap_cons, i3]
          show (lineC e).1 ++ [10] ++ _ = _
          rw [k1]
theorem goL_err : ∀ (L : List (List UInt8)) {n : Nat}, goL L = .error n → 1 ≤ n
  | [], n, h => by cases h
  | w :: r, n, h => by
    have h1 : goL (w :: r) = match evOf w with | none => .error 1 | some e => match goL r with | .ok es => .ok (e :: es) | .error n => .error (n + 1) := rfl
    rw [h1] at h
    cases he : evOf w with
    | none => rw [he] at h; cases h; omega
    | some e =>
      rw [he] at h
      cases hr : goL r with
      | error m => rw [hr] at h; cases h; omega
      | ok es2 => rw [hr] at h; cases h
/-- a text that is read is the one that is printed, but for a line's end behind it -/
theorem strict_law {s : List UInt8} (hs : s.length ≤ 20000) {es : List (List Value)} (h : goL (linesL s) = .ok es) : ∃ t, printR es = (t, 0) ∧ (t = s ∨ t = s ++ [10]) := by
  obtain ⟨h1, h2, h3⟩ := goL_ok _ h
  have hp : prFirst es = 0 := prFirst_no fun j x hx => (h2 x (List.mem_of_getElem? hx)).2.2
  have ht := lines_text _ s rfl
  rw [← h3] at ht
  refine ⟨txt es, ?_, ht⟩
  unfold printR
  rw [hp, if_neg (by simp), if_neg]
  rcases ht with ht | ht <;> rw [ht] <;> simp <;> omega
end Go.Proofs.YtffmibmefmbdjaaDoor

/- awake; ScriptStrict. -/
-- GU
set_option linter.unusedVariables false
set_option linter.unusedSimpArgs false
namespace Go.Proofs.YtffmibmefmbdjaaDoor
open Go.RowKit
set_option maxRecDepth 20000
set_option pp.deepTerms false
set_option pp.deepTerms.threshold 4

theorem dec0 : Lib.decDigits 0 = [48] := by rw [Lib.decDigits_one (by omega)]; rfl
theorem dec1 : Lib.decDigits 1 = [49] := by rw [Lib.decDigits_one (by omega)]; rfl
theorem dec7 : Lib.decDigits 7 = [55] := by rw [Lib.decDigits_one (by omega)]; rfl
theorem dec64 : Lib.decDigits 64 = [54, 52] := by rw [dec_step 64 (by omega), show 64 / 10 = 6 from rfl, show 64 % 10 = 4 from rfl, Lib.decDigits_one (by omega), Lib.decDigits_one (by omega)]; rfl
theorem rd0 : rdL [48] 999999 = some 0 := rdL_some.2 ⟨by rw [← dec0]; exact rdN_dec (by omega), by omega⟩
theorem rd1 : rdL [49] 999999 = some 1 := rdL_some.2 ⟨by rw [← dec1]; exact rdN_dec (by omega), by omega⟩
theorem rd08 (m : Nat) : rdL [48, 56] m = none := rdL_none.2 fun n hn _ => by
  obtain ⟨h1, h2⟩ := rdN_some hn
  by_cases h0 : n = 0
  · subst h0; rw [dec0] at h2; cases h2
  · have := dec_head n (by omega)
    rw [h2] at this
    exact this rfl
def awE : List Value := [.int .i64 4, .int .i64 1, .int .i64 0, .int .u64 0, .int .u64 0, .int .u64 0, .int .u64 0, .int .u64 0, .int .u64 0, .int .u64 0, .int .u64 64, .int .u64 7, .int .i64 0, .int .i64 0, .int .i64 0]
theorem isEv_aw : IsEv awE := by
  refine ⟨rfl, fun o ho => ?_, fun o ho => ?_⟩
  · rcases ho with rfl | rfl | rfl | rfl | rfl | rfl <;> rfl
  · have h1 : o = 3 ∨ o = 4 ∨ o = 5 ∨ o = 6 ∨ o = 7 ∨ o = 8 ∨ o = 9 ∨ o = 10 ∨ o = 11 := by omega
    rcases h1 with rfl | rfl | rfl | rfl | rfl | rfl | rfl | rfl | rfl <;> exact ⟨rfl, by decide, by decide⟩
theorem line_aw : lineC awE = ([115, 116, 111, 114, 101, 32, 49, 32, 54, 52, 32, 55], 0) := by
  show lineGo awE (nm 4) (pts 4) = _
  show lineGo awE (nm 4 ++ (32 :: Lib.decDigits 1) ++ (32 :: Lib.decDigits 64) ++ (32 :: Lib.decDigits 7)) [] = _
  rw [dec1, dec64, dec7]; rfl
def awS : List UInt8 := [112, 105, 99, 107, 32, 48, 32, 49, 10, 108, 111, 97, 100, 32, 48, 32, 48, 56]
theorem parse_aw : parseR awS = ([], 2, 5) := by
  have h1 : linesL awS = [[112, 105, 99, 107, 32, 48, 32, 49], [108, 111, 97, 100, 32, 48, 32, 48, 56]] := by decide
  have e1 : evOf [112, 105, 99, 107, 32, 48, 32, 49] ≠ none := by
    rw [evOf_fill (w := [112, 105, 99, 107]) (k := 1) (ws := [[48], [49]]) (by decide) (by decide) (by decide)]
    show (match rdL [48] 999999 with | some n => fillG ((zk 1).set 1 (valP (1, false) n)) [(2, false)] [[49]] | none => none) ≠ none
    rw [rd0]
    show (match rdL [49] 999999 with | some n => fillG (((zk 1).set 1 (valP (1, false) 0)).set 2 (valP (2, false) n)) [] [] | none => none) ≠ none
    rw [rd1]
    show fillG _ [] [] ≠ none
    rw [fillG_nil]; simp
  have e2 : evOf [108, 111, 97, 100, 32, 48, 32, 48, 56] = none := by
    rw [evOf_fill (w := [108, 111, 97, 100]) (k := 3) (ws := [[48], [48, 56]]) (by decide) (by decide) (by decide)]
    show (match rdL [48] 999999 with | some n => fillG ((zk 3).set 1 (valP (1, false) n)) [(10, true)] [[48, 56]] | none => none) = none
    rw [rd0]
    show (match rdL [48, 56] 18446744073709551615 with | some n => fillG (((zk 3).set 1 (valP (1, false) 0)).set 10 (valP (10, true) n)) [] [] | none => none) = none
    rw [rd08]
  obtain ⟨c1, hc1⟩ := Option.ne_none_iff_exists'.1 e1
  have hg : goL (linesL awS) = .error 2 := by
    rw [h1]
    have h3 := goL_step hc1 [[108, 111, 97, 100, 32, 48, 32, 48, 56]] []
    have h4 := goL_bad e2 [] [c1]
    have h5 : ∀ x : Except Nat (List (List Value)), addP [] x = x := fun x => by cases x <;> simp [addP]
    rw [h5] at h3
    rw [h3]
    exact h4
  exact parseR_bad (by decide) hg
set_option maxHeartbeats 1000000 in
theorem awake_any (l : List Chunk) (hG : GL l) : Fn Tryd.prog 8 [] l fun v l' => v = .bool true ∧ l' = l := by
  refine fn_of_body Tryd.func8 rfl rfl fun E => ?_
  simp only [argF, Tryd.ntmps8]
  refine gzU ?_
  refine t_e (e_call0 rfl rfl (line_any awE isEv_aw l hG)) rfl rfl rfl ?_
  rintro _ _ ⟨rfl, rfl⟩
  rw [line_aw]
  unfold lnV
  refine gzU ?_
  refine t_e (e_call0 rfl rfl (parse_any awS (by decide) _ hG)) rfl rfl rfl ?_
  rw [parse_aw]
  rintro _ _ ⟨sv, c1, rfl, ho, rfl⟩
  obtain ⟨p, cap, rfl⟩ := ho.shape
  refine gzU ?_
  rw [decide_eq_true (rfl : ([115, 116, 111, 114, 101, 32, 49, 32, 54, 52, 32, 55] : List UInt8) = [115, 116, 111, 114, 101, 32, 49, 32, 54, 52, 32, 55])]
  refine gzU ?_
  exact k_ret [] rfl (Keep.dropL c1 .refl) (by exact zRes) ⟨rfl, rfl⟩
end Go.Proofs.YtffmibmefmbdjaaDoor

/- ScriptStrict. -/
-- GU
set_option linter.unusedVariables false
set_option linter.unusedSimpArgs false
namespace Go.Proofs.YtffmibmefmbdjaaDoor
open Go.RowKit
set_option maxRecDepth 20000
set_option pp.deepTerms false
set_option pp.deepTerms.threshold 4

theorem OwnSl.inRows {e k : Nat} {v : Value} {es : List (List Value)} {cs : List Chunk} (h : OwnSl e k v es.length es.flatten cs) (hk : ∀ r ∈ es, r.length = k) (l : List Chunk) : ∃ a cap, v = .slice a es.length cap ∧ InRows (cs ++ l) a es.length k es := by
  rcases h.2 with ⟨rfl, h0, rfl⟩ | ⟨b, cap, sp, rfl, rfl, h1, h2, h3⟩
  · exact ⟨none, 0, by rw [h0], fun h => by omega⟩
  · refine ⟨_, cap, rfl, fun h0 => ⟨b, 0, _, e, (0, 0), rfl, List.mem_append_left _ (.head _), fun i row hi => ?_⟩⟩
    have key : ∀ (es : List (List Value)) (i : Nat) (row : List Value), (∀ r ∈ es, r.length = k) → es[i]? = some row → ((es.flatten ++ sp).drop (i * k)).take k = row ∧ i * k + k ≤ (es.flatten ++ sp).length := by
      intro es
      induction es with
      | nil => intro i row _ h; simp at h
      | cons x r ih =>
        intro i row hk hi
        have hx := hk x (.head _)
        cases i with
        | zero =>
          simp only [List.getElem?_cons_zero, Option.some.injEq] at hi
          subst hi
          rw [List.flatten_cons, List.append_assoc, Nat.zero_mul, List.drop_zero, List.take_left' hx, List.length_append]
          exact ⟨rfl, by omega⟩
        | succ i =>
          obtain ⟨a1, a2⟩ := ih i row (fun q hq => hk q (.tail _ hq)) (by simpa using hi)
          rw [List.flatten_cons, List.append_assoc]
          refine ⟨?_, by rw [List.length_append, Nat.succ_mul]; omega⟩
          rw [show (i + 1) * k = x.length + i * k by rw [Nat.succ_mul, hx, Nat.add_comm], ← List.drop_drop, List.drop_left]
          exact a1
    obtain ⟨q1, q2⟩ := key es i row hk hi
    have hrl := hk row (List.mem_of_getElem? hi)
    simp only [Nat.zero_add]
    refine ⟨by simpa using q2, by rw [List.extract_toArray, List.extract_eq_take_drop, Nat.add_sub_cancel_left, q1], fun j v hj => ?_⟩
    have hj2 := (List.getElem?_eq_some_iff.1 hj).1
    rw [← q1, List.getElem?_take, if_pos (by omega), List.getElem?_drop] at hj
    rw [List.getElem?_toArray]
    exact hj
theorem ns10 (s : List UInt8) : ¬ s ++ [10] = s := fun e => by have := congrArg List.length e; simp at this
set_option maxHeartbeats 1000000 in
theorem strict_any (s : List UInt8) (l : List Chunk) (hG : GL l) : Fn Tryd.prog 6 [str s] l fun v l' => v = .bool true ∧ ∃ X, l' = X ++ l := by
  refine fn_of_body Tryd.func6 rfl rfl fun E => ?_
  simp only [argF, Tryd.ntmps6]
  by_cases h2 : s.length > 20000
  · refine gzU ?_
    refine t_e (e_call0 rfl rfl (awake_any l hG)) rfl rfl rfl ?_
    rintro _ _ ⟨rfl, rfl⟩
    refine gzU ?_
    exact k_ret [] rfl .refl (by exact zRes) ⟨rfl, [], rfl⟩
  · have h6 : ¬ s.length > 65536 := by omega
    refine gzU ?_
    refine t_e (e_call0 rfl rfl (parse_any s (by omega) _ hG)) rfl rfl rfl ?_
    rintro _ _ ⟨sv, c1, rfl, ho, rfl⟩
    cases hg : goL (linesL s) with
    | error n =>
      rw [parseR_bad h6 hg] at ho ⊢
      have hn := goL_err _ hg
      obtain ⟨p, cap, rfl⟩ := ho.shape
      simp only [List.length_nil] at ho ⊢
      refine gzU ?_
      refine t_eh (e_call0 rfl rfl (awake_any _ (hG.app c1))) rfl rfl rfl ?_
      rintro _ _ ⟨rfl, rfl⟩
      refine gzU ?_
      exact k_ret [] rfl .refl (by exact zRes) ⟨rfl, c1, rfl⟩
    | ok es =>
      rw [parseR_ok h6 hg] at ho ⊢
      obtain ⟨t, ht, hst⟩ := strict_law (by omega) hg
      obtain ⟨g1, g2, g3⟩ := goL_ok _ hg
      simp only at ho ⊢
      obtain ⟨a, cap, rfl, hR⟩ := ho.inRows (fun r hr => (g2 r hr).1.len) l
      have hn : es.length ≤ 1000000 := by
        have h3 : es.length ≤ (txt es).length := by
          unfold txt
          clear hR ho ht hst g1 g2 g3 hg
          induction es with
          | nil => simp
          | cons x r ih =>
            rw [List.flatMap_cons, List.length_append]
            have h9 : 1 ≤ (lnOf x).length := by unfold lnOf; simp
            rw [List.length_cons]
            have := ih
            omega
        rcases lines_text _ s rfl with h4 | h4 <;> rw [← g3] at h4 <;> rw [h4] at h3 <;> (try rw [List.length_append] at h3) <;> (try simp only [List.length_cons, List.length_nil] at h3) <;> omega
      refine gzU ?_
      refine t_e (e_call0 rfl rfl (print_any a cap es (fun e he => (g2 e he).1) (fun e he => (g2 e he).2.1) hn _ (hG.app c1) hR)) rfl rfl rfl ?_
      rintro _ _ ⟨rfl, rfl⟩
      rw [ht]
      unfold lnV
      simp only
      rcases hst with rfl | rfl
      · refine gzU ?_
        rw [decide_eq_true (rfl : t = t)]
        refine gzU ?_
        refine t_eh (e_call0 rfl rfl (awake_any _ (hG.app c1))) rfl rfl rfl ?_
        rintro _ _ ⟨rfl, rfl⟩
        refine gzU ?_
        exact k_ret [] rfl .refl (by exact zRes) ⟨rfl, c1, rfl⟩
      · refine gzU ?_
        rw [decide_eq_false (ns10 s)]
        refine gzU ?_
        rw [decide_eq_true (rfl : s ++ [10] = s ++ [10])]
        refine gzU ?_
        refine t_eh (e_call0 rfl rfl (awake_any _ (hG.app c1))) rfl rfl rfl ?_
        rintro _ _ ⟨rfl, rfl⟩
        refine gzU ?_
        exact k_ret [] rfl .refl (by exact zRes) ⟨rfl, c1, rfl⟩
end Go.Proofs.YtffmibmefmbdjaaDoor

/- What is printed is read again: plain. -/
set_option linter.unusedVariables false
set_option linter.unusedSimpArgs false
namespace Go.Proofs.YtffmibmefmbdjaaDoor
open Go.RowKit

theorem fill_val : ∀ (ps : List (Nat × Bool)) (cs0 e : List Value), (∀ p ∈ ps, 0 ≤ fldI e p.1 ∧ fldI e p.1 < 18446744073709551616 ∧ (p.2 = false → fldI e p.1 ≤ 999999)) → ∃ cs, fillG cs0 ps (ps.map fun p => Lib.decDigits (fldI e p.1).toNat) = some cs
  | [], cs0, e, _ => ⟨cs0, rfl⟩
  | p :: ps, cs0, e, h => by
    obtain ⟨h1, h2, h3⟩ := h p (.head _)
    obtain ⟨n, hn⟩ : ∃ n : Nat, fldI e p.1 = n := ⟨(fldI e p.1).toNat, by omega⟩
    have hr : rdL (Lib.decDigits (fldI e p.1).toNat) (limP p) = some n := by
      rw [hn, Int.toNat_natCast]
      refine rdL_some.2 ⟨rdN_dec (by omega), ?_⟩
      unfold limP
      cases hp : p.2 with
      | true => simp; omega
      | false => have := h3 hp; simp; omega
    obtain ⟨cs, hcs⟩ := fill_val ps (cs0.set p.1 (valP p n)) e (fun q hq => h q (.tail _ hq))
    refine ⟨cs, ?_⟩
    rw [List.map_cons]
    show (match rdL (Lib.decDigits (fldI e p.1).toNat) (limP p) with | some n => fillG (cs0.set p.1 (valP p n)) ps (ps.map fun p : Nat × Bool => Lib.decDigits (fldI e p.1).toNat) | none => none) = _
    rw [hr]
    exact hcs
theorem fill_num : ∀ (ps : List (Nat × Bool)) (cs0 e : List Value) {cs : List Value}, fillG cs0 ps (ps.map fun p => Lib.decDigits (fldI e p.1).toNat) = some cs → (ps.map Prod.fst).Nodup → (∀ p ∈ ps, p.1 < cs0.length) → (∀ p ∈ ps, 0 ≤ fldI e p.1 ∧ fldI e p.1 < 18446744073709551616) → ∀ p ∈ ps, fldI cs p.1 = fldI e p.1
  | [], _, _, _, _, _, _, _, p, hp => by cases hp
  | p :: ps, cs0, e, cs, h, hn, hlt, hv, q, hq => by
    obtain ⟨v1, v2⟩ := hv p (.head _)
    obtain ⟨n, hnn⟩ : ∃ n : Nat, fldI e p.1 = n := ⟨(fldI e p.1).toNat, by omega⟩
    have e1 : fillG cs0 (p :: ps) ((p :: ps).map fun p => Lib.decDigits (fldI e p.1).toNat) = match rdL (Lib.decDigits (fldI e p.1).toNat) (limP p) with | some n => fillG (cs0.set p.1 (valP p n)) ps (ps.map fun p => Lib.decDigits (fldI e p.1).toNat) | none => none := rfl
    rw [e1] at h
    cases hr : rdL (Lib.decDigits (fldI e p.1).toNat) (limP p) with
    | none => rw [hr] at h; cases h
    | some m =>
      rw [hr] at h
      have hm : m = n := by
        have h1 := (rdL_some.1 hr).1
        rw [hnn, Int.toNat_natCast, rdN_dec (by omega)] at h1
        cases h1; rfl
      subst hm
      rw [List.map_cons, List.nodup_cons] at hn
      rcases List.mem_cons.1 hq with rfl | hq
      · obtain ⟨i1, _⟩ := fill_line _ _ _ [] h (by rw [List.length_map]) hn.2 (fun r hr => by rw [List.length_set]; exact hlt r (.tail _ hr))
        rw [i1 _ hn.1, fldI_set_eq (hlt q (.head _)), hnn]
      · exact fill_num ps _ e h hn.2 (fun r hr => by rw [List.length_set]; exact hlt r (.tail _ hr)) (fun r hr => hv r (.tail _ hr)) q hq
theorem lineGo_ok : ∀ (ps : List (Nat × Bool)) (cs : List Value) (s : List UInt8), (lineGo cs s ps).2 = 0 → (∀ p ∈ ps, p.2 = false → 0 ≤ fldI cs p.1 ∧ fldI cs p.1 ≤ 999999) ∧ (lineGo cs s ps).1 = s ++ ps.flatMap fun p : Nat × Bool => 32 :: Lib.decDigits (fldI cs p.1).toNat
  | [], cs, s, _ => ⟨fun p hp => (by cases hp), by show s = s ++ []; rw [List.append_nil]⟩
  | p :: ps, cs, s, h => by
    have e : lineGo cs s (p :: ps) = if p.2 = false ∧ ¬ (0 ≤ fldI cs p.1 ∧ fldI cs p.1 ≤ 999999) then ([], 3) else lineGo cs (s ++ (32 :: Lib.decDigits (fldI cs p.1).toNat)) ps := rfl
    rw [e] at h ⊢
    by_cases hc : p.2 = false ∧ ¬ (0 ≤ fldI cs p.1 ∧ fldI cs p.1 ≤ 999999)
    · rw [if_pos hc] at h; cases h
    · rw [if_neg hc] at h ⊢
      obtain ⟨i1, i2⟩ := lineGo_ok ps cs _ h
      refine ⟨fun q hq hq2 => ?_, by rw [i2, List.flatMap_cons, List.append_assoc]⟩
      rcases List.mem_cons.1 hq with rfl | hq
      · exact Decidable.byContradiction fun h5 => hc ⟨hq2, h5⟩
      · exact i1 q hq hq2
theorem no_dec {c : UInt8} (h : c.toNat < 48) (n : Nat) : c ∉ Lib.decDigits n := fun hm => by have := dec_digits n c hm; omega
theorem no_nm {c : UInt8} (h : c.toNat < 48) (k : Int) : c ∉ nm k := by
  have key : ∀ x ∈ nm k, 48 ≤ x.toNat := by
    unfold nm
    repeat' split
    all_goals decide
  exact fun hm => by have := key c hm; omega
/-- a good event's line is read as an event of the same line, kind and core -/
theorem line_ev {e : List Value} (hE : IsEv e) (h : (lineC e).2 = 0) : ∃ e', evOf (lineC e).1 = some e' ∧ fldI e' 0 = fldI e 0 ∧ fldI e' 1 = fldI e 1 := by
  by_cases hk : 1 ≤ fldI e 0 ∧ fldI e 0 ≤ 6
  · have hl : lineC e = lineGo e (nm (fldI e 0)) (pts (fldI e 0)) := by unfold lineC; rw [if_pos hk]
    rw [hl] at h ⊢
    obtain ⟨h1, h2⟩ := lineGo_ok _ _ _ h
    have hv : ∀ p ∈ pts (fldI e 0), 0 ≤ fldI e p.1 ∧ fldI e p.1 < 18446744073709551616 ∧ (p.2 = false → fldI e p.1 ≤ 999999) := fun p hp => by
      rcases pts_mem hp with ⟨h3, _⟩ | ⟨h3, h4⟩
      · have := h1 p hp h3; exact ⟨by omega, by omega, fun _ => by omega⟩
      · have := (hE.word p.1 h4).2; exact ⟨this.1, this.2, fun h5 => by rw [h3] at h5; cases h5⟩
    obtain ⟨cs, hcs⟩ := fill_val (pts (fldI e 0)) (zk (fldI e 0)) e hv
    have hsp : splitL 32 (lineGo e (nm (fldI e 0)) (pts (fldI e 0))).1 = nm (fldI e 0) :: (pts (fldI e 0)).map fun p => Lib.decDigits (fldI e p.1).toNat := by
      rw [h2]
      have := split_of_join (c := 32) ((pts (fldI e 0)).map fun p => Lib.decDigits (fldI e p.1).toNat) (nm (fldI e 0)) (no_nm (by decide) _) (fun x hx => by obtain ⟨p, _, rfl⟩ := List.mem_map.1 hx; exact no_dec (by decide) _)
      rw [List.flatMap_map] at this
      exact this
    have hev := evOf_fill hsp (kind_nm hk rfl) (by rw [List.length_map])
    rw [hcs] at hev
    obtain ⟨i1, i2⟩ := fill_line _ _ _ (nm (fldI e 0)) hcs (by rw [List.length_map]) (pts_nodup _) (fun p hp => pts_lt hp)
    refine ⟨cs, hev, by rw [i1 0 (pts_zero _)]; rfl, ?_⟩
    have hm : ((1, false) : Nat × Bool) ∈ pts (fldI e 0) := by
      have h3 : fldI e 0 = 1 ∨ fldI e 0 = 2 ∨ fldI e 0 = 3 ∨ fldI e 0 = 4 ∨ fldI e 0 = 5 ∨ fldI e 0 = 6 := by omega
      rcases h3 with h | h | h | h | h | h <;> rw [h] <;> decide
    have hc1 : fldI cs 1 = fldI e 1 := fill_num _ _ _ hcs (pts_nodup _) (fun p hp => pts_lt hp) (fun p hp => ⟨(hv p hp).1, (hv p hp).2.1⟩) (1, false) hm
    exact hc1
  · unfold lineC at h; rw [if_neg hk] at h; cases h
end Go.Proofs.YtffmibmefmbdjaaDoor
