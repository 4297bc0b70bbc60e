import Derived.Handy
import Derived.RangeFuncNested
import Derived.RangeFuncBound
import Derived.RangeFuncCalls
import Derived.RangeFuncLeaves
import Derived.Shelf.Abstract
import Derived.Shelf.RegionOpen
import Derived.WalkKit
import Derived.OwnWalkIn
import Derived.TacticsInMore
import Derived.LoopNIn
import Derived.LoopIn
import Derived.WalkSmall
import Derived.Lib.Hide
import Derived.BigFrameIn
import Derived.Test.YtndjopbmaoalhaaProg
set_option linter.unusedVariables false
set_option linter.unusedSimpArgs false
namespace Go.Proofs.Ytndjopbmaoalhaa
open Go.RowKit

theorem wide_call {P : Program} {n : Nat} {f : FuncId} {args : Array Value} {w : World} {R R' : Ending → World → Prop} (h : Calls P f args w R) (hm : ∀ e w', R e w' → R' e w') :
    Fence.wide.fn f ∧ CallsIn Fence.wide n P f args w R' := ⟨trivial, callsIn_wide.2 (h.mono hm)⟩
theorem round_call {P : Program} {n : Nat} {l : Nat} {f : FuncId} {args : Array Value} {w : World} {R R' : Ending → World → Prop} (h : Calls P f args w R) (hm : ∀ e w', R e w' → R' e w') :
    (Fence.wide.inRound l).fn f ∧ CallsIn (Fence.wide.inRound l) n P f args w R' := ⟨trivial, CallsIn.inRound l (callsIn_wide.2 (h.mono hm))⟩

/-- what lay there stays: all cells, and all below B -/
structure Stay (B : Nat) (W W' : World) : Prop where
  os : W'.os = W.os
  tape : W'.tape = W.tape
  output : W'.output = W.output
  size : W.heap.size ≤ W'.heap.size
  same : ∀ (k : Nat) (o : Obj), W.heap[k]? = some o → (o.isCells = true ∨ k < B) → W'.heap[k]? = some o
theorem Stay.of_grown {B : Nat} {W W' : World} {row : Option Nat} (hg : W.grownBy W' row) (hr : ∀ r, row = some r → B ≤ r ∧ ∃ o : Obj, W.heap[r]? = some o ∧ o.isCells = false) : Stay B W W' :=
  ⟨hg.os, hg.tape, hg.output, hg.size, fun k o hk ho => (hg.block k (Array.getElem?_eq_some_iff.1 hk).1 (fun e => by
    obtain ⟨h1, o', h2, h3⟩ := hr k e.symm
    rw [hk] at h2; cases h2
    rcases ho with ho | ho
    · rw [ho] at h3; cases h3
    · omega)).trans hk⟩
theorem ownFrom_of_stay {β : Type} {B : Nat} {I : β → World → Prop} (h : ∀ s W W', I s W → Stay B W W' → I s W') : OwnFrom B I := fun s W W' _ hs hg hr => h s W W' hs (Stay.of_grown hg hr)
theorem Stay.boxed {B : Nat} {W W' : World} (h : Stay B W W') {b : Nat} {t : TypeId} {v : Value} (hb : Boxed W b t v) : Boxed W' b t v := h.same _ _ hb (.inl rfl)
theorem Stay.cells {B : Nat} {W W' : World} (h : Stay B W W') {b : Nat} {c : Array Value} {t : TypeId} {fr : Nat × Nat} (hb : W.heap[b]? = some (.cells c t fr)) : W'.heap[b]? = some (.cells c t fr) := h.same _ _ hb (.inl rfl)
theorem Stay.cell {B : Nat} {W W' : World} (h : Stay B W W') {a : Addr} {v : Value} (hb : W.cell? a = some v) : W'.cell? a = some v := by
  obtain ⟨o, ho, hc⟩ := cells_of_cell hb
  exact (World.cell?_of_block ((h.same _ _ ho (.inl hc)).trans ho.symm)).trans hb
theorem Stay.frozen {B : Nat} {W W' : World} (h : Stay B W W') {a : Addr} {v : Value} (hb : W.cell? a = some v) : W'.frozen? a = W.frozen? a := by
  obtain ⟨o, ho, hc⟩ := cells_of_cell hb
  exact World.frozen?_of_block ((h.same _ _ ho (.inl hc)).trans ho.symm)
theorem Stay.below {B : Nat} {W W' : World} (h : Stay B W W') {n₀ : Nat} {w : World} (hb : Below n₀ w W) (h1 : n₀ ≤ B) (h2 : n₀ ≤ w.heap.size) : Below n₀ w W' :=
  hb.trans ⟨h.os, h.tape, h.output, h.size, fun k hk => by
    have : k < W.heap.size := by have := hb.size; omega
    exact (h.same k _ (Array.getElem?_eq_getElem this) (.inr (by omega))).trans (Array.getElem?_eq_getElem this).symm⟩
theorem keepsOthers_of_below {W W' : World} (h : Below W.heap.size W W') : KeepsOthers W W' :=
  ⟨h.size, fun k o hk _ => (h.block k (Array.getElem?_eq_some_iff.1 hk).1).trans hk⟩
theorem Boxed.below {W W' : World} {n b : Nat} {t : TypeId} {v : Value} (h : Boxed W b t v) (hb : Below n W W') (hn : b < n) : Boxed W' b t v := (hb.block b hn).trans h
theorem takes_deferred {W : World} {D : Nat} (hK : W.heap[D]? = some (.deferred (some []))) : Stay D W (W.putObj D (.deferred none)) :=
  Stay.of_grown (grownBy_putObj' W D _) (fun r e => by cases e; exact ⟨Nat.le_refl _, _, hK, rfl⟩)

theorem ret_marks {n : Nat} {P : Program} {fn : Func} {R : Ending → World → Prop} {tmps : Array Value} {W : World} {D : Nat} {v : Value} (hK : W.heap[D]? = some (.deferred (some [])))
    (hr : ∀ W', W' = W.putObj D (.deferred none) → Stay D W W' → (results fn tmps).run P W' = .ok v W' ∧ R (.returned v) W') :
    bodyPostM Fence.wide n P fn R .ret { tmps := tmps, defers := [{ target := .collected D, args := #[] }] } W :=
  ⟨by simp, .inl ⟨_, _, rfl, run_takeDeferred hK, v, hr _ rfl (takes_deferred hK)⟩⟩

theorem blk_cell {W : World} {b : Nat} {c : Array Value} {t : TypeId} {fr : Nat × Nat} (h : W.heap[b]? = some (.cells c t fr)) : ∀ i, W.cell? ⟨b, i, none⟩ = c[i]? := fun i => by simp [World.cell?, h]
theorem blk_frozen {W : World} {b : Nat} {c : Array Value} {t : TypeId} (h : W.heap[b]? = some (.cells c t (0, 0))) : ∀ i, W.frozen? ⟨b, i, none⟩ = false := fun i => by simp [World.frozen?, h]
theorem blk_new (w : World) (o : Obj) : (w.alloc o).heap[w.heap.size]? = some o := World.alloc_heap_new w o
theorem blk_alloc {w : World} {b : Nat} {x : Obj} (h : w.heap[b]? = some x) (o : Obj) : (w.alloc o).heap[b]? = some x := by
  rw [Below.heap_alloc w o b (Array.getElem?_eq_some_iff.1 h).1]; exact h
theorem blk_below {W W' : World} {n b : Nat} {x : Obj} (h : W.heap[b]? = some x) (hb : Below n W W') (hn : b < n) : W'.heap[b]? = some x := (hb.block b hn).trans h

theorem within_any (x lo hi : Int) (w : World) :
    Calls Try.prog 38 #[.int .i64 x, .int .i64 lo, .int .i64 hi] w fun e w' => e = .returned (.bool (decide (lo ≤ x) && decide (x ≤ hi))) ∧ w = w' := by
  go_enter Try.func38, Try.ntmps38
  go_wp2
  all_goals go_ret
  · rename_i h; exact ⟨by simp [h], rfl⟩
  · rename_i h; exact ⟨by simp; omega, rfl⟩
end Go.Proofs.Ytndjopbmaoalhaa
