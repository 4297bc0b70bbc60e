/- Small laws of my own on worlds, blocks and regions; no program's. -/
import Derived.Handy
import Derived.RangeFuncNested
import Derived.RangeFuncBound
import Derived.RangeFuncCalls
import Derived.RangeFuncLeaves
import Derived.Shelf.Abstract
import Derived.Shelf.RegionOpen
import Derived.WalkKit
import Derived.OwnWalkIn
import Derived.TacticsInMore
import Derived.LoopNIn
import Derived.LoopIn
import Derived.WalkSmall
import Derived.Lib.Hide
import Derived.BigFrameIn
import Derived.BigRegion
import Derived.Deep.QuietTactic
import Derived.BigQuiet
import Derived.WalkMore
set_option linter.unusedVariables false
set_option linter.unusedSimpArgs false
namespace Go.Proofs.Ytmmohklaiffkmaa
open Go.RowKit

theorem wide_call {P : Program} {n : Nat} {f : FuncId} {args : Array Value} {w : World} {R R' : Ending → World → Prop} (h : Calls P f args w R) (hm : ∀ e w', R e w' → R' e w') :
    Fence.wide.fn f ∧ CallsIn Fence.wide n P f args w R' := ⟨trivial, callsIn_wide.2 (h.mono hm)⟩
theorem round_call {P : Program} {n : Nat} {l : Nat} {f : FuncId} {args : Array Value} {w : World} {R R' : Ending → World → Prop} (h : Calls P f args w R) (hm : ∀ e w', R e w' → R' e w') :
    (Fence.wide.inRound l).fn f ∧ CallsIn (Fence.wide.inRound l) n P f args w R' := ⟨trivial, CallsIn.inRound l (callsIn_wide.2 (h.mono hm))⟩

/-- what lay there stays: all cells, and all below B -/
structure Stay (B : Nat) (W W' : World) : Prop where
  os : W'.os = W.os
  tape : W'.tape = W.tape
  output : W'.output = W.output
  size : W.heap.size ≤ W'.heap.size
  same : ∀ (k : Nat) (o : Obj), W.heap[k]? = some o → (o.isCells = true ∨ k < B) → W'.heap[k]? = some o
theorem Stay.of_grown {B : Nat} {W W' : World} {row : Option Nat} (hg : W.grownBy W' row) (hr : ∀ r, row = some r → B ≤ r ∧ ∃ o : Obj, W.heap[r]? = some o ∧ o.isCells = false) : Stay B W W' :=
  ⟨hg.os, hg.tape, hg.output, hg.size, fun k o hk ho => (hg.block k (Array.getElem?_eq_some_iff.1 hk).1 (fun e => by
    obtain ⟨h1, o', h2, h3⟩ := hr k e.symm
    rw [hk] at h2; cases h2
    rcases ho with ho | ho
    · rw [ho] at h3; cases h3
    · omega)).trans hk⟩
theorem ownFrom_of_stay {β : Type} {B : Nat} {I : β → World → Prop} (h : ∀ s W W', I s W → Stay B W W' → I s W') : OwnFrom B I := fun s W W' _ hs hg hr => h s W W' hs (Stay.of_grown hg hr)
theorem Stay.boxed {B : Nat} {W W' : World} (h : Stay B W W') {b : Nat} {t : TypeId} {v : Value} (hb : Boxed W b t v) : Boxed W' b t v := h.same _ _ hb (.inl rfl)
theorem Stay.cells {B : Nat} {W W' : World} (h : Stay B W W') {b : Nat} {c : Array Value} {t : TypeId} {fr : Nat × Nat} (hb : W.heap[b]? = some (.cells c t fr)) : W'.heap[b]? = some (.cells c t fr) := h.same _ _ hb (.inl rfl)
theorem Stay.cell {B : Nat} {W W' : World} (h : Stay B W W') {a : Addr} {v : Value} (hb : W.cell? a = some v) : W'.cell? a = some v := by
  obtain ⟨o, ho, hc⟩ := cells_of_cell hb
  exact (World.cell?_of_block ((h.same _ _ ho (.inl hc)).trans ho.symm)).trans hb
theorem Stay.frozen {B : Nat} {W W' : World} (h : Stay B W W') {a : Addr} {v : Value} (hb : W.cell? a = some v) : W'.frozen? a = W.frozen? a := by
  obtain ⟨o, ho, hc⟩ := cells_of_cell hb
  exact World.frozen?_of_block ((h.same _ _ ho (.inl hc)).trans ho.symm)
theorem Stay.below {B : Nat} {W W' : World} (h : Stay B W W') {n₀ : Nat} {w : World} (hb : Below n₀ w W) (h1 : n₀ ≤ B) (h2 : n₀ ≤ w.heap.size) : Below n₀ w W' :=
  hb.trans ⟨h.os, h.tape, h.output, h.size, fun k hk => by
    have : k < W.heap.size := by have := hb.size; omega
    exact (h.same k _ (Array.getElem?_eq_getElem this) (.inr (by omega))).trans (Array.getElem?_eq_getElem this).symm⟩
theorem keepsOthers_of_below {W W' : World} (h : Below W.heap.size W W') : KeepsOthers W W' :=
  ⟨h.size, fun k o hk _ => (h.block k (Array.getElem?_eq_some_iff.1 hk).1).trans hk⟩
theorem Boxed.below {W W' : World} {n b : Nat} {t : TypeId} {v : Value} (h : Boxed W b t v) (hb : Below n W W') (hn : b < n) : Boxed W' b t v := (hb.block b hn).trans h
theorem takes_deferred {W : World} {D : Nat} (hK : W.heap[D]? = some (.deferred (some []))) : Stay D W (W.putObj D (.deferred none)) :=
  Stay.of_grown (grownBy_putObj' W D _) (fun r e => by cases e; exact ⟨Nat.le_refl _, _, hK, rfl⟩)

theorem ret_marks {n : Nat} {P : Program} {fn : Func} {R : Ending → World → Prop} {tmps : Array Value} {W : World} {D : Nat} {v : Value} (hK : W.heap[D]? = some (.deferred (some [])))
    (hr : ∀ W', W' = W.putObj D (.deferred none) → Stay D W W' → (results fn tmps).run P W' = .ok v W' ∧ R (.returned v) W') :
    bodyPostM Fence.wide n P fn R .ret { tmps := tmps, defers := [{ target := .collected D, args := #[] }] } W :=
  ⟨by simp, .inl ⟨_, _, rfl, run_takeDeferred hK, v, hr _ rfl (takes_deferred hK)⟩⟩

theorem blk_cell {W : World} {b : Nat} {c : Array Value} {t : TypeId} {fr : Nat × Nat} (h : W.heap[b]? = some (.cells c t fr)) : ∀ i, W.cell? ⟨b, i, none⟩ = c[i]? := fun i => by simp [World.cell?, h]
theorem blk_frozen {W : World} {b : Nat} {c : Array Value} {t : TypeId} (h : W.heap[b]? = some (.cells c t (0, 0))) : ∀ i, W.frozen? ⟨b, i, none⟩ = false := fun i => by simp [World.frozen?, h]
theorem blk_new (w : World) (o : Obj) : (w.alloc o).heap[w.heap.size]? = some o := World.alloc_heap_new w o
theorem blk_alloc {w : World} {b : Nat} {x : Obj} (h : w.heap[b]? = some x) (o : Obj) : (w.alloc o).heap[b]? = some x := by
  rw [Below.heap_alloc w o b (Array.getElem?_eq_some_iff.1 h).1]; exact h
theorem blk_below {W W' : World} {n b : Nat} {x : Obj} (h : W.heap[b]? = some x) (hb : Below n W W') (hn : b < n) : W'.heap[b]? = some x := (hb.block b hn).trans h

theorem bcell {W w1 : World} (hb : Below W.heap.size W w1) : (∀ b o, b < W.heap.size → w1.cell? ⟨b, o, none⟩ = W.cell? ⟨b, o, none⟩) ∧ (∀ b o, b < W.heap.size → w1.frozen? ⟨b, o, none⟩ = W.frozen? ⟨b, o, none⟩) ∧ W.heap.size ≤ w1.heap.size :=
  ⟨fun b o h => hb.cell (p := ⟨b, o, none⟩) h, fun b o h => hb.frozen (p := ⟨b, o, none⟩) h, hb.size⟩
theorem wp_name {P : Program} {c : Code} {Q : Exit → Act → World → Prop} {a : Act} {w : World} (h : ∀ W0, Hid (W0 = w) → c.wp P Q a W0) : c.wp P Q a w := h w rfl
theorem body_ret_eq {P : Program} {fn : Func} {Q : World → Prop} {a : Act} {w : World} {v : Value} (hd : a.defers = []) (hr : (results fn a.tmps).run P w = .ok v w) (hQ : Q w) :
    bodyPost P fn (fun e w' => e = .returned v ∧ Q w') .ret a w := bodyPost_ret hr hd ⟨rfl, hQ⟩

theorem blk_set {W : World} {b i : Nat} {c : Array Value} {t : TypeId} {fr : Nat × Nat} (h : W.heap[b]? = some (.cells c t fr)) (v : Value) : (W.setCell ⟨b, i, none⟩ v).heap[b]? = some (.cells (c.setIfInBounds i v) t fr) := by
  obtain ⟨hlt, hk⟩ := Array.getElem?_eq_some_iff.1 h
  show (W.heap.modify b _)[b]? = _
  rw [Array.getElem?_eq_getElem (by rw [Array.size_modify]; exact hlt), Array.getElem_modify_self, hk]
  rfl
theorem blk_oth {W : World} {b b' i : Nat} {x : Obj} (h : W.heap[b']? = some x) (hne : ¬ b' = b) (v : Value) : (W.setCell ⟨b, i, none⟩ v).heap[b']? = some x := by
  rw [Below.heap_setCell _ _ _ _ hne]; exact h
theorem below_call {w W W1 : World} (h : Below w.heap.size w W) (o : Obj) (hb : Below (W.alloc o).heap.size (W.alloc o) W1) : Below w.heap.size w W1 :=
  (h.trans (((Below.refl _ W).alloc (Nat.le_refl _) o).mono h.size)).trans (hb.mono (by have := h.size; simp; omega))
theorem below_call0 {w W W1 : World} (h : Below w.heap.size w W) (hb : Below W.heap.size W W1) : Below w.heap.size w W1 := h.trans (hb.mono h.size)
theorem below_alloc {w W : World} (h : Below w.heap.size w W) (o : Obj) : Below w.heap.size w (W.alloc o) := h.trans (((Below.refl _ W).alloc (Nat.le_refl _) o).mono h.size)

theorem blk_cell' {W : World} {b : Nat} {c : Array Value} {t : TypeId} {fr : Nat × Nat} (h : W.heap[b]? = some (.cells c t fr)) : ∀ o i, (W.alloc o).cell? ⟨b, i, none⟩ = c[i]? := fun o => blk_cell (blk_alloc h o)

theorem blk_drew {w : World} {b : Nat} {x : Obj} (h : w.heap[b]? = some x) : w.drew.heap[b]? = some x := h



/-- a body that holds labels of its own, and no goto that leaves it, inside a fence -/
theorem stepR_scope {P : Program} {b : Frame} {a : Act} {k : List Item} {cs : List Frame} {w : World} {c : Code} : step P (lone (b.atR a (.code (.scope c) :: k)) cs w) = .next (lone (b.atR a (.code c :: .inScope c :: k)) cs w) :=
  step_lone_go (by simp [stepG, stepG.exec, Frame.atR])
theorem stepR_inScope {P : Program} {b : Frame} {a : Act} {k : List Item} {cs : List Frame} {w : World} {c : Code} : step P (lone (b.atR a (.inScope c :: k)) cs w) = .next (lone (b.atR a k) cs w) :=
  step_lone_go (by simp [stepG, stepG.exec, Frame.atR])
theorem wpIn_scope {F : Fence} {n : Nat} {P : Program} {Q : Exit → Act → World → Prop} {a : Act} {w : World} {c : Code} (h : c.wpIn F n P (Exit.noGoto Q) a w) : (Code.scope c).wpIn F n P Q a w := by
  intro b k cs hro hb hr
  have h0 : (lone (b.atR a (.code (.scope c) :: k)) cs w).fenced P F := fenced_calm hb hr rfl
  obtain ⟨e, a₁, w₁, hq, harr⟩ := h b (.inScope c :: k) cs hro hb hr
  cases e with
  | normal => exact ⟨.normal, a₁, w₁, hq, .head h0 stepR_scope (StepsIn.trans harr (.one (fenced_calm hb hr rfl) stepR_inScope))⟩
  | exit id => exact ⟨.exit id, a₁, w₁, hq, .of_steps (.one h0 stepR_scope) ⟨fun k' hk => harr.1 k' (by simp [exitTo, hk]), fun hr' hk => harr.2 hr' (by simp [exitTo, hk])⟩⟩
  | goto l => exact hq.elim
  | ret => exact ⟨_, a₁, w₁, hq, .of_steps (.one h0 stepR_scope) harr⟩
  | panic ch => exact ⟨_, a₁, w₁, hq, .of_steps (.one h0 stepR_scope) harr⟩
  | outgrown => exact ⟨_, a₁, w₁, hq, .of_steps (.one h0 stepR_scope) harr⟩

end Go.Proofs.Ytmmohklaiffkmaa
