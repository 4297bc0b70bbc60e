import Derived.Test.YtaomipfblcndlaaB17
import Derived.Test.YtaomipfblcndlaaL0
set_option linter.unusedVariables false
set_option linter.unusedSimpArgs false
namespace Go.Proofs.Ytaomipfblcndlaa
open Go.RowKit

theorem asidNone_walk' (c : List Value) (W : World) (h : AllIs [some .i64, some .i64, some .i64] c) :
    Calls Try.prog 7 #[.agg (List.toArray c)] W fun e W' => e = .returned (.bool true) ∧ Below W.heap.size W W' := by
  obtain ⟨_, r, rfl, ⟨x, rfl, _⟩, _, r2, rfl, ⟨y, rfl, _⟩, _, r3, rfl, ⟨z, rfl, _⟩, rfl⟩ := h
  exact law_walk (asidNone_any x y z (allOf W))
end Go.Proofs.Ytaomipfblcndlaa
