import Derived.Test.YtaomipfblcndlaaB7
import Derived.Test.YtaomipfblcndlaaL0
set_option linter.unusedVariables false
set_option linter.unusedSimpArgs false
namespace Go.Proofs.Ytaomipfblcndlaa
open Go.RowKit

theorem asidAll_walk' (a : Option Addr) (n cap : Nat) (rows : List (List Value)) (W : World) (h : IsRows [some .i64] W a n cap rows) :
    Calls Try.prog 3 #[.slice a n cap] W fun e W' => e = .returned (.bool true) ∧ Below W.heap.size W W' := by
  obtain ⟨g, hg⟩ := rows_ints h
  exact law_walk (asidAll_any a n cap g (allOf W) hg)
end Go.Proofs.Ytaomipfblcndlaa
