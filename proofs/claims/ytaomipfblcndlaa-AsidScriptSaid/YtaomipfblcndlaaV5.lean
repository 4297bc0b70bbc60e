import Derived.Test.YtaomipfblcndlaaV4
set_option linter.unusedVariables false
set_option linter.unusedSimpArgs false
namespace Go.Proofs.Ytaomipfblcndlaa
open Go.RowKit

theorem asidScript_walk' (a : Option Addr) (n cap : Nat) (rows : List (List Value)) (W : World) (h : IsRows [some .i64, some .i64, some .i64] W a n cap rows) :
    Calls Try.prog 6 #[.slice a n cap] W fun e W' => e = .returned (.bool true) ∧ Below W.heap.size W W' := by
  obtain ⟨D, A, B, hg⟩ := rows_acts h
  exact law_walk (asidScript_any a n cap D A B (allOf W) hg)
end Go.Proofs.Ytaomipfblcndlaa
