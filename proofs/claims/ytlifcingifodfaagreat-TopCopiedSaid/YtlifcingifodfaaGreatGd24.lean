/- Laws. -/
import Derived.Test.YtlifcingifodfaaGreatRows
import Derived.Test.YtlifcingifodfaaGreatGd1
import Derived.Test.YtlifcingifodfaaGreatGd16
import Derived.WalkKit
import Derived.ProofKit
import Derived.OpenShut
import Derived.ShutString
import Derived.ChangeOld
import Derived.Below
set_option maxHeartbeats 4000000
namespace Go.Proofs.YtlifcingifodfaaGreat.lawTopCopied
open Go.ChangeShapes Go.WideShapes Go.ChangeAt Go.RowKit
open Go.ChangeMaps (open_string shut_string)
set_option linter.all false
theorem own:ownKnob Tryz.prog.godebug=none:=Bu
theorem laidOut:laidOutB Tryz.prog=true:=Bu
theorem AdR{a b:Bool}(h1:a=true)(h2:b=true):(a&&b)=true:=by rw[h1,h2];rfl
theorem AaF:joinedFacts Tryz.pinned.checked.prog 9 Tryz.f9 Rows.topCopiedSpec Rows.topCopiedRow=true:=by
 unfold joinedFacts
 repeat' with_reducible apply AdR
 all_goals as_aux_lemma=>kernel_rfl
theorem named:Tryz.pinned.checked.prog.funcNamed Rows.topCopiedRow.func=some 9:=Bu
theorem AgR:Tryz.f9.isInstance Tryz.pinned.checked.prog Rows.topCopiedRow.origin Rows.topCopiedRow.targs:=Do Bu
theorem wrap:Tryz.f9.isWrapper Tryz.pinned.checked.prog Rows.topCopiedRow.wrapper Rows.topCopiedRow.mainSum:=by unfold Func.isWrapper;first|(rw[Ad (by decide+kernel)];kernel_rfl)|(rw[Ab (by decide+kernel)];exact⟨rfl,rfl⟩)
end Go.Proofs.YtlifcingifodfaaGreat.lawTopCopied
