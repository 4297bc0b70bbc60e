/- The statement TopLeftOutSaid: for every input the law returns true, and each argument reads afterwards as it read before. No condition. -/
import Derived.Test.YtlkgekpmileobaaGreatRows
import Derived.Test.YtlkgekpmileobaaGreatGd1
import Derived.Test.YtlkgekpmileobaaGreatGd15
import Derived.WalkKit
import Derived.ProofKit
import Derived.OpenShut
import Derived.ShutString
import Derived.ChangeOld
import Derived.Below
set_option maxHeartbeats 4000000
namespace Go.Proofs.YtlkgekpmileobaaGreat.lawTopLeftOut
open Go.ChangeShapes Go.WideShapes Go.ChangeAt Go.RowKit
open Go.ChangeMaps (open_string shut_string)
set_option linter.unusedVariables false
set_option linter.unusedSimpArgs false
theorem own:ownKnob Tryz.prog.godebug=none:=Bs
theorem laidOut:laidOutB Tryz.prog=true:=Bs
set_option maxRecDepth 100000 in
theorem lifted(os:Os)(started:os.Started)(H:Type)(enc:TypeId×Value->H):
 ReturnsInHanded {} Tryz.checked os 13 .any (Rows.topLeftOutSpec.pre6 enc Tryz.prog Tryz.f13 Rows.topLeftOutRow.domain false) (Rows.topLeftOutSpec.post enc Tryz.prog Tryz.f13 false true false false):=by
 refine returnsInHanded_of_change (C:=Tryz.checked) own started Bs Tryz.func13
  (ChangeSpec.witness6 (enc:=enc) (C:=Tryz.checked) false ⟨#[],#[.agg #[.int .i64 0,.int .i64 0,.int .i64 0,.bool false],.slice none 0 0],[]⟩ 8 Bs Bs Bs Bs) ?_
 intro W base args ds gs before hval0 hW hcnd _;have hval: ∀(j:Nat) t v,Tryz.f13.params[j]?=some t->args[j]?=some v->Value.okWide Tryz.prog W .any base t v:=hval0;have hW':=hW;obtain⟨p,q,hA0,hV,rfl,hfz,hnd⟩:=hW;have hA:DataW.TrodAll enc Tryz.prog W 0 (λ_=>true) true Tryz.f13.params.toList args.toList ds p:=hA0;rw[Tryz.params13] at hA hval;obtain⟨v0,vs0,d0,ds0,p0,q0,hargs,rfl,rfl,h0,r0⟩:=trodAll_cons hA;obtain⟨v1,vs1,d1,ds1,p1,q1,rfl,rfl,rfl,h1,r1⟩:=trodAll_cons r0;obtain⟨rfl,rfl,rfl⟩:=trodAll_nil r1;obtain rfl:args=#[v0,v1]:=by cases args;simp_all
 obtain⟨rfl,rfl⟩:=trodVars_none hV;have k0:=h0;have lt0: ∀x∈p0,x.block<W.heap.size:=by obtain⟨m,hm⟩:=k0;exact DataW.trod_lt m _ _ _ hm
 have k1:=h1;have lt1: ∀x∈p1,x.block<W.heap.size:=by obtain⟨m,hm⟩:=k1;exact DataW.trod_lt m _ _ _ hm
 obtain⟨c0,rfl,w0⟩:=bI (P:=Tryz.prog) (t:=23) (ks:=[some .i64,some .i64,some .i64,none]) 8 Bs Bs (hval 0 23 v0 rfl rfl) h0;obtain⟨a1,len1,cap1,rows1,rfl,w1⟩:=bJ (P:=Tryz.prog) (t:=24) (e:=39) (ks:=[some .i64,some .i64,some .i64,some .u64,some .u64,some .u64,some .u64,some .u64,some .u64,some .u64,some .u64,some .u64,some .i64,some .i64,some .i64]) 8 Tryz.underlying24 Bs Bs (Ep Bs) (hval 1 24 v1 rfl rfl) h1;clear hA0 hval0;refine(Qw c0 w0 a1 len1 cap1 rows1 w1).mono λe W' ⟨he,bel⟩=>?_;subst he;exact⟨_,rfl,_,_,_,[],_,[],hW',trodAll_mk1 (shut_bool Tryz.underlying4 _),(trodAll_cons_mk (Below.trod laidOut Bs (Ep Bs) k0 bel lt0) (trodAll_cons_mk (Below.trod laidOut Bs (Ep Bs) k1 bel lt1) trodAll_mk0)),rfl,bel.frame _,λh=>by cases h⟩
theorem vF{a b:Bool}(h1:a=true)(h2:b=true):(a&&b)=true:=by rw[h1,h2];rfl
theorem sJ:joinedFacts Tryz.pinned.checked.prog 13 Tryz.f13 Rows.topLeftOutSpec Rows.topLeftOutRow=true:=by
 unfold joinedFacts
 repeat' with_reducible apply vF
 all_goals as_aux_lemma=>kernel_rfl
theorem named:Tryz.pinned.checked.prog.funcNamed Rows.topLeftOutRow.func=some 13:=Bs
theorem xP:Tryz.f13.isInstance Tryz.pinned.checked.prog Rows.topLeftOutRow.origin Rows.topLeftOutRow.targs:=Ep Bs
theorem wrap:Tryz.f13.isWrapper Tryz.pinned.checked.prog Rows.topLeftOutRow.wrapper Rows.topLeftOutRow.mainSum:=by unfold Func.isWrapper;first|(rw[Ad (by decide+kernel)];kernel_rfl)|(rw[Ac (by decide+kernel)];exact⟨rfl,rfl⟩)
theorem xQ:Rows.topLeftOutRow.holds Tryz.pinned (OpenSpec.ofChange Rows.topLeftOutSpec):=
 OpenClaim.holds_of_wide 13 Tryz.f13 rfl rfl rfl rfl rfl rfl rfl ⟨rfl,rfl,rfl,rfl,rfl⟩ rfl rfl rfl rfl rfl named Tryz.func13 sJ
  xP wrap
  (λos started H enc _=>lifted os started H enc)
theorem proved:Rows.TopLeftOutSaid:=xQ
#print axioms proved
end Go.Proofs.YtlkgekpmileobaaGreat.lawTopLeftOut
