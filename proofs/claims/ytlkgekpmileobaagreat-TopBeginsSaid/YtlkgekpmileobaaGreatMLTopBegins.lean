/- The statement TopBeginsSaid: for every input the law returns true, and each argument reads afterwards as it read before. No condition. -/
import Derived.Test.YtlkgekpmileobaaGreatRows
import Derived.Test.YtlkgekpmileobaaGreatGb1
import Derived.Test.YtlkgekpmileobaaGreatGb51
import Derived.WalkKit
import Derived.ProofKit
import Derived.OpenShut
import Derived.ShutString
import Derived.ChangeOld
import Derived.Below
namespace Go.Proofs.YtlkgekpmileobaaGreat.lawTopBegins
open Go.ChangeShapes Go.WideShapes Go.ChangeAt Go.RowKit
open Go.ChangeMaps (open_string shut_string)
set_option linter.unusedVariables false
set_option linter.unusedSimpArgs false
theorem own:ownKnob Tryz.prog.godebug=none:=Bv
theorem laidOut:laidOutB Tryz.prog=true:=Bv
set_option maxRecDepth 100000 in
theorem lifted(os:Os)(started:os.Started)(H:Type)(enc:TypeId×Value->H):
 ReturnsInHanded {} Tryz.checked os 5 .any (Rows.topBeginsSpec.pre6 enc Tryz.prog Tryz.f5 Rows.topBeginsRow.domain false) (Rows.topBeginsSpec.post enc Tryz.prog Tryz.f5 false true false false):=by
 refine returnsInHanded_of_change (C:=Tryz.checked) own started Bv Tryz.func5
  (ChangeSpec.witness6 (enc:=enc) (C:=Tryz.checked) false ⟨#[],#[.agg #[.int .i64 0,.int .i64 0,.int .i64 0,.bool false],.slice none 0 0],[]⟩ 8 Bv Bv Bv Bv) ?_
 intro W base args ds gs before hval0 hW hcnd _;have hval: ∀(j:Nat) t v,Tryz.f5.params[j]?=some t->args[j]?=some v->Value.okWide Tryz.prog W .any base t v:=hval0;have hW':=hW;obtain⟨p,q,hA0,hV,rfl,hfz,hnd⟩:=hW;have hA:DataW.TrodAll enc Tryz.prog W 0 (λ_=>true) true Tryz.f5.params.toList args.toList ds p:=hA0;rw[Tryz.params5] at hA hval;obtain⟨v0,vs0,d0,ds0,p0,q0,hargs,rfl,rfl,h0,r0⟩:=trodAll_cons hA;obtain⟨v1,vs1,d1,ds1,p1,q1,rfl,rfl,rfl,h1,r1⟩:=trodAll_cons r0;obtain⟨rfl,rfl,rfl⟩:=trodAll_nil r1;obtain rfl:args=#[v0,v1]:=by cases args;simp_all
 obtain⟨rfl,rfl⟩:=trodVars_none hV;have k0:=h0;have lt0: ∀x∈p0,x.block<W.heap.size:=by obtain⟨m,hm⟩:=k0;exact DataW.trod_lt m _ _ _ hm
 have k1:=h1;have lt1: ∀x∈p1,x.block<W.heap.size:=by obtain⟨m,hm⟩:=k1;exact DataW.trod_lt m _ _ _ hm
 obtain⟨c0,rfl,w0⟩:=ak (P:=Tryz.prog) (t:=23) (ks:=[some .i64,some .i64,some .i64,none]) 8 Bv Bv (hval 0 23 v0 rfl rfl) h0;obtain⟨a1,len1,cap1,rows1,rfl,w1⟩:=al (P:=Tryz.prog) (t:=24) (e:=39) (ks:=[some .i64,some .i64,some .i64,some .u64,some .u64,some .u64,some .u64,some .u64,some .u64,some .u64,some .u64,some .u64,some .i64,some .i64,some .i64]) 8 Tryz.underlying24 Bv Bv (Ey Bv) (hval 1 24 v1 rfl rfl) h1;clear hA0 hval0;refine(Sm c0 w0 a1 len1 cap1 rows1 w1).mono λe W' ⟨he,bel⟩=>?_;subst he;exact⟨_,rfl,_,_,_,[],_,[],hW',trodAll_mk1 (shut_bool Tryz.underlying4 _),(trodAll_cons_mk (Below.trod laidOut Bv (Ey Bv) k0 bel lt0) (trodAll_cons_mk (Below.trod laidOut Bv (Ey Bv) k1 bel lt1) trodAll_mk0)),rfl,bel.frame _,λh=>by cases h⟩
theorem sC{a b:Bool}(h1:a=true)(h2:b=true):(a&&b)=true:=by rw[h1,h2];rfl
set_option maxHeartbeats 4000000 in
theorem pW:joinedFacts Tryz.pinned.checked.prog 5 Tryz.f5 Rows.topBeginsSpec Rows.topBeginsRow=true:=by
 unfold joinedFacts
 repeat' with_reducible apply sC
 all_goals as_aux_lemma=>kernel_rfl
theorem named:Tryz.pinned.checked.prog.funcNamed Rows.topBeginsRow.func=some 5:=Bv
theorem uF:Tryz.f5.isInstance Tryz.pinned.checked.prog Rows.topBeginsRow.origin Rows.topBeginsRow.targs:=Ey Bv
theorem wrap:Tryz.f5.isWrapper Tryz.pinned.checked.prog Rows.topBeginsRow.wrapper Rows.topBeginsRow.mainSum:=by unfold Func.isWrapper;first|(rw[Ae (by decide+kernel)];kernel_rfl)|(rw[Ac (by decide+kernel)];exact⟨rfl,rfl⟩)
theorem uG:Rows.topBeginsRow.holds Tryz.pinned (OpenSpec.ofChange Rows.topBeginsSpec):=
 OpenClaim.holds_of_wide 5 Tryz.f5 rfl rfl rfl rfl rfl rfl rfl ⟨rfl,rfl,rfl,rfl,rfl⟩ rfl rfl rfl rfl rfl named Tryz.func5 pW
  uF wrap
  (λos started H enc _=>lifted os started H enc)
theorem proved:Rows.TopBeginsSaid:=uG
#print axioms proved
end Go.Proofs.YtlkgekpmileobaaGreat.lawTopBegins
