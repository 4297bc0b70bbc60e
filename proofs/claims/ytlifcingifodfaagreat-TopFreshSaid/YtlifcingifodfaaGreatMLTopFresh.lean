/- The statement TopFreshSaid: for every input the law returns true, and each argument reads afterwards as it read before. No condition. -/
import Derived.Test.YtlifcingifodfaaGreatRows
import Derived.Test.YtlifcingifodfaaGreatGc1
import Derived.Test.YtlifcingifodfaaGreatGc53
import Derived.WalkKit
import Derived.ProofKit
import Derived.OpenShut
import Derived.ShutString
import Derived.ChangeOld
import Derived.Below
set_option maxHeartbeats 4000000
namespace Go.Proofs.YtlifcingifodfaaGreat.lawTopFresh
open Go.ChangeShapes Go.WideShapes Go.ChangeAt Go.RowKit
open Go.ChangeMaps (open_string shut_string)
set_option linter.unusedVariables false
set_option linter.unusedSimpArgs false
theorem own:ownKnob Tryz.prog.godebug=none:=BB
theorem laidOut:laidOutB Tryz.prog=true:=BB
set_option maxRecDepth 100000 in
theorem lifted(os:Os)(Wj:os.Started)(H:Type)(enc:TypeId×Value->H):
 ReturnsInHanded {} Tryz.checked os 8 .any (Rows.topFreshSpec.pre6 enc Tryz.prog Tryz.f8 Rows.topFreshRow.domain false) (Rows.topFreshSpec.post enc Tryz.prog Tryz.f8 false true false false):=by
 refine returnsInHanded_of_change (C:=Tryz.checked) own Wj BB Tryz.func8
  (ChangeSpec.witness6 (enc:=enc) (C:=Tryz.checked) false ⟨#[],#[.agg #[.int .i64 0,.int .i64 0,.int .i64 0,.bool false],.slice none 0 0],[]⟩ 8 BB BB BB BB) ?_
 intro W SK args ds gs before hval0 hW hcnd _;have vH: ∀(j:Nat) t v,Tryz.f8.params[j]?=some t->args[j]?=some v->Value.okWide Tryz.prog W .any SK t v:=hval0;have jP:=hW;obtain⟨p,q,hA0,hV,rfl,hfz,KP⟩:=hW;have hA:DataW.TrodAll enc Tryz.prog W 0 (λ_=>true) true Tryz.f8.params.toList args.toList ds p:=hA0;rw[Tryz.params8] at hA vH;obtain⟨v0,vs0,d0,ds0,p0,q0,hargs,rfl,rfl,h0,r0⟩:=trodAll_cons hA;obtain⟨v1,vs1,d1,ds1,p1,q1,rfl,rfl,rfl,h1,r1⟩:=trodAll_cons r0;obtain⟨rfl,rfl,rfl⟩:=trodAll_nil r1;obtain rfl:args=#[v0,v1]:=by cases args;simp_all
 obtain⟨rfl,rfl⟩:=trodVars_none hV;have k0:=h0;have lt0: ∀x∈p0,x.block<W.heap.size:=by obtain⟨m,hm⟩:=k0;exact DataW.trod_lt m _ _ _ hm
 have k1:=h1;have lt1: ∀x∈p1,x.block<W.heap.size:=by obtain⟨m,hm⟩:=k1;exact DataW.trod_lt m _ _ _ hm
 obtain⟨c0,rfl,w0⟩:=fP (P:=Tryz.prog) (t:=23) (ks:=[some .i64,some .i64,some .i64,none]) 8 BB BB (vH 0 23 v0 rfl rfl) h0;obtain⟨a1,len1,cap1,rows1,rfl,w1⟩:=fR (P:=Tryz.prog) (t:=24) (e:=39) (ks:=[some .i64,some .i64,some .i64,some .u64,some .u64,some .u64,some .u64,some .u64,some .u64,some .u64,some .u64,some .u64,some .i64,some .i64,some .i64]) 8 Tryz.underlying24 BB BB (EL BB) (vH 1 24 v1 rfl rfl) h1;clear hA0 hval0;refine(U8 c0 w0 a1 len1 cap1 rows1 w1).mono λe W' ⟨he,bel⟩=>?_;subst he;exact⟨_,rfl,_,_,_,[],_,[],jP,trodAll_mk1 (shut_bool Tryz.underlying4 _),(trodAll_cons_mk (Below.trod laidOut BB (EL BB) k0 bel lt0) (trodAll_cons_mk (Below.trod laidOut BB (EL BB) k1 bel lt1) trodAll_mk0)),rfl,bel.frame _,λh=>by cases h⟩
theorem AbA{a b:Bool}(h1:a=true)(h2:b=true):(a&&b)=true:=by rw[h1,h2];rfl
theorem ye:joinedFacts Tryz.pinned.checked.prog 8 Tryz.f8 Rows.topFreshSpec Rows.topFreshRow=true:=by
 unfold joinedFacts
 repeat' with_reducible apply AbA
 all_goals as_aux_lemma=>kernel_rfl
theorem named:Tryz.pinned.checked.prog.funcNamed Rows.topFreshRow.func=some 8:=BB
theorem Aes:Tryz.f8.isInstance Tryz.pinned.checked.prog Rows.topFreshRow.origin Rows.topFreshRow.targs:=EL BB
theorem wrap:Tryz.f8.isWrapper Tryz.pinned.checked.prog Rows.topFreshRow.wrapper Rows.topFreshRow.mainSum:=by unfold Func.isWrapper;first|(rw[Ac (by decide+kernel)];kernel_rfl)|(rw[Ab (by decide+kernel)];exact⟨rfl,rfl⟩)
theorem Aet:Rows.topFreshRow.holds Tryz.pinned (OpenSpec.ofChange Rows.topFreshSpec):=
 OpenClaim.holds_of_wide 8 Tryz.f8 rfl rfl rfl rfl rfl rfl rfl ⟨rfl,rfl,rfl,rfl,rfl⟩ rfl rfl rfl rfl rfl named Tryz.func8 ye
  Aes wrap
  (λos Wj H enc _=>lifted os Wj H enc)
theorem proved:Rows.TopFreshSaid:=Aet
#print axioms proved
end Go.Proofs.YtlifcingifodfaaGreat.lawTopFresh
