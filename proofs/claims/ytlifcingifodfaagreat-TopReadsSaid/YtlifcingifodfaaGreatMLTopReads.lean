/- The statement TopReadsSaid: for every input the law returns true, and each argument reads afterwards as it read before. No condition. -/
import Derived.Test.YtlifcingifodfaaGreatRows
import Derived.Test.YtlifcingifodfaaGreatGg1
import Derived.Test.YtlifcingifodfaaGreatGg23
import Derived.WalkKit
import Derived.ProofKit
import Derived.OpenShut
import Derived.ShutString
import Derived.ChangeOld
import Derived.Below
set_option maxHeartbeats 4000000
namespace Go.Proofs.YtlifcingifodfaaGreat.lawTopReads
open Go.ChangeShapes Go.WideShapes Go.ChangeAt Go.RowKit
open Go.ChangeMaps (open_string shut_string)
set_option linter.unusedVariables false
set_option linter.unusedSimpArgs false
theorem own:ownKnob Tryz.prog.godebug=none:=BA
theorem laidOut:laidOutB Tryz.prog=true:=BA
set_option maxRecDepth 100000 in
theorem lifted(os:Os)(WB:os.Started)(H:Type)(enc:TypeId×Value->H):
 ReturnsInHanded {} Tryz.checked os 14 .any (Rows.topReadsSpec.pre6 enc Tryz.prog Tryz.f14 Rows.topReadsRow.domain false) (Rows.topReadsSpec.post enc Tryz.prog Tryz.f14 false true false false):=by
 refine returnsInHanded_of_change (C:=Tryz.checked) own WB BA Tryz.func14
  (ChangeSpec.witness6 (enc:=enc) (C:=Tryz.checked) false ⟨#[],#[.agg #[.int .i64 0,.int .i64 0,.int .i64 0,.bool false],.slice none 0 0],[]⟩ 8 BA BA BA BA) ?_
 intro W S6 args ds gs before hval0 hW hcnd _;have wW: ∀(j:Nat) t v,Tryz.f14.params[j]?=some t->args[j]?=some v->Value.okWide Tryz.prog W .any S6 t v:=hval0;have kI:=hW;obtain⟨p,q,hA0,hV,rfl,hfz,Le⟩:=hW;have hA:DataW.TrodAll enc Tryz.prog W 0 (λ_=>true) true Tryz.f14.params.toList args.toList ds p:=hA0;rw[Tryz.params14] at hA wW;obtain⟨v0,vs0,d0,ds0,p0,q0,hargs,rfl,rfl,h0,r0⟩:=trodAll_cons hA;obtain⟨v1,vs1,d1,ds1,p1,q1,rfl,rfl,rfl,h1,r1⟩:=trodAll_cons r0;obtain⟨rfl,rfl,rfl⟩:=trodAll_nil r1;obtain rfl:args=#[v0,v1]:=by cases args;simp_all
 obtain⟨rfl,rfl⟩:=trodVars_none hV;have k0:=h0;have lt0: ∀x∈p0,x.block<W.heap.size:=by obtain⟨m,hm⟩:=k0;exact DataW.trod_lt m _ _ _ hm
 have k1:=h1;have lt1: ∀x∈p1,x.block<W.heap.size:=by obtain⟨m,hm⟩:=k1;exact DataW.trod_lt m _ _ _ hm
 obtain⟨c0,rfl,w0⟩:=gE (P:=Tryz.prog) (t:=23) (ks:=[some .i64,some .i64,some .i64,none]) 8 BA BA (wW 0 23 v0 rfl rfl) h0;obtain⟨a1,len1,cap1,rows1,rfl,w1⟩:=gF (P:=Tryz.prog) (t:=24) (e:=39) (ks:=[some .i64,some .i64,some .i64,some .u64,some .u64,some .u64,some .u64,some .u64,some .u64,some .u64,some .u64,some .u64,some .i64,some .i64,some .i64]) 8 Tryz.underlying24 BA BA (ER BA) (wW 1 24 v1 rfl rfl) h1;clear hA0 hval0;refine(Vp c0 w0 a1 len1 cap1 rows1 w1).mono λe W' ⟨he,bel⟩=>?_;subst he;exact⟨_,rfl,_,_,_,[],_,[],kI,trodAll_mk1 (shut_bool Tryz.underlying4 _),(trodAll_cons_mk (Below.trod laidOut BA (ER BA) k0 bel lt0) (trodAll_cons_mk (Below.trod laidOut BA (ER BA) k1 bel lt1) trodAll_mk0)),rfl,bel.frame _,λh=>by cases h⟩
theorem AcJ{a b:Bool}(h1:a=true)(h2:b=true):(a&&b)=true:=by rw[h1,h2];rfl
theorem zy:joinedFacts Tryz.pinned.checked.prog 14 Tryz.f14 Rows.topReadsSpec Rows.topReadsRow=true:=by
 unfold joinedFacts
 repeat' with_reducible apply AcJ
 all_goals as_aux_lemma=>kernel_rfl
theorem named:Tryz.pinned.checked.prog.funcNamed Rows.topReadsRow.func=some 14:=BA
theorem AfO:Tryz.f14.isInstance Tryz.pinned.checked.prog Rows.topReadsRow.origin Rows.topReadsRow.targs:=ER BA
theorem wrap:Tryz.f14.isWrapper Tryz.pinned.checked.prog Rows.topReadsRow.wrapper Rows.topReadsRow.mainSum:=by unfold Func.isWrapper;first|(rw[Ad (by decide+kernel)];kernel_rfl)|(rw[Ab (by decide+kernel)];exact⟨rfl,rfl⟩)
theorem AfP:Rows.topReadsRow.holds Tryz.pinned (OpenSpec.ofChange Rows.topReadsSpec):=
 OpenClaim.holds_of_wide 14 Tryz.f14 rfl rfl rfl rfl rfl rfl rfl ⟨rfl,rfl,rfl,rfl,rfl⟩ rfl rfl rfl rfl rfl named Tryz.func14 zy
  AfO wrap
  (λos WB H enc _=>lifted os WB H enc)
theorem proved:Rows.TopReadsSaid:=AfP
#print axioms proved
end Go.Proofs.YtlifcingifodfaaGreat.lawTopReads
