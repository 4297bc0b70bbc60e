/- The statement TopCopiedSaid: for every input the law returns true, and each argument reads afterwards as it read before. No condition. -/
import Derived.Test.YtlifcingifodfaaGreatRows
import Derived.Test.YtlifcingifodfaaGreatGd1
import Derived.Test.YtlifcingifodfaaGreatGd23
import Derived.Test.YtlifcingifodfaaGreatGd24
import Derived.WalkKit
import Derived.ProofKit
import Derived.OpenShut
import Derived.ShutString
import Derived.ChangeOld
import Derived.Below
set_option maxHeartbeats 4000000
namespace Go.Proofs.YtlifcingifodfaaGreat.lawTopCopied
open Go.ChangeShapes Go.WideShapes Go.ChangeAt Go.RowKit
open Go.ChangeMaps (open_string shut_string)
set_option linter.all false
set_option maxRecDepth 100000 in
theorem lifted(os:Os)(Xc:os.Started)(H:Type)(enc:TypeId×Value->H):
 ReturnsInHanded {} Tryz.checked os 9 .any (Rows.topCopiedSpec.pre6 enc Tryz.prog Tryz.f9 Rows.topCopiedRow.domain false) (Rows.topCopiedSpec.post enc Tryz.prog Tryz.f9 false true false false):=by
 refine returnsInHanded_of_change (C:=Tryz.checked) own Xc Bu Tryz.func9
  (ChangeSpec.witness6 (enc:=enc) (C:=Tryz.checked) false ⟨#[],#[.agg #[ι 0,ι 0,ι 0,.bool false],.slice none 0 0,ι 0,ι 0,ι 0],[]⟩ 8 Bu Bu Bu Bu) ?_
 intro W Tu args ds gs before hval0 hW hcnd _;have iz: ∀(j:Nat) t v,Tryz.f9.params[j]?=some t->args[j]?=some v->Value.okWide Tryz.prog W .any Tu t v:=hval0;have lM:=hW;obtain⟨p,q,hA0,hV,rfl,hfz,Ln⟩:=hW;have hA:DataW.TrodAll enc Tryz.prog W 0 (λ_=>true) true Tryz.f9.params.toList args.toList ds p:=hA0;rw[Tryz.params9] at hA iz;obtain⟨v0,vs0,d0,ds0,p0,q0,hargs,rfl,rfl,h0,r0⟩:=trodAll_cons hA;obtain⟨v1,vs1,d1,ds1,p1,q1,rfl,rfl,rfl,h1,r1⟩:=trodAll_cons r0;obtain⟨v2,vs2,d2,ds2,p2,q2,rfl,rfl,rfl,h2,r2⟩:=trodAll_cons r1;obtain⟨v3,vs3,d3,ds3,p3,q3,rfl,rfl,rfl,h3,r3⟩:=trodAll_cons r2;obtain⟨v4,vs4,d4,ds4,p4,q4,rfl,rfl,rfl,h4,r4⟩:=trodAll_cons r3;obtain⟨rfl,rfl,rfl⟩:=trodAll_nil r4;obtain rfl:args=#[v0,v1,v2,v3,v4]:=by cases args;simp_all
 obtain⟨rfl,rfl⟩:=trodVars_none hV;have k0:=h0;have lt0: ∀x∈p0,x.block<W.heap.size:=by obtain⟨m,hm⟩:=k0;exact DataW.trod_lt m _ _ _ hm
 have k1:=h1;have lt1: ∀x∈p1,x.block<W.heap.size:=by obtain⟨m,hm⟩:=k1;exact DataW.trod_lt m _ _ _ hm
 have k2:=h2;have lt2: ∀x∈p2,x.block<W.heap.size:=by obtain⟨m,hm⟩:=k2;exact DataW.trod_lt m _ _ _ hm
 have k3:=h3;have lt3: ∀x∈p3,x.block<W.heap.size:=by obtain⟨m,hm⟩:=k3;exact DataW.trod_lt m _ _ _ hm
 have k4:=h4;have lt4: ∀x∈p4,x.block<W.heap.size:=by obtain⟨m,hm⟩:=k4;exact DataW.trod_lt m _ _ _ hm
 obtain⟨c0,rfl,w0⟩:=iB (P:=Tryz.prog) (t:=23) (ks:=[some .i64,some .i64,some .i64,none]) 8 Bu Bu (iz 0 23 v0 rfl rfl) h0;obtain⟨a1,len1,cap1,rows1,rfl,w1⟩:=iC (P:=Tryz.prog) (t:=24) (e:=39) (ks:=[some .i64,some .i64,some .i64,some .u64,some .u64,some .u64,some .u64,some .u64,some .u64,some .u64,some .u64,some .u64,some .i64,some .i64,some .i64]) 8 Tryz.underlying24 Bu Bu (Do Bu) (iz 1 24 v1 rfl rfl) h1;obtain⟨a2,rfl,hd2,P1,w2⟩:=open_int Tryz.underlying3 (iz 2 3 v2 rfl rfl) h2;obtain⟨a3,rfl,hd3,Yp,w3⟩:=open_int Tryz.underlying3 (iz 3 3 v3 rfl rfl) h3;obtain⟨a4,rfl,hd4,hp4,w4⟩:=open_int Tryz.underlying3 (iz 4 3 v4 rfl rfl) h4;clear hA0 hval0;refine(Vh c0 w0 a1 len1 cap1 rows1 w1 a2 w2 a3 w3 a4 w4).mono λe W' ⟨he,bel⟩=>?_;subst he;exact⟨_,rfl,_,_,_,[],_,[],lM,trodAll_mk1 (shut_bool Tryz.underlying4 _),(trodAll_cons_mk (Below.trod laidOut Bu (Do Bu) k0 bel lt0) (trodAll_cons_mk (Below.trod laidOut Bu (Do Bu) k1 bel lt1) (trodAll_cons_mk (Below.trod laidOut Bu (Do Bu) k2 bel lt2) (trodAll_cons_mk (Below.trod laidOut Bu (Do Bu) k3 bel lt3) (trodAll_cons_mk (Below.trod laidOut Bu (Do Bu) k4 bel lt4) trodAll_mk0))))),rfl,bel.frame _,λh=>by cases h⟩
theorem AgS:Rows.topCopiedRow.holds Tryz.pinned (OpenSpec.ofChange Rows.topCopiedSpec):=
 OpenClaim.holds_of_wide 9 Tryz.f9 rfl rfl rfl rfl rfl rfl rfl ⟨rfl,rfl,rfl,rfl,rfl⟩ rfl rfl rfl rfl rfl named Tryz.func9 AaF
  AgR wrap
  (λos Xc H enc _=>lifted os Xc H enc)
theorem proved:Rows.TopCopiedSaid:=AgS
#print axioms proved
end Go.Proofs.YtlifcingifodfaaGreat.lawTopCopied
