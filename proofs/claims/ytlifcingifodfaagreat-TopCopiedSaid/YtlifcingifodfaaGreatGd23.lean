/- Laws. -/
import Derived.Test.YtlifcingifodfaaGreatGd22
set_option maxHeartbeats 4000000
set_option linter.all false
namespace Go.Proofs.YtlifcingifodfaaGreat
open Tryz
open List renaming toArray→τ
open Go.RowKit
set_option maxRecDepth 20000
variable{S S':KT}{C k F wb n a T:Nat}{L G lw:Ac}{th:A8}{t:Int}{e:ME}
theorem ax{cs:Array Value}{j:Nat}{xs:Ap}{v:Value}(h:a+k<=cs.size)(e:cs.extract a (a+k)=τ xs)(hj:xs[j]?=some v)(hk:j<k):cs[a+j]?=some v:=by have h1:(cs.extract a (a+k))[j]?=(τ xs)[j]?:=BM (λA:Array Value=>A[j]?) e;rw[DN,Ad Af] at h1;exact h1.trans (by simpa using hj)
theorem ay(c:Ap)(vh:Value)(ts:List Th.ThT)(id:Int)(l:Ac)(hc:(τ c)[3]?=some vh)(hv:RowSl l vh 24 Th.encH ts)(hn:ts.length<=1000000):Fn prog 27 [.agg (τ c),ι id] l λv l'=>v= .agg (τ (Th.encH ((Th.findH ts id).getD Th.thZ)))/\l'=l:=by
 obtain⟨a,cap,rfl,hr⟩:=hv;refine AO func27 ntmps27 λE=>?_;refine Aj ?_;refine AP (Cw rfl) ?_;rintro _ _ ⟨b2,_,rfl,rfl⟩;refine AR λb4=>?_;refine CF (α:=Nat) (λk=>[(1,ι id),(2,pV b2),(4,pV b4),(5,ι k)]) (λk=>Th.thC b4 Th.thZ::LE b2 c::l) (λk=>k<=ts.length/\ ∀t,t∈ts.take k->¬t.id=id) (λk=>ts.length-k) 0 ⟨Bm _,λt h=>by simp at h⟩ ⟨rfl,rfl,rfl,rfl,trivial⟩ .refl ?_;rintro k ⟨hk,HI⟩;by_cases C7:k<ts.length
 ·obtain⟨t,e1⟩: ∃t,ts[k]?=some t:=⟨_,Ak C7⟩
  obtain⟨b,off,cs,ty,fz,rfl,hm,KZ⟩:=hr Af;obtain⟨g1,g2⟩:=KZ k t e1;have g3:cs[off+k*24+0]?=some (iV t.id):=ax g1 g2 rfl A0;have W9:(b,Obj.cells cs ty fz)∈Th.thC b4 Th.thZ::LE b2 c::l:= .tail _ (.tail _ hm);refine Aj ?_;refine Be (DQ (v:=iV t.id) rfl W9 g3) ?_;by_cases he:t.id=id
  ·have hf:Th.findH ts id=some t:=by
    obtain⟨hl,hx⟩:=Aw.1 e1;refine E8.2 ⟨by simpa using he,k,hl,hx,λj hj=>?_⟩;have:=HI ts[j] (Ga.2 ⟨j,Af,rfl⟩);simpa using this
   rw[hf];refine Aj ?_;refine Be (Dp rfl W9 g1 g2) ?_;refine Aj ?_;exact AU [] _ rfl .refl (B0 rfl (.head _) (As.LSub.of_all (n:=24) (Th.encH t) rfl) Ba) θ ⟨rfl,rfl⟩
  ·refine Aj ?_;exact BZ (k+1) ⟨Af,λx hx=>by
    rw[BP,e1,AB] at hx;rcases hx with hx|hx
    ·exact HI x hx
    ·simp at hx;rw[hx];exact he⟩ Af ⟨rfl,rfl,rfl,rfl,trivial⟩ .refl
 ·obtain rfl:k=ts.length:=by omega
  have hf:Th.findH ts id=none:=Bp.2 λx hx=>by simpa using HI x (by rw[CK];exact hx)
  rw[hf];refine Aj ?_;exact AU [] _ rfl .refl (B0 rfl (.head _) (As.LSub.of_all (n:=24) (Th.encH Th.thZ) rfl) Ba) θ ⟨rfl,rfl⟩
theorem AaB{x:VwL}(h:IsVwK C S x): ∀v,v∈LI x.vo x.vc x.vt x.vh S.N x.vr x.vq->v.oneCell'=true:=by
 intro v hv;simp only[Au,AB,BR,EF] at hv;rcases hv with rfl|rfl|rfl|rfl|hv|rfl|rfl
 ·exact h.o.one
 ·exact h.c.one
 ·exact h.t.one
 ·exact h.h.one
 ·exact Ro _ v hv
 ·exact h.r.one
 ·exact h.q.one
section
variable{st:List (Int×List NoT)}
theorem Rp(hW:IsWo F C k S th st wb lw)(hP:L.Perm (lw++G)):Fn prog 21 [pV wb] L λv l'=> ∃x:VwL,v= .agg (τ (LI x.vo x.vc x.vt x.vh S.N x.vr x.vq))/\IsVwK C S x/\l'=x.all++L:=
 Fn.re (.of_perm hP) (WY hW G) λv l' ⟨x,h1,h2,h3⟩=>⟨x.all++L,by rw[h3];exact .of_perm (hP.symm.append_left _),x,h1,h2,rfl⟩
theorem WZ(hW:IsWo F C k S th st wb lw)(hP:L.Perm (lw++G)):Fn prog 37 [pV wb] L λv l'=> ∃c X,OwnSl 34 1 v S.W.length (S.W.map Bb) c/\l'=c++(X++L):=
 Fn.re (.of_perm hP) (ea hW G) λv l' ⟨c,X,h1,h2⟩=>⟨c++(X++L),by rw[h2];exact .of_perm ((hP.symm.append_left _).append_left _),c,X,h1,rfl⟩
end
abbrev vwZ:Ap:=Di::Di::Di::Di::(Qo++[Di,Di])
theorem qB(c:Ap)(vo:Value)(os:List Ar.ObT)(id:Int)(l:Ac)(hc:(τ c)[0]?=some vo)(hv:RowSl l vo 9 Ar.obC os)(hn:os.length<=1000000):Fn prog 38 [.agg (τ c),ι id] l λv l'=>v= .agg (τ (Ar.obC ((os.find? λo=>decide (o.id=id)).getD Ar.obO)))/\l'=l:=by
 obtain⟨a,cap,rfl,hr⟩:=hv;refine AO func38 ntmps38 λE=>?_;refine Aj ?_;refine AP (Cw rfl) ?_;rintro _ _ ⟨b2,_,rfl,rfl⟩;refine AR λb4=>?_;refine CF (α:=Nat) (λk=>[(1,ι id),(2,pV b2),(4,pV b4),(5,ι k)]) (λk=>aa b4 Ar.obO::LE b2 c::l) (λk=>k<=os.length/\ ∀t,t∈os.take k->¬t.id=id) (λk=>os.length-k) 0 ⟨Bm _,λt h=>by simp at h⟩ ⟨rfl,rfl,rfl,rfl,trivial⟩ .refl ?_;rintro k ⟨hk,HI⟩;by_cases C7:k<os.length
 ·obtain⟨t,e1⟩: ∃t,os[k]?=some t:=⟨_,Ak C7⟩
  obtain⟨b,off,cs,ty,fz,rfl,hm,KZ⟩:=hr Af;obtain⟨g1,g2⟩:=KZ k t e1;have g3:cs[off+k*9+0]?=some (iV t.id):=ax g1 g2 rfl A0;have W9:(b,Obj.cells cs ty fz)∈aa b4 Ar.obO::LE b2 c::l:= .tail _ (.tail _ hm);refine Aj ?_;refine Be (DQ (v:=iV t.id) rfl W9 g3) ?_;by_cases he:t.id=id
  ·have hf:os.find? (λo=>decide (o.id=id))=some t:=by
    obtain⟨hl,hx⟩:=Aw.1 e1;refine E8.2 ⟨by simpa using he,k,hl,hx,λj hj=>?_⟩;have:=HI os[j] (Ga.2 ⟨j,Af,rfl⟩);simpa using this
   rw[hf];refine Aj ?_;refine Be (Dp rfl W9 g1 g2) ?_;refine Aj ?_;exact AU [] _ rfl .refl (B0 rfl (.head _) (As.LSub.of_all (n:=9) (Ar.obC t) rfl) Ba) θ ⟨rfl,rfl⟩
  ·refine Aj ?_;exact BZ (k+1) ⟨Af,λx hx=>by
    rw[BP,e1,AB] at hx;rcases hx with hx|hx
    ·exact HI x hx
    ·simp at hx;rw[hx];exact he⟩ Af ⟨rfl,rfl,rfl,rfl,trivial⟩ .refl
 ·obtain rfl:k=os.length:=by omega
  have hf:os.find? (λo=>decide (o.id=id))=none:=Bp.2 λx hx=>by simpa using HI x (by rw[CK];exact hx)
  rw[hf];refine Aj ?_;exact AU [] _ rfl .refl (B0 rfl (.head _) (As.LSub.of_all (n:=9) (Ar.obC Ar.obO) rfl) Ba) θ ⟨rfl,rfl⟩
theorem ie{x y:Ch}(h:¬x=y):BU (Cd x) (Cd y)=false:=by
 cases hq:BU (Cd x) (Cd y) with
 |false=>rfl
 |true=>have:=(Gr (ks:=[some .i64,some .i64]) (Fg (by rfl)) (Fg (by rfl))).1 hq;simp only[Cd,Cj,Value.int.injEq,GH,IC] at this;exact absurd (Eu this.1 this.2) h
theorem ig(x:Ch):BU (Cd x) (Cd x)=true:=Gq (ks:=[some .i64,some .i64]) (Fg (by rfl))
abbrev slB(B:Nat)(s:Ch):Bh:=(B,.cells (τ (Cd s)) 61 (0,0))
theorem qD(c:Ap)(vc:Value)(hs:List NW)(s:Ch)(l:Ac)(hc:(τ c)[1]?=some vc)(hv:RowSl l vc 10 Ny hs)(hn:hs.length<=1000000):Fn prog 26 [.agg (τ c),Fy s] l λv l'=>v=Vs (vheld hs s)/\l'=l:=by
 obtain⟨a,cap,rfl,hr⟩:=hv;refine AO func26 ntmps26 λE=>?_;refine Aj ?_;refine AP (Cw rfl) ?_;rintro _ _ ⟨b2,_,rfl,rfl⟩;refine AP (Cw rfl) ?_;rintro _ _ ⟨b3,_,rfl,rfl⟩;refine AR λb4=>?_;refine CF (α:=Nat) (λk=>[(2,pV b2),(3,pV b3),(4,pV b4),(5,ι k)]) (λk=>Bw b4 Cu::slB b3 s::LE b2 c::l) (λk=>k<=hs.length/\ ∀h,h∈hs.take k->¬h.1=s) (λk=>hs.length-k) 0 ⟨Bm _,by simp⟩ ⟨rfl,rfl,rfl,rfl,trivial⟩ .refl ?_;rintro k ⟨hk,HI⟩;by_cases C7:k<hs.length
 ·obtain⟨h,e1⟩: ∃h,hs[k]?=some h:=⟨_,Ak C7⟩
  obtain⟨b,off,cs,t,fz,rfl,hm,KZ⟩:=hr Af;obtain⟨g1,g2⟩:=KZ k h e1;have W9:(b,Obj.cells cs t fz)∈Bw b4 Cu::slB b3 s::LE b2 c::l:= .tail _ (.tail _ (.tail _ hm));have g3:cs.extract (off+k*10+0) (off+k*10+0+2)=τ (Cd h.1):=Zt g2 g1 A0;have g4:cs.extract (off+k*10+2) (off+k*10+2+8)=τ (Cb h.2):=Zt g2 g1 A0;refine Aj ?_;refine Ct [] 8 _ ?_ (hR:=(λ_ h=>h));refine BJ ?_;refine N9 (Dp rfl W9 Af g3) rfl rfl rfl ?_;refine BJ ?_;refine N9 (FC (ks:=[some .i64,some .i64]) (xs:=Cd h.1) (ys:=Cd s) rfl rfl (Fg (by rfl)) (Fg (by rfl))) rfl rfl rfl ?_;by_cases he:h.1=s
  ·rw[he,ig];have hf:vheld hs s=h.2:=by
    have h3:hs.find? (λh=>decide (h.1=s))=some h:=by obtain⟨hl,hx⟩:=Aw.1 e1;refine E8.2 ⟨by simpa using he,k,hl,hx,λj hj=>?_⟩;have:=HI hs[j] (Ga.2 ⟨j,Af,rfl⟩);simpa using this
    unfold vheld;rw[h3];rfl
   rw[hf];refine BJ ?_;refine Aj ?_;refine Be (Dp rfl W9 Af g4) ?_;refine Aj ?_;exact AU (vs:=[Vs h.2]) [] _ rfl .refl (B0 rfl (.head _) (As.LSub.of_all (n:=8) (Cb h.2) rfl) Ba) σ ⟨rfl,rfl⟩
  ·rw[ie he];refine BJ ?_;refine Aj ?_;exact BZ (k+1) ⟨Af,λx hx=>by
    rw[BP,e1,AB] at hx;rcases hx with hx|hx
    ·exact HI x hx
    ·simp at hx;rw[hx];exact he⟩ Af ⟨rfl,rfl,rfl,rfl,trivial⟩ .refl
 ·obtain rfl:k=hs.length:=by omega
  have hf:vheld hs s=Cu:=by unfold vheld;rw[Bp.2 λx hx=>by simpa using HI x (by rw[CK];exact hx)];rfl
  rw[hf];refine Aj ?_;exact AU (vs:=[Vs Cu]) [] _ rfl .refl (B0 rfl (.head _) (As.LSub.of_all (n:=8) (Cb Cu) rfl) Ba) σ ⟨rfl,rfl⟩
theorem qE(h:n<=12):(2:Nat)^n<=4096:=B9 (Cp Af h) A0
theorem xu(h:n<=12):IntKind.i64.wrap ((1:Int)*2^n)=((2^n:Nat):Int):=by
 have:=qE h;have e:(1:Int)*2^n=((2^n:Nat):Int):=by rw[Int.one_mul];norm_cast
 rw[e];exact wB Af
theorem xx(a n:Nat):((a:Nat):Int)/2^n=((a/2^n:Nat):Int):=by norm_cast
theorem QY(c:Ap)(vo vc:Value)(id:Int)(Bv:Nat)(ha:Bv<16)(hR:VH S.A)(hb: ∀s,(vheld (CI S.H.1) s).kind=2->0<=(vheld (CI S.H.1) s).bits/\(vheld (CI S.H.1) s).bits<=12)(l:Ac)(ho:(τ c)[0]?=some vo)(hc:(τ c)[1]?=some vc)(hvo:RowSl l vo 9 Ar.obC S.A.os)(hvc:RowSl l vc 10 Ny (CI S.H.1))(hl:c.length=86)(z1:S.A.os.length<=900000)(z2:(CI S.H.1).length<=900000):
 Fn prog 23 [.agg (τ c),ι id,υ (Bv:Nat)] l λv l'=>v= .tuple #[Fy (Fx S id Bv).1,.bool (Fx S id Bv).2]/\l'=l:=by
 have hh:=λ(s:Ch) (l2:Ac) (h: ∀d,d∈l->d∈l2)=>qD c vc (CI S.H.1) s l2 hc (hvc.mono h) Af;have aM:=λ(i:Int) (l2:Ac) (h: ∀d,d∈l->d∈l2)=>qB c vo S.A.os i l2 ho (hvo.mono h) Af;refine AO func23 ntmps23 λE=>?_;refine Aj ?_;refine AP (Cw rfl) ?_;rintro _ _ ⟨b3,_,rfl,rfl⟩;refine AR λb6=>?_;refine Be (E1 rfl ν (As.LSub.of_all (n:=86) c hl)) ?_;refine Aj ?_;refine Be (AI (vs:=[.agg (τ c),Fy (id,0)]) rfl rfl λl2 JP=>hh (id,0) l2 λd hd=>JP d (.tail _ (.tail _ hd))) ?_;refine AR λb8=>?_;refine AR λGW=>?_;refine CF (α:=Nat×CapT×Nat×Ch) (λx=>[(1,ι id),(2,υ (Bv:Nat)),(3,pV b3),(6,pV b6),(8,pV b8),(9,ι (x.2.2.1:Nat)),(10,pV GW)]) (λx=>slB GW x.2.2.2::Bw b8 x.2.1::slB b6 (0,0)::LE b3 c::l) (λx=>x.2.2.1<=12/\x.2.2.1<x.1/\JI (CI S.H.1) S.A.os Bv x.1 x.2.1 (x.2.2.1:Nat) x.2.2.2=Fx S id Bv/\ ∃s,x.2.1=vheld (CI S.H.1) s) (λx=>x.1) (14,vheld (CI S.H.1) (id,0),12,(0,0)) ⟨by simp only;omega,by simp only;omega,rfl,_,rfl⟩ ⟨rfl,rfl,rfl,rfl,rfl,rfl,rfl,trivial⟩ .refl ?_;rintro⟨f,d,left,s⟩ ⟨iy,hf,hv,s0,qS⟩;simp only at iy hf hv qS⊢;cases f with
 |zero=>omega
 |succ f=>
 unfold JI at hv;by_cases xD:left=0
 ·rw[Ad Af] at hv;rw[<-hv];refine Aj ?_;exact AU (vs:=[Fy s,.bool true]) [] _ rfl .refl (B0 rfl ω (As.LSub.of_all (n:=2) (Cd s) rfl) Ba) φ ⟨rfl,rfl⟩
 rw[Ab Af] at hv;refine Aj ?_;refine Be (E1 rfl η (As.LSub.of_all (n:=86) c hl)) ?_;refine Aj ?_;refine Be (AI (vs:=[.agg (τ c),ι d.obj]) rfl rfl λl2 JP=>aM d.obj l2 λx hx=>JP x (.tail _ (.tail _ (.tail _ (.tail _ hx))))) ?_;refine AP e_alloc ?_;rintro _ _ ⟨Ms,_,rfl,rfl⟩;unfold St at hv;obtain⟨o,hoo⟩:=ξ (VR S.A.os d.obj)
 rw[hoo] at hv;rw[show((S.A.os.find? λo=>decide (o.id=d.obj)).getD Ar.obO)=o from hoo];refine Aj ?_;by_cases k1:d.kind=2
 case neg=>rw[Ad (.inl k1)] at hv;rw[<-hv];refine Aj ?_;exact AU (vs:=[Fy s,.bool false]) [] _ rfl .refl (B0 rfl η (As.LSub.of_all (n:=2) (Cd s) rfl) Ba) ψ ⟨rfl,rfl⟩
 by_cases k2:o.kd=2
 case neg=>rw[Ad (.inr (.inl k2))] at hv;rw[<-hv];refine Aj ?_;exact AU (vs:=[Fy s,.bool false]) [] _ rfl .refl (B0 rfl η (As.LSub.of_all (n:=2) (Cd s) rfl) Ba) ψ ⟨rfl,rfl⟩
 obtain⟨b1,b2⟩:=hb s0 (by rw[<-qS];exact k1);rw[<-qS] at b1 b2;have hz:1<=o.sz/\o.sz<=4:=by rw[<-hoo] at k2⊢;rw[U8] at k2⊢;exact hR _ (Q5 (qh k2)).1 k2
 by_cases k3:(left:Int)<d.bits+o.sz
 ·rw[Ad (.inr (.inr k3))] at hv;rw[<-hv];refine Aj ?_;exact AU (vs:=[Fy s,.bool false]) [] _ rfl .refl (B0 rfl η (As.LSub.of_all (n:=2) (Cd s) rfl) Ba) ψ ⟨rfl,rfl⟩
 rw[Ab λe=>e.elim (λe=>e k1) λe=>e.elim (λe=>e k2) k3] at hv;obtain⟨bN,hbN⟩: ∃n:Nat,d.bits=n:=⟨d.bits.toNat,Af⟩
 obtain⟨zN,hzN⟩: ∃n:Nat,o.sz=n:=⟨o.sz.toNat,Af⟩
 refine Aj ?_;rw[show(left:Int)-d.bits=((left-bN:Nat):Int) by omega];have fld: ∀at' n:Nat,((Bv/2^at')&&& (2^n-1))=DF Bv at' n:=λ_ _=>Zn;refine Ct [] 12 _ ?_ (hR:=(λ_ h=>h));refine BJ ?_;refine N9 (fe (n:=left-bN) rfl rfl (by show _<=64;omega)) rfl rfl rfl ?_;rw[xx];have q1:Bv/2^(left-bN)<=Bv:=KC _ _;obtain⟨v1,Js⟩:=ξ (Bv/2^(left-bN))
 have f1:=fld (left-bN) bN;rw[Js] at q1 f1⊢;refine BJ ?_;refine N9 (QN (n:=bN) (i:=1) rfl (by rw[<-hbN];rfl) (by show _<=64;omega)) rfl rfl rfl ?_;rw[xu Af];have q2:=qE (n:=bN) Af;have q3:=Fs bN;obtain⟨p1,it⟩:=ξ (2^bN)
 rw[it] at q2 q3 f1⊢;refine BJ ?_;rw[show(p1:Int)-1=((p1-1:Nat):Int) by omega];refine N9 (bY (a:=v1) (b:=p1-1) rfl rfl Af Af) rfl rfl rfl ?_;rw[f1];refine BJ ?_;by_cases k4:((DF Bv (left-bN) bN:Nat):Int)=d.guard
 case neg=>rw[Ad (by rw[show((left:Int)-d.bits).toNat=left-bN by omega,show d.bits.toNat=bN by omega];exact k4)] at hv;rw[<-hv];refine BJ ?_;refine Aj ?_;exact AU (vs:=[Fy s,.bool false]) [] _ rfl .refl (B0 rfl η (As.LSub.of_all (n:=2) (Cd s) rfl) Ba) ψ ⟨rfl,rfl⟩
 rw[Ab (by rw[show((left:Int)-d.bits).toNat=left-bN by omega,show d.bits.toNat=bN by omega];exact λh=>h k4)] at hv;simp only at hv;refine BJ ?_;refine Aj ?_;rw[show((left-bN:Nat):Int)-o.sz=((left-(bN+zN):Nat):Int) by omega];have f2:=fld (left-(bN+zN)) zN;refine Ct [12] 13 ([aa Ms o,Bw b8 d]) ?_ (hR:=(in2 Ca Ca));refine BJ ?_;refine N9 (fe (n:=left-(bN+zN)) rfl rfl (by show _<=64;omega)) rfl rfl rfl ?_;rw[xx];have q4:Bv/2^(left-(bN+zN))<=Bv:=KC _ _;obtain⟨v2,hv2⟩:=ξ (Bv/2^(left-(bN+zN)))
 rw[hv2] at q4 f2⊢;refine BJ ?_;refine N9 (QN (n:=zN) (i:=1) rfl (by rw[<-hzN];rfl) (by show _<=64;omega)) rfl rfl rfl ?_;rw[xu Af];have q5:=qE (n:=zN) Af;have q6:=Fs zN;obtain⟨p2,P1⟩:=ξ (2^zN)
 rw[P1] at q5 q6 f2⊢;refine BJ ?_;rw[show(p2:Int)-1=((p2-1:Nat):Int) by omega];refine N9 (bY (a:=v2) (b:=p2-1) rfl rfl Af Af) rfl rfl rfl ?_;rw[f2];refine BJ ?_;obtain⟨s1,Nc⟩: ∃s1:Ch,(d.obj,((DF Bv (left-(bN+zN)) zN:Nat):Int))=s1:=⟨_,rfl⟩
 rw[show(left:Int)-(d.bits+o.sz)=((left-(bN+zN):Nat):Int) by omega,AV,show o.sz.toNat=zN by omega,Nc] at hv;refine Aj ?_;refine Be (E1 rfl (.tail _ η) (As.LSub.of_all (n:=86) c hl)) ?_;refine Aj ?_;refine Be (AI (vs:=[.agg (τ c),Fy s1]) rfl (by subst Nc;rfl) λl2 JP=>hh s1 l2 λx hx=>JP x (.tail _ (.tail _ (.tail _ (.tail _ (.tail _ hx)))))) ?_;refine Aj ?_;exact BZ (f,vheld (CI S.H.1) s1,left-(bN+zN),s1) ⟨by simp only;omega,by simp only;omega,hv,_,rfl⟩ (by simp only;omega) ⟨rfl,rfl,rfl,rfl,rfl,rfl,rfl,trivial⟩ (.trans ζ (by subst Nc;exact .refl))
abbrev KX(op:Int)(a0 a1 a2 a3 a4 a5:Int):ME:=⟨2,0,0,⟨op,a0,a1,a2,a3,a4,a5⟩,0,0,0,0,0⟩
abbrev xz(a0 a1 a2 a3 a4 a5:Int):Ap:=[Bb a0,Bb a1,Bb a2,Bb a3,Bb a4,Bb a5]
theorem vz(op a0 a1 a2 a3 a4 a5:Int)(ho:0<=op/\op<100)(l:Ac):Fn prog 61 [ι 0,ι op,.agg (τ (xz a0 a1 a2 a3 a4 a5))] l λv l'=>v=NR (KX op a0 a1 a2 a3 a4 a5)/\l'=l:=by refine AO func61 ntmps61 λE=>?_;refine Aj ?_;refine AP (Cw rfl) ?_;rintro _ _ ⟨b5,_,rfl,rfl⟩;refine AR λb6=>?_;exact AU (vs:=[NR (KX op a0 a1 a2 a3 a4 a5)]) [] _ rfl .refl (B0 rfl (.head _) (As.LSub.of_all (n:=15) (VP (KX op a0 a1 a2 a3 a4 a5)) rfl) Ba) θ ⟨rfl,rfl⟩
section
variable{st:List (Int×List NoT)}
theorem eb(e:ME)(he:aI e)(hW:IsWo F C (k+gV e) S th st wb lw)(hn:st.length+1<=100000)(hP:L.Perm (lw++G)):
 Fn prog 18 [pV wb,NR e] L λv l'=> ∃sl cs lw',v= .agg (τ (NS (FZ S e).1.2 sl))/\OwnSl 69 12 sl (FZ S e).1.1.length (HY (FZ S e).1.1) cs/\IsWo F C k (FZ S e).2 th (st++[((FZ S e).1.2,(FZ S e).1.1)]) wb lw'/\l'=cs++(lw'++G):=
 Fn.re (.of_perm hP) (Tt e he hW hn G (B9 (au S e) A0)) λv l' h=>⟨l',.refl,h⟩
def Vg(S:KT)(t:Int)(e:ME):Bool:=decide ((FZ S e).1.2=0)&&decide ((FZ S e).1.1=[Kt t])
theorem W3:Vg S t e=true<->(FZ S e).1=([Kt t],0):=by unfold Vg;rw[AM,A3,A3];exact⟨λh=>Eu h.2 h.1,λh=>by rw[h];exact⟨rfl,rfl⟩⟩
theorem AaC(x:Bh)(w G:Ac):(x::(w++G)).Perm (w++(x::G)):=δ
theorem AgL(n s x:Bh)(c w G:Ac):Keep (n::s::(c++(w++(x::G)))) ((n::c)++(w++G)):=γ [s,x]
theorem AdO(s x:Bh)(c w G:Ac):Keep (s::(c++(w++(x::G)))) (c++(w++G)):=γ [s,x]
theorem qF(t op a0 a1 a2 a3 a4 a5:Int)(ho:0<=op/\op<100)(ha:Jj a0/\Jj a1/\Jj a2/\Jj a3/\Jj a4/\Jj a5)(hW:IsWo F C (k+8) S th st wb lw)(hn:st.length+1<=100000)(hP:L.Perm (lw++G)):
 Fn prog 40 [pV wb,ι 0,ι t,ι op,.agg (τ (xz a0 a1 a2 a3 a4 a5))] L λv l'=>v= .bool (Vg S t (KX op a0 a1 a2 a3 a4 a5))/\ ∃X lw',IsWo F C k (FZ S (KX op a0 a1 a2 a3 a4 a5)).2 th (st++[((FZ S (KX op a0 a1 a2 a3 a4 a5)).1.2,(FZ S (KX op a0 a1 a2 a3 a4 a5)).1.1)]) wb lw'/\l'=X++(lw'++G):=by
 obtain⟨e,hee⟩:=ξ (KX op a0 a1 a2 a3 a4 a5)
 have vD:aI e:=by rw[<-hee];obtain⟨h0,h1,h2,h3,h4,h5⟩:=ha;exact⟨⟨⟨by show 0<=op;omega,by show op<_;omega⟩,h0,h1,h2,h3,h4,h5⟩,G8,G8⟩
 have hc:gV e=8:=by rw[<-hee];rfl
 have Ab5:=λl=>vz op a0 a1 a2 a3 a4 a5 ho l;rw[hee] at Ab5⊢;have hd:=λ(b:Bh)=>eb (L:=b::(lw++G)) (G:=b::G) e vD (by rw[hc];exact hW) hn (AaC b lw G);obtain⟨⟨⟨ns,co⟩,S'⟩,hR⟩: ∃R,FZ S e=R:=⟨_,rfl⟩
 have hn3:=au S e;unfold Vg;rw[hR] at hn3⊢;simp only[hR] at hd;simp only at hn3⊢;refine Fn.keep (.of_perm hP) ?_;refine AO func40 ntmps40 λE=>?_;refine Aj ?_;refine AP (Cw rfl) ?_;rintro _ _ ⟨b9,_,rfl,rfl⟩;refine Aj ?_;refine Be (AI (vs:=[ι 0,ι op,.agg (τ (xz a0 a1 a2 a3 a4 a5))]) rfl rfl λl2 _=>Ab5 l2) ?_;refine Aj ?_;refine AP (Az (vs:=[pV wb,NR e]) rfl rfl (hd _)) ?_;rintro _ _ ⟨sl,cs,lw',rfl,Gc,Qp,rfl⟩;obtain⟨p1,k1,rfl⟩:=Gc.shape;refine AR λMs=>?_;by_cases h0:co=0
 case neg=>refine Aj ?_;refine Bc (AdO ..) ⟨?_,cs,lw',Qp,rfl⟩;rw[Av h0];rfl
 subst h0;refine Aj ?_;refine IE (FB (ws:=R4 (Kt t)) (k:=12) rfl rfl rfl A0 A0) rfl rfl rfl ?_;rintro _ _ ⟨bn,_,rfl,rfl⟩;refine MU (v:= .bool (decide (ns=[Kt t]))) (by refine AI (vs:=[.slice p1 ns.length k1,.slice (some ⟨bn,0,none⟩) 1 1]) rfl rfl λl2 hl=>PZ R4 ib xk _ _ ns [Kt t] l2 (OwnSl.rowSl Gc (λ_=>rfl) λc hc=>hl c (.tail _ (.tail _ (Ai _ hc)))) (OwnSl.rowSl (e:=69) (xs:=[Kt t]) (cs:=[Vv bn (Kt t)]) ⟨rfl,.inr ⟨bn,1,[],rfl,rfl,Bf _,by decide,rfl⟩⟩ (λ_=>rfl) λc hc=>hl c (by rw[Ay.1 hc];exact .head _)) Af) rfl rfl rfl ?_;refine Aj ?_;refine Bc (AgL ..) ⟨?_,_,lw',Qp,rfl⟩;rw[Aq rfl];rfl
theorem ed(t:Int)(hW:IsWo F C (k+8) S th st wb lw)(hn:st.length+1<=100000)(hP:L.Perm (lw++G)):
 Fn prog 59 [pV wb,ι 0,ι t] L λv l'=>v= .bool (decide ((FZ S (E6 t)).1.2=0))/\ ∃X lw',IsWo F C k (FZ S (E6 t)).2 th (st++[((FZ S (E6 t)).1.2,(FZ S (E6 t)).1.1)]) wb lw'/\l'=X++(lw'++G):=by
 have vD:aI (E6 t):=⟨⟨G8,G8,G8,G8,G8,G8,G8⟩,G8,G8⟩
 have hd:=eb (L:=lw++G) (G:=G) (E6 t) vD hW hn (.refl _);obtain⟨⟨⟨ns,co⟩,S'⟩,hR⟩: ∃R,FZ S (E6 t)=R:=⟨_,rfl⟩
 rw[hR];simp only[hR] at hd;simp only;refine Fn.keep (.of_perm hP) ?_;refine AO func59 ntmps59 λE=>?_;refine Aj ?_;refine AP (Az (vs:=[pV wb,NR (E6 t)]) rfl rfl hd) ?_;rintro _ _ ⟨sl,cs,lw',rfl,Gc,Qp,rfl⟩;obtain⟨p1,k1,rfl⟩:=Gc.shape;refine Aj ?_;exact Bc .refl ⟨rfl,cs,lw',Qp,rfl⟩
end
section
variable{st:List (Int×List NoT)}
theorem IsWo.hinv(hW:IsWo F C k S th st wb lw):(∃n,n+k<=900/\InvH S.H n)/\VH S.A/\S.U.length=S.K.length/\S.A.Ok/\S.W.length=S.A.n.toNat*8:=by obtain⟨b,kb,p,s,vt,vs,ct,cs,rows,cn,hK,_⟩:=hW.ex;obtain⟨gb,h3,_,h4,_⟩:=hK.mem;exact⟨hK.inv,hK.rad,hK.ul.trans hK.kl.symm,hK.ar.ok,by rw[h4,hK.an];omega⟩
theorem qG{l l2:Ac}{a:Option Addr}{rows:List (Ap)}(h:Qa l a n k rows)(hl: ∀c,c∈l->c∈l2):Qa l2 a n k rows:=λh0=>by obtain⟨b,off,cs,t,fz,e,hm,hr⟩:=h h0;exact⟨b,off,cs,t,fz,e,hl _ hm,hr⟩
theorem qH{es:List ME}{i:Nat}(h:es[i]?=some e):LS S (es.take (i+1))=(FZ (LS S (es.take i)) e).2:=by rw[BP,h];exact kC _ _ _
def Yh(S:KT)(t:Int):Int:=if(FZ S (E6 t)).1.2=0/\(DJ (FZ S (E6 t)).2 t).hs=false then t else 0
theorem AgM(c w G:Ac):Keep (c++(w++G)) (w++G):=γ c
theorem AdP(c w G:Ac):(c++(w++G)).Perm (w++(c++G)):=δ
theorem xA(x X w G:Ac):Keep (x++(X++(w++G))) ((x++X)++(w++G)):=γ []
theorem first_any(t0:Int)(tr:A8)(es:List ME)(a:Option Addr)(n cap:Nat)(Ef:es.length=n)(Ab6:n<=cap)(Vj:n<=1000)(he: ∀e,e∈es->aI e)(hW:IsWo F C (k+8*(n+1)) S (t0::tr) st wb lw)(hn:st.length<=1000)(htr:tr.length<=10)(G:Ac)(MK:Qa G a n 15 (es.map VP)):
 Fn prog 39 [pV wb,.slice a n cap] (lw++G) λv l'=>v=iV (Yh (LS S es) t0)/\ ∃X lw' st',IsWo F C k (FZ (LS S es) (E6 t0)).2 (t0::tr) st' wb lw'/\st'.length<=st.length+n+1/\l'=X++(lw'++G):=by
 refine AO func39 ntmps39 λE=>?_;refine Aj ?_;refine CF (α:=Nat×List (Int×List NoT)×Ac) (λx=>[(0,pV wb),(1,.slice a n cap),(5,ι x.1)]) (λx=>x.2.2++G) (λx=>x.1<=n/\IsWo F C (k+8*(n+1-x.1)) (LS S (es.take x.1)) (t0::tr) x.2.1 wb x.2.2/\x.2.1.length<=st.length+x.1) (λx=>n-x.1) (0,st,lw) ⟨Bm _,hW,Bf _⟩ ⟨rfl,rfl,rfl,trivial⟩ .refl ?_;rintro⟨i,st1,lw1⟩ ⟨hi,Qp,Nc⟩;simp only at hi Qp Nc⊢;by_cases C7:i<n
 ·obtain⟨e,hie⟩: ∃e,es[i]?=some e:=⟨_,Ak Af⟩
  have xE:=he e (Bg hie);have vD:=Aav e;obtain⟨bB,off,cs,t,fz,rfl,hmr,KZ⟩:=MK Af;obtain⟨x1,x2,_⟩:=KZ i (VP e) (by rw[A7,hie];rfl);have hd:=eb (L:=lw1++G) (G:=G) e xE (k:=k+8*(n+1-(i+1))) (Qp.mono Af) Af (.refl _);refine Aj ?_;refine Be (Dp rfl (Aa _ hmr) x1 x2) ?_;refine AP (Az (vs:=[pV wb,NR e]) rfl rfl hd) ?_;rintro _ _ ⟨sl,N4,lw2,rfl,_,aD,rfl⟩;refine Aj ?_;exact BZ (i+1,_,lw2) ⟨by simp only;omega,by simp only;rw[qH hie];exact aD,by simp only;rw[Ah,Bk];omega⟩ (by simp only;omega) ⟨rfl,rfl,rfl,trivial⟩ (AgM ..)
 obtain rfl:i=n:=by omega
 rw[show es.take i=es by rw[<-Ef,CK]] at Qp;rw[show i+1-i=1 by omega] at Qp;refine Aj ?_;refine AP (Az (vs:=[pV wb]) rfl rfl (av Qp (by simp only[By];omega) G)) ?_;rintro _ _ ⟨ct,hoT,rfl⟩;obtain⟨g,kk,sp,rfl,rfl⟩:=NO hoT (by simp);have z0:(τ ((t0::tr).map CU++sp))[0+(0:Int).toNat*1]?=some (iV t0):=rfl;have aC:1<=(t0::tr).length:=by simp
 obtain⟨m,hm⟩:=ξ ((t0::tr).length)
 rw[hm] at aC⊢;rw[Ce];refine Aj ?_;refine Bt (l':=lw1++G) ζ ?_;refine AP (Az (vs:=[pV wb,ι 0,ι t0]) rfl rfl (ed t0 Qp Af (L:=lw1++G) (G:=G) (.refl _))) ?_;rintro _ _ ⟨rfl,X,lw2,aD,rfl⟩;by_cases hc:(FZ (LS S es) (E6 t0)).1.2=0
 case neg=>rw[Av hc];have e:Yh (LS S es) t0=0:=Ab λh=>hc h.1;rw[e];refine Aj ?_;exact BF [] rfl .refl Ba ⟨rfl,X,lw2,_,aD,by rw[Ah,Bk];omega,rfl⟩
 rw[Aq hc];refine Aj ?_;obtain⟨z1,z2,z3,z4,z5,z6⟩:=aD.sizes;refine IE (Az (vs:=[pV wb]) rfl rfl (Rp aD (AdP ..))) rfl rfl rfl ?_;rintro _ _ ⟨x,rfl,hx,rfl⟩;have YG:(LI x.vo x.vc x.vt x.vh (FZ (LS S es) (E6 t0)).2.N x.vr x.vq).length=86:=by simp[Fh]
 have g3:(τ (LI x.vo x.vc x.vt x.vh (FZ (LS S es) (E6 t0)).2.N x.vr x.vq))[3]?=some x.vh:=rfl;obtain⟨c,hcc⟩:=ξ (LI x.vo x.vc x.vt x.vh (FZ (LS S es) (E6 t0)).2.N x.vr x.vq)
 rw[hcc] at YG g3⊢;refine Aj ?_;refine MU (AI (vs:=[.agg (τ c),ι t0]) rfl rfl λl2 hl=>ay c x.vh (FZ (LS S es) (E6 t0)).2.T t0 l2 g3 (OwnSl.rowSl hx.h (λ_=>rfl) λd hd=>hl d (Ai _ (Vf (.inr (.inr (.inr (.inl hd))))))) Af) rfl rfl rfl ?_;obtain⟨u,hu⟩:=ξ ((Th.findH (FZ (LS S es) (E6 t0)).2.T t0).getD Th.thZ)
 rw[hu];have hu':DJ (FZ (LS S es) (E6 t0)).2 t0=u:=hu;cases hh:u.hs with
 |true=>
  have e:Yh (LS S es) t0=0:=Ab λh=>by have:=h.2;rw[hu',hh] at this;cases this
  rw[e];refine Aj ?_;rw[hh];refine Aj ?_;exact BF [] rfl (l':=(x.all++X)++(lw2++G)) (xA ..) Ba ⟨rfl,_,lw2,_,aD,by rw[Ah,Bk];omega,rfl⟩
 |false=>have e:Yh (LS S es) t0=t0:=Ad ⟨hc,by rw[hu',hh]⟩;rw[e];refine Aj ?_;rw[hh];refine Aj ?_;exact BF [] rfl (l':=(x.all++X)++(lw2++G)) (xA ..) Ba ⟨rfl,_,lw2,_,aD,by rw[Ah,Bk];omega,rfl⟩
end
theorem ii(x:VwL)(hx:IsVwK C S x)(hI:InvH S.H n)(hR:VH S.A)(z1:S.A.os.length<=900000)(z2:(CI S.H.1).length<=900000)(id:Int)(Bv:Nat)(ha:Bv<16)(l:Ac)(hl: ∀d,d∈x.all->d∈l):
 Fn prog 23 [.agg (τ (LI x.vo x.vc x.vt x.vh S.N x.vr x.vq)),ι id,υ (Bv:Nat)] l λv l'=>v= .tuple #[Fy (Fx S id Bv).1,.bool (Fx S id Bv).2]/\l'=l:=
 QY (LI x.vo x.vc x.vt x.vh S.N x.vr x.vq) x.vo x.vc id Bv ha hR (λs hk=>by
  rw[hI.vheld] at hk⊢;unfold getD' at hk⊢
  split
  ·rename_i g;rw[Ad g] at hk;obtain⟨b1,b2,_⟩:=Pt (hI.at s).1 hk;exact⟨b1,b2⟩
  ·rename_i g;rw[Ab g] at hk;cases hk) l rfl rfl (OwnSl.rowSl hx.o (λ_=>rfl) λd hd=>hl d (Vf (.inl hd))) (OwnSl.rowSl hx.c (λ_=>rfl) λd hd=>hl d (Vf (.inr (.inl hd)))) (by simp[Fh]) z1 z2
def az(S S':KT)(t:Int)(a b:Nat):Bool:=(Fx S t a).2&&(Fx S' t a).2&&(Fx S t b).2&&(Fx S' t b).2&&decide ((Fx S t a).1=(Fx S' t a).1)&&decide ((Fx S t b).1=(Fx S' t b).1)
theorem vA{b:Nat}(h:az S S' t a b=true):xj S S' t a b:=by unfold az at h;simp only[AM,A3] at h;exact⟨h.1.1.1.1.1,h.1.1.1.1.2,h.1.1.1.2,h.1.1.2,h.1.2,h.2⟩
theorem aA(x y:Ch):BU (Cd x) (Cd y)=decide (x=y):=by
 by_cases h:x=y
 ·rw[h,ig,Aq rfl]
 ·rw[ie h,Av h]
theorem qI{m:Nat}(x y:VwL)(hx:IsVwK C S x)(hy:IsVwK C S' y)(hI:InvH S.H n)(hR:VH S.A)(Kz:InvH S'.H m)(rC:VH S'.A)(z1:S.A.os.length<=900000)(z2:(CI S.H.1).length<=900000)(z3:S'.A.os.length<=900000)(z4:(CI S'.H.1).length<=900000)(t:Int)(a b:Nat)(ha:a<16)(hb:b<16)(l:Ac)(v8: ∀d,d∈x.all->d∈l)(we: ∀d,d∈y.all->d∈l):
 Fn prog 41 [.agg (τ (LI x.vo x.vc x.vt x.vh S.N x.vr x.vq)),.agg (τ (LI y.vo y.vc y.vt y.vh S'.N y.vr y.vq)),ι t,υ (a:Nat),υ (b:Nat)] l λv l'=>v= .bool (az S S' t a b)/\l'=l:=by
 have f1:=λ(a:Nat) (ha:a<16) (l2:Ac) (h: ∀d,d∈l->d∈l2)=>ii x hx hI hR z1 z2 t a ha l2 λd hd=>h d (v8 d hd);have f2:=λ(a:Nat) (ha:a<16) (l2:Ac) (h: ∀d,d∈l->d∈l2)=>ii y hy Kz rC z3 z4 t a ha l2 λd hd=>h d (we d hd);have aC:(LI x.vo x.vc x.vt x.vh S.N x.vr x.vq).length=86:=by simp[Fh]
 have JP:(LI y.vo y.vc y.vt y.vh S'.N y.vr y.vq).length=86:=by simp[Fh]
 obtain⟨c,hc⟩:=ξ (LI x.vo x.vc x.vt x.vh S.N x.vr x.vq)
 obtain⟨d,hd⟩:=ξ (LI y.vo y.vc y.vt y.vh S'.N y.vr y.vq)
 rw[hc] at f1 aC⊢;rw[hd] at f2 JP⊢;unfold az;obtain⟨⟨p1,o1⟩,h1⟩: ∃q,Fx S t a=q:=⟨_,rfl⟩
 obtain⟨⟨p2,o2⟩,h2⟩: ∃q,Fx S' t a=q:=⟨_,rfl⟩
 obtain⟨⟨p3,o3⟩,h3⟩: ∃q,Fx S t b=q:=⟨_,rfl⟩
 obtain⟨⟨p4,o4⟩,h4⟩: ∃q,Fx S' t b=q:=⟨_,rfl⟩
 have fa1:=f1 a ha;have fa2:=f2 a ha;have fb1:=f1 b hb;have fb2:=f2 b hb;rw[h1] at fa1;rw[h2] at fa2;rw[h3] at fb1;rw[h4] at fb2;rw[h1,h2,h3,h4];simp only at fa1 fa2 fb1 fb2⊢;refine AO func41 ntmps41 λE=>?_;refine Aj ?_;refine AP (Cw rfl) ?_;rintro _ _ ⟨b5,_,rfl,rfl⟩;refine AP (Cw rfl) ?_;rintro _ _ ⟨b6,_,rfl,rfl⟩;refine Aj ?_;refine Be (E1 rfl ν (As.LSub.of_all (n:=86) c aC)) ?_;refine Aj ?_;refine Be (AI (vs:=[.agg (τ c),ι t,υ (a:Nat)]) rfl rfl λl2 h=>fa1 l2 λe he=>h e (.tail _ (.tail _ he))) ?_;refine AR λMs=>?_;refine Be (E1 rfl ν (As.LSub.of_all (n:=86) d JP)) ?_;refine Aj ?_;refine Be (AI (vs:=[.agg (τ d),ι t,υ (a:Nat)]) rfl rfl λl2 h=>fa2 l2 λe he=>h e (.tail _ (.tail _ (.tail _ he)))) ?_;refine AR λQs=>?_;refine Be (E1 rfl η (As.LSub.of_all (n:=86) c aC)) ?_;refine Aj ?_;refine Be (AI (vs:=[.agg (τ c),ι t,υ (b:Nat)]) rfl rfl λl2 h=>fb1 l2 λe he=>h e (.tail _ (.tail _ (.tail _ (.tail _ he))))) ?_;refine AR λYD=>?_;refine Be (E1 rfl η (As.LSub.of_all (n:=86) d JP)) ?_;refine Aj ?_;refine Be (AI (vs:=[.agg (τ d),ι t,υ (b:Nat)]) rfl rfl λl2 h=>fb2 l2 λe he=>h e (.tail _ (.tail _ (.tail _ (.tail _ (.tail _ he)))))) ?_;refine AR λb17=>?_;cases o1 with
 |false=>refine Aj ?_;exact Bc χ ⟨rfl,rfl⟩
 |true=>
 cases o2 with
 |false=>refine Aj ?_;exact Bc χ ⟨rfl,rfl⟩
 |true=>
 cases o3 with
 |false=>refine Aj ?_;exact Bc χ ⟨rfl,rfl⟩
 |true=>
 cases o4 with
 |false=>refine Aj ?_;exact Bc χ ⟨rfl,rfl⟩
 |true=>
 refine Aj ?_;refine MU (FC (ks:=[some .i64,some .i64]) (xs:=Cd p1) (ys:=Cd p2) rfl rfl (Fg (by rfl)) (Fg (by rfl))) rfl rfl rfl ?_;rw[aA];by_cases e1:p1=p2
 case neg=>rw[Av e1];refine Aj ?_;exact Bc χ ⟨rfl,rfl⟩
 rw[Aq e1];refine Aj ?_;refine MU (FC (ks:=[some .i64,some .i64]) (xs:=Cd p3) (ys:=Cd p4) rfl rfl (Fg (by rfl)) (Fg (by rfl))) rfl rfl rfl ?_;rw[aA];by_cases e2:p3=p4
 case neg=>rw[Av e2];refine Aj ?_;exact Bc χ ⟨rfl,rfl⟩
 rw[Aq e2];refine Aj ?_;exact Bc χ ⟨rfl,rfl⟩
section
variable{st:List (Int×List NoT)}
theorem AgN(x w G:Ac)(b:Bh):(x++(b::(w++G))).Perm (w++(x++(b::G))):=δ
theorem AgO(c X x w G:Ac)(b:Bh):Keep (c++(X++(x++(b::(w++G))))) ((c++(X++x))++(w++G)):=γ [b]
theorem back_any{K:List IQ}(hW:IsWo F C k {S with K:=K} th st wb lw)(x:VwL)(hx:IsVwK C S x)(v0:Value)(c0 G:Ac)(qO:OwnSl 34 1 v0 S.W.length (S.W.map Bb) c0)(hgx: ∀d,d∈x.all->d∈G)(hgc: ∀d,d∈c0->d∈G)(hP:L.Perm (lw++G)):
 Fn prog 42 [pV wb,.agg (τ (LI x.vo x.vc x.vt x.vh S.N x.vr x.vq)),v0] L λv l'=>v= .bool true/\ ∃X,l'=X++(lw++G):=by
 have YG:(LI x.vo x.vc x.vt x.vh S.N x.vr x.vq).length=86:=by simp[Fh]
 have hv0:=qO.one;obtain⟨z1,z2,z3,z4,z5,z6⟩:=hW.sizes;have hsv:=λ(y:VwL) (hy:IsVwK C S y)=>Yg y x hy hx z6 z1 z2 z3 z4 z5;have hW8:S.W.length<=512:=by have:=hW.w;have h:S.W.length=F*8/\F<=64:=this;omega
 obtain⟨c,hc⟩:=ξ (LI x.vo x.vc x.vt x.vh S.N x.vr x.vq)
 rw[hc] at YG hsv⊢;refine Fn.keep (.of_perm hP) ?_;refine AO func42 ntmps42 λE=>?_;refine Aj ?_;refine AP (Cw rfl) ?_;rintro _ _ ⟨b4,_,rfl,rfl⟩;refine Aj ?_;refine J0 [(0,true),(2,true),(1,false),(3,false),(4,true),(5,true),(7,true),(6,false),(8,false),(9,true),(10,true)] [[],[0],[],[0,1,2],[0,1,2,3],[0,1,2,3,4],[0,1,2,3,4,5],[0,1,2,3,4],[0,1,2,3,4,5,6,7],[0,1,2,3,4,5,6,7,8],[0,1,2,3,4,5,6,7,8,9]] _ Bu Bu GO (λ_ h=>h) ?_;refine BJ ?_;apply EI
 ·exact E1 rfl (.head _) (As.LSub.of_all (n:=86) c YG)
 ·rfl
 ·rfl
 ·rfl
 refine BJ ?_;apply CX
 ·exact Az rfl rfl (Rp hW (L:=LE b4 c::(lw++G)) (G:=LE b4 c::G) (AaC ..))
 ·rfl
 ·rfl
 ·rfl
 ·rintro _ _ ⟨_,_,_,rfl⟩ q hq;exact Aa _ hq
 rintro _ _ ⟨y,rfl,hy,rfl⟩;have hy:IsVwK C S y:=⟨hy.o,hy.c,hy.t,hy.h,hy.r,hy.q⟩
 rw[show({S with K:=K}:KT).N=S.N from rfl];refine BJ ?_;apply CX
 ·exact Az (vs:=[.agg (τ (LI y.vo y.vc y.vt y.vh S.N y.vr y.vq)),.agg (τ c)]) rfl rfl (hsv y hy _ (λd hd=>Ai _ (Vf hd)) (λd hd=>Aa _ (.tail _ (Aa _ (hgx d (Vf hd))))))
 ·rfl
 ·rfl
 ·rfl
 ·rintro _ _ ⟨_,rfl⟩ q hq;exact Aa _ hq
 rintro _ _ ⟨rfl,rfl⟩;refine BJ ?_;apply P7
 ·exact Az rfl rfl (WZ hW (AgN ..))
 ·rfl
 ·rfl
 ·rfl
 ·rintro _ _ ⟨_,_,_,rfl⟩ q hq;exact Aa _ (Aa _ (Aa _ hq))
 ·exact λ_ _ _ x hx=>by cases hx
 rintro v1 _ ⟨d0,Y0,rx,rfl⟩;have Js:=rx.one;refine BJ ?_;apply P7
 ·exact Az (vs:=[v1,v0]) rfl rfl (VS v1 v0 S.W _ (rx.wds λd hd=>Ai _ hd) (qO.wds λd hd=>Aa _ (Aa _ (Aa _ (.tail _ (Aa _ (hgc d hd)))))) Af)
 ·rfl
 ·rfl
 ·rfl
 ·rintro _ _ ⟨_,rfl⟩ q hq;exact Aa _ (Aa _ (Aa _ hq))
 ·exact λ_ _ _ x hx=>by cases hx
 rintro _ _ ⟨rfl,rfl⟩;refine BJ ?_;refine Aj ?_;exact Bc (AgO ..) ⟨rfl,_,rfl⟩
end
theorem Yi(x:Int)(n:Nat)(h0:0<n)(hm:n<=1000000)(l:Ac):Fn prog 20 [ι x,ι n] l λv l'=>v= ι (Y7 x n:Nat)/\l'=l:=by
 have lu:=IN x (b:=(18446744073709551616:Int)) Af;have C7:=S6 x n h0;have hc:=iQ x n h0;refine AO func20 ntmps20 λE=>?_;refine Aj ?_;refine Be (Ow rfl) ?_;rw[Y6];obtain⟨y,hy⟩:=ξ (x%18446744073709551616)
 rw[hy] at lu hc⊢;refine Aj ?_;rw[<-hc];exact Bc .refl ⟨rfl,rfl⟩
set_option maxRecDepth 100000
theorem AgP(x X w G:Ac):(x++(X++(w++G))).Perm (w++(x++(X++G))):=δ
theorem AgQ(b:Bh)(c Y x X w G:Ac):(b::(c++(Y++(x++(X++(w++G)))))).Perm (b::(w++(c++(Y++(x++(X++G)))))):=δ
theorem AdQ(b:Bh)(X w G:Ac):(X++(w++(b::G))).Perm (b::(X++(w++G))):=δ
theorem AaD(b:Bh)(X w G:Ac):(b::(X++(w++G))).Perm (w++(b::(X++G))):=δ
section
variable{st:List (Int×List NoT)}
theorem ij(B:Bh)(t op a0 a1 a2 a3 a4 a5:Int)(ho:0<=op/\op<100)(ha:Jj a0/\Jj a1/\Jj a2/\Jj a3/\Jj a4/\Jj a5)(hW:IsWo F C (k+8) S th st wb lw)(hn:st.length+1<=100000)(hP:L.Perm (lw++(B::G))):
 Fn prog 40 [pV wb,ι 0,ι t,ι op,.agg (τ (xz a0 a1 a2 a3 a4 a5))] L λv l'=>v= .bool (Vg S t (KX op a0 a1 a2 a3 a4 a5))/\ ∃X lw',IsWo F C k (FZ S (KX op a0 a1 a2 a3 a4 a5)).2 th (st++[((FZ S (KX op a0 a1 a2 a3 a4 a5)).1.2,(FZ S (KX op a0 a1 a2 a3 a4 a5)).1.1)]) wb lw'/\l'=B::(X++(lw'++G)):=
 Fn.re (.refl) (qF t op a0 a1 a2 a3 a4 a5 ho ha hW hn hP) λv l' ⟨h1,X,lw',h2,e⟩=>⟨_,.of_perm (by rw[e];exact AdQ ..),h1,X,lw',h2,rfl⟩
theorem vB(B:Bh)(hW:IsWo F C k S th st wb lw)(hP:L.Perm (lw++(B::G))):
 Fn prog 21 [pV wb] L λv l'=> ∃x:VwL,v= .agg (τ (LI x.vo x.vc x.vt x.vh S.N x.vr x.vq))/\IsVwK C S x/\l'=B::(x.all++(lw++G)):=
 Fn.re (.of_perm hP) (Rp hW (.refl _)) λv l' ⟨x,h1,h2,e⟩=>⟨_,.of_perm (by rw[e];exact AdQ ..),x,h1,h2,rfl⟩
end
theorem vC:((List.range 4).all λT=>(List.range 65).all λF=>T==0||decide (F<11*T)||((Rn F T false).length==T&&(Rn F T true).length==T&&(Rn F T false).all (λt=>decide (1<=t))&&(Rn F T true).all (λt=>decide (1<=t))))=true:=by decide+kernel
theorem AaE(sh:Bool)(DO:1<=T)(hT:T<=3)(hF:11*T<=F)(Rz:F<=64):(Rn F T sh).length=T/\ ∀t,t∈Rn F T sh->1<=t:=by
 have h:=AS.1 (AS.1 vC T (C9.2 Af)) F (C9.2 Af);simp only[DA,AM,Hw,A3,AS] at h;rcases h with(h|h)|⟨⟨⟨h1,h2⟩,h3⟩,h4⟩
 ·omega
 ·omega
 ·cases sh
  ·exact⟨h1,h3⟩
  ·exact⟨h2,h4⟩
theorem qJ(sh:Bool)(DO:1<=T)(hT:T<=3)(hF:11*T<=F)(Rz:F<=64): ∃t tr,Rn F T sh=t::tr/\¬t=0/\tr.length<=10:=by
 obtain⟨h1,h2⟩:=AaE sh DO hT hF Rz;cases e:Rn F T sh with
 |nil=>rw[e] at h1;simp at h1;omega
 |cons t tr=>rw[e] at h1 h2;have:=h2 t (.head _);refine⟨t,tr,rfl,Af,?_⟩;simp only[By] at h1;omega
theorem qK(S:KT)(t:Int): ∃U K,(FZ S (E6 t)).2=Yx S U K/\U.length=S.U.length/\K.length=S.K.length:=by
 have h1: ∃U K,(doA S (E6 t)).2=Yx S U K/\U.length=S.U.length/\K.length=S.K.length:=by
  have h0: ∃U K,S=Yx S U K/\U.length=S.U.length/\K.length=S.K.length:=⟨S.U,S.K,rfl,rfl,rfl⟩
  have e:(doA S (E6 t)).2=(Kw S 0 t).2:=by unfold doA;rw[Ad rfl]
  rw[e];unfold Kw M4
  repeat' split
  all_goals first|exact h0|exact⟨_,_,rfl,Rb ..,rfl⟩
 obtain⟨U,K,e,h2,h3⟩:=h1;unfold FZ;dsimp only
 split
 ·obtain⟨K',hK',e'⟩:=PB (doA S (E6 t)).2;rw[e',e];exact⟨_,K',rfl,by rw[A5];exact h2,by rw[hK',e];exact h3⟩
 ·exact⟨U,K,e,h2,h3⟩
theorem qL(i:Int):DJ (FZ S (E6 t)).2 i=DJ S i:=by obtain⟨U,K,e,_⟩:=qK S t;rw[e]
theorem qM(h:(FZ S (E6 t)).2.U.length=(FZ S (E6 t)).2.K.length):S.U.length=S.K.length:=by obtain⟨U,K,e,h1,h2⟩:=qK S t;rw[e] at h;exact h1.symm.trans (Eq.trans h h2)
set_option maxRecDepth 20000
theorem VT(F C T:Int)(sh:Bool)(a:Option Addr)(n cap:Nat)(es:List ME)(pa pb pm:Int)(l:Ac)(MK:Qa l a n 15 (es.map VP))(Ef:es.length=n)(Ab6:n<=cap)(he: ∀e,e∈es->aI e):
 Fn prog 9 [cfA F C T sh,.slice a n cap,ι pa,ι pb,ι pm] l λv l'=>v= .bool true/\ ∃X,l'=X++l:=by
 refine AO func9 ntmps9 λE=>?_;refine Aj ?_;refine AP (Cw rfl) ?_;rintro _ _ ⟨b2,_,rfl,rfl⟩;refine Aj ?_;refine Be (AI rfl rfl λl2 _=>kF a n cap 60 l2) ?_;by_cases Ajr:(60:Int)<n
 ·refine Aj ?_;refine AP (Az rfl rfl (Le _)) ?_;rintro _ _ ⟨rfl,X,rfl⟩;refine Aj ?_;exact Bc (l':=X++l) (.trans (.of_perm AJ) ζ) ⟨rfl,X,rfl⟩
 refine Aj ?_;refine AP (Az (vs:=[cfA F C T sh]) rfl rfl (qA F C T sh _)) ?_;rintro _ _ (⟨Oo,rfl,rfl⟩|⟨Oo,wb,lw,rfl,hW,rfl⟩)
 ·refine Aj ?_;refine AP (Az rfl rfl (Le _)) ?_;rintro _ _ ⟨rfl,X,rfl⟩;refine Aj ?_;exact Bc (l':=X++l) (.trans (.of_perm AJ) ζ) ⟨rfl,X,rfl⟩
 refine Aj ?_;have hb:1<=T/\T<=3/\11*T<=F/\F<=64:=by unfold Oc at Oo;simp only[AM,A3] at Oo;omega
 obtain⟨g0,s0⟩:=kB (F:=F.toNat) (C:=C.toNat) (T:=T.toNat) sh Af Af Af Af;have n0:=qt (F:=F.toNat) (C:=C.toNat) (T:=T.toNat) sh Af Af Af Af;obtain⟨t0,tr,lJ,ht0,htr⟩:=qJ (F:=F.toNat) (T:=T.toNat) sh Af Af Af Af;rw[lJ] at hW;have AfG:Qa (kG b2 F C T sh::l) a n 15 (es.map VP):=qG MK λc hc=> .tail _ hc;refine AP (Az (vs:=[pV wb,.slice a n cap]) rfl rfl (first_any (k:=840-8*(n+1)) t0 tr es a n cap Ef Ab6 Af he (hW.mono Af) (Bm _) htr (kG b2 F C T sh::l) AfG)) ?_;rintro _ _ ⟨rfl,X1,lw1,st1,Qp,Nc,rfl⟩;simp only[EW,BG] at Nc;obtain⟨S0,hS0⟩:=ξ (LS (H0 F.toNat C.toNat T.toNat sh) es)
 have hg0:=vm (S:=H0 F.toNat C.toNat T.toNat sh) ⟨g0,n0⟩ es;rw[hS0] at hg0 Qp⊢;have Ajs:=Qp;obtain⟨S1,Er⟩:=ξ ((FZ S0 (E6 t0)).2)
 have hg1:=ser_cl.ev hg0 (E6 t0);rw[Er] at Qp hg1;obtain⟨⟨ni,hni,Yq⟩,hR1,hUK1,hA1,hW81⟩:=Qp.hinv;have AfH:Yh S0 t0=t0->Rdy S1 t0:=λe=>by
  unfold Yh at e;rw[Er] at e
  split at e
  ·rename_i g;rw[<-Er];have lg:S0.U.length=S0.K.length:=qM (t:=t0) (by rw[Er];exact hUK1);have hh:(DJ S0 t0).hs=false:=by
    have:=qL (S:=S0) (t:=t0) t0;rw[Er] at this;rw[<-this];exact g.2
   exact(qi ht0 lg g.1 hh).1
  ·exact absurd e.symm ht0
 obtain⟨z1,z2,z3,z4,z5,z6⟩:=Qp.sizes;have ft:Yh S0 t0=0\/Yh S0 t0=t0:=by unfold Yh;split<;>simp
 refine Aj ?_;refine AP (Az (vs:=[pV wb]) rfl rfl (Rp Qp (AdP ..))) ?_;rintro _ _ ⟨x,rfl,hx,rfl⟩;refine Aj ?_;refine AP (Az (vs:=[pV wb]) rfl rfl (WZ Qp (AgP ..))) ?_;rintro v0 _ ⟨c0,Y0,qO,rfl⟩;have hv0:=qO.one;refine AP e_alloc ?_;rintro _ _ ⟨Qs,_,rfl,rfl⟩;have Ab7:=AaB hx;have YG:(LI x.vo x.vc x.vt x.vh S1.N x.vr x.vq).length=86:=by simp[Fh]
 have YF:=λ(S':KT) (m:Nat) (y:VwL) (hy:IsVwK C.toNat S' y) (Kz:InvH S'.H m) (rC:VH S'.A) (z3:S'.A.os.length<=900000) (z4:(CI S'.H.1).length<=900000) (p q:Nat) (hp:p<16) (hq:q<16) (l2:Ac) (a: ∀d,d∈x.all->d∈l2) (b: ∀d,d∈y.all->d∈l2)=>qI x y hx hy Yq hR1 Kz rC z1 z2 z3 z4 t0 p q hp hq l2 a b;have wg:=λ(K:List IQ) (k:Nat) (st:List (Int×List NoT)) (lw:Ac) (hW:IsWo F.toNat C.toNat k {S1 with K:=K} (t0::tr) st wb lw) (G:Ac) (hgx: ∀d,d∈x.all->d∈G) (hgc: ∀d,d∈c0->d∈G) (L:Ac) (hP:L.Perm (lw++G))=>back_any hW x hx v0 c0 G qO hgx hgc hP;obtain⟨c,hc⟩:=ξ (LI x.vo x.vc x.vt x.vh S1.N x.vr x.vq)
 rw[hc] at Ab7 YG YF wg⊢;refine Aj ?_;apply Nk
 ·refine EG (cs:=τ vwZ) (T:=52) (l':=LE Qs c::(c0++(Y0++(x.all++(X1++(lw1++(kG b2 F C T sh::l))))))) rfl rfl YG Ab7 ?_ ?_
  ·rw[DU,As.setFrom_all _ _ (by rw[YG];rfl)];exact .here
  ·show 0+86<=vwZ.length;decide
 ·rfl
 ·rfl
 rintro _ _ ⟨rfl,rfl⟩;refine Aj ?_;obtain⟨p,hp⟩:=ξ (Y7 pa (16:Nat))
 obtain⟨q,hq⟩:=ξ (Y7 pb (16:Nat))
 obtain⟨m,hm⟩:=ξ (Y7 pm (8:Nat))
 have Ab8:p<16:=by rw[<-hp];exact S6 pa 16 A0
 have Ab9:q<16:=by rw[<-hq];exact S6 pb 16 A0
 have hm8:m<8:=by rw[<-hm];exact S6 pm 8 A0
 have lp:=λl2=>Yi pa 16 A0 A0 l2;have lq:=λl2=>Yi pb 16 A0 A0 l2;have lm:=λl2=>Yi pm 8 A0 A0 l2;rw[hp] at lp;rw[hq] at lq;rw[hm] at lm;refine Be (AI (vs:=[ι pa,ι 16]) rfl rfl λl2 _=>lp l2) ?_;refine Aj ?_;refine Be (AI (vs:=[ι pb,ι 16]) rfl rfl λl2 _=>lq l2) ?_;refine Aj ?_;obtain⟨G,hG⟩:=ξ (c0++(Y0++(x.all++(X1++(kG b2 F C T sh::l)))))
 have mx: ∀d,d∈x.all->d∈G:=λd hd=>by rw[<-hG];simp[hd]
 have mc: ∀d,d∈c0->d∈G:=λd hd=>by rw[<-hG];simp[hd]
 have hP1:(LE Qs c::(c0++(Y0++(x.all++(X1++(lw1++(kG b2 F C T sh::l))))))).Perm (LE Qs c::(lw1++G)):=by rw[<-hG];exact AgQ ..
 have RB: ∃Z,G=Z++l:=⟨c0++(Y0++(x.all++(X1++[kG b2 F C T sh]))),by rw[<-hG];simp⟩
 refine Eh (.of_perm hP1) ?_;have rT: ∀z:Nat,z<1000000->Jj (z:Int):=λz hz=>⟨Af,Af⟩
 have wh:=λL hP=>ij (LE Qs c) (k:=840-8*(n+1)-8) t0 2 p q m 0 0 0 A0 ⟨rT p Af,rT q Af,rT m Af,G8,G8,G8⟩ (Qp.mono Af) Af (L:=L) (G:=G) hP;obtain⟨S2,hS2⟩:=ξ ((FZ S1 (KX 2 p q m 0 0 0)).2)
 rw[hS2] at wh;rcases ft with ft|ft
 ·rw[ft];refine J0 [(0,true),(1,true),(2,true),(3,true),(4,true),(5,true),(6,true),(7,true),(8,true),(9,true),(10,true),(11,false),(12,true),(13,true),(14,true),(15,true),(16,true),(18,true),(19,true),(20,true),(17,false),(21,false),(22,true),(23,true)] [[],[0],[0,1],[0,1,2],[0,1,2],[0,1,2],[0,1,2],[0,1,2],[0,1,2,7],[0,1,2,7,8],[0,1,2,5,6,7,8,9],[0,1,2,3,4,5,6,7,8,9,10],[0,1,2,3,4,5,6,7,8,9,10,11],[0,1,2,3,4,5,6,7,8,9,10,11,12],[0,1,2,3,4,5,6,7,8,9,10,11,12,13],[0,1,2,3,4,5,6,7,8,9,10,11,12,13,14],[0,1,2,3,4,5,6,7,8,9,10,11,12,13,14],[0,1,2,3,4,5,6,7,8,9,10,11,12,13,14,16],[0,1,2,3,4,5,6,7,8,9,10,11,12,13,14],[0,1,2,3,4,5,6,7,8,9,10,11,12,13,14],[0,1,2,3,4,5,6,7,8,9,10,11,12,13,14],[0,1,2,3,4,5,6,7,8,9,10,11,12,13,14,15,16,17,18,19,20],[0,1,2,3,4,5,6,7,8,9,10,11,12,13,14,15,16,17,18,19,20,21],[0,1,2,3,4,5,6,7,8,9,10,11,12,13,14,15,16,17,18,19,20,21,22]] ([LE Qs c]) Bu Bu GO ((UV (.head _))) ?_;refine BJ ?_;refine Aj ?_;refine AP (Az rfl rfl (Le _)) ?_;rintro _ _ ⟨rfl,X,rfl⟩;obtain⟨Z,hZ⟩:=RB;refine Aj ?_;exact Bc (l':=(X++(LE Qs c::(lw1++Z)))++l) (.of_perm (by rw[hZ];simp only[Am,Ae];exact .refl _)) ⟨rfl,_,rfl⟩
 rw[ft];have hr:=AfH ft;refine J0 [(0,true),(1,true),(2,true),(3,true),(4,true),(5,true),(6,true),(7,true),(8,true),(9,true),(10,true),(11,false),(12,true),(13,true),(14,true),(15,true),(16,true),(18,true),(19,true),(20,true),(17,false),(21,false),(22,true),(23,true)] [[],[0],[0,1],[0,1,2],[0,1,2],[0,1,2],[0,1,2],[0,1,2],[0,1,2,7],[0,1,2,7,8],[0,1,2,5,6,7,8,9],[0,1,2,3,4,5,6,7,8,9,10],[0,1,2,3,4,5,6,7,8,9,10,11],[0,1,2,3,4,5,6,7,8,9,10,11,12],[0,1,2,3,4,5,6,7,8,9,10,11,12,13],[0,1,2,3,4,5,6,7,8,9,10,11,12,13,14],[0,1,2,3,4,5,6,7,8,9,10,11,12,13,14],[0,1,2,3,4,5,6,7,8,9,10,11,12,13,14,16],[0,1,2,3,4,5,6,7,8,9,10,11,12,13,14],[0,1,2,3,4,5,6,7,8,9,10,11,12,13,14],[0,1,2,3,4,5,6,7,8,9,10,11,12,13,14],[0,1,2,3,4,5,6,7,8,9,10,11,12,13,14,15,16,17,18,19,20],[0,1,2,3,4,5,6,7,8,9,10,11,12,13,14,15,16,17,18,19,20,21],[0,1,2,3,4,5,6,7,8,9,10,11,12,13,14,15,16,17,18,19,20,21,22]] ([LE Qs c]) Bu Bu GO ((UV (.head _))) ?_;refine BJ ?_;refine N9 (AI (vs:=[ι pm,ι 8]) rfl rfl λl2 _=>lm l2) rfl rfl rfl ?_;refine BJ ?_;refine N9 (FR (zs:=[Bb 0,Bb 0,Bb 0,Bb 0,Bb 0,Bb 0]) (cs:=xz p q m 0 0 0) rfl rfl) rfl rfl rfl ?_;refine BJ ?_;apply P7
 ·exact Az (vs:=[pV wb,ι 0,ι t0,ι 2,.agg (τ (xz p q m 0 0 0))]) rfl rfl (wh _ (AaC ..))
 ·rfl
 ·rfl
 ·rfl
 ·rintro _ _ ⟨_,_,_,_,rfl⟩ d hd;rw[Ay.1 hd];exact .head _
 ·exact λ_ _ _ x hx=>by cases hx
 rintro _ _ ⟨rfl,X2,lw2,aD,rfl⟩;obtain⟨Z,hZ⟩:=RB;cases hdb:Vg S1 t0 (KX 2 p q m 0 0 0) with
 |false=>refine BJ ?_;refine Aj ?_;refine AP (Az rfl rfl (Le _)) ?_;rintro _ _ ⟨rfl,X,rfl⟩;refine Aj ?_;exact Bc (l':=(X++(LE Qs c::(X2++(lw2++Z))))++l) (.of_perm (by rw[hZ];simp only[Am,Ae];exact .refl _)) ⟨rfl,_,rfl⟩
 |true=>
 have rx:=W3.1 hdb;obtain⟨⟨n2,kI,N7⟩,kR,_,_,_⟩:=aD.hinv;obtain⟨y1,y2,_⟩:=aD.sizes;refine BJ ?_;refine N9 (E1 rfl (.head _) (As.LSub.of_all (n:=86) c YG)) rfl rfl rfl ?_;refine BJ ?_;apply P7
 ·exact Az (vs:=[pV wb]) rfl rfl (vB (LE Qs c) (G:=X2++G) aD (AaD ..))
 ·rfl
 ·rfl
 ·rfl
 ·rintro _ _ ⟨_,_,_,rfl⟩ d hd;rw[Ay.1 hd];exact .head _
 ·exact λ_ _ _ x hx=>by cases hx
 rintro _ _ ⟨y,rfl,hy,rfl⟩;refine BJ ?_;apply P7
 ·exact Az (vs:=[.agg (τ c),.agg (τ (LI y.vo y.vc y.vt y.vh S2.N y.vr y.vq)),ι t0,υ (p:Nat),υ (q:Nat)]) rfl rfl (YF S2 n2 y hy N7 kR y1 y2 p q Ab8 Ab9 _ (λd hd=> .tail _ (Aa _ (Aa _ (Aa _ (mx d hd))))) (λd hd=> .tail _ (Ai _ hd)))
 ·rfl
 ·rfl
 ·rfl
 ·rintro _ _ ⟨_,rfl⟩ d hd;rw[Ay.1 hd];exact .head _
 ·exact λ_ _ _ x hx=>by cases hx
 rintro _ _ ⟨rfl,rfl⟩;cases hsb:az S1 S2 t0 p q with
 |false=>refine BJ ?_;refine Aj ?_;refine AP (Az rfl rfl (Le _)) ?_;rintro _ _ ⟨rfl,X,rfl⟩;refine Aj ?_;exact Bc (l':=(X++(LE Qs c::(y.all++(lw2++(X2++Z)))))++l) (.of_perm (by rw[hZ];simp only[Am,Ae];exact .refl _)) ⟨rfl,_,rfl⟩
 |true=>
 refine BJ ?_;have hf:=vA hsb;rw[<-hS2] at hf;obtain⟨e1,K,e2⟩:=dS hr Yq hR1 hg1.2 Ab8 Ab9 hm8 rx hf;have Qy:(FZ S1 (Ye 2 p q m 0)).2=S2:=hS2;rw[Qy] at e1 e2;have lO:=λL hP=>ij (LE Qs c) (k:=840-8*(n+1)-16) t0 6 q 0 0 0 0 0 A0 ⟨rT q Af,G8,G8,G8,G8,G8⟩ (aD.mono Af) (by rw[Ah];simp only[Bk];omega) (L:=L) (G:=y.all++(X2++G)) hP;have AfI:Vg S2 t0 (KX 6 q 0 0 0 0 0)=true:=W3.2 e1;have e2:(FZ S2 (KX 6 q 0 0 0 0 0)).2={S1 with K:=K}:=e2;rw[AfI,e2] at lO;refine Aj ?_;refine Be (FR (zs:=[Bb 0,Bb 0,Bb 0,Bb 0,Bb 0,Bb 0]) (cs:=xz q 0 0 0 0 0) rfl rfl) ?_;refine Aj ?_;refine AP (Az (vs:=[pV wb,ι 0,ι t0,ι 6,.agg (τ (xz q 0 0 0 0 0))]) rfl rfl (lO _ (AaD ..))) ?_;rintro _ _ ⟨rfl,X3,lw3,hW3,rfl⟩;refine Aj ?_;refine MU (E1 rfl (.head _) (As.LSub.of_all (n:=86) c YG)) rfl rfl rfl ?_;refine Aj ?_;refine IE (Az (vs:=[pV wb,.agg (τ c),v0]) rfl rfl (wg K _ _ lw3 hW3 (LE Qs c::(X3++(y.all++(X2++G)))) (λd hd=> .tail _ (Aa _ (Aa _ (Aa _ (mx d hd))))) (λd hd=> .tail _ (Aa _ (Aa _ (Aa _ (mc d hd))))) _ (AaD ..))) rfl rfl rfl ?_;rintro _ _ ⟨rfl,X4,rfl⟩;refine Aj ?_;refine IE (Az rfl rfl (Le _)) rfl rfl rfl ?_;rintro _ _ ⟨rfl,X,rfl⟩;refine Aj ?_;exact Bc (l':=(X++(X4++(lw3++(LE Qs c::(X3++(y.all++(X2++Z)))))))++l) (.of_perm (by rw[hZ];simp only[Am,Ae];exact .refl _)) ⟨rfl,_,rfl⟩
theorem Vh(c0:Ap)(w0:AllIs [some .i64,some .i64,some .i64,none] c0){W:World}(a:Option Addr)(n cap:Nat)(rows:List (Ap))(h:Xd evK W a n cap rows)(x0:Int)(_:(Lit.int .i64 x0).wf=true)(x1:Int)(_:(Lit.int .i64 x1).wf=true)(x2:Int)(_:(Lit.int .i64 x2).wf=true):
 Calls prog 9 #[.agg c0.toArray,.slice a n cap,ι x0,ι x1,ι x2] W λe W'=>e= .returned (.bool true)/\Below W.heap.size W W':=by
 obtain⟨_,_,rfl,⟨F,rfl,_⟩,_,_,rfl,⟨C,rfl,_⟩,_,_,rfl,⟨T,rfl,_⟩,_,_,rfl,⟨sh,rfl⟩,rfl⟩:=w0;obtain⟨es,h1,h2,h3⟩:=qw h;exact mJ (VT F C T sh a n cap es x0 x1 x2 (QP W) h2 h1 h.le h3)
end Go.Proofs.YtlifcingifodfaaGreat
