/- Laws. -/
import Derived.Test.YtlifcingifodfaaGreatGd5
set_option maxHeartbeats 4000000
set_option linter.all false
namespace Go.Proofs.YtlifcingifodfaaGreat
open Tryz
open List renaming toArray→τ
namespace Ar
open Go.RowKit
set_option maxRecDepth 20000
variable{os:OL}{S:ArT}{kd fi:Int}{p:ObT->Bool}{k:Nat}
abbrev We(B:Nat)(x:Int):Bh:=(B,.cells #[ι x] 29 (0,0))
theorem Zd{sz e:Int}(h:addE S kd sz fi=e)(h0:e≠0):addD S kd sz fi=((0,e),S):=by unfold addD;rw[h,Ab h0]
theorem AcF{sz:Int}(h:addE S kd sz fi=0):addD S kd sz fi=((nextD S fi,0),{S with g:=upd S.g fi.toNat (S.g fi.toNat+1),os:=insD S.os (newO S kd sz fi)}):=by unfold addD;rw[h,Ad rfl]
theorem sJ(h: ∀x,x∈Ys os->p x.1=true):(os.all p)=true:=by rw[AS];intro o ho;obtain⟨k,hk⟩:=Ke ho;exact h (o,k) (Bg (i:=k) (by rw[QU,hk];rfl))
theorem sK{o:ObT}(ho:o∈os)(h:p o=false):(os.all p)=false:=by
 cases e:os.all p with
 |false=>rfl
 |true=>rw[AS] at e;rw[e o ho] at h;cases h
theorem fo(hk:k<=os.length):(ocs os).take (k*9)=ocs (os.take k)/\(ocs os).drop (k*9)=ocs (os.drop k):=by
 have e:ocs os=ocs (os.take k)++ocs (os.drop k):=by rw[<-Nr,Cs]
 have hl:(ocs (os.take k)).length=k*9:=by rw[OJ,C4];omega
 exact⟨by rw[e,Hb hl],by rw[e,IM hl]⟩
theorem Keep.appL(X:Ac){A B:Ac}(h:Keep A B):Keep (X++A) (X++B):=by obtain⟨r,p⟩:=h;exact⟨r,(E2 X p).trans (AC X r B)⟩
theorem bQ(X:Ac)(v:Value)(n i bl:Nat)(xs ws:Ap)(cs F:Ac)(ho:OwnSl 100 9 v n xs cs)(hi:i<=n)(hw:ws.length=9)(h1: ∀u∈ws,u.oneCell'=true)(kM: ∀u∈xs,u.oneCell'=true)(GS: ∀c,c∈cs->c.1≠bl)(hn:n<=90000):
 Fn prog 182 [v,ι (i:Nat),.slice (some ⟨bl,0,none⟩) 1 1] ((bl,.cells (τ ws) 100 (0,0))::(X++(cs++F))) λv' l'=> ∃c2,OwnSl 100 9 v' (n+1) (xs.take (i*9)++ws++xs.drop (i*9)) c2/\l'=X++(c2++F):=
 Fn.re (Keep.appL [_] (Keep.in_mid X cs F)) (bP v n i bl xs ws cs (X++F) ho hi hw h1 kM GS hn) λv' l' ⟨c2,h2,e⟩=>⟨X++(c2++F),by rw[e];exact Keep.in_mid c2 X F,c2,h2,rfl⟩
theorem sL{I:Int}(h:os.Pairwise λx y=>x.id<y.id)(hk:k<=os.length)(hn:¬∃o,0<k/\os[k-1]?=some o/\o.id>I): ∀x∈os.take k,x.id<=I:=by
 intro x hx;obtain⟨j,hj⟩:=Ke hx;rw[IR] at hj
 split at hj
 ·rename_i ly;obtain⟨o,ho⟩: ∃o,os[k-1]?=some o:=⟨_,Ak Af⟩
  have h1:o.id<=I:=by
   by_cases h:o.id>I
   ·exact absurd ⟨o,Af,ho,h⟩ hn
   ·omega
  by_cases e:j=k-1
  ·subst e;rw[ho] at hj;cases hj;exact h1
  ·have:=sI h hj ho Af;omega
 ·cases hj
theorem add_any(b:Nat)(S:ArT)(lq:Ac)(hA:IsA b S lq)(kd sz fi:Int)(F:Ac):
 Fn prog 137 [π b,ι kd,ι sz,ι fi] (lq++F) λv l'=>v= .tuple #[ι (addD S kd sz fi).1.1,ι (addD S kd sz fi).1.2]/\ ∃DI,IsA b (addD S kd sz fi).2 DI/\l'=DI++F:=by
 have NU:=hA;have Ef:=hA.ok.len;obtain⟨Dh,v,cs,rfl,ho⟩:=hA;have Vj:=Dh.n1;have kI:=Dh.n2;obtain⟨gb,KZ,OR⟩:=Xs ho;have c0:=wx S.n S.g v;have hm:TY b S.n S.g v∈TY b S.n S.g v::cs++F:= .head _;obtain⟨L,hL⟩:=ξ (TY b S.n S.g v::cs++F)
 have CJ: ∀c,c∈TY b S.n S.g v::cs->c∈L:=λc hc=>by rw[<-hL];exact Ai _ hc
 rw[hL] at hm⊢;obtain⟨N,hN⟩:=ξ (framesD kd sz)
 have hNr:=frames_rng kd sz;rw[hN] at hNr;refine AO func137 ntmps137 λE=>?_;refine AR λb5=>?_;refine AR λb7=>?_;refine AR λb8=>?_;refine AR λb9=>?_;refine Be (AI rfl rfl λl2 _=>frames_any kd sz l2) ?_;rw[hN];refine AR λGW=>?_;by_cases h1:N=0
 ·refine Aj ?_;have e:=Zd (S:=S) (fi:=fi) (show addE S kd sz fi=2 by unfold addE;rw[hN,Ad h1]) A0;refine AU [] (GT GW N::We b9 2::GT b8 0::GT b7 fi::GT b5 kd::L) rfl (l':=L) .refl Ba ψ ⟨by rw[e];rfl,_,by rw[e];exact NU,hL.symm⟩
 refine Aj ?_;refine Ct [] 13 _ ?_ (hR:=(λ_ h=>h));by_cases h2:fi<0
 ·refine BJ ?_;refine Aj ?_;have e:=Zd (show addE S kd sz fi=3 by unfold addE;rw[hN,Ab h1,Ad (.inl h2)]) A0;refine AU [] (GT GW N::We b9 3::GT b8 0::GT b7 fi::GT b5 kd::L) rfl (l':=L) .refl Ba ψ ⟨by rw[e];rfl,_,by rw[e];exact NU,hL.symm⟩
 by_cases h3:fi>S.n-N
 ·refine BJ ?_;refine Aj ?_;have e:=Zd (show addE S kd sz fi=3 by unfold addE;rw[hN,Ab h1,Ad (.inr h3)]) A0;refine AU [] (GT GW N::We b9 3::GT b8 0::GT b7 fi::GT b5 kd::L) rfl (l':=L) .refl Ba ψ ⟨by rw[e];rfl,_,by rw[e];exact NU,hL.symm⟩
 refine BJ ?_;refine Aj ?_;refine AP (Az rfl rfl (Jy _ rfl _)) ?_;rintro _ _ ⟨B,rfl,rfl⟩;refine Aj ?_;refine Dj (α:=ObT×Nat) (ps:=[38,39]) (lb:=[π B]) rfl (Ii B b S.n S.g v S.os gb KZ Af) (λ_=>rfl) rfl
  (λpre l=>l=[xB B (some ⟨b,0,none⟩),GT GW N,We b9 0,GT b8 0,GT b7 fi,GT b5 kd]/\ ∀x,x∈pre->J3 kd fi N x.1=true)
  (λc pre l=>c= .ret/\ ∃(Hh:List (ObT×Nat)) (x:ObT×Nat),pre=Hh++[x]/\J3 kd fi N x.1=false/\l=[We b9 16,GT b8 0])
  _ L (λpre l2 X2 hX h=>⟨by rw[h.1];exact List.Mem.head _,Aa _ (hX _ (CJ _ (.head _)))⟩) AY ⟨rfl,by simp⟩ ?_ ?_ ?_
 ·rintro E r0 Gb pre ⟨o,k⟩ l' T ⟨fn,tmps,D,rfl⟩ hT ⟨rfl,Gx⟩ DG;obtain⟨Gc,_,_⟩:=QV DG;simp only at Gc;obtain⟨sp,hcse⟩:=OR _ _ Gc;have vM:=hT _ (CJ _ (.tail _ (by rw[hcse];exact .head _)));simp only[DY,Ae,Ag];refine Aj ?_;refine CP D1 (Aj ?_);refine Be (AI rfl rfl λl2 hl=>iR kd fi N o gb (k*9) _ _ _ l2 (hl _ (.tail _ (.tail _ (.tail _ (.tail _ (.tail _ (.tail _ (.tail _ vM)))))))) (P9 Gc sp)) ?_;cases kL:J3 kd fi N o with
  |false=>refine Aj ?_;refine EH [We b9 16,GT b8 0] AY ⟨rfl,pre,(o,k),rfl,kL,rfl⟩
  |true=>
   refine Aj ?_;refine Cn _ .refl ⟨rfl,λx hx=>?_⟩;rcases AB.1 hx with hx|hx
   ·exact Gx x hx
   ·rw[Ay.1 hx];exact kL
 ·rintro D xs l' rfl ⟨rfl,Gx⟩;simp only[Ae,Ag];refine Aj ?_;refine Be (AI rfl rfl λl2 hl=>next_any b S _ NU fi l2 (λc hc=>hl _ (.tail _ (.tail _ (.tail _ (.tail _ (.tail _ (.tail _ (.tail _ (CJ c hc)))))))))) ?_;have GK:=sJ (p:=λo=>J3 kd fi N o) Gx;by_cases h4:nextD S fi=0
  ·rw[h4];refine Aj ?_;have e:=Zd (show addE S kd sz fi=11 by unfold addE;rw[hN,Ab h1,Ab Af,Ab (by rw[GK];decide),Ad h4]) A0;exact AU [D] (GT GW N::We b9 11::GT b8 0::GT b7 fi::GT b5 kd::L) rfl (l':=L) AY Ba ψ ⟨by rw[e];rfl,_,by rw[e];exact NU,hL.symm⟩
  have hE:addE S kd sz fi=0:=by unfold addE;rw[hN,Ab h1,Ab Af,Ab (by rw[GK];decide),Ab h4]
  obtain⟨f0,f1,f2,f3,f4⟩:=T0 Dh h4;obtain⟨I,hI⟩:=ξ (nextD S fi)
  rw[hI] at f2 f3 f4 h4⊢;obtain⟨j,rfl⟩: ∃j:Nat,fi=j:=⟨fi.toNat,Af⟩
  have hj:j<64:=by omega
  rw[AV] at f2;have cg:=wz S.n S.g v hj;have hg:=Dh.g1 j;have Yl:=yN Dh kd sz j;rw[AcF hE] at Yl⊢;rw[hI,AV] at Yl⊢;rw[<-hL];obtain⟨p,cap,rfl,hp⟩: ∃p cap,v= .slice p S.os.length cap/\(0<S.os.length->p=some ⟨gb,0,none⟩):=by
   rcases KZ with⟨h,h0⟩|⟨cap,h⟩
   ·exact⟨none,0,by rw[h,h0],λh=>by omega⟩
   ·exact⟨_,cap,h,λ_=>rfl⟩
  clear CJ hm hL NU;refine Aj ?_;refine Ct [10] 11 ([]) ?_;refine BJ ?_;apply Gy (S:=[GT b7 (j:Nat)]);(·exact VE);(·exact Da (.tail _ (.tail _ η)));(·rfl);(·rfl);(·rfl);refine BJ ?_;apply Gy (S:=[TY b S.n S.g (.slice p S.os.length cap)])
  ·exact DQ rfl (.head _) cg
  ·exact Da (.tail _ (.tail _ (.tail _ (.tail _ η))))
  ·rfl
  ·rfl
  ·rfl
  refine BJ ?_;apply HL
  ·exact Dy (b:=b) (off:=1+j*1) (cs:=τ (Y9 S.n S.g (.slice p S.os.length cap))) rfl rfl rfl (by rw[mK _ _ _ hj];exact D1) (by rw[Bz,Xq];omega)
  (·rfl);(·rfl);(·intro _ _ _ c hc;cases hc);(·exact λ_ _ _ x hx ha=>Dk Bu hx ha)
  rintro _ _ ⟨rfl,rfl⟩;obtain⟨g',hg'⟩: ∃g',upd S.g j (S.g j+1)=g':=⟨_,rfl⟩
  rw[hg'] at Yl⊢;have cl:=Wd S.n g' (.slice p S.os.length cap);refine BJ ?_;refine Aj ?_;refine CF (α:=Nat) (λk=>[(0,π b),(2,ι sz),(5,π b5),(7,π b7),(8,π b8),(9,π b9),(10,π GW),(13,ι I),(14,ι k)])
   (λk=>Cv D::xB B (some ⟨b,0,none⟩)::GT GW N::We b9 0::GT b8 0::GT b7 (j:Nat)::GT b5 kd::TY b S.n g' (.slice p S.os.length cap)::(cs++F)) (λk=>k<=S.os.length/\ ∀x∈S.os.drop k,¬x.id<=I) (λk=>k) S.os.length ⟨Bf _,by simp⟩ ⟨rfl,rfl,rfl,rfl,rfl,rfl,rfl,rfl,rfl,trivial⟩ .refl ?_
  rintro k ⟨hk,hd⟩;by_cases W8: ∃o,0<k/\S.os[k-1]?=some o/\o.id>I
  ·obtain⟨o,hk0,Gc,hoI⟩:=W8;obtain⟨k,rfl⟩: ∃q,k=q+1:=⟨k-1,Af⟩
   rw[Nat.add_sub_cancel] at Gc;obtain⟨sp,hcse⟩:=OR _ _ Gc;have rF:=hp Af;have co:(τ (ocs S.os++sp))[k*9]?=some (ι o.id):=P9 Gc sp 0 Af;rw[rF] at cl⊢;refine Aj ?_;refine YQ (DQ (v:= ι o.id) (cs:=τ (ocs S.os++sp)) rfl (.tail _ (.tail _ (.tail _ (.tail _ (.tail _ (.tail _ (.tail _ (.tail _ (Ai _ (by rw[hcse];exact .head _)))))))))) ?_) rfl rfl rfl rfl rfl rfl ?_
   ·rw[show((((k+1:Nat)):Int)-1).toNat=k by omega,BG];exact co
   refine Aj ?_;rw[show(((k+1:Nat)):Int)-1=(k:Nat) by omega,<-rF];refine BZ k ⟨Af,λx hx=>?_⟩ Af ⟨rfl,rfl,rfl,rfl,rfl,rfl,rfl,rfl,rfl,trivial⟩ .refl;rw[CR Af] at hx;rcases Au.1 hx with rfl|hx
   ·rw[(Aw.1 Gc).2];omega
   ·exact hd x hx
  ·have hT:=sL Dh.asc hk W8;have xT:=yM (o:=newO S kd sz j) hk (λx hx=>by show x.id<=nextD S j;rw[hI];exact hT x hx) (λx hx=>by show ¬x.id<=nextD S j;rw[hI];exact hd x hx);have Abx:newO S kd sz j=⟨I,kd,sz,j,N,0,0,0,0⟩:=by unfold newO;rw[hI,hN]
   rw[Abx] at xT Yl⊢;obtain⟨ob,aM⟩: ∃ob:ObT,ob=⟨I,kd,sz,j,N,0,0,0,0⟩:=⟨_,rfl⟩
   have AeQ:obC ob=[ι I,ι kd,ι sz,ι j,ι N,ι 0,ι 0,ι 0,ι 0]:=by rw[aM]
   rw[<-aM] at xT Yl⊢;have hX: ∀x:Bh,x∈[GT b5 kd,GT b7 (j:Nat),GT GW N,TY b S.n g' (.slice p S.os.length cap)]->x∈Cv D::xB B (some ⟨b,0,none⟩)::GT GW N::We b9 0::GT b8 0::GT b7 (j:Nat)::GT b5 kd::TY b S.n g' (.slice p S.os.length cap)::(cs++F):=by intro x hx;simp only[Au,BR,EF] at hx⊢;rcases hx with rfl|rfl|rfl|rfl<;>simp only[true_or,or_true]
   have xU: ∀bl,(∀c,c∈Cv D::xB B (some ⟨b,0,none⟩)::GT GW N::We b9 0::GT b8 0::GT b7 (j:Nat)::GT b5 kd::TY b S.n g' (.slice p S.os.length cap)::(cs++F)->c.1≠bl)-> ∀c,c∈cs->c.1≠bl:=λbl h c hc=>h c (.tail _ (.tail _ (.tail _ (.tail _ (.tail _ (.tail _ (.tail _ (.tail _ (Ai _ hc)))))))));rcases Nat.eq_zero_or_pos k with hk0|hk0
   case' inl=>
    refine Aj ?_
   case' inr=>
    obtain⟨q,hq⟩: ∃q,k=q+1:=⟨k-1,Af⟩
    obtain⟨o,Gc⟩: ∃o,S.os[q]?=some o:=⟨_,Ak Af⟩
    have hoI:¬o.id>I:=λh=>W8 ⟨o,Af,by rw[hq];exact Gc,h⟩;obtain⟨sp,hcse⟩:=OR _ _ Gc;have rF:=hp Af;have co:(τ (ocs S.os++sp))[q*9]?=some (ι o.id):=P9 Gc sp 0 Af;rw[rF] at cl⊢;refine Aj ?_;refine YQ (DQ (v:= ι o.id) (cs:=τ (ocs S.os++sp)) rfl (.tail _ (.tail _ (.tail _ (.tail _ (.tail _ (.tail _ (.tail _ (.tail _ (Ai _ (by rw[hcse];exact .head _)))))))))) ?_) rfl rfl rfl rfl rfl rfl ?_
    ·rw[show(((k:Nat):Int)-1).toNat=q by omega,BG];exact co
    refine Aj ?_;rw[<-rF] at cl⊢
   all_goals
    refine Ct [12,13,16] 17 ([]) ?_;refine BJ ?_;apply Gy (S:=[TY b S.n g' (.slice p S.os.length cap)])
    ·exact DQ rfl (.head _) cl
    ·exact Da (hX _ η)
    ·rfl
    ·rfl
    ·rfl
    refine BJ ?_;apply Gy (S:=[GT b5 kd]);(·exact VE);(·exact Da (hX _ (.head _)));(·rfl);(·rfl);(·rfl);refine BJ ?_;apply Gy (S:=[GT b7 (j:Nat)]);(·exact VE);(·exact Da (hX _ ν));(·rfl);(·rfl);(·rfl);refine BJ ?_;apply Gy (S:=[GT GW N]);(·exact VE);(·exact Da (hX _ ω));(·rfl);(·rfl);(·rfl);refine BJ ?_;apply Hi
    ·apply FB (ws:=obC ob) (k:=9)
     ·rw[AeQ];rfl
     ·rfl
     ·rfl
     ·decide
     ·decide
    ·rfl
    ·rfl
    ·rfl
    ·intro _ _ _ c hc;cases hc
    ·rintro _ _ ⟨bl,_,rfl,rfl⟩ x hx _ c hc;refine .tail _ (hX _ ?_);simp only[Au,BR,EF] at hx;rcases hx with rfl|rfl|rfl|rfl<;>simp only[Au,BR,EF] at hc<;>subst hc<;>simp only[Au,true_or,or_true]
    rintro _ _ ⟨bl,SO,rfl,rfl⟩;refine BJ ?_;apply Hi
    ·exact Az rfl rfl (bQ [Cv D,xB B (some ⟨b,0,none⟩),GT GW N,We b9 0,GT b8 0,GT b7 (j:Nat),GT b5 kd,TY b S.n g' (.slice p S.os.length cap)] (.slice p S.os.length cap) S.os.length k bl (ocs S.os) (obC ob) cs F ho hk rfl (by simp[Value.oneCell']) (fh _) (xU bl SO) Af)
    ·rfl
    ·rfl
    ·rfl
    ·intro _ _ _ c hc;cases hc
    ·exact λ_ _ _ x hx ha=>Dk Bu hx ha
    rintro v' _ ⟨c2,F0,rfl⟩;have Js:v'.oneCell'=true:=F0.one;simp only[Ae,Ag];refine BJ ?_;apply HL
    ·exact Dy (b:=b) (off:=65) (cs:=τ (Y9 S.n g' (.slice p S.os.length cap))) rfl rfl Js (by rw[Za];exact D1) (by rw[Bz,Xq];omega)
    (·rfl);(·rfl);(·intro _ _ _ c hc;cases hc);(·exact λ_ _ _ x hx ha=>Dk Bu hx ha)
    rintro _ _ ⟨rfl,rfl⟩;refine BJ ?_;refine Aj ?_;rw[(fo hk).1,(fo hk).2] at F0;refine AU [D] (GT GW N::We b9 0::GT b8 I::GT b7 (j:Nat)::GT b5 kd::TY b S.n g' v'::(c2++F)) rfl (l':=TY b S.n g' v'::(c2++F)) AY Ba ψ ⟨rfl,TY b S.n g' v'::c2,⟨Yl,v',c2,rfl,?_⟩,rfl⟩;show OwnSl 100 9 v' (insD S.os ob).length (ocs (insD S.os ob)) c2;rw[Xt,xT,Nr,show ocs (ob::List.drop k S.os)=obC ob++ocs (List.drop k S.os) from rfl,<-Am];exact F0
 ·rintro D c pre l' DG ⟨rfl,Hh,x,rfl,kL,rfl⟩;obtain⟨Gc,_,_⟩:=QV DG;simp only[Ae,Ag];refine Aj ?_;have e:=Zd (show addE S kd sz fi=16 by unfold addE;rw[hN,Ab h1,Ab Af,Ad (sK (Bg Gc) kL)]) A0;exact AU [D] (We b9 16::GT b8 0::L) rfl (l':=L) AY Ba θ ⟨by rw[e];rfl,_,by rw[e];exact NU,hL.symm⟩
end Ar
open Go.RowKit
set_option maxRecDepth 20000
def T1(l:Ac)(v:Value)(xs:A8):Prop:=
 ∃a cap,v= .slice a xs.length cap/\(0<xs.length-> ∃b off cs t fz,a=some ⟨b,off,none⟩/\(b,Obj.cells cs t fz)∈l/\ ∀i x,xs[i]?=some x->cs[off+i*1]?=some (ι x))
def CU(x:Int):Value:= ι x
theorem OwnSl.intsQ{e:Nat}{v:Value}{xs:A8}{cs l:Ac}(h:OwnSl e 1 v xs.length (xs.map CU) cs)(hs: ∀c,c∈cs->c∈l):T1 l v xs:=by
 rcases h.2 with⟨rfl,h0,rfl⟩|⟨b,cap,sp,rfl,rfl,_⟩
 ·exact⟨none,0,by rw[h0],λh=>by omega⟩
 ·refine⟨_,cap,rfl,λh0=>⟨b,0,_,e,(0,0),rfl,hs _ Al,λi x hx=>?_⟩⟩;have C7:=(Aw.1 hx).1;rw[BG,Dw,AF,AH (by simpa using C7),A7,hx];rfl
theorem Ns(v u:Value)(xs ys:A8)(l:Ac)(h1:T1 l v xs)(h2:T1 l u ys)(hx:xs.length<=1000000):
 Fn prog 48 [v,u] l λr l'=>r= .bool (decide (xs=ys))/\l'=l:=by
 obtain⟨a,ca,rfl,h1⟩:=h1;obtain⟨a',ca',rfl,h2⟩:=h2;refine AO func48 ntmps48 λE=>?_;by_cases hl:xs.length=ys.length
 ·refine gz ?_;refine CF (α:=Nat) (λk=>[(0,.slice a xs.length ca),(1,.slice a' ys.length ca'),(5,ι k)]) (λk=>l) (λk=>k<=xs.length/\ ∀j,j<k->xs[j]?=ys[j]?) (λk=>xs.length-k) 0 ⟨Bm _,λj h=>by omega⟩ ⟨rfl,rfl,rfl,trivial⟩ .refl ?_;rintro k ⟨hk,hj⟩;by_cases C7:k<xs.length
  ·obtain⟨b,off,cs,t,fz,rfl,hm,hc⟩:=h1 Af;obtain⟨b',off',cs',t',fz',rfl,W9,hc'⟩:=h2 Af;have g1:=hc k _ (Ak C7);have g2:=hc' k _ (Ak (show k<ys.length by omega));obtain⟨x,lu⟩:=ξ (xs[k])
   obtain⟨y,hy0⟩:=ξ (ys[k]'Af)
   rw[lu] at g1;rw[hy0] at g2;have e1:xs[k]?=some x:=by rw[Ak C7,lu]
   have e2:ys[k]?=some y:=by rw[Ak (show k<ys.length by omega),hy0]
   refine gz ?_;refine Ct [] 9 _ ?_ (hR:=(λ_ h=>h));refine pz ?_;by_cases Vm:x=y
   ·refine gz ?_;exact BZ (k+1) ⟨Af,λj ly=>by
     by_cases e:j=k
     ·subst e;rw[e1,e2,Vm]
     ·exact hj j Af⟩ Af ⟨rfl,rfl,rfl,trivial⟩ .refl
   ·refine gz ?_;refine Bc .refl ⟨?_,rfl⟩;rw[show decide (xs=ys)=false from Av λe=>by subst e;rw[e1] at e2;exact Vm (by cases e2;rfl)];rfl
  ·obtain rfl:k=xs.length:=by omega
   refine gz ?_;refine Bc .refl ⟨?_,rfl⟩;rw[show decide (xs=ys)=true from Aq (Dn λj=>by
    by_cases h:j<xs.length
    ·exact hj j h
    ·rw[Bi Af,Bi Af])];rfl
 ·refine gz ?_;refine Bc .refl ⟨?_,rfl⟩;rw[show decide (xs=ys)=false from Av λe=>hl (by rw[e])];rfl
namespace Qu
variable{α:Type}{X:Nat->A8}{vs:Nat->Value}{cs:Nat->Ac}{ro:Option Nat}{N:Nat}
theorem Ze(id:Int): ∀(xs:A8) (k:Nat),xs[k]?=some id->(∀j,j<k->xs[j]?≠some id)->xs.idxOf id=k/\id∈xs
 |[],k,h,_=>by simp at h
 |x::xs,0,h,_=>by simp only[Df,Jm] at h;subst h;simp
 |x::xs,k+1,h,hn=>by
  have h0:x≠id:=λe=>hn 0 Af (by simp[e]);have ih:=Ze id xs k (by simpa using h) λj hj=>by simpa using hn (j+1) Af
  refine⟨?_,An _ ih.2⟩;rw[List.idxOf_cons,show(x==id)=false by simpa using h0,ih.1];rfl
def indexI(xs:A8)(id:Int):Int:=if id∈xs then(xs.idxOf id:Nat) else-1
theorem index_any(v:Value)(xs:A8)(id:Int)(l:Ac)(h1:T1 l v xs)(hx:xs.length<=1000000):
 Fn prog 254 [v,ι id] l λr l'=>r= ι (indexI xs id)/\l'=l:=by
 obtain⟨a,ca,rfl,h1⟩:=h1;refine AO func254 ntmps254 λE=>?_;refine gz ?_;refine CF (α:=Nat) (λk=>[(0,.slice a xs.length ca),(1,ι id),(7,ι xs.length),(8,ι k)]) (λk=>l) (λk=>k<=xs.length/\ ∀j,j<k->xs[j]?≠some id) (λk=>xs.length-k) 0 ⟨Bm _,λj h=>by omega⟩ ⟨rfl,rfl,rfl,rfl,trivial⟩ .refl ?_;rintro k ⟨hk,hj⟩;by_cases C7:k<xs.length
 ·obtain⟨b,off,cs,t,fz,rfl,hm,hc⟩:=h1 Af;have g1:=hc k _ (Ak C7);obtain⟨x,lu⟩:=ξ (xs[k])
  rw[lu] at g1;have e1:xs[k]?=some x:=by rw[Ak C7,lu]
  by_cases Vm:id=x
  ·subst Vm;obtain⟨i1,i2⟩:=Ze id xs k e1 hj;refine gz ?_;refine Bc .refl ⟨?_,rfl⟩;simp only[JQ,indexI,Ad i2,i1]
  ·refine gz ?_;exact BZ (k+1) ⟨Af,λj ly=>by
    by_cases e:j=k
    ·subst e;rw[e1];intro h;exact Vm (by cases h;rfl)
    ·exact hj j Af⟩ Af ⟨rfl,rfl,rfl,rfl,trivial⟩ .refl
 ·obtain rfl:k=xs.length:=by omega
  refine gz ?_;refine Bc .refl ⟨?_,rfl⟩;have:id∉xs:=λhm=>by obtain⟨j,lC,hj2⟩:=List.getElem_of_mem hm;exact hj j lC (by rw[Ak lC,hj2])
  simp only[JQ,indexI,Ab this]
theorem delete_any(v:Value)(xs:A8)(i:Nat)(hi:i<xs.length)(cs F:Ac)(h:OwnSl 3 1 v xs.length (xs.map CU) cs)(hn:xs.length<=1000000):
 Fn prog 199 [v,ι (i:Nat),ι ((i:Int)+1)] (cs++F) λr l'=> ∃cs',OwnSl 3 1 r (xs.eraseIdx i).length ((xs.eraseIdx i).map CU) cs'/\l'=cs'++F:=by
 obtain⟨Ef,h⟩:=h;rcases h with⟨rfl,h0,rfl⟩|⟨gb,cap,sp,rfl,rfl,im,Vn,N5⟩
 ·omega
 obtain⟨cur,hcur⟩:=ξ (xs.map CU++sp)
 obtain⟨ys,aN⟩:=ξ ((xs.eraseIdx i).map CU)
 obtain⟨m,hm⟩: ∃m,xs.length=i+m+1:=⟨xs.length-(i+1),Af⟩
 have xE:(xs.eraseIdx i).length=i+m:=by rw[Gm,Ad hi];omega
 have io:((xs.drop (i+1)).map CU).length=m:=by simp;omega
 have Aby:cur.take (i*1)++(xs.drop (i+1)).map CU=ys:=by rw[<-hcur,<-aN,Du,At,Dw,List.take_append_of_le_length (by simp;omega),Hm]
 obtain⟨off',hoff⟩: ∃o,(if cap=i+1 then 0 else 0+(i+1)*1)=o:=⟨_,rfl⟩
 rw[hcur] at N5⊢;rw[xE,aN];refine AO func199 ntmps199 λE=>?_;simp only[Ae,Ag];refine gz ?_;refine Be (Gp (l0:=i) (h0:=i+1) (m0:=xs.length) rfl (.some rfl Af rfl) (.some rfl Af Af) (.some rfl Af rfl) (λ_=>rfl) Af Af Af rfl rfl rfl) ?_;refine gz ?_;refine Ct [6] 8 ([]) ?_;refine pz ?_;apply EI
 ·exact Gp (l0:=0) (h0:=i) (m0:=cap) (off':=0) (n':=i) (c':=cap) rfl (.none) (.some rfl Af rfl) (.none) (by simp) Af Af Af (by simp) Af Af
 ·rfl
 ·rfl
 ·rfl
 refine pz ?_;apply EI
 ·exact Gp (l0:=i+1) (h0:=xs.length) (m0:=cap) (off':=off') (n':=m) rfl (.some rfl Af Af) (.none) (.none) (by simp) Af Af Af hoff Af rfl
 ·rfl
 ·rfl
 ·rfl
 refine pz ?_;apply CX
 ·apply V3 (news:=(xs.drop (i+1)).map CU) (cl:=τ cur) (cur:=τ cur)
  ·rfl
  ·rfl
  ·exact Al
  ·intro j u hj;have lC:=(Aw.1 hj).1;rw[io] at lC;rw[A7,G3] at hj;rw[<-hoff,Ab Af,AF,<-hcur,AH (by simp;omega),A7,show 0+(i+1)*1+j=i+1+j by omega];exact hj
  ·rw[io];omega
  ·intro u hu;rw[Ax] at hu;obtain⟨a,_,rfl⟩:=hu;rfl
  ·omega
  ·rw[io];simp only[Bz];omega
 ·rfl
 ·rfl
 ·rfl
 ·intro _ _ _ c hc;cases hc
 rintro _ _ ⟨rfl,rfl⟩;have e1:(τ cur).toList.take (i*1)++(xs.drop (i+1)).map CU++(τ cur).toList.drop (i*1+((xs.drop (i+1)).map CU).length)=ys++cur.drop (i+m):=by rw[io,Dw] at*;rw[<-Aby]
 rw[e1];refine pz ?_;refine gz ?_;refine Be (Gp (l0:=i+m) (h0:=xs.length) (m0:=cap) (off':=i+m) (n':=1) rfl (.some rfl Af rfl) (.some rfl Af rfl) (.none) (by simp) Af Af Af (by rw[Ab Af];omega) Af rfl) ?_;refine gz ?_;have hyl:ys.length=i+m:=by rw[<-aN,A5,xE]
 have hdl:(cur.drop (i+m)).length=cap-(i+m):=by rw[DR];omega
 apply Nk
 ·apply eU (zs:=[ι 0]) (cs:=τ (ys++cur.drop (i+m)))
  ·rfl
  ·omega
  ·simp[Value.oneCell']
  ·exact D1
  ·simp;omega
 ·rfl
 ·rfl
 rintro _ _ ⟨rfl,rfl⟩;refine gz ?_;refine BF [] rfl .refl Ba ⟨[(gb,_)],⟨by rw[hyl];omega,.inr ⟨gb,cap,ι 0::(cur.drop (i+m)).drop 1,rfl,?_,Af,Vn,?_⟩⟩,rfl⟩
 ·congr 3;simp only[BN,List.replicate_zero,CA,List.flatten_nil,Bj,Dc,BB];congr 1;rw[Cq _ _ Af,show i+m-ys.length=0 by omega];cases hd:cur.drop (i+m) with
  |nil=>rw[hd] at hdl;simp at hdl;omega
  |cons c r=>rfl
 ·simp only[Ah,By,DR];omega
def upd{α:Type}(f:Nat->α)(k:Nat)(v:α):Nat->α:=λi=>if i=k then v else f i
theorem upd_same(f:Nat->α)(k:Nat)(v:α):upd f k v k=v:=Ad rfl
theorem upd_other(f:Nat->α)(k i:Nat)(v:α)(h:i≠k):upd f k v i=f i:=Ab h
theorem fq(f:Nat->α)(k:Nat)(v w:α):upd (upd f k v) k w=upd f k w:=by funext i;unfold upd;split<;>rfl
abbrev qC(b:Nat)(vs:Nat->Value):Bh:=(b,.cells (Array.ofFn (n:=8) λi=>vs i.val) 339 (0,0))
theorem Xu(vs:Nat->Value)(p:Nat)(hp:p<8):(Array.ofFn (n:=8) λi=>vs i.val)[p*1]?=some (vs p):=by simp[hp]
theorem bR(vs:Nat->Value)(p:Nat)(hp:p<8)(v:Value):(Array.ofFn (n:=8) λi=>vs i.val).setIfInBounds (p*1) v=Array.ofFn (n:=8) λi=>upd vs p v i.val:=by
 apply Dq;intro j;rw[Dw];by_cases hj:j<8
 ·by_cases e:p=j
  ·subst e;rw[Ht (by simpa using hp)];simp[hp,upd_same]
  ·rw[GC e];simp[hj,upd_other _ _ _ _ (FW e)]
 ·rw[Fz (by simpa using hj),Fz (by simpa using hj)]
def IG(cs:Nat->Ac):Nat->Ac
 |0=>[]
 |k+1=>cs k++IG cs k
theorem T3{cs cs':Nat->Ac}: ∀k,(∀i,i<k->cs i=cs' i)->IG cs k=IG cs' k
 |0,_=>rfl
 |k+1,h=>by rw[IG,IG,h k Af,T3 k λi hi=>h i Af]
theorem Nt(cs:Nat->Ac)(p:Nat): ∀k,p<k->(IG cs k).Perm (cs p++IG (upd cs p []) k)
 |0,h=>by omega
 |k+1,h=>by
  by_cases e:p=k
  ·subst e;rw[IG,IG,upd_same,Ag,T3 p λi hi=>(upd_other cs p i [] Af).symm]
  ·rw[IG,IG,upd_other _ _ _ _ (FW e)];exact((Nt cs p k Af).append_left _).trans (AC _ _ _)
theorem Zf(cs:Nat->Ac)(p:Nat)(c:Bh)(hc:c∈cs p): ∀k,p<k->c∈IG cs k
 |0,h=>by omega
 |k+1,h=>by
  rw[IG,AB];by_cases e:p=k
  ·subst e;exact .inl hc
  ·exact .inr (Zf cs p c hc k Af)
structure QS(X:Nat->A8)(vs:Nat->Value)(cs:Nat->Ac):Prop where
 own: ∀p,p<8->OwnSl 3 1 (vs p) (X p).length ((X p).map CU) (cs p)
theorem QS.upd{X:Nat->A8}{vs:Nat->Value}{cs:Nat->Ac}(h:QS X vs cs)(p:Nat)(ys:A8)(v:Value)(c:Ac)(ho:OwnSl 3 1 v ys.length (ys.map CU) c):QS (upd X p ys) (upd vs p v) (upd cs p c):=⟨λq hq=>by
 by_cases e:q=p
 ·subst e;rw[upd_same,upd_same,upd_same];exact ho
 ·rw[upd_other _ _ _ _ e,upd_other _ _ _ _ e,upd_other _ _ _ _ e];exact h.own q hq⟩
def IsQ(b:Nat)(X:Nat->A8)(lq:Ac):Prop:= ∃vs cs,QS X vs cs/\lq=qC b vs::IG cs 8
theorem QS.ints(h:QS X vs cs)(p:Nat)(hp:p<8)(l:Ac)(hs: ∀c,c∈IG cs 8->c∈l):T1 l (vs p) (X p):=(h.own p hp).intsQ λc hc=>hs c (Zf cs p c hc 8 hp)
def fallT(ne:Nat->Bool)(m:Nat):List Nat:=((List.range (8-m)).map (7- ·)).filter ne
theorem T4(ne:Nat->Bool)(p:Nat)(hp:p<8):fallT ne p=fallT ne (p+1)++if ne p then[p] else[]:=by unfold fallT;rw[show 8-p=(8-(p+1))+1 by omega,Cx,At,DM];congr 1;simp only[AK,CZ,show 7-(8-(p+1))=p by omega,FJ,List.filter_nil]
theorem Wf(ne:Nat->Bool): ∀(d m:Nat),m+d<=8->fallT ne (m+d)<+:fallT ne m
 |0,m,_=>Hd
 |d+1,m,h=>by rw[<-Iz,show m+d+1=(m+d)+1 from rfl];refine List.IsPrefix.trans ?_ (Wf ne d m Af);rw[T4 ne (m+d) Af];exact G5 _ _
theorem fallT_mem(ne:Nat->Bool)(m p:Nat):p∈fallT ne m<->m<=p/\p<8/\ne p=true:=by
 unfold fallT;simp only[Cr,Ax,C9];constructor
 ·rintro⟨⟨i,hi,rfl⟩,h⟩;exact⟨Af,Af,h⟩
 ·rintro⟨h1,h2,h3⟩;exact⟨⟨7-p,Af,Af⟩,h3⟩
theorem ON(pv:Option Addr)(l:Ac):Fn prog 119 [.pointer pv] l λv l'=> ∃B,(∀c,c∈l->c.1≠B)/\v= .func (.func 176) #[] #[π B]/\l'=(B,.cells #[.pointer pv] 159 (0,0))::l:=by refine AO func119 ntmps119 λE=>?_;refine gz ?_;refine AP (EA rfl rfl) ?_;rintro _ _ ⟨B,hB,rfl,rfl⟩;refine gz ?_;exact Bc .refl ⟨B,hB,rfl,rfl⟩
theorem RI(B b:Nat)(vs:Nat->Value)(ns:Nat->Nat)(hv: ∀p,p<8-> ∃a cap,vs p= .slice a (ns p) cap):FN prog 176 [π B] (λp:Nat=>[ι (p:Nat),vs p]) (λxs=>xs=fallT (λp=>ns p !=0) 0) (λpre=>pre<+:fallT (λp=>ns p !=0) 0)
 (λ_ l=>(B,.cells #[π b] 159 (0,0))∈l/\qC b vs∈l):=by
 obtain⟨ne,GS⟩: ∃ne,(λp=>ns p !=0)=ne:=⟨_,rfl⟩
 rw[GS];have rG: ∀p,ne p=(ns p !=0):=λp=>by rw[<-GS]
 refine⟨λr I Ix G0 Cf hY l G hG h0=>?_⟩;refine AO func176 ntmps176 λE=>?_;obtain⟨Ym,Vo⟩:=Cf _ _ G hG h0;refine gz ?_;refine CF (α:=Nat×Ac) (λx=>[(0,.func (.yield r) #[] #[]),(1,π B),(3,ι ((x.1:Nat)-1))]) (λx=>x.2++G) (λx=>x.1<=8/\I (fallT ne x.1) x.2) (λx=>x.1) (8,l) ⟨by simp,h0⟩ ⟨rfl,rfl,rfl,trivial⟩ .refl ?_;clear Ym Vo;rintro⟨k,l⟩ ⟨hk,hI⟩;simp only at hk hI⊢;cases k with
 |zero=>refine gz ?_;exact Bc .refl ⟨l,rfl,.inl ⟨_,rfl,hI⟩⟩
 |succ p=>
  rw[show((p+1:Nat):Int)-1=(p:Int) by omega];obtain⟨Ym,Vo⟩:=Cf _ _ G hG hI;obtain⟨a,cap,hvp⟩:=hv p Af;have hg:=Xu vs p Af;rw[hvp] at hg;have e1:=T4 ne p Af;by_cases hz:ns p=0
  ·rw[show ne p=false by rw[rG,hz];rfl] at e1;simp only[Bn,C0,Bj] at e1;refine gz ?_;exact BZ (p,l) ⟨by simp only;omega,by simp only;rw[e1];exact hI⟩ (by simp) ⟨rfl,rfl,rfl,trivial⟩ .refl
  ·rw[show ne p=true by rw[rG];simpa using hz] at e1;simp only[CV] at e1;have DG:fallT ne (p+1)++[p]<+:fallT ne 0:=by
    rw[<-e1];have:=Wf ne p 0 Af;rwa [BG] at this
   have hy:=hY (fallT ne (p+1)) p l G hG hI DG;rw[<-e1,hvp] at hy;refine gz ?_;refine AP (C8 rfl rfl hy) ?_;rintro v l' ⟨l1,rfl,⟨rfl,Kz⟩|⟨rfl,hx⟩⟩
   ·refine gz ?_;exact BZ (p,l1) ⟨by simp only;omega,Kz⟩ (by simp) ⟨rfl,rfl,rfl,trivial⟩ .refl
   ·refine gz ?_;exact BF [] rfl .refl Ba ⟨l1,rfl,.inr ⟨_,by rw[e1];exact DG,hx⟩⟩
theorem OO(f:α->Bool)(pre l:List α)(i:α)(h:pre++[i]<+:l)(hp: ∀j∈pre,f j=false)(hi:f i=true):l.find? f=some i:=by obtain⟨A6,rfl⟩:=h;rw[Am,Ek,Bp.2 (λj hj=>by simp[hp j hj])];simp[hi]
def neX(X:Nat->A8):Nat->Bool:=λp=>(X p).length !=0
def findP(X:Nat->A8)(id:Int):Option Nat:=(fallT (neX X) 0).find? λp=>decide (id∈X p)
def kU(X:Nat->A8)(id:Int):Int×Int:=match findP X id with|some p=>((p:Nat),((X p).idxOf id:Nat))|none=>(-1,-1)
theorem T5(X:Nat->A8)(id:Int)(p:Nat)(h:findP X id=some p):p<8/\id∈X p/\(X p).idxOf id<(X p).length:=by
 have h1:=Eb h;have h2:=BE h;rw[fallT_mem] at h2;have h3:id∈X p:=by simpa using h1
 exact⟨h2.2.1,h3,Hq h3⟩
theorem QS.shape{X:Nat->A8}{vs:Nat->Value}{cs:Nat->Ac}(h:QS X vs cs): ∀p,p<8-> ∃a cap,vs p= .slice a ((λp=>(X p).length) p) cap:=λp hp=>(h.own p hp).shape
theorem J4(b:Nat)(X:Nat->A8)(lq:Ac)(id:Int)(hq:IsQ b X lq)(hb: ∀p,p<8->(X p).length<=1000000)(l:Ac)(CJ: ∀c,c∈lq->c∈l):
 Fn prog 198 [π b,ι id] l λv l'=>v= .tuple #[ι (kU X id).1,ι (kU X id).2]/\l'=l:=by
 obtain⟨vs,cs,Pb,rfl⟩:=hq;have KU: ∀c,c∈IG cs 8->c∈l:=λc hc=>CJ c (An _ hc);refine AO func198 ntmps198 λE=>?_;refine Iy λb3=>?_;refine Iy λb4=>?_;refine Iy λb5=>?_;refine AP (Dr rfl rfl (ON _ _)) ?_;rintro v l' ⟨B,hB,rfl,rfl⟩;refine gz ?_;refine Dj (α:=Nat) (ps:=[11,12]) (lb:=[π B]) rfl (RI B b vs (λp=>(X p).length) Pb.shape) (λ_=>rfl) rfl
  (λpre l=>l=[(B,.cells #[π b] 159 (0,0)),(b5,.cells #[ι 0] 3 (0,0)),(b4,.cells #[ι 0] 3 (0,0)),(b3,.cells #[ι id] 3 (0,0))]/\ ∀j∈pre,id∉X j)
  (λc pre l=>c= .ret/\ ∃(Hh:List Nat) (p:Nat),pre=Hh++[p]/\(∀j∈Hh,id∉X j)/\id∈X p/\l=[(b4,.cells #[ι (p:Nat)] 3 (0,0)),(b5,.cells #[ι ((X p).idxOf id:Nat)] 3 (0,0))])
  _ l (λpre l2 X2 hX h=>⟨by rw[h.1];exact List.Mem.head _,Aa _ (hX _ (CJ _ Al))⟩) AY ⟨rfl,by simp⟩ ?_ ?_ ?_
 ·rintro E r0 Gb pre y l' T ⟨fn,tmps,D,rfl⟩ hT ⟨rfl,Gx⟩ DG;have hy:=(fallT_mem _ _ _).1 (HF DG (Aa _ Al));simp only[DY,Ae,Ag];refine gz ?_;refine CP D1 ?_;refine gz ?_;refine Be (AI rfl rfl (λl2 hl=>index_any (vs y) (X y) id l2 (Pb.ints y hy.2.1 l2 λc hc=>hl c (by simp[hT c (KU c hc)])) (hb y hy.2.1))) ?_;by_cases MK:id∈X y
  ·rw[show indexI (X y) id=((X y).idxOf id:Nat) from Ad MK];refine gz ?_;refine EH [(b4,.cells #[ι (y:Nat)] 3 (0,0)),(b5,.cells #[ι ((X y).idxOf id:Nat)] 3 (0,0))] AY ⟨rfl,pre,y,rfl,Gx,MK,rfl⟩
  ·rw[show indexI (X y) id= -1 from Ab MK];refine gz ?_;refine Cn _ .refl ⟨rfl,λj hj=>?_⟩;rcases AB.1 hj with hj|hj
   ·exact Gx j hj
   ·simp at hj;subst hj;exact MK
 ·rintro D xs l' rfl ⟨rfl,Gx⟩;have HI:findP X id=none:=Bp.2 λj hj=>by simp[Gx j hj]
  simp only[Ae,Ag];refine gz ?_;exact AU [D] ((b4,.cells #[ι (-1)] 3 (0,0))::(b5,.cells #[ι (-1)] 3 (0,0))::l) rfl (l':=l) AY Ba AY ⟨by simp[JQ,kU,HI],rfl⟩
 ·rintro D c pre l' DG ⟨rfl,Hh,p,rfl,lj,hi,rfl⟩;have aO:findP X id=some p:=OO _ Hh _ p DG (λj hj=>by simp[lj j hj]) (by simp[hi]);simp only[Ae,Ag];refine gz ?_;exact AU [D] ((b4,.cells #[ι (p:Nat)] 3 (0,0))::(b5,.cells #[ι ((X p).idxOf id:Nat)] 3 (0,0))::l) rfl (l':=l) AY Ba AY ⟨by simp[JQ,kU,aO],rfl⟩
theorem sM(b:Nat)(X:Nat->A8)(lq:Ac)(id:Int)(hq:IsQ b X lq)(hb: ∀p,p<8->(X p).length<=1000000)(l:Ac)(CJ: ∀c,c∈lq->c∈l):
 Fn prog 197 [π b,ι id] l λv l'=>v= .bool (findP X id).isSome/\l'=l:=by
 have H:=J4 b X lq id hq hb;refine AO func197 ntmps197 λE=>?_;refine gz ?_;cases hf:findP X id with
 |none=>rw[show kU X id=(-1,-1) by unfold kU;rw[hf]] at H;dsimp only at H;refine Be (AI rfl rfl (λl2 hl=>H l2 λc hc=>hl c (CJ c hc))) ?_;exact Fd
 |some p=>rw[show kU X id=(((p:Nat):Int),(((X p).idxOf id:Nat):Int)) by unfold kU;rw[hf]] at H;dsimp only at H;refine Be (AI rfl rfl (λl2 hl=>H l2 λc hc=>hl c (CJ c hc))) ?_;refine gz ?_;refine Bc .refl ⟨?_,rfl⟩;simp[JQ]
def firstQ(X:Nat->A8):Int×Bool:=match fallT (neX X) 0 with|p::_=>((X p).headD 0,true)|[]=>(0,false)
def allX(X:Nat->A8)(pre:List Nat):A8:=pre.flatMap X
theorem iT(X:Nat->A8)(pre:List Nat)(y:Nat):allX X (pre++[y])=allX X pre++X y:=by simp[allX]
theorem allX_len(X:Nat->A8)(N:Nat): ∀(pre:List Nat),(∀p∈pre,(X p).length<=N)->(allX X pre).length<=pre.length*N
 |[],_=>by simp[allX]
 |p::pre,h=>by have h1:=h p Al;have h2:=allX_len X N pre λq hq=>h q (An _ hq);unfold allX at h2⊢;rw[CB,Ah,By,Gj];omega
theorem iU(ne:Nat->Bool):(fallT ne 0).length<=8:=by unfold fallT;refine B9 (Db _ _) ?_;simp
theorem all_any(b:Nat)(X:Nat->A8)(lq:Ac)(hq:IsQ b X lq)(hb: ∀p,p<8->(X p).length<=1000000)(l:Ac)(CJ: ∀c,c∈lq->c∈l):
 Fn prog 78 [π b] l λv l'=> ∃cs,OwnSl 3 1 v (allX X (fallT (neX X) 0)).length ((allX X (fallT (neX X) 0)).map CU) cs/\l'=cs++l:=by
 obtain⟨vs,cs,Pb,rfl⟩:=hq;have KU: ∀c,c∈IG cs 8->c∈l:=λc hc=>CJ c (An _ hc);refine AO func78 ntmps78 λE=>?_;refine Iy λb3=>?_;refine AP (Dr rfl rfl (ON _ _)) ?_;rintro v l' ⟨B,hB,rfl,rfl⟩;refine gz ?_;refine Dj (α:=Nat) (ps:=[8,9]) (lb:=[π B]) rfl (RI B b vs (λp=>(X p).length) Pb.shape) (λ_=>rfl) rfl
  (λpre l=> ∃v cs,OwnSl 3 1 v (allX X pre).length ((allX X pre).map CU) cs/\l=[(B,.cells #[π b] 159 (0,0)),(b3,.cells #[v] 40 (0,0))]++cs)
  (λc pre l=>False)
  _ l (λpre l2 X2 hX h=>by obtain⟨v,cs,_,rfl⟩:=h;exact⟨List.Mem.head _,Aa _ (hX _ (CJ _ Al))⟩) AY ⟨_,[],OwnSl.nil _ _,rfl⟩ ?_ ?_ ?_
 ·rintro E r0 Gb pre y l' T ⟨fn,tmps,D,rfl⟩ hT ⟨v,cs',EY,rfl⟩ DG;have hy:=(fallT_mem _ _ _).1 (HF DG (Aa _ Al));have Qq:0<(X y).length:=by have:=hy.2.2;simp at this;exact List.length_pos_iff.2 this
  have AgZ:pre.length<8:=by have h1:=List.IsPrefix.length_le DG;have h2:=iU (λp=>(X p).length !=0);simp at h1;omega
  have Ef:(allX X pre).length<=8000000:=by refine B9 (allX_len X 1000000 pre λp hp=>hb p ?_) Af;exact((fallT_mem _ _ _).1 (HF DG (Ai _ hp))).2.1
  have ee:=hb y hy.2.1;obtain⟨a,cap,hv,hI⟩:=Pb.ints y hy.2.1 (IG cs 8) (λ_ h=>h);obtain⟨gb,off,cc,t,fz,rfl,hm,hc⟩:=hI Qq;have vM:(gb,Obj.cells cc t fz)∈T:=hT _ (KU _ hm);simp only[DY,Ae,Ag];rw[hv];refine gz ?_;refine CP (.there (.there (FX _ _ _ _ _))) ?_;refine gz ?_;refine Bt (Keep.of_perm (AC [(B,.cells #[π b] 159 (0,0)),(b3,.cells #[v] 40 (0,0))] cs' _)) ?_;apply kT
  ·apply GN (xs:=(allX X pre).map CU) (news:=(X y).map CU) (zs:=[ι 0]) (cl:=cc)
   ·rfl
   ·rfl
   ·rfl
   ·exact EY
   ·exact Aa _ (.tail _ (.tail _ (.tail _ vM)))
   ·intro j u hj;rw[A7,Ed] at hj;obtain⟨x,hx,rfl⟩:=hj;have:=hc j x hx;rwa [Dw] at this
   ·simp
   ·intro u hu;rw[Ax] at hu;obtain⟨a,_,rfl⟩:=hu;rfl
   ·unfold maxLen;omega
   ·omega
  ·rfl
  ·rfl
  ·rfl
  rintro v' _ ⟨N4,hown',rfl⟩;have Js:v'.oneCell'=true:=hown'.one;refine Bt (Keep.of_perm (AC N4 [(B,.cells #[π b] 159 (0,0)),(b3,.cells #[v] 40 (0,0))] _)) ?_;simp only[Ae,Ag];refine gz ?_;refine Cn _ (.refl) ⟨v',N4,?_,rfl⟩;rw[iT,Ah,At];exact hown'
 ·rintro D xs l' rfl ⟨v,cs',EY,rfl⟩;simp only[Ae,Ag];refine gz ?_;refine AU [D] (cs'++l) rfl (l':=cs'++l) AY Ba .refl ?_;exact⟨cs',EY,rfl⟩
 ·rintro D c pre l' DG h;exact h.elim
def noX:Nat->A8:=λ_=>[]
theorem sN:QS noX (λ_=> .slice none 0 0) (λ_=>[]):=⟨λp hp=>OwnSl.nil _ _⟩
theorem iW(v:Value):(Array.ofFn (n:=8) λi=>(λ_=>v) i.val)=τ [v,v,v,v,v,v,v,v]:=Bu
theorem new_any(l:Ac):Fn prog 132 [] l λv l'=> ∃b,v= π b/\ ∃lq,IsQ b noX lq/\l'=lq++l:=by refine AO func132 ntmps132 λE=>?_;refine gz ?_;refine AP (Cw rfl) ?_;rintro _ _ ⟨b,hb,rfl,rfl⟩;refine gz ?_;exact BF [] rfl .refl Ba ⟨b,rfl,[qC b λ_=> .slice none 0 0],⟨_,_,sN,rfl⟩,by rw[qC,iW];rfl⟩
theorem OpE.re{P:Program}{fr:Fr}{l l2:Ac}{o:Oper}{K K':Value->Ac->Prop}(k:Keep l l2)(h:OpE P ro N fr l2 o K)(hk: ∀v l',K v l'-> ∃l3,Keep l' l3/\K' v l3):OpE P ro N fr l o K':=
 ⟨h.nodef,λE a W hf hs=>(h.val E a W hf (k.sat hs)).mono λv W' ⟨l',h1,h2⟩=>by obtain⟨l3,h3,h4⟩:=hk v l' h1;exact⟨l3,h4,h3.sat h2⟩⟩
theorem Wg(cs:Nat->Ac)(p:Nat)(hp:p<8)(c:Ac):(c++IG (upd cs p []) 8).Perm (IG (upd cs p c) 8):=by have h:=Nt (upd cs p c) p 8 hp;rw[upd_same,fq] at h;exact h.symm
section
variable{fr:Fr}{d:Option Nat}{ty:TypeId}{pos:String}{aft:Array Edge}{g:Option (Nat×Bool)}
theorem mW{s x:Operand}{p b bl:Nat}{id:Int}{F:Ac}(Pb:QS X vs cs)(hp:p<8)(Ef:(X p).length<=1000000)(hx:ev fr s=some (vs p))(hy:ev fr x=some (.slice (some ⟨bl,0,none⟩) 1 1)):
 OpE prog ro N fr ((bl,.cells (τ [ι id]) 3 (0,0))::qC b vs::(IG cs 8++F)) ⟨d,.call {callee:= .builtin .append,args:=#[s,x],argTypes:=#[40,40]},ty,pos,aft,g⟩
  (λv' l'=> ∃c2,OwnSl 3 1 v' (X p++[id]).length ((X p++[id]).map CU) c2/\l'=qC b vs::(IG (upd cs p c2) 8++F)):=by
 have qR:((bl,Obj.cells (τ [ι id]) 3 (0,0))::qC b vs::(IG cs 8++F)).Perm (cs p++((bl,Obj.cells (τ [ι id]) 3 (0,0))::qC b vs::(IG (upd cs p []) 8++F))):=by refine(List.Perm.cons _ (List.Perm.cons _ ((Nt cs p 8 hp).append_right F))).trans ?_;rw[Am];exact AC [(bl,Obj.cells (τ [ι id]) 3 (0,0)),qC b vs] (cs p) _
 refine OpE.re (Keep.of_perm qR) (GN (k:=1) (yb:=8) (xs:=(X p).map CU) (news:=[ι id]) (zs:=[ι 0]) hx hy rfl (Pb.own p hp) (Aa _ Al) (λj u hj=>by simpa using hj) rfl (by simp[Value.oneCell']) (by unfold maxLen;omega) Af) ?_;rintro v' _ ⟨c2,ho,rfl⟩;refine⟨_,?_,c2,by rw[Ah,At];exact ho,rfl⟩;refine Keep.trans (Keep.of_perm (AC c2 [(bl,Obj.cells (τ [ι id]) 3 (0,0)),qC b vs] _)) (.drop (.of_perm ?_));refine List.Perm.cons _ ?_;show List.Perm (c2++(IG (upd cs p []) 8++F)) _;rw[<-Am];exact(Wg cs p hp c2).append_right F
end
def addQ(X:Nat->A8)(id prio:Int):Int×(Nat->A8):=
 if id<1\/prio<0\/7<prio then(2,X) else if(findP X id).isSome then(16,X) else(0,upd X prio.toNat (X prio.toNat++[id]))
theorem add_any(b:Nat)(X:Nat->A8)(lq:Ac)(id prio:Int)(hq:IsQ b X lq)(hb: ∀p,p<8->(X p).length<=1000000)(F:Ac):
 Fn prog 151 [π b,ι id,ι prio] (lq++F) λv l'=>v= ι (addQ X id prio).1/\ ∃DI,IsQ b (addQ X id prio).2 DI/\l'=DI++F:=by
 have H:=sM b X lq id hq hb;obtain⟨vs,cs,Pb,rfl⟩:=hq;refine AO func151 ntmps151 λE=>?_;simp only[Ae];by_cases h0:id<1\/prio<0\/7<prio
 ·have e:addQ X id prio=(2,X):=Ad h0;rw[e];rcases h0 with h0|h0|h0
  ·refine gz ?_;exact Bc .refl ⟨rfl,_,⟨vs,cs,Pb,rfl⟩,rfl⟩
  ·by_cases h1:id<1
   ·refine gz ?_;exact Bc .refl ⟨rfl,_,⟨vs,cs,Pb,rfl⟩,rfl⟩
   ·refine gz ?_;exact Bc .refl ⟨rfl,_,⟨vs,cs,Pb,rfl⟩,rfl⟩
  ·by_cases h1:id<1
   ·refine gz ?_;exact Bc .refl ⟨rfl,_,⟨vs,cs,Pb,rfl⟩,rfl⟩
   ·refine gz ?_;exact Bc .refl ⟨rfl,_,⟨vs,cs,Pb,rfl⟩,rfl⟩
 ·obtain⟨p,rfl⟩: ∃p:Nat,prio=p:=⟨prio.toNat,Af⟩
  have hp:p<8:=by omega
  refine gz ?_;refine Be (AI rfl rfl (λl2 hl=>H l2 λc hc=>hl c (Ai F hc))) ?_;cases hf:(findP X id).isSome with
  |true=>
   have e:addQ X id p=(16,X):=by unfold addQ;rw[Ab h0,Ad hf]
   rw[e];refine gz ?_;exact Bc .refl ⟨rfl,_,⟨vs,cs,Pb,rfl⟩,rfl⟩
  |false=>
   have e:addQ X id p=(0,upd X p (X p++[id])):=by unfold addQ;rw[Ab h0,Ab (by rw[hf];simp),AV]
   rw[e];have hg:=Xu vs p hp;obtain⟨v,hv⟩:=ξ (vs p)
   rw[hv] at hg;refine gz ?_;refine J0 [(0,true),(1,true),(2,true),(3,true),(4,true),(5,true),(6,true),(7,true),(8,true),(11,true),(12,true),(9,false),(10,false),(13,true),(14,false)] [[],[],[],[],[2],[2,4],[2,3,4,5],[2,3,4,5,6],[],[8],[2,3,4,5,6,7,8,9],[0],[0,11],[0,1,2,3,4,5,6,7,8,9,10,11,12],[0,1,2,3,4,5,6,7,8,9,10,11,12,13]] ([]) Bu Bu GO Vq ?_;refine pz ?_;apply Gy (S:=[qC b vs])
   ·exact DQ rfl Al hg
   ·intro c hc;cases hc with
    |head=>exact Al
    |tail _ h=>cases h
   ·rfl
   ·rfl
   ·rfl
   refine pz ?_;apply Hi
   ·exact Lq rfl rfl
   ·rfl
   ·rfl
   ·rfl
   ·intro _ _ _ c hc;cases hc
   ·rintro _ _ ⟨bl,_,rfl,rfl⟩ x hx _ c hc;cases hx with
    |head=>cases hc with
     |head=>exact .tail _ (.head _)
     |tail _ h=>cases h
    |tail _ h=>cases h
   rintro _ _ ⟨bl,_,rfl,rfl⟩;refine pz ?_;apply Hi
   ·exact mW Pb hp (hb p hp) (by rw[hv];rfl) rfl
   ·rfl
   ·rfl
   ·rfl
   ·intro _ _ _ c hc;cases hc
   ·exact λ_ _ _ x hx ha=>Dk Bu hx ha
   rintro v' _ ⟨c2,ho,rfl⟩;have Js:v'.oneCell'=true:=ho.one;refine pz ?_;apply HL
   ·exact Dy rfl rfl Js .here (by simp[hp])
   ·rfl
   ·rfl
   ·intro _ _ _ c hc;cases hc
   ·exact λ_ _ _ x hx ha=>Dk Bu hx ha
   rintro _ _ ⟨rfl,rfl⟩;rw[bR vs p hp v'];refine pz ?_;refine gz ?_;refine Bc .refl ⟨rfl,_,⟨_,_,Pb.upd p _ v' c2 ho,rfl⟩,rfl⟩
end Qu
namespace En
open Qu
variable{b m clock:Nat}{lq:Ac}{a:Int}
structure Row where
 id:Int
 th:A8
 sd:Bool
 pb:Nat
 v:Value
 cs:Ac
 st:Nat
variable{rows:List Row}{r:Row}
def Row.ent(r:Row):LK:=(r.id,π r.pb,r.st)
abbrev Row.bl(r:Row):Bh:=(r.pb,.cells (τ [r.v,.bool r.sd]) 353 (0,0))
def Row.ch(r:Row):Ac:=r.bl::r.cs
def Row.d(r:Row):Int×A8×Bool:=(r.id,r.th,r.sd)
abbrev RJ(b m:Nat):Bh:=(b,.cells #[.map (some m)] 344 (0,0))
structure EB(b:Nat)(rows:List Row)(m clock:Nat)(lq:Ac):Prop where
 eq:lq=RJ b m::(m,Ge .i64 (rows.map Row.ent) clock)::rows.flatMap Row.ch
 own: ∀r,r∈rows->OwnSl 3 1 r.v r.th.length (r.th.map CU) r.cs
 st: ∀r,r∈rows->r.st<clock
 nd:(rows.map Row.st).Nodup
 ids:(rows.map Row.id).Nodup
abbrev DE:=List (Int×A8×Bool)
def IsE(b:Nat)(D:DE)(lq:Ac):Prop:= ∃rows m clock,rows.map Row.d=D/\EB b rows m clock lq
theorem EB.m1(h:EB b rows m clock lq):RJ b m∈lq:=by rw[h.eq];exact .head _
theorem EB.m2(h:EB b rows m clock lq):(m,Ge .i64 (rows.map Row.ent) clock)∈lq:=by rw[h.eq];exact .tail _ (.head _)
theorem EB.m3(h:EB b rows m clock lq)(hr:r∈rows){c:Bh}(hc:c∈r.ch):c∈lq:=by rw[h.eq];exact .tail _ (.tail _ (FI.2 ⟨r,hr,hc⟩))
theorem EB.ints{l:Ac}(h:EB b rows m clock lq)(hr:r∈rows)(hs: ∀c,c∈lq->c∈l):T1 l r.v r.th:=(h.own r hr).intsQ λc hc=>hs c (h.m3 hr (.tail _ hc))
theorem T6{α β:Type}{f:α->β}: ∀{l:List α},(l.map f).Nodup-> ∀{x y:α},x∈l->y∈l->f x=f y->x=y
 |[],_,x,y,h,_,_=>by cases h
 |z::l,hn,x,y,hx,hy,e=>by
  rw[AK,AQ] at hn;rcases Au.1 hx with h1|h1<;>rcases Au.1 hy with h2|h2
  ·rw[h1,h2]
  ·exact absurd (Ax.2 ⟨y,h2,by rw[<-e,h1]⟩) hn.1
  ·exact absurd (Ax.2 ⟨x,h1,by rw[e,h2]⟩) hn.1
  ·exact T6 hn.2 h1 h2 e
theorem Wh{α:Type}{p q:α->Bool}(hpq: ∀x,p x=true->q x=true): ∀{l:List α} {x:α},x∈l->q x=true->p x=false->(l.filter p).length<(l.filter q).length
 |[],x,h,_,_=>by cases h
 |y::l,x,h,hq,hp=>by
  have LJ: ∀(l:List α),(l.filter p).length<=(l.filter q).length:=λl=>by
   induction l with
   |nil=>exact Bf _
   |cons z l ih=>
    rw[FJ,FJ]
    split
    ·rename_i h1;rw[Ad (hpq z h1)];exact Nat.succ_le_succ ih
    ·split
     ·exact Fl ih
     ·exact ih
  rw[FJ,FJ];rcases Au.1 h with rfl|h
  ·rw[hp,Ab (by simp),Ad hq];exact Nat.lt_succ_of_le (LJ l)
  ·have ih:=Wh hpq h hq hp
   split
   ·rename_i h1;rw[Ad (hpq y h1)];exact Nat.succ_lt_succ ih
   ·split
    ·exact LW ih
    ·exact ih
theorem new_any(l:Ac):Fn prog 133 [] l λv l'=> ∃b,v= π b/\ ∃lq,IsE b [] lq/\l'=lq++l:=by refine AO func133 ntmps133 λE=>?_;refine gz ?_;refine AP Pd ?_;rintro _ _ ⟨m,hm,rfl,rfl⟩;refine gz ?_;refine AP (Cw rfl) ?_;rintro _ _ ⟨b,hb,rfl,rfl⟩;refine gz ?_;exact BF [] rfl .refl Ba ⟨b,rfl,[RJ b m,(m,.map #[] 0)],⟨[],m,0,rfl,⟨rfl,by simp,by simp,by simp,by simp⟩⟩,rfl⟩
open Qu
def findD(D:DE)(id:Int):Option (A8×Bool):=(D.find? λx=>x.1==id).map (·.2)
def addD(D:DE)(id:Int):Int×DE:=if id<1 then(2,D) else if(findD D id).isSome then(11,D) else(0,D++[(id,[],false)])
def dropD(D:DE)(id:Int):A8×Int×DE:=match findD D id with
 |some x=>(x.1,0,D.eraseP λx=>x.1==id)
 |none=>([],2,D)
def listD(D:DE)(id:Int):A8×Bool:=match findD D id with
 |some x=>if x.1.length=0 then([],false) else x
 |none=>([],false)
theorem Pe(h: ∀r,r∈rows->r.id≠a):LL a (rows.map Row.ent)=none:=by
 unfold LL;rw[No.2 λe he=>by rw[Ax] at he;obtain⟨r,hr,rfl⟩:=he;exact h r hr];rfl
theorem Pf(hn:(rows.map Row.id).Nodup)(hr:r∈rows):LL r.id (rows.map Row.ent)=some (π r.pb):=by
 unfold LL;cases h:Hj r.id (rows.map Row.ent) 0 with
 |none=>have:=No.1 h _ (Ax.2 ⟨r,hr,rfl⟩);exact absurd rfl this
 |some p=>obtain⟨i,v⟩:=p;obtain⟨_,e,he,h1,h2,_⟩:=P5 h;have hm:=Bg he;rw[Ax] at hm;obtain⟨r',Vi,rfl⟩:=hm;have:r'=r:=T6 hn Vi hr h1;subst this;rw[<-h2];rfl
theorem Nu(h: ∀r,r∈rows->r.id≠a):findD (rows.map Row.d) a=none:=by
 unfold findD;rw[Bp.2 λx hx=>by rw[Ax] at hx;obtain⟨r,hr,rfl⟩:=hx;simpa[Row.d] using h r hr];rfl
theorem Ls(hn:(rows.map Row.id).Nodup)(hr:r∈rows):findD (rows.map Row.d) r.id=some (r.th,r.sd):=by unfold findD;have hs:((rows.map Row.d).find? λx=>x.1==r.id).isSome=true:=List.find?_isSome.2 ⟨r.d,Ax.2 ⟨r,hr,rfl⟩,by simp[Row.d]⟩;obtain⟨x,hx⟩:=IB.1 hs;rw[hx];have h1:=Eb hx;have hm:=BE hx;rw[Ax] at hm;obtain⟨r',Vi,rfl⟩:=hm;have:r'=r:=T6 hn Vi hr (by simpa[Row.d] using h1);subst this;rfl
theorem iX(h: ∀r,r∈rows->r.id≠a)(v:Value)(clock:Nat):OD a v clock (rows.map Row.ent)=(rows.map Row.ent++[(a,v,clock)],clock+1):=by
 unfold OD;rw[No.2 λe he=>by rw[Ax] at he;obtain⟨r,hr,rfl⟩:=he;exact h r hr]
theorem Wi{a:Int}{v:Value}{s:Nat}: ∀(A B:List LK) (i:Nat),(∀x,x∈A->x.1≠a)->Hj a (A++(a,v,s)::B) i=some (i+A.length,v)
 |[],B,i,_=>by simp[Hj]
 |x::A,B,i,h=>by have:=h x Al;rw[Ae,Hj,Ab (λe=>this e.symm),Wi A B (i+1) λy hy=>h y (An _ hy)];simp;omega
theorem mY{v:Value}{s:Nat}(A B:List LK)(h: ∀x,x∈A->x.1≠a):P4 a (A++(a,v,s)::B)=A++B:=by unfold P4;rw[Wi A B 0 h];simp only[BG];rw[Je (Bf _),Dx];rfl
theorem EB.split(h:EB b rows m clock lq)(hr:r∈rows): ∃A B,rows=A++r::B/\(∀x,x∈A->x.id≠r.id)/\(∀x,x∈B->x.id≠r.id):=by obtain⟨A,B,rfl⟩:=G1 hr;have hn:=h.ids;rw[At,AK,BC] at hn;obtain⟨h1,h2,h3⟩:=hn;rw[AQ] at h2;exact⟨A,B,rfl,λx hx e=>h3 _ (Ax.2 ⟨x,hx,rfl⟩) _ Al e,λx hx e=>h2.1 (Ax.2 ⟨x,hx,e⟩)⟩
theorem add_any(b:Nat)(D:DE)(lq:Ac)(id:Int)(hq:IsE b D lq)(F:Ac):
 Fn prog 141 [π b,ι id] (lq++F) λv l'=>v= ι (addD D id).1/\ ∃DI,IsE b (addD D id).2 DI/\l'=DI++F:=by
 obtain⟨rows,m,clock,rfl,hE⟩:=hq;refine AO func141 ntmps141 λE=>?_;by_cases h0:id<1
 ·rw[show addD (rows.map Row.d) id=(2,rows.map Row.d) from Ad h0];refine gz ?_;exact Bc .refl ⟨rfl,_,⟨rows,m,clock,rfl,hE⟩,rfl⟩
 have rH:=hE.eq;by_cases h1: ∃r,r∈rows/\r.id=id
 ·obtain⟨r,hr,rfl⟩:=h1;have hg:=Pf hE.ids hr;rw[show addD (rows.map Row.d) r.id=(11,rows.map Row.d) by unfold addD;rw[Ab h0,Ls hE.ids hr];rfl];rw[rH];simp only[Ae];refine gz ?_;rw[hg];refine gz ?_;refine BF [] rfl .refl Ba ⟨rfl,_,⟨rows,m,clock,rfl,hE⟩,by rw[rH];rfl⟩
 ·have HI: ∀r,r∈rows->r.id≠id:=λr hr e=>h1 ⟨r,hr,e⟩;have hg:=Pe HI;rw[show addD (rows.map Row.d) id=(0,rows.map Row.d++[(id,[],false)]) by unfold addD;rw[Ab h0,Nu HI];rfl];rw[rH];simp only[Ae];refine gz ?_;rw[hg];refine gz ?_;refine AP (Cw rfl) ?_;rintro _ _ ⟨pb,kJ,rfl,rfl⟩;refine Nk (Ma rfl rfl rfl D1) rfl rfl ?_;rintro _ _ ⟨rfl,rfl⟩;rw[iX HI];refine gz ?_;obtain⟨r,hr⟩: ∃r:Row,r=⟨id,[],false,pb,.slice none 0 0,[],clock⟩:=⟨_,rfl⟩
  refine BF [] rfl (l':=(RJ b m::(m,Ge .i64 ((rows++[r]).map Row.ent) (clock+1))::(rows++[r]).flatMap Row.ch)++F) ?_ Ba ⟨rfl,_,⟨rows++[r],m,clock+1,by rw[At,hr];rfl,⟨rfl,λx hx=>?_,λx hx=>?_,?_,?_⟩⟩,rfl⟩
  ·rw[At,Eg,hr];refine .of_perm ?_;show List.Perm ((pb,_)::RJ b m::(m,_)::(rows.flatMap Row.ch++F)) (RJ b m::(m,_)::((rows.flatMap Row.ch++[_])++F));refine(List.Perm.swap _ _ _).trans (List.Perm.cons _ ((List.Perm.swap _ _ _).trans (List.Perm.cons _ ?_)));rw[Am];exact AJ.symm
  ·rcases AB.1 hx with hx|hx
   ·exact hE.own x hx
   ·rw[Ay.1 hx,hr];exact OwnSl.nil _ _
  ·rcases AB.1 hx with hx|hx
   ·exact LW (hE.st x hx)
   ·rw[Ay.1 hx,hr];exact Id _
  ·rw[At,BC];refine⟨hE.nd,by simp,λx hx y hy=>?_⟩;rw[Ax] at hx hy;obtain⟨x',kH,rfl⟩:=hx;obtain⟨y',hy',rfl⟩:=hy;have:=hE.st x' kH;rw[Ay.1 hy',hr];simp only;omega
  ·rw[At,BC];refine⟨hE.ids,by simp,λx hx y hy=>?_⟩;rw[Ax] at hx hy;obtain⟨x',kH,rfl⟩:=hx;obtain⟨y',hy',rfl⟩:=hy;rw[Ay.1 hy',hr];exact HI x' kH
end En
namespace As
variable{α:Type}
structure ASt where
 obj:Nat->Int
 dead:Nat->Bool
 root:Nat->Int
 ser:Nat->Int
 given:Nat->Int
def ASt.at(s:ASt)(j:Nat):Value:=
 if j<80 then
  (if j%10=0 then ι (s.obj (j/10))
   else if j%10=1 then .bool (s.dead (j/10))
   else if j%10<6 then ι (s.root (4*(j/10)+(j%10-2)))
   else ι (s.ser (4*(j/10)+(j%10-6))))
 else ι (s.given (j-80))
def ASt.cells(s:ASt):Array Value:=Array.ofFn (n:=112) λi=>s.at i.val
theorem ASt.cells_get(s:ASt)(j:Nat)(h:j<112):s.cells[j]?=some (s.at j):=by simp[ASt.cells,h]
theorem ASt.cells_size(s:ASt):s.cells.size=112:=by simp[ASt.cells]
def upd{α:Type}(f:Nat->α)(k:Nat)(v:α):Nat->α:=λi=>if i=k then v else f i
theorem upd_same(f:Nat->α)(k:Nat)(v:α):upd f k v k=v:=by simp[upd]
theorem upd_other(f:Nat->α)(k i:Nat)(v:α)(h:i≠k):upd f k v i=f i:=by simp[upd,h]
theorem Pg(s s':ASt)(k:Nat)(v:Value)(hk:k<112)(h1:s'.at k=v)(h2: ∀j,j<112->j≠k->s'.at j=s.at j):s.cells.setIfInBounds k v=s'.cells:=by
 apply Array.ext
 ·simp[ASt.cells]
 ·intro j hj1 hj2;have hj:j<112:=by simpa[ASt.cells] using hj2
  rw[Array.getElem_setIfInBounds (by simpa[ASt.cells] using hj)];by_cases e:k=j
  ·subst e;simp[ASt.cells,h1]
  ·rw[Ab e];simp[ASt.cells,h2 j hj (λh=>e h.symm)]
def EJ(p:Nat->Bool)(k:Nat):Option Nat:=(List.range k).find? p
theorem Ij(p:Nat->Bool)(k:Nat):EJ p (k+1)=(EJ p k).or (if p k then some k else none):=by unfold EJ;rw[Cx,Ek];cases h:p k<;>simp[List.find?,h]
theorem QW(p:Nat->Bool)(k:Nat):EJ p k=none<-> ∀i,i<k->p i=false:=by unfold EJ;simp
theorem Mc(p:Nat->Bool)(k m:Nat)(hm:m<k)(hp:p m=true)(h:EJ p m=none):EJ p k=some m:=by
 have: ∀d,EJ p (m+1+d)=some m:=by
  intro d
  induction d with
  |zero=>rw[CM,Ij,h,hp];rfl
  |succ d ih=>rw[<-Iz,Ij,ih];rfl
 have:=this (k-(m+1));rwa [show m+1+(k-(m+1))=k by omega] at this
theorem QX(p:Nat->Bool)(k m:Nat)(h:EJ p k=some m):m<k/\p m=true/\ ∀i,i<m->p i=false:=by
 unfold EJ at h;have h1:=Eb h;have h2:=BE h;refine⟨by simpa using h2,h1,λi hi=>?_⟩;cases hb:p i
 ·rfl
 ·exfalso;have hk:m<k:=by simpa using h2
  have hf:EJ p i=none\/ ∃q,EJ p i=some q:=by cases EJ p i<;>simp
  have key: ∀n,n<=k-> ∀q,EJ p n=some q->EJ p k=some q:=by
   intro n hn q hq;have: ∀d,EJ p (n+d)=some q:=by
    intro d
    induction d with
    |zero=>exact hq
    |succ d ih=>rw[<-Iz,Ij,ih];rfl
   have:=this (k-n);rwa [show n+(k-n)=k by omega] at this
  rcases hf with hf|⟨q,hf⟩
  ·have:=Mc p k i Af hb hf;have e:EJ p k=some m:=h;rw[this] at e;cases e;omega
  ·have:=key i Af q hf;have e:EJ p k=some m:=h;rw[this] at e;obtain rfl:q=m:=AZ e;have:q<i:=by unfold EJ at hf;have:=BE hf;simpa using this
   omega
abbrev asA(b:Nat)(s:ASt):Bh:=(b,.cells s.cells 241 (0,0))
theorem ASt.c_obj(s:ASt)(p:Nat)(hp:p<8):s.cells[p*10]?=some (ι (s.obj p)):=by rw[s.cells_get _ Af];unfold ASt.at;rw[Ad Af,Ad Af,show p*10/10=p by omega]
theorem ASt.c_dead(s:ASt)(p:Nat)(hp:p<8):s.cells[p*10+1]?=some (.bool (s.dead p)):=by rw[s.cells_get _ Af];unfold ASt.at;rw[Ad Af,Ab Af,Ad Af,show(p*10+1)/10=p by omega]
theorem ASt.c_root(s:ASt)(p i:Nat)(hp:p<8)(hi:i<4):s.cells[p*10+2+i*1]?=some (ι (s.root (4*p+i))):=by rw[s.cells_get _ Af];unfold ASt.at;rw[Ad Af,Ab Af,Ab Af,Ad Af,show 4*((p*10+2+i*1)/10)+((p*10+2+i*1)%10-2)=4*p+i by omega]
theorem ASt.c_ser(s:ASt)(p i:Nat)(hp:p<8)(hi:i<4):s.cells[p*10+6+i*1]?=some (ι (s.ser (4*p+i))):=by rw[s.cells_get _ Af];unfold ASt.at;rw[Ad Af,Ab Af,Ab Af,Ab Af,show 4*((p*10+6+i*1)/10)+((p*10+6+i*1)%10-6)=4*p+i by omega]
theorem ASt.c_given(s:ASt)(n:Nat)(hn:n<32):s.cells[80+n*1]?=some (ι (s.given n)):=by rw[s.cells_get _ Af];unfold ASt.at;rw[Ab Af,show 80+n*1-80=n by omega]
def atO(s:ASt)(o:Int):Option Nat:=if o<1 then none else EJ (λp=>s.obj p==o) 8
def Xr(s:ASt)(o:Int):Int:=match atO s o with|some p=>(p:Int)|none=> -1
theorem J4(b:Nat)(s:ASt)(o:Int)(l:Ac)(hm:asA b s∈l):
 Fn prog 191 [π b,ι o] l λv l'=>v= ι (Xr s o)/\l'=l:=by
 refine AO func191 ntmps191 λE=>?_;refine gz ?_;refine sn rfl (λho=>?_) (λho=>?_)
 ·refine gz ?_;refine Bc .refl ⟨?_,rfl⟩;simp[JQ,Xr,atO,ho]
 ·refine gz ?_;refine CF (α:=Nat) (λk=>[(0,π b),(1,ι o),(12,ι k)]) (λk=>l) (λk=>k<=8/\EJ (λp=>s.obj p==o) k=none) (λk=>8-k) 0 ⟨Af,rfl⟩ ⟨rfl,rfl,rfl,trivial⟩ .refl ?_;rintro k ⟨hk,hf⟩;by_cases C7:k<8
  ·have hc:=s.c_obj k C7;refine gz ?_;refine sn rfl (λhq=>?_) (λhq=>?_)
   ·refine gz ?_;refine Bc .refl ⟨?_,rfl⟩;simp only[JQ,Xr,atO,Ab ho];rw[Mc _ 8 k C7 (by simp[hq]) hf]
   ·refine gz ?_;exact BZ (k+1) ⟨Af,by rw[Ij,hf];simp[hq]⟩ Af ⟨rfl,rfl,rfl,trivial⟩ .refl
  ·obtain rfl:k=8:=by omega
   refine gz ?_;refine Bc .refl ⟨?_,rfl⟩;simp only[JQ,Xr,atO,Ab ho];rw[hf]
def HP(p k:Nat):List (Fin 4):=(List.range k).filterMap λi=>if h:i<4 then(if 4*p+i=0 then none else some ⟨i,h⟩) else none
def nums(p:Nat):List (Fin 4):=HP p 4
theorem Md(p k:Nat)(hk:k<4):HP p (k+1)=HP p k++if 4*p+k=0 then[] else[⟨k,hk⟩]:=by unfold HP;rw[Cx,List.filterMap_append];congr 1;simp only[List.filterMap_cons,List.filterMap_nil,dif_pos hk];by_cases h:4*p+k=0<;>simp only[h,CV,C0]
theorem bS(p k m:Nat)(h:k<=m)(hm:m<=4):HP p k<+:HP p m:=by
 induction m with
 |zero=>obtain rfl:k=0:=by omega
        exact Hd
 |succ m ih=>
  by_cases hk:k=m+1
  ·subst hk;exact Hd
  ·rw[Md _ _ Af];exact(ih Af Af).trans (G5 _ _)
theorem OP(p:Nat)(l:Ac):Fn prog 194 [ι p] l λv l'=> ∃B,(∀c,c∈l->c.1≠B)/\v= .func (.func 252) #[] #[π B]/\l'=(B,.cells #[ι p] 3 (0,0))::l:=by refine AO func194 ntmps194 λE=>?_;refine gz ?_;refine AP (EA rfl rfl) ?_;rintro _ _ ⟨B,hB,rfl,rfl⟩;refine gz ?_;exact Bc .refl ⟨B,hB,rfl,rfl⟩
theorem Mu(B p:Nat)(hp:p<8):FN prog 252 [π B] (λi:Fin 4=>[ι ((4*p+i.val:Nat):Int),ι (i.val:Nat)]) (λxs=>xs=nums p) (λpre=>pre<+:nums p)
 (λ_ l=>(B,.cells #[ι p] 3 (0,0))∈l):=by
 refine⟨λr I Ix G0 Cf hY l G hG h0=>?_⟩;refine AO func252 ntmps252 λE=>?_;refine gz ?_;refine CF (α:=Nat×Ac) (λx=>[(0,.func (.yield r) #[] #[]),(1,π B),(5,ι x.1)]) (λx=>x.2++G) (λx=>x.1<=4/\I (HP p x.1) x.2) (λx=>4-x.1) (0,l) ⟨by simp,h0⟩ ⟨rfl,rfl,rfl,trivial⟩ .refl ?_;rintro⟨k,l⟩ ⟨hk,hI⟩;simp only at hk hI⊢;by_cases C7:k<4
 ·have hm:=Cf _ _ G hG hI;by_cases hz:4*p+k=0
  ·have e1:HP p (k+1)=HP p k:=by rw[Md _ _ C7,Ad hz];simp
   refine gz ?_;exact BZ (k+1,l) ⟨by simp;omega,by simp only;rw[e1];exact hI⟩ (by simp;omega) ⟨rfl,rfl,rfl,trivial⟩ .refl
  ·have e1:HP p (k+1)=HP p k++[⟨k,C7⟩]:=by rw[Md _ _ C7,Ab hz]
   have DG:HP p k++[⟨k,C7⟩]<+:nums p:=by rw[<-e1];exact bS _ _ _ Af Af
   have hy:=hY (HP p k) ⟨k,C7⟩ l G hG hI DG;rw[<-e1] at hy;refine gz ?_;refine AP (C8 rfl rfl hy) ?_;rintro v l' ⟨l1,rfl,⟨rfl,Kz⟩|⟨rfl,hx⟩⟩
   ·refine gz ?_;exact BZ (k+1,l1) ⟨by simp;omega,Kz⟩ (by simp;omega) ⟨rfl,rfl,rfl,trivial⟩ .refl
   ·refine gz ?_;exact BF [] rfl .refl Ba ⟨l1,rfl,.inr ⟨_,by rw[e1];exact DG,hx⟩⟩
 ·obtain rfl:k=4:=by omega
  refine gz ?_;exact Bc .refl ⟨l,rfl,.inl ⟨_,rfl,hI⟩⟩
def ASt.hit(s:ASt)(P:Int->Int->Bool)(n:Nat):Bool:=decide (s.root n≠0)&&P (s.root n) (s.ser n)
def findN(s:ASt)(P:Int->Int->Bool):Option Nat:=EJ (λn=>decide (n≠0)&&s.hit P n) 32
def mZ:Option Nat->Ap
 |none=>[ι 0,ι 0,ι 0]
 |some n=>[ι (n:Nat),ι ((n/4:Nat):Int),ι ((n%4:Nat):Int)]
theorem mem_nums(p:Nat)(i:Fin 4):i∈nums p<->4*p+i.val≠0:=by
 unfold nums HP;rw[List.mem_filterMap];constructor
 ·rintro⟨j,hj,h⟩;have hj4:j<4:=by simpa using hj
  rw[dif_pos hj4] at h;by_cases h0:4*p+j=0
  ·rw[Ad h0] at h;cases h
  ·rw[Ab h0] at h;cases h;exact h0
 ·intro h;exact⟨i.val,by simp,by rw[dif_pos i.isLt,Ab h]⟩
theorem Zg(p:Nat):(nums p).Pairwise λa b=>a.val<b.val:=by
 have key: ∀k,k<=4->(HP p k).Pairwise (λa b=>a.val<b.val)/\ ∀a∈HP p k,a.val<k:=by
  intro k
  induction k with
  |zero=>intro _;exact⟨List.Pairwise.nil,by simp[HP]⟩
  |succ k ih=>
   intro hk;obtain⟨h1,h2⟩:=ih Af;rw[Md _ _ Af];by_cases h0:4*p+k=0
   ·rw[Ad h0,Bj];exact⟨h1,λa ha=>by have:=h2 a ha;omega⟩
   ·rw[Ab h0];refine⟨Br.2 ⟨h1,by simp,λa ha b hb=>?_⟩,λa ha=>?_⟩
    ·simp at hb;subst hb;exact h2 a ha
    ·rcases AB.1 ha with ha|ha
     ·have:=h2 a ha;omega
     ·simp at ha;subst ha;simp
 exact(key 4 Af).1
theorem Zh(p:Nat)(pre:List (Fin 4))(i:Fin 4)(h:pre++[i]<+:nums p):4*p+i.val≠0/\ ∀j:Fin 4,j.val<i.val->4*p+j.val≠0->j∈pre:=by
 obtain⟨A6,hr⟩:=h;refine⟨(mem_nums p i).1 (by rw[<-hr];simp),λj hj h0=>?_⟩;have hm:=(mem_nums p j).2 h0;have hs:=Zg p;rw[<-hr] at hm hs;rcases AB.1 hm with hm|hm
 ·rcases AB.1 hm with hm|hm
  ·exact hm
  ·simp at hm;subst hm;omega
 ·have:=(Br.1 hs).2.2 i (by simp) j hm;omega
theorem QY(b rb gf:Nat)[EN prog gf](s:ASt)(x:Int)(PP:Int->Int->Bool)(l:Ac)(hA:asA b s∈l)(hx:(rb,Obj.cells #[ι x] 3 (0,0))∈l)
 (hg: ∀(r q:Int) l,(rb,Obj.cells #[ι x] 3 (0,0))∈l->Fn prog gf [ι r,ι q,π rb] l λv l'=>v= .bool (PP r q)/\l'=l):
 Fn prog 192 [π b,.func (.func gf) #[] #[π rb]] l λv l'=>v= .tuple #[.agg (τ (mZ (findN s PP))),.bool (findN s PP).isSome]/\l'=l:=by
 refine AO func192 ntmps192 λE=>?_;refine Iy λb2=>?_;refine Iy λb3=>?_;refine Iy λb4=>?_;refine Iy λb6=>?_;refine Iy λb7=>?_;refine yC (α:=Nat×List Nat) (λx=>[(2,π b2),(3,π b3),(4,π b4),(6,π b6),(7,π b7),(16,ι x.1)]) (λx=>x.2.map HJ)
  (λx=>(b2,.cells #[π b] 157 (0,0))::(b3,.cells #[.func (.func gf) #[] #[π rb]] 265 (0,0))::(b4,.cells #[ι 0,ι 0,ι 0] 360 (0,0))::(b6,.cells #[ι 0,ι 0,ι 0] 360 (0,0))::(b7,.cells #[.bool false] 4 (0,0))::(x.2.map Cv++l))
  (λx=>x.1<=8/\ ∀n,n<4*x.1->(decide (n≠0)&&s.hit PP n)=false) (λx=>8-x.1) (0,[]) ⟨by simp,by simp⟩ ⟨rfl,rfl,rfl,rfl,rfl,rfl,trivial⟩ rfl AY ?_
 rintro⟨k,Ds⟩ ⟨hk,hn⟩;simp only at hk hn⊢;have NU:asA b s∈Ds.map Cv++l:=Aa _ hA;have kH:(rb,Obj.cells #[ι x] 3 (0,0))∈Ds.map Cv++l:=Aa _ hx;by_cases C7:k<8
 ·refine gz ?_;refine Iy λb8=>?_;refine AP (Az rfl rfl (OP k _)) ?_;rintro v l' ⟨B,hB,rfl,rfl⟩;refine gz ?_;refine Dj (α:=Fin 4) (ps:=[21,22]) (lb:=[π B]) rfl (Mu B k C7) (λ_=>rfl) rfl
   (λpre l=>l=[(B,.cells #[ι (k:Nat)] 3 (0,0)),(b8,.cells #[ι (k:Nat)] 3 (0,0)),(b2,.cells #[π b] 157 (0,0)),(b3,.cells #[.func (.func gf) #[] #[π rb]] 265 (0,0)),(b4,.cells #[ι 0,ι 0,ι 0] 360 (0,0)),(b6,.cells #[ι 0,ι 0,ι 0] 360 (0,0)),(b7,.cells #[.bool false] 4 (0,0))]/\ ∀j∈pre,s.hit PP (4*k+j.val)=false)
   (λc pre l=>c= .exit 0/\ ∃(Hh:List (Fin 4)) (i:Fin 4),pre=Hh++[i]/\(∀j∈Hh,s.hit PP (4*k+j.val)=false)/\s.hit PP (4*k+i.val)=true/\l=[(b4,.cells #[ι 0,ι 0,ι 0] 360 (0,0)),(b6,.cells #[ι ((4*k+i.val:Nat):Int),ι (k:Nat),ι (i.val:Nat)] 360 (0,0)),(b7,.cells #[.bool true] 4 (0,0))])
   _ (Ds.map Cv++l) (λpre l X _ h=>by rw[h.1];exact List.Mem.head _) AY ⟨rfl,by simp⟩ ?_ ?_ ?_
  ·rintro E r Gb pre y l' T ⟨fn,tmps,D,rfl⟩ hT ⟨rfl,hp⟩ DG;have hAT:=hT _ NU;have hxT:=hT _ kH;have vO:=y.isLt;have qr:=s.c_root k y.val C7 vO;have qs:=s.c_ser k y.val C7 vO;simp only[DY,Ae,Ag];refine gz ?_;refine CP D1 ?_;refine gz ?_;refine Ct [] 10 _ ?_ (hR:=(λ_ h=>h));refine pz ?_;have Su:s.hit PP (4*k+y.val)=(decide (s.root (4*k+y.val)≠0)&&PP (s.root (4*k+y.val)) (s.ser (4*k+y.val))):=rfl;by_cases hr:s.root (4*k+y.val)=0
   ·refine gz ?_;refine Ct [] 16 _ ?_ (hR:=(λ_ h=>h));refine pz ?_;refine gz ?_;refine Cn [(B,.cells #[ι (k:Nat)] 3 (0,0)),(b8,.cells #[ι (k:Nat)] 3 (0,0)),(b2,.cells #[π b] 157 (0,0)),(b3,.cells #[.func (.func gf) #[] #[π rb]] 265 (0,0)),(b4,.cells #[ι 0,ι 0,ι 0] 360 (0,0)),(b6,.cells #[ι 0,ι 0,ι 0] 360 (0,0)),(b7,.cells #[.bool false] 4 (0,0))] AY ⟨rfl,?_⟩;intro j hj;rcases AB.1 hj with hj|hj
    ·exact hp j hj
    ·simp at hj;subst hj;rw[Su,Av (by simp[hr])];rfl
   ·refine gz ?_;refine Ct [] 16 _ ?_ (hR:=(λ_ h=>h));refine pz ?_;apply YU
    ·exact FY (fs:=[]) rfl rfl (λl hl=>hg _ _ l (hl _ Ca))
    all_goals try rfl
    refine pz ?_;refine gz ?_;refine l6 rfl (λhP=>?_) (λhP=>?_)
    ·refine gz ?_;refine Fe [(b4,.cells #[ι 0,ι 0,ι 0] 360 (0,0)),(b6,.cells #[ι ((4*k+y.val:Nat):Int),ι (k:Nat),ι (y.val:Nat)] 360 (0,0)),(b7,.cells #[.bool true] 4 (0,0))] AY ⟨rfl,pre,y,rfl,hp,by rw[Su,hP,Aq hr];rfl,rfl⟩
    ·refine gz ?_;refine Cn [(B,.cells #[ι (k:Nat)] 3 (0,0)),(b8,.cells #[ι (k:Nat)] 3 (0,0)),(b2,.cells #[π b] 157 (0,0)),(b3,.cells #[.func (.func gf) #[] #[π rb]] 265 (0,0)),(b4,.cells #[ι 0,ι 0,ι 0] 360 (0,0)),(b6,.cells #[ι 0,ι 0,ι 0] 360 (0,0)),(b7,.cells #[.bool false] 4 (0,0))] AY ⟨rfl,?_⟩;intro j hj;rcases AB.1 hj with hj|hj
     ·exact hp j hj
     ·simp at hj;subst hj;rw[Su,hP,Jq]
  ·rintro D xs l' rfl ⟨rfl,hp⟩;refine gz ?_;refine yD (k+1,D::Ds) ⟨by simp;omega,?_⟩ (by simp;omega) ⟨rfl,rfl,rfl,rfl,rfl,rfl,trivial⟩ rfl AY;intro n h;simp only at h;by_cases h4:n<4*k
   ·exact hn n h4
   ·obtain⟨j,hj,rfl⟩: ∃j,j<4/\n=4*k+j:=⟨n-4*k,Af,Af⟩
    by_cases h0:4*k+j=0
    ·simp[h0]
    ·have:=hp ⟨j,hj⟩ ((mem_nums k ⟨j,hj⟩).2 h0);simp only at this;rw[this,Jq]
  ·rintro D c pre l' DG ⟨rfl,Hh,i,rfl,lj,hi,rfl⟩;have hi4:=i.isLt;obtain⟨hi0,hbef⟩:=Zh k Hh i DG;have hf:findN s PP=some (4*k+i.val):=by
    refine Mc _ _ _ Af (by rw[hi];simp;omega) ((QW _ _).2 λn h=>?_);by_cases h4:n<4*k
    ·exact hn n h4
    ·obtain⟨j,hj,rfl⟩: ∃j,j<4/\n=4*k+j:=⟨n-4*k,Af,Af⟩
     by_cases h0:4*k+j=0
     ·simp[h0]
     ·have:=lj ⟨j,hj⟩ (hbef ⟨j,hj⟩ (by simp only;omega) h0);simp only at this;rw[this,Jq]
   simp only[Ae,Ag];refine gz ?_;refine Ct [2] 4 ([(b6,.cells #[ι ((4*k+i.val:Nat):Int),ι (k:Nat),ι (i.val:Nat)] 360 (0,0)),(b7,.cells #[.bool true] 4 (0,0))]) ?_;refine pz ?_;refine gz ?_;refine AU (D::Ds) ((b4,.cells #[ι ((4*k+i.val:Nat):Int),ι (k:Nat),ι (i.val:Nat)] 360 (0,0))::l) rfl (l':=l) (by(apply Keep.mid;exact AY)) Ba AY ⟨?_,rfl⟩;rw[hf];simp only[JQ,mZ,IU];rw[show(4*k+i.val)/4=k by omega,show(4*k+i.val)%4=i.val by omega]
 ·obtain rfl:k=8:=by omega
  have hf:findN s PP=none:=(QW _ _).2 λn h=>hn n Af;refine gz ?_;refine Ct [2] 4 ([(b6,.cells #[ι 0,ι 0,ι 0] 360 (0,0)),(b7,.cells #[.bool false] 4 (0,0))]) ?_;refine pz ?_;refine gz ?_;refine AU Ds ((b4,.cells #[ι 0,ι 0,ι 0] 360 (0,0))::l) rfl (l':=l) (by(apply Keep.mid;exact AY)) Ba AY ⟨?_,rfl⟩;rw[hf];rfl
theorem Ph(b rb gf:Nat)[EN prog gf](s:ASt)(x:Int)(PP:Int->Int->Bool)(n:Nat)(hf:findN s PP=some n)(l:Ac)(hA:asA b s∈l)(hx:(rb,Obj.cells #[ι x] 3 (0,0))∈l)
 (hg: ∀(r q:Int) l,(rb,Obj.cells #[ι x] 3 (0,0))∈l->Fn prog gf [ι r,ι q,π rb] l λv l'=>v= .bool (PP r q)/\l'=l):
 Fn prog 192 [π b,.func (.func gf) #[] #[π rb]] l λv l'=>v= .tuple #[.agg #[ι (n:Nat),ι ((n/4:Nat):Int),ι ((n%4:Nat):Int)],.bool true]/\l'=l:=by
 have:=QY b rb gf s x PP l hA hx hg;rw[hf] at this;exact this
theorem Pi(b rb gf:Nat)[EN prog gf](s:ASt)(x:Int)(PP:Int->Int->Bool)(hf:findN s PP=none)(l:Ac)(hA:asA b s∈l)(hx:(rb,Obj.cells #[ι x] 3 (0,0))∈l)
 (hg: ∀(r q:Int) l,(rb,Obj.cells #[ι x] 3 (0,0))∈l->Fn prog gf [ι r,ι q,π rb] l λv l'=>v= .bool (PP r q)/\l'=l):
 Fn prog 192 [π b,.func (.func gf) #[] #[π rb]] l λv l'=>v= .tuple #[.agg #[ι 0,ι 0,ι 0],.bool false]/\l'=l:=by
 have:=QY b rb gf s x PP l hA hx hg;rw[hf] at this;exact this
def IY(x:Int):Int->Int->Bool:=λr _=>decide (r=x)
def isSer(x:Int):Int->Int->Bool:=λ_ q=>decide (q=x)
theorem na(rb:Nat)(x r q:Int)(l:Ac)(hx:(rb,Obj.cells #[ι x] 3 (0,0))∈l):Fn prog 193 [ι r,ι q,π rb] l λv l'=>v= .bool (IY x r q)/\l'=l:=by refine AO func193 ntmps193 λE=>?_;exact Fd
theorem nc(rb:Nat)(x r q:Int)(l:Ac)(hx:(rb,Obj.cells #[ι x] 3 (0,0))∈l):Fn prog 230 [ι r,ι q,π rb] l λv l'=>v= .bool (IY x r q)/\l'=l:=by refine AO func230 ntmps230 λE=>?_;exact Fd
theorem findN_lt(s:ASt)(PP:Int->Int->Bool)(n:Nat)(h:findN s PP=some n):n<32/\n≠0/\s.root n≠0/\PP (s.root n) (s.ser n)=true:=by obtain⟨h1,h2,_⟩:=QX _ _ _ h;simp[ASt.hit] at h2;exact⟨h1,h2.1,h2.2.1,h2.2.2⟩
def ofP(s:ASt)(r:Int):Int×Int×Bool:=match findN s (IY r) with|some n=>((n:Int),s.ser n,true)|none=>(0,0,false)
def rootP(s:ASt)(q:Int):Int×Int×Bool:=match findN s (isSer q) with|some n=>(s.root n,(n:Int),true)|none=>(0,0,false)
theorem of_any(b:Nat)(s:ASt)(r:Int)(l:Ac)(hA:asA b s∈l):Fn prog 166 [π b,ι r] l λv l'=>v= .tuple #[ι (ofP s r).1,ι (ofP s r).2.1,.bool (ofP s r).2.2]/\l'=l:=by
 refine AO func166 ntmps166 λE=>?_;refine Iy λrb=>?_;cases hf:findN s (IY r) with
 |none=>refine Be (AI rfl rfl (λl hl=>Pi b rb _ s r (IY r) hf l (hl _ Ca) (hl _ Ca) (λr' q l h=>nc rb r r' q l h))) ?_;refine Iy λb7=>?_;exact AU [] l rfl (l':=l) AY Ba .refl ⟨by simp[JQ,ofP,hf],rfl⟩
 |some n=>have C7:=(findN_lt s _ n hf).1;have qs:=s.c_ser (n/4) (n%4) Af Af;rw[show 4*(n/4)+n%4=n by omega] at qs;refine Be (AI rfl rfl (λl hl=>Ph b rb _ s r (IY r) n hf l (hl _ Ca) (hl _ Ca) (λr' q l h=>nc rb r r' q l h))) ?_;refine Iy λb7=>?_;refine Ct [] 16 _ ?_ (hR:=(λ_ h=>h));refine pz ?_;refine gz ?_;exact AU [] l rfl (l':=l) AY Ba .refl ⟨by simp[JQ,ofP,hf],rfl⟩
end As
end Go.Proofs.YtlifcingifodfaaGreat
