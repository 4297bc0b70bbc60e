/- Laws that the statement's proof leans on (joined out of several texts). -/
import Derived.Test.YtlifcingifodfaaGreatGg5
set_option maxHeartbeats 4000000
set_option linter.unusedVariables false
set_option linter.unusedSimpArgs false
namespace Go.Proofs.YtlifcingifodfaaGreat
open Tryz
open List(toArray)
namespace Ar
open Go.RowKit
set_option maxRecDepth 20000
variable{os:OL}{S:ArT}{kd fi:Int}{p:ObT->Bool}{k:Nat}
abbrev VL(B:Nat)(x:Int):Bd:=(B,.cells #[.int .i64 x] 29 (0,0))
theorem YB{sz e:Int}(h:addE S kd sz fi=e)(h0:e≠0):addD S kd sz fi=((0,e),S):=by unfold addD;rw[h,Ab h0]
theorem AbB{sz:Int}(h:addE S kd sz fi=0):addD S kd sz fi=((nextD S fi,0),{S with g:=upd S.g fi.toNat (S.g fi.toNat+1),os:=insD S.os (newO S kd sz fi)}):=by unfold addD;rw[h,Ad rfl]
theorem rx(h: ∀x,x∈XN os->p x.1=true):(os.all p)=true:=by rw[A5];intro o ho;obtain⟨k,hk⟩:=J8 ho;exact h (o,k) (Bc (i:=k) (by rw[Qn,hk];rfl))
theorem ry{o:ObT}(ho:o∈os)(h:p o=false):(os.all p)=false:=by
 cases e:os.all p with
 |false=>rfl
 |true=>rw[A5] at e;rw[e o ho] at h;cases h
theorem ee(hk:k<=os.length):(ocs os).take (k*9)=ocs (os.take k)/\(ocs os).drop (k*9)=ocs (os.drop k):=by
 have e:ocs os=ocs (os.take k)++ocs (os.drop k):=by rw[<-Ni,Cp]
 have hl:(ocs (os.take k)).length=k*9:=by rw[On,Dk];omega
 exact⟨by rw[e,GX hl],by rw[e,Iy hl]⟩
theorem Keep.appL(X:Ac){A B:Ac}(h:Keep A B):Keep (X++A) (X++B):=by obtain⟨r,p⟩:=h;exact⟨r,(EZ X p).trans (AA X r B)⟩
theorem aP(X:Ac)(v:Value)(n i bl:Nat)(xs ws:Ap)(cs F:Ac)(ho:OwnSl 100 9 v n xs cs)(hi:i<=n)(hw:ws.length=9)(h1: ∀u∈ws,u.oneCell'=true)(ZX: ∀u∈xs,u.oneCell'=true)(He: ∀c,c∈cs->c.1≠bl)(hn:n<=90000):
 Fn prog 182 [v,.int .i64 (i:Nat),.slice (some ⟨bl,0,none⟩) 1 1] ((bl,.cells (toArray ws) 100 (0,0))::(X++(cs++F))) λv' l'=> ∃c2,OwnSl 100 9 v' (n+1) (xs.take (i*9)++ws++xs.drop (i*9)) c2/\l'=X++(c2++F):=
 Fn.re (Keep.appL [_] (Keep.in_mid X cs F)) (aO v n i bl xs ws cs (X++F) ho hi hw h1 ZX He hn) λv' l' ⟨c2,h2,e⟩=>⟨X++(c2++F),by rw[e];exact Keep.in_mid c2 X F,c2,h2,rfl⟩
theorem rC{I:Int}(h:os.Pairwise λx y=>x.id<y.id)(hk:k<=os.length)(hn:¬∃o,0<k/\os[k-1]?=some o/\o.id>I): ∀x∈os.take k,x.id<=I:=by
 intro x hx;obtain⟨j,hj⟩:=J8 hx;rw[IC] at hj
 split at hj
 ·rename_i kv;obtain⟨o,ho⟩: ∃o,os[k-1]?=some o:=⟨_,Al Af⟩
  have h1:o.id<=I:=by
   by_cases h:o.id>I
   ·exact absurd ⟨o,Af,ho,h⟩ hn
   ·omega
  by_cases e:j=k-1
  ·subst e;rw[ho] at hj;cases hj;exact h1
  ·have:=rv h hj ho Af;omega
 ·cases hj
theorem add_any(b:Nat)(S:ArT)(lq:Ac)(hA:IsA b S lq)(kd sz fi:Int)(F:Ac):
 Fn prog 137 [.pointer (some ⟨b,0,none⟩),.int .i64 kd,.int .i64 sz,.int .i64 fi] (lq++F) λv l'=>v= .tuple #[.int .i64 (addD S kd sz fi).1.1,.int .i64 (addD S kd sz fi).1.2]/\ ∃DF,IsA b (addD S kd sz fi).2 DF/\l'=DF++F:=by
 have NG:=hA;have Eh:=hA.ok.len;obtain⟨Dm,v,cs,rfl,ho⟩:=hA;have Z7:=Dm.n1;have kh:=Dm.n2;obtain⟨gb,LD,Oz⟩:=WR ho;have c0:=uZ S.n S.g v;have hm:TC b S.n S.g v∈TC b S.n S.g v::cs++F:= .head _;obtain⟨L,hL⟩: ∃L,TC b S.n S.g v::cs++F=L:=⟨_,rfl⟩
 have CG: ∀c,c∈TC b S.n S.g v::cs->c∈L:=λc hc=>by rw[<-hL];exact Ai _ hc
 rw[hL] at hm⊢;obtain⟨N,hN⟩: ∃N,framesD kd sz=N:=⟨_,rfl⟩
 have hNr:=frames_rng kd sz;rw[hN] at hNr;refine AN func137 ntmps137 λE=>?_;refine AQ λb5=>?_;refine AQ λb7=>?_;refine AQ λb8=>?_;refine AQ λb9=>?_;refine Bh (AL rfl rfl λl2 _=>frames_any kd sz l2) ?_;rw[hN];refine AQ λGd=>?_;by_cases h1:N=0
 ·refine Aj ?_;have e:=YB (S:=S) (fi:=fi) (show addE S kd sz fi=2 by unfold addE;rw[hN,Ad h1]) AX;refine AU [] (GJ Gd N::VL b9 2::GJ b8 0::GJ b7 fi::GJ b5 kd::L) rfl (l':=L) .refl (by exact Ba) (.drop (.drop (.drop (.drop (.drop .refl))))) ⟨by rw[e];rfl,_,by rw[e];exact NG,hL.symm⟩
 refine Aj ?_;refine Cm [] 13 _ ?_ (hR:=(λ_ h=>h));by_cases h2:fi<0
 ·refine BM ?_;refine Aj ?_;have e:=YB (show addE S kd sz fi=3 by unfold addE;rw[hN,Ab h1,Ad (.inl h2)]) AX;refine AU [] (GJ Gd N::VL b9 3::GJ b8 0::GJ b7 fi::GJ b5 kd::L) rfl (l':=L) .refl (by exact Ba) (.drop (.drop (.drop (.drop (.drop .refl))))) ⟨by rw[e];rfl,_,by rw[e];exact NG,hL.symm⟩
 by_cases h3:fi>S.n-N
 ·refine BM ?_;refine Aj ?_;have e:=YB (show addE S kd sz fi=3 by unfold addE;rw[hN,Ab h1,Ad (.inr h3)]) AX;refine AU [] (GJ Gd N::VL b9 3::GJ b8 0::GJ b7 fi::GJ b5 kd::L) rfl (l':=L) .refl (by exact Ba) (.drop (.drop (.drop (.drop (.drop .refl))))) ⟨by rw[e];rfl,_,by rw[e];exact NG,hL.symm⟩
 refine BM ?_;refine Aj ?_;refine AS (Az rfl rfl (Jm _ rfl _)) ?_;rintro _ _ ⟨B,rfl,rfl⟩;refine Aj ?_;refine Dg (α:=ObT×Nat) (ps:=[38,39]) (lb:=[.pointer (some ⟨B,0,none⟩)]) rfl (HY B b S.n S.g v S.os gb LD Af) (λ_=>rfl) rfl
  (λpre l=>l=[xB B (some ⟨b,0,none⟩),GJ Gd N,VL b9 0,GJ b8 0,GJ b7 fi,GJ b5 kd]/\ ∀x,x∈pre->JT kd fi N x.1=true)
  (λc pre l=>c= .ret/\ ∃(G8:List (ObT×Nat)) (x:ObT×Nat),pre=G8++[x]/\JT kd fi N x.1=false/\l=[VL b9 16,GJ b8 0])
  _ L (λpre l2 X2 hX h=>⟨by rw[h.1];exact List.Mem.head _,Aa _ (hX _ (CG _ (.head _)))⟩) (by exact AW) ⟨rfl,by simp⟩ ?_ ?_ ?_
 ·rintro E r0 FU pre ⟨o,k⟩ l' T ⟨fn,tmps,D,rfl⟩ hT ⟨rfl,Gn⟩ Dw;obtain⟨Gc,_,_⟩:=Qo Dw;simp only at Gc;obtain⟨sp,hcse⟩:=Oz _ _ Gc;have ut:=hT _ (CG _ (.tail _ (by rw[hcse];exact .head _)));simp only[DX,Ae,Ag];refine Aj ?_;refine CK (by exact DY) ?_;refine Aj ?_;refine Bh (AL rfl rfl λl2 hl=>gU kd fi N o gb (k*9) _ _ _ l2 (hl _ (.tail _ (.tail _ (.tail _ (.tail _ (.tail _ (.tail _ (.tail _ ut)))))))) (PN Gc sp)) ?_;cases jJ:JT kd fi N o with
  |false=>refine Aj ?_;refine EI [VL b9 16,GJ b8 0] (by exact AW) ⟨rfl,pre,(o,k),rfl,jJ,rfl⟩
  |true=>
   refine Aj ?_;refine Ci _ .refl ⟨rfl,λx hx=>?_⟩;rcases AF.1 hx with hx|hx
   ·exact Gn x hx
   ·rw[AC.1 hx];exact jJ
 ·rintro D xs l' rfl ⟨rfl,Gn⟩;simp only[Ae,Ag];refine Aj ?_;refine Bh (AL rfl rfl λl2 hl=>next_any b S _ NG fi l2 (λc hc=>hl _ (.tail _ (.tail _ (.tail _ (.tail _ (.tail _ (.tail _ (.tail _ (CG c hc)))))))))) ?_;have GD:=rx (p:=λo=>JT kd fi N o) Gn;by_cases h4:nextD S fi=0
  ·rw[h4];refine Aj ?_;have e:=YB (show addE S kd sz fi=11 by unfold addE;rw[hN,Ab h1,Ab Af,Ab (by rw[GD];decide),Ad h4]) AX;exact AU [D] (GJ Gd N::VL b9 11::GJ b8 0::GJ b7 fi::GJ b5 kd::L) rfl (l':=L) (by exact AW) (by exact Ba) (.drop (.drop (.drop (.drop (.drop .refl))))) ⟨by rw[e];rfl,_,by rw[e];exact NG,hL.symm⟩
  have hE:addE S kd sz fi=0:=by unfold addE;rw[hN,Ab h1,Ab Af,Ab (by rw[GD];decide),Ab h4]
  obtain⟨f0,f1,f2,f3,f4⟩:=TE Dm h4;obtain⟨I,hI⟩: ∃I,nextD S fi=I:=⟨_,rfl⟩
  rw[hI] at f2 f3 f4 h4⊢;obtain⟨j,rfl⟩: ∃j:Nat,fi=j:=⟨fi.toNat,Af⟩
  have hj:j<64:=by omega
  rw[A0] at f2;have cg:=u7 S.n S.g v hj;have hg:=Dm.g1 j;have XJ:=xA Dm kd sz j;rw[AbB hE] at XJ⊢;rw[hI,A0] at XJ⊢;rw[<-hL];obtain⟨p,cap,rfl,hp⟩: ∃p cap,v= .slice p S.os.length cap/\(0<S.os.length->p=some ⟨gb,0,none⟩):=by
   rcases LD with⟨h,h0⟩|⟨cap,h⟩
   ·exact⟨none,0,by rw[h,h0],λh=>by omega⟩
   ·exact⟨_,cap,h,λ_=>rfl⟩
  clear CG hm hL NG;refine Aj ?_;refine Cm [10] 11 ([]) ?_;refine BM ?_;apply Gp (S:=[GJ b7 (j:Nat)]);(·exact Vb);(·exact C7 (.tail _ (.tail _ (.tail _ (.tail _ (.tail _ (.head _)))))));(·rfl);(·rfl);(·rfl);refine BM ?_;apply Gp (S:=[TC b S.n S.g (.slice p S.os.length cap)])
  ·exact DS rfl (.head _) cg
  ·exact C7 (.tail _ (.tail _ (.tail _ (.tail _ (.tail _ (.tail _ (.tail _ (.head _))))))))
  ·rfl
  ·rfl
  ·rfl
  refine BM ?_;apply Hy
  ·exact Du (b:=b) (off:=1+j*1) (cs:=toArray (Yx S.n S.g (.slice p S.os.length cap))) rfl rfl rfl (by rw[lG _ _ _ hj];exact DY) (by rw[Bv,WP];omega)
  (·rfl);(·rfl);(·intro _ _ _ c hc;cases hc);(·exact λ_ _ _ x hx ha=>Dh BA hx ha)
  rintro _ _ ⟨rfl,rfl⟩;obtain⟨g',hg'⟩: ∃g',upd S.g j (S.g j+1)=g':=⟨_,rfl⟩
  rw[hg'] at XJ⊢;have cl:=VK S.n g' (.slice p S.os.length cap);refine BM ?_;refine Aj ?_;refine CN (α:=Nat) (λk=>[(0,.pointer (some ⟨b,0,none⟩)),(2,.int .i64 sz),(5,.pointer (some ⟨b5,0,none⟩)),(7,.pointer (some ⟨b7,0,none⟩)),(8,.pointer (some ⟨b8,0,none⟩)),(9,.pointer (some ⟨b9,0,none⟩)),(10,.pointer (some ⟨Gd,0,none⟩)),(13,.int .i64 I),(14,.int .i64 k)])
   (λk=>Cr D::xB B (some ⟨b,0,none⟩)::GJ Gd N::VL b9 0::GJ b8 0::GJ b7 (j:Nat)::GJ b5 kd::TC b S.n g' (.slice p S.os.length cap)::(cs++F)) (λk=>k<=S.os.length/\ ∀x∈S.os.drop k,¬x.id<=I) (λk=>k) S.os.length ⟨Bf _,by simp⟩ ⟨rfl,rfl,rfl,rfl,rfl,rfl,rfl,rfl,rfl,trivial⟩ .refl ?_
  rintro k ⟨hk,hd⟩;by_cases Wx: ∃o,0<k/\S.os[k-1]?=some o/\o.id>I
  ·obtain⟨o,hk0,Gc,hoI⟩:=Wx;obtain⟨k,rfl⟩: ∃q,k=q+1:=⟨k-1,Af⟩
   rw[Nat.add_sub_cancel] at Gc;obtain⟨sp,hcse⟩:=Oz _ _ Gc;have qx:=hp Af;have co:(toArray (ocs S.os++sp))[k*9]?=some (.int .i64 o.id):=PN Gc sp 0 Af;rw[qx] at cl⊢;refine Aj ?_;refine Yi (DS (v:= .int .i64 o.id) (cs:=toArray (ocs S.os++sp)) rfl (.tail _ (.tail _ (.tail _ (.tail _ (.tail _ (.tail _ (.tail _ (.tail _ (Ai _ (by rw[hcse];exact .head _)))))))))) ?_) rfl rfl rfl rfl rfl rfl ?_
   ·rw[show((((k+1:Nat)):Int)-1).toNat=k by omega,BF];exact co
   refine Aj ?_;rw[show(((k+1:Nat)):Int)-1=(k:Nat) by omega,<-qx];refine BO k ⟨Af,λx hx=>?_⟩ Af ⟨rfl,rfl,rfl,rfl,rfl,rfl,rfl,rfl,rfl,trivial⟩ .refl;rw[Di Af] at hx;rcases At.1 hx with rfl|hx
   ·rw[(Ay.1 Gc).2];omega
   ·exact hd x hx
  ·have hT:=rC Dm.asc hk Wx;have wp:=xz (o:=newO S kd sz j) hk (λx hx=>by show x.id<=nextD S j;rw[hI];exact hT x hx) (λx hx=>by show ¬x.id<=nextD S j;rw[hI];exact hd x hx);have Aav:newO S kd sz j=⟨I,kd,sz,j,N,0,0,0,0⟩:=by unfold newO;rw[hI,hN]
   rw[Aav] at wp XJ⊢;obtain⟨ob,gk⟩: ∃ob:ObT,ob=⟨I,kd,sz,j,N,0,0,0,0⟩:=⟨_,rfl⟩
   have AdN:obC ob=[.int .i64 I,.int .i64 kd,.int .i64 sz,.int .i64 j,.int .i64 N,.int .i64 0,.int .i64 0,.int .i64 0,.int .i64 0]:=by rw[gk]
   rw[<-gk] at wp XJ⊢;have hX: ∀x:Bd,x∈[GJ b5 kd,GJ b7 (j:Nat),GJ Gd N,TC b S.n g' (.slice p S.os.length cap)]->x∈Cr D::xB B (some ⟨b,0,none⟩)::GJ Gd N::VL b9 0::GJ b8 0::GJ b7 (j:Nat)::GJ b5 kd::TC b S.n g' (.slice p S.os.length cap)::(cs++F):=by intro x hx;simp only[At,BQ,EE] at hx⊢;rcases hx with rfl|rfl|rfl|rfl<;>simp only[true_or,or_true]
   have wq: ∀bl,(∀c,c∈Cr D::xB B (some ⟨b,0,none⟩)::GJ Gd N::VL b9 0::GJ b8 0::GJ b7 (j:Nat)::GJ b5 kd::TC b S.n g' (.slice p S.os.length cap)::(cs++F)->c.1≠bl)-> ∀c,c∈cs->c.1≠bl:=λbl h c hc=>h c (.tail _ (.tail _ (.tail _ (.tail _ (.tail _ (.tail _ (.tail _ (.tail _ (Ai _ hc)))))))));rcases Nat.eq_zero_or_pos k with hk0|hk0
   case' inl=>
    refine Aj ?_
   case' inr=>
    obtain⟨q,hq⟩: ∃q,k=q+1:=⟨k-1,Af⟩
    obtain⟨o,Gc⟩: ∃o,S.os[q]?=some o:=⟨_,Al Af⟩
    have hoI:¬o.id>I:=λh=>Wx ⟨o,Af,by rw[hq];exact Gc,h⟩;obtain⟨sp,hcse⟩:=Oz _ _ Gc;have qx:=hp Af;have co:(toArray (ocs S.os++sp))[q*9]?=some (.int .i64 o.id):=PN Gc sp 0 Af;rw[qx] at cl⊢;refine Aj ?_;refine Yi (DS (v:= .int .i64 o.id) (cs:=toArray (ocs S.os++sp)) rfl (.tail _ (.tail _ (.tail _ (.tail _ (.tail _ (.tail _ (.tail _ (.tail _ (Ai _ (by rw[hcse];exact .head _)))))))))) ?_) rfl rfl rfl rfl rfl rfl ?_
    ·rw[show(((k:Nat):Int)-1).toNat=q by omega,BF];exact co
    refine Aj ?_;rw[<-qx] at cl⊢
   all_goals
    refine Cm [12,13,16] 17 ([]) ?_;refine BM ?_;apply Gp (S:=[TC b S.n g' (.slice p S.os.length cap)])
    ·exact DS rfl (.head _) cl
    ·exact C7 (hX _ (.tail _ (.tail _ (.tail _ (.head _)))))
    ·rfl
    ·rfl
    ·rfl
    refine BM ?_;apply Gp (S:=[GJ b5 kd]);(·exact Vb);(·exact C7 (hX _ (.head _)));(·rfl);(·rfl);(·rfl);refine BM ?_;apply Gp (S:=[GJ b7 (j:Nat)]);(·exact Vb);(·exact C7 (hX _ (.tail _ (.head _))));(·rfl);(·rfl);(·rfl);refine BM ?_;apply Gp (S:=[GJ Gd N]);(·exact Vb);(·exact C7 (hX _ (.tail _ (.tail _ (.head _)))));(·rfl);(·rfl);(·rfl);refine BM ?_;apply G9
    ·apply FE (ws:=obC ob) (k:=9)
     ·rw[AdN];rfl
     ·rfl
     ·rfl
     ·decide
     ·decide
    ·rfl
    ·rfl
    ·rfl
    ·intro _ _ _ c hc;cases hc
    ·rintro _ _ ⟨bl,_,rfl,rfl⟩ x hx _ c hc;refine .tail _ (hX _ ?_);simp only[At,BQ,EE] at hx;rcases hx with rfl|rfl|rfl|rfl<;>simp only[At,BQ,EE] at hc<;>subst hc<;>simp only[At,true_or,or_true]
    rintro _ _ ⟨bl,So,rfl,rfl⟩;refine BM ?_;apply G9
    ·exact Az rfl rfl (aP [Cr D,xB B (some ⟨b,0,none⟩),GJ Gd N,VL b9 0,GJ b8 0,GJ b7 (j:Nat),GJ b5 kd,TC b S.n g' (.slice p S.os.length cap)] (.slice p S.os.length cap) S.os.length k bl (ocs S.os) (obC ob) cs F ho hk rfl (by simp[Value.oneCell']) (dZ _) (wq bl So) Af)
    ·rfl
    ·rfl
    ·rfl
    ·intro _ _ _ c hc;cases hc
    ·exact λ_ _ _ x hx ha=>Dh BA hx ha
    rintro v' _ ⟨c2,Fg,rfl⟩;have Jz:v'.oneCell'=true:=Fg.one;simp only[Ae,Ag];refine BM ?_;apply Hy
    ·exact Du (b:=b) (off:=65) (cs:=toArray (Yx S.n g' (.slice p S.os.length cap))) rfl rfl Jz (by rw[Yy];exact DY) (by rw[Bv,WP];omega)
    (·rfl);(·rfl);(·intro _ _ _ c hc;cases hc);(·exact λ_ _ _ x hx ha=>Dh BA hx ha)
    rintro _ _ ⟨rfl,rfl⟩;refine BM ?_;refine Aj ?_;rw[(ee hk).1,(ee hk).2] at Fg;refine AU [D] (GJ Gd N::VL b9 0::GJ b8 I::GJ b7 (j:Nat)::GJ b5 kd::TC b S.n g' v'::(c2++F)) rfl (l':=TC b S.n g' v'::(c2++F)) (by exact AW) (by exact Ba) (.drop (.drop (.drop (.drop (.drop .refl))))) ⟨rfl,TC b S.n g' v'::c2,⟨XJ,v',c2,rfl,?_⟩,rfl⟩;show OwnSl 100 9 v' (insD S.os ob).length (ocs (insD S.os ob)) c2;rw[WS,wp,Ni,show ocs (ob::List.drop k S.os)=obC ob++ocs (List.drop k S.os) from rfl,<-Am];exact Fg
 ·rintro D c pre l' Dw ⟨rfl,G8,x,rfl,jJ,rfl⟩;obtain⟨Gc,_,_⟩:=Qo Dw;simp only[Ae,Ag];refine Aj ?_;have e:=YB (show addE S kd sz fi=16 by unfold addE;rw[hN,Ab h1,Ab Af,Ad (ry (Bc Gc) jJ)]) AX;exact AU [D] (VL b9 16::GJ b8 0::L) rfl (l':=L) (by exact AW) (by exact Ba) (.drop (.drop .refl)) ⟨by rw[e];rfl,_,by rw[e];exact NG,hL.symm⟩
end Ar
open Go.RowKit
set_option maxRecDepth 20000
def RF(l:Ac)(v:Value)(xs:A4):Prop:=
 ∃a cap,v= .slice a xs.length cap/\(0<xs.length-> ∃b off cs t fz,a=some ⟨b,off,none⟩/\(b,Obj.cells cs t fz)∈l/\ ∀i x,xs[i]?=some x->cs[off+i*1]?=some (.int .i64 x))
def CU(x:Int):Value:= .int .i64 x
theorem OwnSl.intsQ{e:Nat}{v:Value}{xs:A4}{cs l:Ac}(h:OwnSl e 1 v xs.length (xs.map CU) cs)(hs: ∀c,c∈cs->c∈l):RF l v xs:=by
 rcases h.2 with⟨rfl,h0,rfl⟩|⟨b,cap,sp,rfl,rfl,_⟩
 ·exact⟨none,0,by rw[h0],λh=>by omega⟩
 ·refine⟨_,cap,rfl,λh0=>⟨b,0,_,e,(0,0),rfl,hs _ Ak,λi x hx=>?_⟩⟩;have C9:=(Ay.1 hx).1;rw[BF,Dr,AE,AH (by simpa using C9),A6,hx];rfl
theorem Nj(v u:Value)(xs ys:A4)(l:Ac)(h1:RF l v xs)(h2:RF l u ys)(hx:xs.length<=1000000):
 Fn prog 48 [v,u] l λr l'=>r= .bool (decide (xs=ys))/\l'=l:=by
 obtain⟨a,ca,rfl,h1⟩:=h1;obtain⟨a',ca',rfl,h2⟩:=h2;refine AN func48 ntmps48 λE=>?_;by_cases hl:xs.length=ys.length
 ·refine gz ?_;refine CN (α:=Nat) (λk=>[(0,.slice a xs.length ca),(1,.slice a' ys.length ca'),(5,.int .i64 k)]) (λk=>l) (λk=>k<=xs.length/\ ∀j,j<k->xs[j]?=ys[j]?) (λk=>xs.length-k) 0 ⟨Bp _,λj h=>by omega⟩ ⟨rfl,rfl,rfl,trivial⟩ .refl ?_;rintro k ⟨hk,hj⟩;by_cases C9:k<xs.length
  ·obtain⟨b,off,cs,t,fz,rfl,hm,hc⟩:=h1 Af;obtain⟨b',off',cs',t',fz',rfl,dy,hc'⟩:=h2 Af;have g1:=hc k _ (Al C9);have g2:=hc' k _ (Al (show k<ys.length by omega));obtain⟨x,qq⟩: ∃x,xs[k]=x:=⟨_,rfl⟩
   obtain⟨y,hy0⟩: ∃y,ys[k]'Af=y:=⟨_,rfl⟩
   rw[qq] at g1;rw[hy0] at g2;have e1:xs[k]?=some x:=by rw[Al C9,qq]
   have e2:ys[k]?=some y:=by rw[Al (show k<ys.length by omega),hy0]
   refine gz ?_;refine Cm [] 9 _ ?_ (hR:=(λ_ h=>h));refine pz ?_;by_cases UT:x=y
   ·refine gz ?_;exact BO (k+1) ⟨Af,λj kv=>by
     by_cases e:j=k
     ·subst e;rw[e1,e2,UT]
     ·exact hj j Af⟩ Af ⟨rfl,rfl,rfl,trivial⟩ .refl
   ·refine gz ?_;refine Bb .refl ⟨?_,rfl⟩;rw[show decide (xs=ys)=false from Aw λe=>by subst e;rw[e1] at e2;exact UT (by cases e2;rfl)];rfl
  ·obtain rfl:k=xs.length:=by omega
   refine gz ?_;refine Bb .refl ⟨?_,rfl⟩;rw[show decide (xs=ys)=true from Au (CI λj=>by
    by_cases h:j<xs.length
    ·exact hj j h
    ·rw[Bg Af,Bg Af])];rfl
 ·refine gz ?_;refine Bb .refl ⟨?_,rfl⟩;rw[show decide (xs=ys)=false from Aw λe=>hl (by rw[e])];rfl
namespace Qu
variable{α:Type}{X:Nat->A4}{vs:Nat->Value}{ro:Option Nat}{N:Nat}
theorem YC(id:Int): ∀(xs:A4) (k:Nat),xs[k]?=some id->(∀j,j<k->xs[j]?≠some id)->xs.idxOf id=k/\id∈xs
 |[],k,h,_=>by simp at h
 |x::xs,0,h,_=>by simp only[Dc,Jb] at h;subst h;simp
 |x::xs,k+1,h,hn=>by
  have h0:x≠id:=λe=>hn 0 Af (by simp[e]);have ih:=YC id xs k (by simpa using h) λj hj=>by simpa using hn (j+1) Af
  refine⟨?_,An _ ih.2⟩;rw[List.idxOf_cons,show(x==id)=false by simpa using h0,ih.1];rfl
def indexI(xs:A4)(id:Int):Int:=if id∈xs then(xs.idxOf id:Nat) else-1
theorem index_any(v:Value)(xs:A4)(id:Int)(l:Ac)(h1:RF l v xs)(hx:xs.length<=1000000):
 Fn prog 254 [v,.int .i64 id] l λr l'=>r= .int .i64 (indexI xs id)/\l'=l:=by
 obtain⟨a,ca,rfl,h1⟩:=h1;refine AN func254 ntmps254 λE=>?_;refine gz ?_;refine CN (α:=Nat) (λk=>[(0,.slice a xs.length ca),(1,.int .i64 id),(7,.int .i64 xs.length),(8,.int .i64 k)]) (λk=>l) (λk=>k<=xs.length/\ ∀j,j<k->xs[j]?≠some id) (λk=>xs.length-k) 0 ⟨Bp _,λj h=>by omega⟩ ⟨rfl,rfl,rfl,rfl,trivial⟩ .refl ?_;rintro k ⟨hk,hj⟩;by_cases C9:k<xs.length
 ·obtain⟨b,off,cs,t,fz,rfl,hm,hc⟩:=h1 Af;have g1:=hc k _ (Al C9);obtain⟨x,qq⟩: ∃x,xs[k]=x:=⟨_,rfl⟩
  rw[qq] at g1;have e1:xs[k]?=some x:=by rw[Al C9,qq]
  by_cases UT:id=x
  ·subst UT;obtain⟨i1,i2⟩:=YC id xs k e1 hj;refine gz ?_;refine Bb .refl ⟨?_,rfl⟩;simp only[JH,indexI,Ad i2,i1]
  ·refine gz ?_;exact BO (k+1) ⟨Af,λj kv=>by
    by_cases e:j=k
    ·subst e;rw[e1];intro h;exact UT (by cases h;rfl)
    ·exact hj j Af⟩ Af ⟨rfl,rfl,rfl,rfl,trivial⟩ .refl
 ·obtain rfl:k=xs.length:=by omega
  refine gz ?_;refine Bb .refl ⟨?_,rfl⟩;have:id∉xs:=λhm=>by obtain⟨j,kA,hj2⟩:=Ig hm;exact hj j kA (by rw[Al kA,hj2])
  simp only[JH,indexI,Ab this]
theorem delete_any(v:Value)(xs:A4)(i:Nat)(hi:i<xs.length)(cs F:Ac)(h:OwnSl 3 1 v xs.length (xs.map CU) cs)(hn:xs.length<=1000000):
 Fn prog 199 [v,.int .i64 (i:Nat),.int .i64 ((i:Int)+1)] (cs++F) λr l'=> ∃cs',OwnSl 3 1 r (xs.eraseIdx i).length ((xs.eraseIdx i).map CU) cs'/\l'=cs'++F:=by
 obtain⟨Eh,h⟩:=h;rcases h with⟨rfl,h0,rfl⟩|⟨gb,cap,sp,rfl,rfl,ZW,UV,NP⟩
 ·omega
 obtain⟨cur,hcur⟩: ∃cur,xs.map CU++sp=cur:=⟨_,rfl⟩
 obtain⟨ys,ac⟩: ∃ys,(xs.eraseIdx i).map CU=ys:=⟨_,rfl⟩
 obtain⟨m,hm⟩: ∃m,xs.length=i+m+1:=⟨xs.length-(i+1),Af⟩
 have ue:(xs.eraseIdx i).length=i+m:=by rw[Ga,Ad hi];omega
 have gl:((xs.drop (i+1)).map CU).length=m:=by simp;omega
 have Aaw:cur.take (i*1)++(xs.drop (i+1)).map CU=ys:=by rw[<-hcur,<-ac,Dp,Aq,Dr,List.take_append_of_le_length (by simp;omega),Hd]
 obtain⟨off',hoff⟩: ∃o,(if cap=i+1 then 0 else 0+(i+1)*1)=o:=⟨_,rfl⟩
 rw[hcur] at NP⊢;rw[ue,ac];refine AN func199 ntmps199 λE=>?_;simp only[Ae,Ag];refine gz ?_;refine Bh (Gf (l0:=i) (h0:=i+1) (m0:=xs.length) rfl (.some rfl Af rfl) (.some rfl Af Af) (.some rfl Af rfl) (λ_=>rfl) Af Af Af rfl rfl rfl) ?_;refine gz ?_;refine Cm [6] 8 ([]) ?_;refine pz ?_;apply Eo
 ·exact Gf (l0:=0) (h0:=i) (m0:=cap) (off':=0) (n':=i) (c':=cap) rfl (.none) (.some rfl Af rfl) (.none) (by simp) Af Af Af (by simp) Af Af
 ·rfl
 ·rfl
 ·rfl
 refine pz ?_;apply Eo
 ·exact Gf (l0:=i+1) (h0:=xs.length) (m0:=cap) (off':=off') (n':=m) rfl (.some rfl Af Af) (.none) (.none) (by simp) Af Af Af hoff Af rfl
 ·rfl
 ·rfl
 ·rfl
 refine pz ?_;apply CM
 ·apply VA (news:=(xs.drop (i+1)).map CU) (cl:=toArray cur) (cur:=toArray cur)
  ·rfl
  ·rfl
  ·exact Ak
  ·intro j u hj;have kA:=(Ay.1 hj).1;rw[gl] at kA;rw[A6,K8] at hj;rw[<-hoff,Ab Af,AE,<-hcur,AH (by simp;omega),A6,show 0+(i+1)*1+j=i+1+j by omega];exact hj
  ·rw[gl];omega
  ·intro u hu;rw[Av] at hu;obtain⟨a,_,rfl⟩:=hu;rfl
  ·omega
  ·rw[gl];simp only[Bv];omega
 ·rfl
 ·rfl
 ·rfl
 ·intro _ _ _ c hc;cases hc
 rintro _ _ ⟨rfl,rfl⟩;have e1:(toArray cur).toList.take (i*1)++(xs.drop (i+1)).map CU++(toArray cur).toList.drop (i*1+((xs.drop (i+1)).map CU).length)=ys++cur.drop (i+m):=by rw[gl,Dr] at*;rw[<-Aaw]
 rw[e1];refine pz ?_;refine gz ?_;refine Bh (Gf (l0:=i+m) (h0:=xs.length) (m0:=cap) (off':=i+m) (n':=1) rfl (.some rfl Af rfl) (.some rfl Af rfl) (.none) (by simp) Af Af Af (by rw[Ab Af];omega) Af rfl) ?_;refine gz ?_;have hyl:ys.length=i+m:=by rw[<-ac,A7,ue]
 have hdl:(cur.drop (i+m)).length=cap-(i+m):=by rw[DN];omega
 apply M9
 ·apply dO (zs:=[.int .i64 0]) (cs:=toArray (ys++cur.drop (i+m)))
  ·rfl
  ·omega
  ·simp[Value.oneCell']
  ·exact DY
  ·simp;omega
 ·rfl
 ·rfl
 rintro _ _ ⟨rfl,rfl⟩;refine gz ?_;refine BE [] rfl .refl (by exact Ba) ⟨[(gb,_)],⟨by rw[hyl];omega,.inr ⟨gb,cap,.int .i64 0::(cur.drop (i+m)).drop 1,rfl,?_,Af,UV,?_⟩⟩,rfl⟩
 ·congr 3;simp only[BL,List.replicate_zero,Cy,List.flatten_nil,Bj,Da,BB];congr 1;rw[Cv _ _ Af,show i+m-ys.length=0 by omega];cases hd:cur.drop (i+m) with
  |nil=>rw[hd] at hdl;simp at hdl;omega
  |cons c r=>rfl
 ·simp only[Ah,Bu,DN];omega
def upd{α:Type}(f:Nat->α)(k:Nat)(v:α):Nat->α:=λi=>if i=k then v else f i
theorem DL(f:Nat->α)(k:Nat)(v:α):upd f k v k=v:=Ad rfl
theorem Dl(f:Nat->α)(k i:Nat)(v:α)(h:i≠k):upd f k v i=f i:=Ab h
theorem eg(f:Nat->α)(k:Nat)(v w:α):upd (upd f k v) k w=upd f k w:=by funext i;unfold upd;split<;>rfl
abbrev qC(b:Nat)(vs:Nat->Value):Bd:=(b,.cells (Array.ofFn (n:=8) λi=>vs i.val) 339 (0,0))
theorem WT(vs:Nat->Value)(p:Nat)(hp:p<8):(Array.ofFn (n:=8) λi=>vs i.val)[p*1]?=some (vs p):=by simp[hp]
theorem aQ(vs:Nat->Value)(p:Nat)(hp:p<8)(v:Value):(Array.ofFn (n:=8) λi=>vs i.val).setIfInBounds (p*1) v=Array.ofFn (n:=8) λi=>upd vs p v i.val:=by
 apply DI;intro j;rw[Dr];by_cases hj:j<8
 ·by_cases e:p=j
  ·subst e;rw[Hl (by simpa using hp)];simp[hp,DL]
  ·rw[Gs e];simp[hj,Dl _ _ _ _ (FJ e)]
 ·rw[Fj (by simpa using hj),Fj (by simpa using hj)]
def Is(cs:Nat->Ac):Nat->Ac
 |0=>[]
 |k+1=>cs k++Is cs k
theorem TF{cs cs':Nat->Ac}: ∀k,(∀i,i<k->cs i=cs' i)->Is cs k=Is cs' k
 |0,_=>rfl
 |k+1,h=>by rw[Is,Is,h k Af,TF k λi hi=>h i Af]
theorem Nk(cs:Nat->Ac)(p:Nat): ∀k,p<k->(Is cs k).Perm (cs p++Is (upd cs p []) k)
 |0,h=>by omega
 |k+1,h=>by
  by_cases e:p=k
  ·subst e;rw[Is,Is,DL,Ag,TF p λi hi=>(Dl cs p i [] Af).symm]
  ·rw[Is,Is,Dl _ _ _ _ (FJ e)];exact((Nk cs p k Af).append_left _).trans (AA _ _ _)
theorem YD(cs:Nat->Ac)(p:Nat)(c:Bd)(hc:c∈cs p): ∀k,p<k->c∈Is cs k
 |0,h=>by omega
 |k+1,h=>by
  rw[Is,AF];by_cases e:p=k
  ·subst e;exact .inl hc
  ·exact .inr (YD cs p c hc k Af)
structure QS(X:Nat->A4)(vs:Nat->Value)(cs:Nat->Ac):Prop where
 own: ∀p,p<8->OwnSl 3 1 (vs p) (X p).length ((X p).map CU) (cs p)
theorem QS.upd{X:Nat->A4}{vs:Nat->Value}{cs:Nat->Ac}(h:QS X vs cs)(p:Nat)(ys:A4)(v:Value)(c:Ac)(ho:OwnSl 3 1 v ys.length (ys.map CU) c):QS (upd X p ys) (upd vs p v) (upd cs p c):=⟨λq hq=>by
 by_cases e:q=p
 ·subst e;rw[DL,DL,DL];exact ho
 ·rw[Dl _ _ _ _ e,Dl _ _ _ _ e,Dl _ _ _ _ e];exact h.own q hq⟩
def IsQ(b:Nat)(X:Nat->A4)(lq:Ac):Prop:= ∃vs cs,QS X vs cs/\lq=qC b vs::Is cs 8
theorem QS.ints{cs:Nat->Ac}(h:QS X vs cs)(p:Nat)(hp:p<8)(l:Ac)(hs: ∀c,c∈Is cs 8->c∈l):RF l (vs p) (X p):=(h.own p hp).intsQ λc hc=>hs c (YD cs p c hc 8 hp)
def fallT(ne:Nat->Bool)(m:Nat):List Nat:=((List.range (8-m)).map (7- ·)).filter ne
theorem TG(ne:Nat->Bool)(p:Nat)(hp:p<8):fallT ne p=fallT ne (p+1)++if ne p then[p] else[]:=by unfold fallT;rw[show 8-p=(8-(p+1))+1 by omega,CC,Aq,DJ];congr 1;simp only[AJ,CX,show 7-(8-(p+1))=p by omega,Fv,List.filter_nil]
theorem VM(ne:Nat->Bool): ∀(d m:Nat),m+d<=8->fallT ne (m+d)<+:fallT ne m
 |0,m,_=>GZ
 |d+1,m,h=>by rw[<-J0,show m+d+1=(m+d)+1 from rfl];refine List.IsPrefix.trans ?_ (VM ne d m Af);rw[TG ne (m+d) Af];exact GP _ _
theorem fallT_mem(ne:Nat->Bool)(m p:Nat):p∈fallT ne m<->m<=p/\p<8/\ne p=true:=by
 unfold fallT;simp only[BY,Av,Dz];constructor
 ·rintro⟨⟨i,hi,rfl⟩,h⟩;exact⟨Af,Af,h⟩
 ·rintro⟨h1,h2,h3⟩;exact⟨⟨7-p,Af,Af⟩,h3⟩
theorem Ot(pv:Option Addr)(l:Ac):Fn prog 119 [.pointer pv] l λv l'=> ∃B,(∀c,c∈l->c.1≠B)/\v= .func (.func 176) #[] #[.pointer (some ⟨B,0,none⟩)]/\l'=(B,.cells #[.pointer pv] 159 (0,0))::l:=by refine AN func119 ntmps119 λE=>?_;refine gz ?_;refine AS (Ez rfl rfl) ?_;rintro _ _ ⟨B,hB,rfl,rfl⟩;refine gz ?_;exact Bb .refl ⟨B,hB,rfl,rfl⟩
theorem Rh(B b:Nat)(vs:Nat->Value)(ns:Nat->Nat)(hv: ∀p,p<8-> ∃a cap,vs p= .slice a (ns p) cap):FC prog 176 [.pointer (some ⟨B,0,none⟩)] (λp:Nat=>[.int .i64 (p:Nat),vs p]) (λxs=>xs=fallT (λp=>ns p !=0) 0) (λpre=>pre<+:fallT (λp=>ns p !=0) 0)
 (λ_ l=>(B,.cells #[.pointer (some ⟨b,0,none⟩)] 159 (0,0))∈l/\qC b vs∈l):=by
 obtain⟨ne,He⟩: ∃ne,(λp=>ns p !=0)=ne:=⟨_,rfl⟩
 rw[He];have qy: ∀p,ne p=(ns p !=0):=λp=>by rw[<-He]
 refine⟨λr I Ix G0 Cb hY l G hG h0=>?_⟩;refine AN func176 ntmps176 λE=>?_;obtain⟨XK,UW⟩:=Cb _ _ G hG h0;refine gz ?_;refine CN (α:=Nat×Ac) (λx=>[(0,.func (.yield r) #[] #[]),(1,.pointer (some ⟨B,0,none⟩)),(3,.int .i64 ((x.1:Nat)-1))]) (λx=>x.2++G) (λx=>x.1<=8/\I (fallT ne x.1) x.2) (λx=>x.1) (8,l) ⟨by simp,h0⟩ ⟨rfl,rfl,rfl,trivial⟩ .refl ?_;clear XK UW;rintro⟨k,l⟩ ⟨hk,hI⟩;simp only at hk hI⊢;cases k with
 |zero=>refine gz ?_;exact Bb .refl ⟨l,rfl,.inl ⟨_,rfl,hI⟩⟩
 |succ p=>
  rw[show((p+1:Nat):Int)-1=(p:Int) by omega];obtain⟨XK,UW⟩:=Cb _ _ G hG hI;obtain⟨a,cap,hvp⟩:=hv p Af;have hg:=WT vs p Af;rw[hvp] at hg;have e1:=TG ne p Af;by_cases hz:ns p=0
  ·rw[show ne p=false by rw[qy,hz];rfl] at e1;simp only[Bm,C6,Bj] at e1;refine gz ?_;exact BO (p,l) ⟨by simp only;omega,by simp only;rw[e1];exact hI⟩ (by simp) ⟨rfl,rfl,rfl,trivial⟩ .refl
  ·rw[show ne p=true by rw[qy];simpa using hz] at e1;simp only[CS] at e1;have Dw:fallT ne (p+1)++[p]<+:fallT ne 0:=by
    rw[<-e1];have:=VM ne p 0 Af;rwa [BF] at this
   have hy:=hY (fallT ne (p+1)) p l G hG hI Dw;rw[<-e1,hvp] at hy;refine gz ?_;refine AS (C5 rfl rfl hy) ?_;rintro v l' ⟨l1,rfl,⟨rfl,LB⟩|⟨rfl,hx⟩⟩
   ·refine gz ?_;exact BO (p,l1) ⟨by simp only;omega,LB⟩ (by simp) ⟨rfl,rfl,rfl,trivial⟩ .refl
   ·refine gz ?_;exact BE [] rfl .refl (by exact Ba) ⟨l1,rfl,.inr ⟨_,by rw[e1];exact Dw,hx⟩⟩
theorem Ou(f:α->Bool)(pre l:List α)(i:α)(h:pre++[i]<+:l)(hp: ∀j∈pre,f j=false)(hi:f i=true):l.find? f=some i:=by obtain⟨A3,rfl⟩:=h;rw[Am,Eg,Bq.2 (λj hj=>by simp[hp j hj])];simp[hi]
def neX(X:Nat->A4):Nat->Bool:=λp=>(X p).length !=0
def findP(X:Nat->A4)(id:Int):Option Nat:=(fallT (neX X) 0).find? λp=>decide (id∈X p)
def jT(X:Nat->A4)(id:Int):Int×Int:=match findP X id with|some p=>((p:Nat),((X p).idxOf id:Nat))|none=>(-1,-1)
theorem TH(X:Nat->A4)(id:Int)(p:Nat)(h:findP X id=some p):p<8/\id∈X p/\(X p).idxOf id<(X p).length:=by
 have h1:=Et h;have h2:=Bt h;rw[fallT_mem] at h2;have h3:id∈X p:=by simpa using h1
 exact⟨h2.2.1,h3,Hg h3⟩
theorem QS.shape{X:Nat->A4}{vs:Nat->Value}{cs:Nat->Ac}(h:QS X vs cs): ∀p,p<8-> ∃a cap,vs p= .slice a ((λp=>(X p).length) p) cap:=λp hp=>(h.own p hp).shape
theorem JU(b:Nat)(X:Nat->A4)(lq:Ac)(id:Int)(hq:IsQ b X lq)(hb: ∀p,p<8->(X p).length<=1000000)(l:Ac)(CG: ∀c,c∈lq->c∈l):
 Fn prog 198 [.pointer (some ⟨b,0,none⟩),.int .i64 id] l λv l'=>v= .tuple #[.int .i64 (jT X id).1,.int .i64 (jT X id).2]/\l'=l:=by
 obtain⟨vs,cs,OW,rfl⟩:=hq;have KF: ∀c,c∈Is cs 8->c∈l:=λc hc=>CG c (An _ hc);refine AN func198 ntmps198 λE=>?_;refine Im λb3=>?_;refine Im λb4=>?_;refine Im λb5=>?_;refine AS (Dn rfl rfl (Ot _ _)) ?_;rintro v l' ⟨B,hB,rfl,rfl⟩;refine gz ?_;refine Dg (α:=Nat) (ps:=[11,12]) (lb:=[.pointer (some ⟨B,0,none⟩)]) rfl (Rh B b vs (λp=>(X p).length) OW.shape) (λ_=>rfl) rfl
  (λpre l=>l=[(B,.cells #[.pointer (some ⟨b,0,none⟩)] 159 (0,0)),(b5,.cells #[.int .i64 0] 3 (0,0)),(b4,.cells #[.int .i64 0] 3 (0,0)),(b3,.cells #[.int .i64 id] 3 (0,0))]/\ ∀j∈pre,id∉X j)
  (λc pre l=>c= .ret/\ ∃(G8:List Nat) (p:Nat),pre=G8++[p]/\(∀j∈G8,id∉X j)/\id∈X p/\l=[(b4,.cells #[.int .i64 (p:Nat)] 3 (0,0)),(b5,.cells #[.int .i64 ((X p).idxOf id:Nat)] 3 (0,0))])
  _ l (λpre l2 X2 hX h=>⟨by rw[h.1];exact List.Mem.head _,Aa _ (hX _ (CG _ Ak))⟩) (by exact AW) ⟨rfl,by simp⟩ ?_ ?_ ?_
 ·rintro E r0 FU pre y l' T ⟨fn,tmps,D,rfl⟩ hT ⟨rfl,Gn⟩ Dw;have hy:=(fallT_mem _ _ _).1 (Hu Dw (Aa _ Ak));simp only[DX,Ae,Ag];refine gz ?_;refine CK (by exact DY) ?_;refine gz ?_;refine Bh (AL rfl rfl (λl2 hl=>index_any (vs y) (X y) id l2 (OW.ints y hy.2.1 l2 λc hc=>hl c (by simp[hT c (KF c hc)])) (hb y hy.2.1))) ?_;by_cases M2:id∈X y
  ·rw[show indexI (X y) id=((X y).idxOf id:Nat) from Ad M2];refine gz ?_;refine EI [(b4,.cells #[.int .i64 (y:Nat)] 3 (0,0)),(b5,.cells #[.int .i64 ((X y).idxOf id:Nat)] 3 (0,0))] (by exact AW) ⟨rfl,pre,y,rfl,Gn,M2,rfl⟩
  ·rw[show indexI (X y) id= -1 from Ab M2];refine gz ?_;refine Ci _ .refl ⟨rfl,λj hj=>?_⟩;rcases AF.1 hj with hj|hj
   ·exact Gn j hj
   ·simp at hj;subst hj;exact M2
 ·rintro D xs l' rfl ⟨rfl,Gn⟩;have IU:findP X id=none:=Bq.2 λj hj=>by simp[Gn j hj]
  simp only[Ae,Ag];refine gz ?_;exact AU [D] ((b4,.cells #[.int .i64 (-1)] 3 (0,0))::(b5,.cells #[.int .i64 (-1)] 3 (0,0))::l) rfl (l':=l) (by exact AW) (by exact Ba) (by exact AW) ⟨by simp[JH,jT,IU],rfl⟩
 ·rintro D c pre l' Dw ⟨rfl,G8,p,rfl,km,hi,rfl⟩;have ae:findP X id=some p:=Ou _ G8 _ p Dw (λj hj=>by simp[km j hj]) (by simp[hi]);simp only[Ae,Ag];refine gz ?_;exact AU [D] ((b4,.cells #[.int .i64 (p:Nat)] 3 (0,0))::(b5,.cells #[.int .i64 ((X p).idxOf id:Nat)] 3 (0,0))::l) rfl (l':=l) (by exact AW) (by exact Ba) (by exact AW) ⟨by simp[JH,jT,ae],rfl⟩
theorem rD(b:Nat)(X:Nat->A4)(lq:Ac)(id:Int)(hq:IsQ b X lq)(hb: ∀p,p<8->(X p).length<=1000000)(l:Ac)(CG: ∀c,c∈lq->c∈l):
 Fn prog 197 [.pointer (some ⟨b,0,none⟩),.int .i64 id] l λv l'=>v= .bool (findP X id).isSome/\l'=l:=by
 have H:=JU b X lq id hq hb;refine AN func197 ntmps197 λE=>?_;refine gz ?_;cases hf:findP X id with
 |none=>rw[show jT X id=(-1,-1) by unfold jT;rw[hf]] at H;dsimp only at H;refine Bh (AL rfl rfl (λl2 hl=>H l2 λc hc=>hl c (CG c hc))) ?_;exact E3
 |some p=>rw[show jT X id=(((p:Nat):Int),(((X p).idxOf id:Nat):Int)) by unfold jT;rw[hf]] at H;dsimp only at H;refine Bh (AL rfl rfl (λl2 hl=>H l2 λc hc=>hl c (CG c hc))) ?_;refine gz ?_;refine Bb .refl ⟨?_,rfl⟩;simp[JH]
def firstQ(X:Nat->A4):Int×Bool:=match fallT (neX X) 0 with|p::_=>((X p).headD 0,true)|[]=>(0,false)
def allX(X:Nat->A4)(pre:List Nat):A4:=pre.flatMap X
theorem gW(X:Nat->A4)(pre:List Nat)(y:Nat):allX X (pre++[y])=allX X pre++X y:=by simp[allX]
theorem allX_len(X:Nat->A4)(N:Nat): ∀(pre:List Nat),(∀p∈pre,(X p).length<=N)->(allX X pre).length<=pre.length*N
 |[],_=>by simp[allX]
 |p::pre,h=>by have h1:=h p Ak;have h2:=allX_len X N pre λq hq=>h q (An _ hq);unfold allX at h2⊢;rw[Cz,Ah,Bu,F7];omega
theorem gX(ne:Nat->Bool):(fallT ne 0).length<=8:=by unfold fallT;refine BV (C8 _ _) ?_;simp
theorem all_any(b:Nat)(X:Nat->A4)(lq:Ac)(hq:IsQ b X lq)(hb: ∀p,p<8->(X p).length<=1000000)(l:Ac)(CG: ∀c,c∈lq->c∈l):
 Fn prog 78 [.pointer (some ⟨b,0,none⟩)] l λv l'=> ∃cs,OwnSl 3 1 v (allX X (fallT (neX X) 0)).length ((allX X (fallT (neX X) 0)).map CU) cs/\l'=cs++l:=by
 obtain⟨vs,cs,OW,rfl⟩:=hq;have KF: ∀c,c∈Is cs 8->c∈l:=λc hc=>CG c (An _ hc);refine AN func78 ntmps78 λE=>?_;refine Im λb3=>?_;refine AS (Dn rfl rfl (Ot _ _)) ?_;rintro v l' ⟨B,hB,rfl,rfl⟩;refine gz ?_;refine Dg (α:=Nat) (ps:=[8,9]) (lb:=[.pointer (some ⟨B,0,none⟩)]) rfl (Rh B b vs (λp=>(X p).length) OW.shape) (λ_=>rfl) rfl
  (λpre l=> ∃v cs,OwnSl 3 1 v (allX X pre).length ((allX X pre).map CU) cs/\l=[(B,.cells #[.pointer (some ⟨b,0,none⟩)] 159 (0,0)),(b3,.cells #[v] 40 (0,0))]++cs)
  (λc pre l=>False)
  _ l (λpre l2 X2 hX h=>by obtain⟨v,cs,_,rfl⟩:=h;exact⟨List.Mem.head _,Aa _ (hX _ (CG _ Ak))⟩) (by exact AW) ⟨_,[],OwnSl.nil _ _,rfl⟩ ?_ ?_ ?_
 ·rintro E r0 FU pre y l' T ⟨fn,tmps,D,rfl⟩ hT ⟨v,cs',EX,rfl⟩ Dw;have hy:=(fallT_mem _ _ _).1 (Hu Dw (Aa _ Ak));have P2:0<(X y).length:=by have:=hy.2.2;simp at this;exact List.length_pos_iff.2 this
  have AfW:pre.length<8:=by have h1:=List.IsPrefix.length_le Dw;have h2:=gX (λp=>(X p).length !=0);simp at h1;omega
  have Eh:(allX X pre).length<=8000000:=by refine BV (allX_len X 1000000 pre λp hp=>hb p ?_) Af;exact((fallT_mem _ _ _).1 (Hu Dw (Ai _ hp))).2.1
  have du:=hb y hy.2.1;obtain⟨a,cap,hv,hI⟩:=OW.ints y hy.2.1 (Is cs 8) (λ_ h=>h);obtain⟨gb,off,cc,t,fz,rfl,hm,hc⟩:=hI P2;have ut:(gb,Obj.cells cc t fz)∈T:=hT _ (KF _ hm);simp only[DX,Ae,Ag];rw[hv];refine gz ?_;refine CK (.there (.there (FK _ _ _ _ _))) ?_;refine gz ?_;refine Bs (Keep.of_perm (AA [(B,.cells #[.pointer (some ⟨b,0,none⟩)] 159 (0,0)),(b3,.cells #[v] 40 (0,0))] cs' _)) ?_;apply jS
  ·apply GG (xs:=(allX X pre).map CU) (news:=(X y).map CU) (zs:=[.int .i64 0]) (cl:=cc)
   ·rfl
   ·rfl
   ·rfl
   ·exact EX
   ·exact Aa _ (.tail _ (.tail _ (.tail _ ut)))
   ·intro j u hj;rw[A6,Ea] at hj;obtain⟨x,hx,rfl⟩:=hj;have:=hc j x hx;rwa [Dr] at this
   ·simp
   ·intro u hu;rw[Av] at hu;obtain⟨a,_,rfl⟩:=hu;rfl
   ·unfold maxLen;omega
   ·omega
  ·rfl
  ·rfl
  ·rfl
  rintro v' _ ⟨NX,hown',rfl⟩;have Jz:v'.oneCell'=true:=hown'.one;refine Bs (Keep.of_perm (AA NX [(B,.cells #[.pointer (some ⟨b,0,none⟩)] 159 (0,0)),(b3,.cells #[v] 40 (0,0))] _)) ?_;simp only[Ae,Ag];refine gz ?_;refine Ci _ (.refl) ⟨v',NX,?_,rfl⟩;rw[gW,Ah,Aq];exact hown'
 ·rintro D xs l' rfl ⟨v,cs',EX,rfl⟩;simp only[Ae,Ag];refine gz ?_;refine AU [D] (cs'++l) rfl (l':=cs'++l) (by exact AW) (by exact Ba) .refl ?_;exact⟨cs',EX,rfl⟩
 ·rintro D c pre l' Dw h;exact h.elim
def noX:Nat->A4:=λ_=>[]
theorem rE:QS noX (λ_=> .slice none 0 0) (λ_=>[]):=⟨λp hp=>OwnSl.nil _ _⟩
theorem gY(v:Value):(Array.ofFn (n:=8) λi=>(λ_=>v) i.val)=toArray [v,v,v,v,v,v,v,v]:=BA
theorem new_any(l:Ac):Fn prog 132 [] l λv l'=> ∃b,v= .pointer (some ⟨b,0,none⟩)/\ ∃lq,IsQ b noX lq/\l'=lq++l:=by refine AN func132 ntmps132 λE=>?_;refine gz ?_;refine AS (CH rfl) ?_;rintro _ _ ⟨b,hb,rfl,rfl⟩;refine gz ?_;exact BE [] rfl .refl (by exact Ba) ⟨b,rfl,[qC b λ_=> .slice none 0 0],⟨_,_,rE,rfl⟩,by rw[qC,gY];rfl⟩
theorem OpE.re{P:Program}{fr:Fr}{l l2:Ac}{o:Oper}{K K':Value->Ac->Prop}(k:Keep l l2)(h:OpE P ro N fr l2 o K)(hk: ∀v l',K v l'-> ∃l3,Keep l' l3/\K' v l3):OpE P ro N fr l o K':=
 ⟨h.nodef,λE a W hf hs=>(h.val E a W hf (k.sat hs)).mono λv W' ⟨l',h1,h2⟩=>by obtain⟨l3,h3,h4⟩:=hk v l' h1;exact⟨l3,h4,h3.sat h2⟩⟩
theorem VN(cs:Nat->Ac)(p:Nat)(hp:p<8)(c:Ac):(c++Is (upd cs p []) 8).Perm (Is (upd cs p c) 8):=by have h:=Nk (upd cs p c) p 8 hp;rw[DL,eg] at h;exact h.symm
section
variable{fr:Fr}{d:Option Nat}{ty:TypeId}{pos:String}{aft:Array Edge}{g:Option (Nat×Bool)}
theorem lN{s x:Operand}{cs:Nat->Ac}{p b bl:Nat}{id:Int}{F:Ac}(OW:QS X vs cs)(hp:p<8)(Eh:(X p).length<=1000000)(hx:ev fr s=some (vs p))(hy:ev fr x=some (.slice (some ⟨bl,0,none⟩) 1 1)):
 OpE prog ro N fr ((bl,.cells (toArray [.int .i64 id]) 3 (0,0))::qC b vs::(Is cs 8++F)) ⟨d,.call {callee:= .builtin .append,args:=#[s,x],argTypes:=#[40,40]},ty,pos,aft,g⟩
  (λv' l'=> ∃c2,OwnSl 3 1 v' (X p++[id]).length ((X p++[id]).map CU) c2/\l'=qC b vs::(Is (upd cs p c2) 8++F)):=by
 have pQ:((bl,Obj.cells (toArray [.int .i64 id]) 3 (0,0))::qC b vs::(Is cs 8++F)).Perm (cs p++((bl,Obj.cells (toArray [.int .i64 id]) 3 (0,0))::qC b vs::(Is (upd cs p []) 8++F))):=by refine(List.Perm.cons _ (List.Perm.cons _ ((Nk cs p 8 hp).append_right F))).trans ?_;rw[Am];exact AA [(bl,Obj.cells (toArray [.int .i64 id]) 3 (0,0)),qC b vs] (cs p) _
 refine OpE.re (Keep.of_perm pQ) (GG (k:=1) (yb:=8) (xs:=(X p).map CU) (news:=[.int .i64 id]) (zs:=[.int .i64 0]) hx hy rfl (OW.own p hp) (Aa _ Ak) (λj u hj=>by simpa using hj) rfl (by simp[Value.oneCell']) (by unfold maxLen;omega) Af) ?_;rintro v' _ ⟨c2,ho,rfl⟩;refine⟨_,?_,c2,by rw[Ah,Aq];exact ho,rfl⟩;refine Keep.trans (Keep.of_perm (AA c2 [(bl,Obj.cells (toArray [.int .i64 id]) 3 (0,0)),qC b vs] _)) (.drop (.of_perm ?_));refine List.Perm.cons _ ?_;show List.Perm (c2++(Is (upd cs p []) 8++F)) _;rw[<-Am];exact(VN cs p hp c2).append_right F
end
def addQ(X:Nat->A4)(id prio:Int):Int×(Nat->A4):=
 if id<1\/prio<0\/7<prio then(2,X) else if(findP X id).isSome then(16,X) else(0,upd X prio.toNat (X prio.toNat++[id]))
theorem add_any(b:Nat)(X:Nat->A4)(lq:Ac)(id prio:Int)(hq:IsQ b X lq)(hb: ∀p,p<8->(X p).length<=1000000)(F:Ac):
 Fn prog 151 [.pointer (some ⟨b,0,none⟩),.int .i64 id,.int .i64 prio] (lq++F) λv l'=>v= .int .i64 (addQ X id prio).1/\ ∃DF,IsQ b (addQ X id prio).2 DF/\l'=DF++F:=by
 have H:=rD b X lq id hq hb;obtain⟨vs,cs,OW,rfl⟩:=hq;refine AN func151 ntmps151 λE=>?_;simp only[Ae];by_cases h0:id<1\/prio<0\/7<prio
 ·have e:addQ X id prio=(2,X):=Ad h0;rw[e];rcases h0 with h0|h0|h0
  ·refine gz ?_;exact Bb .refl ⟨rfl,_,⟨vs,cs,OW,rfl⟩,rfl⟩
  ·by_cases h1:id<1
   ·refine gz ?_;exact Bb .refl ⟨rfl,_,⟨vs,cs,OW,rfl⟩,rfl⟩
   ·refine gz ?_;exact Bb .refl ⟨rfl,_,⟨vs,cs,OW,rfl⟩,rfl⟩
  ·by_cases h1:id<1
   ·refine gz ?_;exact Bb .refl ⟨rfl,_,⟨vs,cs,OW,rfl⟩,rfl⟩
   ·refine gz ?_;exact Bb .refl ⟨rfl,_,⟨vs,cs,OW,rfl⟩,rfl⟩
 ·obtain⟨p,rfl⟩: ∃p:Nat,prio=p:=⟨prio.toNat,Af⟩
  have hp:p<8:=by omega
  refine gz ?_;refine Bh (AL rfl rfl (λl2 hl=>H l2 λc hc=>hl c (Ai F hc))) ?_;cases hf:(findP X id).isSome with
  |true=>
   have e:addQ X id p=(16,X):=by unfold addQ;rw[Ab h0,Ad hf]
   rw[e];refine gz ?_;exact Bb .refl ⟨rfl,_,⟨vs,cs,OW,rfl⟩,rfl⟩
  |false=>
   have e:addQ X id p=(0,upd X p (X p++[id])):=by unfold addQ;rw[Ab h0,Ab (by rw[hf];simp),A0]
   rw[e];have hg:=WT vs p hp;obtain⟨v,hv⟩: ∃v,vs p=v:=⟨_,rfl⟩
   rw[hv] at hg;refine gz ?_;refine Li [(0,true),(1,true),(2,true),(3,true),(4,true),(5,true),(6,true),(7,true),(8,true),(11,true),(12,true),(9,false),(10,false),(13,true),(14,false)] [[],[],[],[],[2],[2,4],[2,3,4,5],[2,3,4,5,6],[],[8],[2,3,4,5,6,7,8,9],[0],[0,11],[0,1,2,3,4,5,6,7,8,9,10,11,12],[0,1,2,3,4,5,6,7,8,9,10,11,12,13]] ([]) BA BA GH UX ?_;refine pz ?_;apply Gp (S:=[qC b vs])
   ·exact DS rfl Ak hg
   ·intro c hc;cases hc with
    |head=>exact Ak
    |tail _ h=>cases h
   ·rfl
   ·rfl
   ·rfl
   refine pz ?_;apply G9
   ·exact Lj rfl rfl
   ·rfl
   ·rfl
   ·rfl
   ·intro _ _ _ c hc;cases hc
   ·rintro _ _ ⟨bl,_,rfl,rfl⟩ x hx _ c hc;cases hx with
    |head=>cases hc with
     |head=>exact .tail _ (.head _)
     |tail _ h=>cases h
    |tail _ h=>cases h
   rintro _ _ ⟨bl,_,rfl,rfl⟩;refine pz ?_;apply G9
   ·exact lN OW hp (hb p hp) (by rw[hv];rfl) rfl
   ·rfl
   ·rfl
   ·rfl
   ·intro _ _ _ c hc;cases hc
   ·exact λ_ _ _ x hx ha=>Dh BA hx ha
   rintro v' _ ⟨c2,ho,rfl⟩;have Jz:v'.oneCell'=true:=ho.one;refine pz ?_;apply Hy
   ·exact Du rfl rfl Jz .here (by simp[hp])
   ·rfl
   ·rfl
   ·intro _ _ _ c hc;cases hc
   ·exact λ_ _ _ x hx ha=>Dh BA hx ha
   rintro _ _ ⟨rfl,rfl⟩;rw[aQ vs p hp v'];refine pz ?_;refine gz ?_;refine Bb .refl ⟨rfl,_,⟨_,_,OW.upd p _ v' c2 ho,rfl⟩,rfl⟩
end Qu
namespace En
open Qu
variable{b m clock:Nat}{lq:Ac}{a:Int}
structure Row where
 id:Int
 th:A4
 sd:Bool
 pb:Nat
 v:Value
 cs:Ac
 st:Nat
variable{rows:List Row}{r:Row}
def Row.ent(r:Row):LE:=(r.id,.pointer (some ⟨r.pb,0,none⟩),r.st)
abbrev Row.bl(r:Row):Bd:=(r.pb,.cells (toArray [r.v,.bool r.sd]) 353 (0,0))
def Row.ch(r:Row):Ac:=r.bl::r.cs
def Row.d(r:Row):Int×A4×Bool:=(r.id,r.th,r.sd)
abbrev Ri(b m:Nat):Bd:=(b,.cells #[.map (some m)] 344 (0,0))
structure EB(b:Nat)(rows:List Row)(m clock:Nat)(lq:Ac):Prop where
 eq:lq=Ri b m::(m,FX .i64 (rows.map Row.ent) clock)::rows.flatMap Row.ch
 own: ∀r,r∈rows->OwnSl 3 1 r.v r.th.length (r.th.map CU) r.cs
 st: ∀r,r∈rows->r.st<clock
 nd:(rows.map Row.st).Nodup
 ids:(rows.map Row.id).Nodup
abbrev DE:=List (Int×A4×Bool)
def IsE(b:Nat)(D:DE)(lq:Ac):Prop:= ∃rows m clock,rows.map Row.d=D/\EB b rows m clock lq
theorem EB.m1(h:EB b rows m clock lq):Ri b m∈lq:=by rw[h.eq];exact .head _
theorem EB.m2(h:EB b rows m clock lq):(m,FX .i64 (rows.map Row.ent) clock)∈lq:=by rw[h.eq];exact .tail _ (.head _)
theorem EB.m3(h:EB b rows m clock lq)(hr:r∈rows){c:Bd}(hc:c∈r.ch):c∈lq:=by rw[h.eq];exact .tail _ (.tail _ (JN.2 ⟨r,hr,hc⟩))
theorem EB.ints{l:Ac}(h:EB b rows m clock lq)(hr:r∈rows)(hs: ∀c,c∈lq->c∈l):RF l r.v r.th:=(h.own r hr).intsQ λc hc=>hs c (h.m3 hr (.tail _ hc))
theorem TI{α β:Type}{f:α->β}: ∀{l:List α},(l.map f).Nodup-> ∀{x y:α},x∈l->y∈l->f x=f y->x=y
 |[],_,x,y,h,_,_=>by cases h
 |z::l,hn,x,y,hx,hy,e=>by
  rw[AJ,AP] at hn;rcases At.1 hx with h1|h1<;>rcases At.1 hy with h2|h2
  ·rw[h1,h2]
  ·exact absurd (Av.2 ⟨y,h2,by rw[<-e,h1]⟩) hn.1
  ·exact absurd (Av.2 ⟨x,h1,by rw[e,h2]⟩) hn.1
  ·exact TI hn.2 h1 h2 e
theorem VO{α:Type}{p q:α->Bool}(zB: ∀x,p x=true->q x=true): ∀{l:List α} {x:α},x∈l->q x=true->p x=false->(l.filter p).length<(l.filter q).length
 |[],x,h,_,_=>by cases h
 |y::l,x,h,hq,hp=>by
  have LQ: ∀(l:List α),(l.filter p).length<=(l.filter q).length:=λl=>by
   induction l with
   |nil=>exact Bf _
   |cons z l ih=>
    rw[Fv,Fv]
    split
    ·rename_i h1;rw[Ad (zB z h1)];exact Nat.succ_le_succ ih
    ·split
     ·exact Fa ih
     ·exact ih
  rw[Fv,Fv];rcases At.1 h with rfl|h
  ·rw[hp,Ab (by simp),Ad hq];exact Nat.lt_succ_of_le (LQ l)
  ·have ih:=VO zB h hq hp
   split
   ·rename_i h1;rw[Ad (zB y h1)];exact Nat.succ_lt_succ ih
   ·split
    ·exact LP ih
    ·exact ih
theorem new_any(l:Ac):Fn prog 133 [] l λv l'=> ∃b,v= .pointer (some ⟨b,0,none⟩)/\ ∃lq,IsE b [] lq/\l'=lq++l:=by refine AN func133 ntmps133 λE=>?_;refine gz ?_;refine AS OY ?_;rintro _ _ ⟨m,hm,rfl,rfl⟩;refine gz ?_;refine AS (CH rfl) ?_;rintro _ _ ⟨b,hb,rfl,rfl⟩;refine gz ?_;exact BE [] rfl .refl (by exact Ba) ⟨b,rfl,[Ri b m,(m,.map #[] 0)],⟨[],m,0,rfl,⟨rfl,by simp,by simp,by simp,by simp⟩⟩,rfl⟩
open Qu
def findD(D:DE)(id:Int):Option (A4×Bool):=(D.find? λx=>x.1==id).map (·.2)
def addD(D:DE)(id:Int):Int×DE:=if id<1 then(2,D) else if(findD D id).isSome then(11,D) else(0,D++[(id,[],false)])
def dropD(D:DE)(id:Int):A4×Int×DE:=match findD D id with
 |some x=>(x.1,0,D.eraseP λx=>x.1==id)
 |none=>([],2,D)
def listD(D:DE)(id:Int):A4×Bool:=match findD D id with
 |some x=>if x.1.length=0 then([],false) else x
 |none=>([],false)
theorem OZ(h: ∀r,r∈rows->r.id≠a):LF a (rows.map Row.ent)=none:=by
 unfold LF;rw[Nf.2 λe he=>by rw[Av] at he;obtain⟨r,hr,rfl⟩:=he;exact h r hr];rfl
theorem O0(hn:(rows.map Row.id).Nodup)(hr:r∈rows):LF r.id (rows.map Row.ent)=some (.pointer (some ⟨r.pb,0,none⟩)):=by
 unfold LF;cases h:Ha r.id (rows.map Row.ent) 0 with
 |none=>have:=Nf.1 h _ (Av.2 ⟨r,hr,rfl⟩);exact absurd rfl this
 |some p=>obtain⟨i,v⟩:=p;obtain⟨_,e,he,h1,h2,_⟩:=PK h;have hm:=Bc he;rw[Av] at hm;obtain⟨r',UR,rfl⟩:=hm;have:r'=r:=TI hn UR hr h1;subst this;rw[<-h2];rfl
theorem Nl(h: ∀r,r∈rows->r.id≠a):findD (rows.map Row.d) a=none:=by
 unfold findD;rw[Bq.2 λx hx=>by rw[Av] at hx;obtain⟨r,hr,rfl⟩:=hx;simpa[Row.d] using h r hr];rfl
theorem Ll(hn:(rows.map Row.id).Nodup)(hr:r∈rows):findD (rows.map Row.d) r.id=some (r.th,r.sd):=by unfold findD;have hs:((rows.map Row.d).find? λx=>x.1==r.id).isSome=true:=List.find?_isSome.2 ⟨r.d,Av.2 ⟨r,hr,rfl⟩,by simp[Row.d]⟩;obtain⟨x,hx⟩:=Ip.1 hs;rw[hx];have h1:=Et hx;have hm:=Bt hx;rw[Av] at hm;obtain⟨r',UR,rfl⟩:=hm;have:r'=r:=TI hn UR hr (by simpa[Row.d] using h1);subst this;rfl
theorem gZ(h: ∀r,r∈rows->r.id≠a)(v:Value)(clock:Nat):Og a v clock (rows.map Row.ent)=(rows.map Row.ent++[(a,v,clock)],clock+1):=by
 unfold Og;rw[Nf.2 λe he=>by rw[Av] at he;obtain⟨r,hr,rfl⟩:=he;exact h r hr]
theorem VP{a:Int}{v:Value}{s:Nat}: ∀(A B:List LE) (i:Nat),(∀x,x∈A->x.1≠a)->Ha a (A++(a,v,s)::B) i=some (i+A.length,v)
 |[],B,i,_=>by simp[Ha]
 |x::A,B,i,h=>by have:=h x Ak;rw[Ae,Ha,Ab (λe=>this e.symm),VP A B (i+1) λy hy=>h y (An _ hy)];simp;omega
theorem lO{v:Value}{s:Nat}(A B:List LE)(h: ∀x,x∈A->x.1≠a):PJ a (A++(a,v,s)::B)=A++B:=by unfold PJ;rw[VP A B 0 h];simp only[BF];rw[I5 (Bf _),DV];rfl
theorem EB.split(h:EB b rows m clock lq)(hr:r∈rows): ∃A B,rows=A++r::B/\(∀x,x∈A->x.id≠r.id)/\(∀x,x∈B->x.id≠r.id):=by obtain⟨A,B,rfl⟩:=GN hr;have hn:=h.ids;rw[Aq,AJ,BC] at hn;obtain⟨h1,h2,h3⟩:=hn;rw[AP] at h2;exact⟨A,B,rfl,λx hx e=>h3 _ (Av.2 ⟨x,hx,rfl⟩) _ Ak e,λx hx e=>h2.1 (Av.2 ⟨x,hx,e⟩)⟩
theorem add_any(b:Nat)(D:DE)(lq:Ac)(id:Int)(hq:IsE b D lq)(F:Ac):
 Fn prog 141 [.pointer (some ⟨b,0,none⟩),.int .i64 id] (lq++F) λv l'=>v= .int .i64 (addD D id).1/\ ∃DF,IsE b (addD D id).2 DF/\l'=DF++F:=by
 obtain⟨rows,m,clock,rfl,hE⟩:=hq;refine AN func141 ntmps141 λE=>?_;by_cases h0:id<1
 ·rw[show addD (rows.map Row.d) id=(2,rows.map Row.d) from Ad h0];refine gz ?_;exact Bb .refl ⟨rfl,_,⟨rows,m,clock,rfl,hE⟩,rfl⟩
 have qz:=hE.eq;by_cases h1: ∃r,r∈rows/\r.id=id
 ·obtain⟨r,hr,rfl⟩:=h1;have hg:=O0 hE.ids hr;rw[show addD (rows.map Row.d) r.id=(11,rows.map Row.d) by unfold addD;rw[Ab h0,Ll hE.ids hr];rfl];rw[qz];simp only[Ae];refine gz ?_;rw[hg];refine gz ?_;refine BE [] rfl .refl (by exact Ba) ⟨rfl,_,⟨rows,m,clock,rfl,hE⟩,by rw[qz];rfl⟩
 ·have IU: ∀r,r∈rows->r.id≠id:=λr hr e=>h1 ⟨r,hr,e⟩;have hg:=OZ IU;rw[show addD (rows.map Row.d) id=(0,rows.map Row.d++[(id,[],false)]) by unfold addD;rw[Ab h0,Nl IU];rfl];rw[qz];simp only[Ae];refine gz ?_;rw[hg];refine gz ?_;refine AS (CH rfl) ?_;rintro _ _ ⟨pb,jI,rfl,rfl⟩;refine M9 (LW rfl rfl rfl (by exact DY)) rfl rfl ?_;rintro _ _ ⟨rfl,rfl⟩;rw[gZ IU];refine gz ?_;obtain⟨r,hr⟩: ∃r:Row,r=⟨id,[],false,pb,.slice none 0 0,[],clock⟩:=⟨_,rfl⟩
  refine BE [] rfl (l':=(Ri b m::(m,FX .i64 ((rows++[r]).map Row.ent) (clock+1))::(rows++[r]).flatMap Row.ch)++F) ?_ (by exact Ba) ⟨rfl,_,⟨rows++[r],m,clock+1,by rw[Aq,hr];rfl,⟨rfl,λx hx=>?_,λx hx=>?_,?_,?_⟩⟩,rfl⟩
  ·rw[Aq,Ec,hr];refine .of_perm ?_;show List.Perm ((pb,_)::Ri b m::(m,_)::(rows.flatMap Row.ch++F)) (Ri b m::(m,_)::((rows.flatMap Row.ch++[_])++F));refine(List.Perm.swap _ _ _).trans (List.Perm.cons _ ((List.Perm.swap _ _ _).trans (List.Perm.cons _ ?_)));rw[Am];exact AI.symm
  ·rcases AF.1 hx with hx|hx
   ·exact hE.own x hx
   ·rw[AC.1 hx,hr];exact OwnSl.nil _ _
  ·rcases AF.1 hx with hx|hx
   ·exact LP (hE.st x hx)
   ·rw[AC.1 hx,hr];exact HR _
  ·rw[Aq,BC];refine⟨hE.nd,by simp,λx hx y hy=>?_⟩;rw[Av] at hx hy;obtain⟨x',jG,rfl⟩:=hx;obtain⟨y',hy',rfl⟩:=hy;have:=hE.st x' jG;rw[AC.1 hy',hr];simp only;omega
  ·rw[Aq,BC];refine⟨hE.ids,by simp,λx hx y hy=>?_⟩;rw[Av] at hx hy;obtain⟨x',jG,rfl⟩:=hx;obtain⟨y',hy',rfl⟩:=hy;rw[AC.1 hy',hr];exact IU x' jG
end En
namespace As
variable{α:Type}
structure ASt where
 obj:Nat->Int
 dead:Nat->Bool
 root:Nat->Int
 ser:Nat->Int
 given:Nat->Int
def ASt.at(s:ASt)(j:Nat):Value:=
 if j<80 then
  (if j%10=0 then .int .i64 (s.obj (j/10))
   else if j%10=1 then .bool (s.dead (j/10))
   else if j%10<6 then .int .i64 (s.root (4*(j/10)+(j%10-2)))
   else .int .i64 (s.ser (4*(j/10)+(j%10-6))))
 else .int .i64 (s.given (j-80))
def ASt.cells(s:ASt):Array Value:=Array.ofFn (n:=112) λi=>s.at i.val
theorem ASt.cells_get(s:ASt)(j:Nat)(h:j<112):s.cells[j]?=some (s.at j):=by simp[ASt.cells,h]
theorem ASt.cells_size(s:ASt):s.cells.size=112:=by simp[ASt.cells]
def upd{α:Type}(f:Nat->α)(k:Nat)(v:α):Nat->α:=λi=>if i=k then v else f i
theorem DL(f:Nat->α)(k:Nat)(v:α):upd f k v k=v:=by simp[upd]
theorem Dl(f:Nat->α)(k i:Nat)(v:α)(h:i≠k):upd f k v i=f i:=by simp[upd,h]
theorem O1(s s':ASt)(k:Nat)(v:Value)(hk:k<112)(h1:s'.at k=v)(h2: ∀j,j<112->j≠k->s'.at j=s.at j):s.cells.setIfInBounds k v=s'.cells:=by
 apply Array.ext
 ·simp[ASt.cells]
 ·intro j hj1 hj2;have hj:j<112:=by simpa[ASt.cells] using hj2
  rw[Array.getElem_setIfInBounds (by simpa[ASt.cells] using hj)];by_cases e:k=j
  ·subst e;simp[ASt.cells,h1]
  ·rw[Ab e];simp[ASt.cells,h2 j hj (λh=>e h.symm)]
def EJ(p:Nat->Bool)(k:Nat):Option Nat:=(List.range k).find? p
theorem HZ(p:Nat->Bool)(k:Nat):EJ p (k+1)=(EJ p k).or (if p k then some k else none):=by unfold EJ;rw[CC,Eg];cases h:p k<;>simp[List.find?,h]
theorem Qp(p:Nat->Bool)(k:Nat):EJ p k=none<-> ∀i,i<k->p i=false:=by unfold EJ;simp
theorem LY(p:Nat->Bool)(k m:Nat)(hm:m<k)(hp:p m=true)(h:EJ p m=none):EJ p k=some m:=by
 have: ∀d,EJ p (m+1+d)=some m:=by
  intro d
  induction d with
  |zero=>rw[CV,HZ,h,hp];rfl
  |succ d ih=>rw[<-J0,HZ,ih];rfl
 have:=this (k-(m+1));rwa [show m+1+(k-(m+1))=k by omega] at this
theorem Qq(p:Nat->Bool)(k m:Nat)(h:EJ p k=some m):m<k/\p m=true/\ ∀i,i<m->p i=false:=by
 unfold EJ at h;have h1:=Et h;have h2:=Bt h;refine⟨by simpa using h2,h1,λi hi=>?_⟩;cases hb:p i
 ·rfl
 ·exfalso;have hk:m<k:=by simpa using h2
  have hf:EJ p i=none\/ ∃q,EJ p i=some q:=by cases EJ p i<;>simp
  have key: ∀n,n<=k-> ∀q,EJ p n=some q->EJ p k=some q:=by
   intro n hn q hq;have: ∀d,EJ p (n+d)=some q:=by
    intro d
    induction d with
    |zero=>exact hq
    |succ d ih=>rw[<-J0,HZ,ih];rfl
   have:=this (k-n);rwa [show n+(k-n)=k by omega] at this
  rcases hf with hf|⟨q,hf⟩
  ·have:=LY p k i Af hb hf;have e:EJ p k=some m:=h;rw[this] at e;cases e;omega
  ·have:=key i Af q hf;have e:EJ p k=some m:=h;rw[this] at e;obtain rfl:q=m:=AZ e;have:q<i:=by unfold EJ at hf;have:=Bt hf;simpa using this
   omega
abbrev asA(b:Nat)(s:ASt):Bd:=(b,.cells s.cells 241 (0,0))
theorem ASt.c_obj(s:ASt)(p:Nat)(hp:p<8):s.cells[p*10]?=some (.int .i64 (s.obj p)):=by rw[s.cells_get _ Af];unfold ASt.at;rw[Ad Af,Ad Af,show p*10/10=p by omega]
theorem ASt.c_dead(s:ASt)(p:Nat)(hp:p<8):s.cells[p*10+1]?=some (.bool (s.dead p)):=by rw[s.cells_get _ Af];unfold ASt.at;rw[Ad Af,Ab Af,Ad Af,show(p*10+1)/10=p by omega]
theorem ASt.c_root(s:ASt)(p i:Nat)(hp:p<8)(hi:i<4):s.cells[p*10+2+i*1]?=some (.int .i64 (s.root (4*p+i))):=by rw[s.cells_get _ Af];unfold ASt.at;rw[Ad Af,Ab Af,Ab Af,Ad Af,show 4*((p*10+2+i*1)/10)+((p*10+2+i*1)%10-2)=4*p+i by omega]
theorem ASt.c_ser(s:ASt)(p i:Nat)(hp:p<8)(hi:i<4):s.cells[p*10+6+i*1]?=some (.int .i64 (s.ser (4*p+i))):=by rw[s.cells_get _ Af];unfold ASt.at;rw[Ad Af,Ab Af,Ab Af,Ab Af,show 4*((p*10+6+i*1)/10)+((p*10+6+i*1)%10-6)=4*p+i by omega]
theorem ASt.c_given(s:ASt)(n:Nat)(hn:n<32):s.cells[80+n*1]?=some (.int .i64 (s.given n)):=by rw[s.cells_get _ Af];unfold ASt.at;rw[Ab Af,show 80+n*1-80=n by omega]
def atO(s:ASt)(o:Int):Option Nat:=if o<1 then none else EJ (λp=>s.obj p==o) 8
def WQ(s:ASt)(o:Int):Int:=match atO s o with|some p=>(p:Int)|none=> -1
theorem JU(b:Nat)(s:ASt)(o:Int)(l:Ac)(hm:asA b s∈l):
 Fn prog 191 [.pointer (some ⟨b,0,none⟩),.int .i64 o] l λv l'=>v= .int .i64 (WQ s o)/\l'=l:=by
 refine AN func191 ntmps191 λE=>?_;refine gz ?_;refine q6 rfl (λho=>?_) (λho=>?_)
 ·refine gz ?_;refine Bb .refl ⟨?_,rfl⟩;simp[JH,WQ,atO,ho]
 ·refine gz ?_;refine CN (α:=Nat) (λk=>[(0,.pointer (some ⟨b,0,none⟩)),(1,.int .i64 o),(12,.int .i64 k)]) (λk=>l) (λk=>k<=8/\EJ (λp=>s.obj p==o) k=none) (λk=>8-k) 0 ⟨Af,rfl⟩ ⟨rfl,rfl,rfl,trivial⟩ .refl ?_;rintro k ⟨hk,hf⟩;by_cases C9:k<8
  ·have hc:=s.c_obj k C9;refine gz ?_;refine q6 rfl (λhq=>?_) (λhq=>?_)
   ·refine gz ?_;refine Bb .refl ⟨?_,rfl⟩;simp only[JH,WQ,atO,Ab ho];rw[LY _ 8 k C9 (by simp[hq]) hf]
   ·refine gz ?_;exact BO (k+1) ⟨Af,by rw[HZ,hf];simp[hq]⟩ Af ⟨rfl,rfl,rfl,trivial⟩ .refl
  ·obtain rfl:k=8:=by omega
   refine gz ?_;refine Bb .refl ⟨?_,rfl⟩;simp only[JH,WQ,atO,Ab ho];rw[hf]
def HE(p k:Nat):List (Fin 4):=(List.range k).filterMap λi=>if h:i<4 then(if 4*p+i=0 then none else some ⟨i,h⟩) else none
def Se(p:Nat):List (Fin 4):=HE p 4
theorem LZ(p k:Nat)(hk:k<4):HE p (k+1)=HE p k++if 4*p+k=0 then[] else[⟨k,hk⟩]:=by unfold HE;rw[CC,List.filterMap_append];congr 1;simp only[List.filterMap_cons,List.filterMap_nil,dif_pos hk];by_cases h:4*p+k=0<;>simp only[h,CS,C6]
theorem aR(p k m:Nat)(h:k<=m)(hm:m<=4):HE p k<+:HE p m:=by
 induction m with
 |zero=>obtain rfl:k=0:=by omega
        exact GZ
 |succ m ih=>
  by_cases hk:k=m+1
  ·subst hk;exact GZ
  ·rw[LZ _ _ Af];exact(ih Af Af).trans (GP _ _)
theorem Ov(p:Nat)(l:Ac):Fn prog 194 [.int .i64 p] l λv l'=> ∃B,(∀c,c∈l->c.1≠B)/\v= .func (.func 252) #[] #[.pointer (some ⟨B,0,none⟩)]/\l'=(B,.cells #[.int .i64 p] 3 (0,0))::l:=by refine AN func194 ntmps194 λE=>?_;refine gz ?_;refine AS (Ez rfl rfl) ?_;rintro _ _ ⟨B,hB,rfl,rfl⟩;refine gz ?_;exact Bb .refl ⟨B,hB,rfl,rfl⟩
theorem Mk(B p:Nat)(hp:p<8):FC prog 252 [.pointer (some ⟨B,0,none⟩)] (λi:Fin 4=>[.int .i64 ((4*p+i.val:Nat):Int),.int .i64 (i.val:Nat)]) (λxs=>xs=Se p) (λpre=>pre<+:Se p)
 (λ_ l=>(B,.cells #[.int .i64 p] 3 (0,0))∈l):=by
 refine⟨λr I Ix G0 Cb hY l G hG h0=>?_⟩;refine AN func252 ntmps252 λE=>?_;refine gz ?_;refine CN (α:=Nat×Ac) (λx=>[(0,.func (.yield r) #[] #[]),(1,.pointer (some ⟨B,0,none⟩)),(5,.int .i64 x.1)]) (λx=>x.2++G) (λx=>x.1<=4/\I (HE p x.1) x.2) (λx=>4-x.1) (0,l) ⟨by simp,h0⟩ ⟨rfl,rfl,rfl,trivial⟩ .refl ?_;rintro⟨k,l⟩ ⟨hk,hI⟩;simp only at hk hI⊢;by_cases C9:k<4
 ·have hm:=Cb _ _ G hG hI;by_cases hz:4*p+k=0
  ·have e1:HE p (k+1)=HE p k:=by rw[LZ _ _ C9,Ad hz];simp
   refine gz ?_;exact BO (k+1,l) ⟨by simp;omega,by simp only;rw[e1];exact hI⟩ (by simp;omega) ⟨rfl,rfl,rfl,trivial⟩ .refl
  ·have e1:HE p (k+1)=HE p k++[⟨k,C9⟩]:=by rw[LZ _ _ C9,Ab hz]
   have Dw:HE p k++[⟨k,C9⟩]<+:Se p:=by rw[<-e1];exact aR _ _ _ Af Af
   have hy:=hY (HE p k) ⟨k,C9⟩ l G hG hI Dw;rw[<-e1] at hy;refine gz ?_;refine AS (C5 rfl rfl hy) ?_;rintro v l' ⟨l1,rfl,⟨rfl,LB⟩|⟨rfl,hx⟩⟩
   ·refine gz ?_;exact BO (k+1,l1) ⟨by simp;omega,LB⟩ (by simp;omega) ⟨rfl,rfl,rfl,trivial⟩ .refl
   ·refine gz ?_;exact BE [] rfl .refl (by exact Ba) ⟨l1,rfl,.inr ⟨_,by rw[e1];exact Dw,hx⟩⟩
 ·obtain rfl:k=4:=by omega
  refine gz ?_;exact Bb .refl ⟨l,rfl,.inl ⟨_,rfl,hI⟩⟩
def ASt.hit(s:ASt)(P:Int->Int->Bool)(n:Nat):Bool:=decide (s.root n≠0)&&P (s.root n) (s.ser n)
def Lm(s:ASt)(P:Int->Int->Bool):Option Nat:=EJ (λn=>decide (n≠0)&&s.hit P n) 32
def lP:Option Nat->Ap
 |none=>[.int .i64 0,.int .i64 0,.int .i64 0]
 |some n=>[.int .i64 (n:Nat),.int .i64 ((n/4:Nat):Int),.int .i64 ((n%4:Nat):Int)]
theorem TJ(p:Nat)(i:Fin 4):i∈Se p<->4*p+i.val≠0:=by
 unfold Se HE;rw[List.mem_filterMap];constructor
 ·rintro⟨j,hj,h⟩;have hj4:j<4:=by simpa using hj
  rw[dif_pos hj4] at h;by_cases h0:4*p+j=0
  ·rw[Ad h0] at h;cases h
  ·rw[Ab h0] at h;cases h;exact h0
 ·intro h;exact⟨i.val,by simp,by rw[dif_pos i.isLt,Ab h]⟩
theorem YE(p:Nat):(Se p).Pairwise λa b=>a.val<b.val:=by
 have key: ∀k,k<=4->(HE p k).Pairwise (λa b=>a.val<b.val)/\ ∀a∈HE p k,a.val<k:=by
  intro k
  induction k with
  |zero=>intro _;exact⟨List.Pairwise.nil,by simp[HE]⟩
  |succ k ih=>
   intro hk;obtain⟨h1,h2⟩:=ih Af;rw[LZ _ _ Af];by_cases h0:4*p+k=0
   ·rw[Ad h0,Bj];exact⟨h1,λa ha=>by have:=h2 a ha;omega⟩
   ·rw[Ab h0];refine⟨Br.2 ⟨h1,by simp,λa ha b hb=>?_⟩,λa ha=>?_⟩
    ·simp at hb;subst hb;exact h2 a ha
    ·rcases AF.1 ha with ha|ha
     ·have:=h2 a ha;omega
     ·simp at ha;subst ha;simp
 exact(key 4 Af).1
theorem YF(p:Nat)(pre:List (Fin 4))(i:Fin 4)(h:pre++[i]<+:Se p):4*p+i.val≠0/\ ∀j:Fin 4,j.val<i.val->4*p+j.val≠0->j∈pre:=by
 obtain⟨A3,hr⟩:=h;refine⟨(TJ p i).1 (by rw[<-hr];simp),λj hj h0=>?_⟩;have hm:=(TJ p j).2 h0;have hs:=YE p;rw[<-hr] at hm hs;rcases AF.1 hm with hm|hm
 ·rcases AF.1 hm with hm|hm
  ·exact hm
  ·simp at hm;subst hm;omega
 ·have:=(Br.1 hs).2.2 i (by simp) j hm;omega
theorem YG(b rb gf:Nat)[EN prog gf](s:ASt)(x:Int)(PP:Int->Int->Bool)(l:Ac)(hA:asA b s∈l)(hx:(rb,Obj.cells #[.int .i64 x] 3 (0,0))∈l)
 (hg: ∀(r q:Int) l,(rb,Obj.cells #[.int .i64 x] 3 (0,0))∈l->Fn prog gf [.int .i64 r,.int .i64 q,.pointer (some ⟨rb,0,none⟩)] l λv l'=>v= .bool (PP r q)/\l'=l):
 Fn prog 192 [.pointer (some ⟨b,0,none⟩),.func (.func gf) #[] #[.pointer (some ⟨rb,0,none⟩)]] l λv l'=>v= .tuple #[.agg (toArray (lP (Lm s PP))),.bool (Lm s PP).isSome]/\l'=l:=by
 refine AN func192 ntmps192 λE=>?_;refine Im λb2=>?_;refine Im λb3=>?_;refine Im λb4=>?_;refine Im λb6=>?_;refine Im λb7=>?_;refine xf (α:=Nat×List Nat) (λx=>[(2,.pointer (some ⟨b2,0,none⟩)),(3,.pointer (some ⟨b3,0,none⟩)),(4,.pointer (some ⟨b4,0,none⟩)),(6,.pointer (some ⟨b6,0,none⟩)),(7,.pointer (some ⟨b7,0,none⟩)),(16,.int .i64 x.1)]) (λx=>x.2.map Hw)
  (λx=>(b2,.cells #[.pointer (some ⟨b,0,none⟩)] 157 (0,0))::(b3,.cells #[.func (.func gf) #[] #[.pointer (some ⟨rb,0,none⟩)]] 265 (0,0))::(b4,.cells #[.int .i64 0,.int .i64 0,.int .i64 0] 360 (0,0))::(b6,.cells #[.int .i64 0,.int .i64 0,.int .i64 0] 360 (0,0))::(b7,.cells #[.bool false] 4 (0,0))::(x.2.map Cr++l))
  (λx=>x.1<=8/\ ∀n,n<4*x.1->(decide (n≠0)&&s.hit PP n)=false) (λx=>8-x.1) (0,[]) ⟨by simp,by simp⟩ ⟨rfl,rfl,rfl,rfl,rfl,rfl,trivial⟩ rfl (by exact AW) ?_
 rintro⟨k,Ds⟩ ⟨hk,hn⟩;simp only at hk hn⊢;have NG:asA b s∈Ds.map Cr++l:=Aa _ hA;have jG:(rb,Obj.cells #[.int .i64 x] 3 (0,0))∈Ds.map Cr++l:=Aa _ hx;by_cases C9:k<8
 ·refine gz ?_;refine Im λb8=>?_;refine AS (Az rfl rfl (Ov k _)) ?_;rintro v l' ⟨B,hB,rfl,rfl⟩;refine gz ?_;refine Dg (α:=Fin 4) (ps:=[21,22]) (lb:=[.pointer (some ⟨B,0,none⟩)]) rfl (Mk B k C9) (λ_=>rfl) rfl
   (λpre l=>l=[(B,.cells #[.int .i64 (k:Nat)] 3 (0,0)),(b8,.cells #[.int .i64 (k:Nat)] 3 (0,0)),(b2,.cells #[.pointer (some ⟨b,0,none⟩)] 157 (0,0)),(b3,.cells #[.func (.func gf) #[] #[.pointer (some ⟨rb,0,none⟩)]] 265 (0,0)),(b4,.cells #[.int .i64 0,.int .i64 0,.int .i64 0] 360 (0,0)),(b6,.cells #[.int .i64 0,.int .i64 0,.int .i64 0] 360 (0,0)),(b7,.cells #[.bool false] 4 (0,0))]/\ ∀j∈pre,s.hit PP (4*k+j.val)=false)
   (λc pre l=>c= .exit 0/\ ∃(G8:List (Fin 4)) (i:Fin 4),pre=G8++[i]/\(∀j∈G8,s.hit PP (4*k+j.val)=false)/\s.hit PP (4*k+i.val)=true/\l=[(b4,.cells #[.int .i64 0,.int .i64 0,.int .i64 0] 360 (0,0)),(b6,.cells #[.int .i64 ((4*k+i.val:Nat):Int),.int .i64 (k:Nat),.int .i64 (i.val:Nat)] 360 (0,0)),(b7,.cells #[.bool true] 4 (0,0))])
   _ (Ds.map Cr++l) (λpre l X _ h=>by rw[h.1];exact List.Mem.head _) (by exact AW) ⟨rfl,by simp⟩ ?_ ?_ ?_
  ·rintro E r FU pre y l' T ⟨fn,tmps,D,rfl⟩ hT ⟨rfl,hp⟩ Dw;have hAT:=hT _ NG;have hxT:=hT _ jG;have uv:=y.isLt;have qr:=s.c_root k y.val C9 uv;have qs:=s.c_ser k y.val C9 uv;simp only[DX,Ae,Ag];refine gz ?_;refine CK (by exact DY) ?_;refine gz ?_;refine Cm [] 10 _ ?_ (hR:=(λ_ h=>h));refine pz ?_;have R6:s.hit PP (4*k+y.val)=(decide (s.root (4*k+y.val)≠0)&&PP (s.root (4*k+y.val)) (s.ser (4*k+y.val))):=rfl;by_cases hr:s.root (4*k+y.val)=0
   ·refine gz ?_;refine Cm [] 16 _ ?_ (hR:=(λ_ h=>h));refine pz ?_;refine gz ?_;refine Ci [(B,.cells #[.int .i64 (k:Nat)] 3 (0,0)),(b8,.cells #[.int .i64 (k:Nat)] 3 (0,0)),(b2,.cells #[.pointer (some ⟨b,0,none⟩)] 157 (0,0)),(b3,.cells #[.func (.func gf) #[] #[.pointer (some ⟨rb,0,none⟩)]] 265 (0,0)),(b4,.cells #[.int .i64 0,.int .i64 0,.int .i64 0] 360 (0,0)),(b6,.cells #[.int .i64 0,.int .i64 0,.int .i64 0] 360 (0,0)),(b7,.cells #[.bool false] 4 (0,0))] (by exact AW) ⟨rfl,?_⟩;intro j hj;rcases AF.1 hj with hj|hj
    ·exact hp j hj
    ·simp at hj;subst hj;rw[R6,Aw (by simp[hr])];rfl
   ·refine gz ?_;refine Cm [] 16 _ ?_ (hR:=(λ_ h=>h));refine pz ?_;apply Ym
    ·exact FL (fs:=[]) rfl rfl (λl hl=>hg _ _ l (hl _ (by exact BW)))
    all_goals try rfl
    refine pz ?_;refine gz ?_;refine kV rfl (λhP=>?_) (λhP=>?_)
    ·refine gz ?_;refine E5 [(b4,.cells #[.int .i64 0,.int .i64 0,.int .i64 0] 360 (0,0)),(b6,.cells #[.int .i64 ((4*k+y.val:Nat):Int),.int .i64 (k:Nat),.int .i64 (y.val:Nat)] 360 (0,0)),(b7,.cells #[.bool true] 4 (0,0))] (by exact AW) ⟨rfl,pre,y,rfl,hp,by rw[R6,hP,Au hr];rfl,rfl⟩
    ·refine gz ?_;refine Ci [(B,.cells #[.int .i64 (k:Nat)] 3 (0,0)),(b8,.cells #[.int .i64 (k:Nat)] 3 (0,0)),(b2,.cells #[.pointer (some ⟨b,0,none⟩)] 157 (0,0)),(b3,.cells #[.func (.func gf) #[] #[.pointer (some ⟨rb,0,none⟩)]] 265 (0,0)),(b4,.cells #[.int .i64 0,.int .i64 0,.int .i64 0] 360 (0,0)),(b6,.cells #[.int .i64 0,.int .i64 0,.int .i64 0] 360 (0,0)),(b7,.cells #[.bool false] 4 (0,0))] (by exact AW) ⟨rfl,?_⟩;intro j hj;rcases AF.1 hj with hj|hj
     ·exact hp j hj
     ·simp at hj;subst hj;rw[R6,hP,Jf]
  ·rintro D xs l' rfl ⟨rfl,hp⟩;refine gz ?_;refine xg (k+1,D::Ds) ⟨by simp;omega,?_⟩ (by simp;omega) ⟨rfl,rfl,rfl,rfl,rfl,rfl,trivial⟩ rfl (by exact AW);intro n h;simp only at h;by_cases h4:n<4*k
   ·exact hn n h4
   ·obtain⟨j,hj,rfl⟩: ∃j,j<4/\n=4*k+j:=⟨n-4*k,Af,Af⟩
    by_cases h0:4*k+j=0
    ·simp[h0]
    ·have:=hp ⟨j,hj⟩ ((TJ k ⟨j,hj⟩).2 h0);simp only at this;rw[this,Jf]
  ·rintro D c pre l' Dw ⟨rfl,G8,i,rfl,km,hi,rfl⟩;have hi4:=i.isLt;obtain⟨hi0,hbef⟩:=YF k G8 i Dw;have hf:Lm s PP=some (4*k+i.val):=by
    refine LY _ _ _ Af (by rw[hi];simp;omega) ((Qp _ _).2 λn h=>?_);by_cases h4:n<4*k
    ·exact hn n h4
    ·obtain⟨j,hj,rfl⟩: ∃j,j<4/\n=4*k+j:=⟨n-4*k,Af,Af⟩
     by_cases h0:4*k+j=0
     ·simp[h0]
     ·have:=km ⟨j,hj⟩ (hbef ⟨j,hj⟩ (by simp only;omega) h0);simp only at this;rw[this,Jf]
   simp only[Ae,Ag];refine gz ?_;refine Cm [2] 4 ([(b6,.cells #[.int .i64 ((4*k+i.val:Nat):Int),.int .i64 (k:Nat),.int .i64 (i.val:Nat)] 360 (0,0)),(b7,.cells #[.bool true] 4 (0,0))]) ?_;refine pz ?_;refine gz ?_;refine AU (D::Ds) ((b4,.cells #[.int .i64 ((4*k+i.val:Nat):Int),.int .i64 (k:Nat),.int .i64 (i.val:Nat)] 360 (0,0))::l) rfl (l':=l) (by(apply Keep.mid;exact AW)) (by exact Ba) (by exact AW) ⟨?_,rfl⟩;rw[hf];simp only[JH,lP,IE];rw[show(4*k+i.val)/4=k by omega,show(4*k+i.val)%4=i.val by omega]
 ·obtain rfl:k=8:=by omega
  have hf:Lm s PP=none:=(Qp _ _).2 λn h=>hn n Af;refine gz ?_;refine Cm [2] 4 ([(b6,.cells #[.int .i64 0,.int .i64 0,.int .i64 0] 360 (0,0)),(b7,.cells #[.bool false] 4 (0,0))]) ?_;refine pz ?_;refine gz ?_;refine AU Ds ((b4,.cells #[.int .i64 0,.int .i64 0,.int .i64 0] 360 (0,0))::l) rfl (l':=l) (by(apply Keep.mid;exact AW)) (by exact Ba) (by exact AW) ⟨?_,rfl⟩;rw[hf];rfl
theorem O2(b rb gf:Nat)[EN prog gf](s:ASt)(x:Int)(PP:Int->Int->Bool)(n:Nat)(hf:Lm s PP=some n)(l:Ac)(hA:asA b s∈l)(hx:(rb,Obj.cells #[.int .i64 x] 3 (0,0))∈l)
 (hg: ∀(r q:Int) l,(rb,Obj.cells #[.int .i64 x] 3 (0,0))∈l->Fn prog gf [.int .i64 r,.int .i64 q,.pointer (some ⟨rb,0,none⟩)] l λv l'=>v= .bool (PP r q)/\l'=l):
 Fn prog 192 [.pointer (some ⟨b,0,none⟩),.func (.func gf) #[] #[.pointer (some ⟨rb,0,none⟩)]] l λv l'=>v= .tuple #[.agg #[.int .i64 (n:Nat),.int .i64 ((n/4:Nat):Int),.int .i64 ((n%4:Nat):Int)],.bool true]/\l'=l:=by
 have:=YG b rb gf s x PP l hA hx hg;rw[hf] at this;exact this
theorem O3(b rb gf:Nat)[EN prog gf](s:ASt)(x:Int)(PP:Int->Int->Bool)(hf:Lm s PP=none)(l:Ac)(hA:asA b s∈l)(hx:(rb,Obj.cells #[.int .i64 x] 3 (0,0))∈l)
 (hg: ∀(r q:Int) l,(rb,Obj.cells #[.int .i64 x] 3 (0,0))∈l->Fn prog gf [.int .i64 r,.int .i64 q,.pointer (some ⟨rb,0,none⟩)] l λv l'=>v= .bool (PP r q)/\l'=l):
 Fn prog 192 [.pointer (some ⟨b,0,none⟩),.func (.func gf) #[] #[.pointer (some ⟨rb,0,none⟩)]] l λv l'=>v= .tuple #[.agg #[.int .i64 0,.int .i64 0,.int .i64 0],.bool false]/\l'=l:=by
 have:=YG b rb gf s x PP l hA hx hg;rw[hf] at this;exact this
def II(x:Int):Int->Int->Bool:=λr _=>decide (r=x)
def YH(x:Int):Int->Int->Bool:=λ_ q=>decide (q=x)
theorem lR(rb:Nat)(x r q:Int)(l:Ac)(hx:(rb,Obj.cells #[.int .i64 x] 3 (0,0))∈l):Fn prog 193 [.int .i64 r,.int .i64 q,.pointer (some ⟨rb,0,none⟩)] l λv l'=>v= .bool (II x r q)/\l'=l:=by refine AN func193 ntmps193 λE=>?_;exact E3
theorem lS(rb:Nat)(x r q:Int)(l:Ac)(hx:(rb,Obj.cells #[.int .i64 x] 3 (0,0))∈l):Fn prog 230 [.int .i64 r,.int .i64 q,.pointer (some ⟨rb,0,none⟩)] l λv l'=>v= .bool (II x r q)/\l'=l:=by refine AN func230 ntmps230 λE=>?_;exact E3
theorem TK(s:ASt)(PP:Int->Int->Bool)(n:Nat)(h:Lm s PP=some n):n<32/\n≠0/\s.root n≠0/\PP (s.root n) (s.ser n)=true:=by obtain⟨h1,h2,_⟩:=Qq _ _ _ h;simp[ASt.hit] at h2;exact⟨h1,h2.1,h2.2.1,h2.2.2⟩
def ofP(s:ASt)(r:Int):Int×Int×Bool:=match Lm s (II r) with|some n=>((n:Int),s.ser n,true)|none=>(0,0,false)
def rootP(s:ASt)(q:Int):Int×Int×Bool:=match Lm s (YH q) with|some n=>(s.root n,(n:Int),true)|none=>(0,0,false)
theorem of_any(b:Nat)(s:ASt)(r:Int)(l:Ac)(hA:asA b s∈l):Fn prog 166 [.pointer (some ⟨b,0,none⟩),.int .i64 r] l λv l'=>v= .tuple #[.int .i64 (ofP s r).1,.int .i64 (ofP s r).2.1,.bool (ofP s r).2.2]/\l'=l:=by
 refine AN func166 ntmps166 λE=>?_;refine Im λrb=>?_;cases hf:Lm s (II r) with
 |none=>refine Bh (AL rfl rfl (λl hl=>O3 b rb _ s r (II r) hf l (hl _ (by exact BW)) (hl _ (by exact BW)) (λr' q l h=>lS rb r r' q l h))) ?_;refine Im λb7=>?_;exact AU [] l rfl (l':=l) (by exact AW) (by exact Ba) .refl ⟨by simp[JH,ofP,hf],rfl⟩
 |some n=>have C9:=(TK s _ n hf).1;have qs:=s.c_ser (n/4) (n%4) Af Af;rw[show 4*(n/4)+n%4=n by omega] at qs;refine Bh (AL rfl rfl (λl hl=>O2 b rb _ s r (II r) n hf l (hl _ (by exact BW)) (hl _ (by exact BW)) (λr' q l h=>lS rb r r' q l h))) ?_;refine Im λb7=>?_;refine Cm [] 16 _ ?_ (hR:=(λ_ h=>h));refine pz ?_;refine gz ?_;exact AU [] l rfl (l':=l) (by exact AW) (by exact Ba) .refl ⟨by simp[JH,ofP,hf],rfl⟩
end As
end Go.Proofs.YtlifcingifodfaaGreat
