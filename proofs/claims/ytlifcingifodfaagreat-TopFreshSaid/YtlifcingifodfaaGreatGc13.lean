/- Laws that the statement's proof leans on (joined out of several texts). -/
import Derived.Test.YtlifcingifodfaaGreatGc12
set_option maxHeartbeats 4000000
set_option linter.unusedVariables false
set_option linter.unusedSimpArgs false
namespace Go.Proofs.YtlifcingifodfaaGreat
open Tryz
open List(toArray)
namespace Ar
open Go.RowKit
set_option maxRecDepth 20000
variable{os:OL}{S:ArT}{kd fi:Int}{p:ObT->Bool}{k:Nat}
abbrev Vv(B:Nat)(x:Int):Bg:=(B,.cells #[.int .i64 x] 29 (0,0))
theorem Yi{sz e:Int}(h:addE S kd sz fi=e)(h0:e≠0):addD S kd sz fi=((0,e),S):=by unfold addD;rw[h,Ab h0]
theorem Aas{sz:Int}(h:addE S kd sz fi=0):addD S kd sz fi=((nextD S fi,0),{S with g:=upd S.g fi.toNat (S.g fi.toNat+1),os:=insD S.os (newO S kd sz fi)}):=by unfold addD;rw[h,Ac rfl]
theorem qB(h: ∀x,x∈Xu os->p x.1=true):(os.all p)=true:=by rw[A3];intro o ho;obtain⟨k,hk⟩:=JT ho;exact h (o,k) (A6 (i:=k) (by rw[Qc,hk];rfl))
theorem qD{o:ObT}(ho:o∈os)(h:p o=false):(os.all p)=false:=by
 cases e:os.all p with
 |false=>rfl
 |true=>rw[A3] at e;rw[e o ho] at h;cases h
theorem dv(hk:k<=os.length):(ocs os).take (k*9)=ocs (os.take k)/\(ocs os).drop (k*9)=ocs (os.drop k):=by
 have e:ocs os=ocs (os.take k)++ocs (os.drop k):=by rw[<-MW,Cj]
 have hl:(ocs (os.take k)).length=k*9:=by rw[N8,CV];omega
 exact⟨by rw[e,GP hl],by rw[e,Ir hl]⟩
theorem Keep.appL(X:Ad){A B:Ad}(h:Keep A B):Keep (X++A) (X++B):=by obtain⟨r,p⟩:=h;exact⟨r,(EX X p).trans (Az X r B)⟩
theorem ai(X:Ad)(v:Value)(n i bl:Nat)(xs ws:Ap)(cs F:Ad)(ho:OwnSl 100 9 v n xs cs)(hi:i<=n)(hw:ws.length=9)(h1: ∀u∈ws,u.oneCell'=true)(jh: ∀u∈xs,u.oneCell'=true)(G5: ∀c,c∈cs->c.1≠bl)(hn:n<=90000):
 Fn prog 182 [v,.int .i64 (i:Nat),.slice (some ⟨bl,0,none⟩) 1 1] ((bl,.cells (toArray ws) 100 (0,0))::(X++(cs++F))) λv' l'=> ∃c2,OwnSl 100 9 v' (n+1) (xs.take (i*9)++ws++xs.drop (i*9)) c2/\l'=X++(c2++F):=
 Fn.re (Keep.appL [_] (Keep.in_mid X cs F)) (ah v n i bl xs ws cs (X++F) ho hi hw h1 jh G5 hn) λv' l' ⟨c2,h2,e⟩=>⟨X++(c2++F),by rw[e];exact Keep.in_mid c2 X F,c2,h2,rfl⟩
theorem qE{I:Int}(h:os.Pairwise λx y=>x.id<y.id)(hk:k<=os.length)(hn:¬∃o,0<k/\os[k-1]?=some o/\o.id>I): ∀x∈os.take k,x.id<=I:=by
 intro x hx;obtain⟨j,hj⟩:=JT hx;rw[GF] at hj
 split at hj
 ·rename_i jF;obtain⟨o,ho⟩: ∃o,os[k-1]?=some o:=⟨_,Al Af⟩
  have h1:o.id<=I:=by
   by_cases h:o.id>I
   ·exact absurd ⟨o,Af,ho,h⟩ hn
   ·omega
  by_cases e:j=k-1
  ·subst e;rw[ho] at hj;cases hj;exact h1
  ·have:=qA h hj ho Af;omega
 ·cases hj
theorem add_any(b:Nat)(S:ArT)(lq:Ad)(hA:IsA b S lq)(kd sz fi:Int)(F:Ad):
 Fn prog 137 [.pointer (some ⟨b,0,none⟩),.int .i64 kd,.int .i64 sz,.int .i64 fi] (lq++F) λv l'=>v= .tuple #[.int .i64 (addD S kd sz fi).1.1,.int .i64 (addD S kd sz fi).1.2]/\ ∃DD,IsA b (addD S kd sz fi).2 DD/\l'=DD++F:=by
 have Nj:=hA;have Ei:=hA.ok.len;obtain⟨Dm,v,cs,rfl,ho⟩:=hA;have ZC:=Dm.n1;have jz:=Dm.n2;obtain⟨gb,Mk,Og⟩:=Wz ho;have c0:=tU S.n S.g v;have hm:Tn b S.n S.g v∈Tn b S.n S.g v::cs++F:= .head _;obtain⟨L,hL⟩: ∃L,Tn b S.n S.g v::cs++F=L:=⟨_,rfl⟩
 have CE: ∀c,c∈Tn b S.n S.g v::cs->c∈L:=λc hc=>by rw[<-hL];exact Ai _ hc
 rw[hL] at hm⊢;obtain⟨N,hN⟩: ∃N,framesD kd sz=N:=⟨_,rfl⟩
 have hNr:=frames_rng kd sz;rw[hN] at hNr;refine AO func137 ntmps137 λE=>?_;refine AQ λb5=>?_;refine AQ λb7=>?_;refine AQ λb8=>?_;refine AQ λb9=>?_;refine Be (AL rfl rfl λl2 _=>frames_any kd sz l2) ?_;rw[hN];refine AQ λGX=>?_;by_cases h1:N=0
 ·refine Aj ?_;have e:=Yi (S:=S) (fi:=fi) (show addE S kd sz fi=2 by unfold addE;rw[hN,Ac h1]) AZ;refine AV [] (GA GX N::Vv b9 2::GA b8 0::GA b7 fi::GA b5 kd::L) rfl (l':=L) .refl (by exact Ba) (.drop (.drop (.drop (.drop (.drop .refl))))) ⟨by rw[e];rfl,_,by rw[e];exact Nj,hL.symm⟩
 refine Aj ?_;refine Cn [] 13 _ ?_ (hR:=(λ_ h=>h));by_cases h2:fi<0
 ·refine BS ?_;refine Aj ?_;have e:=Yi (show addE S kd sz fi=3 by unfold addE;rw[hN,Ab h1,Ac (.inl h2)]) AZ;refine AV [] (GA GX N::Vv b9 3::GA b8 0::GA b7 fi::GA b5 kd::L) rfl (l':=L) .refl (by exact Ba) (.drop (.drop (.drop (.drop (.drop .refl))))) ⟨by rw[e];rfl,_,by rw[e];exact Nj,hL.symm⟩
 by_cases h3:fi>S.n-N
 ·refine BS ?_;refine Aj ?_;have e:=Yi (show addE S kd sz fi=3 by unfold addE;rw[hN,Ab h1,Ac (.inr h3)]) AZ;refine AV [] (GA GX N::Vv b9 3::GA b8 0::GA b7 fi::GA b5 kd::L) rfl (l':=L) .refl (by exact Ba) (.drop (.drop (.drop (.drop (.drop .refl))))) ⟨by rw[e];rfl,_,by rw[e];exact Nj,hL.symm⟩
 refine BS ?_;refine Aj ?_;refine AR (AA rfl rfl (Jf _ rfl _)) ?_;rintro _ _ ⟨B,rfl,rfl⟩;refine Aj ?_;refine Df (α:=ObT×Nat) (ps:=[38,39]) (lb:=[.pointer (some ⟨B,0,none⟩)]) rfl (HR B b S.n S.g v S.os gb Mk Af) (λ_=>rfl) rfl
  (λpre l=>l=[xB B (some ⟨b,0,none⟩),GA GX N,Vv b9 0,GA b8 0,GA b7 fi,GA b5 kd]/\ ∀x,x∈pre->JH kd fi N x.1=true)
  (λc pre l=>c= .ret/\ ∃(GW:List (ObT×Nat)) (x:ObT×Nat),pre=GW++[x]/\JH kd fi N x.1=false/\l=[Vv b9 16,GA b8 0])
  _ L (λpre l2 X2 hX h=>⟨by rw[h.1];exact List.Mem.head _,Aa _ (hX _ (CE _ (.head _)))⟩) (by exact AU) ⟨rfl,by simp⟩ ?_ ?_ ?_
 ·rintro E r0 FS pre ⟨o,k⟩ l' T ⟨fn,tmps,D,rfl⟩ hT ⟨rfl,Gg⟩ DB;obtain⟨Gh,_,_⟩:=Qd DB;simp only at Gh;obtain⟨sp,hcse⟩:=Og _ _ Gh;have tg:=hT _ (CE _ (.tail _ (by rw[hcse];exact .head _)));simp only[DU,Ae,Ag];refine Aj ?_;refine CH (by exact DX) ?_;refine Aj ?_;refine Be (AL rfl rfl λl2 hl=>gj kd fi N o gb (k*9) _ _ _ l2 (hl _ (.tail _ (.tail _ (.tail _ (.tail _ (.tail _ (.tail _ (.tail _ tg)))))))) (PC Gh sp)) ?_;cases jg:JH kd fi N o with
  |false=>refine Aj ?_;refine EC [Vv b9 16,GA b8 0] (by exact AU) ⟨rfl,pre,(o,k),rfl,jg,rfl⟩
  |true=>
   refine Aj ?_;refine Cg _ .refl ⟨rfl,λx hx=>?_⟩;rcases AH.1 hx with hx|hx
   ·exact Gg x hx
   ·rw[AE.1 hx];exact jg
 ·rintro D xs l' rfl ⟨rfl,Gg⟩;simp only[Ae,Ag];refine Aj ?_;refine Be (AL rfl rfl λl2 hl=>next_any b S _ Nj fi l2 (λc hc=>hl _ (.tail _ (.tail _ (.tail _ (.tail _ (.tail _ (.tail _ (.tail _ (CE c hc)))))))))) ?_;have Gv:=qB (p:=λo=>JH kd fi N o) Gg;by_cases h4:nextD S fi=0
  ·rw[h4];refine Aj ?_;have e:=Yi (show addE S kd sz fi=11 by unfold addE;rw[hN,Ab h1,Ab Af,Ab (by rw[Gv];decide),Ac h4]) AZ;exact AV [D] (GA GX N::Vv b9 11::GA b8 0::GA b7 fi::GA b5 kd::L) rfl (l':=L) (by exact AU) (by exact Ba) (.drop (.drop (.drop (.drop (.drop .refl))))) ⟨by rw[e];rfl,_,by rw[e];exact Nj,hL.symm⟩
  have hE:addE S kd sz fi=0:=by unfold addE;rw[hN,Ab h1,Ab Af,Ab (by rw[Gv];decide),Ab h4]
  obtain⟨f0,f1,f2,f3,f4⟩:=Tp Dm h4;obtain⟨I,hI⟩: ∃I,nextD S fi=I:=⟨_,rfl⟩
  rw[hI] at f2 f3 f4 h4⊢;obtain⟨j,rfl⟩: ∃j:Nat,fi=j:=⟨fi.toNat,Af⟩
  have hj:j<64:=by omega
  rw[AY] at f2;have cg:=tV S.n S.g v hj;have hg:=Dm.g1 j;have Xq:=we Dm kd sz j;rw[Aas hE] at Xq⊢;rw[hI,AY] at Xq⊢;rw[<-hL];obtain⟨p,cap,rfl,hp⟩: ∃p cap,v= .slice p S.os.length cap/\(0<S.os.length->p=some ⟨gb,0,none⟩):=by
   rcases Mk with⟨h,h0⟩|⟨cap,h⟩
   ·exact⟨none,0,by rw[h,h0],λh=>by omega⟩
   ·exact⟨_,cap,h,λ_=>rfl⟩
  clear CE hm hL Nj;refine Aj ?_;refine Cn [10] 11 ([]) ?_;refine BS ?_;apply Gi (S:=[GA b7 (j:Nat)]);(·exact UV);(·exact C5 (.tail _ (.tail _ (.tail _ (.tail _ (.tail _ (.head _)))))));(·rfl);(·rfl);(·rfl);refine BS ?_;apply Gi (S:=[Tn b S.n S.g (.slice p S.os.length cap)])
  ·exact DP rfl (.head _) cg
  ·exact C5 (.tail _ (.tail _ (.tail _ (.tail _ (.tail _ (.tail _ (.tail _ (.head _))))))))
  ·rfl
  ·rfl
  ·rfl
  refine BS ?_;apply Hs
  ·exact Du (b:=b) (off:=1+j*1) (cs:=toArray (Ye S.n S.g (.slice p S.os.length cap))) rfl rfl rfl (by rw[kI _ _ _ hj];exact DX) (by rw[Bt,Wx];omega)
  (·rfl);(·rfl);(·intro _ _ _ c hc;cases hc);(·exact λ_ _ _ x hx ha=>Dg BB hx ha)
  rintro _ _ ⟨rfl,rfl⟩;obtain⟨g',y8⟩: ∃g',upd S.g j (S.g j+1)=g':=⟨_,rfl⟩
  rw[y8] at Xq⊢;have cl:=Vu S.n g' (.slice p S.os.length cap);refine BS ?_;refine Aj ?_;refine CF (α:=Nat) (λk=>[(0,.pointer (some ⟨b,0,none⟩)),(2,.int .i64 sz),(5,.pointer (some ⟨b5,0,none⟩)),(7,.pointer (some ⟨b7,0,none⟩)),(8,.pointer (some ⟨b8,0,none⟩)),(9,.pointer (some ⟨b9,0,none⟩)),(10,.pointer (some ⟨GX,0,none⟩)),(13,.int .i64 I),(14,.int .i64 k)])
   (λk=>Cm D::xB B (some ⟨b,0,none⟩)::GA GX N::Vv b9 0::GA b8 0::GA b7 (j:Nat)::GA b5 kd::Tn b S.n g' (.slice p S.os.length cap)::(cs++F)) (λk=>k<=S.os.length/\ ∀x∈S.os.drop k,¬x.id<=I) (λk=>k) S.os.length ⟨Bd _,by simp⟩ ⟨rfl,rfl,rfl,rfl,rfl,rfl,rfl,rfl,rfl,trivial⟩ .refl ?_
  rintro k ⟨hk,hd⟩;by_cases Wg: ∃o,0<k/\S.os[k-1]?=some o/\o.id>I
  ·obtain⟨o,hk0,Gh,hoI⟩:=Wg;obtain⟨k,rfl⟩: ∃q,k=q+1:=⟨k-1,Af⟩
   rw[Nat.add_sub_cancel] at Gh;obtain⟨sp,hcse⟩:=Og _ _ Gh;have pH:=hp Af;have co:(toArray (ocs S.os++sp))[k*9]?=some (.int .i64 o.id):=PC Gh sp 0 Af;rw[pH] at cl⊢;refine Aj ?_;refine XT (DP (v:= .int .i64 o.id) (cs:=toArray (ocs S.os++sp)) rfl (.tail _ (.tail _ (.tail _ (.tail _ (.tail _ (.tail _ (.tail _ (.tail _ (Ai _ (by rw[hcse];exact .head _)))))))))) ?_) rfl rfl rfl rfl rfl rfl ?_
   ·rw[show((((k+1:Nat)):Int)-1).toNat=k by omega,BE];exact co
   refine Aj ?_;rw[show(((k+1:Nat)):Int)-1=(k:Nat) by omega,<-pH];refine BR k ⟨Af,λx hx=>?_⟩ Af ⟨rfl,rfl,rfl,rfl,rfl,rfl,rfl,rfl,rfl,trivial⟩ .refl;rw[Dh Af] at hx;rcases At.1 hx with rfl|hx
   ·rw[(Ay.1 Gh).2];omega
   ·exact hd x hx
  ·have hT:=qE Dm.asc hk Wg;have uZ:=v8 (o:=newO S kd sz j) hk (λx hx=>by show x.id<=nextD S j;rw[hI];exact hT x hx) (λx hx=>by show ¬x.id<=nextD S j;rw[hI];exact hd x hx);have zd:newO S kd sz j=⟨I,kd,sz,j,N,0,0,0,0⟩:=by unfold newO;rw[hI,hN]
   rw[zd] at uZ Xq⊢;obtain⟨ob,fG⟩: ∃ob:ObT,ob=⟨I,kd,sz,j,N,0,0,0,0⟩:=⟨_,rfl⟩
   have AcA:obC ob=[.int .i64 I,.int .i64 kd,.int .i64 sz,.int .i64 j,.int .i64 N,.int .i64 0,.int .i64 0,.int .i64 0,.int .i64 0]:=by rw[fG]
   rw[<-fG] at uZ Xq⊢;have hX: ∀x:Bg,x∈[GA b5 kd,GA b7 (j:Nat),GA GX N,Tn b S.n g' (.slice p S.os.length cap)]->x∈Cm D::xB B (some ⟨b,0,none⟩)::GA GX N::Vv b9 0::GA b8 0::GA b7 (j:Nat)::GA b5 kd::Tn b S.n g' (.slice p S.os.length cap)::(cs++F):=by intro x hx;simp only[At,BL,Ez] at hx⊢;rcases hx with rfl|rfl|rfl|rfl<;>simp only[true_or,or_true]
   have u5: ∀bl,(∀c,c∈Cm D::xB B (some ⟨b,0,none⟩)::GA GX N::Vv b9 0::GA b8 0::GA b7 (j:Nat)::GA b5 kd::Tn b S.n g' (.slice p S.os.length cap)::(cs++F)->c.1≠bl)-> ∀c,c∈cs->c.1≠bl:=λbl h c hc=>h c (.tail _ (.tail _ (.tail _ (.tail _ (.tail _ (.tail _ (.tail _ (.tail _ (Ai _ hc)))))))));rcases Nat.eq_zero_or_pos k with hk0|hk0
   case' inl=>
    refine Aj ?_
   case' inr=>
    obtain⟨q,hq⟩: ∃q,k=q+1:=⟨k-1,Af⟩
    obtain⟨o,Gh⟩: ∃o,S.os[q]?=some o:=⟨_,Al Af⟩
    have hoI:¬o.id>I:=λh=>Wg ⟨o,Af,by rw[hq];exact Gh,h⟩;obtain⟨sp,hcse⟩:=Og _ _ Gh;have pH:=hp Af;have co:(toArray (ocs S.os++sp))[q*9]?=some (.int .i64 o.id):=PC Gh sp 0 Af;rw[pH] at cl⊢;refine Aj ?_;refine XT (DP (v:= .int .i64 o.id) (cs:=toArray (ocs S.os++sp)) rfl (.tail _ (.tail _ (.tail _ (.tail _ (.tail _ (.tail _ (.tail _ (.tail _ (Ai _ (by rw[hcse];exact .head _)))))))))) ?_) rfl rfl rfl rfl rfl rfl ?_
    ·rw[show(((k:Nat):Int)-1).toNat=q by omega,BE];exact co
    refine Aj ?_;rw[<-pH] at cl⊢
   all_goals
    refine Cn [12,13,16] 17 ([]) ?_;refine BS ?_;apply Gi (S:=[Tn b S.n g' (.slice p S.os.length cap)])
    ·exact DP rfl (.head _) cl
    ·exact C5 (hX _ (.tail _ (.tail _ (.tail _ (.head _)))))
    ·rfl
    ·rfl
    ·rfl
    refine BS ?_;apply Gi (S:=[GA b5 kd]);(·exact UV);(·exact C5 (hX _ (.head _)));(·rfl);(·rfl);(·rfl);refine BS ?_;apply Gi (S:=[GA b7 (j:Nat)]);(·exact UV);(·exact C5 (hX _ (.tail _ (.head _))));(·rfl);(·rfl);(·rfl);refine BS ?_;apply Gi (S:=[GA GX N]);(·exact UV);(·exact C5 (hX _ (.tail _ (.tail _ (.head _)))));(·rfl);(·rfl);(·rfl);refine BS ?_;apply Hb
    ·apply FB (ws:=obC ob) (k:=9)
     ·rw[AcA];rfl
     ·rfl
     ·rfl
     ·decide
     ·decide
    ·rfl
    ·rfl
    ·rfl
    ·intro _ _ _ c hc;cases hc
    ·rintro _ _ ⟨bl,_,rfl,rfl⟩ x hx _ c hc;refine .tail _ (hX _ ?_);simp only[At,BL,Ez] at hx;rcases hx with rfl|rfl|rfl|rfl<;>simp only[At,BL,Ez] at hc<;>subst hc<;>simp only[At,true_or,or_true]
    rintro _ _ ⟨bl,R9,rfl,rfl⟩;refine BS ?_;apply Hb
    ·exact AA rfl rfl (ai [Cm D,xB B (some ⟨b,0,none⟩),GA GX N,Vv b9 0,GA b8 0,GA b7 (j:Nat),GA b5 kd,Tn b S.n g' (.slice p S.os.length cap)] (.slice p S.os.length cap) S.os.length k bl (ocs S.os) (obC ob) cs F ho hk rfl (by simp[Value.oneCell']) (dq _) (u5 bl R9) Af)
    ·rfl
    ·rfl
    ·rfl
    ·intro _ _ _ c hc;cases hc
    ·exact λ_ _ _ x hx ha=>Dg BB hx ha
    rintro v' _ ⟨c2,FK,rfl⟩;have Ju:v'.oneCell'=true:=FK.one;simp only[Ae,Ag];refine BS ?_;apply Hs
    ·exact Du (b:=b) (off:=65) (cs:=toArray (Ye S.n g' (.slice p S.os.length cap))) rfl rfl Ju (by rw[Yf];exact DX) (by rw[Bt,Wx];omega)
    (·rfl);(·rfl);(·intro _ _ _ c hc;cases hc);(·exact λ_ _ _ x hx ha=>Dg BB hx ha)
    rintro _ _ ⟨rfl,rfl⟩;refine BS ?_;refine Aj ?_;rw[(dv hk).1,(dv hk).2] at FK;refine AV [D] (GA GX N::Vv b9 0::GA b8 I::GA b7 (j:Nat)::GA b5 kd::Tn b S.n g' v'::(c2++F)) rfl (l':=Tn b S.n g' v'::(c2++F)) (by exact AU) (by exact Ba) (.drop (.drop (.drop (.drop (.drop .refl))))) ⟨rfl,Tn b S.n g' v'::c2,⟨Xq,v',c2,rfl,?_⟩,rfl⟩;show OwnSl 100 9 v' (insD S.os ob).length (ocs (insD S.os ob)) c2;rw[WA,uZ,MW,show ocs (ob::List.drop k S.os)=obC ob++ocs (List.drop k S.os) from rfl,<-Am];exact FK
 ·rintro D c pre l' DB ⟨rfl,GW,x,rfl,jg,rfl⟩;obtain⟨Gh,_,_⟩:=Qd DB;simp only[Ae,Ag];refine Aj ?_;have e:=Yi (show addE S kd sz fi=16 by unfold addE;rw[hN,Ab h1,Ab Af,Ac (qD (A6 Gh) jg)]) AZ;exact AV [D] (Vv b9 16::GA b8 0::L) rfl (l':=L) (by exact AU) (by exact Ba) (.drop (.drop .refl)) ⟨by rw[e];rfl,_,by rw[e];exact Nj,hL.symm⟩
end Ar
open Go.RowKit
set_option maxRecDepth 20000
def Vw(l:Ad)(v:Value)(xs:A4):Prop:=
 ∃a cap,v= .slice a xs.length cap/\(0<xs.length-> ∃b off cs t fz,a=some ⟨b,off,none⟩/\(b,Obj.cells cs t fz)∈l/\ ∀i x,xs[i]?=some x->cs[off+i*1]?=some (.int .i64 x))
def CN(x:Int):Value:= .int .i64 x
theorem OwnSl.intsQ{e:Nat}{v:Value}{xs:A4}{cs l:Ad}(h:OwnSl e 1 v xs.length (xs.map CN) cs)(hs: ∀c,c∈cs->c∈l):Vw l v xs:=by
 rcases h.2 with⟨rfl,h0,rfl⟩|⟨b,cap,sp,rfl,rfl,_⟩
 ·exact⟨none,0,by rw[h0],λh=>by omega⟩
 ·refine⟨_,cap,rfl,λh0=>⟨b,0,_,e,(0,0),rfl,hs _ Ak,λi x hx=>?_⟩⟩;have Dc:=(Ay.1 hx).1;rw[BE,Dq,AF,AB (by simpa using Dc),A5,hx];rfl
theorem WB(v u:Value)(xs ys:A4)(l:Ad)(h1:Vw l v xs)(h2:Vw l u ys)(hx:xs.length<=1000000):
 Fn prog 48 [v,u] l λr l'=>r= .bool (decide (xs=ys))/\l'=l:=by
 obtain⟨a,ca,rfl,h1⟩:=h1;obtain⟨a',ca',rfl,h2⟩:=h2;refine AO func48 ntmps48 λE=>?_;by_cases hl:xs.length=ys.length
 ·refine gz ?_;refine CF (α:=Nat) (λk=>[(0,.slice a xs.length ca),(1,.slice a' ys.length ca'),(5,.int .i64 k)]) (λk=>l) (λk=>k<=xs.length/\ ∀j,j<k->xs[j]?=ys[j]?) (λk=>xs.length-k) 0 ⟨Bm _,λj h=>by omega⟩ ⟨rfl,rfl,rfl,trivial⟩ .refl ?_;rintro k ⟨hk,hj⟩;by_cases Dc:k<xs.length
  ·obtain⟨b,off,cs,t,fz,rfl,hm,hc⟩:=h1 Af;obtain⟨b',off',cs',t',fz',rfl,ji,hc'⟩:=h2 Af;have g1:=hc k _ (Al Dc);have g2:=hc' k _ (Al (show k<ys.length by omega));obtain⟨x,pE⟩: ∃x,xs[k]=x:=⟨_,rfl⟩
   obtain⟨y,hy0⟩: ∃y,ys[k]'Af=y:=⟨_,rfl⟩
   rw[pE] at g1;rw[hy0] at g2;have e1:xs[k]?=some x:=by rw[Al Dc,pE]
   have e2:ys[k]?=some y:=by rw[Al (show k<ys.length by omega),hy0]
   refine gz ?_;refine Cn [] 9 _ ?_ (hR:=(λ_ h=>h));refine pz ?_;by_cases UJ:x=y
   ·refine gz ?_;exact BR (k+1) ⟨Af,λj jF=>by
     by_cases e:j=k
     ·subst e;rw[e1,e2,UJ]
     ·exact hj j Af⟩ Af ⟨rfl,rfl,rfl,trivial⟩ .refl
   ·refine gz ?_;refine Bb .refl ⟨?_,rfl⟩;rw[show decide (xs=ys)=false from Ax λe=>by subst e;rw[e1] at e2;exact UJ (by cases e2;rfl)];rfl
  ·obtain rfl:k=xs.length:=by omega
   refine gz ?_;refine Bb .refl ⟨?_,rfl⟩;rw[show decide (xs=ys)=true from Av (Dl λj=>by
    by_cases h:j<xs.length
    ·exact hj j h
    ·rw[Bf Af,Bf Af])];rfl
 ·refine gz ?_;refine Bb .refl ⟨?_,rfl⟩;rw[show decide (xs=ys)=false from Ax λe=>hl (by rw[e])];rfl
namespace Qu
variable{α:Type}
theorem Yj(id:Int): ∀(xs:A4) (k:Nat),xs[k]?=some id->(∀j,j<k->xs[j]?≠some id)->xs.idxOf id=k/\id∈xs
 |[],k,h,_=>by simp at h
 |x::xs,0,h,_=>by simp only[Da,I3] at h;subst h;simp
 |x::xs,k+1,h,hn=>by
  have h0:x≠id:=λe=>hn 0 Af (by simp[e]);have ih:=Yj id xs k (by simpa using h) λj hj=>by simpa using hn (j+1) Af
  refine⟨?_,An _ ih.2⟩;rw[List.idxOf_cons,show(x==id)=false by simpa using h0,ih.1];rfl
def indexI(xs:A4)(id:Int):Int:=if id∈xs then(xs.idxOf id:Nat) else-1
theorem index_any(v:Value)(xs:A4)(id:Int)(l:Ad)(h1:Vw l v xs)(hx:xs.length<=1000000):
 Fn prog 254 [v,.int .i64 id] l λr l'=>r= .int .i64 (indexI xs id)/\l'=l:=by
 obtain⟨a,ca,rfl,h1⟩:=h1;refine AO func254 ntmps254 λE=>?_;refine gz ?_;refine CF (α:=Nat) (λk=>[(0,.slice a xs.length ca),(1,.int .i64 id),(7,.int .i64 xs.length),(8,.int .i64 k)]) (λk=>l) (λk=>k<=xs.length/\ ∀j,j<k->xs[j]?≠some id) (λk=>xs.length-k) 0 ⟨Bm _,λj h=>by omega⟩ ⟨rfl,rfl,rfl,rfl,trivial⟩ .refl ?_;rintro k ⟨hk,hj⟩;by_cases Dc:k<xs.length
 ·obtain⟨b,off,cs,t,fz,rfl,hm,hc⟩:=h1 Af;have g1:=hc k _ (Al Dc);obtain⟨x,pE⟩: ∃x,xs[k]=x:=⟨_,rfl⟩
  rw[pE] at g1;have e1:xs[k]?=some x:=by rw[Al Dc,pE]
  by_cases UJ:id=x
  ·subst UJ;obtain⟨i1,i2⟩:=Yj id xs k e1 hj;refine gz ?_;refine Bb .refl ⟨?_,rfl⟩;simp only[Jv,indexI,Ac i2,i1]
  ·refine gz ?_;exact BR (k+1) ⟨Af,λj jF=>by
    by_cases e:j=k
    ·subst e;rw[e1];intro h;exact UJ (by cases h;rfl)
    ·exact hj j Af⟩ Af ⟨rfl,rfl,rfl,rfl,trivial⟩ .refl
 ·obtain rfl:k=xs.length:=by omega
  refine gz ?_;refine Bb .refl ⟨?_,rfl⟩;have:id∉xs:=λhm=>by obtain⟨j,fF,hj2⟩:=List.getElem_of_mem hm;exact hj j fF (by rw[Al fF,hj2])
  simp only[Jv,indexI,Ab this]
theorem delete_any(v:Value)(xs:A4)(i:Nat)(hi:i<xs.length)(cs F:Ad)(h:OwnSl 3 1 v xs.length (xs.map CN) cs)(hn:xs.length<=1000000):
 Fn prog 199 [v,.int .i64 (i:Nat),.int .i64 ((i:Int)+1)] (cs++F) λr l'=> ∃cs',OwnSl 3 1 r (xs.eraseIdx i).length ((xs.eraseIdx i).map CN) cs'/\l'=cs'++F:=by
 obtain⟨Ei,h⟩:=h;rcases h with⟨rfl,h0,rfl⟩|⟨gb,cap,sp,rfl,rfl,fD,UK,Nu⟩
 ·omega
 obtain⟨cur,hcur⟩: ∃cur,xs.map CN++sp=cur:=⟨_,rfl⟩
 obtain⟨ys,ZG⟩: ∃ys,(xs.eraseIdx i).map CN=ys:=⟨_,rfl⟩
 obtain⟨m,hm⟩: ∃m,xs.length=i+m+1:=⟨xs.length-(i+1),Af⟩
 have uH:(xs.eraseIdx i).length=i+m:=by rw[F7,Ac hi];omega
 have fH:((xs.drop (i+1)).map CN).length=m:=by simp;omega
 have ze:cur.take (i*1)++(xs.drop (i+1)).map CN=ys:=by rw[<-hcur,<-ZG,Dp,Aq,Dq,List.take_append_of_le_length (by simp;omega),G4]
 obtain⟨off',hoff⟩: ∃o,(if cap=i+1 then 0 else 0+(i+1)*1)=o:=⟨_,rfl⟩
 rw[hcur] at Nu⊢;rw[uH,ZG];refine AO func199 ntmps199 λE=>?_;simp only[Ae,Ag];refine gz ?_;refine Be (F9 (l0:=i) (h0:=i+1) (m0:=xs.length) rfl (.some rfl Af rfl) (.some rfl Af Af) (.some rfl Af rfl) (λ_=>rfl) Af Af Af rfl rfl rfl) ?_;refine gz ?_;refine Cn [6] 8 ([]) ?_;refine pz ?_;apply EF
 ·exact F9 (l0:=0) (h0:=i) (m0:=cap) (off':=0) (n':=i) (c':=cap) rfl (.none) (.some rfl Af rfl) (.none) (by simp) Af Af Af (by simp) Af Af
 ·rfl
 ·rfl
 ·rfl
 refine pz ?_;apply EF
 ·exact F9 (l0:=i+1) (h0:=xs.length) (m0:=cap) (off':=off') (n':=m) rfl (.some rfl Af Af) (.none) (.none) (by simp) Af Af Af hoff Af rfl
 ·rfl
 ·rfl
 ·rfl
 refine pz ?_;apply CS
 ·apply Vj (news:=(xs.drop (i+1)).map CN) (cl:=toArray cur) (cur:=toArray cur)
  ·rfl
  ·rfl
  ·exact Ak
  ·intro j u hj;have fF:=(Ay.1 hj).1;rw[fH] at fF;rw[A5,Iu] at hj;rw[<-hoff,Ab Af,AF,<-hcur,AB (by simp;omega),A5,show 0+(i+1)*1+j=i+1+j by omega];exact hj
  ·rw[fH];omega
  ·intro u hu;rw[Au] at hu;obtain⟨a,_,rfl⟩:=hu;rfl
  ·omega
  ·rw[fH];simp only[Bt];omega
 ·rfl
 ·rfl
 ·rfl
 ·intro _ _ _ c hc;cases hc
 rintro _ _ ⟨rfl,rfl⟩;have e1:(toArray cur).toList.take (i*1)++(xs.drop (i+1)).map CN++(toArray cur).toList.drop (i*1+((xs.drop (i+1)).map CN).length)=ys++cur.drop (i+m):=by rw[fH,Dq] at*;rw[<-ze]
 rw[e1];refine pz ?_;refine gz ?_;refine Be (F9 (l0:=i+m) (h0:=xs.length) (m0:=cap) (off':=i+m) (n':=1) rfl (.some rfl Af rfl) (.some rfl Af rfl) (.none) (by simp) Af Af Af (by rw[Ab Af];omega) Af rfl) ?_;refine gz ?_;have hyl:ys.length=i+m:=by rw[<-ZG,A7,uH]
 have hdl:(cur.drop (i+m)).length=cap-(i+m):=by rw[Dw];omega
 apply ME
 ·apply dc (zs:=[.int .i64 0]) (cs:=toArray (ys++cur.drop (i+m)))
  ·rfl
  ·omega
  ·simp[Value.oneCell']
  ·exact DX
  ·simp;omega
 ·rfl
 ·rfl
 rintro _ _ ⟨rfl,rfl⟩;refine gz ?_;refine BD [] rfl .refl (by exact Ba) ⟨[(gb,_)],⟨by rw[hyl];omega,.inr ⟨gb,cap,.int .i64 0::(cur.drop (i+m)).drop 1,rfl,?_,Af,UK,?_⟩⟩,rfl⟩
 ·congr 3;simp only[BJ,List.replicate_zero,Cv,List.flatten_nil,Bi,C8,Bw];congr 1;rw[Cs _ _ Af,show i+m-ys.length=0 by omega];cases hd:cur.drop (i+m) with
  |nil=>rw[hd] at hdl;simp at hdl;omega
  |cons c r=>rfl
 ·simp only[Ah,BC,Dw];omega
def upd{α:Type}(f:Nat->α)(k:Nat)(v:α):Nat->α:=λi=>if i=k then v else f i
theorem DK(f:Nat->α)(k:Nat)(v:α):upd f k v k=v:=Ac rfl
theorem Dk(f:Nat->α)(k i:Nat)(v:α)(h:i≠k):upd f k v i=f i:=Ab h
theorem dy(f:Nat->α)(k:Nat)(v w:α):upd (upd f k v) k w=upd f k w:=by funext i;unfold upd;split<;>rfl
abbrev qC(b:Nat)(vs:Nat->Value):Bg:=(b,.cells (Array.ofFn (n:=8) λi=>vs i.val) 339 (0,0))
theorem WC(vs:Nat->Value)(p:Nat)(hp:p<8):(Array.ofFn (n:=8) λi=>vs i.val)[p*1]?=some (vs p):=by simp[hp]
theorem aj(vs:Nat->Value)(p:Nat)(hp:p<8)(v:Value):(Array.ofFn (n:=8) λi=>vs i.val).setIfInBounds (p*1) v=Array.ofFn (n:=8) λi=>upd vs p v i.val:=by
 apply DH;intro j;rw[Dq];by_cases hj:j<8
 ·by_cases e:p=j
  ·subst e;rw[He (by simpa using hp)];simp[hp,DK]
  ·rw[Gl e];simp[hj,Dk _ _ _ _ (FG e)]
 ·rw[Fj (by simpa using hj),Fj (by simpa using hj)]
def In(cs:Nat->Ad):Nat->Ad
 |0=>[]
 |k+1=>cs k++In cs k
theorem Tq{cs cs':Nat->Ad}: ∀k,(∀i,i<k->cs i=cs' i)->In cs k=In cs' k
 |0,_=>rfl
 |k+1,h=>by rw[In,In,h k Af,Tq k λi hi=>h i Af]
theorem MX(cs:Nat->Ad)(p:Nat): ∀k,p<k->(In cs k).Perm (cs p++In (upd cs p []) k)
 |0,h=>by omega
 |k+1,h=>by
  by_cases e:p=k
  ·subst e;rw[In,In,DK,Ag,Tq p λi hi=>(Dk cs p i [] Af).symm]
  ·rw[In,In,Dk _ _ _ _ (FG e)];exact((MX cs p k Af).append_left _).trans (Az _ _ _)
theorem Yk(cs:Nat->Ad)(p:Nat)(c:Bg)(hc:c∈cs p): ∀k,p<k->c∈In cs k
 |0,h=>by omega
 |k+1,h=>by
  rw[In,AH];by_cases e:p=k
  ·subst e;exact .inl hc
  ·exact .inr (Yk cs p c hc k Af)
structure QS(X:Nat->A4)(vs:Nat->Value)(cs:Nat->Ad):Prop where
 own: ∀p,p<8->OwnSl 3 1 (vs p) (X p).length ((X p).map CN) (cs p)
theorem QS.upd{X:Nat->A4}{vs:Nat->Value}{cs:Nat->Ad}(h:QS X vs cs)(p:Nat)(ys:A4)(v:Value)(c:Ad)(ho:OwnSl 3 1 v ys.length (ys.map CN) c):QS (upd X p ys) (upd vs p v) (upd cs p c):=⟨λq hq=>by
 by_cases e:q=p
 ·subst e;rw[DK,DK,DK];exact ho
 ·rw[Dk _ _ _ _ e,Dk _ _ _ _ e,Dk _ _ _ _ e];exact h.own q hq⟩
def IsQ(b:Nat)(X:Nat->A4)(lq:Ad):Prop:= ∃vs cs,QS X vs cs/\lq=qC b vs::In cs 8
theorem QS.ints{X:Nat->A4}{vs:Nat->Value}{cs:Nat->Ad}(h:QS X vs cs)(p:Nat)(hp:p<8)(l:Ad)(hs: ∀c,c∈In cs 8->c∈l):Vw l (vs p) (X p):=(h.own p hp).intsQ λc hc=>hs c (Yk cs p c hc 8 hp)
def fallT(ne:Nat->Bool)(m:Nat):List Nat:=((List.range (8-m)).map (7- ·)).filter ne
theorem Ts(ne:Nat->Bool)(p:Nat)(hp:p<8):fallT ne p=fallT ne (p+1)++if ne p then[p] else[]:=by unfold fallT;rw[show 8-p=(8-(p+1))+1 by omega,CA,Aq,DI];congr 1;simp only[AJ,CQ,show 7-(8-(p+1))=p by omega,Fu,List.filter_nil]
theorem Vx(ne:Nat->Bool): ∀(d m:Nat),m+d<=8->fallT ne (m+d)<+:fallT ne m
 |0,m,_=>GR
 |d+1,m,h=>by rw[<-JM,show m+d+1=(m+d)+1 from rfl];refine List.IsPrefix.trans ?_ (Vx ne d m Af);rw[Ts ne (m+d) Af];exact GH _ _
theorem fallT_mem(ne:Nat->Bool)(m p:Nat):p∈fallT ne m<->m<=p/\p<8/\ne p=true:=by
 unfold fallT;simp only[Co,Au,E6];constructor
 ·rintro⟨⟨i,hi,rfl⟩,h⟩;exact⟨Af,Af,h⟩
 ·rintro⟨h1,h2,h3⟩;exact⟨⟨7-p,Af,Af⟩,h3⟩
theorem Ob(pv:Option Addr)(l:Ad):Fn prog 119 [.pointer pv] l λv l'=> ∃B,(∀c,c∈l->c.1≠B)/\v= .func (.func 176) #[] #[.pointer (some ⟨B,0,none⟩)]/\l'=(B,.cells #[.pointer pv] 159 (0,0))::l:=by refine AO func119 ntmps119 λE=>?_;refine gz ?_;refine AR (Ex rfl rfl) ?_;rintro _ _ ⟨B,hB,rfl,rfl⟩;refine gz ?_;exact Bb .refl ⟨B,hB,rfl,rfl⟩
theorem Q7(B b:Nat)(vs:Nat->Value)(ns:Nat->Nat)(hv: ∀p,p<8-> ∃a cap,vs p= .slice a (ns p) cap):FA prog 176 [.pointer (some ⟨B,0,none⟩)] (λp:Nat=>[.int .i64 (p:Nat),vs p]) (λxs=>xs=fallT (λp=>ns p !=0) 0) (λpre=>pre<+:fallT (λp=>ns p !=0) 0)
 (λ_ l=>(B,.cells #[.pointer (some ⟨b,0,none⟩)] 159 (0,0))∈l/\qC b vs∈l):=by
 obtain⟨ne,G5⟩: ∃ne,(λp=>ns p !=0)=ne:=⟨_,rfl⟩
 rw[G5];have pI: ∀p,ne p=(ns p !=0):=λp=>by rw[<-G5]
 refine⟨λr I Ix G0 Ca hY l G hG h0=>?_⟩;refine AO func176 ntmps176 λE=>?_;obtain⟨Xr,UL⟩:=Ca _ _ G hG h0;refine gz ?_;refine CF (α:=Nat×Ad) (λx=>[(0,.func (.yield r) #[] #[]),(1,.pointer (some ⟨B,0,none⟩)),(3,.int .i64 ((x.1:Nat)-1))]) (λx=>x.2++G) (λx=>x.1<=8/\I (fallT ne x.1) x.2) (λx=>x.1) (8,l) ⟨by simp,h0⟩ ⟨rfl,rfl,rfl,trivial⟩ .refl ?_;clear Xr UL;rintro⟨k,l⟩ ⟨hk,hI⟩;simp only at hk hI⊢;cases k with
 |zero=>refine gz ?_;exact Bb .refl ⟨l,rfl,.inl ⟨_,rfl,hI⟩⟩
 |succ p=>
  rw[show((p+1:Nat):Int)-1=(p:Int) by omega];obtain⟨Xr,UL⟩:=Ca _ _ G hG hI;obtain⟨a,cap,hvp⟩:=hv p Af;have hg:=WC vs p Af;rw[hvp] at hg;have e1:=Ts ne p Af;by_cases hz:ns p=0
  ·rw[show ne p=false by rw[pI,hz];rfl] at e1;simp only[Bl,C3,Bi] at e1;refine gz ?_;exact BR (p,l) ⟨by simp only;omega,by simp only;rw[e1];exact hI⟩ (by simp) ⟨rfl,rfl,rfl,trivial⟩ .refl
  ·rw[show ne p=true by rw[pI];simpa using hz] at e1;simp only[C6] at e1;have DB:fallT ne (p+1)++[p]<+:fallT ne 0:=by
    rw[<-e1];have:=Vx ne p 0 Af;rwa [BE] at this
   have hy:=hY (fallT ne (p+1)) p l G hG hI DB;rw[<-e1,hvp] at hy;refine gz ?_;refine AR (C0 rfl rfl hy) ?_;rintro v l' ⟨l1,rfl,⟨rfl,Lg⟩|⟨rfl,hx⟩⟩
   ·refine gz ?_;exact BR (p,l1) ⟨by simp only;omega,Lg⟩ (by simp) ⟨rfl,rfl,rfl,trivial⟩ .refl
   ·refine gz ?_;exact BD [] rfl .refl (by exact Ba) ⟨l1,rfl,.inr ⟨_,by rw[e1];exact DB,hx⟩⟩
theorem Oc(f:α->Bool)(pre l:List α)(i:α)(h:pre++[i]<+:l)(hp: ∀j∈pre,f j=false)(hi:f i=true):l.find? f=some i:=by obtain⟨A0,rfl⟩:=h;rw[Am,Eh,Br.2 (λj hj=>by simp[hp j hj])];simp[hi]
def neX(X:Nat->A4):Nat->Bool:=λp=>(X p).length !=0
def findP(X:Nat->A4)(id:Int):Option Nat:=(fallT (neX X) 0).find? λp=>decide (id∈X p)
def jq(X:Nat->A4)(id:Int):Int×Int:=match findP X id with|some p=>((p:Nat),((X p).idxOf id:Nat))|none=>(-1,-1)
theorem Tt(X:Nat->A4)(id:Int)(p:Nat)(h:findP X id=some p):p<8/\id∈X p/\(X p).idxOf id<(X p).length:=by
 have h1:=Er h;have h2:=BK h;rw[fallT_mem] at h2;have h3:id∈X p:=by simpa using h1
 exact⟨h2.2.1,h3,G9 h3⟩
theorem QS.shape{X:Nat->A4}{vs:Nat->Value}{cs:Nat->Ad}(h:QS X vs cs): ∀p,p<8-> ∃a cap,vs p= .slice a ((λp=>(X p).length) p) cap:=λp hp=>(h.own p hp).shape
theorem JI(b:Nat)(X:Nat->A4)(lq:Ad)(id:Int)(hq:IsQ b X lq)(hb: ∀p,p<8->(X p).length<=1000000)(l:Ad)(CE: ∀c,c∈lq->c∈l):
 Fn prog 198 [.pointer (some ⟨b,0,none⟩),.int .i64 id] l λv l'=>v= .tuple #[.int .i64 (jq X id).1,.int .i64 (jq X id).2]/\l'=l:=by
 obtain⟨vs,cs,OJ,rfl⟩:=hq;have Ko: ∀c,c∈In cs 8->c∈l:=λc hc=>CE c (An _ hc);refine AO func198 ntmps198 λE=>?_;refine Ih λb3=>?_;refine Ih λb4=>?_;refine Ih λb5=>?_;refine AR (Dn rfl rfl (Ob _ _)) ?_;rintro v l' ⟨B,hB,rfl,rfl⟩;refine gz ?_;refine Df (α:=Nat) (ps:=[11,12]) (lb:=[.pointer (some ⟨B,0,none⟩)]) rfl (Q7 B b vs (λp=>(X p).length) OJ.shape) (λ_=>rfl) rfl
  (λpre l=>l=[(B,.cells #[.pointer (some ⟨b,0,none⟩)] 159 (0,0)),(b5,.cells #[.int .i64 0] 3 (0,0)),(b4,.cells #[.int .i64 0] 3 (0,0)),(b3,.cells #[.int .i64 id] 3 (0,0))]/\ ∀j∈pre,id∉X j)
  (λc pre l=>c= .ret/\ ∃(GW:List Nat) (p:Nat),pre=GW++[p]/\(∀j∈GW,id∉X j)/\id∈X p/\l=[(b4,.cells #[.int .i64 (p:Nat)] 3 (0,0)),(b5,.cells #[.int .i64 ((X p).idxOf id:Nat)] 3 (0,0))])
  _ l (λpre l2 X2 hX h=>⟨by rw[h.1];exact List.Mem.head _,Aa _ (hX _ (CE _ Ak))⟩) (by exact AU) ⟨rfl,by simp⟩ ?_ ?_ ?_
 ·rintro E r0 FS pre y l' T ⟨fn,tmps,D,rfl⟩ hT ⟨rfl,Gg⟩ DB;have hy:=(fallT_mem _ _ _).1 (Ho DB (Aa _ Ak));simp only[DU,Ae,Ag];refine gz ?_;refine CH (by exact DX) ?_;refine gz ?_;refine Be (AL rfl rfl (λl2 hl=>index_any (vs y) (X y) id l2 (OJ.ints y hy.2.1 l2 λc hc=>hl c (by simp[hT c (Ko c hc)])) (hb y hy.2.1))) ?_;by_cases NO:id∈X y
  ·rw[show indexI (X y) id=((X y).idxOf id:Nat) from Ac NO];refine gz ?_;refine EC [(b4,.cells #[.int .i64 (y:Nat)] 3 (0,0)),(b5,.cells #[.int .i64 ((X y).idxOf id:Nat)] 3 (0,0))] (by exact AU) ⟨rfl,pre,y,rfl,Gg,NO,rfl⟩
  ·rw[show indexI (X y) id= -1 from Ab NO];refine gz ?_;refine Cg _ .refl ⟨rfl,λj hj=>?_⟩;rcases AH.1 hj with hj|hj
   ·exact Gg j hj
   ·simp at hj;subst hj;exact NO
 ·rintro D xs l' rfl ⟨rfl,Gg⟩;have I8:findP X id=none:=Br.2 λj hj=>by simp[Gg j hj]
  simp only[Ae,Ag];refine gz ?_;exact AV [D] ((b4,.cells #[.int .i64 (-1)] 3 (0,0))::(b5,.cells #[.int .i64 (-1)] 3 (0,0))::l) rfl (l':=l) (by exact AU) (by exact Ba) (by exact AU) ⟨by simp[Jv,jq,I8],rfl⟩
 ·rintro D c pre l' DB ⟨rfl,GW,p,rfl,jB,hi,rfl⟩;have ZH:findP X id=some p:=Oc _ GW _ p DB (λj hj=>by simp[jB j hj]) (by simp[hi]);simp only[Ae,Ag];refine gz ?_;exact AV [D] ((b4,.cells #[.int .i64 (p:Nat)] 3 (0,0))::(b5,.cells #[.int .i64 ((X p).idxOf id:Nat)] 3 (0,0))::l) rfl (l':=l) (by exact AU) (by exact Ba) (by exact AU) ⟨by simp[Jv,jq,ZH],rfl⟩
theorem qF(b:Nat)(X:Nat->A4)(lq:Ad)(id:Int)(hq:IsQ b X lq)(hb: ∀p,p<8->(X p).length<=1000000)(l:Ad)(CE: ∀c,c∈lq->c∈l):
 Fn prog 197 [.pointer (some ⟨b,0,none⟩),.int .i64 id] l λv l'=>v= .bool (findP X id).isSome/\l'=l:=by
 have H:=JI b X lq id hq hb;refine AO func197 ntmps197 λE=>?_;refine gz ?_;cases hf:findP X id with
 |none=>rw[show jq X id=(-1,-1) by unfold jq;rw[hf]] at H;dsimp only at H;refine Be (AL rfl rfl (λl2 hl=>H l2 λc hc=>hl c (CE c hc))) ?_;exact E4
 |some p=>rw[show jq X id=(((p:Nat):Int),(((X p).idxOf id:Nat):Int)) by unfold jq;rw[hf]] at H;dsimp only at H;refine Be (AL rfl rfl (λl2 hl=>H l2 λc hc=>hl c (CE c hc))) ?_;refine gz ?_;refine Bb .refl ⟨?_,rfl⟩;simp[Jv]
def firstQ(X:Nat->A4):Int×Bool:=match fallT (neX X) 0 with|p::_=>((X p).headD 0,true)|[]=>(0,false)
end Qu
end Go.Proofs.YtlifcingifodfaaGreat
