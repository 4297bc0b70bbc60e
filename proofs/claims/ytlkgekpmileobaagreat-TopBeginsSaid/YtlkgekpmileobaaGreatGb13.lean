/- Laws that the statement's proof leans on (joined out of several texts). -/
import Derived.Test.YtlkgekpmileobaaGreatGb8
import Derived.Test.YtlkgekpmileobaaGreatGb12
import Derived.Test.YtlkgekpmileobaaGreatGb10
import Derived.Test.YtlkgekpmileobaaGreatGb9
import Derived.Test.YtlkgekpmileobaaGreatGb6
import Derived.Test.YtlkgekpmileobaaGreatGb7
set_option linter.unusedVariables false
set_option linter.unusedSimpArgs false
namespace Go.Proofs.YtlkgekpmileobaaGreat.Ar
open Tryz
open List(toArray)
open Go.RowKit
set_option maxRecDepth 20000
variable{os:OL}{S:ArT}{kd fi:Int}{p:ObT->Bool}{k:Nat}
abbrev Tj(B:Nat)(x:Int):Ab:=(B,.cells #[.int .i64 x] 29 (0,0))
theorem VL{sz e:Int}(h:addE S kd sz fi=e)(h0:e≠0):addD S kd sz fi=((0,e),S):=by unfold addD;rw[h,Ac h0]
theorem qV{sz:Int}(h:addE S kd sz fi=0):addD S kd sz fi=((nextD S fi,0),{S with g:=upd S.g fi.toNat (S.g fi.toNat+1),os:=insD S.os (newO S kd sz fi)}):=by unfold addD;rw[h,Ae rfl]
theorem jv(h: ∀x,x∈Ve os->p x.1=true):(os.all p)=true:=by rw[A6];intro o ho;obtain⟨k,hk⟩:=IY ho;exact h (o,k) (A9 (i:=k) (by rw[Ow,hk];rfl))
theorem jw{o:ObT}(ho:o∈os)(h:p o=false):(os.all p)=false:=by
 cases e:os.all p with
 |false=>rfl
 |true=>rw[A6] at e;rw[e o ho] at h;cases h
theorem Ze(hk:k<=os.length):(ocs os).take (k*9)=ocs (os.take k)/\(ocs os).drop (k*9)=ocs (os.drop k):=by
 have e:ocs os=ocs (os.take k)++ocs (os.drop k):=by rw[<-Lv,Cb]
 have hl:(ocs (os.take k)).length=k*9:=by rw[MD,BU];omega
 exact⟨by rw[e,F8 hl],by rw[e,Hu hl]⟩
theorem Keep.appL(X:List Ab){A B:List Ab}(h:Keep A B):Keep (X++A) (X++B):=by obtain⟨r,p⟩:=h;exact⟨r,(El X p).trans (Ay X r B)⟩
theorem Xu(X:List Ab)(v:Value)(n i bl:Nat)(xs ws:List Value)(cs F:List Ab)(ho:OwnSl 100 9 v n xs cs)(hi:i<=n)(hw:ws.length=9)(h1: ∀u∈ws,u.oneCell'=true)(hx1: ∀u∈xs,u.oneCell'=true)(hne: ∀c,c∈cs->c.1≠bl)(hn:n<=90000):
 Fn prog 183 [v,.int .i64 (i:Nat),.slice (some ⟨bl,0,none⟩) 1 1] ((bl,.cells (toArray ws) 100 (0,0))::(X++(cs++F))) λv' l'=> ∃c2,OwnSl 100 9 v' (n+1) (xs.take (i*9)++ws++xs.drop (i*9)) c2/\l'=X++(c2++F):=
 Fn.re (Keep.appL [_] (Keep.in_mid X cs F)) (Xt v n i bl xs ws cs (X++F) ho hi hw h1 hx1 hne hn) λv' l' ⟨c2,h2,e⟩=>⟨X++(c2++F),by rw[e];exact Keep.in_mid c2 X F,c2,h2,rfl⟩
theorem jx{I:Int}(h:os.Pairwise λx y=>x.id<y.id)(hk:k<=os.length)(hn:¬∃o,0<k/\os[k-1]?=some o/\o.id>I): ∀x∈os.take k,x.id<=I:=by
 intro x hx;obtain⟨j,hj⟩:=IY hx;rw[EY] at hj
 split at hj
 ·rename_i hjk;obtain⟨o,ho⟩: ∃o,os[k-1]?=some o:=⟨_,Am Af⟩
  have h1:o.id<=I:=by
   by_cases h:o.id>I
   ·exact absurd ⟨o,Af,ho,h⟩ hn
   ·omega
  by_cases e:j=k-1
  ·subst e;rw[ho] at hj;cases hj;exact h1
  ·have:=ju h hj ho Af;omega
 ·cases hj
set_option maxHeartbeats 400000
theorem add_any(b:Nat)(S:ArT)(lq:List Ab)(hA:IsA b S lq)(kd sz fi:Int)(F:List Ab):
 Fn prog 138 [.pointer (some ⟨b,0,none⟩),.int .i64 kd,.int .i64 sz,.int .i64 fi] (lq++F) λv l'=>v= .tuple #[.int .i64 (addD S kd sz fi).1.1,.int .i64 (addD S kd sz fi).1.2]/\ ∃lq',IsA b (addD S kd sz fi).2 lq'/\l'=lq'++F:=by
 have hA':=hA;have hlen:=hA.ok.len;obtain⟨hok,v,cs,rfl,ho⟩:=hA;have hn1:=hok.n1;have hn2:=hok.n2;obtain⟨gb,hrow,MM⟩:=Uq ho;have c0:=mm S.n S.g v;have hm:Q8 b S.n S.g v∈Q8 b S.n S.g v::cs++F:= .head _;obtain⟨L,hL⟩: ∃L,Q8 b S.n S.g v::cs++F=L:=⟨_,rfl⟩
 have hsub: ∀c,c∈Q8 b S.n S.g v::cs->c∈L:=λc hc=>by rw[<-hL];exact Ai _ hc
 rw[hL] at hm⊢;obtain⟨N,hN⟩: ∃N,framesD kd sz=N:=⟨_,rfl⟩
 have hNr:=frames_rng kd sz;rw[hN] at hNr;refine AO func138 ntmps138 λE=>?_;refine AQ λb5=>?_;refine AQ λb7=>?_;refine AQ λb8=>?_;refine AQ λb9=>?_;refine Bc (AK rfl rfl λl2 _=>frames_any kd sz l2) ?_;rw[hN];refine AQ λb10=>?_;by_cases h1:N=0
 ·refine Aj ?_;have e:=VL (S:=S) (fi:=fi) (show addE S kd sz fi=2 by unfold addE;rw[hN,Ae h1]) AW;refine AU [] (FR b10 N::Tj b9 2::FR b8 0::FR b7 fi::FR b5 kd::L) rfl (l':=L) .refl (by exact A7) (.drop (.drop (.drop (.drop (.drop .refl))))) ⟨by rw[e];rfl,_,by rw[e];exact hA',hL.symm⟩
 refine Aj ?_;refine Ce [] 13 _ ?_ (hR:=(λ_ h=>h));by_cases h2:fi<0
 ·refine BI ?_;refine Aj ?_;have e:=VL (show addE S kd sz fi=3 by unfold addE;rw[hN,Ac h1,Ae (.inl h2)]) AW;refine AU [] (FR b10 N::Tj b9 3::FR b8 0::FR b7 fi::FR b5 kd::L) rfl (l':=L) .refl (by exact A7) (.drop (.drop (.drop (.drop (.drop .refl))))) ⟨by rw[e];rfl,_,by rw[e];exact hA',hL.symm⟩
 by_cases h3:fi>S.n-N
 ·refine BI ?_;refine Aj ?_;have e:=VL (show addE S kd sz fi=3 by unfold addE;rw[hN,Ac h1,Ae (.inr h3)]) AW;refine AU [] (FR b10 N::Tj b9 3::FR b8 0::FR b7 fi::FR b5 kd::L) rfl (l':=L) .refl (by exact A7) (.drop (.drop (.drop (.drop (.drop .refl))))) ⟨by rw[e];rfl,_,by rw[e];exact hA',hL.symm⟩
 refine BI ?_;refine Aj ?_;refine AS (Az rfl rfl (Ij _ rfl _)) ?_;rintro _ _ ⟨B,rfl,rfl⟩;refine Aj ?_;refine CU (α:=ObT×Nat) (ps:=[38,39]) (lb:=[.pointer (some ⟨B,0,none⟩)]) rfl (G1 B b S.n S.g v S.os gb hrow Af) (λ_=>rfl) rfl
  (λpre l=>l=[xB B (some ⟨b,0,none⟩),FR b10 N,Tj b9 0,FR b8 0,FR b7 fi,FR b5 kd]/\ ∀x,x∈pre->IH kd fi N x.1=true)
  (λc pre l=>c= .ret/\ ∃(pre':List (ObT×Nat)) (x:ObT×Nat),pre=pre'++[x]/\IH kd fi N x.1=false/\l=[Tj b9 16,FR b8 0])
  _ L (λpre l2 X2 hX h=>⟨by rw[h.1];exact List.Mem.head _,Aa _ (hX _ (hsub _ (.head _)))⟩) (by exact AR) ⟨rfl,by simp⟩ ?_ ?_ ?_
 ·rintro E r0 rec pre ⟨o,k⟩ l' T ⟨fn,tmps,D,rfl⟩ hT ⟨rfl,hpre⟩ hsp;obtain⟨ho1,_,_⟩:=Ox hsp;simp only at ho1;obtain⟨sp,hcse⟩:=MM _ _ ho1;have hmT:=hT _ (hsub _ (.tail _ (by rw[hcse];exact .head _)));simp only[Du,Ad,Ag];refine Aj ?_;refine Cp (by exact Dw) ?_;refine Aj ?_;refine Bc (AK rfl rfl λl2 hl=>aE kd fi N o gb (k*9) _ _ _ l2 (hl _ (.tail _ (.tail _ (.tail _ (.tail _ (.tail _ (.tail _ (.tail _ hmT)))))))) (NY ho1 sp)) ?_;cases hap:IH kd fi N o with
  |false=>refine Aj ?_;refine D3 [Tj b9 16,FR b8 0] (by exact AR) ⟨rfl,pre,(o,k),rfl,hap,rfl⟩
  |true=>
   refine Aj ?_;refine B9 _ .refl ⟨rfl,λx hx=>?_⟩;rcases AF.1 hx with hx|hx
   ·exact hpre x hx
   ·rw[AA.1 hx];exact hap
 ·rintro D xs l' rfl ⟨rfl,hpre⟩;simp only[Ad,Ag];refine Aj ?_;refine Bc (AK rfl rfl λl2 hl=>next_any b S _ hA' fi l2 (λc hc=>hl _ (.tail _ (.tail _ (.tail _ (.tail _ (.tail _ (.tail _ (.tail _ (hsub c hc)))))))))) ?_;have hall:=jv (p:=λo=>IH kd fi N o) hpre;by_cases h4:nextD S fi=0
  ·rw[h4];refine Aj ?_;have e:=VL (show addE S kd sz fi=11 by unfold addE;rw[hN,Ac h1,Ac Af,Ac (by rw[hall];decide),Ae h4]) AW;exact AU [D] (FR b10 N::Tj b9 11::FR b8 0::FR b7 fi::FR b5 kd::L) rfl (l':=L) (by exact AR) (by exact A7) (.drop (.drop (.drop (.drop (.drop .refl))))) ⟨by rw[e];rfl,_,by rw[e];exact hA',hL.symm⟩
  have hE:addE S kd sz fi=0:=by unfold addE;rw[hN,Ac h1,Ac Af,Ac (by rw[hall];decide),Ac h4]
  obtain⟨f0,f1,f2,f3,f4⟩:=Ra hok h4;obtain⟨I,hI⟩: ∃I,nextD S fi=I:=⟨_,rfl⟩
  rw[hI] at f2 f3 f4 h4⊢;obtain⟨j,rfl⟩: ∃j:Nat,fi=j:=⟨fi.toNat,Af⟩
  have hj:j<64:=by omega
  rw[A3] at f2;have cg:=mn S.n S.g v hj;have hg:=hok.g1 j;have hOk:=nR hok kd sz j;rw[qV hE] at hOk⊢;rw[hI,A3] at hOk⊢;rw[<-hL];obtain⟨p,cap,rfl,hp⟩: ∃p cap,v= .slice p S.os.length cap/\(0<S.os.length->p=some ⟨gb,0,none⟩):=by
   rcases hrow with⟨h,h0⟩|⟨cap,h⟩
   ·exact⟨none,0,by rw[h,h0],λh=>by omega⟩
   ·exact⟨_,cap,h,λ_=>rfl⟩
  clear hsub hm hL hA';refine Aj ?_;refine Ce [10] 11 ([]) ?_;refine BI ?_;apply FD (S:=[FR b7 (j:Nat)]);(·exact SA);(·exact CM (.tail _ (.tail _ (.tail _ (.tail _ (.tail _ (.head _)))))));(·rfl);(·rfl);(·rfl);refine BI ?_;apply FD (S:=[Q8 b S.n S.g (.slice p S.os.length cap)])
  ·exact Dv rfl (.head _) cg
  ·exact CM (.tail _ (.tail _ (.tail _ (.tail _ (.tail _ (.tail _ (.tail _ (.head _))))))))
  ·rfl
  ·rfl
  ·rfl
  refine BI ?_;apply GH
  ·exact C7 (b:=b) (off:=1+j*1) (cs:=toArray (VH S.n S.g (.slice p S.os.length cap))) rfl rfl rfl (by rw[dR _ _ _ hj];exact Dw) (by rw[Bm,Uo];omega)
  (·rfl);(·rfl);(·intro _ _ _ c hc;cases hc);(·exact λ_ _ _ x hx ha=>CV Bv hx ha)
  rintro _ _ ⟨rfl,rfl⟩;obtain⟨g',hg'⟩: ∃g',upd S.g j (S.g j+1)=g':=⟨_,rfl⟩
  rw[hg'] at hOk⊢;have cl:=Ti S.n g' (.slice p S.os.length cap);refine BI ?_;refine Aj ?_;refine Cu (α:=Nat) (λk=>[(0,.pointer (some ⟨b,0,none⟩)),(2,.int .i64 sz),(5,.pointer (some ⟨b5,0,none⟩)),(7,.pointer (some ⟨b7,0,none⟩)),(8,.pointer (some ⟨b8,0,none⟩)),(9,.pointer (some ⟨b9,0,none⟩)),(10,.pointer (some ⟨b10,0,none⟩)),(13,.int .i64 I),(14,.int .i64 k)])
   (λk=>Cd D::xB B (some ⟨b,0,none⟩)::FR b10 N::Tj b9 0::FR b8 0::FR b7 (j:Nat)::FR b5 kd::Q8 b S.n g' (.slice p S.os.length cap)::(cs++F)) (λk=>k<=S.os.length/\ ∀x∈S.os.drop k,¬x.id<=I) (λk=>k) S.os.length ⟨A5 _,by simp⟩ ⟨rfl,rfl,rfl,rfl,rfl,rfl,rfl,rfl,rfl,trivial⟩ .refl ?_
  rintro k ⟨hk,hd⟩;by_cases hnx: ∃o,0<k/\S.os[k-1]?=some o/\o.id>I
  ·obtain⟨o,hk0,ho1,hoI⟩:=hnx;obtain⟨k,rfl⟩: ∃q,k=q+1:=⟨k-1,Af⟩
   rw[Nat.add_sub_cancel] at ho1;obtain⟨sp,hcse⟩:=MM _ _ ho1;have hpp:=hp Af;have co:(toArray (ocs S.os++sp))[k*9]?=some (.int .i64 o.id):=NY ho1 sp 0 Af;rw[hpp] at cl⊢;refine Aj ?_;refine Vu (Dv (v:= .int .i64 o.id) (cs:=toArray (ocs S.os++sp)) rfl (.tail _ (.tail _ (.tail _ (.tail _ (.tail _ (.tail _ (.tail _ (.tail _ (Ai _ (by rw[hcse];exact .head _)))))))))) ?_) rfl rfl rfl rfl rfl rfl ?_
   ·rw[show((((k+1:Nat)):Int)-1).toNat=k by omega,Bw];exact co
   refine Aj ?_;rw[show(((k+1:Nat)):Int)-1=(k:Nat) by omega,<-hpp];refine BS k ⟨Af,λx hx=>?_⟩ Af ⟨rfl,rfl,rfl,rfl,rfl,rfl,rfl,rfl,rfl,trivial⟩ .refl;rw[CX Af] at hx;rcases Aq.1 hx with rfl|hx
   ·rw[(Ax.1 ho1).2];omega
   ·exact hd x hx
  ·have hT:=jx hok.asc hk hnx;have hins:=nQ (o:=newO S kd sz j) hk (λx hx=>by show x.id<=nextD S j;rw[hI];exact hT x hx) (λx hx=>by show ¬x.id<=nextD S j;rw[hI];exact hd x hx);have hnewO:newO S kd sz j=⟨I,kd,sz,j,N,0,0,0,0⟩:=by unfold newO;rw[hI,hN]
   rw[hnewO] at hins hOk⊢;obtain⟨ob,hob⟩: ∃ob:ObT,ob=⟨I,kd,sz,j,N,0,0,0,0⟩:=⟨_,rfl⟩
   have hobC:obC ob=[.int .i64 I,.int .i64 kd,.int .i64 sz,.int .i64 j,.int .i64 N,.int .i64 0,.int .i64 0,.int .i64 0,.int .i64 0]:=by rw[hob]
   rw[<-hob] at hins hOk⊢;have hX: ∀x:Ab,x∈[FR b5 kd,FR b7 (j:Nat),FR b10 N,Q8 b S.n g' (.slice p S.os.length cap)]->x∈Cd D::xB B (some ⟨b,0,none⟩)::FR b10 N::Tj b9 0::FR b8 0::FR b7 (j:Nat)::FR b5 kd::Q8 b S.n g' (.slice p S.os.length cap)::(cs++F):=by intro x hx;simp only[Aq,BK,Ec] at hx⊢;rcases hx with rfl|rfl|rfl|rfl<;>simp only[true_or,or_true]
   have hbl2: ∀bl,(∀c,c∈Cd D::xB B (some ⟨b,0,none⟩)::FR b10 N::Tj b9 0::FR b8 0::FR b7 (j:Nat)::FR b5 kd::Q8 b S.n g' (.slice p S.os.length cap)::(cs++F)->c.1≠bl)-> ∀c,c∈cs->c.1≠bl:=λbl h c hc=>h c (.tail _ (.tail _ (.tail _ (.tail _ (.tail _ (.tail _ (.tail _ (.tail _ (Ai _ hc)))))))));rcases Nat.eq_zero_or_pos k with hk0|hk0
   case' inl=>
    refine Aj ?_
   case' inr=>
    obtain⟨q,hq⟩: ∃q,k=q+1:=⟨k-1,Af⟩
    obtain⟨o,ho1⟩: ∃o,S.os[q]?=some o:=⟨_,Am Af⟩
    have hoI:¬o.id>I:=λh=>hnx ⟨o,Af,by rw[hq];exact ho1,h⟩;obtain⟨sp,hcse⟩:=MM _ _ ho1;have hpp:=hp Af;have co:(toArray (ocs S.os++sp))[q*9]?=some (.int .i64 o.id):=NY ho1 sp 0 Af;rw[hpp] at cl⊢;refine Aj ?_;refine Vu (Dv (v:= .int .i64 o.id) (cs:=toArray (ocs S.os++sp)) rfl (.tail _ (.tail _ (.tail _ (.tail _ (.tail _ (.tail _ (.tail _ (.tail _ (Ai _ (by rw[hcse];exact .head _)))))))))) ?_) rfl rfl rfl rfl rfl rfl ?_
    ·rw[show(((k:Nat):Int)-1).toNat=q by omega,Bw];exact co
    refine Aj ?_;rw[<-hpp] at cl⊢
   all_goals
    refine Ce [12,13,16] 17 ([]) ?_;refine BI ?_;apply FD (S:=[Q8 b S.n g' (.slice p S.os.length cap)])
    ·exact Dv rfl (.head _) cl
    ·exact CM (hX _ (.tail _ (.tail _ (.tail _ (.head _)))))
    ·rfl
    ·rfl
    ·rfl
    refine BI ?_;apply FD (S:=[FR b5 kd]);(·exact SA);(·exact CM (hX _ (.head _)));(·rfl);(·rfl);(·rfl);refine BI ?_;apply FD (S:=[FR b7 (j:Nat)]);(·exact SA);(·exact CM (hX _ (.tail _ (.head _))));(·rfl);(·rfl);(·rfl);refine BI ?_;apply FD (S:=[FR b10 N]);(·exact SA);(·exact CM (hX _ (.tail _ (.tail _ (.head _)))));(·rfl);(·rfl);(·rfl);refine BI ?_;apply Gq
    ·apply E3 (ws:=obC ob) (k:=9)
     ·rw[hobC];rfl
     ·rfl
     ·rfl
     ·decide
     ·decide
    ·rfl
    ·rfl
    ·rfl
    ·intro _ _ _ c hc;cases hc
    ·rintro _ _ ⟨bl,_,rfl,rfl⟩ x hx _ c hc;refine .tail _ (hX _ ?_);simp only[Aq,BK,Ec] at hx;rcases hx with rfl|rfl|rfl|rfl<;>simp only[Aq,BK,Ec] at hc<;>subst hc<;>simp only[Aq,true_or,or_true]
    rintro _ _ ⟨bl,hbl,rfl,rfl⟩;refine BI ?_;apply Gq
    ·exact Az rfl rfl (Xu [Cd D,xB B (some ⟨b,0,none⟩),FR b10 N,Tj b9 0,FR b8 0,FR b7 (j:Nat),FR b5 kd,Q8 b S.n g' (.slice p S.os.length cap)] (.slice p S.os.length cap) S.os.length k bl (ocs S.os) (obC ob) cs F ho hk rfl (by simp[Value.oneCell']) (Za _) (hbl2 bl hbl) Af)
    ·rfl
    ·rfl
    ·rfl
    ·intro _ _ _ c hc;cases hc
    ·exact λ_ _ _ x hx ha=>CV Bv hx ha
    rintro v' _ ⟨c2,ho2,rfl⟩;have hv1:v'.oneCell'=true:=ho2.one;simp only[Ad,Ag];refine BI ?_;apply GH
    ·exact C7 (b:=b) (off:=65) (cs:=toArray (VH S.n g' (.slice p S.os.length cap))) rfl rfl hv1 (by rw[VI];exact Dw) (by rw[Bm,Uo];omega)
    (·rfl);(·rfl);(·intro _ _ _ c hc;cases hc);(·exact λ_ _ _ x hx ha=>CV Bv hx ha)
    rintro _ _ ⟨rfl,rfl⟩;refine BI ?_;refine Aj ?_;rw[(Ze hk).1,(Ze hk).2] at ho2;refine AU [D] (FR b10 N::Tj b9 0::FR b8 I::FR b7 (j:Nat)::FR b5 kd::Q8 b S.n g' v'::(c2++F)) rfl (l':=Q8 b S.n g' v'::(c2++F)) (by exact AR) (by exact A7) (.drop (.drop (.drop (.drop (.drop .refl))))) ⟨rfl,Q8 b S.n g' v'::c2,⟨hOk,v',c2,rfl,?_⟩,rfl⟩;show OwnSl 100 9 v' (insD S.os ob).length (ocs (insD S.os ob)) c2;rw[Ur,hins,Lv,show ocs (ob::List.drop k S.os)=obC ob++ocs (List.drop k S.os) from rfl,<-Al];exact ho2
 ·rintro D c pre l' hsp ⟨rfl,pre',x,rfl,hap,rfl⟩;obtain⟨ho1,_,_⟩:=Ox hsp;simp only[Ad,Ag];refine Aj ?_;have e:=VL (show addE S kd sz fi=16 by unfold addE;rw[hN,Ac h1,Ac Af,Ae (jw (A9 ho1) hap)]) AW;exact AU [D] (Tj b9 16::FR b8 0::L) rfl (l':=L) (by exact AR) (by exact A7) (.drop (.drop .refl)) ⟨by rw[e];rfl,_,by rw[e];exact hA',hL.symm⟩
end Go.Proofs.YtlkgekpmileobaaGreat.Ar
namespace Go.Proofs.YtlkgekpmileobaaGreat
open Tryz
open List(toArray)
open Go.RowKit
set_option maxRecDepth 20000
def Tk(l:List Ab)(v:Value)(xs:List Int):Prop:=
 ∃a cap,v= .slice a xs.length cap/\(0<xs.length-> ∃b off cs t fz,a=some ⟨b,off,none⟩/\(b,Obj.cells cs t fz)∈l/\ ∀i x,xs[i]?=some x->cs[off+i*1]?=some (.int .i64 x))
def CA(x:Int):Value:= .int .i64 x
theorem OwnSl.intsQ{e:Nat}{v:Value}{xs:List Int}{cs l:List Ab}(h:OwnSl e 1 v xs.length (xs.map CA) cs)(hs: ∀c,c∈cs->c∈l):Tk l v xs:=by
 rcases h.2 with⟨rfl,h0,rfl⟩|⟨b,cap,sp,rfl,rfl,_⟩
 ·exact⟨none,0,by rw[h0],λh=>by omega⟩
 ·refine⟨_,cap,rfl,λh0=>⟨b,0,_,e,(0,0),rfl,hs _ Ak,λi x hx=>?_⟩⟩;have hlt:=(Ax.1 hx).1;rw[Bw,Dh,AE,AC (by simpa using hlt),A0,hx];rfl
set_option maxHeartbeats 400000 in
theorem Us(v u:Value)(xs ys:List Int)(l:List Ab)(h1:Tk l v xs)(h2:Tk l u ys)(hx:xs.length<=1000000):
 Fn prog 49 [v,u] l λr l'=>r= .bool (decide (xs=ys))/\l'=l:=by
 obtain⟨a,ca,rfl,h1⟩:=h1;obtain⟨a',ca',rfl,h2⟩:=h2;refine AO func49 ntmps49 λE=>?_;by_cases hl:xs.length=ys.length
 ·refine gz ?_;refine Cu (α:=Nat) (λk=>[(0,.slice a xs.length ca),(1,.slice a' ys.length ca'),(5,.int .i64 k)]) (λk=>l) (λk=>k<=xs.length/\ ∀j,j<k->xs[j]?=ys[j]?) (λk=>xs.length-k) 0 ⟨Bf _,λj h=>by omega⟩ ⟨rfl,rfl,rfl,trivial⟩ .refl ?_;rintro k ⟨hk,hj⟩;by_cases hlt:k<xs.length
  ·obtain⟨b,off,cs,t,fz,rfl,hm,hc⟩:=h1 Af;obtain⟨b',off',cs',t',fz',rfl,hm',hc'⟩:=h2 Af;have g1:=hc k _ (Am hlt);have g2:=hc' k _ (Am (show k<ys.length by omega));obtain⟨x,hx0⟩: ∃x,xs[k]=x:=⟨_,rfl⟩
   obtain⟨y,hy0⟩: ∃y,ys[k]'Af=y:=⟨_,rfl⟩
   rw[hx0] at g1;rw[hy0] at g2;have e1:xs[k]?=some x:=by rw[Am hlt,hx0]
   have e2:ys[k]?=some y:=by rw[Am (show k<ys.length by omega),hy0]
   refine gz ?_;refine Ce [] 9 _ ?_ (hR:=(λ_ h=>h));refine pz ?_;by_cases hxy:x=y
   ·refine gz ?_;exact BS (k+1) ⟨Af,λj hjk=>by
     by_cases e:j=k
     ·subst e;rw[e1,e2,hxy]
     ·exact hj j Af⟩ Af ⟨rfl,rfl,rfl,trivial⟩ .refl
   ·refine gz ?_;refine A8 .refl ⟨?_,rfl⟩;rw[show decide (xs=ys)=false from Aw λe=>by subst e;rw[e1] at e2;exact hxy (by cases e2;rfl)];rfl
  ·obtain rfl:k=xs.length:=by omega
   refine gz ?_;refine A8 .refl ⟨?_,rfl⟩;rw[show decide (xs=ys)=true from At (Dq λj=>by
    by_cases h:j<xs.length
    ·exact hj j h
    ·rw[Bb Af,Bb Af])];rfl
 ·refine gz ?_;refine A8 .refl ⟨?_,rfl⟩;rw[show decide (xs=ys)=false from Aw λe=>hl (by rw[e])];rfl
end Go.Proofs.YtlkgekpmileobaaGreat
namespace Go.Proofs.YtlkgekpmileobaaGreat.Qu
open Tryz
open List(toArray)
open Go.RowKit
set_option maxRecDepth 20000
variable{α:Type}
theorem VM(id:Int): ∀(xs:List Int) (k:Nat),xs[k]?=some id->(∀j,j<k->xs[j]?≠some id)->xs.idxOf id=k/\id∈xs
 |[],k,h,_=>by simp at h
 |x::xs,0,h,_=>by simp only[Dc,H0] at h;subst h;simp
 |x::xs,k+1,h,hn=>by
  have h0:x≠id:=λe=>hn 0 Af (by simp[e]);have ih:=VM id xs k (by simpa using h) λj hj=>by simpa using hn (j+1) Af
  refine⟨?_,An _ ih.2⟩;rw[List.idxOf_cons,show(x==id)=false by simpa using h0,ih.1];rfl
def indexI(xs:List Int)(id:Int):Int:=if id∈xs then(xs.idxOf id:Nat) else-1
set_option maxHeartbeats 400000
theorem index_any(v:Value)(xs:List Int)(id:Int)(l:List Ab)(h1:Tk l v xs)(hx:xs.length<=1000000):
 Fn prog 255 [v,.int .i64 id] l λr l'=>r= .int .i64 (indexI xs id)/\l'=l:=by
 obtain⟨a,ca,rfl,h1⟩:=h1;refine AO func255 ntmps255 λE=>?_;refine gz ?_;refine Cu (α:=Nat) (λk=>[(0,.slice a xs.length ca),(1,.int .i64 id),(7,.int .i64 xs.length),(8,.int .i64 k)]) (λk=>l) (λk=>k<=xs.length/\ ∀j,j<k->xs[j]?≠some id) (λk=>xs.length-k) 0 ⟨Bf _,λj h=>by omega⟩ ⟨rfl,rfl,rfl,rfl,trivial⟩ .refl ?_;rintro k ⟨hk,hj⟩;by_cases hlt:k<xs.length
 ·obtain⟨b,off,cs,t,fz,rfl,hm,hc⟩:=h1 Af;have g1:=hc k _ (Am hlt);obtain⟨x,hx0⟩: ∃x,xs[k]=x:=⟨_,rfl⟩
  rw[hx0] at g1;have e1:xs[k]?=some x:=by rw[Am hlt,hx0]
  by_cases hxy:id=x
  ·subst hxy;obtain⟨i1,i2⟩:=VM id xs k e1 hj;refine gz ?_;refine A8 .refl ⟨?_,rfl⟩;simp only[Iw,indexI,Ae i2,i1]
  ·refine gz ?_;exact BS (k+1) ⟨Af,λj hjk=>by
    by_cases e:j=k
    ·subst e;rw[e1];intro h;exact hxy (by cases h;rfl)
    ·exact hj j Af⟩ Af ⟨rfl,rfl,rfl,rfl,trivial⟩ .refl
 ·obtain rfl:k=xs.length:=by omega
  refine gz ?_;refine A8 .refl ⟨?_,rfl⟩;have:id∉xs:=λhm=>by obtain⟨j,hjl,hj2⟩:=List.getElem_of_mem hm;exact hj j hjl (by rw[Am hjl,hj2])
  simp only[Iw,indexI,Ac this]
theorem delete_any(v:Value)(xs:List Int)(i:Nat)(hi:i<xs.length)(cs F:List Ab)(h:OwnSl 3 1 v xs.length (xs.map CA) cs)(hn:xs.length<=1000000):
 Fn prog 200 [v,.int .i64 (i:Nat),.int .i64 ((i:Int)+1)] (cs++F) λr l'=> ∃cs',OwnSl 3 1 r (xs.eraseIdx i).length ((xs.eraseIdx i).map CA) cs'/\l'=cs'++F:=by
 obtain⟨hlen,h⟩:=h;rcases h with⟨rfl,h0,rfl⟩|⟨gb,cap,sp,rfl,rfl,hnc,hcm,hcl⟩
 ·omega
 obtain⟨cur,hcur⟩: ∃cur,xs.map CA++sp=cur:=⟨_,rfl⟩
 obtain⟨ys,hys⟩: ∃ys,(xs.eraseIdx i).map CA=ys:=⟨_,rfl⟩
 obtain⟨m,hm⟩: ∃m,xs.length=i+m+1:=⟨xs.length-(i+1),Af⟩
 have hel:(xs.eraseIdx i).length=i+m:=by rw[Ft,Ae hi];omega
 have hnew:((xs.drop (i+1)).map CA).length=m:=by simp;omega
 have htake:cur.take (i*1)++(xs.drop (i+1)).map CA=ys:=by rw[<-hcur,<-hys,C4,Ap,Dh,List.take_append_of_le_length (by simp;omega),FA]
 obtain⟨off',hoff⟩: ∃o,(if cap=i+1 then 0 else 0+(i+1)*1)=o:=⟨_,rfl⟩
 rw[hcur] at hcl⊢;rw[hel,hys];refine AO func200 ntmps200 λE=>?_;simp only[Ad,Ag];refine gz ?_;refine Bc (Fu (l0:=i) (h0:=i+1) (m0:=xs.length) rfl (.some rfl Af rfl) (.some rfl Af Af) (.some rfl Af rfl) (λ_=>rfl) Af Af Af rfl rfl rfl) ?_;refine gz ?_;refine Ce [6] 8 ([]) ?_;refine pz ?_;apply D7
 ·exact Fu (l0:=0) (h0:=i) (m0:=cap) (off':=0) (n':=i) (c':=cap) rfl (.none) (.some rfl Af rfl) (.none) (by simp) Af Af Af (by simp) Af Af
 ·rfl
 ·rfl
 ·rfl
 refine pz ?_;apply D7
 ·exact Fu (l0:=i+1) (h0:=xs.length) (m0:=cap) (off':=off') (n':=m) rfl (.some rfl Af Af) (.none) (.none) (by simp) Af Af Af hoff Af rfl
 ·rfl
 ·rfl
 ·rfl
 refine pz ?_;apply CE
 ·apply S7 (news:=(xs.drop (i+1)).map CA) (cl:=toArray cur) (cur:=toArray cur)
  ·rfl
  ·rfl
  ·exact Ak
  ·intro j u hj;have hjl:=(Ax.1 hj).1;rw[hnew] at hjl;rw[A0,JE] at hj;rw[<-hoff,Ac Af,AE,<-hcur,AC (by simp;omega),A0,show 0+(i+1)*1+j=i+1+j by omega];exact hj
  ·rw[hnew];omega
  ·intro u hu;rw[Au] at hu;obtain⟨a,_,rfl⟩:=hu;rfl
  ·omega
  ·rw[hnew];simp only[Bm];omega
 ·rfl
 ·rfl
 ·rfl
 ·intro _ _ _ c hc;cases hc
 rintro _ _ ⟨rfl,rfl⟩;have e1:(toArray cur).toList.take (i*1)++(xs.drop (i+1)).map CA++(toArray cur).toList.drop (i*1+((xs.drop (i+1)).map CA).length)=ys++cur.drop (i+m):=by rw[hnew,Dh] at*;rw[<-htake]
 rw[e1];refine pz ?_;refine gz ?_;refine Bc (Fu (l0:=i+m) (h0:=xs.length) (m0:=cap) (off':=i+m) (n':=1) rfl (.some rfl Af rfl) (.some rfl Af rfl) (.none) (by simp) Af Af Af (by rw[Ac Af];omega) Af rfl) ?_;refine gz ?_;have hyl:ys.length=i+m:=by rw[<-hys,AZ,hel]
 have hdl:(cur.drop (i+m)).length=cap-(i+m):=by rw[DK];omega
 apply LV
 ·apply YZ (zs:=[.int .i64 0]) (cs:=toArray (ys++cur.drop (i+m)))
  ·rfl
  ·omega
  ·simp[Value.oneCell']
  ·exact Dw
  ·simp;omega
 ·rfl
 ·rfl
 rintro _ _ ⟨rfl,rfl⟩;refine gz ?_;refine By [] rfl .refl (by exact A7) ⟨[(gb,_)],⟨by rw[hyl];omega,.inr ⟨gb,cap,.int .i64 0::(cur.drop (i+m)).drop 1,rfl,?_,Af,hcm,?_⟩⟩,rfl⟩
 ·congr 3;simp only[BE,List.replicate_zero,Cl,List.flatten_nil,Be,CO,Bq];congr 1;rw[Cg _ _ Af,show i+m-ys.length=0 by omega];cases hd:cur.drop (i+m) with
  |nil=>rw[hd] at hdl;simp at hdl;omega
  |cons c r=>rfl
 ·simp only[Ah,Bi,DK];omega
def upd{α:Type}(f:Nat->α)(k:Nat)(v:α):Nat->α:=λi=>if i=k then v else f i
theorem DB(f:Nat->α)(k:Nat)(v:α):upd f k v k=v:=Ae rfl
theorem C3(f:Nat->α)(k i:Nat)(v:α)(h:i≠k):upd f k v i=f i:=Ac h
theorem Zf(f:Nat->α)(k:Nat)(v w:α):upd (upd f k v) k w=upd f k w:=by funext i;unfold upd;split<;>rfl
abbrev qC(b:Nat)(vs:Nat->Value):Ab:=(b,.cells (Array.ofFn (n:=8) λi=>vs i.val) 340 (0,0))
theorem Ut(vs:Nat->Value)(p:Nat)(hp:p<8):(Array.ofFn (n:=8) λi=>vs i.val)[p*1]?=some (vs p):=by simp[hp]
theorem Xv(vs:Nat->Value)(p:Nat)(hp:p<8)(v:Value):(Array.ofFn (n:=8) λi=>vs i.val).setIfInBounds (p*1) v=Array.ofFn (n:=8) λi=>upd vs p v i.val:=by
 apply Dk;intro j;rw[Dh];by_cases hj:j<8
 ·by_cases e:p=j
  ·subst e;rw[Gu (by simpa using hp)];simp[hp,DB]
  ·rw[FG e];simp[hj,C3 _ _ _ _ (Gn e)]
 ·rw[EG (by simpa using hj),EG (by simpa using hj)]
def Hp(cs:Nat->List Ab):Nat->List Ab
 |0=>[]
 |k+1=>cs k++Hp cs k
theorem Rb{cs cs':Nat->List Ab}: ∀k,(∀i,i<k->cs i=cs' i)->Hp cs k=Hp cs' k
 |0,_=>rfl
 |k+1,h=>by rw[Hp,Hp,h k Af,Rb k λi hi=>h i Af]
theorem Lw(cs:Nat->List Ab)(p:Nat): ∀k,p<k->(Hp cs k).Perm (cs p++Hp (upd cs p []) k)
 |0,h=>by omega
 |k+1,h=>by
  by_cases e:p=k
  ·subst e;rw[Hp,Hp,DB,Ag,Rb p λi hi=>(C3 cs p i [] Af).symm]
  ·rw[Hp,Hp,C3 _ _ _ _ (Gn e)];exact((Lw cs p k Af).append_left _).trans (Ay _ _ _)
theorem VN(cs:Nat->List Ab)(p:Nat)(c:Ab)(hc:c∈cs p): ∀k,p<k->c∈Hp cs k
 |0,h=>by omega
 |k+1,h=>by
  rw[Hp,AF];by_cases e:p=k
  ·subst e;exact .inl hc
  ·exact .inr (VN cs p c hc k Af)
structure QS(X:Nat->List Int)(vs:Nat->Value)(cs:Nat->List Ab):Prop where
 own: ∀p,p<8->OwnSl 3 1 (vs p) (X p).length ((X p).map CA) (cs p)
theorem QS.upd{X:Nat->List Int}{vs:Nat->Value}{cs:Nat->List Ab}(h:QS X vs cs)(p:Nat)(ys:List Int)(v:Value)(c:List Ab)(ho:OwnSl 3 1 v ys.length (ys.map CA) c):QS (upd X p ys) (upd vs p v) (upd cs p c):=⟨λq hq=>by
 by_cases e:q=p
 ·subst e;rw[DB,DB,DB];exact ho
 ·rw[C3 _ _ _ _ e,C3 _ _ _ _ e,C3 _ _ _ _ e];exact h.own q hq⟩
def IsQ(b:Nat)(X:Nat->List Int)(lq:List Ab):Prop:= ∃vs cs,QS X vs cs/\lq=qC b vs::Hp cs 8
theorem QS.ints{X:Nat->List Int}{vs:Nat->Value}{cs:Nat->List Ab}(h:QS X vs cs)(p:Nat)(hp:p<8)(l:List Ab)(hs: ∀c,c∈Hp cs 8->c∈l):Tk l (vs p) (X p):=(h.own p hp).intsQ λc hc=>hs c (VN cs p c hc 8 hp)
def fallT(ne:Nat->Bool)(m:Nat):List Nat:=((List.range (8-m)).map (7- ·)).filter ne
theorem Rc(ne:Nat->Bool)(p:Nat)(hp:p<8):fallT ne p=fallT ne (p+1)++if ne p then[p] else[]:=by unfold fallT;rw[show 8-p=(8-(p+1))+1 by omega,Cs,Ap,Dl];congr 1;simp only[AJ,CY,show 7-(8-(p+1))=p by omega,ET,List.filter_nil]
theorem Tl(ne:Nat->Bool): ∀(d m:Nat),m+d<=8->fallT ne (m+d)<+:fallT ne m
 |0,m,_=>Ga
 |d+1,m,h=>by rw[<-IP,show m+d+1=(m+d)+1 from rfl];refine List.IsPrefix.trans ?_ (Tl ne d m Af);rw[Rc ne (m+d) Af];exact FZ _ _
theorem K8(ne:Nat->Bool)(m p:Nat):p∈fallT ne m<->m<=p/\p<8/\ne p=true:=by
 unfold fallT;simp only[Cr,Au,FN];constructor
 ·rintro⟨⟨i,hi,rfl⟩,h⟩;exact⟨Af,Af,h⟩
 ·rintro⟨h1,h2,h3⟩;exact⟨⟨7-p,Af,Af⟩,h3⟩
theorem MH(pv:Option Addr)(l:List Ab):Fn prog 120 [.pointer pv] l λv l'=> ∃B,(∀c,c∈l->c.1≠B)/\v= .func (.func 177) #[] #[.pointer (some ⟨B,0,none⟩)]/\l'=(B,.cells #[.pointer pv] 160 (0,0))::l:=by refine AO func120 ntmps120 λE=>?_;refine gz ?_;refine AS (DZ rfl rfl) ?_;rintro _ _ ⟨B,hB,rfl,rfl⟩;refine gz ?_;exact A8 .refl ⟨B,hB,rfl,rfl⟩
theorem Pc(B b:Nat)(vs:Nat->Value)(ns:Nat->Nat)(hv: ∀p,p<8-> ∃a cap,vs p= .slice a (ns p) cap):E2 prog 177 [.pointer (some ⟨B,0,none⟩)] (λp:Nat=>[.int .i64 (p:Nat),vs p]) (λxs=>xs=fallT (λp=>ns p !=0) 0) (λpre=>pre<+:fallT (λp=>ns p !=0) 0)
 (λ_ l=>(B,.cells #[.pointer (some ⟨b,0,none⟩)] 160 (0,0))∈l/\qC b vs∈l):=by
 obtain⟨ne,hne⟩: ∃ne,(λp=>ns p !=0)=ne:=⟨_,rfl⟩
 rw[hne];have hne': ∀p,ne p=(ns p !=0):=λp=>by rw[<-hne]
 refine⟨λr I Ix G0 hneed hY l G hG h0=>?_⟩;refine AO func177 ntmps177 λE=>?_;obtain⟨hm1,hm2⟩:=hneed _ _ G hG h0;refine gz ?_;refine Cu (α:=Nat×List Ab) (λx=>[(0,.func (.yield r) #[] #[]),(1,.pointer (some ⟨B,0,none⟩)),(3,.int .i64 ((x.1:Nat)-1))]) (λx=>x.2++G) (λx=>x.1<=8/\I (fallT ne x.1) x.2) (λx=>x.1) (8,l) ⟨by simp,h0⟩ ⟨rfl,rfl,rfl,trivial⟩ .refl ?_;clear hm1 hm2;rintro⟨k,l⟩ ⟨hk,hI⟩;simp only at hk hI⊢;cases k with
 |zero=>refine gz ?_;exact A8 .refl ⟨l,rfl,.inl ⟨_,rfl,hI⟩⟩
 |succ p=>
  rw[show((p+1:Nat):Int)-1=(p:Int) by omega];obtain⟨hm1,hm2⟩:=hneed _ _ G hG hI;obtain⟨a,cap,hvp⟩:=hv p Af;have hg:=Ut vs p Af;rw[hvp] at hg;have e1:=Rc ne p Af;by_cases hz:ns p=0
  ·rw[show ne p=false by rw[hne',hz];rfl] at e1;simp only[Bg,CS,Be] at e1;refine gz ?_;exact BS (p,l) ⟨by simp only;omega,by simp only;rw[e1];exact hI⟩ (by simp) ⟨rfl,rfl,rfl,trivial⟩ .refl
  ·rw[show ne p=true by rw[hne'];simpa using hz] at e1;simp only[CT] at e1;have hsp:fallT ne (p+1)++[p]<+:fallT ne 0:=by
    rw[<-e1];have:=Tl ne p 0 Af;rwa [Bw] at this
   have hy:=hY (fallT ne (p+1)) p l G hG hI hsp;rw[<-e1,hvp] at hy;refine gz ?_;refine AS (CK rfl rfl hy) ?_;rintro v l' ⟨l1,rfl,⟨rfl,hI'⟩|⟨rfl,hx⟩⟩
   ·refine gz ?_;exact BS (p,l1) ⟨by simp only;omega,hI'⟩ (by simp) ⟨rfl,rfl,rfl,trivial⟩ .refl
   ·refine gz ?_;exact By [] rfl .refl (by exact A7) ⟨l1,rfl,.inr ⟨_,by rw[e1];exact hsp,hx⟩⟩
theorem MI(f:α->Bool)(pre l:List α)(i:α)(h:pre++[i]<+:l)(hp: ∀j∈pre,f j=false)(hi:f i=true):l.find? f=some i:=by obtain⟨rest,rfl⟩:=h;rw[Al,DP,Bu.2 (λj hj=>by simp[hp j hj])];simp[hi]
def neX(X:Nat->List Int):Nat->Bool:=λp=>(X p).length !=0
def findP(X:Nat->List Int)(id:Int):Option Nat:=(fallT (neX X) 0).find? λp=>decide (id∈X p)
def dd(X:Nat->List Int)(id:Int):Int×Int:=match findP X id with|some p=>((p:Nat),((X p).idxOf id:Nat))|none=>(-1,-1)
theorem Rd(X:Nat->List Int)(id:Int)(p:Nat)(h:findP X id=some p):p<8/\id∈X p/\(X p).idxOf id<(X p).length:=by
 have h1:=Ei h;have h2:=BN h;rw[K8] at h2;have h3:id∈X p:=by simpa using h1
 exact⟨h2.2.1,h3,Gp h3⟩
theorem QS.shape{X:Nat->List Int}{vs:Nat->Value}{cs:Nat->List Ab}(h:QS X vs cs): ∀p,p<8-> ∃a cap,vs p= .slice a ((λp=>(X p).length) p) cap:=λp hp=>(h.own p hp).shape
theorem II(b:Nat)(X:Nat->List Int)(lq:List Ab)(id:Int)(hq:IsQ b X lq)(hb: ∀p,p<8->(X p).length<=1000000)(l:List Ab)(hsub: ∀c,c∈lq->c∈l):
 Fn prog 199 [.pointer (some ⟨b,0,none⟩),.int .i64 id] l λv l'=>v= .tuple #[.int .i64 (dd X id).1,.int .i64 (dd X id).2]/\l'=l:=by
 obtain⟨vs,cs,hqs,rfl⟩:=hq;have hsub2: ∀c,c∈Hp cs 8->c∈l:=λc hc=>hsub c (An _ hc);refine AO func199 ntmps199 λE=>?_;refine Hj λb3=>?_;refine Hj λb4=>?_;refine Hj λb5=>?_;refine AS (CZ rfl rfl (MH _ _)) ?_;rintro v l' ⟨B,hB,rfl,rfl⟩;refine gz ?_;refine CU (α:=Nat) (ps:=[11,12]) (lb:=[.pointer (some ⟨B,0,none⟩)]) rfl (Pc B b vs (λp=>(X p).length) hqs.shape) (λ_=>rfl) rfl
  (λpre l=>l=[(B,.cells #[.pointer (some ⟨b,0,none⟩)] 160 (0,0)),(b5,.cells #[.int .i64 0] 3 (0,0)),(b4,.cells #[.int .i64 0] 3 (0,0)),(b3,.cells #[.int .i64 id] 3 (0,0))]/\ ∀j∈pre,id∉X j)
  (λc pre l=>c= .ret/\ ∃(pre':List Nat) (p:Nat),pre=pre'++[p]/\(∀j∈pre',id∉X j)/\id∈X p/\l=[(b4,.cells #[.int .i64 (p:Nat)] 3 (0,0)),(b5,.cells #[.int .i64 ((X p).idxOf id:Nat)] 3 (0,0))])
  _ l (λpre l2 X2 hX h=>⟨by rw[h.1];exact List.Mem.head _,Aa _ (hX _ (hsub _ Ak))⟩) (by exact AR) ⟨rfl,by simp⟩ ?_ ?_ ?_
 ·rintro E r0 rec pre y l' T ⟨fn,tmps,D,rfl⟩ hT ⟨rfl,hpre⟩ hsp;have hy:=(K8 _ _ _).1 (GD hsp (Aa _ Ak));simp only[Du,Ad,Ag];refine gz ?_;refine Cp (by exact Dw) ?_;refine gz ?_;refine Bc (AK rfl rfl (λl2 hl=>index_any (vs y) (X y) id l2 (hqs.ints y hy.2.1 l2 λc hc=>hl c (by simp[hT c (hsub2 c hc)])) (hb y hy.2.1))) ?_;by_cases hin:id∈X y
  ·rw[show indexI (X y) id=((X y).idxOf id:Nat) from Ae hin];refine gz ?_;refine D3 [(b4,.cells #[.int .i64 (y:Nat)] 3 (0,0)),(b5,.cells #[.int .i64 ((X y).idxOf id:Nat)] 3 (0,0))] (by exact AR) ⟨rfl,pre,y,rfl,hpre,hin,rfl⟩
  ·rw[show indexI (X y) id= -1 from Ac hin];refine gz ?_;refine B9 _ .refl ⟨rfl,λj hj=>?_⟩;rcases AF.1 hj with hj|hj
   ·exact hpre j hj
   ·simp at hj;subst hj;exact hin
 ·rintro D xs l' rfl ⟨rfl,hpre⟩;have hno:findP X id=none:=Bu.2 λj hj=>by simp[hpre j hj]
  simp only[Ad,Ag];refine gz ?_;exact AU [D] ((b4,.cells #[.int .i64 (-1)] 3 (0,0))::(b5,.cells #[.int .i64 (-1)] 3 (0,0))::l) rfl (l':=l) (by exact AR) (by exact A7) (by exact AR) ⟨by simp[Iw,dd,hno],rfl⟩
 ·rintro D c pre l' hsp ⟨rfl,pre',p,rfl,hp',hi,rfl⟩;have hfd:findP X id=some p:=MI _ pre' _ p hsp (λj hj=>by simp[hp' j hj]) (by simp[hi]);simp only[Ad,Ag];refine gz ?_;exact AU [D] ((b4,.cells #[.int .i64 (p:Nat)] 3 (0,0))::(b5,.cells #[.int .i64 ((X p).idxOf id:Nat)] 3 (0,0))::l) rfl (l':=l) (by exact AR) (by exact A7) (by exact AR) ⟨by simp[Iw,dd,hfd],rfl⟩
theorem jy(b:Nat)(X:Nat->List Int)(lq:List Ab)(id:Int)(hq:IsQ b X lq)(hb: ∀p,p<8->(X p).length<=1000000)(l:List Ab)(hsub: ∀c,c∈lq->c∈l):
 Fn prog 198 [.pointer (some ⟨b,0,none⟩),.int .i64 id] l λv l'=>v= .bool (findP X id).isSome/\l'=l:=by
 have H:=II b X lq id hq hb;refine AO func198 ntmps198 λE=>?_;refine gz ?_;cases hf:findP X id with
 |none=>rw[show dd X id=(-1,-1) by unfold dd;rw[hf]] at H;dsimp only at H;refine Bc (AK rfl rfl (λl2 hl=>H l2 λc hc=>hl c (hsub c hc))) ?_;exact Es
 |some p=>rw[show dd X id=(((p:Nat):Int),(((X p).idxOf id:Nat):Int)) by unfold dd;rw[hf]] at H;dsimp only at H;refine Bc (AK rfl rfl (λl2 hl=>H l2 λc hc=>hl c (hsub c hc))) ?_;refine gz ?_;refine A8 .refl ⟨?_,rfl⟩;simp[Iw]
def firstQ(X:Nat->List Int):Int×Bool:=match fallT (neX X) 0 with|p::_=>((X p).headD 0,true)|[]=>(0,false)
end Go.Proofs.YtlkgekpmileobaaGreat.Qu
