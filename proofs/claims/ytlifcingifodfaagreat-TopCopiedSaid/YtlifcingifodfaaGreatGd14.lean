/- Laws. -/
import Derived.Test.YtlifcingifodfaaGreatGd13
set_option maxHeartbeats 4000000
set_option linter.all false
namespace Go.Proofs.YtlifcingifodfaaGreat
open Tryz
open List renaming toArray→τ
open Go.RowKit
set_option maxRecDepth 20000
variable{k b f i s F C j k' gb cap N:Nat}{ks:List (IQ×Nat)}{c c':IQ×Nat}{S S':KT}{p:RP}{T:LQ}{sp vs A B:Ap}{G:Ac}{x:M9}{Γ:Ac->Ac}{P:Program}{q:Nat->Bool}{v:Value}{ro:Option Nat}{E:World}{Q:Exit->Act->World->Prop}{ds:List Deferred}{ops:Array Oper}
abbrev kV(B b:Nat):Bh:=(B,.cells (τ [pV b]) 307 (0,0))
theorem WF(b:Nat)(l:Ac):Fn prog 304 [pV b] l λv l'=> ∃B,v= .func (.func 342) #[] #[pV B]/\l'=kV B b::l:=by refine AO func304 ntmps304 λE=>?_;refine AR λb1=>?_;exact Bc .refl ⟨_,rfl,rfl⟩
theorem XR(T:LQ)(s:Nat):(iN T s).length=11:=by simp[iN]
theorem Qg(T:LQ)(hs:s<4)(hf:f<11):(τ (SY T))[s*11+f]?=(iN T s)[f]?:=by
 rw[AF];unfold SY;have h: ∀j,(iN T j).length=11:=XR T;obtain rfl|rfl|rfl|rfl:s=0\/s=1\/s=2\/s=3:=by omega
 ·rw[AH (by rw[h];omega),G4,BG]
 ·rw[AW (by rw[h];omega),AH (by rw[h,h];omega),h];congr 1;omega
 ·rw[AW (by rw[h];omega),AW (by rw[h,h];omega),AH (by rw[h,h,h];omega),h,h];congr 1;omega
 ·rw[AW (by rw[h];omega),AW (by rw[h,h];omega),AW (by rw[h,h,h];omega),h,h,h];congr 1;omega
def JE(k:Nat):Nat:=k/2*11+k%2*5
theorem UI(T:LQ)(hk:k<8)(hf:f<5):(τ (SY T))[JE k+f]?=(RF (T.w k))[f]?:=by
 unfold JE;rw[show k/2*11+k%2*5+f=k/2*11+(k%2*5+f) by omega,Qg T Af Af];unfold iN;rcases Nat.mod_two_eq_zero_or_one k with h|h
 ·rw[h,G4,BG,show 2*(k/2)=k by omega,AH (by simp;omega)]
 ·rw[h,AW (by simp),AH (by simp;omega),show 2*(k/2)+1=k by omega];congr 1;simp
abbrev fY(T:LQ)(k:Nat):Bool:=!decide ((T.w k).sp=0)
theorem Pw(q:Nat->Bool)(h:k<=8):(List.range k).filter q<+:(List.range 8).filter q:=by
 obtain⟨j,hj⟩: ∃j,8=k+j:=⟨8-k,Af⟩
 rw[hj,List.range_add,DM];exact⟨_,rfl⟩
theorem XS(h:q k=false):(List.range (k+1)).filter q=(List.range k).filter q:=by rw[Cx,DM];simp[h]
theorem Te(h:q k=true):(List.range (k+1)).filter q=(List.range k).filter q++[k]:=by rw[Cx,DM];simp[h]
abbrev Agi(B b:Nat)(T:LQ)(pre:List Nat)(l:Ac):Prop:=kV B b∈l/\ ∃T':LQ,Oh b T'∈l/\ ∀j,j<8->(∀x,x∈pre->x<j)->T'.w j=T.w j
theorem UJ(B b:Nat)(T:LQ):FN prog 342 [pV B] (λk:Nat=>[.pointer (some ⟨b,JE k,none⟩)]) (λxs=>xs=Mv T) (λpre=>pre<+:Mv T) (Agi B b T):=by
 refine⟨λr I Ix G0 Cf hY l G hG h0=>?_⟩;have key: ∀k l,k<8->I ((List.range k).filter (fY T)) l->kV B b∈l++G/\ ∃T':LQ,Oh b T'∈l++G/\(τ (SY T'))[JE k+0]?=some (ι (T.w k).sp):=λk l hk hI=>by
  obtain⟨n1,T',n2,n3⟩:=Cf _ _ G hG hI;have e:=n3 k hk λx hx=>by have:=(Cr.1 hx).1;simpa using this
  exact⟨n1,T',n2,by rw[UI T' hk A0,e];rfl⟩
 have hy: ∀k l,k<8->fY T k=true->I ((List.range k).filter (fY T)) l->_:=λk l hk hn hI=>hY _ k l G hG hI (by rw[<-Te hn];exact Pw _ hk);refine AO func342 ntmps342 λE=>?_;have n1:=(Cf _ _ G hG h0).1;refine Aj ?_;refine CF (α:=Nat×Ac) (λx=>[(0,.func (.yield r) #[] #[]),(1,pV B),(7,ι (x.1:Nat))]) (λx=>x.2++G) (λx=>x.1<=4/\I ((List.range (2*x.1)).filter (fY T)) x.2) (λx=>4-x.1) (0,l) ⟨Bm _,h0⟩ ⟨rfl,rfl,rfl,trivial⟩ .refl ?_;clear n1 h0;rintro⟨s,l⟩ ⟨hs,hI⟩;simp only at hs hI⊢;by_cases h4:s<4
 case neg=>
  obtain rfl:s=4:=by omega
  refine Aj ?_;exact Bc .refl ⟨l,rfl,.inl ⟨_,rfl,hI⟩⟩
 have o1:JE (2*s)=s*11+Int.toNat 0*5:=by unfold JE;first|(simp;done)|(simp;omega)
 have o2:JE (2*s+1)=s*11+Int.toNat (0+1)*5:=by unfold JE;first|(simp;done)|(simp;omega)
 obtain⟨n1,T',n2,n3⟩:=key (2*s) l Af hI;rw[CM,o1] at n3;have qT:=hy (2*s) l Af;have Tw:=λl=>hy (2*s+1) l Af;rw[o1] at qT;rw[o2] at Tw;refine Aj ?_;refine Io 2 ?_;refine Aj ?_;by_cases hz:(T.w (2*s)).sp=0
 ·have N7:I ((List.range (2*s+1)).filter (fY T)) l:=by rw[XS (by simpa[fY] using hz)];exact hI
  refine Aj ?_;refine Fk ?_;obtain⟨n1,T',n2,n3⟩:=key (2*s+1) l Af N7;rw[CM,o2] at n3;refine Aj ?_;by_cases vU:(T.w (2*s+1)).sp=0
  ·refine Aj ?_;refine Fk ?_;refine Aj ?_;exact BZ (s+1,l) ⟨by simp only;omega,by simp only;rw[show 2*(s+1)=2*s+1+1 by omega,XS (by simpa[fY] using vU)];exact N7⟩ (by simp only;omega) ⟨rfl,rfl,rfl,trivial⟩ .refl
  ·have hn:fY T (2*s+1)=true:=by simpa[fY] using vU
   refine Aj ?_;refine IE (C8 rfl rfl (Tw l hn N7)) rfl rfl rfl ?_;rw[<-Te hn];rintro v _ ⟨l1,rfl,⟨rfl,aV⟩|⟨rfl,hx⟩⟩
   ·refine Aj ?_;refine Fk ?_;refine Aj ?_;exact BZ (s+1,l1) ⟨by simp only;omega,aV⟩ (by simp only;omega) ⟨rfl,rfl,rfl,trivial⟩ .refl
   ·refine Aj ?_;exact BF [] rfl .refl Ba ⟨l1,rfl,.inr ⟨_,Pw _ Af,hx⟩⟩
 ·have hn:fY T (2*s)=true:=by simpa[fY] using hz
  refine Aj ?_;refine IE (C8 rfl rfl (qT hn hI)) rfl rfl rfl ?_;rw[<-Te hn];rintro v _ ⟨l1,rfl,⟨rfl,N7⟩|⟨rfl,hx⟩⟩
  case' inr=>
   refine Aj ?_;exact BF [] rfl .refl Ba ⟨l1,rfl,.inr ⟨_,Pw _ Af,hx⟩⟩
  refine Aj ?_;refine Fk ?_;obtain⟨n1,T',n2,n3⟩:=key (2*s+1) l1 Af N7;rw[CM,o2] at n3;refine Aj ?_;by_cases vU:(T.w (2*s+1)).sp=0
  ·refine Aj ?_;refine Fk ?_;refine Aj ?_;exact BZ (s+1,l1) ⟨by simp only;omega,by simp only;rw[show 2*(s+1)=2*s+1+1 by omega,XS (by simpa[fY] using vU)];exact N7⟩ (by simp only;omega) ⟨rfl,rfl,rfl,trivial⟩ .refl
  ·have hn:fY T (2*s+1)=true:=by simpa[fY] using vU
   refine Aj ?_;refine IE (C8 rfl rfl (Tw l1 hn N7)) rfl rfl rfl ?_;rw[<-Te hn];rintro v _ ⟨l2,rfl,⟨rfl,aV⟩|⟨rfl,hx⟩⟩
   ·refine Aj ?_;refine Fk ?_;refine Aj ?_;exact BZ (s+1,l2) ⟨by simp only;omega,aV⟩ (by simp only;omega) ⟨rfl,rfl,rfl,trivial⟩ .refl
   ·refine Aj ?_;exact BF [] rfl .refl Ba ⟨l2,rfl,.inr ⟨_,Pw _ Af,hx⟩⟩
theorem wK(T:LQ)(hk:k<8):(τ (SY T)).extract (JE k) (JE k+5)=τ (RF (T.w k)):=by
 apply Dq;intro j;rw[DN];have hs:(τ (SY T)).size=44:=by simp[SY,XR]
 by_cases h:j<5
 ·rw[Ad (by rw[hs];unfold JE;omega),UI T hk h,AF]
 ·rw[Ab Af,AF,Bi (by simp;omega)]
theorem Kr(T:LQ):(τ (SY T)).size=44:=by simp[SY,XR]
theorem Tf(h:k<8):JE k+5<=44:=by unfold JE;omega
theorem wL{A':Ap}(h:A.length=A'.length)(hf:A.length<=f):(A++B)[f]?=(A'++B)[f]?:=by rw[AW hf,AW (h▸hf),h]
theorem wM{B':Ap}(hf:f<A.length):(A++B)[f]?=(A++B')[f]?:=by rw[AH hf,AH hf]
theorem ZS(T:LQ)(hk:k<8)(x:M9):Dc (τ (SY T)) (JE k) (RF x)=τ (SY (Q7 T k x)):=by
 apply Dq;intro j;rw[TU,Kr];have hl:=Tf hk;have hx:(RF x).length=5:=rfl;rw[hx];by_cases hj:j<44
 case neg=>rw[Ab Af,AF,AF,Bi (by have:=Kr T;simp at this;omega),Bi (by have:=Kr (Q7 T k x);simp at this;omega)]
 obtain⟨s,f,rfl,hs,hf⟩: ∃s f,j=s*11+f/\s<4/\f<11:=⟨j/11,j%11,Af,Af,Af⟩
 rw[Qg _ hs hf,Qg _ hs hf];have e1:(Q7 T k x).d=T.d:=rfl;have e2: ∀i,(Q7 T k x).w i=if i=k then x else T.w i:=λi=>rfl
 unfold iN;rw[e1,e2,e2];by_cases MK:JE k<=s*11+f/\s*11+f<JE k+5
 ·rw[Ad ⟨MK.1,Af,Af⟩];unfold JE at MK⊢;obtain rfl:s=k/2:=by omega
  rcases Nat.mod_two_eq_zero_or_one k with h|h
  ·rw[h] at MK⊢;rw[Ad Af,AH (by simp;omega)];congr 1;omega
  ·rw[h] at MK⊢;rw[Ab Af,Ad Af,AW (by simp;omega),AH (by simp;omega)];congr 1;simp;omega
 ·rw[Ab Af];unfold JE at MK;by_cases a:2*s=k
  ·rw[Ad a,Ab Af];exact wL rfl (by simp;omega)
  ·by_cases c:2*s+1=k
   ·rw[Ab a,Ad c];by_cases hf5:f<5
    ·exact wM (by simp;omega)
    ·rw[<-Am,<-Am];exact wL rfl (by simp;omega)
   ·rw[Ab a,Ab c]
abbrev Lu(B:Nat)(x:M9):Bh:=(B,.cells (τ (RF x)) 301 (0,0))
abbrev y7(x:M9):Value:= .agg (τ (RF x))
abbrev Yt(B:Nat)(x:Bool):Bh:=(B,.cells (τ [.bool x]) 4 (0,0))
theorem jy(b:Nat)(T:LQ)(sp pg:Int)(l:Ac)(m1:Oh b T∈l):Fn prog 226 [pV b,ι sp,ι pg] l λv l'=>v= .tuple #[y7 (UD T sp pg).1,.bool (UD T sp pg).2]/\l'=l:=by
 unfold UD;refine AO func226 ntmps226 λE=>?_;refine AR λb4=>?_;refine AR λb5=>?_;refine AR λb6=>?_;refine AR λb7=>?_;refine AP (Az rfl rfl (WF b _)) ?_;rintro _ _ ⟨B,rfl,rfl⟩;refine Aj ?_;refine Dj (α:=Nat) (ps:=[11]) (lb:=[pV B]) rfl (UJ B b T) (λ_=>rfl) rfl
  (λpre l=>(∀k,k∈pre->(decide ((T.w k).sp=sp)&&decide ((T.w k).pg=pg))=false)/\l=[kV B b,Yt b7 false,Lu b6 Rq,BX b5 pg,BX b4 sp])
  (λc pre l=>c= .ret/\ ∃Hh k,pre=Hh++[k]/\(∀k,k∈Hh->(decide ((T.w k).sp=sp)&&decide ((T.w k).pg=pg))=false)/\(decide ((T.w k).sp=sp)&&decide ((T.w k).pg=pg))=true/\l=[Yt b7 true,Lu b6 (T.w k)])
  [kV B b,Yt b7 false,Lu b6 Rq,BX b5 pg,BX b4 sp] l (λpre l2 X2 hX h=>⟨by rw[h.2];exact Ai _ (.head _),T,Aa _ (hX _ m1),λ_ _ _=>rfl⟩) AY ⟨λ_ h=>(nomatch h),rfl⟩ ?_ ?_ ?_
 ·rintro E r0 Gb pre k l' X ⟨fn,tmps,D,rfl⟩ hX ⟨hn,rfl⟩ DG;have hk:k<8:=by
   have h3:k∈Mv T:=DG.subset (by simp);have:=(Cr.1 h3).1;simpa using this
  have mX:=hX _ m1;have c0:=UI T hk (f:=0) A0;have c1:=UI T hk (f:=1) A0;simp only[DY,Ae,Ag,CM] at c0 c1⊢;refine Aj ?_;refine CP D1 ?_;refine Aj ?_;refine IP ?_;have c0:(τ (SY T))[JE k]?=some (ι (T.w k).sp):=c0;have c1:(τ (SY T))[JE k+1]?=some (ι (T.w k).pg):=c1;by_cases h1:(T.w k).sp=sp
  case neg=>
   refine BJ ?_;refine Aj ?_;exact Cn [kV B b,Yt b7 false,Lu b6 Rq,BX b5 pg,BX b4 sp] AY ⟨λz hz=>by
    rcases AB.1 hz with hz|hz
    ·exact hn z hz
    ·rw[Ay.1 hz];simp[h1],rfl⟩
  by_cases h2:(T.w k).pg=pg
  case neg=>
   refine BJ ?_;refine Aj ?_;exact Cn [kV B b,Yt b7 false,Lu b6 Rq,BX b5 pg,BX b4 sp] AY ⟨λz hz=>by
    rcases AB.1 hz with hz|hz
    ·exact hn z hz
    ·rw[Ay.1 hz];simp[h2],rfl⟩
  refine BJ ?_;refine Aj ?_;refine Be (Dp (n:=5) rfl (by first|exact .tail _ (.tail _ (.tail _ (.tail _ (.tail _ (.tail _ mX)))))) (by rw[Kr];exact Tf hk) (wK T hk)) ?_;refine Aj ?_;exact EH [Yt b7 true,Lu b6 (T.w k)] AY ⟨rfl,pre,k,rfl,hn,by simp[h1,h2],rfl⟩
 ·rintro D xs l' rfl ⟨hn,rfl⟩;rw[Bp.2 λy hy=>by rw[hn y hy];decide];simp only[Ae,Ag];refine Aj ?_;exact AU [D] _ rfl (l':=l) AY Ba AY ⟨rfl,rfl⟩
 ·rintro D c pre l' DG ⟨rfl,Hh,k,rfl,hn,hx,rfl⟩;rw[ZR DG hn hx];simp only[Ae,Ag];refine Aj ?_;exact AU [D] _ rfl (l':=l) AY Ba AY ⟨rfl,rfl⟩
theorem cZ(b:Nat)(T:LQ)(st wy:Int)(F:Ac):Fn prog 164 [pV b,ι st,ι wy] (Oh b T::F) λv l'=>v= .bool (NH T st wy).1/\l'=Oh b (NH T st wy).2::F:=by
 unfold NH;refine AO func164 ntmps164 λE=>?_;by_cases hb:st<0\/st>=4\/wy<0\/wy>=2
 ·rw[Ad hb];by_cases h1:st<0<;>by_cases h2:st>=4<;>by_cases h3:wy<0<;>by_cases h4:wy>=2;all_goals first
   |(exfalso;omega)
   |(refine Aj ?_
     exact qr)
 rw[Ab hb];obtain⟨s,rfl⟩: ∃q:Nat,st=q:=⟨st.toNat,Af⟩
 obtain⟨w,rfl⟩: ∃q:Nat,wy=q:=⟨wy.toNat,Af⟩
 have hk:2*s+w<8:=by omega
 have ho:s*11+w*5=JE (2*s+w):=by unfold JE;omega
 have c0:=UI T hk (f:=0) A0;have c0:(τ (SY T))[s*11+w*5]?=some (ι (T.w (2*s+w)).sp):=by rw[ho];exact c0
 rw[AV,AV];refine Aj ?_;refine Nk (EG (n:=5) (l':=Oh b (Q7 T (2*s+w) Rq)::F) rfl rfl rfl (by simp[Value.oneCell']) (by rw[show(τ _).toList=RF Rq from rfl,ho,ZS T hk];exact .here) (by rw[Kr,ho];exact Tf hk)) rfl rfl ?_;rintro _ _ ⟨rfl,rfl⟩;refine Aj ?_;exact BF [] rfl .refl Ba ⟨by simp[JQ],rfl⟩
def dropL(T:LQ)(f:M9->Bool)(pre:List Nat):LQ:={T with w:=λk=>if k∈pre/\f (T.w k)=true then Rq else T.w k}
abbrev fnB(B gf:Nat)(cs:Ap):Bh:=(B,.cells (τ [.func (.func gf) #[] (τ cs)]) 540 (0,0))
theorem UK{f:M9->Bool}{pre:List Nat}:dropL T f (pre++[k])=if f (T.w k)=true then Q7 (dropL T f pre) k Rq else dropL T f pre:=by
 unfold dropL Q7
 split
 ·rename_i h;congr 1;funext j;simp only[Qu.upd,AB,Ay];by_cases e:j=k
  ·subst e;simp[h]
  ·simp[e]
 ·rename_i h;congr 1;funext j;simp only[AB,Ay];by_cases e:j=k
  ·subst e;simp[h]
  ·simp[e]
theorem jz(T:LQ)(f:M9->Bool):dropL T f (Mv T)=PU T f:=by unfold dropL PU;congr 1;funext k;unfold tt Mv;simp[Cr,and_assoc]
theorem WG(b:Nat)(T:LQ)(gf:Nat)[EN prog gf](cs:Ap)(f:M9->Bool)(R F:Ac)(hR: ∀c,c∈R->c∈F)(hf: ∀x l2,(∀c,c∈R->c∈l2)->Fn prog gf (y7 x::cs) l2 λv l'=>v= .bool (f x)/\l'=l2):
 Fn prog 375 [pV b,.func (.func gf) #[] (τ cs)] (Oh b T::F) λv l'=>v=iV (NX T f:Nat)/\l'=Oh b (PU T f)::F:=by
 refine AO func375 ntmps375 λE=>?_;refine AR λb3=>?_;refine AR λb5=>?_;refine AP (Az rfl rfl (WF b _)) ?_;rintro _ _ ⟨B,rfl,rfl⟩;refine Aj ?_;refine Dj (α:=Nat) (ps:=[9]) (lb:=[pV B]) rfl (UJ B b T) (λ_=>rfl) rfl
  (λpre l=>l=[kV B b,BX b5 ((pre.filter λk=>f (T.w k)).length:Nat),fnB b3 gf cs,Oh b (dropL T f pre)])
  (λc pre l=>False)
  [kV B b,BX b5 0,fnB b3 gf cs,Oh b T] F (λpre l2 X2 hX h=>by
   subst h;refine⟨Ai _ (.head _),dropL T f pre,Ai _ η,λj _ hj=>?_⟩;have:¬j∈pre:=λhm=>by have:=hj j hm;omega
   simp[dropL,this]) AY (by simp[dropL]) ?_ ?_ ?_
 ·rintro E r0 Gb pre k l' X ⟨fn,tmps,D,rfl⟩ hX rfl DG;have hk:k<8:=by
   have h3:k∈Mv T:=DG.subset (by simp);have:=(Cr.1 h3).1;simpa using this
  have vV:¬k∈pre:=λhm=>by have h3:=(List.nodup_range (n:=8)).filter (λk=>!decide ((T.w k).sp=0));have h4:=h3.sublist DG.sublist;exact absurd rfl ((BC.1 h4).2.2 k hm k (by simp))
  have ew:(dropL T f pre).w k=T.w k:=by simp[dropL,vV]
  have hl:=Tf hk;have hx:=wK (dropL T f pre) hk;rw[ew] at hx;simp only[DY,Ae,Ag];refine Aj ?_;refine CP D1 ?_;refine Aj ?_;refine CC (Cy [] 0 5) ?_;refine ff ?_;refine Y4 ?_;refine Y4 ?_;refine ff ?_ (Dp (n:=5) rfl η (by rw[Kr];exact hl) hx);refine ff ?_ (FY rfl rfl λl2 JP=>hf (T.w k) l2 λc hc=>JP _ (.tail _ (.tail _ (.tail _ (.tail _ (.tail _ (hX _ (hR _ hc))))))));refine RE ?_;have hc: ∀n:Nat,((pre++[k]).filter λk=>f (T.w k)).length=n->n=(pre.filter λk=>f (T.w k)).length+if f (T.w k)=true then 1 else 0:=λn h=>by rw[<-h,DM,Ah];simp[FJ];split<;>rfl
  cases hfk:f (T.w k) with
  |false=>refine Aj ?_;exact Cn [kV B b,BX b5 ((pre.filter λk=>f (T.w k)).length:Nat),fnB b3 gf cs,Oh b (dropL T f pre)] AY (by rw[UK,Ab (by rw[hfk];decide),hc _ rfl,Ab (by rw[hfk];decide)];rfl)
  |true=>
   have Yj:=(DG.length_le:(pre++[k]).length<=_)
   have AiP:(Mv T).length<=8:=Db _ _;have hpf:=Db (λk=>f (T.w k)) pre;rw[Ah] at Yj;refine Aj ?_;refine Nk (EG (n:=5) (b:=b) (off:=JE k) (cs:=τ (SY (dropL T f pre))) (l':=kV B b::BX b5 ((pre.filter λk=>f (T.w k)).length:Nat)::fnB b3 gf cs::Oh b (Q7 (dropL T f pre) k Rq)::_) rfl rfl rfl (by simp[Value.oneCell']) (by rw[show(τ _).toList=RF Rq from rfl,ZS _ hk];exact D1) (by rw[Kr];exact hl)) rfl rfl ?_;rintro _ _ ⟨rfl,rfl⟩;refine Aj ?_;exact Cn [kV B b,BX b5 (((pre.filter λk=>f (T.w k)).length:Nat)+1),fnB b3 gf cs,Oh b (Q7 (dropL T f pre) k Rq)] AY (by rw[UK,Ad hfk,hc _ rfl,Ad hfk];rfl)
 ·rintro D xs l' rfl rfl;have hd:((Mv T).filter λk=>f (T.w k)).length=NX T f:=by
   unfold NX Mv tt;rw[List.filter_filter];congr 1;exact List.filter_congr λk hk=>by rw[Aq (by simpa using hk:k<8),BA,Bool.and_comm]
  rw[hd,jz];simp only[Ae,Ag];refine Aj ?_;exact AU [D] _ rfl (l':=Oh b (PU T f)::F) AY Ba AY ⟨rfl,rfl⟩
 ·rintro D c pre l' DG h;exact h.elim
theorem tL(b4 b5:Nat)(sp pg:Int)(x:M9)(l:Ac)(m4:BX b4 sp∈l)(m5:BX b5 pg∈l):Fn prog 376 [y7 x,pV b4,pV b5] l λv l'=>v= .bool (KJ sp pg x)/\l'=l:=by
 refine AO func376 ntmps376 λE=>?_;refine Aj ?_
 (first|refine AP (EA rfl rfl) ?_|refine AP (Cw rfl) ?_);rintro _ _ ⟨b3,_,rfl,rfl⟩
 have m4':=An (Lu b3 x) m4;have m5':=An (Lu b3 x) m5;by_cases h1:x.sp=sp<;>by_cases h2:x.pg=pg;all_goals
  refine Aj ?_;refine qr (hx:=?_);simp[JQ,h1,h2]
theorem tN(b4:Nat)(sp:Int)(x:M9)(l:Ac)(m4:BX b4 sp∈l):Fn prog 390 [y7 x,pV b4] l λv l'=>v= .bool (Rs sp x)/\l'=l:=by
 refine AO func390 ntmps390 λE=>?_;refine Aj ?_
 (first|refine AP (EA rfl rfl) ?_|refine AP (Cw rfl) ?_);rintro _ _ ⟨b3,_,rfl,rfl⟩
 have m4':=An (Lu b3 x) m4;refine Aj ?_;exact qr
theorem db(b:Nat)(T:LQ)(sp pg:Int)(F:Ac):Fn prog 341 [pV b,ι sp,ι pg] (Oh b T::F) λv l'=>v=iV (NX T (KJ sp pg):Nat)/\l'=Oh b (PU T (KJ sp pg))::F:=by refine AO func341 ntmps341 λE=>?_;refine AR λb4=>?_;refine AR λb5=>?_;refine Bt (l':=Oh b T::BX b5 pg::BX b4 sp::F) (.pick (.there (.there .here)) .refl) ?_;refine AP (Az rfl rfl (WG b T _ [pV b4,pV b5] (KJ sp pg) [BX b5 pg,BX b4 sp] (BX b5 pg::BX b4 sp::F) (by simp) λx l2 h2=>tL b4 b5 sp pg x l2 (h2 _ ν) (h2 _ (.head _)))) ?_;rintro _ _ ⟨rfl,rfl⟩;refine Aj ?_;exact Bc (.pick .here θ) ⟨rfl,rfl⟩
theorem dc(b:Nat)(T:LQ)(sp:Int)(F:Ac):Fn prog 371 [pV b,ι sp] (Oh b T::F) λv l'=>v=iV (NX T (Rs sp):Nat)/\l'=Oh b (PU T (Rs sp))::F:=by refine AO func371 ntmps371 λE=>?_;refine AR λb4=>?_;refine Bt (l':=Oh b T::BX b4 sp::F) (.pick (.there .here) .refl) ?_;refine AP (Az rfl rfl (WG b T _ [pV b4] (Rs sp) [BX b4 sp] (BX b4 sp::F) (by simp) λx l2 h2=>tN b4 sp x l2 (h2 _ (.head _)))) ?_;rintro _ _ ⟨rfl,rfl⟩;refine Aj ?_;exact Bc (.pick .here ζ) ⟨rfl,rfl⟩
theorem y8(T:LQ)(hs:s<4):(τ (SY T))[s*11+10]?=some (ι (T.d s)):=by rw[Qg T hs A0];simp[iN]
theorem Ac5(T:LQ)(hs:s<4)(v:Int):(τ (SY T)).setIfInBounds (s*11+10) (ι v)=τ (SY {T with d:=Qu.upd T.d s v}):=by
 apply Dq;intro j;rw[Array.getElem?_setIfInBounds,Kr];by_cases hj:j<44
 case neg=>rw[Ab Af,AF,AF,Bi (by have:=Kr T;simp at this;omega),Bi (by have:=Kr {T with d:=Qu.upd T.d s v};simp at this;omega)]
 obtain⟨r,f,rfl,hr,hf⟩: ∃r f,j=r*11+f/\r<4/\f<11:=⟨j/11,j%11,Af,Af,Af⟩
 rw[Qg _ hr hf,Qg _ hr hf];unfold iN;by_cases e:s*11+10=r*11+f
 ·obtain⟨rfl,rfl⟩:r=s/\f=10:=by omega
  rw[Ad rfl,Ad Af];simp[Qu.upd]
 ·rw[Ab e];by_cases e2:r=s
  ·subst e2;rw[<-Am,<-Am];exact wM (by simp;omega)
  ·simp[Qu.upd,e2]
theorem y9(T:LQ)(hs:s<4):(τ (SY T)).extract (s*11) (s*11+10)=τ (RF (T.w (2*s))++RF (T.w (2*s+1))):=by
 apply Dq;intro j;rw[DN,Kr];by_cases h:j<10
 ·rw[Ad Af,Qg T hs Af,AF];unfold iN;rw[<-Am,AH (by simp;omega)]
 ·rw[Ab Af,AF,Bi (by simp;omega)]
theorem za(hb:¬VK x)(e4:(x.pg%4).toNat=s)(hk:k<2)(hn: ∀j,j<k->¬((T.w (2*s+j)).sp=x.sp/\(T.w (2*s+j)).pg=x.pg))(h:(T.w (2*s+k)).sp=x.sp/\(T.w (2*s+k)).pg=x.pg):KW T x=(0,Q7 T (2*s+k) x):=by
 have:cO T x=some (2*s+k):=by
  unfold cO;simp only[e4];rcases k with _|_|k
  ·rw[CM] at h;rw[Ad h];rfl
  ·have h0:=hn 0 Af;rw[CM] at h0;rw[Ab h0,Ad h]
  ·omega
 unfold KW;rw[Ab hb,this]
theorem zb(hb:¬VK x)(e4:(x.pg%4).toNat=s)(hk:k<2)(hn: ∀j,j<2->¬((T.w (2*s+j)).sp=x.sp/\(T.w (2*s+j)).pg=x.pg))(hz: ∀j,j<k->¬(T.w (2*s+j)).sp=0)(h:(T.w (2*s+k)).sp=0):KW T x=(0,Q7 T (2*s+k) x):=by
 have:cO T x=some (2*s+k):=by
  have n0:=hn 0 Af;rw[CM] at n0;unfold cO;simp only[e4];rw[Ab n0,Ab (hn 1 Af)];rcases k with _|_|k
  ·rw[CM] at h;rw[Ad h];rfl
  ·have h0:=hz 0 Af;rw[CM] at h0;rw[Ab h0,Ad h]
  ·omega
 unfold KW;rw[Ab hb,this]
theorem zc(hb:¬VK x)(e4:(x.pg%4).toNat=s)(hn: ∀j,j<2->¬((T.w (2*s+j)).sp=x.sp/\(T.w (2*s+j)).pg=x.pg))(hz: ∀j,j<2->¬(T.w (2*s+j)).sp=0):KW T x=(0,Q7 {T with d:=Qu.upd T.d s ((T.d s+1)%2)} (2*s+(T.d s).toNat) x):=by
 have:cO T x=none:=by have n0:=hn 0 Af;rw[CM] at n0;have h0:=hz 0 Af;rw[CM] at h0;unfold cO;simp only[e4];rw[Ab n0,Ab (hn 1 Af),Ab h0,Ab (hz 1 Af)]
 unfold KW;rw[Ab hb,this];simp only[e4];rfl
theorem jA(b:Nat)(T:LQ)(hd: ∀s,s<4->T.d s=0\/T.d s=1)(x:M9)(F:Ac):Fn prog 228 [pV b,y7 x] (Oh b T::F) λv l'=>v=iV (KW T x).1/\l'=Oh b (KW T x).2::F:=by
 refine AO func228 ntmps228 λE=>?_;refine Aj ?_
 (first|refine AP (EA rfl rfl) ?_|refine AP (Cw rfl) ?_);rintro _ _ ⟨b3,_,rfl,rfl⟩
 by_cases hb:VK x
 ·rw[show KW T x=(2,T) by unfold KW;rw[Ad hb]];unfold VK at hb;refine Aj ?_;iterate 7
   all_goals first
    |(refine Acp rfl rfl rfl rfl (λ_=>?_) (λ_=>?_))
    |(refine Acq rfl rfl rfl rfl (λ_=>?_) (λ_=>?_))
    |(refine l6 rfl (λ_=>?_) (λ_=>?_))
    |skip
   all_goals refine Aj ?_
  all_goals first
   |exact qr
   |(exfalso;rcases hb with h|h|h|h|h|h<;>first|omega|(simp_all;done))
 obtain⟨z1,z2,z3,z4,z5,z6⟩:1<=x.sp/\0<=x.pg/\x.pg<512/\0<=x.fr/\x.fr<64/\¬(x.rd=false/\x.wr=false):=by unfold VK at hb;refine⟨Af,Af,Af,Af,Af,λh=>hb ?_⟩;simp[h]
 obtain⟨s,hs,hs4⟩: ∃s:Nat,x.pg%4=s/\s<4:=⟨(x.pg%4).toNat,Af,Af⟩
 have hx:=y9 T hs4;have qO:=y8 T hs4;have e4:(x.pg%4).toNat=s:=by omega
 refine Aj ?_;refine Acq rfl rfl rfl rfl (λh1=>?_) (λh1=>?_);all_goals refine Aj ?_
 case' refine_1=>refine l6 rfl (λh2=>(by exfalso;simp_all)) (λh2=>?_)
 all_goals refine Aj ?_
 all_goals
  refine IP ?_;iterate 4 refine qX ?_
  rw[hs];refine BJ ?_;refine Aj ?_;refine Be (FR (zs:=[.bool false,.bool false]) (cs:=[.bool false,.bool true]) rfl rfl) ?_;refine Aj ?_;refine Io 2 ?_;refine Aj ?_;refine Be (cX rfl rfl A0 rfl) ?_;refine Aj ?_;refine Be (Dp (n:=10) rfl ν (by rw[Kr];omega) hx) ?_;refine Aj ?_;refine CF (α:=Nat) (λk=>[(0,pV b),(3,pV b3),(5,.pointer (some ⟨b,s*11,none⟩)),(6,ι (-1)),(8,.bool false),(55,.agg (τ [.bool false,.bool true])),(56,ι 0),(62,.agg (τ (RF (T.w (2*s))++RF (T.w (2*s+1))))),(63,ι (k:Nat))]) (λ_=>Lu b3 x::Oh b T::F) (λk=>k<=2/\ ∀j,j<k->¬((T.w (2*s+j)).sp=x.sp/\(T.w (2*s+j)).pg=x.pg)) (λk=>2-k) 0 ⟨Af,λj hj=>by omega⟩ ⟨rfl,rfl,rfl,rfl,rfl,rfl,rfl,rfl,rfl,trivial⟩ .refl ?_;rintro k ⟨hk,hn⟩;by_cases LH:k<2
  ·refine Aj ?_;refine Be (cW (i:=k) (ws:=RF (T.w (2*s+k))) rfl rfl LH (by rcases k with _|_|k<;>first|rfl|omega)) ?_;refine AR λGW=>?_;by_cases P:(T.w (2*s+k)).sp=x.sp/\(T.w (2*s+k)).pg=x.pg
   ·rw[za hb e4 LH hn P];obtain⟨p0,q0⟩:=P;refine Aj ?_;refine CC (Cy [6] 0 7) ?_;refine Y4 ?_;refine Y4 ?_;refine ff ?_;iterate 3 refine Y4 ?_
    refine my ?_ (EG (n:=5) (b:=b) (ws:=τ (RF x)) (cs:=τ (SY T)) rfl rfl rfl (by simp[Value.oneCell']) (by rw[show(τ (RF x)).toList=RF x from rfl,show s*11+k*5=JE (2*s+k) by unfold JE;omega,ZS T Af];exact D1) (by rw[Kr];omega));refine RE ?_;refine Aj ?_;exact qr
   have kI: ∀j,j<k+1->¬((T.w (2*s+j)).sp=x.sp/\(T.w (2*s+j)).pg=x.pg):=λj hj=>by
    by_cases e:j=k
    ·subst e;exact P
    ·exact hn j Af
   have hp0:(T.w (2*s+k)).sp=x.sp->¬(T.w (2*s+k)).pg=x.pg:=λa c=>P ⟨a,c⟩;by_cases p0:(T.w (2*s+k)).sp=x.sp
   case' pos=>have q0:=hp0 p0
   all_goals
    refine Aj ?_;exact BZ (k+1) ⟨Af,kI⟩ Af ⟨rfl,rfl,rfl,rfl,rfl,rfl,rfl,rfl,rfl,trivial⟩ ζ
  obtain rfl:k=2:=by omega
  refine Aj ?_;refine Fk ?_;refine Aj ?_;rw[show(0:Int)+1=1 from rfl];refine Be (cX (i:=1) rfl rfl A0 rfl) ?_;refine Aj ?_;refine Be (Dp (n:=10) rfl ν (by rw[Kr];omega) hx) ?_;refine Aj ?_;refine CF (α:=Nat) (λk=>[(0,pV b),(3,pV b3),(5,.pointer (some ⟨b,s*11,none⟩)),(6,ι (-1)),(8,.bool true),(55,.agg (τ [.bool false,.bool true])),(56,ι 1),(62,.agg (τ (RF (T.w (2*s))++RF (T.w (2*s+1))))),(63,ι (k:Nat))]) (λ_=>Lu b3 x::Oh b T::F) (λk=>k<=2/\ ∀j,j<k->¬(T.w (2*s+j)).sp=0) (λk=>2-k) 0 ⟨Af,λj hj=>by omega⟩ ⟨rfl,rfl,rfl,rfl,rfl,rfl,rfl,rfl,rfl,trivial⟩ .refl ?_;rintro k ⟨hk,hz⟩;by_cases LH:k<2
  ·refine Aj ?_;refine Be (cW (i:=k) (ws:=RF (T.w (2*s+k))) rfl rfl LH (by rcases k with _|_|k<;>first|rfl|omega)) ?_;refine AR λGW=>?_;by_cases z0:(T.w (2*s+k)).sp=0
   ·rw[zb hb e4 LH hn hz z0];refine Aj ?_;refine CC (Cy [6] 0 7) ?_;refine Y4 ?_;refine Y4 ?_;refine ff ?_;iterate 3 refine Y4 ?_
    refine my ?_ (EG (n:=5) (b:=b) (ws:=τ (RF x)) (cs:=τ (SY T)) rfl rfl rfl (by simp[Value.oneCell']) (by rw[show(τ (RF x)).toList=RF x from rfl,show s*11+k*5=JE (2*s+k) by unfold JE;omega,ZS T Af];exact D1) (by rw[Kr];omega));refine RE ?_;refine Aj ?_;exact qr
   ·refine Aj ?_;exact BZ (k+1) ⟨Af,λj hj=>by by_cases e:j=k;subst e;exact z0;exact hz j Af⟩ Af ⟨rfl,rfl,rfl,rfl,rfl,rfl,rfl,rfl,rfl,trivial⟩ ζ
  obtain rfl:k=2:=by omega
  rw[zc hb e4 hn hz];have hds:=hd s hs4;refine Aj ?_;refine Fk ?_;refine Aj ?_;refine Nk (Dy (b:=b) (off:=s*11+10) (cs:=τ (SY T)) (l':=Lu b3 x::Oh b {T with d:=Qu.upd T.d s ((T.d s+1)%2)}::F) rfl rfl rfl (by rw[Ac5 T hs4];exact D1) (by rw[Kr];omega)) rfl rfl ?_;rintro _ _ ⟨rfl,rfl⟩;refine Aj ?_;refine CC (Cy [6] 0 7) ?_;refine Y4 ?_;refine Y4 ?_;refine ff ?_;iterate 3 refine Y4 ?_
  refine my ?_ (EG (n:=5) (b:=b) (ws:=τ (RF x)) (cs:=τ (SY {T with d:=Qu.upd T.d s ((T.d s+1)%2)})) rfl rfl rfl (by simp[Value.oneCell']) (by rw[show(τ (RF x)).toList=RF x from rfl,show s*11+(T.d s).toNat*5=JE (2*s+(T.d s).toNat) by unfold JE;omega,ZS {T with d:=Qu.upd T.d s ((T.d s+1)%2)} Af];exact D1) (by rw[Kr];omega));refine RE ?_;refine Aj ?_;exact qr
theorem oq{α:Type}{enc:α->Ap}{m j:Nat}(hm: ∀x,(enc x).length=m)(hj:j<m)(sp:Ap): ∀{L:List α} {i:Nat} {x:α},L[i]?=some x->(τ (L.flatMap enc++sp))[i*m+j]?=(enc x)[j]?
 |a::L,0,x,h=>by cases h;rw[AF,CB,Am,AH (by rw[hm];omega),G4,BG]
 |a::L,i+1,x,h=>by
  have ih:=oq hm hj sp (L:=L) (i:=i) (x:=x) (by simpa using h);rw[AF] at ih⊢;have e:(i+1)*m+j-m=i*m+j:=by rw[FE];omega
  rw[CB,Am,AW (by rw[hm,FE];omega),hm,e];exact ih
theorem ou{α:Type}{enc:α->Ap}{m j:Nat}{v:Value}(hm: ∀x,(enc x).length=m)(hj:j<m)(sp:Ap): ∀{L:List α} {i:Nat} {x x':α},L[i]?=some x->(enc x).set j v=enc x'->(L.flatMap enc++sp).set (i*m+j) v=(L.set i x').flatMap enc++sp
 |a::L,0,x,x',h,he=>by cases h;rw[CB,Am,HA _ _ (by rw[hm];omega),G4,BG,he,E7,CB,Am]
 |a::L,i+1,x,x',h,he=>by
  have ih:=ou hm hj sp (L:=L) (i:=i) (x:=x) (x':=x') (by simpa using h) he;have e:(i+1)*m+j-m=i*m+j:=by rw[FE];omega
  rw[CB,Am,Cq _ _ (by rw[hm,FE];omega),hm,e,ih,IS,CB,Am]
abbrev Vt(gb:Nat)(ks:List (IQ×Nat))(sp:Ap):Bh:=(gb,.cells (τ (ks.flatMap QO++sp)) 309 (0,0))
def fZ(b gb cap:Nat)(sp:Ap)(ks:List (IQ×Nat)):Ac:=TX b (.slice (some ⟨gb,0,none⟩) ks.length cap)::Vt gb ks sp::GP ks
abbrev Q8(ks:List (IQ×Nat)):Prop:= ∀c,c∈ks-> ∀s,s<4->c.1.tb.d s=0\/c.1.tb.d s=1
theorem XT(ks:List (IQ×Nat)):(ks.flatMap QO).length=ks.length*3:=by
 induction ks with
 |nil=>rfl
 |cons c ks ih=>rw[CB,Ah,ih,By];simp;omega
theorem IsCos.form{K:List IQ}{lq:Ac}(h:IsCos b K lq)(h1:1<=K.length): ∃gb cap sp ks,ks.map Prod.fst=K/\Q8 ks/\lq=fZ b gb cap sp ks/\ks.length<=cap/\cap<=maxLen/\ks.length*3+sp.length=cap*3:=by
 obtain⟨v,cs,ks,rfl,⟨ho,⟨_,h0,_⟩|⟨gb,cap,sp,rfl,rfl,z1,z2,z3⟩⟩,hd,rfl⟩:=h
 ·rw[A5] at h1;omega
 ·exact⟨gb,cap,sp,ks,rfl,hd,rfl,z1,z2,by rw[<-z3,Ah,ho]⟩
theorem IsCos.of(hd:Q8 ks)(h1:ks.length<=cap)(h2:cap<=maxLen)(h3:ks.length*3+sp.length=cap*3):IsCos b (ks.map Prod.fst) (fZ b gb cap sp ks):=
 ⟨_,_,ks,rfl,⟨XT ks,.inr ⟨gb,cap,sp,rfl,rfl,h1,h2,by rw[Ah,XT,h3]⟩⟩,hd,rfl⟩
section
variable{s:RL}
theorem lfC{x:Value}{K':List IQ}(hK:IsK F C k S p s)(hk:k'<=k)(h: ∀gb cap sp ks G,ks.map Prod.fst=S.K->Q8 ks->(∀c,c∈s.M->c∈G)->Fn prog f vs (fZ p.c gb cap sp ks++G) λv l'=>v=x/\ ∃yg X,yg.map Prod.fst=K'/\Q8 yg/\yg.length=ks.length/\l'=X++(fZ p.c gb cap sp yg++G)):Fn prog f vs (AA b p s S G) (KK F C b p k' x {S with K:=K'} G):=by obtain⟨gb,cap,sp,ks,e1,hd,hC,h1,h2,h3⟩:=hK.co.form (by have:=hK.kl;have:=hK.c1;omega);exact Fn.re (.of_perm (by unfold AA;rw[hC];exact BV)) (h gb cap sp ks (CH b p::As.asA p.n S.N::(s.M++(s.A++(s.H++(s.T++(s.Q++(s.E++(s.V++G)))))))) e1 hd (λc hc=>by simp[hc])) λv l' ⟨g1,yg,X,g2,g3,g4,g5⟩=>⟨AA b p {s with C:=fZ p.c gb cap sp yg} {S with K:=K'} (X++G),by rw[g5];unfold AA;exact A9 [],g1,{s with C:=fZ p.c gb cap sp yg},_,{hK.mono hk with co:=by rw[<-g2];exact .of g3 (by rw[g4];exact h1) h2 (by rw[g4];exact h3),kl:=by rw[<-hK.kl,<-g2,<-e1,A5,A5,g4]},⟨X,rfl⟩,rfl⟩
theorem ov:TX b (.slice (some ⟨gb,0,none⟩) ks.length cap)∈fZ b gb cap sp ks:= .head _
theorem Ac7:Vt gb ks sp∈fZ b gb cap sp ks:= .tail _ (.head _)
theorem ow(b gb n cap:Nat)(l:Ac)(m1:TX b (.slice (some ⟨gb,0,none⟩) n cap)∈l):Fn prog 100 [pV b] l λv l'=>v=iV (n:Nat)/\l'=l:=by refine AO func100 ntmps100 λE=>?_;refine Aj ?_;exact qr
instance[h:IsK F C k S p s]:QF prog 100 [pV p.c] (AA b p s S G) (iV (S.K.length:Nat)):=⟨λl hl=>by obtain⟨gb,cap,sp,ks,e1,hd,hC,h1,h2,h3⟩:=h.co.form (by have:=h.kl;have:=h.c1;omega);rw[<-e1,A5];exact ow p.c gb ks.length cap l (mC hl _ (by rw[hC];exact ov))⟩
abbrev jB(gb n:Nat)(i:Int):Value:= .pointer (if i<0\/i>=n then none else some ⟨gb,i.toNat*3,none⟩)
theorem Tg(b gb n cap:Nat)(i:Int)(l:Ac)(m1:TX b (.slice (some ⟨gb,0,none⟩) n cap)∈l):Fn prog 163 [pV b,ι i] l λv l'=>v= .tuple #[jB gb n i,iV (if i<0\/i>=n then 3 else 0)]/\l'=l:=by
 unfold jB;refine AO func163 ntmps163 λE=>?_;by_cases h1:i<0
 ·rw[Ad (.inl h1),Ad (.inl h1)];refine Aj ?_;exact qr
 by_cases h2:i>=n
 ·rw[Ad (.inr h2),Ad (.inr h2)];refine Aj ?_;exact qr
 rw[Ab Af,Ab Af];obtain⟨i,rfl⟩: ∃q:Nat,i=q:=⟨i.toNat,Af⟩
 refine Aj ?_;exact qr
theorem ox(h:ks[i]?=some c)(hj:j<3)(he:(QO c).set j v=QO c'):(τ (ks.flatMap QO++sp)).setIfInBounds (i*3+j) v=τ ((ks.set i c').flatMap QO++sp):=by rw[BB,ou (enc:=QO) (m:=3) (λ_=>rfl) hj sp h he]
theorem Qh(h:ks[i]?=some c)(hj:j<3):(τ (ks.flatMap QO++sp))[i*3+j]?=(QO c)[j]?:=oq (enc:=QO) (m:=3) (λ_=>rfl) hj sp h
theorem XU(h:Q8 ks)(h2: ∀s,s<4->c'.1.tb.d s=0\/c'.1.tb.d s=1):Q8 (ks.set i c'):=λc hc=>by
 rcases CS hc with h1|h1
 ·exact h c h1
 ·rw[h1];exact h2
theorem oy{r sp:Int}(h:ks[i]?=some c):GP (ks.set i ({c.1 with ro:=r,sp:=sp},c.2))=GP ks:=by
 unfold GP;rw[Ie];refine Dn λj=>?_;rw[Hp]
 split
 ·rename_i e;subst e;have hl:=(Aw.1 h).1;rw[Ad (by rw[A5];exact hl),A7,h];rfl
 ·rfl
theorem oz(hK:IsK F C k S p s)(n root sp:Int):Fn prog 111 [pV p.c,ι n,ι root,ι sp] (AA b p s S G) (KK F C b p k (iV (setC S.K n root sp).1) {S with K:=(setC S.K n root sp).2} G):=by
 refine lfC hK (Bf _) λgb cap In ks G e1 hd _=>?_;have hl:S.K.length=ks.length:=by rw[<-e1,A5]
 refine AO func111 ntmps111 λE=>?_;refine Aj ?_;refine tq (λl2 h2=>Tg p.c gb ks.length cap n l2 (h2 _ (Ai _ ov))) ?_;unfold jB;by_cases hb:n<0\/n>=ks.length
 ·rw[Ad hb,Ad hb,show setC S.K n root sp=(3,S.K) by unfold setC NI;rw[hl,Ad (by rw[Ad hb];decide)]];refine Aj ?_;exact Bc .refl ⟨rfl,ks,[],e1,hd,rfl,rfl⟩
 rw[Ab hb,Ab hb];have e0:¬¬NI S.K n=0:=by unfold NI;rw[hl,Ab hb];decide
 obtain⟨i,rfl⟩: ∃q:Nat,n=q:=⟨n.toNat,Af⟩
 by_cases hr:Ml root sp
 case neg=>
  rw[show setC S.K i root sp=(2,S.K) by unfold setC;rw[Ab e0,Ad hr]];unfold Ml at hr;by_cases h1:root= -1<;>by_cases h2:sp=0<;>by_cases h3:root<0<;>by_cases h4:root>=64<;>by_cases h5:sp<1;all_goals first
   |(exfalso;omega)
   |(refine Aj ?_
     try(rw[show(!decide (sp=0))=true by simp[h2]];refine Aj ?_)
     exact Bc .refl ⟨rfl,ks,[],e1,hd,rfl,rfl⟩)
 have hi:i<ks.length:=by omega
 have h0:ks[i]?=some ks[i]:=Ak hi;obtain⟨c,hc⟩:=ξ (ks[i])
 rw[hc] at h0;have qV:Rt S.K (i:Nat)=c.1:=by unfold Rt;rw[AV,<-e1,List.getD,A7,h0];rfl
 rw[show setC S.K i root sp=(0,S.K.set i {c.1 with ro:=root,sp:=sp}) by unfold setC;rw[Ab e0,Ab (Gw hr),qV,AV]];have s0:=ox (sp:=In) (v:=iV root) (c':=({c.1 with ro:=root},c.2)) h0 (j:=0) A0 rfl;have g1:(ks.set i ({c.1 with ro:=root},c.2))[i]?=some ({c.1 with ro:=root},c.2):=by rw[Ee hi]
 have s1:=ox (sp:=In) (v:=iV sp) (c':=({c.1 with ro:=root,sp:=sp},c.2)) g1 (j:=1) A0 rfl;rw[Jr] at s1;have hds:Q8 (ks.set i ({c.1 with ro:=root,sp:=sp},c.2)):=XU hd λs hs=>hd c (by rw[<-hc];exact Ib hi) s hs;have xZ:(ks.set i ({c.1 with ro:=root,sp:=sp},c.2)).map Prod.fst=S.K.set i {c.1 with ro:=root,sp:=sp}:=by rw[Ie,e1]
 have OR:=oy (r:=root) (sp:=sp) h0;unfold Ml at hr;by_cases h1:root= -1<;>by_cases h2:sp=0<;>by_cases h3:root<0<;>by_cases h4:root>=64<;>by_cases h5:sp<1;all_goals first
  |(exfalso;omega)
  |(refine Aj ?_
    try(rw[show(!decide (sp=0))=false by simp[h2]];refine Aj ?_)
    try(rw[show(!decide (sp=0))=true by simp[h2]];refine Aj ?_)
    refine Nk (Dy (cs:=τ (ks.flatMap QO++In)) (l':=TX p.c (.slice (some ⟨gb,0,none⟩) ks.length cap)::Vt gb (ks.set i ({c.1 with ro:=root},c.2)) In::(GP ks++G)) (b:=gb) (off:=i*3) rfl rfl rfl (by rw[show i*3=i*3+0 from rfl,s0];exact .there .here) (by rw[Bz,Ah,XT];(try rw[CE]);omega)) rfl rfl ?_;rintro _ _ ⟨rfl,rfl⟩;refine Aj ?_;refine Nk (Dy (cs:=τ ((ks.set i ({c.1 with ro:=root},c.2)).flatMap QO++In)) (l':=TX p.c (.slice (some ⟨gb,0,none⟩) ks.length cap)::Vt gb (ks.set i ({c.1 with ro:=root,sp:=sp},c.2)) In::(GP ks++G)) (b:=gb) (off:=i*3+1) rfl rfl rfl (by rw[s1];exact .there .here) (by rw[Bz,Ah,XT];(try rw[CE]);omega)) rfl rfl ?_;rintro _ _ ⟨rfl,rfl⟩;refine Aj ?_;exact BF [] rfl .refl Ba ⟨rfl,_,[],xZ,hds,by simp,by unfold fZ;rw[OR,CE];rfl⟩)
instance{n root sp:Int}:EK prog F C b p 111 [pV p.c,ι n,ι root,ι sp] k S k (iV (setC S.K n root sp).1) {S with K:=(setC S.K n root sp).2}:=⟨λs G h=>oz h n root sp⟩
instance[h:IsK F C k S p s]{n:Int}:QF prog 256 [pV p.c,ι n] (AA b p s S G) (.tuple #[iV (PV S.K n).1,iV (PV S.K n).2.1,iV (PV S.K n).2.2]):=⟨λl hm=>by
 obtain⟨gb,cap,sp,ks,e1,hd,hC,h1,h2,h3⟩:=h.co.form (by have:=h.kl;have:=h.c1;omega);have hl:S.K.length=ks.length:=by rw[<-e1,A5]
 have m1:=mC hm _ (by rw[hC];exact ov);have m2:=mC hm _ (by rw[hC];exact Ac7);refine AO func256 ntmps256 λE=>?_;refine Aj ?_;refine tq (λl2 h2=>Tg p.c gb ks.length cap n l2 (h2 _ m1)) ?_;unfold jB;by_cases hb:n<0\/n>=ks.length
 ·rw[Ad hb,Ad hb,show PV S.K n=(0,0,3) by unfold PV NI;rw[hl,Ad (by rw[Ad hb];decide)]];refine Aj ?_;exact qr
 rw[Ab hb,Ab hb];obtain⟨i,rfl⟩: ∃q:Nat,n=q:=⟨n.toNat,Af⟩
 rw[AV];have hi:i<ks.length:=by omega
 obtain⟨c,h0⟩: ∃c,ks[i]?=some c:=⟨_,Ak hi⟩
 have qV:Rt S.K (i:Nat)=c.1:=by unfold Rt;rw[AV,<-e1,List.getD,A7,h0];rfl
 rw[show PV S.K i=(c.1.ro,c.1.sp,0) by unfold PV NI;rw[hl,Ab (by rw[Ab hb];decide),qV]];have c0:(τ (ks.flatMap QO++sp))[i*3]?=some (iV c.1.ro):=Qh h0 (j:=0) A0;have c1:(τ (ks.flatMap QO++sp))[i*3+1]?=some (iV c.1.sp):=Qh h0 (j:=1) A0;refine Aj ?_;refine IP ?_;refine BJ ?_;refine Aj ?_;exact qr⟩
end
theorem ga(h:ks[i]?=some c): ∃A B,GP ks=A++Oh c.2 c.1.tb::B/\ ∀T',GP (ks.set i ({c.1 with tb:=T'},c.2))=A++Oh c.2 T'::B:=by
 have hl:=(Aw.1 h).1;refine⟨(GP ks).take i,(GP ks).drop (i+1),?_,λT'=>?_⟩
 ·have hm:(GP ks)[i]?=some (Oh c.2 c.1.tb):=by unfold GP;rw[A7,h];rfl
  conv=>lhs;rw[<-Cs i (GP ks)]
  rw[CR (by simpa[GP] using hl)];rw[Aw] at hm;obtain⟨_,hm⟩:=hm;rw[hm]
 ·unfold GP;rw[Ie,Jf,Ad (by simpa using hl)]
theorem fnC{x:Value}{T':LQ}{l Z:Ac}(h0:ks[i]?=some c)(h: ∀F,Fn prog f vs (Oh c.2 c.1.tb::F) λv l'=>v=x/\l'=Oh c.2 T'::F)(hF:Fr1 (GP ks++Z) l Γ:=by exact fL):Fn prog f vs l λv l'=>v=x/\l'=Γ (GP (ks.set i ({c.1 with tb:=T'},c.2))++Z):=by
 obtain⟨A,B,e1,e2⟩:=ga h0;obtain⟨A1,rfl,hA⟩:=hF.eq;rw[e1];refine Fn.re (.of_perm (by exact BV:(A1++(A++Oh c.2 c.1.tb::B++Z)).Perm (Oh c.2 c.1.tb::(A1++(A++(B++Z)))))) (h (A1++(A++(B++Z)))) λv l' ⟨h1,h2⟩=>⟨_,?_,h1,rfl⟩
 rw[h2,hA,e2];exact A9 []
theorem wN(ks:List (IQ×Nat))(h:ks[i]?=some c)(T':LQ):(ks.set i ({c.1 with tb:=T'},c.2)).flatMap QO=ks.flatMap QO:=by
 induction ks generalizing i with
 |nil=>cases h
 |cons a ks ih=>
  cases i with
  |zero=>cases h;rfl
  |succ i=>rw[IS,CB,CB,ih (by simpa using h)]
theorem oC(h: ∀s,s<4->T.d s=0\/T.d s=1)(x:M9): ∀s,s<4->(KW T x).2.d s=0\/(KW T x).2.d s=1:=by
 intro s hs;unfold KW
 split
 ·exact h s hs
 split
 ·exact h s hs
 ·rename_i hb _ _;unfold VK at hb;have h4:(x.pg%4).toNat<4:=by omega
  simp only[Qu.upd]
  split
  ·have:=h _ h4;omega
  ·exact h s hs
section
variable{s:RL}
theorem dd(hK:IsK F C k S p s)(n pg:Int):Fn prog 162 [pV p.c,ι n,pV p.m,ι pg] (AA b p s S G) (KK F C b p k (.tuple #[y7 (DW S.K S.W n pg).1.1,.bool (DW S.K S.W n pg).1.2.1,iV (DW S.K S.W n pg).1.2.2]) {S with K:=(DW S.K S.W n pg).2} G):=by
 obtain⟨mb,f1,f2,hW,hu,hM⟩:=hK.mem;refine lfC hK (Bf _) λgb cap In ks G e1 hd hG=>?_;have m1:PR p.m mb F∈G:=hG _ (by rw[hM];simp);have m2:Uz mb S.W∈G:=hG _ (by rw[hM];simp);have hl:S.K.length=ks.length:=by rw[<-e1,A5]
 show Fn _ _ _ (TX p.c (.slice (some ⟨gb,0,none⟩) ks.length cap)::Vt gb ks In::(GP ks++G)) _;refine AO func162 ntmps162 λE=>?_;refine AR λb8=>?_;refine tq (λl2 h2=>Tg p.c gb ks.length cap n l2 (h2 _ ν)) ?_;unfold jB;have ret: ∀(A:Ac),A++TX p.c (.slice (some ⟨gb,0,none⟩) ks.length cap)::Vt gb ks In::(GP ks++G)=A++(fZ p.c gb cap In ks++G):=λ_=>rfl;by_cases hb:n<0\/n>=ks.length
 ·rw[Ad hb,Ad hb,show DW S.K S.W n pg=((Rq,false,3),S.K) by unfold DW NI;rw[hl,Ad (by rw[Ad hb];decide)]];refine Aj ?_;exact Bc .refl ⟨rfl,ks,[Lu b8 Rq],e1,hd,rfl,rfl⟩
 rw[Ab hb,Ab hb];have e0:¬¬NI S.K n=0:=by unfold NI;rw[hl,Ab hb];decide
 obtain⟨i,rfl⟩: ∃q:Nat,n=q:=⟨n.toNat,Af⟩
 have hi:i<ks.length:=by omega
 obtain⟨c,h0⟩: ∃c,ks[i]?=some c:=⟨_,Ak hi⟩
 have Vn:c∈ks:=Bg h0;have qV:Rt S.K (i:Nat)=c.1:=by unfold Rt;rw[AV,<-e1,List.getD,A7,h0];rfl
 rw[AV];have c0:(τ (ks.flatMap QO++In))[i*3]?=some (iV c.1.ro):=Qh h0 (j:=0) A0;have c1:(τ (ks.flatMap QO++In))[i*3+1]?=some (iV c.1.sp):=Qh h0 (j:=1) A0;have c2:(τ (ks.flatMap QO++In))[i*3+2]?=some (pV c.2):=Qh h0 (j:=2) A0;obtain⟨A,B,eA,eB⟩:=ga h0;have mt:Oh c.2 c.1.tb∈GP ks++G:=by rw[eA];simp
 by_cases hp:pg<0\/pg>=512
 ·rw[show DW S.K S.W i pg=((Rq,false,3),S.K) by unfold DW;rw[Ab e0,Ad hp]];by_cases h1:pg<0<;>by_cases h2:pg>=512;all_goals first
   |(exfalso;omega)
   |(refine Aj ?_
     exact Bc .refl ⟨rfl,ks,[Lu b8 Rq],e1,hd,rfl,rfl⟩)
 by_cases hr:c.1.ro<0
 ·rw[show DW S.K S.W i pg=((Rq,false,19),S.K) by unfold DW;rw[Ab e0,Ab hp,qV,Ad hr]];refine Aj ?_;exact Bc .refl ⟨rfl,ks,[Lu b8 Rq],e1,hd,rfl,rfl⟩
 refine Aj ?_;refine CC (Cy [13,14] 0 16) ?_;refine CG ?_;refine ff ?_ (AI rfl rfl λl2 h2=>jy c.2 c.1.tb c.1.sp pg l2 (h2 _ (.tail _ (.tail _ (.tail _ mt)))));refine CG ?_;refine Is e_alloc (by rintro _ _ ⟨_,_,_,rfl⟩ c hc;exact .tail _ hc) ?_;rintro _ _ ⟨Qs,_,rfl,rfl⟩;refine CG ?_;obtain⟨x,hx⟩:=ξ ((UD c.1.tb c.1.sp pg).1)
 rw[hx];refine CG ?_;cases hf:(UD c.1.tb c.1.sp pg).2 with
 |true=>rw[show DW S.K S.W i pg=((x,true,0),S.K) by unfold DW;rw[Ab e0,Ab hp,qV,Ab hr,Ad hf,hx]];refine Aj ?_;exact Bc .refl ⟨rfl,ks,[Lu Qs x,Lu b8 x],e1,hd,rfl,rfl⟩
 |false=>
 refine Aj ?_;refine tq (λl2 h2=>jx p.m mb F S.W f2 hW hu c.1.ro pg l2 (h2 _ (.tail _ (.tail _ (.tail _ (.tail _ (Aa _ m1)))))) (h2 _ (.tail _ (.tail _ (.tail _ (.tail _ (Aa _ m2))))))) ?_;obtain⟨e,he⟩:=ξ ((O0 S.W c.1.ro pg).1)
 rw[he];refine Aj ?_;refine AP e_alloc ?_;rintro _ _ ⟨YD,_,rfl,rfl⟩;by_cases hw:(O0 S.W c.1.ro pg).2=0
 case neg=>rw[show DW S.K S.W i pg=((Rq,false,(O0 S.W c.1.ro pg).2),S.K) by unfold DW;rw[Ab e0,Ab hp,qV,Ab hr,Ab (by rw[hf];decide),Ad hw]];refine Aj ?_;exact Bc .refl ⟨rfl,ks,[(YD,Obj.cells (τ (UB e)) 389 (0,0)),Lu Qs x,Lu b8 Rq],e1,hd,rfl,rfl⟩
 obtain⟨y,Tw⟩: ∃y:M9,y=⟨c.1.sp,pg,e.fr,e.rd,e.wr⟩:=⟨_,rfl⟩
 have hy:trW S.W c.1 pg=y:=by rw[Tw];unfold trW;rw[he]
 rw[show DW S.K S.W i pg=((y,false,0),S.K.set i {c.1 with tb:=(KW c.1.tb y).2}) by unfold DW;rw[Ab e0,Ab hp,qV,Ab hr,Ab (by rw[hf];decide),Ab (Gw hw),hy,AV]];clear hy;subst Tw;refine Aj ?_;refine CC (Cy [12,13] 0 14) ?_;refine CG ?_;refine Is e_alloc (by rintro _ _ ⟨_,_,_,rfl⟩ c hc;exact .tail _ hc) ?_;rintro _ _ ⟨Qt,_,rfl,rfl⟩;refine CG ?_;refine Aj ?_;refine CC (Cy [5] 0 6) ?_;refine CG ?_;refine LP (Az rfl rfl (fnC h0 λF=>jA c.2 c.1.tb (hd c Vn) ⟨c.1.sp,pg,e.fr,e.rd,e.wr⟩ F)) ?_;rintro _ _ ⟨rfl,rfl⟩;refine CG ?_;refine Aj ?_;obtain⟨y,Tw⟩: ∃y:M9,y=⟨c.1.sp,pg,e.fr,e.rd,e.wr⟩:=⟨_,rfl⟩
 rw[<-Tw];refine BF [] rfl .refl Ba ⟨by rw[Tw];rfl,ks.set i ({c.1 with tb:=(KW c.1.tb y).2},c.2),[Lu Qt y,(YD,Obj.cells (τ (UB e)) 389 (0,0)),Lu Qs x,Lu b8 y],by rw[Ie,e1],XU hd (oC (hd c Vn) y),by simp,?_⟩;unfold fZ Vt;rw[wN ks h0,CE];subst Tw;rfl
instance{n pg:Int}:EK prog F C b p 162 [pV p.c,ι n,pV p.m,ι pg] k S k (.tuple #[y7 (DW S.K S.W n pg).1.1,.bool (DW S.K S.W n pg).1.2.1,iV (DW S.K S.W n pg).1.2.2]) {S with K:=(DW S.K S.W n pg).2}:=⟨λs G h=>dd h n pg⟩
theorem oD(hK:IsK F C k S p s)(n pg:Int): ∃x,Fn prog 108 [pV p.c,ι n,pV p.m,ι pg] (AA b p s S G) (KK F C b p k x {S with K:=(DW S.K S.W n pg).2} G):=by
 refine⟨.bool (decide ((DW S.K S.W n pg).1.2.2=0)&&!(DW S.K S.W n pg).1.2.1),?_⟩;refine AO func108 ntmps108 λE=>?_;refine Aj ?_;refine Gt ?_;intro S1 s1 L1 hS ED DO G6;refine AR λb9=>?_;obtain⟨x,hx⟩:=ξ ((DW S.K S.W n pg).1.2.1)
 obtain⟨e,he⟩:=ξ ((DW S.K S.W n pg).1.2.2)
 rw[hx,he];by_cases h0:e=0;all_goals
  refine Aj ?_;exact Bd
theorem tP(hK:IsK F C k S p s)(n st wy:Int):Fn prog 109 [pV p.c,ι n,ι st,ι wy] (AA b p s S G) (KK F C b p k (.bool (nY S.K n st wy).1) {S with K:=(nY S.K n st wy).2} G):=by
 refine lfC hK (Bf _) λgb cap In ks G e1 hd hG=>?_;have hl:S.K.length=ks.length:=by rw[<-e1,A5]
 show Fn _ _ _ (TX p.c (.slice (some ⟨gb,0,none⟩) ks.length cap)::Vt gb ks In::(GP ks++G)) _;refine AO func109 ntmps109 λE=>?_;refine Aj ?_;refine tq (λl2 h2=>Tg p.c gb ks.length cap n l2 (h2 _ (.head _))) ?_;unfold jB;by_cases hb:n<0\/n>=ks.length
 ·rw[Ad hb,Ad hb,show nY S.K n st wy=(false,S.K) by unfold nY NI;rw[hl,Ad (by rw[Ad hb];decide)]];refine Aj ?_;exact Bc .refl ⟨rfl,ks,[],e1,hd,rfl,rfl⟩
 rw[Ab hb,Ab hb];have e0:¬¬NI S.K n=0:=by unfold NI;rw[hl,Ab hb];decide
 obtain⟨i,rfl⟩: ∃q:Nat,n=q:=⟨n.toNat,Af⟩
 have hi:i<ks.length:=by omega
 obtain⟨c,h0⟩: ∃c,ks[i]?=some c:=⟨_,Ak hi⟩
 have Vn:c∈ks:=Bg h0;have qV:Rt S.K (i:Nat)=c.1:=by unfold Rt;rw[AV,<-e1,List.getD,A7,h0];rfl
 rw[AV];have c2:(τ (ks.flatMap QO++In))[i*3+2]?=some (pV c.2):=Qh h0 (j:=2) A0;rw[show nY S.K i st wy=((NH c.1.tb st wy).1,S.K.set i {c.1 with tb:=(NH c.1.tb st wy).2}) by unfold nY;rw[Ab e0,qV,AV]];refine Aj ?_;refine IE (Az rfl rfl (fnC h0 (λF=>cZ c.2 c.1.tb st wy F))) rfl rfl rfl ?_;rintro _ _ ⟨rfl,rfl⟩;refine Aj ?_;refine BF [] rfl .refl Ba ⟨rfl,ks.set i ({c.1 with tb:=(NH c.1.tb st wy).2},c.2),[],by rw[Ie,e1],XU hd (λs hs=>by unfold NH;split<;>exact hd c Vn s hs),by simp,?_⟩;unfold fZ Vt;rw[wN ks h0,CE];rfl
instance{n st wy:Int}:EK prog F C b p 109 [pV p.c,ι n,ι st,ι wy] k S k (.bool (nY S.K n st wy).1) {S with K:=(nY S.K n st wy).2}:=⟨λs G h=>tP h n st wy⟩
end
section
variable{fr:Fr}{l:Ac}{tbl:List (List Nat)}{g:Bool}{sp:F5}{pl:List BI}{d:Nat}{o:Oper}{K:Value->Ac->Prop}
theorem mzS{S:Ac}(hS: ∀c,c∈S->c∈l)(h:OpQ P ro N fr S o v)(hk:MP P ro N E ops Q tbl false ((i,S)::sp) pl ((d,v)::fr) ds l)(hw:o.guard=none:=by rfl)(hd:o.dst=some d:=by rfl)(hb:Nat.blt d N=true:=by rfl):MP P ro N E ops Q tbl g sp ((i,true,o)::pl) fr ds l:=
 ⟨λ_=>Gy h hS hw hd hb (hk.h λh=>by cases h)⟩
theorem tQ{α:Type}{L:List α}{x z:α}(h:x∈L)(hz:L.getLast?=some z):x∈L.dropLast\/x=z:=by
 have GS:L≠[]:=List.ne_nil_of_mem h;rw[<-Hf GS] at h;rcases AB.1 h with h|h
 ·exact .inl h
 ·right;rw[Ay.1 h];rw[List.getLast?_eq_some_getLast GS] at hz;cases hz;rfl
theorem wO{S:Ac}(h:OpE P ro N fr l o K)(hS: ∀v l',K v l'-> ∀c,c∈S->c∈l')(hk: ∀v l',K v l'->MP P ro N E ops Q tbl false sp pl ((d,v)::fr) ds l')(hl:sp.getLast?=some (j,S):=by rfl)(hw:o.guard=none:=by rfl)(hd:o.dst=some d:=by rfl)(hb:Nat.blt d N=true:=by rfl)(ha:(sp.dropLast.map Prod.fst).all (λq=>FP tbl i q)=true:=by kernel_rfl):MP P ro N E ops Q tbl g sp ((i,false,o)::pl) fr ds l:=
 ⟨λ_=>Hi h hw hd hb (λ_ _ _ _ h=>nomatch h) (λv l' k x hx hn=>by
   rcases tQ hx hl with hx|rfl
   ·rw[AS.1 ha x.1 (Ax.2 ⟨x,hx,rfl⟩)] at hn;cases hn
   ·exact hS v l' k) λv l' k=>(hk v l' k).h λh=>by cases h⟩
end
abbrev ra(B b:Nat):Bh:=(B,.cells (τ [pV b]) 154 (0,0))
theorem UL(b:Nat)(l:Ac):Fn prog 340 [pV b] l λv l'=> ∃B,v= .func (.func 374) #[] #[pV B]/\l'=ra B b::l:=by refine AO func340 ntmps340 λE=>?_;refine AR λb1=>?_;exact Bc .refl ⟨_,rfl,rfl⟩
theorem gc{n:Nat}(h:j<n):(List.range n).take (j+1)=(List.range n).take j++[j]:=by rw[BP,Fu h];rfl
theorem Sg(B b gb cap:Nat)(sp:Ap)(ks:List (IQ×Nat))(hn:ks.length<=3):FN prog 374 [pV B] (λk:Nat=>[pV ((ks.getD k (qZ,0)).2)]) (λxs=>xs=List.range ks.length) (λpre=>pre<+:List.range ks.length)
 (λ_ l=>ra B b∈l/\TX b (.slice (some ⟨gb,0,none⟩) ks.length cap)∈l/\Vt gb ks sp∈l):=by
 refine⟨λr I Ix G0 Cf hY l G hG h0=>?_⟩;obtain⟨n1,n2,n3⟩:=Cf _ _ G hG h0;refine AO func374 ntmps374 λE=>?_;refine Aj ?_;refine CF (α:=Nat×Ac) (λx=>[(0,.func (.yield r) #[] #[]),(1,pV B),(10,ι (ks.length:Nat)),(11,ι (x.1:Nat))]) (λx=>x.2++G) (λx=>x.1<=ks.length/\I ((List.range ks.length).take x.1) x.2) (λx=>ks.length-x.1) (0,l) ⟨Bm _,h0⟩ ⟨rfl,rfl,rfl,rfl,trivial⟩ .refl ?_;clear n1 n2 n3;rintro⟨i,l⟩ ⟨hi,hI⟩;simp only at hi hI⊢;obtain⟨n1,n2,n3⟩:=Cf _ _ G hG hI;by_cases C7:i<ks.length
 case neg=>
  obtain rfl:i=ks.length:=by omega
  rw[BD (by simp)] at hI;refine Aj ?_;exact Bc .refl ⟨l,rfl,.inl ⟨_,rfl,hI⟩⟩
 obtain⟨c,h0⟩: ∃c,ks[i]?=some c:=⟨_,Ak C7⟩
 have c2:(τ (ks.flatMap QO++sp))[i*3+2]?=some (pV c.2):=Qh h0 (j:=2) A0;have hy:=hY ((List.range ks.length).take i) i l G hG hI (by rw[<-gc C7];exact BL _ _);rw[show ks.getD i (qZ,0)=c by rw[List.getD,h0];rfl] at hy;refine Aj ?_;refine IE (C8 rfl rfl hy) rfl rfl rfl ?_;rw[<-gc C7];rintro v _ ⟨l1,rfl,⟨rfl,Kz⟩|⟨rfl,hx⟩⟩
 ·refine Aj ?_;exact BZ (i+1,l1) ⟨by simp only;omega,Kz⟩ (by simp only;omega) ⟨rfl,rfl,rfl,rfl,trivial⟩ .refl
 ·refine Aj ?_;exact Bc .refl ⟨l1,rfl,.inr ⟨_,BL _ _,hx⟩⟩
def UM(ks:List (IQ×Nat))(f:M9->Bool)(j:Nat):List (IQ×Nat):=(ks.take j).map (λc=>({c.1 with tb:=PU c.1.tb f},c.2))++ks.drop j
def Yu(ks:List (IQ×Nat))(f:M9->Bool)(j:Nat):Nat:=((ks.take j).map λc=>NX c.1.tb f).sum
theorem de{f:M9->Bool}(h:ks[j]?=some c):(UM ks f j)[j]?=some c/\UM ks f (j+1)=(UM ks f j).set j ({c.1 with tb:=PU c.1.tb f},c.2)/\Yu ks f (j+1)=Yu ks f j+NX c.1.tb f:=by
 have hl:=(Aw.1 h).1;have e1:ks.drop j=c::ks.drop (j+1):=by rw[CR hl];congr 1;exact(Aw.1 h).2
 have e2:ks.take (j+1)=ks.take j++[c]:=by rw[BP,h];rfl
 have ln:((ks.take j).map λc:IQ×Nat=>(({c.1 with tb:=PU c.1.tb f}:IQ),c.2)).length=j:=by simp;omega
 refine⟨?_,?_,?_⟩
 ·unfold UM;rw[AW (by rw[ln];omega),ln,Dx,e1];rfl
 ·unfold UM;rw[e2,e1,Cq _ _ (by rw[ln];omega),ln,Dx,At,Am];rfl
 ·unfold Yu;rw[e2,At,List.sum_append];simp
theorem Ti(ks:List (IQ×Nat))(f:M9->Bool)(j:Nat):(UM ks f j).length=ks.length:=by unfold UM;simp;omega
theorem XV(ks:List (IQ×Nat))(f:M9->Bool)(j:Nat):Yu ks f j<=8*j:=by
 have h8: ∀T,NX T f<=8:=λT=>by unfold NX;exact B9 (Db _ _) (by simp)
 induction j with
 |zero=>simp[Yu]
 |succ j ih=>
  cases h:ks[j]? with
  |some c=>rw[(de (f:=f) h).2.2];have:=h8 c.1.tb;omega
  |none=>
   have:ks.take (j+1)=ks.take j:=by rw[BP,h];simp
   unfold Yu at ih⊢;rw[this];omega
theorem gd(ks:List (IQ×Nat))(f:M9->Bool):(UM ks f ks.length).map Prod.fst=IZ (ks.map Prod.fst) f/\Yu ks f ks.length=RV (ks.map Prod.fst) f/\(UM ks f ks.length).flatMap QO=ks.flatMap QO/\(Q8 ks->Q8 (UM ks f ks.length)):=by unfold UM Yu IZ RV;rw[BD (Bf _),DL (Bf _),Bj,CO,CO,CO];refine⟨rfl,rfl,by rw[List.flatMap_map],λh c hc=>?_⟩;obtain⟨y,hy,rfl⟩:=Ax.1 hc;exact λs hs=>h y hy s hs
section
variable{s:RL}
theorem df(hK:IsK F C k S p s)(sp pg:Int):Fn prog 300 [pV p.c,ι sp,ι pg] (AA b p s S G) (KK F C b p k (iV (RV S.K (KJ sp pg):Nat)) {S with K:=IZ S.K (KJ sp pg)} G):=by
 have hC3:=hK.c1;have aB:=hK.kl;refine lfC hK (Bf _) λgb cap In ks G e1 hd hG=>?_;have hl:S.K.length=ks.length:=by rw[<-e1,A5]
 show Fn _ _ _ (TX p.c (.slice (some ⟨gb,0,none⟩) ks.length cap)::Vt gb ks In::(GP ks++G)) _;obtain⟨q1,q2,q3,q4⟩:=gd ks (KJ sp pg);rw[<-e1,<-q2];refine AO func300 ntmps300 λE=>?_;refine AR λb4=>?_;refine AR λb5=>?_;refine AR λb7=>?_;refine AP (Az rfl rfl (UL p.c _)) ?_;rintro _ _ ⟨B,rfl,rfl⟩;refine Aj ?_;refine Dj (α:=Nat) (ps:=[11]) (lb:=[pV B]) rfl (Sg B p.c gb cap In ks Af) (λ_=>rfl) rfl
  (λpre l=>l=ra B p.c::BX b7 (Yu ks (KJ sp pg) pre.length:Nat)::BX b5 pg::BX b4 sp::TX p.c (.slice (some ⟨gb,0,none⟩) ks.length cap)::Vt gb ks In::GP (UM ks (KJ sp pg) pre.length))
  (λc pre l=>False)
  (ra B p.c::BX b7 0::BX b5 pg::BX b4 sp::TX p.c (.slice (some ⟨gb,0,none⟩) ks.length cap)::Vt gb ks In::GP ks) G (λpre l2 X2 hX h=>by subst h;exact⟨Ai _ (.head _),Ai _ (.tail _ η),Ai _ (.tail _ (.tail _ η))⟩) .refl (by simp[Yu,UM]) ?_ ?_ ?_
 ·rintro E r0 Gb pre x l' X ⟨fn,tmps,D,rfl⟩ hX rfl DG;obtain⟨j,hj⟩:=ξ pre.length
  obtain⟨hx,hxF⟩:x=j/\j<ks.length:=by have h3:=JN DG (i:=j) (by simp;omega);rw[Im Af] at h3;have h4:=DG.length_le;simp[hj] at h3 h4;omega
  subst hx;obtain⟨c,h0⟩: ∃c,ks[x]?=some c:=⟨_,Ak hxF⟩
  obtain⟨d1,d2,d3⟩:=de (f:=KJ sp pg) h0;have LJ:=XV ks (KJ sp pg) x;have yi:=XV ks (KJ sp pg) (x+1);rw[d3] at yi;rw[hj,show ks.getD x (qZ,0)=c by rw[List.getD,h0];rfl];simp only[DY,Ae,Ag];refine Eh (l':=(r0,.loop (DV fn tmps [11].toArray _ _ D .ready none))::ra B p.c::BX b7 (Yu ks (KJ sp pg) x:Nat)::BX b5 pg::BX b4 sp::TX p.c (.slice (some ⟨gb,0,none⟩) ks.length cap)::Vt gb ks In::(GP (UM ks (KJ sp pg) x)++X)) (.of_perm (AJ (l₁:=_::_::_::_::_::_::GP (UM ks (KJ sp pg) x)))) ?_;refine Aj ?_;refine CP .here ?_;refine Aj ?_;refine CC (Cy [4,6] 0 7) ?_;refine mzS (S:=[BX b7 (Yu ks (KJ sp pg) x:Nat)]) (by simp) (DQ rfl (.head _) rfl) ?_;refine CG ?_;refine wO (Az rfl rfl (fnC d1 (λF=>db c.2 c.1.tb sp pg F))) (by rintro _ _ ⟨_,rfl⟩ c hc;rw[Ay.1 hc];exact .tail _ ν) ?_;rintro _ _ ⟨rfl,rfl⟩;refine CG ?_;refine Aj ?_;refine Cn (ra B p.c::BX b7 ((Yu ks (KJ sp pg) x:Nat)+(NX c.1.tb (KJ sp pg):Nat))::BX b5 pg::BX b4 sp::TX p.c (.slice (some ⟨gb,0,none⟩) ks.length cap)::Vt gb ks In::GP (UM ks (KJ sp pg) (x+1))) (.of_perm ?_) (by rw[Ah,hj,Bk,d3];rfl);rw[d2];exact(AJ (l₁:=_::_::_::_::_::_::GP _)).symm
 ·rintro D xs l' rfl rfl;rw[Fq];simp only[Ae];refine Aj ?_;refine AU [D] _ rfl (.refl) Ba φ ⟨rfl,UM ks (KJ sp pg) ks.length,[],by rw[q1],q4 hd,Ti ..,?_⟩;unfold fZ Vt;rw[q3,Ti];rfl
 ·rintro D c pre l' DG h;exact h.elim
theorem dg(hK:IsK F C k S p s)(sp:Int):Fn prog 335 [pV p.c,ι sp] (AA b p s S G) (KK F C b p k (iV (RV S.K (Rs sp):Nat)) {S with K:=IZ S.K (Rs sp)} G):=by
 have hC3:=hK.c1;have aB:=hK.kl;refine lfC hK (Bf _) λgb cap In ks G e1 hd hG=>?_;have hl:S.K.length=ks.length:=by rw[<-e1,A5]
 show Fn _ _ _ (TX p.c (.slice (some ⟨gb,0,none⟩) ks.length cap)::Vt gb ks In::(GP ks++G)) _;obtain⟨q1,q2,q3,q4⟩:=gd ks (Rs sp);rw[<-e1,<-q2];refine AO func335 ntmps335 λE=>?_;refine AR λb4=>?_;refine AR λb7=>?_;refine AP (Az rfl rfl (UL p.c _)) ?_;rintro _ _ ⟨B,rfl,rfl⟩;refine Aj ?_;refine Dj (α:=Nat) (ps:=[9]) (lb:=[pV B]) rfl (Sg B p.c gb cap In ks Af) (λ_=>rfl) rfl
  (λpre l=>l=ra B p.c::BX b7 (Yu ks (Rs sp) pre.length:Nat)::BX b4 sp::TX p.c (.slice (some ⟨gb,0,none⟩) ks.length cap)::Vt gb ks In::GP (UM ks (Rs sp) pre.length))
  (λc pre l=>False)
  (ra B p.c::BX b7 0::BX b4 sp::TX p.c (.slice (some ⟨gb,0,none⟩) ks.length cap)::Vt gb ks In::GP ks) G (λpre l2 X2 hX h=>by subst h;exact⟨Ai _ (.head _),Ai _ η,Ai _ (.tail _ η)⟩) .refl (by simp[Yu,UM]) ?_ ?_ ?_
 ·rintro E r0 Gb pre x l' X ⟨fn,tmps,D,rfl⟩ hX rfl DG;obtain⟨j,hj⟩:=ξ pre.length
  obtain⟨hx,hxF⟩:x=j/\j<ks.length:=by have h3:=JN DG (i:=j) (by simp;omega);rw[Im Af] at h3;have h4:=DG.length_le;simp[hj] at h3 h4;omega
  subst hx;obtain⟨c,h0⟩: ∃c,ks[x]?=some c:=⟨_,Ak hxF⟩
  obtain⟨d1,d2,d3⟩:=de (f:=Rs sp) h0;have LJ:=XV ks (Rs sp) x;have yi:=XV ks (Rs sp) (x+1);rw[d3] at yi;rw[hj,show ks.getD x (qZ,0)=c by rw[List.getD,h0];rfl];simp only[DY,Ae,Ag];refine Eh (l':=(r0,.loop (DV fn tmps [9].toArray _ _ D .ready none))::ra B p.c::BX b7 (Yu ks (Rs sp) x:Nat)::BX b4 sp::TX p.c (.slice (some ⟨gb,0,none⟩) ks.length cap)::Vt gb ks In::(GP (UM ks (Rs sp) x)++X)) (.of_perm (AJ (l₁:=_::_::_::_::_::GP (UM ks (Rs sp) x)))) ?_;refine Aj ?_;refine CP .here ?_;refine Aj ?_;refine CC (Cy [3,5] 0 6) ?_;refine mzS (S:=[BX b7 (Yu ks (Rs sp) x:Nat)]) (by simp) (DQ rfl (.head _) rfl) ?_;refine CG ?_;refine wO (Az rfl rfl (fnC d1 (λF=>dc c.2 c.1.tb sp F))) (by rintro _ _ ⟨_,rfl⟩ c hc;rw[Ay.1 hc];exact .tail _ ν) ?_;rintro _ _ ⟨rfl,rfl⟩;refine CG ?_;refine Aj ?_;refine Cn (ra B p.c::BX b7 ((Yu ks (Rs sp) x:Nat)+(NX c.1.tb (Rs sp):Nat))::BX b4 sp::TX p.c (.slice (some ⟨gb,0,none⟩) ks.length cap)::Vt gb ks In::GP (UM ks (Rs sp) (x+1))) (.of_perm ?_) (by rw[Ah,hj,Bk,d3];rfl);rw[d2];exact(AJ (l₁:=_::_::_::_::_::GP _)).symm
 ·rintro D xs l' rfl rfl;rw[Fq];simp only[Ae];refine Aj ?_;refine AU [D] _ rfl (.refl) Ba σ ⟨rfl,UM ks (Rs sp) ks.length,[],by rw[q1],q4 hd,Ti ..,?_⟩;unfold fZ Vt;rw[q3,Ti];rfl
 ·rintro D c pre l' DG h;exact h.elim
instance{sp pg:Int}:EK prog F C b p 300 [pV p.c,ι sp,ι pg] k S k (iV (RV S.K (KJ sp pg):Nat)) {S with K:=IZ S.K (KJ sp pg)}:=⟨λs G h=>df h sp pg⟩
instance{sp:Int}:EK prog F C b p 335 [pV p.c,ι sp] k S k (iV (RV S.K (Rs sp):Nat)) {S with K:=IZ S.K (Rs sp)}:=⟨λs G h=>dg h sp⟩
end
def O1(S:KT)(id st:Int):Int×KT:=
 if(Th.findH S.T id).isSome=false\/st<0\/4<st then(2,S)
 else(0,if st=1 then{S with T:=(Th.setD S.T {DJ S id with st:=st}).2,Q:=(Qu.addQ S.Q id (DJ S id).pr).2} else{S with T:=(Th.setD S.T {DJ S id with st:=st}).2,Q:=(Qu.dropQ S.Q id).2})
theorem O2(t:Th.ThT)(ht:TW t):EK prog F C b p 96 [pV p.t,Th.thV t] k S k (iV (Th.setD S.T t).1) {S with T:=(Th.setD S.T t).2}:=inferInstance
section
variable{s:RL}
theorem Q9(hK:IsK F C k S p s)(id st:Int)(hk:k'+(if st=1 then 1 else 0)<=k):Fn prog 97 [pV b,ι id,ι st] (AA b p s S G) (KK F C b p k' (iV (O1 S id st).1) (O1 S id st).2 G):=by
 have mr:CH b p∈AA b p s S G:=mR λ_ h=>h;refine AO func97 ntmps97 λE=>?_;refine Aj ?_;refine EO ?_;refine AR λb7=>?_;cases hf:(Th.findH S.T id).isSome with
 |false=>rw[show O1 S id st=(2,S) by unfold O1;rw[Ad (.inl hf)]];refine Aj ?_;exact Bd (hk:=by split at hk<;>omega)
 |true=>
 by_cases hb:st<0\/4<st
 ·rw[show O1 S id st=(2,S) by unfold O1;rw[Ad (.inr hb)]];by_cases h1:st<0<;>by_cases h2:4<st;all_goals first
   |(exfalso;omega)
   |(refine Aj ?_
     exact Bd (hk:=by split at hk<;>omega))
 have JL:=hK.tO id;obtain⟨t,ht⟩:=ξ (DJ S id)
 rw[ht] at JL⊢
 replace JL:TW {t with st:=st}:=⟨JL.out⟩
 by_cases h1:st=1
 ·rw[show O1 S id st=(0,{S with T:=(Th.setD S.T {t with st:=st}).2,Q:=(Qu.addQ S.Q id t.pr).2}) by unfold O1;rw[Ab (by rw[hf];simp;omega),Ad h1,ht]];rw[Ad h1] at hk
  replace hK:IsK F C (k'+1) S p s:=hK.mono hk
  refine Aj ?_;refine CC (Cy [5] 0 6) ?_;refine CG ?_;refine Na ?_ (q:=O2 {t with st:=st} JL);intro S1 s1 L1 Er ED DO G6;refine CG ?_;refine Aj ?_;refine CC (Cy [7] 0 8) ?_;refine CG ?_;refine Na ?_;intro S2 s2 L2 hS2 Gd F4 Ig;refine CG ?_;refine Aj ?_;exact Bd
 ·rw[show O1 S id st=(0,{S with T:=(Th.setD S.T {t with st:=st}).2,Q:=(Qu.dropQ S.Q id).2}) by unfold O1;rw[Ab (by rw[hf];simp;omega),Ab h1,ht]];rw[Ab h1] at hk
  replace hK:IsK F C k' S p s:=hK.mono hk
  refine Aj ?_;refine CC (Cy [5] 0 6) ?_;refine CG ?_;refine Na ?_ (q:=O2 {t with st:=st} JL);intro S1 s1 L1 Er ED DO G6;refine CG ?_;refine Aj ?_;refine Gt ?_;intro S2 s2 L2 hS2 Gd F4 Ig;refine Aj ?_;exact Bd
def GB(S:KT)(id Bv:Int):Ch×Int:=if(Th.findH S.T id).isSome=false then((0,0),2) else if Bv<0 then((0,0),3) else VI S.H.1 S.A (getD' S.H.1 (id,0)).1 Bv.toNat 12
theorem zd(hK:IsK F C k S p s)(id Bv:Int)(ha:Bv<18446744073709551616)(l:Ac)(hl: ∀c,c∈AA b p s S G->c∈l):Fn prog 159 [pV b,ι id,ι Bv] l λv l'=>v= .tuple #[Fy (GB S id Bv).1,iV (GB S id Bv).2]/\l'=l:=by
 have mr:CH b p∈l:=mR hl;obtain⟨bs,bt,ls,lt,hb⟩:=hK.ho;have mh:M1 p.h bs bt∈l:=mH hl _ (by rw[hb.eq];exact .head _);have QT: ∀l2,(∀c,c∈l->c∈l2)->Fn prog 95 [pV p.t,ι id] l2 _:=λl2 h2=>Th.get_any p.t S.T s.T hK.th id l2 λc hc=>h2 _ (mT hl c hc);have QH: ∀l2,(∀c,c∈l->c∈l2)->Fn prog 165 [pV p.h,.agg (τ [ι id,ι 0])] l2 _:=λl2 h2=>JB p.h S.H s.H hK.ho (id,0) l2 λc hc=>h2 _ (mH hl c hc);refine AO func159 ntmps159 λE=>?_;refine AR λb6=>?_;refine tq (λl2 h2=>QT l2 λc hc=>h2 _ (.tail _ hc)) ?_;refine AR λb8=>?_;cases hf:(Th.findH S.T id).isSome with
 |false=>rw[show GB S id Bv=((0,0),2) by unfold GB;rw[Ad hf]];refine Aj ?_;exact qr
 |true=>
 by_cases h0:Bv<0
 ·rw[show GB S id Bv=((0,0),3) by unfold GB;rw[Ab (by rw[hf];decide),Ad h0]];refine Aj ?_;exact qr
 obtain⟨a,rfl⟩: ∃q:Nat,Bv=q:=⟨Bv.toNat,Af⟩
 obtain⟨r,hr⟩:=ξ ((getD' S.H.1 (id,0)).1)
 rw[show GB S id a=VI S.H.1 S.A r a 12 by unfold GB;rw[Ab (by rw[hf];decide),Ab h0,hr,AV]];refine Aj ?_;refine tq (λl2 h2=>QH l2 λc hc=>h2 _ (.tail _ (.tail _ hc))) ?_;rw[hr];refine AR λGW=>?_;refine CC (Cy [15] 0 17) ?_;refine CG ?_;refine ff ?_ (AI rfl rfl λl2 h2=>Lw p.h bs bt l2 (h2 _ (.tail _ (.tail _ (.tail _ mh)))));refine CG ?_;refine ff ?_ (AI rfl rfl λl2 h2=>ZD bs p.a S.H.1 S.A ls s.A hb.s hK.ar hK.rad a Af r 12 l2 (λc hc=>h2 _ (.tail _ (.tail _ (.tail _ (mH hl c (by rw[hb.eq];exact .tail _ (Ai _ hc))))))) (λc hc=>h2 _ (.tail _ (.tail _ (.tail _ (mA hl c hc))))));refine CG ?_;refine Aj ?_;exact qr
class EV(P:Program)(F C b:Nat)(p:RP)(f:Nat)(vs:Ap)(k:Nat)(S:KT)(k':outParam Nat)(S':outParam KT):Prop where
 out: ∀s G,IsK F C k S p s->Fn P f vs (AA b p s S G) λ_ l'=> ∃s L,IsK F C k' S' p s/\Tail L G/\l'=AA b p s S' L
theorem EV.on{l:Ac}(q:EV P F C b p f vs k S k' S')(hK:IsK F C k S p s)(hF:Fr1 (AA b p s S G) l Γ):Fn P f vs l λ_ l'=> ∃s' L,IsK F C k' S' p s'/\Tail L G/\l'=Γ (AA b p s' S' L):=by
 obtain⟨A,rfl,hA⟩:=hF.eq;refine Fn.re (.of_perm (Fv b p s S A G)) (q.out s (A++G) hK) λv l' ⟨s',L,h2,⟨X,h3⟩,h4⟩=>⟨Γ (AA b p s' S' (X++G)),?_,s',_,h2,⟨X,rfl⟩,rfl⟩
 rw[h4,h3,hA];exact .of_perm (UA ..)
theorem tev{A6:List Oper}{fr:Fr}{l:Ac}{d:Nat}{x:Operand}{xs:List Operand}{at_:Array TypeId}{ty:TypeId}{pos:String}{aft:Array Edge}{g:Option (Nat×Bool)}(hk: ∀x0 S1 s' L,S1=S'->IsK F C k' S1 p s'->Tail L G->CH b p∈AA b p s' S1 L->DC P ro N E ops Q A6 ((d,x0)::fr) ds (Γ (AA b p s' S1 L)))(hx:ev fr x=some (.func (.func f) #[] #[]):=by rfl)(hy:SC fr xs=some vs:=by rfl)(hF:Fr1 (AA b p s S G) l Γ:=by exact fL)(c:EN P f:=by infer_instance)(hK:IsK F C k S p s:=by infer_instance)(q:EV P F C b p f vs k S k' S':=by infer_instance)(hw:RD ops fr g=some true:=by rfl)(hb:Nat.blt d N=true:=by rfl):DC P ro N E ops Q (⟨some d,.call {callee:= .value x,args:=xs.toArray,argTypes:=at_},ty,pos,aft,g⟩::A6) fr ds l:=
 IE (Az hx hy (q.on hK hF)) hw rfl hb λv l' ⟨s',L,h2,h3,h4⟩=>by rw[h4];exact hk v S' s' L rfl h2 h3 (mR λ_ h=>h)
theorem O3{D:En.DE}{id:Int}: ∀x,x∈(En.dropD D id).2.2->x∈D:=λx hx=>by
 unfold En.dropD at hx
 split at hx
 ·dsimp only at hx;first|exact(Cr.1 hx).1|exact List.mem_of_mem_eraseP hx|exact hx
 ·dsimp only at hx;first|exact(Cr.1 hx).1|exact hx
instance{id:Int}:EV prog F C b p 368 [pV p.e,ι id] k S k {S with E:=(En.dropD S.E id).2.2}:=⟨λs G h=>
 Fn.re (.of_perm (by unfold AA;exact BV)) (En.drop_any p.e S.E s.E id h.en (CH b p::As.asA p.n S.N::(s.M++(s.C++(s.A++(s.H++(s.T++(s.Q++(s.V++G))))))))) λv l' ⟨sl,cs,h1,h2,q,h3,h4⟩=>⟨AA b p {s with E:=q} {S with E:=(En.dropD S.E id).2.2} (cs++G),by rw[h4];unfold AA;exact A9 [],{s with E:=q},_,{h with en:=h3,el:=λy hy=>h.el y (O3 y hy),eo:=λt x y hx hy=>h.eo t x y (O3 x hx) (O3 y hy)},⟨cs,rfl⟩,rfl⟩⟩
def SG(S:KT)(id:Int):Int×KT:=
 if(Ar.getD' S.A id).2=false then(2,S)
 else if(HR S.H.1 id).1=16 then(16,{S with H:=((HR S.H.1 id).2,S.H.2)})
 else(0,{S with H:=((HR S.H.1 id).2,S.H.2),A:=(Ar.dropD S.A id).2,T:=(Th.dropD S.T id).2,Q:=(Qu.dropQ S.Q id).2,E:=(En.dropD S.E id).2.2})
theorem oE(hK:IsK F C k S p s)(id:Int):Fn prog 329 [pV b,ι id] (AA b p s S G) (KK F C b p k (iV (SG S id).1) (SG S id).2 G):=by
 have mr:CH b p∈AA b p s S G:=mR λ_ h=>h;unfold SG;refine AO func329 ntmps329 λE=>?_;refine Aj ?_;refine EO ?_;refine AR λb5=>?_;cases hf:(Ar.getD' S.A id).2 with
 |false=>rw[Ad rfl];refine Aj ?_;exact Bd
 |true=>
 rw[Ab A0];refine Aj ?_;refine Gt ?_;intro S1 s1 L1 Er ED DO G6;obtain⟨e,he⟩:=ξ ((HR S.H.1 id).1)
 rw[he];by_cases h16:e=16
 ·rw[Ad h16];refine Aj ?_;exact Bd
 rw[Ab h16];refine Aj ?_;refine Gt ?_;intro S2 s2 L2 hS2 Gd F4 Ig;refine Aj ?_;refine Gt ?_;intro S3 s3 L3 hS3 M8 Lo Qv;refine Aj ?_;refine Gt ?_;intro S4 s4 L4 hS4 hK4 kQ mr4;refine Aj ?_;refine tev ?_;intro v5 S5 s5 L5 hS5 hK5 hT5 mr5;refine Aj ?_;exact Bd
instance{id:Int}:EK prog F C b p 329 [pV b,ι id] k S k (iV (SG S id).1) (SG S id).2:=⟨λs G h=>oE h id⟩
end
abbrev gh(t:Th.ThT):Th.ThT:={t with wa:=0,o0:=0,o1:=0,o2:=0,o3:=0,ob:=0,cl:=false,fa:=false,hs:=false,wr:=false,va:=0,vl:=0,gv:=4096,inn:=4096}
abbrev DZ(S:KT)(t:Th.ThT):KT:={S with T:=(Th.setD S.T t).2}
abbrev Mw(S:KT)(id:Int):Bool:=(Th.findH S.T id).isSome
def ze(S:KT)(id:Int):KT:=if Mw S (Th.serverD S.T id)=true/\(DJ S id).st=4 then DZ S {DJ S (Th.serverD S.T id) with ca:=0} else S
def haltE(S:KT)(id:Int):Int×KT:=O1 (DZ S (gh (DJ S id))) id 0
def I9(S:KT)(id:Int):Int×KT:=
 if Mw S id=false then(2,S)
 else haltE (ze {S with E:=(En.removeD S.E id).2} id) id
section
variable{s:RL}
instance{id:Int}:EK prog F C b p 97 [pV b,ι id,ι 1] (k+1) S k (iV (O1 S id 1).1) (O1 S id 1).2:=⟨λs G h=>Q9 h id 1 (Bf _)⟩
instance{id:Int}:EK prog F C b p 97 [pV b,ι id,ι 0] k S k (iV (O1 S id 0).1) (O1 S id 0).2:=⟨λs G h=>Q9 h id 0 (Bf _)⟩
instance{id:Int}:EK prog F C b p 97 [pV b,ι id,ι 2] k S k (iV (O1 S id 2).1) (O1 S id 2).2:=⟨λs G h=>Q9 h id 2 (Bf _)⟩
instance{id:Int}:EK prog F C b p 97 [pV b,ι id,ι 3] k S k (iV (O1 S id 3).1) (O1 S id 3).2:=⟨λs G h=>Q9 h id 3 (Bf _)⟩
instance{id:Int}:EK prog F C b p 97 [pV b,ι id,ι 4] k S k (iV (O1 S id 4).1) (O1 S id 4).2:=⟨λs G h=>Q9 h id 4 (Bf _)⟩
theorem zf(hK:IsK F C k S p s)(id:Int):Fn prog 203 [pV b,ι id] (AA b p s S G) (KK F C b p k (iV (I9 S id).1) (I9 S id).2 G):=by
 have mr:CH b p∈AA b p s S G:=mR λ_ h=>h;unfold I9 Mw;refine AO func203 ntmps203 λE=>?_;refine Aj ?_;refine EO ?_;refine Aj ?_;refine AP e_alloc ?_;rintro _ _ ⟨b5,_,rfl,rfl⟩;cases hf:(Th.findH S.T id).isSome with
 |false=>rw[Ad rfl];refine Aj ?_;exact Bd
 |true=>
 rw[Ab A0];refine Aj ?_;refine Gt ?_;intro S1 s1 L1 Er ED DO G6;have eT:S1.T=S.T:=by rw[Er]
 have eO: ∀i,DJ S1 i=DJ S i:=λi=>by unfold DJ;rw[eT]
 have eI: ∀i,Mw S1 i=Mw S i:=λi=>by unfold Mw;rw[eT]
 rw[<-Er];refine Aj ?_;refine CC (Cy [14,15] 0 17) ?_;refine CG ?_;refine Is e_alloc (by rintro _ _ ⟨_,_,_,rfl⟩ c hc;exact .tail _ hc) ?_;rintro _ _ ⟨b7,_,rfl,rfl⟩;refine CG ?_;obtain⟨t,ht⟩:=ξ (DJ S id)
 have htu:=ED.tO (Th.serverD S1.T id);obtain⟨u,hu⟩:=ξ (DJ S1 (Th.serverD S1.T id))
 rw[hu] at htu;obtain⟨ok,Dh⟩:=ξ ((Th.findH S1.T (Th.serverD S1.T id)).isSome)
 rw[ht,hu,Dh];have qQ:ze S1 id=if ok=true/\t.st=4 then DZ S1 {u with ca:=0} else S1:=by unfold ze Mw;rw[Dh,eO id,ht,hu]
 refine CG ?_;have e1:=eO id;rw[ht] at e1;by_cases h4:ok=true/\t.st=4
 case' pos=>
  obtain⟨rfl,h4⟩:=h4;rw[Ad ⟨rfl,h4⟩] at qQ;rw[qQ];refine Aj ?_;refine CC (Cy [5] 0 6) ?_;refine CG ?_;refine Na ?_ (q:=O2 {u with ca:=0} ⟨htu.out⟩);intro S2 s2 L2 hS2 Gd F4 Ig;rw[show DZ S1 {u with ca:=0}=S2 from hS2.symm];refine CG ?_;refine Aj ?_;refine EO ?_;obtain⟨t2,aR⟩:=ξ (DJ S2 id)
  unfold haltE;rw[aR];refine Aj ?_
 case' neg=>
  rw[Ab h4] at qQ;rw[qQ];have h4':ok=true->¬t.st=4:=λa c=>h4 ⟨a,c⟩;unfold haltE;rw[e1];cases ok
  case' true=>have h4':=h4' rfl
  all_goals refine Aj ?_
 case' pos=>obtain⟨t3,ht3⟩: ∃t3,t3=t2:=⟨_,rfl⟩
 case' neg.true=>obtain⟨t3,ht3⟩: ∃t3,t3=t:=⟨_,rfl⟩
 case' neg.false=>obtain⟨t3,ht3⟩: ∃t3,t3=t:=⟨_,rfl⟩
 all_goals
  rw[<-ht3];refine Be (FR (zs:=[υ 0,υ 0,υ 0,υ 0]) (cs:=[υ 0,υ 0,υ 0,υ 0]) rfl rfl) ?_;refine Aj ?_;refine CC (Cy [5] 0 6) ?_;refine CG ?_;refine Na ?_ (q:=O2 (gh t3) ⟨G8,G8⟩);intro S3 s3 L3 hS3 M8 Lo Qv;rw[show DZ _ (gh t3)=S3 from hS3.symm];refine CG ?_;refine Aj ?_;refine Gt ?_;intro S4 s4 L4 hS4 hK4 kQ mr4;refine Aj ?_;exact Bd
end
end Go.Proofs.YtlifcingifodfaaGreat
