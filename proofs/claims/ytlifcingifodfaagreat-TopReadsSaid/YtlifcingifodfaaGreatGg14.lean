/- Laws that the statement's proof leans on (joined out of several texts). -/
import Derived.Test.YtlifcingifodfaaGreatGg13
set_option maxHeartbeats 4000000
set_option linter.unusedVariables false
set_option linter.unusedSimpArgs false
namespace Go.Proofs.YtlifcingifodfaaGreat
open Tryz
open List(toArray)
open Go.RowKit
set_option maxRecDepth 20000
variable{k b f i s F C j k' gb cap N:Nat}{ks:List (HX×Nat)}{c c':HX×Nat}{S S':KT}{p:RP}{T:LC}{sp vs A B:Ap}{G:Ac}{x:MJ}{Γ:Ac->Ac}{P:Program}{q:Nat->Bool}{v:Value}{ro:Option Nat}{E:World}{Q:Exit->Act->World->Prop}{ds:List Deferred}{ops:Array Oper}
abbrev jU(B b:Nat):Bd:=(B,.cells (toArray [pV b]) 307 (0,0))
theorem Wd(b:Nat)(l:Ac):Fn prog 304 [pV b] l λv l'=> ∃B,v= .func (.func 342) #[] #[pV B]/\l'=jU B b::l:=by refine AN func304 ntmps304 λE=>?_;refine AQ λb1=>?_;exact Bb .refl ⟨_,rfl,rfl⟩
theorem Xl(T:LC)(s:Nat):(gR T s).length=11:=by simp[gR]
theorem PS(T:LC)(hs:s<4)(hf:f<11):(toArray (Sz T))[s*11+f]?=(gR T s)[f]?:=by
 rw[AE];unfold Sz;have h: ∀j,(gR T j).length=11:=Xl T;obtain rfl|rfl|rfl|rfl:s=0\/s=1\/s=2\/s=3:=by omega
 ·rw[AH (by rw[h];omega),GO,BF]
 ·rw[AY (by rw[h];omega),AH (by rw[h,h];omega),h];congr 1;omega
 ·rw[AY (by rw[h];omega),AY (by rw[h,h];omega),AH (by rw[h,h,h];omega),h,h];congr 1;omega
 ·rw[AY (by rw[h];omega),AY (by rw[h,h];omega),AY (by rw[h,h,h];omega),h,h,h];congr 1;omega
def Jq(k:Nat):Nat:=k/2*11+k%2*5
theorem Uo(T:LC)(hk:k<8)(hf:f<5):(toArray (Sz T))[Jq k+f]?=(Re (T.w k))[f]?:=by
 unfold Jq;rw[show k/2*11+k%2*5+f=k/2*11+(k%2*5+f) by omega,PS T Af Af];unfold gR;rcases Nat.mod_two_eq_zero_or_one k with h|h
 ·rw[h,GO,BF,show 2*(k/2)=k by omega,AH (by simp;omega)]
 ·rw[h,AY (by simp),AH (by simp;omega),show 2*(k/2)+1=k by omega];congr 1;simp
abbrev eX(T:LC)(k:Nat):Bool:=!decide ((T.w k).sp=0)
theorem Pe(q:Nat->Bool)(h:k<=8):(List.range k).filter q<+:(List.range 8).filter q:=by
 obtain⟨j,hj⟩: ∃j,8=k+j:=⟨8-k,Af⟩
 rw[hj,List.range_add,DJ];exact⟨_,rfl⟩
theorem Xm(h:q k=false):(List.range (k+1)).filter q=(List.range k).filter q:=by rw[CC,DJ];simp[h]
theorem SK(h:q k=true):(List.range (k+1)).filter q=(List.range k).filter q++[k]:=by rw[CC,DJ];simp[h]
abbrev Afe(B b:Nat)(T:LC)(pre:List Nat)(l:Ac):Prop:=jU B b∈l/\ ∃T':LC,N0 b T'∈l/\ ∀j,j<8->(∀x,x∈pre->x<j)->T'.w j=T.w j
theorem Up(B b:Nat)(T:LC):FC prog 342 [pV B] (λk:Nat=>[.pointer (some ⟨b,Jq k,none⟩)]) (λxs=>xs=IL T) (λpre=>pre<+:IL T) (Afe B b T):=by
 refine⟨λr I Ix G0 Cb hY l G hG h0=>?_⟩;have key: ∀k l,k<8->I ((List.range k).filter (eX T)) l->jU B b∈l++G/\ ∃T':LC,N0 b T'∈l++G/\(toArray (Sz T'))[Jq k+0]?=some (.int .i64 (T.w k).sp):=λk l hk hI=>by
  obtain⟨n1,T',n2,n3⟩:=Cb _ _ G hG hI;have e:=n3 k hk λx hx=>by have:=(BY.1 hx).1;simpa using this
  exact⟨n1,T',n2,by rw[Uo T' hk AX,e];rfl⟩
 have hy: ∀k l,k<8->eX T k=true->I ((List.range k).filter (eX T)) l->_:=λk l hk hn hI=>hY _ k l G hG hI (by rw[<-SK hn];exact Pe _ hk);refine AN func342 ntmps342 λE=>?_;have n1:=(Cb _ _ G hG h0).1;refine Aj ?_;refine CN (α:=Nat×Ac) (λx=>[(0,.func (.yield r) #[] #[]),(1,pV B),(7,.int .i64 (x.1:Nat))]) (λx=>x.2++G) (λx=>x.1<=4/\I ((List.range (2*x.1)).filter (eX T)) x.2) (λx=>4-x.1) (0,l) ⟨Bp _,h0⟩ ⟨rfl,rfl,rfl,trivial⟩ .refl ?_;clear n1 h0;rintro⟨s,l⟩ ⟨hs,hI⟩;simp only at hs hI⊢;by_cases h4:s<4
 case neg=>
  obtain rfl:s=4:=by omega
  refine Aj ?_;exact Bb .refl ⟨l,rfl,.inl ⟨_,rfl,hI⟩⟩
 have o1:Jq (2*s)=s*11+Int.toNat 0*5:=by unfold Jq;first|(simp;done)|(simp;omega)
 have o2:Jq (2*s+1)=s*11+Int.toNat (0+1)*5:=by unfold Jq;first|(simp;done)|(simp;omega)
 obtain⟨n1,T',n2,n3⟩:=key (2*s) l Af hI;rw[CV,o1] at n3;have pR:=hy (2*s) l Af;have S8:=λl=>hy (2*s+1) l Af;rw[o1] at pR;rw[o2] at S8;refine Aj ?_;refine Ie 2 ?_;refine Aj ?_;by_cases hz:(T.w (2*s)).sp=0
 ·have N6:I ((List.range (2*s+1)).filter (eX T)) l:=by rw[Xm (by simpa[eX] using hz)];exact hI
  refine Aj ?_;refine E9 ?_;obtain⟨n1,T',n2,n3⟩:=key (2*s+1) l Af N6;rw[CV,o2] at n3;refine Aj ?_;by_cases uE:(T.w (2*s+1)).sp=0
  ·refine Aj ?_;refine E9 ?_;refine Aj ?_;exact BO (s+1,l) ⟨by simp only;omega,by simp only;rw[show 2*(s+1)=2*s+1+1 by omega,Xm (by simpa[eX] using uE)];exact N6⟩ (by simp only;omega) ⟨rfl,rfl,rfl,trivial⟩ .refl
  ·have hn:eX T (2*s+1)=true:=by simpa[eX] using uE
   refine Aj ?_;refine JB (C5 rfl rfl (S8 l hn N6)) rfl rfl rfl ?_;rw[<-SK hn];rintro v _ ⟨l1,rfl,⟨rfl,ak⟩|⟨rfl,hx⟩⟩
   ·refine Aj ?_;refine E9 ?_;refine Aj ?_;exact BO (s+1,l1) ⟨by simp only;omega,ak⟩ (by simp only;omega) ⟨rfl,rfl,rfl,trivial⟩ .refl
   ·refine Aj ?_;exact BE [] rfl .refl (by exact Ba) ⟨l1,rfl,.inr ⟨_,Pe _ Af,hx⟩⟩
 ·have hn:eX T (2*s)=true:=by simpa[eX] using hz
  refine Aj ?_;refine JB (C5 rfl rfl (pR hn hI)) rfl rfl rfl ?_;rw[<-SK hn];rintro v _ ⟨l1,rfl,⟨rfl,N6⟩|⟨rfl,hx⟩⟩
  case' inr=>
   refine Aj ?_;exact BE [] rfl .refl (by exact Ba) ⟨l1,rfl,.inr ⟨_,Pe _ Af,hx⟩⟩
  refine Aj ?_;refine E9 ?_;obtain⟨n1,T',n2,n3⟩:=key (2*s+1) l1 Af N6;rw[CV,o2] at n3;refine Aj ?_;by_cases uE:(T.w (2*s+1)).sp=0
  ·refine Aj ?_;refine E9 ?_;refine Aj ?_;exact BO (s+1,l1) ⟨by simp only;omega,by simp only;rw[show 2*(s+1)=2*s+1+1 by omega,Xm (by simpa[eX] using uE)];exact N6⟩ (by simp only;omega) ⟨rfl,rfl,rfl,trivial⟩ .refl
  ·have hn:eX T (2*s+1)=true:=by simpa[eX] using uE
   refine Aj ?_;refine JB (C5 rfl rfl (S8 l1 hn N6)) rfl rfl rfl ?_;rw[<-SK hn];rintro v _ ⟨l2,rfl,⟨rfl,ak⟩|⟨rfl,hx⟩⟩
   ·refine Aj ?_;refine E9 ?_;refine Aj ?_;exact BO (s+1,l2) ⟨by simp only;omega,ak⟩ (by simp only;omega) ⟨rfl,rfl,rfl,trivial⟩ .refl
   ·refine Aj ?_;exact BE [] rfl .refl (by exact Ba) ⟨l2,rfl,.inr ⟨_,Pe _ Af,hx⟩⟩
theorem vv(T:LC)(hk:k<8):(toArray (Sz T)).extract (Jq k) (Jq k+5)=toArray (Re (T.w k)):=by
 apply DI;intro j;rw[ES];have hs:(toArray (Sz T)).size=44:=by simp[Sz,Xl]
 by_cases h:j<5
 ·rw[Ad (by rw[hs];unfold Jq;omega),Uo T hk h,AE]
 ·rw[Ab Af,AE,Bg (by simp;omega)]
theorem Kn(T:LC):(toArray (Sz T)).size=44:=by simp[Sz,Xl]
theorem SL(h:k<8):Jq k+5<=44:=by unfold Jq;omega
theorem vw{A':Ap}(h:A.length=A'.length)(hf:A.length<=f):(A++B)[f]?=(A'++B)[f]?:=by rw[AY hf,AY (h▸hf),h]
theorem vy{B':Ap}(hf:f<A.length):(A++B)[f]?=(A++B')[f]?:=by rw[AH hf,AH hf]
theorem Zj(T:LC)(hk:k<8)(x:MJ):Da (toArray (Sz T)) (Jq k) (Re x)=toArray (Sz (QB T k x)):=by
 apply DI;intro j;rw[Ty,Kn];have hl:=SL hk;have hx:(Re x).length=5:=rfl;rw[hx];by_cases hj:j<44
 case neg=>rw[Ab Af,AE,AE,Bg (by have:=Kn T;simp at this;omega),Bg (by have:=Kn (QB T k x);simp at this;omega)]
 obtain⟨s,f,rfl,hs,hf⟩: ∃s f,j=s*11+f/\s<4/\f<11:=⟨j/11,j%11,Af,Af,Af⟩
 rw[PS _ hs hf,PS _ hs hf];have e1:(QB T k x).d=T.d:=rfl;have e2: ∀i,(QB T k x).w i=if i=k then x else T.w i:=λi=>rfl
 unfold gR;rw[e1,e2,e2];by_cases M2:Jq k<=s*11+f/\s*11+f<Jq k+5
 ·rw[Ad ⟨M2.1,Af,Af⟩];unfold Jq at M2⊢;obtain rfl:s=k/2:=by omega
  rcases Nat.mod_two_eq_zero_or_one k with h|h
  ·rw[h] at M2⊢;rw[Ad Af,AH (by simp;omega)];congr 1;omega
  ·rw[h] at M2⊢;rw[Ab Af,Ad Af,AY (by simp;omega),AH (by simp;omega)];congr 1;simp;omega
 ·rw[Ab Af];unfold Jq at M2;by_cases a:2*s=k
  ·rw[Ad a,Ab Af];exact vw rfl (by simp;omega)
  ·by_cases c:2*s+1=k
   ·rw[Ab a,Ad c];by_cases hf5:f<5
    ·exact vy (by simp;omega)
    ·rw[<-Am,<-Am];exact vw rfl (by simp;omega)
   ·rw[Ab a,Ab c]
abbrev Lp(B:Nat)(x:MJ):Bd:=(B,.cells (toArray (Re x)) 301 (0,0))
abbrev xY(x:MJ):Value:= .agg (toArray (Re x))
abbrev XO(B:Nat)(x:Bool):Bd:=(B,.cells (toArray [.bool x]) 4 (0,0))
theorem iM(b:Nat)(T:LC)(sp pg:Int)(l:Ac)(m1:N0 b T∈l):Fn prog 226 [pV b,.int .i64 sp,.int .i64 pg] l λv l'=>v= .tuple #[xY (KI T sp pg).1,.bool (KI T sp pg).2]/\l'=l:=by
 unfold KI;refine AN func226 ntmps226 λE=>?_;refine AQ λb4=>?_;refine AQ λb5=>?_;refine AQ λb6=>?_;refine AQ λb7=>?_;refine AS (Az rfl rfl (Wd b _)) ?_;rintro _ _ ⟨B,rfl,rfl⟩;refine Aj ?_;refine Dg (α:=Nat) (ps:=[11]) (lb:=[pV B]) rfl (Up B b T) (λ_=>rfl) rfl
  (λpre l=>(∀k,k∈pre->(decide ((T.w k).sp=sp)&&decide ((T.w k).pg=pg))=false)/\l=[jU B b,XO b7 false,Lp b6 Q3,BS b5 pg,BS b4 sp])
  (λc pre l=>c= .ret/\ ∃G8 k,pre=G8++[k]/\(∀k,k∈G8->(decide ((T.w k).sp=sp)&&decide ((T.w k).pg=pg))=false)/\(decide ((T.w k).sp=sp)&&decide ((T.w k).pg=pg))=true/\l=[XO b7 true,Lp b6 (T.w k)])
  [jU B b,XO b7 false,Lp b6 Q3,BS b5 pg,BS b4 sp] l (λpre l2 X2 hX h=>⟨by rw[h.2];exact Ai _ (.head _),T,Aa _ (hX _ m1),λ_ _ _=>rfl⟩) (by exact AW) ⟨λ_ h=>(nomatch h),rfl⟩ ?_ ?_ ?_
 ·rintro E r0 FU pre k l' X ⟨fn,tmps,D,rfl⟩ hX ⟨hn,rfl⟩ Dw;have hk:k<8:=by
   have h3:k∈IL T:=Dw.subset (by simp);have:=(BY.1 h3).1;simpa using this
  have mX:=hX _ m1;have c0:=Uo T hk (f:=0) AX;have c1:=Uo T hk (f:=1) AX;simp only[DX,Ae,Ag,CV] at c0 c1⊢;refine Aj ?_;refine CK (by exact DY) ?_;refine Aj ?_;refine IB ?_;have c0:(toArray (Sz T))[Jq k]?=some (.int .i64 (T.w k).sp):=c0;have c1:(toArray (Sz T))[Jq k+1]?=some (.int .i64 (T.w k).pg):=c1;by_cases h1:(T.w k).sp=sp
  case neg=>
   refine BM ?_;refine Aj ?_;exact Ci [jU B b,XO b7 false,Lp b6 Q3,BS b5 pg,BS b4 sp] (by exact AW) ⟨λz hz=>by
    rcases AF.1 hz with hz|hz
    ·exact hn z hz
    ·rw[AC.1 hz];simp[h1],rfl⟩
  by_cases h2:(T.w k).pg=pg
  case neg=>
   refine BM ?_;refine Aj ?_;exact Ci [jU B b,XO b7 false,Lp b6 Q3,BS b5 pg,BS b4 sp] (by exact AW) ⟨λz hz=>by
    rcases AF.1 hz with hz|hz
    ·exact hn z hz
    ·rw[AC.1 hz];simp[h2],rfl⟩
  refine BM ?_;refine Aj ?_;refine Bh (Dt (n:=5) rfl (by first|exact .tail _ (.tail _ (.tail _ (.tail _ (.tail _ (.tail _ mX)))))) (by rw[Kn];exact SL hk) (vv T hk)) ?_;refine Aj ?_;exact EI [XO b7 true,Lp b6 (T.w k)] (by exact AW) ⟨rfl,pre,k,rfl,hn,by simp[h1,h2],rfl⟩
 ·rintro D xs l' rfl ⟨hn,rfl⟩;rw[Bq.2 λy hy=>by rw[hn y hy];decide];simp only[Ae,Ag];refine Aj ?_;exact AU [D] _ rfl (l':=l) (by exact AW) (by exact Ba) (by exact AW) ⟨rfl,rfl⟩
 ·rintro D c pre l' Dw ⟨rfl,G8,k,rfl,hn,hx,rfl⟩;rw[Zi Dw hn hx];simp only[Ae,Ag];refine Aj ?_;exact AU [D] _ rfl (l':=l) (by exact AW) (by exact Ba) (by exact AW) ⟨rfl,rfl⟩
theorem bW(b:Nat)(T:LC)(st wy:Int)(F:Ac):Fn prog 164 [pV b,.int .i64 st,.int .i64 wy] (N0 b T::F) λv l'=>v= .bool (Nu T st wy).1/\l'=N0 b (Nu T st wy).2::F:=by
 unfold Nu;refine AN func164 ntmps164 λE=>?_;by_cases hb:st<0\/st>=4\/wy<0\/wy>=2
 ·rw[Ad hb];by_cases h1:st<0<;>by_cases h2:st>=4<;>by_cases h3:wy<0<;>by_cases h4:wy>=2;all_goals first
   |(exfalso;omega)
   |(refine Aj ?_
     exact qr)
 rw[Ab hb];obtain⟨s,rfl⟩: ∃q:Nat,st=q:=⟨st.toNat,Af⟩
 obtain⟨w,rfl⟩: ∃q:Nat,wy=q:=⟨wy.toNat,Af⟩
 have hk:2*s+w<8:=by omega
 have ho:s*11+w*5=Jq (2*s+w):=by unfold Jq;omega
 have c0:=Uo T hk (f:=0) AX;have c0:(toArray (Sz T))[s*11+w*5]?=some (.int .i64 (T.w (2*s+w)).sp):=by rw[ho];exact c0
 rw[A0,A0];refine Aj ?_;refine M9 (EH (n:=5) (l':=N0 b (QB T (2*s+w) Q3)::F) rfl rfl rfl (by simp[Value.oneCell']) (by rw[show(toArray _).toList=Re Q3 from rfl,ho,Zj T hk];exact .here) (by rw[Kn,ho];exact SL hk)) rfl rfl ?_;rintro _ _ ⟨rfl,rfl⟩;refine Aj ?_;exact BE [] rfl .refl (by exact Ba) ⟨by simp[JH],rfl⟩
def dropL(T:LC)(f:MJ->Bool)(pre:List Nat):LC:={T with w:=λk=>if k∈pre/\f (T.w k)=true then Q3 else T.w k}
abbrev fnB(B gf:Nat)(cs:Ap):Bd:=(B,.cells (toArray [.func (.func gf) #[] (toArray cs)]) 540 (0,0))
theorem Uq{f:MJ->Bool}{pre:List Nat}:dropL T f (pre++[k])=if f (T.w k)=true then QB (dropL T f pre) k Q3 else dropL T f pre:=by
 unfold dropL QB
 split
 ·rename_i h;congr 1;funext j;simp only[Qu.upd,AF,AC];by_cases e:j=k
  ·subst e;simp[h]
  ·simp[e]
 ·rename_i h;congr 1;funext j;simp only[AF,AC];by_cases e:j=k
  ·subst e;simp[h]
  ·simp[e]
theorem iN(T:LC)(f:MJ->Bool):dropL T f (IL T)=PC T f:=by unfold dropL PC;congr 1;funext k;unfold r6 IL;simp[BY,and_assoc]
theorem We(b:Nat)(T:LC)(gf:Nat)[EN prog gf](cs:Ap)(f:MJ->Bool)(R F:Ac)(hR: ∀c,c∈R->c∈F)(hf: ∀x l2,(∀c,c∈R->c∈l2)->Fn prog gf (xY x::cs) l2 λv l'=>v= .bool (f x)/\l'=l2):
 Fn prog 375 [pV b,.func (.func gf) #[] (toArray cs)] (N0 b T::F) λv l'=>v=iV (NI T f:Nat)/\l'=N0 b (PC T f)::F:=by
 refine AN func375 ntmps375 λE=>?_;refine AQ λb3=>?_;refine AQ λb5=>?_;refine AS (Az rfl rfl (Wd b _)) ?_;rintro _ _ ⟨B,rfl,rfl⟩;refine Aj ?_;refine Dg (α:=Nat) (ps:=[9]) (lb:=[pV B]) rfl (Up B b T) (λ_=>rfl) rfl
  (λpre l=>l=[jU B b,BS b5 ((pre.filter λk=>f (T.w k)).length:Nat),fnB b3 gf cs,N0 b (dropL T f pre)])
  (λc pre l=>False)
  [jU B b,BS b5 0,fnB b3 gf cs,N0 b T] F (λpre l2 X2 hX h=>by
   subst h;refine⟨Ai _ (.head _),dropL T f pre,Ai _ (.tail _ (.tail _ (.tail _ (.head _)))),λj _ hj=>?_⟩;have:¬j∈pre:=λhm=>by have:=hj j hm;omega
   simp[dropL,this]) (by exact AW) (by simp[dropL]) ?_ ?_ ?_
 ·rintro E r0 FU pre k l' X ⟨fn,tmps,D,rfl⟩ hX rfl Dw;have hk:k<8:=by
   have h3:k∈IL T:=Dw.subset (by simp);have:=(BY.1 h3).1;simpa using this
  have uF:¬k∈pre:=λhm=>by have h3:=(List.nodup_range (n:=8)).filter (λk=>!decide ((T.w k).sp=0));have h4:=h3.sublist Dw.sublist;exact absurd rfl ((BC.1 h4).2.2 k hm k (by simp))
  have ew:(dropL T f pre).w k=T.w k:=by simp[dropL,uF]
  have hl:=SL hk;have hx:=vv (dropL T f pre) hk;rw[ew] at hx;simp only[DX,Ae,Ag];refine Aj ?_;refine CK (by exact DY) ?_;refine Aj ?_;refine CA (Cu [] 0 5) ?_;refine dX ?_;refine Yu ?_;refine Yu ?_;refine dX ?_ (Dt (n:=5) rfl (.tail _ (.tail _ (.tail _ (.head _)))) (by rw[Kn];exact hl) hx);refine dX ?_ (FL rfl rfl λl2 Lf=>hf (T.w k) l2 λc hc=>Lf _ (.tail _ (.tail _ (.tail _ (.tail _ (.tail _ (hX _ (hR _ hc))))))));refine Rd ?_;have hc: ∀n:Nat,((pre++[k]).filter λk=>f (T.w k)).length=n->n=(pre.filter λk=>f (T.w k)).length+if f (T.w k)=true then 1 else 0:=λn h=>by rw[<-h,DJ,Ah];simp[Fv];split<;>rfl
  cases hfk:f (T.w k) with
  |false=>refine Aj ?_;exact Ci [jU B b,BS b5 ((pre.filter λk=>f (T.w k)).length:Nat),fnB b3 gf cs,N0 b (dropL T f pre)] (by exact AW) (by rw[Uq,Ab (by rw[hfk];decide),hc _ rfl,Ab (by rw[hfk];decide)];rfl)
  |true=>
   have XI:=(Dw.length_le:(pre++[k]).length<=_)
   have AhL:(IL T).length<=8:=C8 _ _;have hpf:=C8 (λk=>f (T.w k)) pre;rw[Ah] at XI;refine Aj ?_;refine M9 (EH (n:=5) (b:=b) (off:=Jq k) (cs:=toArray (Sz (dropL T f pre))) (l':=jU B b::BS b5 ((pre.filter λk=>f (T.w k)).length:Nat)::fnB b3 gf cs::N0 b (QB (dropL T f pre) k Q3)::_) rfl rfl rfl (by simp[Value.oneCell']) (by rw[show(toArray _).toList=Re Q3 from rfl,Zj _ hk];exact DY) (by rw[Kn];exact hl)) rfl rfl ?_;rintro _ _ ⟨rfl,rfl⟩;refine Aj ?_;exact Ci [jU B b,BS b5 (((pre.filter λk=>f (T.w k)).length:Nat)+1),fnB b3 gf cs,N0 b (QB (dropL T f pre) k Q3)] (by exact AW) (by rw[Uq,Ad hfk,hc _ rfl,Ad hfk];rfl)
 ·rintro D xs l' rfl rfl;have hd:((IL T).filter λk=>f (T.w k)).length=NI T f:=by
   unfold NI IL r6;rw[List.filter_filter];congr 1;exact List.filter_congr λk hk=>by rw[Au (by simpa using hk:k<8),Bw,Bool.and_comm]
  rw[hd,iN];simp only[Ae,Ag];refine Aj ?_;exact AU [D] _ rfl (l':=N0 b (PC T f)::F) (by exact AW) (by exact Ba) (by exact AW) ⟨rfl,rfl⟩
 ·rintro D c pre l' Dw h;exact h.elim
theorem sB(b4 b5:Nat)(sp pg:Int)(x:MJ)(l:Ac)(m4:BS b4 sp∈l)(m5:BS b5 pg∈l):Fn prog 376 [xY x,pV b4,pV b5] l λv l'=>v= .bool (KB sp pg x)/\l'=l:=by
 refine AN func376 ntmps376 λE=>?_;refine Aj ?_
 (first|refine AS (Ez rfl rfl) ?_|refine AS (CH rfl) ?_);rintro _ _ ⟨b3,_,rfl,rfl⟩
 have m4':=An (Lp b3 x) m4;have m5':=An (Lp b3 x) m5;by_cases h1:x.sp=sp<;>by_cases h2:x.pg=pg;all_goals
  refine Aj ?_;refine qr (hx:=?_);simp[JH,h1,h2]
theorem sC(b4:Nat)(sp:Int)(x:MJ)(l:Ac)(m4:BS b4 sp∈l):Fn prog 390 [xY x,pV b4] l λv l'=>v= .bool (Q5 sp x)/\l'=l:=by
 refine AN func390 ntmps390 λE=>?_;refine Aj ?_
 (first|refine AS (Ez rfl rfl) ?_|refine AS (CH rfl) ?_);rintro _ _ ⟨b3,_,rfl,rfl⟩
 have m4':=An (Lp b3 x) m4;refine Aj ?_;exact qr
theorem bX(b:Nat)(T:LC)(sp pg:Int)(F:Ac):Fn prog 341 [pV b,.int .i64 sp,.int .i64 pg] (N0 b T::F) λv l'=>v=iV (NI T (KB sp pg):Nat)/\l'=N0 b (PC T (KB sp pg))::F:=by refine AN func341 ntmps341 λE=>?_;refine AQ λb4=>?_;refine AQ λb5=>?_;refine Bs (l':=N0 b T::BS b5 pg::BS b4 sp::F) (.pick (.there (.there .here)) .refl) ?_;refine AS (Az rfl rfl (We b T _ [pV b4,pV b5] (KB sp pg) [BS b5 pg,BS b4 sp] (BS b5 pg::BS b4 sp::F) (by simp) λx l2 h2=>sB b4 b5 sp pg x l2 (h2 _ (.tail _ (.head _))) (h2 _ (.head _)))) ?_;rintro _ _ ⟨rfl,rfl⟩;refine Aj ?_;exact Bb (.pick .here (.drop (.drop .refl))) ⟨rfl,rfl⟩
theorem bY(b:Nat)(T:LC)(sp:Int)(F:Ac):Fn prog 371 [pV b,.int .i64 sp] (N0 b T::F) λv l'=>v=iV (NI T (Q5 sp):Nat)/\l'=N0 b (PC T (Q5 sp))::F:=by refine AN func371 ntmps371 λE=>?_;refine AQ λb4=>?_;refine Bs (l':=N0 b T::BS b4 sp::F) (.pick (.there .here) .refl) ?_;refine AS (Az rfl rfl (We b T _ [pV b4] (Q5 sp) [BS b4 sp] (BS b4 sp::F) (by simp) λx l2 h2=>sC b4 sp x l2 (h2 _ (.head _)))) ?_;rintro _ _ ⟨rfl,rfl⟩;refine Aj ?_;exact Bb (.pick .here (.drop .refl)) ⟨rfl,rfl⟩
theorem xZ(T:LC)(hs:s<4):(toArray (Sz T))[s*11+10]?=some (.int .i64 (T.d s)):=by rw[PS T hs AX];simp[gR]
theorem Ab1(T:LC)(hs:s<4)(v:Int):(toArray (Sz T)).setIfInBounds (s*11+10) (.int .i64 v)=toArray (Sz {T with d:=Qu.upd T.d s v}):=by
 apply DI;intro j;rw[Array.getElem?_setIfInBounds,Kn];by_cases hj:j<44
 case neg=>rw[Ab Af,AE,AE,Bg (by have:=Kn T;simp at this;omega),Bg (by have:=Kn {T with d:=Qu.upd T.d s v};simp at this;omega)]
 obtain⟨r,f,rfl,hr,hf⟩: ∃r f,j=r*11+f/\r<4/\f<11:=⟨j/11,j%11,Af,Af,Af⟩
 rw[PS _ hr hf,PS _ hr hf];unfold gR;by_cases e:s*11+10=r*11+f
 ·obtain⟨rfl,rfl⟩:r=s/\f=10:=by omega
  rw[Ad rfl,Ad Af];simp[Qu.upd]
 ·rw[Ab e];by_cases e2:r=s
  ·subst e2;rw[<-Am,<-Am];exact vy (by simp;omega)
  ·simp[Qu.upd,e2]
theorem x5(T:LC)(hs:s<4):(toArray (Sz T)).extract (s*11) (s*11+10)=toArray (Re (T.w (2*s))++Re (T.w (2*s+1))):=by
 apply DI;intro j;rw[ES,Kn];by_cases h:j<10
 ·rw[Ad Af,PS T hs Af,AE];unfold gR;rw[<-Am,AH (by simp;omega)]
 ·rw[Ab Af,AE,Bg (by simp;omega)]
theorem x6(hb:¬Rp x)(e4:(x.pg%4).toNat=s)(hk:k<2)(hn: ∀j,j<k->¬((T.w (2*s+j)).sp=x.sp/\(T.w (2*s+j)).pg=x.pg))(h:(T.w (2*s+k)).sp=x.sp/\(T.w (2*s+k)).pg=x.pg):Iv T x=(0,QB T (2*s+k) x):=by
 have:Y7 T x=some (2*s+k):=by
  unfold Y7;simp only[e4];rcases k with _|_|k
  ·rw[CV] at h;rw[Ad h];rfl
  ·have h0:=hn 0 Af;rw[CV] at h0;rw[Ab h0,Ad h]
  ·omega
 unfold Iv;rw[Ab hb,this]
theorem x7(hb:¬Rp x)(e4:(x.pg%4).toNat=s)(hk:k<2)(hn: ∀j,j<2->¬((T.w (2*s+j)).sp=x.sp/\(T.w (2*s+j)).pg=x.pg))(hz: ∀j,j<k->¬(T.w (2*s+j)).sp=0)(h:(T.w (2*s+k)).sp=0):Iv T x=(0,QB T (2*s+k) x):=by
 have:Y7 T x=some (2*s+k):=by
  have n0:=hn 0 Af;rw[CV] at n0;unfold Y7;simp only[e4];rw[Ab n0,Ab (hn 1 Af)];rcases k with _|_|k
  ·rw[CV] at h;rw[Ad h];rfl
  ·have h0:=hz 0 Af;rw[CV] at h0;rw[Ab h0,Ad h]
  ·omega
 unfold Iv;rw[Ab hb,this]
theorem x8(hb:¬Rp x)(e4:(x.pg%4).toNat=s)(hn: ∀j,j<2->¬((T.w (2*s+j)).sp=x.sp/\(T.w (2*s+j)).pg=x.pg))(hz: ∀j,j<2->¬(T.w (2*s+j)).sp=0):Iv T x=(0,QB {T with d:=Qu.upd T.d s ((T.d s+1)%2)} (2*s+(T.d s).toNat) x):=by
 have:Y7 T x=none:=by have n0:=hn 0 Af;rw[CV] at n0;have h0:=hz 0 Af;rw[CV] at h0;unfold Y7;simp only[e4];rw[Ab n0,Ab (hn 1 Af),Ab h0,Ab (hz 1 Af)]
 unfold Iv;rw[Ab hb,this];simp only[e4];rfl
theorem iO(b:Nat)(T:LC)(hd: ∀s,s<4->T.d s=0\/T.d s=1)(x:MJ)(F:Ac):Fn prog 228 [pV b,xY x] (N0 b T::F) λv l'=>v=iV (Iv T x).1/\l'=N0 b (Iv T x).2::F:=by
 refine AN func228 ntmps228 λE=>?_;refine Aj ?_
 (first|refine AS (Ez rfl rfl) ?_|refine AS (CH rfl) ?_);rintro _ _ ⟨b3,_,rfl,rfl⟩
 by_cases hb:Rp x
 ·rw[show Iv T x=(2,T) by unfold Iv;rw[Ad hb]];unfold Rp at hb;refine Aj ?_;iterate 7
   all_goals first
    |(refine Abm rfl rfl rfl rfl (λ_=>?_) (λ_=>?_))
    |(refine Abn rfl rfl rfl rfl (λ_=>?_) (λ_=>?_))
    |(refine kV rfl (λ_=>?_) (λ_=>?_))
    |skip
   all_goals refine Aj ?_
  all_goals first
   |exact qr
   |(exfalso;rcases hb with h|h|h|h|h|h<;>first|omega|(simp_all;done))
 obtain⟨z1,z2,z3,z4,z5,z6⟩:1<=x.sp/\0<=x.pg/\x.pg<512/\0<=x.fr/\x.fr<64/\¬(x.rd=false/\x.wr=false):=by unfold Rp at hb;refine⟨Af,Af,Af,Af,Af,λh=>hb ?_⟩;simp[h]
 obtain⟨s,hs,hs4⟩: ∃s:Nat,x.pg%4=s/\s<4:=⟨(x.pg%4).toNat,Af,Af⟩
 have hx:=x5 T hs4;have vW:=xZ T hs4;have e4:(x.pg%4).toNat=s:=by omega
 refine Aj ?_;refine Abn rfl rfl rfl rfl (λh1=>?_) (λh1=>?_);all_goals refine Aj ?_
 case' refine_1=>refine kV rfl (λh2=>(by exfalso;simp_all)) (λh2=>?_)
 all_goals refine Aj ?_
 all_goals
  refine IB ?_;iterate 4 refine pY ?_
  rw[hs];refine BM ?_;refine Aj ?_;refine Bh (GT (zs:=[.bool false,.bool false]) (cs:=[.bool false,.bool true]) rfl rfl) ?_;refine Aj ?_;refine Ie 2 ?_;refine Aj ?_;refine Bh (bU rfl rfl AX rfl) ?_;refine Aj ?_;refine Bh (Dt (n:=10) rfl (.tail _ (.head _)) (by rw[Kn];omega) hx) ?_;refine Aj ?_;refine CN (α:=Nat) (λk=>[(0,pV b),(3,pV b3),(5,.pointer (some ⟨b,s*11,none⟩)),(6,.int .i64 (-1)),(8,.bool false),(55,.agg (toArray [.bool false,.bool true])),(56,.int .i64 0),(62,.agg (toArray (Re (T.w (2*s))++Re (T.w (2*s+1))))),(63,.int .i64 (k:Nat))]) (λ_=>Lp b3 x::N0 b T::F) (λk=>k<=2/\ ∀j,j<k->¬((T.w (2*s+j)).sp=x.sp/\(T.w (2*s+j)).pg=x.pg)) (λk=>2-k) 0 ⟨Af,λj hj=>by omega⟩ ⟨rfl,rfl,rfl,rfl,rfl,rfl,rfl,rfl,rfl,trivial⟩ .refl ?_;rintro k ⟨hk,hn⟩;by_cases LA:k<2
  ·refine Aj ?_;refine Bh (bT (i:=k) (ws:=Re (T.w (2*s+k))) rfl rfl LA (by rcases k with _|_|k<;>first|rfl|omega)) ?_;refine AQ λGd=>?_;by_cases P:(T.w (2*s+k)).sp=x.sp/\(T.w (2*s+k)).pg=x.pg
   ·rw[x6 hb e4 LA hn P];obtain⟨p0,q0⟩:=P;refine Aj ?_;refine CA (Cu [6] 0 7) ?_;refine Yu ?_;refine Yu ?_;refine dX ?_;iterate 3 refine Yu ?_
    refine lr ?_ (EH (n:=5) (b:=b) (ws:=toArray (Re x)) (cs:=toArray (Sz T)) rfl rfl rfl (by simp[Value.oneCell']) (by rw[show(toArray (Re x)).toList=Re x from rfl,show s*11+k*5=Jq (2*s+k) by unfold Jq;omega,Zj T Af];exact DY) (by rw[Kn];omega));refine Rd ?_;refine Aj ?_;exact qr
   have kh: ∀j,j<k+1->¬((T.w (2*s+j)).sp=x.sp/\(T.w (2*s+j)).pg=x.pg):=λj hj=>by
    by_cases e:j=k
    ·subst e;exact P
    ·exact hn j Af
   have hp0:(T.w (2*s+k)).sp=x.sp->¬(T.w (2*s+k)).pg=x.pg:=λa c=>P ⟨a,c⟩;by_cases p0:(T.w (2*s+k)).sp=x.sp
   case' pos=>have q0:=hp0 p0
   all_goals
    refine Aj ?_;exact BO (k+1) ⟨Af,kh⟩ Af ⟨rfl,rfl,rfl,rfl,rfl,rfl,rfl,rfl,rfl,trivial⟩ (.drop .refl)
  obtain rfl:k=2:=by omega
  refine Aj ?_;refine E9 ?_;refine Aj ?_;rw[show(0:Int)+1=1 from rfl];refine Bh (bU (i:=1) rfl rfl AX rfl) ?_;refine Aj ?_;refine Bh (Dt (n:=10) rfl (.tail _ (.head _)) (by rw[Kn];omega) hx) ?_;refine Aj ?_;refine CN (α:=Nat) (λk=>[(0,pV b),(3,pV b3),(5,.pointer (some ⟨b,s*11,none⟩)),(6,.int .i64 (-1)),(8,.bool true),(55,.agg (toArray [.bool false,.bool true])),(56,.int .i64 1),(62,.agg (toArray (Re (T.w (2*s))++Re (T.w (2*s+1))))),(63,.int .i64 (k:Nat))]) (λ_=>Lp b3 x::N0 b T::F) (λk=>k<=2/\ ∀j,j<k->¬(T.w (2*s+j)).sp=0) (λk=>2-k) 0 ⟨Af,λj hj=>by omega⟩ ⟨rfl,rfl,rfl,rfl,rfl,rfl,rfl,rfl,rfl,trivial⟩ .refl ?_;rintro k ⟨hk,hz⟩;by_cases LA:k<2
  ·refine Aj ?_;refine Bh (bT (i:=k) (ws:=Re (T.w (2*s+k))) rfl rfl LA (by rcases k with _|_|k<;>first|rfl|omega)) ?_;refine AQ λGd=>?_;by_cases z0:(T.w (2*s+k)).sp=0
   ·rw[x7 hb e4 LA hn hz z0];refine Aj ?_;refine CA (Cu [6] 0 7) ?_;refine Yu ?_;refine Yu ?_;refine dX ?_;iterate 3 refine Yu ?_
    refine lr ?_ (EH (n:=5) (b:=b) (ws:=toArray (Re x)) (cs:=toArray (Sz T)) rfl rfl rfl (by simp[Value.oneCell']) (by rw[show(toArray (Re x)).toList=Re x from rfl,show s*11+k*5=Jq (2*s+k) by unfold Jq;omega,Zj T Af];exact DY) (by rw[Kn];omega));refine Rd ?_;refine Aj ?_;exact qr
   ·refine Aj ?_;exact BO (k+1) ⟨Af,λj hj=>by by_cases e:j=k;subst e;exact z0;exact hz j Af⟩ Af ⟨rfl,rfl,rfl,rfl,rfl,rfl,rfl,rfl,rfl,trivial⟩ (.drop .refl)
  obtain rfl:k=2:=by omega
  rw[x8 hb e4 hn hz];have hds:=hd s hs4;refine Aj ?_;refine E9 ?_;refine Aj ?_;refine M9 (Du (b:=b) (off:=s*11+10) (cs:=toArray (Sz T)) (l':=Lp b3 x::N0 b {T with d:=Qu.upd T.d s ((T.d s+1)%2)}::F) rfl rfl rfl (by rw[Ab1 T hs4];exact DY) (by rw[Kn];omega)) rfl rfl ?_;rintro _ _ ⟨rfl,rfl⟩;refine Aj ?_;refine CA (Cu [6] 0 7) ?_;refine Yu ?_;refine Yu ?_;refine dX ?_;iterate 3 refine Yu ?_
  refine lr ?_ (EH (n:=5) (b:=b) (ws:=toArray (Re x)) (cs:=toArray (Sz {T with d:=Qu.upd T.d s ((T.d s+1)%2)})) rfl rfl rfl (by simp[Value.oneCell']) (by rw[show(toArray (Re x)).toList=Re x from rfl,show s*11+(T.d s).toNat*5=Jq (2*s+(T.d s).toNat) by unfold Jq;omega,Zj {T with d:=Qu.upd T.d s ((T.d s+1)%2)} Af];exact DY) (by rw[Kn];omega));refine Rd ?_;refine Aj ?_;exact qr
theorem nt{α:Type}{enc:α->Ap}{m j:Nat}(hm: ∀x,(enc x).length=m)(hj:j<m)(sp:Ap): ∀{L:List α} {i:Nat} {x:α},L[i]?=some x->(toArray (L.flatMap enc++sp))[i*m+j]?=(enc x)[j]?
 |a::L,0,x,h=>by cases h;rw[AE,Cz,Am,AH (by rw[hm];omega),GO,BF]
 |a::L,i+1,x,h=>by
  have ih:=nt hm hj sp (L:=L) (i:=i) (x:=x) (by simpa using h);rw[AE] at ih⊢;have e:(i+1)*m+j-m=i*m+j:=by rw[Fp];omega
  rw[Cz,Am,AY (by rw[hm,Fp];omega),hm,e];exact ih
theorem nu{α:Type}{enc:α->Ap}{m j:Nat}{v:Value}(hm: ∀x,(enc x).length=m)(hj:j<m)(sp:Ap): ∀{L:List α} {i:Nat} {x x':α},L[i]?=some x->(enc x).set j v=enc x'->(L.flatMap enc++sp).set (i*m+j) v=(L.set i x').flatMap enc++sp
 |a::L,0,x,x',h,he=>by cases h;rw[Cz,Am,Hr _ _ (by rw[hm];omega),GO,BF,he,Fy,Cz,Am]
 |a::L,i+1,x,x',h,he=>by
  have ih:=nu hm hj sp (L:=L) (i:=i) (x:=x) (x':=x') (by simpa using h) he;have e:(i+1)*m+j-m=i*m+j:=by rw[Fp];omega
  rw[Cz,Am,Cv _ _ (by rw[hm,Fp];omega),hm,e,ih,ID,Cz,Am]
abbrev UZ(gb:Nat)(ks:List (HX×Nat))(sp:Ap):Bd:=(gb,.cells (toArray (ks.flatMap Qj++sp)) 309 (0,0))
def eY(b gb cap:Nat)(sp:Ap)(ks:List (HX×Nat)):Ac:=TA b (.slice (some ⟨gb,0,none⟩) ks.length cap)::UZ gb ks sp::GI ks
abbrev QC(ks:List (HX×Nat)):Prop:= ∀c,c∈ks-> ∀s,s<4->c.1.tb.d s=0\/c.1.tb.d s=1
theorem Xn(ks:List (HX×Nat)):(ks.flatMap Qj).length=ks.length*3:=by
 induction ks with
 |nil=>rfl
 |cons c ks ih=>rw[Cz,Ah,ih,Bu];simp;omega
theorem IsCos.form{K:List HX}{lq:Ac}(h:IsCos b K lq)(h1:1<=K.length): ∃gb cap sp ks,ks.map Prod.fst=K/\QC ks/\lq=eY b gb cap sp ks/\ks.length<=cap/\cap<=maxLen/\ks.length*3+sp.length=cap*3:=by
 obtain⟨v,cs,ks,rfl,⟨ho,⟨_,h0,_⟩|⟨gb,cap,sp,rfl,rfl,z1,z2,z3⟩⟩,hd,rfl⟩:=h
 ·rw[A7] at h1;omega
 ·exact⟨gb,cap,sp,ks,rfl,hd,rfl,z1,z2,by rw[<-z3,Ah,ho]⟩
theorem IsCos.of(hd:QC ks)(h1:ks.length<=cap)(h2:cap<=maxLen)(h3:ks.length*3+sp.length=cap*3):IsCos b (ks.map Prod.fst) (eY b gb cap sp ks):=
 ⟨_,_,ks,rfl,⟨Xn ks,.inr ⟨gb,cap,sp,rfl,rfl,h1,h2,by rw[Ah,Xn,h3]⟩⟩,hd,rfl⟩
section
variable{s:RL}
theorem lfC{x:Value}{K':List HX}(hK:IsK F C k S p s)(hk:k'<=k)(h: ∀gb cap sp ks G,ks.map Prod.fst=S.K->QC ks->(∀c,c∈s.M->c∈G)->Fn prog f vs (eY p.c gb cap sp ks++G) λv l'=>v=x/\ ∃wJ X,wJ.map Prod.fst=K'/\QC wJ/\wJ.length=ks.length/\l'=X++(eY p.c gb cap sp wJ++G)):Fn prog f vs (Ax b p s S G) (KK F C b p k' x {S with K:=K'} G):=by obtain⟨gb,cap,sp,ks,e1,hd,hC,h1,h2,h3⟩:=hK.co.form (by have:=hK.kl;have:=hK.c1;omega);exact Fn.re (.of_perm (by unfold Ax;rw[hC];exact BX)) (h gb cap sp ks (CF b p::As.asA p.n S.N::(s.M++(s.A++(s.H++(s.T++(s.Q++(s.E++(s.V++G)))))))) e1 hd (λc hc=>by simp[hc])) λv l' ⟨g1,wJ,X,g2,g3,g4,g5⟩=>⟨Ax b p {s with C:=eY p.c gb cap sp wJ} {S with K:=K'} (X++G),by rw[g5];unfold Ax;exact A8 [],g1,{s with C:=eY p.c gb cap sp wJ},_,{hK.mono hk with co:=by rw[<-g2];exact .of g3 (by rw[g4];exact h1) h2 (by rw[g4];exact h3),kl:=by rw[<-hK.kl,<-g2,<-e1,A7,A7,g4]},⟨X,rfl⟩,rfl⟩
theorem nv:TA b (.slice (some ⟨gb,0,none⟩) ks.length cap)∈eY b gb cap sp ks:= .head _
theorem Ab3:UZ gb ks sp∈eY b gb cap sp ks:= .tail _ (.head _)
theorem nw(b gb n cap:Nat)(l:Ac)(m1:TA b (.slice (some ⟨gb,0,none⟩) n cap)∈l):Fn prog 100 [pV b] l λv l'=>v=iV (n:Nat)/\l'=l:=by refine AN func100 ntmps100 λE=>?_;refine Aj ?_;exact qr
instance[h:IsK F C k S p s]:QF prog 100 [pV p.c] (Ax b p s S G) (iV (S.K.length:Nat)):=⟨λl hl=>by obtain⟨gb,cap,sp,ks,e1,hd,hC,h1,h2,h3⟩:=h.co.form (by have:=h.kl;have:=h.c1;omega);rw[<-e1,A7];exact nw p.c gb ks.length cap l (mC hl _ (by rw[hC];exact nv))⟩
abbrev iP(gb n:Nat)(i:Int):Value:= .pointer (if i<0\/i>=n then none else some ⟨gb,i.toNat*3,none⟩)
theorem SM(b gb n cap:Nat)(i:Int)(l:Ac)(m1:TA b (.slice (some ⟨gb,0,none⟩) n cap)∈l):Fn prog 163 [pV b,.int .i64 i] l λv l'=>v= .tuple #[iP gb n i,iV (if i<0\/i>=n then 3 else 0)]/\l'=l:=by
 unfold iP;refine AN func163 ntmps163 λE=>?_;by_cases h1:i<0
 ·rw[Ad (.inl h1),Ad (.inl h1)];refine Aj ?_;exact qr
 by_cases h2:i>=n
 ·rw[Ad (.inr h2),Ad (.inr h2)];refine Aj ?_;exact qr
 rw[Ab Af,Ab Af];obtain⟨i,rfl⟩: ∃q:Nat,i=q:=⟨i.toNat,Af⟩
 refine Aj ?_;exact qr
theorem ny(h:ks[i]?=some c)(hj:j<3)(he:(Qj c).set j v=Qj c'):(toArray (ks.flatMap Qj++sp)).setIfInBounds (i*3+j) v=toArray ((ks.set i c').flatMap Qj++sp):=by rw[BB,nu (enc:=Qj) (m:=3) (λ_=>rfl) hj sp h he]
theorem PU(h:ks[i]?=some c)(hj:j<3):(toArray (ks.flatMap Qj++sp))[i*3+j]?=(Qj c)[j]?:=nt (enc:=Qj) (m:=3) (λ_=>rfl) hj sp h
theorem Xo(h:QC ks)(h2: ∀s,s<4->c'.1.tb.d s=0\/c'.1.tb.d s=1):QC (ks.set i c'):=λc hc=>by
 rcases CQ hc with h1|h1
 ·exact h c h1
 ·rw[h1];exact h2
theorem nz{r sp:Int}(h:ks[i]?=some c):GI (ks.set i ({c.1 with ro:=r,sp:=sp},c.2))=GI ks:=by
 unfold GI;rw[HT];refine CI λj=>?_;rw[EP]
 split
 ·rename_i e;subst e;have hl:=(Ay.1 h).1;rw[Ad (by rw[A7];exact hl),A6,h];rfl
 ·rfl
theorem nA(hK:IsK F C k S p s)(n root sp:Int):Fn prog 111 [pV p.c,.int .i64 n,.int .i64 root,.int .i64 sp] (Ax b p s S G) (KK F C b p k (iV (setC S.K n root sp).1) {S with K:=(setC S.K n root sp).2} G):=by
 refine lfC hK (Bf _) λgb cap Id ks G e1 hd _=>?_;have hl:S.K.length=ks.length:=by rw[<-e1,A7]
 refine AN func111 ntmps111 λE=>?_;refine Aj ?_;refine tq (λl2 h2=>SM p.c gb ks.length cap n l2 (h2 _ (Ai _ nv))) ?_;unfold iP;by_cases hb:n<0\/n>=ks.length
 ·rw[Ad hb,Ad hb,show setC S.K n root sp=(3,S.K) by unfold setC JD;rw[hl,Ad (by rw[Ad hb];decide)]];refine Aj ?_;exact Bb .refl ⟨rfl,ks,[],e1,hd,rfl,rfl⟩
 rw[Ab hb,Ab hb];have e0:¬¬JD S.K n=0:=by unfold JD;rw[hl,Ab hb];decide
 obtain⟨i,rfl⟩: ∃q:Nat,n=q:=⟨n.toNat,Af⟩
 by_cases hr:KJ root sp
 case neg=>
  rw[show setC S.K i root sp=(2,S.K) by unfold setC;rw[Ab e0,Ad hr]];unfold KJ at hr;by_cases h1:root= -1<;>by_cases h2:sp=0<;>by_cases h3:root<0<;>by_cases h4:root>=64<;>by_cases h5:sp<1;all_goals first
   |(exfalso;omega)
   |(refine Aj ?_
     try(rw[show(!decide (sp=0))=true by simp[h2]];refine Aj ?_)
     exact Bb .refl ⟨rfl,ks,[],e1,hd,rfl,rfl⟩)
 have hi:i<ks.length:=by omega
 have h0:ks[i]?=some ks[i]:=Al hi;obtain⟨c,hc⟩: ∃c,ks[i]=c:=⟨_,rfl⟩
 rw[hc] at h0;have pU:K5 S.K (i:Nat)=c.1:=by unfold K5;rw[A0,<-e1,List.getD,A6,h0];rfl
 rw[show setC S.K i root sp=(0,S.K.set i {c.1 with ro:=root,sp:=sp}) by unfold setC;rw[Ab e0,Ab (Gm hr),pU,A0]];have s0:=ny (sp:=Id) (v:=iV root) (c':=({c.1 with ro:=root},c.2)) h0 (j:=0) AX rfl;have g1:(ks.set i ({c.1 with ro:=root},c.2))[i]?=some ({c.1 with ro:=root},c.2):=by rw[CD hi]
 have s1:=ny (sp:=Id) (v:=iV sp) (c':=({c.1 with ro:=root,sp:=sp},c.2)) g1 (j:=1) AX rfl;rw[KO] at s1;have hds:QC (ks.set i ({c.1 with ro:=root,sp:=sp},c.2)):=Xo hd λs hs=>hd c (by rw[<-hc];exact GB hi) s hs;have wA:(ks.set i ({c.1 with ro:=root,sp:=sp},c.2)).map Prod.fst=S.K.set i {c.1 with ro:=root,sp:=sp}:=by rw[HT,e1]
 have Oz:=nz (r:=root) (sp:=sp) h0;unfold KJ at hr;by_cases h1:root= -1<;>by_cases h2:sp=0<;>by_cases h3:root<0<;>by_cases h4:root>=64<;>by_cases h5:sp<1;all_goals first
  |(exfalso;omega)
  |(refine Aj ?_
    try(rw[show(!decide (sp=0))=false by simp[h2]];refine Aj ?_)
    try(rw[show(!decide (sp=0))=true by simp[h2]];refine Aj ?_)
    refine M9 (Du (cs:=toArray (ks.flatMap Qj++Id)) (l':=TA p.c (.slice (some ⟨gb,0,none⟩) ks.length cap)::UZ gb (ks.set i ({c.1 with ro:=root},c.2)) Id::(GI ks++G)) (b:=gb) (off:=i*3) rfl rfl rfl (by rw[show i*3=i*3+0 from rfl,s0];exact .there .here) (by rw[Bv,Ah,Xn];(try rw[Ce]);omega)) rfl rfl ?_;rintro _ _ ⟨rfl,rfl⟩;refine Aj ?_;refine M9 (Du (cs:=toArray ((ks.set i ({c.1 with ro:=root},c.2)).flatMap Qj++Id)) (l':=TA p.c (.slice (some ⟨gb,0,none⟩) ks.length cap)::UZ gb (ks.set i ({c.1 with ro:=root,sp:=sp},c.2)) Id::(GI ks++G)) (b:=gb) (off:=i*3+1) rfl rfl rfl (by rw[s1];exact .there .here) (by rw[Bv,Ah,Xn];(try rw[Ce]);omega)) rfl rfl ?_;rintro _ _ ⟨rfl,rfl⟩;refine Aj ?_;exact BE [] rfl .refl (by exact Ba) ⟨rfl,_,[],wA,hds,by simp,by unfold eY;rw[Oz,Ce];rfl⟩)
instance{n root sp:Int}:EK prog F C b p 111 [pV p.c,.int .i64 n,.int .i64 root,.int .i64 sp] k S k (iV (setC S.K n root sp).1) {S with K:=(setC S.K n root sp).2}:=⟨λs G h=>nA h n root sp⟩
instance[h:IsK F C k S p s]{n:Int}:QF prog 256 [pV p.c,.int .i64 n] (Ax b p s S G) (.tuple #[iV (Km S.K n).1,iV (Km S.K n).2.1,iV (Km S.K n).2.2]):=⟨λl hm=>by
 obtain⟨gb,cap,sp,ks,e1,hd,hC,h1,h2,h3⟩:=h.co.form (by have:=h.kl;have:=h.c1;omega);have hl:S.K.length=ks.length:=by rw[<-e1,A7]
 have m1:=mC hm _ (by rw[hC];exact nv);have m2:=mC hm _ (by rw[hC];exact Ab3);refine AN func256 ntmps256 λE=>?_;refine Aj ?_;refine tq (λl2 h2=>SM p.c gb ks.length cap n l2 (h2 _ m1)) ?_;unfold iP;by_cases hb:n<0\/n>=ks.length
 ·rw[Ad hb,Ad hb,show Km S.K n=(0,0,3) by unfold Km JD;rw[hl,Ad (by rw[Ad hb];decide)]];refine Aj ?_;exact qr
 rw[Ab hb,Ab hb];obtain⟨i,rfl⟩: ∃q:Nat,n=q:=⟨n.toNat,Af⟩
 rw[A0];have hi:i<ks.length:=by omega
 obtain⟨c,h0⟩: ∃c,ks[i]?=some c:=⟨_,Al hi⟩
 have pU:K5 S.K (i:Nat)=c.1:=by unfold K5;rw[A0,<-e1,List.getD,A6,h0];rfl
 rw[show Km S.K i=(c.1.ro,c.1.sp,0) by unfold Km JD;rw[hl,Ab (by rw[Ab hb];decide),pU]];have c0:(toArray (ks.flatMap Qj++sp))[i*3]?=some (iV c.1.ro):=PU h0 (j:=0) AX;have c1:(toArray (ks.flatMap Qj++sp))[i*3+1]?=some (iV c.1.sp):=PU h0 (j:=1) AX;refine Aj ?_;refine IB ?_;refine BM ?_;refine Aj ?_;exact qr⟩
end
theorem eZ(h:ks[i]?=some c): ∃A B,GI ks=A++N0 c.2 c.1.tb::B/\ ∀T',GI (ks.set i ({c.1 with tb:=T'},c.2))=A++N0 c.2 T'::B:=by
 have hl:=(Ay.1 h).1;refine⟨(GI ks).take i,(GI ks).drop (i+1),?_,λT'=>?_⟩
 ·have hm:(GI ks)[i]?=some (N0 c.2 c.1.tb):=by unfold GI;rw[A6,h];rfl
  conv=>lhs;rw[<-Cp i (GI ks)]
  rw[Di (by simpa[GI] using hl)];rw[Ay] at hm;obtain⟨_,hm⟩:=hm;rw[hm]
 ·unfold GI;rw[HT,I6,Ad (by simpa using hl)]
theorem fnC{x:Value}{T':LC}{l Z:Ac}(h0:ks[i]?=some c)(h: ∀F,Fn prog f vs (N0 c.2 c.1.tb::F) λv l'=>v=x/\l'=N0 c.2 T'::F)(hF:Fr1 (GI ks++Z) l Γ:=by exact eJ):Fn prog f vs l λv l'=>v=x/\l'=Γ (GI (ks.set i ({c.1 with tb:=T'},c.2))++Z):=by
 obtain⟨A,B,e1,e2⟩:=eZ h0;obtain⟨A1,rfl,hA⟩:=hF.eq;rw[e1];refine Fn.re (.of_perm (by exact BX:(A1++(A++N0 c.2 c.1.tb::B++Z)).Perm (N0 c.2 c.1.tb::(A1++(A++(B++Z)))))) (h (A1++(A++(B++Z)))) λv l' ⟨h1,h2⟩=>⟨_,?_,h1,rfl⟩
 rw[h2,hA,e2];exact A8 []
theorem vz(ks:List (HX×Nat))(h:ks[i]?=some c)(T':LC):(ks.set i ({c.1 with tb:=T'},c.2)).flatMap Qj=ks.flatMap Qj:=by
 induction ks generalizing i with
 |nil=>cases h
 |cons a ks ih=>
  cases i with
  |zero=>cases h;rfl
  |succ i=>rw[ID,Cz,Cz,ih (by simpa using h)]
theorem nB(h: ∀s,s<4->T.d s=0\/T.d s=1)(x:MJ): ∀s,s<4->(Iv T x).2.d s=0\/(Iv T x).2.d s=1:=by
 intro s hs;unfold Iv
 split
 ·exact h s hs
 split
 ·exact h s hs
 ·rename_i hb _ _;unfold Rp at hb;have h4:(x.pg%4).toNat<4:=by omega
  simp only[Qu.upd]
  split
  ·have:=h _ h4;omega
  ·exact h s hs
section
variable{s:RL}
theorem bZ(hK:IsK F C k S p s)(n pg:Int):Fn prog 162 [pV p.c,.int .i64 n,pV p.m,.int .i64 pg] (Ax b p s S G) (KK F C b p k (.tuple #[xY (B9 S.K S.W n pg).1.1,.bool (B9 S.K S.W n pg).1.2.1,iV (B9 S.K S.W n pg).1.2.2]) {S with K:=(B9 S.K S.W n pg).2} G):=by
 obtain⟨mb,f1,f2,hW,hu,hM⟩:=hK.mem;refine lfC hK (Bf _) λgb cap Id ks G e1 hd hG=>?_;have m1:Pz p.m mb F∈G:=hG _ (by rw[hM];simp);have m2:Ug mb S.W∈G:=hG _ (by rw[hM];simp);have hl:S.K.length=ks.length:=by rw[<-e1,A7]
 show Fn _ _ _ (TA p.c (.slice (some ⟨gb,0,none⟩) ks.length cap)::UZ gb ks Id::(GI ks++G)) _;refine AN func162 ntmps162 λE=>?_;refine AQ λb8=>?_;refine tq (λl2 h2=>SM p.c gb ks.length cap n l2 (h2 _ (.tail _ (.head _)))) ?_;unfold iP;have ret: ∀(A:Ac),A++TA p.c (.slice (some ⟨gb,0,none⟩) ks.length cap)::UZ gb ks Id::(GI ks++G)=A++(eY p.c gb cap Id ks++G):=λ_=>rfl;by_cases hb:n<0\/n>=ks.length
 ·rw[Ad hb,Ad hb,show B9 S.K S.W n pg=((Q3,false,3),S.K) by unfold B9 JD;rw[hl,Ad (by rw[Ad hb];decide)]];refine Aj ?_;exact Bb .refl ⟨rfl,ks,[Lp b8 Q3],e1,hd,rfl,rfl⟩
 rw[Ab hb,Ab hb];have e0:¬¬JD S.K n=0:=by unfold JD;rw[hl,Ab hb];decide
 obtain⟨i,rfl⟩: ∃q:Nat,n=q:=⟨n.toNat,Af⟩
 have hi:i<ks.length:=by omega
 obtain⟨c,h0⟩: ∃c,ks[i]?=some c:=⟨_,Al hi⟩
 have UV:c∈ks:=Bc h0;have pU:K5 S.K (i:Nat)=c.1:=by unfold K5;rw[A0,<-e1,List.getD,A6,h0];rfl
 rw[A0];have c0:(toArray (ks.flatMap Qj++Id))[i*3]?=some (iV c.1.ro):=PU h0 (j:=0) AX;have c1:(toArray (ks.flatMap Qj++Id))[i*3+1]?=some (iV c.1.sp):=PU h0 (j:=1) AX;have c2:(toArray (ks.flatMap Qj++Id))[i*3+2]?=some (pV c.2):=PU h0 (j:=2) AX;obtain⟨A,B,eA,eB⟩:=eZ h0;have mt:N0 c.2 c.1.tb∈GI ks++G:=by rw[eA];simp
 by_cases hp:pg<0\/pg>=512
 ·rw[show B9 S.K S.W i pg=((Q3,false,3),S.K) by unfold B9;rw[Ab e0,Ad hp]];by_cases h1:pg<0<;>by_cases h2:pg>=512;all_goals first
   |(exfalso;omega)
   |(refine Aj ?_
     exact Bb .refl ⟨rfl,ks,[Lp b8 Q3],e1,hd,rfl,rfl⟩)
 by_cases hr:c.1.ro<0
 ·rw[show B9 S.K S.W i pg=((Q3,false,19),S.K) by unfold B9;rw[Ab e0,Ab hp,pU,Ad hr]];refine Aj ?_;exact Bb .refl ⟨rfl,ks,[Lp b8 Q3],e1,hd,rfl,rfl⟩
 refine Aj ?_;refine CA (Cu [13,14] 0 16) ?_;refine CE ?_;refine dX ?_ (AL rfl rfl λl2 h2=>iM c.2 c.1.tb c.1.sp pg l2 (h2 _ (.tail _ (.tail _ (.tail _ mt)))));refine CE ?_;refine Ij e_alloc (by rintro _ _ ⟨_,_,_,rfl⟩ c hc;exact .tail _ hc) ?_;rintro _ _ ⟨WA,_,rfl,rfl⟩;refine CE ?_;obtain⟨x,hx⟩: ∃x,(KI c.1.tb c.1.sp pg).1=x:=⟨_,rfl⟩
 rw[hx];refine CE ?_;cases hf:(KI c.1.tb c.1.sp pg).2 with
 |true=>rw[show B9 S.K S.W i pg=((x,true,0),S.K) by unfold B9;rw[Ab e0,Ab hp,pU,Ab hr,Ad hf,hx]];refine Aj ?_;exact Bb .refl ⟨rfl,ks,[Lp WA x,Lp b8 x],e1,hd,rfl,rfl⟩
 |false=>
 refine Aj ?_;refine tq (λl2 h2=>iL p.m mb F S.W f2 hW hu c.1.ro pg l2 (h2 _ (.tail _ (.tail _ (.tail _ (.tail _ (Aa _ m1)))))) (h2 _ (.tail _ (.tail _ (.tail _ (.tail _ (Aa _ m2))))))) ?_;obtain⟨e,he⟩: ∃e,(KH S.W c.1.ro pg).1=e:=⟨_,rfl⟩
 rw[he];refine Aj ?_;refine AS e_alloc ?_;rintro _ _ ⟨ZY,_,rfl,rfl⟩;by_cases hw:(KH S.W c.1.ro pg).2=0
 case neg=>rw[show B9 S.K S.W i pg=((Q3,false,(KH S.W c.1.ro pg).2),S.K) by unfold B9;rw[Ab e0,Ab hp,pU,Ab hr,Ab (by rw[hf];decide),Ad hw]];refine Aj ?_;exact Bb .refl ⟨rfl,ks,[(ZY,Obj.cells (toArray (Ui e)) 389 (0,0)),Lp WA x,Lp b8 Q3],e1,hd,rfl,rfl⟩
 obtain⟨y,S8⟩: ∃y:MJ,y=⟨c.1.sp,pg,e.fr,e.rd,e.wr⟩:=⟨_,rfl⟩
 have hy:xR S.W c.1 pg=y:=by rw[S8];unfold xR;rw[he]
 rw[show B9 S.K S.W i pg=((y,false,0),S.K.set i {c.1 with tb:=(Iv c.1.tb y).2}) by unfold B9;rw[Ab e0,Ab hp,pU,Ab hr,Ab (by rw[hf];decide),Ab (Gm hw),hy,A0]];clear hy;subst S8;refine Aj ?_;refine CA (Cu [12,13] 0 14) ?_;refine CE ?_;refine Ij e_alloc (by rintro _ _ ⟨_,_,_,rfl⟩ c hc;exact .tail _ hc) ?_;rintro _ _ ⟨P4,_,rfl,rfl⟩;refine CE ?_;refine Aj ?_;refine CA (Cu [5] 0 6) ?_;refine CE ?_;refine LJ (Az rfl rfl (fnC h0 λF=>iO c.2 c.1.tb (hd c UV) ⟨c.1.sp,pg,e.fr,e.rd,e.wr⟩ F)) ?_;rintro _ _ ⟨rfl,rfl⟩;refine CE ?_;refine Aj ?_;obtain⟨y,S8⟩: ∃y:MJ,y=⟨c.1.sp,pg,e.fr,e.rd,e.wr⟩:=⟨_,rfl⟩
 rw[<-S8];refine BE [] rfl .refl (by exact Ba) ⟨by rw[S8];rfl,ks.set i ({c.1 with tb:=(Iv c.1.tb y).2},c.2),[Lp P4 y,(ZY,Obj.cells (toArray (Ui e)) 389 (0,0)),Lp WA x,Lp b8 y],by rw[HT,e1],Xo hd (nB (hd c UV) y),by simp,?_⟩;unfold eY UZ;rw[vz ks h0,Ce];subst S8;rfl
instance{n pg:Int}:EK prog F C b p 162 [pV p.c,.int .i64 n,pV p.m,.int .i64 pg] k S k (.tuple #[xY (B9 S.K S.W n pg).1.1,.bool (B9 S.K S.W n pg).1.2.1,iV (B9 S.K S.W n pg).1.2.2]) {S with K:=(B9 S.K S.W n pg).2}:=⟨λs G h=>bZ h n pg⟩
theorem nD(hK:IsK F C k S p s)(n pg:Int): ∃x,Fn prog 108 [pV p.c,.int .i64 n,pV p.m,.int .i64 pg] (Ax b p s S G) (KK F C b p k x {S with K:=(B9 S.K S.W n pg).2} G):=by
 refine⟨.bool (decide ((B9 S.K S.W n pg).1.2.2=0)&&!(B9 S.K S.W n pg).1.2.1),?_⟩;refine AN func108 ntmps108 λE=>?_;refine Aj ?_;refine Gi ?_;intro S1 s1 L1 hS EC DO GQ;refine AQ λb9=>?_;obtain⟨x,hx⟩: ∃x,(B9 S.K S.W n pg).1.2.1=x:=⟨_,rfl⟩
 obtain⟨e,he⟩: ∃e,(B9 S.K S.W n pg).1.2.2=e:=⟨_,rfl⟩
 rw[hx,he];by_cases h0:e=0;all_goals
  refine Aj ?_;exact A9
theorem sD(hK:IsK F C k S p s)(n st wy:Int):Fn prog 109 [pV p.c,.int .i64 n,.int .i64 st,.int .i64 wy] (Ax b p s S G) (KK F C b p k (.bool (nc S.K n st wy).1) {S with K:=(nc S.K n st wy).2} G):=by
 refine lfC hK (Bf _) λgb cap Id ks G e1 hd hG=>?_;have hl:S.K.length=ks.length:=by rw[<-e1,A7]
 show Fn _ _ _ (TA p.c (.slice (some ⟨gb,0,none⟩) ks.length cap)::UZ gb ks Id::(GI ks++G)) _;refine AN func109 ntmps109 λE=>?_;refine Aj ?_;refine tq (λl2 h2=>SM p.c gb ks.length cap n l2 (h2 _ (.head _))) ?_;unfold iP;by_cases hb:n<0\/n>=ks.length
 ·rw[Ad hb,Ad hb,show nc S.K n st wy=(false,S.K) by unfold nc JD;rw[hl,Ad (by rw[Ad hb];decide)]];refine Aj ?_;exact Bb .refl ⟨rfl,ks,[],e1,hd,rfl,rfl⟩
 rw[Ab hb,Ab hb];have e0:¬¬JD S.K n=0:=by unfold JD;rw[hl,Ab hb];decide
 obtain⟨i,rfl⟩: ∃q:Nat,n=q:=⟨n.toNat,Af⟩
 have hi:i<ks.length:=by omega
 obtain⟨c,h0⟩: ∃c,ks[i]?=some c:=⟨_,Al hi⟩
 have UV:c∈ks:=Bc h0;have pU:K5 S.K (i:Nat)=c.1:=by unfold K5;rw[A0,<-e1,List.getD,A6,h0];rfl
 rw[A0];have c2:(toArray (ks.flatMap Qj++Id))[i*3+2]?=some (pV c.2):=PU h0 (j:=2) AX;rw[show nc S.K i st wy=((Nu c.1.tb st wy).1,S.K.set i {c.1 with tb:=(Nu c.1.tb st wy).2}) by unfold nc;rw[Ab e0,pU,A0]];refine Aj ?_;refine JB (Az rfl rfl (fnC h0 (λF=>bW c.2 c.1.tb st wy F))) rfl rfl rfl ?_;rintro _ _ ⟨rfl,rfl⟩;refine Aj ?_;refine BE [] rfl .refl (by exact Ba) ⟨rfl,ks.set i ({c.1 with tb:=(Nu c.1.tb st wy).2},c.2),[],by rw[HT,e1],Xo hd (λs hs=>by unfold Nu;split<;>exact hd c UV s hs),by simp,?_⟩;unfold eY UZ;rw[vz ks h0,Ce];rfl
instance{n st wy:Int}:EK prog F C b p 109 [pV p.c,.int .i64 n,.int .i64 st,.int .i64 wy] k S k (.bool (nc S.K n st wy).1) {S with K:=(nc S.K n st wy).2}:=⟨λs G h=>sD h n st wy⟩
end
section
variable{fr:Fr}{l:Ac}{tbl:List (List Nat)}{g:Bool}{sp:FP}{pl:List BG}{d:Nat}{o:Oper}{K:Value->Ac->Prop}
theorem mzS{S:Ac}(hS: ∀c,c∈S->c∈l)(h:OpQ P ro N fr S o v)(hk:MP P ro N E ops Q tbl false ((i,S)::sp) pl ((d,v)::fr) ds l)(hw:o.guard=none:=by rfl)(hd:o.dst=some d:=by rfl)(hb:Nat.blt d N=true:=by rfl):MP P ro N E ops Q tbl g sp ((i,true,o)::pl) fr ds l:=
 ⟨λ_=>Gp h hS hw hd hb (hk.h λh=>by cases h)⟩
theorem sE{α:Type}{L:List α}{x z:α}(h:x∈L)(hz:L.getLast?=some z):x∈L.dropLast\/x=z:=by
 have He:L≠[]:=List.ne_nil_of_mem h;rw[<-G6 He] at h;rcases AF.1 h with h|h
 ·exact .inl h
 ·right;rw[AC.1 h];rw[List.getLast?_eq_some_getLast He] at hz;cases hz;rfl
theorem vA{S:Ac}(h:OpE P ro N fr l o K)(hS: ∀v l',K v l'-> ∀c,c∈S->c∈l')(hk: ∀v l',K v l'->MP P ro N E ops Q tbl false sp pl ((d,v)::fr) ds l')(hl:sp.getLast?=some (j,S):=by rfl)(hw:o.guard=none:=by rfl)(hd:o.dst=some d:=by rfl)(hb:Nat.blt d N=true:=by rfl)(ha:(sp.dropLast.map Prod.fst).all (λq=>FD tbl i q)=true:=by kernel_rfl):MP P ro N E ops Q tbl g sp ((i,false,o)::pl) fr ds l:=
 ⟨λ_=>G9 h hw hd hb (λ_ _ _ _ h=>nomatch h) (λv l' k x hx hn=>by
   rcases sE hx hl with hx|rfl
   ·rw[A5.1 ha x.1 (Av.2 ⟨x,hx,rfl⟩)] at hn;cases hn
   ·exact hS v l' k) λv l' k=>(hk v l' k).h λh=>by cases h⟩
end
abbrev p9(B b:Nat):Bd:=(B,.cells (toArray [pV b]) 154 (0,0))
theorem Ur(b:Nat)(l:Ac):Fn prog 340 [pV b] l λv l'=> ∃B,v= .func (.func 374) #[] #[pV B]/\l'=p9 B b::l:=by refine AN func340 ntmps340 λE=>?_;refine AQ λb1=>?_;exact Bb .refl ⟨_,rfl,rfl⟩
theorem fb{n:Nat}(h:j<n):(List.range n).take (j+1)=(List.range n).take j++[j]:=by rw[Ch,Fh h];rfl
theorem RN(B b gb cap:Nat)(sp:Ap)(ks:List (HX×Nat))(hn:ks.length<=3):FC prog 374 [pV B] (λk:Nat=>[pV ((ks.getD k (SI,0)).2)]) (λxs=>xs=List.range ks.length) (λpre=>pre<+:List.range ks.length)
 (λ_ l=>p9 B b∈l/\TA b (.slice (some ⟨gb,0,none⟩) ks.length cap)∈l/\UZ gb ks sp∈l):=by
 refine⟨λr I Ix G0 Cb hY l G hG h0=>?_⟩;obtain⟨n1,n2,n3⟩:=Cb _ _ G hG h0;refine AN func374 ntmps374 λE=>?_;refine Aj ?_;refine CN (α:=Nat×Ac) (λx=>[(0,.func (.yield r) #[] #[]),(1,pV B),(10,.int .i64 (ks.length:Nat)),(11,.int .i64 (x.1:Nat))]) (λx=>x.2++G) (λx=>x.1<=ks.length/\I ((List.range ks.length).take x.1) x.2) (λx=>ks.length-x.1) (0,l) ⟨Bp _,h0⟩ ⟨rfl,rfl,rfl,rfl,trivial⟩ .refl ?_;clear n1 n2 n3;rintro⟨i,l⟩ ⟨hi,hI⟩;simp only at hi hI⊢;obtain⟨n1,n2,n3⟩:=Cb _ _ G hG hI;by_cases C9:i<ks.length
 case neg=>
  obtain rfl:i=ks.length:=by omega
  rw[BD (by simp)] at hI;refine Aj ?_;exact Bb .refl ⟨l,rfl,.inl ⟨_,rfl,hI⟩⟩
 obtain⟨c,h0⟩: ∃c,ks[i]?=some c:=⟨_,Al C9⟩
 have c2:(toArray (ks.flatMap Qj++sp))[i*3+2]?=some (pV c.2):=PU h0 (j:=2) AX;have hy:=hY ((List.range ks.length).take i) i l G hG hI (by rw[<-fb C9];exact BK _ _);rw[show ks.getD i (SI,0)=c by rw[List.getD,h0];rfl] at hy;refine Aj ?_;refine JB (C5 rfl rfl hy) rfl rfl rfl ?_;rw[<-fb C9];rintro v _ ⟨l1,rfl,⟨rfl,LB⟩|⟨rfl,hx⟩⟩
 ·refine Aj ?_;exact BO (i+1,l1) ⟨by simp only;omega,LB⟩ (by simp only;omega) ⟨rfl,rfl,rfl,rfl,trivial⟩ .refl
 ·refine Aj ?_;exact Bb .refl ⟨l1,rfl,.inr ⟨_,BK _ _,hx⟩⟩
def Us(ks:List (HX×Nat))(f:MJ->Bool)(j:Nat):List (HX×Nat):=(ks.take j).map (λc=>({c.1 with tb:=PC c.1.tb f},c.2))++ks.drop j
def XP(ks:List (HX×Nat))(f:MJ->Bool)(j:Nat):Nat:=((ks.take j).map λc=>NI c.1.tb f).sum
theorem cf{f:MJ->Bool}(h:ks[j]?=some c):(Us ks f j)[j]?=some c/\Us ks f (j+1)=(Us ks f j).set j ({c.1 with tb:=PC c.1.tb f},c.2)/\XP ks f (j+1)=XP ks f j+NI c.1.tb f:=by
 have hl:=(Ay.1 h).1;have e1:ks.drop j=c::ks.drop (j+1):=by rw[Di hl];congr 1;exact(Ay.1 h).2
 have e2:ks.take (j+1)=ks.take j++[c]:=by rw[Ch,h];rfl
 have ln:((ks.take j).map λc:HX×Nat=>(({c.1 with tb:=PC c.1.tb f}:HX),c.2)).length=j:=by simp;omega
 refine⟨?_,?_,?_⟩
 ·unfold Us;rw[AY (by rw[ln];omega),ln,DV,e1];rfl
 ·unfold Us;rw[e2,e1,Cv _ _ (by rw[ln];omega),ln,DV,Aq,Am];rfl
 ·unfold XP;rw[e2,Aq,List.sum_append];simp
theorem SN(ks:List (HX×Nat))(f:MJ->Bool)(j:Nat):(Us ks f j).length=ks.length:=by unfold Us;simp;omega
theorem Xp(ks:List (HX×Nat))(f:MJ->Bool)(j:Nat):XP ks f j<=8*j:=by
 have h8: ∀T,NI T f<=8:=λT=>by unfold NI;exact BV (C8 _ _) (by simp)
 induction j with
 |zero=>simp[XP]
 |succ j ih=>
  cases h:ks[j]? with
  |some c=>rw[(cf (f:=f) h).2.2];have:=h8 c.1.tb;omega
  |none=>
   have:ks.take (j+1)=ks.take j:=by rw[Ch,h];simp
   unfold XP at ih⊢;rw[this];omega
theorem fc(ks:List (HX×Nat))(f:MJ->Bool):(Us ks f ks.length).map Prod.fst=IM (ks.map Prod.fst) f/\XP ks f ks.length=Rq (ks.map Prod.fst) f/\(Us ks f ks.length).flatMap Qj=ks.flatMap Qj/\(QC ks->QC (Us ks f ks.length)):=by unfold Us XP IM Rq;rw[BD (Bf _),DH (Bf _),Bj,CY,CY,CY];refine⟨rfl,rfl,by rw[List.flatMap_map],λh c hc=>?_⟩;obtain⟨y,hy,rfl⟩:=Av.1 hc;exact λs hs=>h y hy s hs
section
variable{s:RL}
theorem ck(hK:IsK F C k S p s)(sp pg:Int):Fn prog 300 [pV p.c,.int .i64 sp,.int .i64 pg] (Ax b p s S G) (KK F C b p k (iV (Rq S.K (KB sp pg):Nat)) {S with K:=IM S.K (KB sp pg)} G):=by
 have hC3:=hK.c1;have ZT:=hK.kl;refine lfC hK (Bf _) λgb cap Id ks G e1 hd hG=>?_;have hl:S.K.length=ks.length:=by rw[<-e1,A7]
 show Fn _ _ _ (TA p.c (.slice (some ⟨gb,0,none⟩) ks.length cap)::UZ gb ks Id::(GI ks++G)) _;obtain⟨q1,q2,q3,q4⟩:=fc ks (KB sp pg);rw[<-e1,<-q2];refine AN func300 ntmps300 λE=>?_;refine AQ λb4=>?_;refine AQ λb5=>?_;refine AQ λb7=>?_;refine AS (Az rfl rfl (Ur p.c _)) ?_;rintro _ _ ⟨B,rfl,rfl⟩;refine Aj ?_;refine Dg (α:=Nat) (ps:=[11]) (lb:=[pV B]) rfl (RN B p.c gb cap Id ks Af) (λ_=>rfl) rfl
  (λpre l=>l=p9 B p.c::BS b7 (XP ks (KB sp pg) pre.length:Nat)::BS b5 pg::BS b4 sp::TA p.c (.slice (some ⟨gb,0,none⟩) ks.length cap)::UZ gb ks Id::GI (Us ks (KB sp pg) pre.length))
  (λc pre l=>False)
  (p9 B p.c::BS b7 0::BS b5 pg::BS b4 sp::TA p.c (.slice (some ⟨gb,0,none⟩) ks.length cap)::UZ gb ks Id::GI ks) G (λpre l2 X2 hX h=>by subst h;exact⟨Ai _ (.head _),Ai _ (.tail _ (.tail _ (.tail _ (.tail _ (.head _))))),Ai _ (.tail _ (.tail _ (.tail _ (.tail _ (.tail _ (.head _))))))⟩) .refl (by simp[XP,Us]) ?_ ?_ ?_
 ·rintro E r0 FU pre x l' X ⟨fn,tmps,D,rfl⟩ hX rfl Dw;obtain⟨j,hj⟩: ∃j,pre.length=j:=⟨_,rfl⟩
  obtain⟨hx,hxF⟩:x=j/\j<ks.length:=by have h3:=JF Dw (i:=j) (by simp;omega);rw[Ic Af] at h3;have h4:=Dw.length_le;simp[hj] at h3 h4;omega
  subst hx;obtain⟨c,h0⟩: ∃c,ks[x]?=some c:=⟨_,Al hxF⟩
  obtain⟨d1,d2,d3⟩:=cf (f:=KB sp pg) h0;have LQ:=Xp ks (KB sp pg) x;have wK:=Xp ks (KB sp pg) (x+1);rw[d3] at wK;rw[hj,show ks.getD x (SI,0)=c by rw[List.getD,h0];rfl];simp only[DX,Ae,Ag];refine Em (l':=(r0,.loop (DR fn tmps [11].toArray _ _ D .ready none))::p9 B p.c::BS b7 (XP ks (KB sp pg) x:Nat)::BS b5 pg::BS b4 sp::TA p.c (.slice (some ⟨gb,0,none⟩) ks.length cap)::UZ gb ks Id::(GI (Us ks (KB sp pg) x)++X)) (.of_perm (AI (l₁:=_::_::_::_::_::_::GI (Us ks (KB sp pg) x)))) ?_;refine Aj ?_;refine CK .here ?_;refine Aj ?_;refine CA (Cu [4,6] 0 7) ?_;refine mzS (S:=[BS b7 (XP ks (KB sp pg) x:Nat)]) (by simp) (DS rfl (.head _) rfl) ?_;refine CE ?_;refine vA (Az rfl rfl (fnC d1 (λF=>bX c.2 c.1.tb sp pg F))) (by rintro _ _ ⟨_,rfl⟩ c hc;rw[AC.1 hc];exact .tail _ (.tail _ (.head _))) ?_;rintro _ _ ⟨rfl,rfl⟩;refine CE ?_;refine Aj ?_;refine Ci (p9 B p.c::BS b7 ((XP ks (KB sp pg) x:Nat)+(NI c.1.tb (KB sp pg):Nat))::BS b5 pg::BS b4 sp::TA p.c (.slice (some ⟨gb,0,none⟩) ks.length cap)::UZ gb ks Id::GI (Us ks (KB sp pg) (x+1))) (.of_perm ?_) (by rw[Ah,hj,Bl,d3];rfl);rw[d2];exact(AI (l₁:=_::_::_::_::_::_::GI _)).symm
 ·rintro D xs l' rfl rfl;rw[Fc];simp only[Ae];refine Aj ?_;refine AU [D] _ rfl (.refl) (by exact Ba) (.drop (.drop (.drop (.drop .refl)))) ⟨rfl,Us ks (KB sp pg) ks.length,[],by rw[q1],q4 hd,SN ..,?_⟩;unfold eY UZ;rw[q3,SN];rfl
 ·rintro D c pre l' Dw h;exact h.elim
theorem cm(hK:IsK F C k S p s)(sp:Int):Fn prog 335 [pV p.c,.int .i64 sp] (Ax b p s S G) (KK F C b p k (iV (Rq S.K (Q5 sp):Nat)) {S with K:=IM S.K (Q5 sp)} G):=by
 have hC3:=hK.c1;have ZT:=hK.kl;refine lfC hK (Bf _) λgb cap Id ks G e1 hd hG=>?_;have hl:S.K.length=ks.length:=by rw[<-e1,A7]
 show Fn _ _ _ (TA p.c (.slice (some ⟨gb,0,none⟩) ks.length cap)::UZ gb ks Id::(GI ks++G)) _;obtain⟨q1,q2,q3,q4⟩:=fc ks (Q5 sp);rw[<-e1,<-q2];refine AN func335 ntmps335 λE=>?_;refine AQ λb4=>?_;refine AQ λb7=>?_;refine AS (Az rfl rfl (Ur p.c _)) ?_;rintro _ _ ⟨B,rfl,rfl⟩;refine Aj ?_;refine Dg (α:=Nat) (ps:=[9]) (lb:=[pV B]) rfl (RN B p.c gb cap Id ks Af) (λ_=>rfl) rfl
  (λpre l=>l=p9 B p.c::BS b7 (XP ks (Q5 sp) pre.length:Nat)::BS b4 sp::TA p.c (.slice (some ⟨gb,0,none⟩) ks.length cap)::UZ gb ks Id::GI (Us ks (Q5 sp) pre.length))
  (λc pre l=>False)
  (p9 B p.c::BS b7 0::BS b4 sp::TA p.c (.slice (some ⟨gb,0,none⟩) ks.length cap)::UZ gb ks Id::GI ks) G (λpre l2 X2 hX h=>by subst h;exact⟨Ai _ (.head _),Ai _ (.tail _ (.tail _ (.tail _ (.head _)))),Ai _ (.tail _ (.tail _ (.tail _ (.tail _ (.head _)))))⟩) .refl (by simp[XP,Us]) ?_ ?_ ?_
 ·rintro E r0 FU pre x l' X ⟨fn,tmps,D,rfl⟩ hX rfl Dw;obtain⟨j,hj⟩: ∃j,pre.length=j:=⟨_,rfl⟩
  obtain⟨hx,hxF⟩:x=j/\j<ks.length:=by have h3:=JF Dw (i:=j) (by simp;omega);rw[Ic Af] at h3;have h4:=Dw.length_le;simp[hj] at h3 h4;omega
  subst hx;obtain⟨c,h0⟩: ∃c,ks[x]?=some c:=⟨_,Al hxF⟩
  obtain⟨d1,d2,d3⟩:=cf (f:=Q5 sp) h0;have LQ:=Xp ks (Q5 sp) x;have wK:=Xp ks (Q5 sp) (x+1);rw[d3] at wK;rw[hj,show ks.getD x (SI,0)=c by rw[List.getD,h0];rfl];simp only[DX,Ae,Ag];refine Em (l':=(r0,.loop (DR fn tmps [9].toArray _ _ D .ready none))::p9 B p.c::BS b7 (XP ks (Q5 sp) x:Nat)::BS b4 sp::TA p.c (.slice (some ⟨gb,0,none⟩) ks.length cap)::UZ gb ks Id::(GI (Us ks (Q5 sp) x)++X)) (.of_perm (AI (l₁:=_::_::_::_::_::GI (Us ks (Q5 sp) x)))) ?_;refine Aj ?_;refine CK .here ?_;refine Aj ?_;refine CA (Cu [3,5] 0 6) ?_;refine mzS (S:=[BS b7 (XP ks (Q5 sp) x:Nat)]) (by simp) (DS rfl (.head _) rfl) ?_;refine CE ?_;refine vA (Az rfl rfl (fnC d1 (λF=>bY c.2 c.1.tb sp F))) (by rintro _ _ ⟨_,rfl⟩ c hc;rw[AC.1 hc];exact .tail _ (.tail _ (.head _))) ?_;rintro _ _ ⟨rfl,rfl⟩;refine CE ?_;refine Aj ?_;refine Ci (p9 B p.c::BS b7 ((XP ks (Q5 sp) x:Nat)+(NI c.1.tb (Q5 sp):Nat))::BS b4 sp::TA p.c (.slice (some ⟨gb,0,none⟩) ks.length cap)::UZ gb ks Id::GI (Us ks (Q5 sp) (x+1))) (.of_perm ?_) (by rw[Ah,hj,Bl,d3];rfl);rw[d2];exact(AI (l₁:=_::_::_::_::_::GI _)).symm
 ·rintro D xs l' rfl rfl;rw[Fc];simp only[Ae];refine Aj ?_;refine AU [D] _ rfl (.refl) (by exact Ba) (.drop (.drop (.drop .refl))) ⟨rfl,Us ks (Q5 sp) ks.length,[],by rw[q1],q4 hd,SN ..,?_⟩;unfold eY UZ;rw[q3,SN];rfl
 ·rintro D c pre l' Dw h;exact h.elim
instance{sp pg:Int}:EK prog F C b p 300 [pV p.c,.int .i64 sp,.int .i64 pg] k S k (iV (Rq S.K (KB sp pg):Nat)) {S with K:=IM S.K (KB sp pg)}:=⟨λs G h=>ck h sp pg⟩
instance{sp:Int}:EK prog F C b p 335 [pV p.c,.int .i64 sp] k S k (iV (Rq S.K (Q5 sp):Nat)) {S with K:=IM S.K (Q5 sp)}:=⟨λs G h=>cm h sp⟩
end
def OK(S:KT)(id st:Int):Int×KT:=
 if(Th.findH S.T id).isSome=false\/st<0\/4<st then(2,S)
 else(0,if st=1 then{S with T:=(Th.setD S.T {Dq S id with st:=st}).2,Q:=(Qu.addQ S.Q id (Dq S id).pr).2} else{S with T:=(Th.setD S.T {Dq S id with st:=st}).2,Q:=(Qu.dropQ S.Q id).2})
theorem OM(t:Th.ThT)(ht:TW t):EK prog F C b p 96 [pV p.t,Th.thV t] k S k (iV (Th.setD S.T t).1) {S with T:=(Th.setD S.T t).2}:=inferInstance
section
variable{s:RL}
theorem QD(hK:IsK F C k S p s)(id st:Int)(hk:k'+(if st=1 then 1 else 0)<=k):Fn prog 97 [pV b,.int .i64 id,.int .i64 st] (Ax b p s S G) (KK F C b p k' (iV (OK S id st).1) (OK S id st).2 G):=by
 have mr:CF b p∈Ax b p s S G:=mR λ_ h=>h;refine AN func97 ntmps97 λE=>?_;refine Aj ?_;refine EM ?_;refine AQ λb7=>?_;cases hf:(Th.findH S.T id).isSome with
 |false=>rw[show OK S id st=(2,S) by unfold OK;rw[Ad (.inl hf)]];refine Aj ?_;exact A9 (hk:=by split at hk<;>omega)
 |true=>
 by_cases hb:st<0\/4<st
 ·rw[show OK S id st=(2,S) by unfold OK;rw[Ad (.inr hb)]];by_cases h1:st<0<;>by_cases h2:4<st;all_goals first
   |(exfalso;omega)
   |(refine Aj ?_
     exact A9 (hk:=by split at hk<;>omega))
 have JA:=hK.tO id;obtain⟨t,ht⟩: ∃t,Dq S id=t:=⟨_,rfl⟩
 rw[ht] at JA⊢
 replace JA:TW {t with st:=st}:=⟨JA.out⟩
 by_cases h1:st=1
 ·rw[show OK S id st=(0,{S with T:=(Th.setD S.T {t with st:=st}).2,Q:=(Qu.addQ S.Q id t.pr).2}) by unfold OK;rw[Ab (by rw[hf];simp;omega),Ad h1,ht]];rw[Ad h1] at hk
  replace hK:IsK F C (k'+1) S p s:=hK.mono hk
  refine Aj ?_;refine CA (Cu [5] 0 6) ?_;refine CE ?_;refine MX ?_ (q:=OM {t with st:=st} JA);intro S1 s1 L1 EG EC DO GQ;refine CE ?_;refine Aj ?_;refine CA (Cu [7] 0 8) ?_;refine CE ?_;refine MX ?_;intro S2 s2 L2 hS2 FW FN HV;refine CE ?_;refine Aj ?_;exact A9
 ·rw[show OK S id st=(0,{S with T:=(Th.setD S.T {t with st:=st}).2,Q:=(Qu.dropQ S.Q id).2}) by unfold OK;rw[Ab (by rw[hf];simp;omega),Ab h1,ht]];rw[Ab h1] at hk
  replace hK:IsK F C k' S p s:=hK.mono hk
  refine Aj ?_;refine CA (Cu [5] 0 6) ?_;refine CE ?_;refine MX ?_ (q:=OM {t with st:=st} JA);intro S1 s1 L1 EG EC DO GQ;refine CE ?_;refine Aj ?_;refine Gi ?_;intro S2 s2 L2 hS2 FW FN HV;refine Aj ?_;exact A9
def H9(S:KT)(id Ck:Int):Cs×Int:=if(Th.findH S.T id).isSome=false then((0,0),2) else if Ck<0 then((0,0),3) else Y3 S.H.1 S.A (getD' S.H.1 (id,0)).1 Ck.toNat 12
theorem x9(hK:IsK F C k S p s)(id Ck:Int)(ha:Ck<18446744073709551616)(l:Ac)(hl: ∀c,c∈Ax b p s S G->c∈l):Fn prog 159 [pV b,.int .i64 id,.int .i64 Ck] l λv l'=>v= .tuple #[F6 (H9 S id Ck).1,iV (H9 S id Ck).2]/\l'=l:=by
 have mr:CF b p∈l:=mR hl;obtain⟨bs,bt,ls,lt,hb⟩:=hK.ho;have mh:MN p.h bs bt∈l:=mH hl _ (by rw[hb.eq];exact .head _);have QT: ∀l2,(∀c,c∈l->c∈l2)->Fn prog 95 [pV p.t,.int .i64 id] l2 _:=λl2 h2=>Th.get_any p.t S.T s.T hK.th id l2 λc hc=>h2 _ (mT hl c hc);have QH: ∀l2,(∀c,c∈l->c∈l2)->Fn prog 165 [pV p.h,.agg (toArray [.int .i64 id,.int .i64 0])] l2 _:=λl2 h2=>Jo p.h S.H s.H hK.ho (id,0) l2 λc hc=>h2 _ (mH hl c hc);refine AN func159 ntmps159 λE=>?_;refine AQ λb6=>?_;refine tq (λl2 h2=>QT l2 λc hc=>h2 _ (.tail _ hc)) ?_;refine AQ λb8=>?_;cases hf:(Th.findH S.T id).isSome with
 |false=>rw[show H9 S id Ck=((0,0),2) by unfold H9;rw[Ad hf]];refine Aj ?_;exact qr
 |true=>
 by_cases h0:Ck<0
 ·rw[show H9 S id Ck=((0,0),3) by unfold H9;rw[Ab (by rw[hf];decide),Ad h0]];refine Aj ?_;exact qr
 obtain⟨a,rfl⟩: ∃q:Nat,Ck=q:=⟨Ck.toNat,Af⟩
 obtain⟨r,hr⟩: ∃r,(getD' S.H.1 (id,0)).1=r:=⟨_,rfl⟩
 rw[show H9 S id a=Y3 S.H.1 S.A r a 12 by unfold H9;rw[Ab (by rw[hf];decide),Ab h0,hr,A0]];refine Aj ?_;refine tq (λl2 h2=>QH l2 λc hc=>h2 _ (.tail _ (.tail _ hc))) ?_;rw[hr];refine AQ λGd=>?_;refine CA (Cu [15] 0 17) ?_;refine CE ?_;refine dX ?_ (AL rfl rfl λl2 h2=>Lr p.h bs bt l2 (h2 _ (.tail _ (.tail _ (.tail _ mh)))));refine CE ?_;refine dX ?_ (AL rfl rfl λl2 h2=>Y4 bs p.a S.H.1 S.A ls s.A hb.s hK.ar hK.rad a Af r 12 l2 (λc hc=>h2 _ (.tail _ (.tail _ (.tail _ (mH hl c (by rw[hb.eq];exact .tail _ (Ai _ hc))))))) (λc hc=>h2 _ (.tail _ (.tail _ (.tail _ (mA hl c hc))))));refine CE ?_;refine Aj ?_;exact qr
class EV(P:Program)(F C b:Nat)(p:RP)(f:Nat)(vs:Ap)(k:Nat)(S:KT)(k':outParam Nat)(S':outParam KT):Prop where
 out: ∀s G,IsK F C k S p s->Fn P f vs (Ax b p s S G) λ_ l'=> ∃s L,IsK F C k' S' p s/\Tail L G/\l'=Ax b p s S' L
theorem EV.on{l:Ac}(q:EV P F C b p f vs k S k' S')(hK:IsK F C k S p s)(hF:Fr1 (Ax b p s S G) l Γ):Fn P f vs l λ_ l'=> ∃s' L,IsK F C k' S' p s'/\Tail L G/\l'=Γ (Ax b p s' S' L):=by
 obtain⟨A,rfl,hA⟩:=hF.eq;refine Fn.re (.of_perm (Fi b p s S A G)) (q.out s (A++G) hK) λv l' ⟨s',L,h2,⟨X,h3⟩,h4⟩=>⟨Γ (Ax b p s' S' (X++G)),?_,s',_,h2,⟨X,rfl⟩,rfl⟩
 rw[h4,h3,hA];exact .of_perm (Uh ..)
theorem tev{A3:List Oper}{fr:Fr}{l:Ac}{d:Nat}{x:Operand}{xs:List Operand}{at_:Array TypeId}{ty:TypeId}{pos:String}{aft:Array Edge}{g:Option (Nat×Bool)}(hk: ∀x0 S1 s' L,S1=S'->IsK F C k' S1 p s'->Tail L G->CF b p∈Ax b p s' S1 L->DA P ro N E ops Q A3 ((d,x0)::fr) ds (Γ (Ax b p s' S1 L)))(hx:ev fr x=some (.func (.func f) #[] #[]):=by rfl)(hy:Sd fr xs=some vs:=by rfl)(hF:Fr1 (Ax b p s S G) l Γ:=by exact eJ)(c:EN P f:=by infer_instance)(hK:IsK F C k S p s:=by infer_instance)(q:EV P F C b p f vs k S k' S':=by infer_instance)(hw:Rb ops fr g=some true:=by rfl)(hb:Nat.blt d N=true:=by rfl):DA P ro N E ops Q (⟨some d,.call {callee:= .value x,args:=xs.toArray,argTypes:=at_},ty,pos,aft,g⟩::A3) fr ds l:=
 JB (Az hx hy (q.on hK hF)) hw rfl hb λv l' ⟨s',L,h2,h3,h4⟩=>by rw[h4];exact hk v S' s' L rfl h2 h3 (mR λ_ h=>h)
theorem ON{D:En.DE}{id:Int}: ∀x,x∈(En.dropD D id).2.2->x∈D:=λx hx=>by
 unfold En.dropD at hx
 split at hx
 ·dsimp only at hx;first|exact(BY.1 hx).1|exact List.mem_of_mem_eraseP hx|exact hx
 ·dsimp only at hx;first|exact(BY.1 hx).1|exact hx
instance{id:Int}:EV prog F C b p 368 [pV p.e,.int .i64 id] k S k {S with E:=(En.dropD S.E id).2.2}:=⟨λs G h=>
 Fn.re (.of_perm (by unfold Ax;exact BX)) (En.drop_any p.e S.E s.E id h.en (CF b p::As.asA p.n S.N::(s.M++(s.C++(s.A++(s.H++(s.T++(s.Q++(s.V++G))))))))) λv l' ⟨sl,cs,h1,h2,q,h3,h4⟩=>⟨Ax b p {s with E:=q} {S with E:=(En.dropD S.E id).2.2} (cs++G),by rw[h4];unfold Ax;exact A8 [],{s with E:=q},_,{h with en:=h3,el:=λy hy=>h.el y (ON y hy),eo:=λt x y hx hy=>h.eo t x y (ON x hx) (ON y hy)},⟨cs,rfl⟩,rfl⟩⟩
def Vg(S:KT)(id:Int):Int×KT:=
 if(Ar.getD' S.A id).2=false then(2,S)
 else if(HF S.H.1 id).1=16 then(16,{S with H:=((HF S.H.1 id).2,S.H.2)})
 else(0,{S with H:=((HF S.H.1 id).2,S.H.2),A:=(Ar.dropD S.A id).2,T:=(Th.dropD S.T id).2,Q:=(Qu.dropQ S.Q id).2,E:=(En.dropD S.E id).2.2})
theorem nE(hK:IsK F C k S p s)(id:Int):Fn prog 329 [pV b,.int .i64 id] (Ax b p s S G) (KK F C b p k (iV (Vg S id).1) (Vg S id).2 G):=by
 have mr:CF b p∈Ax b p s S G:=mR λ_ h=>h;unfold Vg;refine AN func329 ntmps329 λE=>?_;refine Aj ?_;refine EM ?_;refine AQ λb5=>?_;cases hf:(Ar.getD' S.A id).2 with
 |false=>rw[Ad rfl];refine Aj ?_;exact A9
 |true=>
 rw[Ab AX];refine Aj ?_;refine Gi ?_;intro S1 s1 L1 EG EC DO GQ;obtain⟨e,he⟩: ∃e,(HF S.H.1 id).1=e:=⟨_,rfl⟩
 rw[he];by_cases h16:e=16
 ·rw[Ad h16];refine Aj ?_;exact A9
 rw[Ab h16];refine Aj ?_;refine Gi ?_;intro S2 s2 L2 hS2 FW FN HV;refine Aj ?_;refine Gi ?_;intro S3 s3 L3 hS3 MW Lg Pu;refine Aj ?_;refine Gi ?_;intro S4 s4 L4 hS4 hK4 jP mr4;refine Aj ?_;refine tev ?_;intro v5 S5 s5 L5 hS5 hK5 hT5 mr5;refine Aj ?_;exact A9
instance{id:Int}:EK prog F C b p 329 [pV b,.int .i64 id] k S k (iV (Vg S id).1) (Vg S id).2:=⟨λs G h=>nE h id⟩
end
abbrev fe(t:Th.ThT):Th.ThT:={t with wa:=0,o0:=0,o1:=0,o2:=0,o3:=0,ob:=0,cl:=false,fa:=false,hs:=false,wr:=false,va:=0,vl:=0,gv:=4096,inn:=4096}
abbrev DD(S:KT)(t:Th.ThT):KT:={S with T:=(Th.setD S.T t).2}
abbrev MY(S:KT)(id:Int):Bool:=(Th.findH S.T id).isSome
def yd(S:KT)(id:Int):KT:=if MY S (Th.serverD S.T id)=true/\(Dq S id).st=4 then DD S {Dq S (Th.serverD S.T id) with ca:=0} else S
def haltE(S:KT)(id:Int):Int×KT:=OK (DD S (fe (Dq S id))) id 0
def IY(S:KT)(id:Int):Int×KT:=
 if MY S id=false then(2,S)
 else haltE (yd {S with E:=(En.removeD S.E id).2} id) id
section
variable{s:RL}
instance{id:Int}:EK prog F C b p 97 [pV b,.int .i64 id,.int .i64 1] (k+1) S k (iV (OK S id 1).1) (OK S id 1).2:=⟨λs G h=>QD h id 1 (Bf _)⟩
instance{id:Int}:EK prog F C b p 97 [pV b,.int .i64 id,.int .i64 0] k S k (iV (OK S id 0).1) (OK S id 0).2:=⟨λs G h=>QD h id 0 (Bf _)⟩
instance{id:Int}:EK prog F C b p 97 [pV b,.int .i64 id,.int .i64 2] k S k (iV (OK S id 2).1) (OK S id 2).2:=⟨λs G h=>QD h id 2 (Bf _)⟩
instance{id:Int}:EK prog F C b p 97 [pV b,.int .i64 id,.int .i64 3] k S k (iV (OK S id 3).1) (OK S id 3).2:=⟨λs G h=>QD h id 3 (Bf _)⟩
instance{id:Int}:EK prog F C b p 97 [pV b,.int .i64 id,.int .i64 4] k S k (iV (OK S id 4).1) (OK S id 4).2:=⟨λs G h=>QD h id 4 (Bf _)⟩
theorem ye(hK:IsK F C k S p s)(id:Int):Fn prog 203 [pV b,.int .i64 id] (Ax b p s S G) (KK F C b p k (iV (IY S id).1) (IY S id).2 G):=by
 have mr:CF b p∈Ax b p s S G:=mR λ_ h=>h;unfold IY MY;refine AN func203 ntmps203 λE=>?_;refine Aj ?_;refine EM ?_;refine Aj ?_;refine AS e_alloc ?_;rintro _ _ ⟨b5,_,rfl,rfl⟩;cases hf:(Th.findH S.T id).isSome with
 |false=>rw[Ad rfl];refine Aj ?_;exact A9
 |true=>
 rw[Ab AX];refine Aj ?_;refine Gi ?_;intro S1 s1 L1 EG EC DO GQ;have eT:S1.T=S.T:=by rw[EG]
 have eO: ∀i,Dq S1 i=Dq S i:=λi=>by unfold Dq;rw[eT]
 have eI: ∀i,MY S1 i=MY S i:=λi=>by unfold MY;rw[eT]
 rw[<-EG];refine Aj ?_;refine CA (Cu [14,15] 0 17) ?_;refine CE ?_;refine Ij e_alloc (by rintro _ _ ⟨_,_,_,rfl⟩ c hc;exact .tail _ hc) ?_;rintro _ _ ⟨b7,_,rfl,rfl⟩;refine CE ?_;obtain⟨t,ht⟩: ∃t,Dq S id=t:=⟨_,rfl⟩
 have htu:=EC.tO (Th.serverD S1.T id);obtain⟨u,hu⟩: ∃u,Dq S1 (Th.serverD S1.T id)=u:=⟨_,rfl⟩
 rw[hu] at htu;obtain⟨ok,Dm⟩: ∃ok,(Th.findH S1.T (Th.serverD S1.T id)).isSome=ok:=⟨_,rfl⟩
 rw[ht,hu,Dm];have pP:yd S1 id=if ok=true/\t.st=4 then DD S1 {u with ca:=0} else S1:=by unfold yd MY;rw[Dm,eO id,ht,hu]
 refine CE ?_;have e1:=eO id;rw[ht] at e1;by_cases h4:ok=true/\t.st=4
 case' pos=>
  obtain⟨rfl,h4⟩:=h4;rw[Ad ⟨rfl,h4⟩] at pP;rw[pP];refine Aj ?_;refine CA (Cu [5] 0 6) ?_;refine CE ?_;refine MX ?_ (q:=OM {u with ca:=0} ⟨htu.out⟩);intro S2 s2 L2 hS2 FW FN HV;rw[show DD S1 {u with ca:=0}=S2 from hS2.symm];refine CE ?_;refine Aj ?_;refine EM ?_;obtain⟨t2,ah⟩: ∃t2,Dq S2 id=t2:=⟨_,rfl⟩
  unfold haltE;rw[ah];refine Aj ?_
 case' neg=>
  rw[Ab h4] at pP;rw[pP];have h4':ok=true->¬t.st=4:=λa c=>h4 ⟨a,c⟩;unfold haltE;rw[e1];cases ok
  case' true=>have h4':=h4' rfl
  all_goals refine Aj ?_
 case' pos=>obtain⟨t3,ht3⟩: ∃t3,t3=t2:=⟨_,rfl⟩
 case' neg.true=>obtain⟨t3,ht3⟩: ∃t3,t3=t:=⟨_,rfl⟩
 case' neg.false=>obtain⟨t3,ht3⟩: ∃t3,t3=t:=⟨_,rfl⟩
 all_goals
  rw[<-ht3];refine Bh (GT (zs:=[.int .u64 0,.int .u64 0,.int .u64 0,.int .u64 0]) (cs:=[.int .u64 0,.int .u64 0,.int .u64 0,.int .u64 0]) rfl rfl) ?_;refine Aj ?_;refine CA (Cu [5] 0 6) ?_;refine CE ?_;refine MX ?_ (q:=OM (fe t3) ⟨JC,JC⟩);intro S3 s3 L3 hS3 MW Lg Pu;rw[show DD _ (fe t3)=S3 from hS3.symm];refine CE ?_;refine Aj ?_;refine Gi ?_;intro S4 s4 L4 hS4 hK4 jP mr4;refine Aj ?_;exact A9
end
end Go.Proofs.YtlifcingifodfaaGreat
