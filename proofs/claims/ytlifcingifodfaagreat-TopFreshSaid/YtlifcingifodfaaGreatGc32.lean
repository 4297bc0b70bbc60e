/- Laws that the statement's proof leans on (joined out of several texts). -/
import Derived.Test.YtlifcingifodfaaGreatGc31
set_option maxHeartbeats 4000000
set_option linter.unusedVariables false
set_option linter.unusedSimpArgs false
namespace Go.Proofs.YtlifcingifodfaaGreat
open Tryz
open List(toArray)
open Go.RowKit
set_option maxRecDepth 20000
variable{k s f:Nat}{T:Lh}{x:MF}{q:Nat->Bool}{A B:Ap}
abbrev jr(B b:Nat):Bg:=(B,.cells (toArray [pV b]) 307 (0,0))
theorem VX(b:Nat)(l:Ad):Fn prog 304 [pV b] l λv l'=> ∃B,v= .func (.func 342) #[] #[pV B]/\l'=jr B b::l:=by refine AO func304 ntmps304 λE=>?_;refine AQ λb1=>?_;exact Bb .refl ⟨_,rfl,rfl⟩
theorem W3(T:Lh)(s:Nat):(gd T s).length=11:=by simp[gd]
theorem PG(T:Lh)(hs:s<4)(hf:f<11):(toArray (Si T))[s*11+f]?=(gd T s)[f]?:=by
 rw[AF];unfold Si;have h: ∀j,(gd T j).length=11:=W3 T;obtain rfl|rfl|rfl|rfl:s=0\/s=1\/s=2\/s=3:=by omega
 ·rw[AB (by rw[h];omega),GG,BE]
 ·rw[AN (by rw[h];omega),AB (by rw[h,h];omega),h];congr 1;omega
 ·rw[AN (by rw[h];omega),AN (by rw[h,h];omega),AB (by rw[h,h,h];omega),h,h];congr 1;omega
 ·rw[AN (by rw[h];omega),AN (by rw[h,h];omega),AN (by rw[h,h,h];omega),h,h,h];congr 1;omega
def Jj(k:Nat):Nat:=k/2*11+k%2*5
theorem Ud(T:Lh)(hk:k<8)(hf:f<5):(toArray (Si T))[Jj k+f]?=(Q4 (T.w k))[f]?:=by
 unfold Jj;rw[show k/2*11+k%2*5+f=k/2*11+(k%2*5+f) by omega,PG T Af Af];unfold gd;rcases Nat.mod_two_eq_zero_or_one k with h|h
 ·rw[h,GG,BE,show 2*(k/2)=k by omega,AB (by simp;omega)]
 ·rw[h,AN (by simp),AB (by simp;omega),show 2*(k/2)+1=k by omega];congr 1;simp
abbrev dR(T:Lh)(k:Nat):Bool:=!decide ((T.w k).sp=0)
theorem O3(q:Nat->Bool)(h:k<=8):(List.range k).filter q<+:(List.range 8).filter q:=by
 obtain⟨j,hj⟩: ∃j,8=k+j:=⟨8-k,Af⟩
 rw[hj,List.range_add,DI];exact⟨_,rfl⟩
theorem W4(h:q k=false):(List.range (k+1)).filter q=(List.range k).filter q:=by rw[CA,DI];simp[h]
theorem Sr(h:q k=true):(List.range (k+1)).filter q=(List.range k).filter q++[k]:=by rw[CA,DI];simp[h]
abbrev AdU(B b:Nat)(T:Lh)(pre:List Nat)(l:Ad):Prop:=jr B b∈l/\ ∃T':Lh,NI b T'∈l/\ ∀j,j<8->(∀x,x∈pre->x<j)->T'.w j=T.w j
theorem Ue(B b:Nat)(T:Lh):FA prog 342 [pV B] (λk:Nat=>[.pointer (some ⟨b,Jj k,none⟩)]) (λxs=>xs=LY T) (λpre=>pre<+:LY T) (AdU B b T):=by
 refine⟨λr I Ix G0 Ca hY l G hG h0=>?_⟩;have key: ∀k l,k<8->I ((List.range k).filter (dR T)) l->jr B b∈l++G/\ ∃T':Lh,NI b T'∈l++G/\(toArray (Si T'))[Jj k+0]?=some (.int .i64 (T.w k).sp):=λk l hk hI=>by
  obtain⟨n1,T',n2,n3⟩:=Ca _ _ G hG hI;have e:=n3 k hk λx hx=>by have:=(Co.1 hx).1;simpa using this
  exact⟨n1,T',n2,by rw[Ud T' hk AZ,e];rfl⟩
 have hy: ∀k l,k<8->dR T k=true->I ((List.range k).filter (dR T)) l->_:=λk l hk hn hI=>hY _ k l G hG hI (by rw[<-Sr hn];exact O3 _ hk);refine AO func342 ntmps342 λE=>?_;have n1:=(Ca _ _ G hG h0).1;refine Aj ?_;refine CF (α:=Nat×Ad) (λx=>[(0,.func (.yield r) #[] #[]),(1,pV B),(7,.int .i64 (x.1:Nat))]) (λx=>x.2++G) (λx=>x.1<=4/\I ((List.range (2*x.1)).filter (dR T)) x.2) (λx=>4-x.1) (0,l) ⟨Bm _,h0⟩ ⟨rfl,rfl,rfl,trivial⟩ .refl ?_;clear n1 h0;rintro⟨s,l⟩ ⟨hs,hI⟩;simp only at hs hI⊢;by_cases h4:s<4
 case neg=>
  obtain rfl:s=4:=by omega
  refine Aj ?_;exact Bb .refl ⟨l,rfl,.inl ⟨_,rfl,hI⟩⟩
 have o1:Jj (2*s)=s*11+Int.toNat 0*5:=by unfold Jj;first|(simp;done)|(simp;omega)
 have o2:Jj (2*s+1)=s*11+Int.toNat (0+1)*5:=by unfold Jj;first|(simp;done)|(simp;omega)
 obtain⟨n1,T',n2,n3⟩:=key (2*s) l Af hI;rw[CP,o1] at n3;have o6:=hy (2*s) l Af;have SM:=λl=>hy (2*s+1) l Af;rw[o1] at o6;rw[o2] at SM;refine Aj ?_;refine H9 2 ?_;refine Aj ?_;by_cases hz:(T.w (2*s)).sp=0
 ·have NP:I ((List.range (2*s+1)).filter (dR T)) l:=by rw[W4 (by simpa[dR] using hz)];exact hI
  refine Aj ?_;refine E8 ?_;obtain⟨n1,T',n2,n3⟩:=key (2*s+1) l Af NP;rw[CP,o2] at n3;refine Aj ?_;by_cases tv:(T.w (2*s+1)).sp=0
  ·refine Aj ?_;refine E8 ?_;refine Aj ?_;exact BR (s+1,l) ⟨by simp only;omega,by simp only;rw[show 2*(s+1)=2*s+1+1 by omega,W4 (by simpa[dR] using tv)];exact NP⟩ (by simp only;omega) ⟨rfl,rfl,rfl,trivial⟩ .refl
  ·have hn:dR T (2*s+1)=true:=by simpa[dR] using tv
   refine Aj ?_;refine Jr (C0 rfl rfl (SM l hn NP)) rfl rfl rfl ?_;rw[<-Sr hn];rintro v _ ⟨l1,rfl,⟨rfl,ZR⟩|⟨rfl,hx⟩⟩
   ·refine Aj ?_;refine E8 ?_;refine Aj ?_;exact BR (s+1,l1) ⟨by simp only;omega,ZR⟩ (by simp only;omega) ⟨rfl,rfl,rfl,trivial⟩ .refl
   ·refine Aj ?_;exact BD [] rfl .refl (by exact Ba) ⟨l1,rfl,.inr ⟨_,O3 _ Af,hx⟩⟩
 ·have hn:dR T (2*s)=true:=by simpa[dR] using hz
  refine Aj ?_;refine Jr (C0 rfl rfl (o6 hn hI)) rfl rfl rfl ?_;rw[<-Sr hn];rintro v _ ⟨l1,rfl,⟨rfl,NP⟩|⟨rfl,hx⟩⟩
  case' inr=>
   refine Aj ?_;exact BD [] rfl .refl (by exact Ba) ⟨l1,rfl,.inr ⟨_,O3 _ Af,hx⟩⟩
  refine Aj ?_;refine E8 ?_;obtain⟨n1,T',n2,n3⟩:=key (2*s+1) l1 Af NP;rw[CP,o2] at n3;refine Aj ?_;by_cases tv:(T.w (2*s+1)).sp=0
  ·refine Aj ?_;refine E8 ?_;refine Aj ?_;exact BR (s+1,l1) ⟨by simp only;omega,by simp only;rw[show 2*(s+1)=2*s+1+1 by omega,W4 (by simpa[dR] using tv)];exact NP⟩ (by simp only;omega) ⟨rfl,rfl,rfl,trivial⟩ .refl
  ·have hn:dR T (2*s+1)=true:=by simpa[dR] using tv
   refine Aj ?_;refine Jr (C0 rfl rfl (SM l1 hn NP)) rfl rfl rfl ?_;rw[<-Sr hn];rintro v _ ⟨l2,rfl,⟨rfl,ZR⟩|⟨rfl,hx⟩⟩
   ·refine Aj ?_;refine E8 ?_;refine Aj ?_;exact BR (s+1,l2) ⟨by simp only;omega,ZR⟩ (by simp only;omega) ⟨rfl,rfl,rfl,trivial⟩ .refl
   ·refine Aj ?_;exact BD [] rfl .refl (by exact Ba) ⟨l2,rfl,.inr ⟨_,O3 _ Af,hx⟩⟩
theorem ue(T:Lh)(hk:k<8):(toArray (Si T)).extract (Jj k) (Jj k+5)=toArray (Q4 (T.w k)):=by
 apply DH;intro j;rw[EM];have hs:(toArray (Si T)).size=44:=by simp[Si,W3]
 by_cases h:j<5
 ·rw[Ac (by rw[hs];unfold Jj;omega),Ud T hk h,AF]
 ·rw[Ab Af,AF,Bf (by simp;omega)]
theorem J7(T:Lh):(toArray (Si T)).size=44:=by simp[Si,W3]
theorem Ss(h:k<8):Jj k+5<=44:=by unfold Jj;omega
theorem uf{A':Ap}(h:A.length=A'.length)(hf:A.length<=f):(A++B)[f]?=(A'++B)[f]?:=by rw[AN hf,AN (h▸hf),h]
theorem ug{B':Ap}(hf:f<A.length):(A++B)[f]?=(A++B')[f]?:=by rw[AB hf,AB hf]
theorem YW(T:Lh)(hk:k<8)(x:MF):C8 (toArray (Si T)) (Jj k) (Q4 x)=toArray (Si (Qn T k x)):=by
 apply DH;intro j;rw[Tk,J7];have hl:=Ss hk;have hx:(Q4 x).length=5:=rfl;rw[hx];by_cases hj:j<44
 case neg=>rw[Ab Af,AF,AF,Bf (by have:=J7 T;simp at this;omega),Bf (by have:=J7 (Qn T k x);simp at this;omega)]
 obtain⟨s,f,rfl,hs,hf⟩: ∃s f,j=s*11+f/\s<4/\f<11:=⟨j/11,j%11,Af,Af,Af⟩
 rw[PG _ hs hf,PG _ hs hf];have e1:(Qn T k x).d=T.d:=rfl;have e2: ∀i,(Qn T k x).w i=if i=k then x else T.w i:=λi=>rfl
 unfold gd;rw[e1,e2,e2];by_cases NO:Jj k<=s*11+f/\s*11+f<Jj k+5
 ·rw[Ac ⟨NO.1,Af,Af⟩];unfold Jj at NO⊢;obtain rfl:s=k/2:=by omega
  rcases Nat.mod_two_eq_zero_or_one k with h|h
  ·rw[h] at NO⊢;rw[Ac Af,AB (by simp;omega)];congr 1;omega
  ·rw[h] at NO⊢;rw[Ab Af,Ac Af,AN (by simp;omega),AB (by simp;omega)];congr 1;simp;omega
 ·rw[Ab Af];unfold Jj at NO;by_cases a:2*s=k
  ·rw[Ac a,Ab Af];exact uf rfl (by simp;omega)
  ·by_cases c:2*s+1=k
   ·rw[Ab a,Ac c];by_cases hf5:f<5
    ·exact ug (by simp;omega)
    ·rw[<-Am,<-Am];exact uf rfl (by simp;omega)
   ·rw[Ab a,Ab c]
abbrev K0(B:Nat)(x:MF):Bg:=(B,.cells (toArray (Q4 x)) 301 (0,0))
abbrev wE(x:MF):Value:= .agg (toArray (Q4 x))
abbrev Xv(B:Nat)(x:Bool):Bg:=(B,.cells (toArray [.bool x]) 4 (0,0))
theorem ij(b:Nat)(T:Lh)(sp pg:Int)(l:Ad)(m1:NI b T∈l):Fn prog 226 [pV b,.int .i64 sp,.int .i64 pg] l λv l'=>v= .tuple #[wE (T8 T sp pg).1,.bool (T8 T sp pg).2]/\l'=l:=by
 unfold T8;refine AO func226 ntmps226 λE=>?_;refine AQ λb4=>?_;refine AQ λb5=>?_;refine AQ λb6=>?_;refine AQ λb7=>?_;refine AR (AA rfl rfl (VX b _)) ?_;rintro _ _ ⟨B,rfl,rfl⟩;refine Aj ?_;refine Df (α:=Nat) (ps:=[11]) (lb:=[pV B]) rfl (Ue B b T) (λ_=>rfl) rfl
  (λpre l=>(∀k,k∈pre->(decide ((T.w k).sp=sp)&&decide ((T.w k).pg=pg))=false)/\l=[jr B b,Xv b7 false,K0 b6 QP,BP b5 pg,BP b4 sp])
  (λc pre l=>c= .ret/\ ∃GW k,pre=GW++[k]/\(∀k,k∈GW->(decide ((T.w k).sp=sp)&&decide ((T.w k).pg=pg))=false)/\(decide ((T.w k).sp=sp)&&decide ((T.w k).pg=pg))=true/\l=[Xv b7 true,K0 b6 (T.w k)])
  [jr B b,Xv b7 false,K0 b6 QP,BP b5 pg,BP b4 sp] l (λpre l2 X2 hX h=>⟨by rw[h.2];exact Ai _ (.head _),T,Aa _ (hX _ m1),λ_ _ _=>rfl⟩) (by exact AU) ⟨λ_ h=>(nomatch h),rfl⟩ ?_ ?_ ?_
 ·rintro E r0 FS pre k l' X ⟨fn,tmps,D,rfl⟩ hX ⟨hn,rfl⟩ DB;have hk:k<8:=by
   have h3:k∈LY T:=DB.subset (by simp);have:=(Co.1 h3).1;simpa using this
  have mX:=hX _ m1;have c0:=Ud T hk (f:=0) AZ;have c1:=Ud T hk (f:=1) AZ;simp only[DU,Ae,Ag,CP] at c0 c1⊢;refine Aj ?_;refine CH (by exact DX) ?_;refine Aj ?_;refine It ?_;have c0:(toArray (Si T))[Jj k]?=some (.int .i64 (T.w k).sp):=c0;have c1:(toArray (Si T))[Jj k+1]?=some (.int .i64 (T.w k).pg):=c1;by_cases h1:(T.w k).sp=sp
  case neg=>
   refine BS ?_;refine Aj ?_;exact Cg [jr B b,Xv b7 false,K0 b6 QP,BP b5 pg,BP b4 sp] (by exact AU) ⟨λz hz=>by
    rcases AH.1 hz with hz|hz
    ·exact hn z hz
    ·rw[AE.1 hz];simp[h1],rfl⟩
  by_cases h2:(T.w k).pg=pg
  case neg=>
   refine BS ?_;refine Aj ?_;exact Cg [jr B b,Xv b7 false,K0 b6 QP,BP b5 pg,BP b4 sp] (by exact AU) ⟨λz hz=>by
    rcases AH.1 hz with hz|hz
    ·exact hn z hz
    ·rw[AE.1 hz];simp[h2],rfl⟩
  refine BS ?_;refine Aj ?_;refine Be (Dt (n:=5) rfl (by first|exact .tail _ (.tail _ (.tail _ (.tail _ (.tail _ (.tail _ mX)))))) (by rw[J7];exact Ss hk) (ue T hk)) ?_;refine Aj ?_;exact EC [Xv b7 true,K0 b6 (T.w k)] (by exact AU) ⟨rfl,pre,k,rfl,hn,by simp[h1,h2],rfl⟩
 ·rintro D xs l' rfl ⟨hn,rfl⟩;rw[Br.2 λy hy=>by rw[hn y hy];decide];simp only[Ae,Ag];refine Aj ?_;exact AV [D] _ rfl (l':=l) (by exact AU) (by exact Ba) (by exact AU) ⟨rfl,rfl⟩
 ·rintro D c pre l' DB ⟨rfl,GW,k,rfl,hn,hx,rfl⟩;rw[YV DB hn hx];simp only[Ae,Ag];refine Aj ?_;exact AV [D] _ rfl (l':=l) (by exact AU) (by exact Ba) (by exact AU) ⟨rfl,rfl⟩
theorem aY(b:Nat)(T:Lh)(st wy:Int)(F:Ad):Fn prog 164 [pV b,.int .i64 st,.int .i64 wy] (NI b T::F) λv l'=>v= .bool (M7 T st wy).1/\l'=NI b (M7 T st wy).2::F:=by
 unfold M7;refine AO func164 ntmps164 λE=>?_;by_cases hb:st<0\/st>=4\/wy<0\/wy>=2
 ·rw[Ac hb];by_cases h1:st<0<;>by_cases h2:st>=4<;>by_cases h3:wy<0<;>by_cases h4:wy>=2;all_goals first
   |(exfalso;omega)
   |(refine Aj ?_
     exact qr)
 rw[Ab hb];obtain⟨s,rfl⟩: ∃q:Nat,st=q:=⟨st.toNat,Af⟩
 obtain⟨w,rfl⟩: ∃q:Nat,wy=q:=⟨wy.toNat,Af⟩
 have hk:2*s+w<8:=by omega
 have ho:s*11+w*5=Jj (2*s+w):=by unfold Jj;omega
 have c0:=Ud T hk (f:=0) AZ;have c0:(toArray (Si T))[s*11+w*5]?=some (.int .i64 (T.w (2*s+w)).sp):=by rw[ho];exact c0
 rw[AY,AY];refine Aj ?_;refine ME (El (n:=5) (l':=NI b (Qn T (2*s+w) QP)::F) rfl rfl rfl (by simp[Value.oneCell']) (by rw[show(toArray _).toList=Q4 QP from rfl,ho,YW T hk];exact .here) (by rw[J7,ho];exact Ss hk)) rfl rfl ?_;rintro _ _ ⟨rfl,rfl⟩;refine Aj ?_;exact BD [] rfl .refl (by exact Ba) ⟨by simp[Jv],rfl⟩
def dropL(T:Lh)(f:MF->Bool)(pre:List Nat):Lh:={T with w:=λk=>if k∈pre/\f (T.w k)=true then QP else T.w k}
abbrev fnB(B gf:Nat)(cs:Ap):Bg:=(B,.cells (toArray [.func (.func gf) #[] (toArray cs)]) 540 (0,0))
theorem Uf{f:MF->Bool}{pre:List Nat}:dropL T f (pre++[k])=if f (T.w k)=true then Qn (dropL T f pre) k QP else dropL T f pre:=by
 unfold dropL Qn
 split
 ·rename_i h;congr 1;funext j;simp only[Qu.upd,AH,AE];by_cases e:j=k
  ·subst e;simp[h]
  ·simp[e]
 ·rename_i h;congr 1;funext j;simp only[AH,AE];by_cases e:j=k
  ·subst e;simp[h]
  ·simp[e]
theorem ik(T:Lh)(f:MF->Bool):dropL T f (LY T)=Pq T f:=by unfold dropL Pq;congr 1;funext k;unfold rh LY;simp[Co,and_assoc]
theorem VY(b:Nat)(T:Lh)(gf:Nat)[EN prog gf](cs:Ap)(f:MF->Bool)(R F:Ad)(hR: ∀c,c∈R->c∈F)(hf: ∀x l2,(∀c,c∈R->c∈l2)->Fn prog gf (wE x::cs) l2 λv l'=>v= .bool (f x)/\l'=l2):
 Fn prog 375 [pV b,.func (.func gf) #[] (toArray cs)] (NI b T::F) λv l'=>v=iV (Nl T f:Nat)/\l'=NI b (Pq T f)::F:=by
 refine AO func375 ntmps375 λE=>?_;refine AQ λb3=>?_;refine AQ λb5=>?_;refine AR (AA rfl rfl (VX b _)) ?_;rintro _ _ ⟨B,rfl,rfl⟩;refine Aj ?_;refine Df (α:=Nat) (ps:=[9]) (lb:=[pV B]) rfl (Ue B b T) (λ_=>rfl) rfl
  (λpre l=>l=[jr B b,BP b5 ((pre.filter λk=>f (T.w k)).length:Nat),fnB b3 gf cs,NI b (dropL T f pre)])
  (λc pre l=>False)
  [jr B b,BP b5 0,fnB b3 gf cs,NI b T] F (λpre l2 X2 hX h=>by
   subst h;refine⟨Ai _ (.head _),dropL T f pre,Ai _ (.tail _ (.tail _ (.tail _ (.head _)))),λj _ hj=>?_⟩;have:¬j∈pre:=λhm=>by have:=hj j hm;omega
   simp[dropL,this]) (by exact AU) (by simp[dropL]) ?_ ?_ ?_
 ·rintro E r0 FS pre k l' X ⟨fn,tmps,D,rfl⟩ hX rfl DB;have hk:k<8:=by
   have h3:k∈LY T:=DB.subset (by simp);have:=(Co.1 h3).1;simpa using this
  have tx:¬k∈pre:=λhm=>by have h3:=(List.nodup_range (n:=8)).filter (λk=>!decide ((T.w k).sp=0));have h4:=h3.sublist DB.sublist;exact absurd rfl ((By.1 h4).2.2 k hm k (by simp))
  have ew:(dropL T f pre).w k=T.w k:=by simp[dropL,tx]
  have hl:=Ss hk;have hx:=ue (dropL T f pre) hk;rw[ew] at hx;simp only[DU,Ae,Ag];refine Aj ?_;refine CH (by exact DX) ?_;refine Aj ?_;refine Cx (Cr [] 0 5) ?_;refine dl ?_;refine Yb ?_;refine Yb ?_;refine dl ?_ (Dt (n:=5) rfl (.tail _ (.tail _ (.tail _ (.head _)))) (by rw[J7];exact hl) hx);refine dl ?_ (FI rfl rfl λl2 Lf=>hf (T.w k) l2 λc hc=>Lf _ (.tail _ (.tail _ (.tail _ (.tail _ (.tail _ (hX _ (hR _ hc))))))));refine Q3 ?_;have hc: ∀n:Nat,((pre++[k]).filter λk=>f (T.w k)).length=n->n=(pre.filter λk=>f (T.w k)).length+if f (T.w k)=true then 1 else 0:=λn h=>by rw[<-h,DI,Ah];simp[Fu];split<;>rfl
  cases hfk:f (T.w k) with
  |false=>refine Aj ?_;exact Cg [jr B b,BP b5 ((pre.filter λk=>f (T.w k)).length:Nat),fnB b3 gf cs,NI b (dropL T f pre)] (by exact AU) (by rw[Uf,Ab (by rw[hfk];decide),hc _ rfl,Ab (by rw[hfk];decide)];rfl)
  |true=>
   have Xo:=(DB.length_le:(pre++[k]).length<=_)
   have Agp:(LY T).length<=8:=C7 _ _;have hpf:=C7 (λk=>f (T.w k)) pre;rw[Ah] at Xo;refine Aj ?_;refine ME (El (n:=5) (b:=b) (off:=Jj k) (cs:=toArray (Si (dropL T f pre))) (l':=jr B b::BP b5 ((pre.filter λk=>f (T.w k)).length:Nat)::fnB b3 gf cs::NI b (Qn (dropL T f pre) k QP)::_) rfl rfl rfl (by simp[Value.oneCell']) (by rw[show(toArray _).toList=Q4 QP from rfl,YW _ hk];exact DX) (by rw[J7];exact hl)) rfl rfl ?_;rintro _ _ ⟨rfl,rfl⟩;refine Aj ?_;exact Cg [jr B b,BP b5 (((pre.filter λk=>f (T.w k)).length:Nat)+1),fnB b3 gf cs,NI b (Qn (dropL T f pre) k QP)] (by exact AU) (by rw[Uf,Ac hfk,hc _ rfl,Ac hfk];rfl)
 ·rintro D xs l' rfl rfl;have hd:((LY T).filter λk=>f (T.w k)).length=Nl T f:=by
   unfold Nl LY rh;rw[List.filter_filter];congr 1;exact List.filter_congr λk hk=>by rw[Av (by simpa using hk:k<8),Bu,Bool.and_comm]
  rw[hd,ik];simp only[Ae,Ag];refine Aj ?_;exact AV [D] _ rfl (l':=NI b (Pq T f)::F) (by exact AU) (by exact Ba) (by exact AU) ⟨rfl,rfl⟩
 ·rintro D c pre l' DB h;exact h.elim
theorem rE(b4 b5:Nat)(sp pg:Int)(x:MF)(l:Ad)(m4:BP b4 sp∈l)(m5:BP b5 pg∈l):Fn prog 376 [wE x,pV b4,pV b5] l λv l'=>v= .bool (Ki sp pg x)/\l'=l:=by
 refine AO func376 ntmps376 λE=>?_;refine Aj ?_
 (first|refine AR (Ex rfl rfl) ?_|refine AR (C4 rfl) ?_);rintro _ _ ⟨b3,_,rfl,rfl⟩
 have m4':=An (K0 b3 x) m4;have m5':=An (K0 b3 x) m5;by_cases h1:x.sp=sp<;>by_cases h2:x.pg=pg;all_goals
  refine Aj ?_;refine qr (hx:=?_);simp[Jv,h1,h2]
theorem rF(b4:Nat)(sp:Int)(x:MF)(l:Ad)(m4:BP b4 sp∈l):Fn prog 390 [wE x,pV b4] l λv l'=>v= .bool (QR sp x)/\l'=l:=by
 refine AO func390 ntmps390 λE=>?_;refine Aj ?_
 (first|refine AR (Ex rfl rfl) ?_|refine AR (C4 rfl) ?_);rintro _ _ ⟨b3,_,rfl,rfl⟩
 have m4':=An (K0 b3 x) m4;refine Aj ?_;exact qr
theorem aZ(b:Nat)(T:Lh)(sp pg:Int)(F:Ad):Fn prog 341 [pV b,.int .i64 sp,.int .i64 pg] (NI b T::F) λv l'=>v=iV (Nl T (Ki sp pg):Nat)/\l'=NI b (Pq T (Ki sp pg))::F:=by refine AO func341 ntmps341 λE=>?_;refine AQ λb4=>?_;refine AQ λb5=>?_;refine Bq (l':=NI b T::BP b5 pg::BP b4 sp::F) (.pick (.there (.there .here)) .refl) ?_;refine AR (AA rfl rfl (VY b T _ [pV b4,pV b5] (Ki sp pg) [BP b5 pg,BP b4 sp] (BP b5 pg::BP b4 sp::F) (by simp) λx l2 h2=>rE b4 b5 sp pg x l2 (h2 _ (.tail _ (.head _))) (h2 _ (.head _)))) ?_;rintro _ _ ⟨rfl,rfl⟩;refine Aj ?_;exact Bb (.pick .here (.drop (.drop .refl))) ⟨rfl,rfl⟩
theorem bf(b:Nat)(T:Lh)(sp:Int)(F:Ad):Fn prog 371 [pV b,.int .i64 sp] (NI b T::F) λv l'=>v=iV (Nl T (QR sp):Nat)/\l'=NI b (Pq T (QR sp))::F:=by refine AO func371 ntmps371 λE=>?_;refine AQ λb4=>?_;refine Bq (l':=NI b T::BP b4 sp::F) (.pick (.there .here) .refl) ?_;refine AR (AA rfl rfl (VY b T _ [pV b4] (QR sp) [BP b4 sp] (BP b4 sp::F) (by simp) λx l2 h2=>rF b4 sp x l2 (h2 _ (.head _)))) ?_;rintro _ _ ⟨rfl,rfl⟩;refine Aj ?_;exact Bb (.pick .here (.drop .refl)) ⟨rfl,rfl⟩
theorem wF(T:Lh)(hs:s<4):(toArray (Si T))[s*11+10]?=some (.int .i64 (T.d s)):=by rw[PG T hs AZ];simp[gd]
theorem AaU(T:Lh)(hs:s<4)(v:Int):(toArray (Si T)).setIfInBounds (s*11+10) (.int .i64 v)=toArray (Si {T with d:=Qu.upd T.d s v}):=by
 apply DH;intro j;rw[Array.getElem?_setIfInBounds,J7];by_cases hj:j<44
 case neg=>rw[Ab Af,AF,AF,Bf (by have:=J7 T;simp at this;omega),Bf (by have:=J7 {T with d:=Qu.upd T.d s v};simp at this;omega)]
 obtain⟨r,f,rfl,hr,hf⟩: ∃r f,j=r*11+f/\r<4/\f<11:=⟨j/11,j%11,Af,Af,Af⟩
 rw[PG _ hr hf,PG _ hr hf];unfold gd;by_cases e:s*11+10=r*11+f
 ·obtain⟨rfl,rfl⟩:r=s/\f=10:=by omega
  rw[Ac rfl,Ac Af];simp[Qu.upd]
 ·rw[Ab e];by_cases e2:r=s
  ·subst e2;rw[<-Am,<-Am];exact ug (by simp;omega)
  ·simp[Qu.upd,e2]
theorem wG(T:Lh)(hs:s<4):(toArray (Si T)).extract (s*11) (s*11+10)=toArray (Q4 (T.w (2*s))++Q4 (T.w (2*s+1))):=by
 apply DH;intro j;rw[EM,J7];by_cases h:j<10
 ·rw[Ac Af,PG T hs Af,AF];unfold gd;rw[<-Am,AB (by simp;omega)]
 ·rw[Ab Af,AF,Bf (by simp;omega)]
theorem wH(hb:¬UZ x)(e4:(x.pg%4).toNat=s)(hk:k<2)(hn: ∀j,j<k->¬((T.w (2*s+j)).sp=x.sp/\(T.w (2*s+j)).pg=x.pg))(h:(T.w (2*s+k)).sp=x.sp/\(T.w (2*s+k)).pg=x.pg):Kp T x=(0,Qn T (2*s+k) x):=by
 have:aO T x=some (2*s+k):=by
  unfold aO;simp only[e4];rcases k with _|_|k
  ·rw[CP] at h;rw[Ac h];rfl
  ·have h0:=hn 0 Af;rw[CP] at h0;rw[Ab h0,Ac h]
  ·omega
 unfold Kp;rw[Ab hb,this]
theorem wI(hb:¬UZ x)(e4:(x.pg%4).toNat=s)(hk:k<2)(hn: ∀j,j<2->¬((T.w (2*s+j)).sp=x.sp/\(T.w (2*s+j)).pg=x.pg))(hz: ∀j,j<k->¬(T.w (2*s+j)).sp=0)(h:(T.w (2*s+k)).sp=0):Kp T x=(0,Qn T (2*s+k) x):=by
 have:aO T x=some (2*s+k):=by
  have n0:=hn 0 Af;rw[CP] at n0;unfold aO;simp only[e4];rw[Ab n0,Ab (hn 1 Af)];rcases k with _|_|k
  ·rw[CP] at h;rw[Ac h];rfl
  ·have h0:=hz 0 Af;rw[CP] at h0;rw[Ab h0,Ac h]
  ·omega
 unfold Kp;rw[Ab hb,this]
theorem wJ(hb:¬UZ x)(e4:(x.pg%4).toNat=s)(hn: ∀j,j<2->¬((T.w (2*s+j)).sp=x.sp/\(T.w (2*s+j)).pg=x.pg))(hz: ∀j,j<2->¬(T.w (2*s+j)).sp=0):Kp T x=(0,Qn {T with d:=Qu.upd T.d s ((T.d s+1)%2)} (2*s+(T.d s).toNat) x):=by
 have:aO T x=none:=by have n0:=hn 0 Af;rw[CP] at n0;have h0:=hz 0 Af;rw[CP] at h0;unfold aO;simp only[e4];rw[Ab n0,Ab (hn 1 Af),Ab h0,Ab (hz 1 Af)]
 unfold Kp;rw[Ab hb,this];simp only[e4];rfl
theorem il(b:Nat)(T:Lh)(hd: ∀s,s<4->T.d s=0\/T.d s=1)(x:MF)(F:Ad):Fn prog 228 [pV b,wE x] (NI b T::F) λv l'=>v=iV (Kp T x).1/\l'=NI b (Kp T x).2::F:=by
 refine AO func228 ntmps228 λE=>?_;refine Aj ?_
 (first|refine AR (Ex rfl rfl) ?_|refine AR (C4 rfl) ?_);rintro _ _ ⟨b3,_,rfl,rfl⟩
 by_cases hb:UZ x
 ·rw[show Kp T x=(2,T) by unfold Kp;rw[Ac hb]];unfold UZ at hb;refine Aj ?_;iterate 7
   all_goals first
    |(refine Aad rfl rfl rfl rfl (λ_=>?_) (λ_=>?_))
    |(refine Aae rfl rfl rfl rfl (λ_=>?_) (λ_=>?_))
    |(refine j8 rfl (λ_=>?_) (λ_=>?_))
    |skip
   all_goals refine Aj ?_
  all_goals first
   |exact qr
   |(exfalso;rcases hb with h|h|h|h|h|h<;>first|omega|(simp_all;done))
 obtain⟨z1,z2,z3,z4,z5,z6⟩:1<=x.sp/\0<=x.pg/\x.pg<512/\0<=x.fr/\x.fr<64/\¬(x.rd=false/\x.wr=false):=by unfold UZ at hb;refine⟨Af,Af,Af,Af,Af,λh=>hb ?_⟩;simp[h]
 obtain⟨s,hs,hs4⟩: ∃s:Nat,x.pg%4=s/\s<4:=⟨(x.pg%4).toNat,Af,Af⟩
 have hx:=wG T hs4;have uI:=wF T hs4;have e4:(x.pg%4).toNat=s:=by omega
 refine Aj ?_;refine Aae rfl rfl rfl rfl (λh1=>?_) (λh1=>?_);all_goals refine Aj ?_
 case' refine_1=>refine j8 rfl (λh2=>(by exfalso;simp_all)) (λh2=>?_)
 all_goals refine Aj ?_
 all_goals
  refine It ?_;iterate 4 refine pc ?_
  rw[hs];refine BS ?_;refine Aj ?_;refine Be (GL (zs:=[.bool false,.bool false]) (cs:=[.bool false,.bool true]) rfl rfl) ?_;refine Aj ?_;refine H9 2 ?_;refine Aj ?_;refine Be (aW rfl rfl AZ rfl) ?_;refine Aj ?_;refine Be (Dt (n:=10) rfl (.tail _ (.head _)) (by rw[J7];omega) hx) ?_;refine Aj ?_;refine CF (α:=Nat) (λk=>[(0,pV b),(3,pV b3),(5,.pointer (some ⟨b,s*11,none⟩)),(6,.int .i64 (-1)),(8,.bool false),(55,.agg (toArray [.bool false,.bool true])),(56,.int .i64 0),(62,.agg (toArray (Q4 (T.w (2*s))++Q4 (T.w (2*s+1))))),(63,.int .i64 (k:Nat))]) (λ_=>K0 b3 x::NI b T::F) (λk=>k<=2/\ ∀j,j<k->¬((T.w (2*s+j)).sp=x.sp/\(T.w (2*s+j)).pg=x.pg)) (λk=>2-k) 0 ⟨Af,λj hj=>by omega⟩ ⟨rfl,rfl,rfl,rfl,rfl,rfl,rfl,rfl,rfl,trivial⟩ .refl ?_;rintro k ⟨hk,hn⟩;by_cases Le:k<2
  ·refine Aj ?_;refine Be (aV (i:=k) (ws:=Q4 (T.w (2*s+k))) rfl rfl Le (by rcases k with _|_|k<;>first|rfl|omega)) ?_;refine AQ λGX=>?_;by_cases P:(T.w (2*s+k)).sp=x.sp/\(T.w (2*s+k)).pg=x.pg
   ·rw[wH hb e4 Le hn P];obtain⟨p0,q0⟩:=P;refine Aj ?_;refine Cx (Cr [6] 0 7) ?_;refine Yb ?_;refine Yb ?_;refine dl ?_;iterate 3 refine Yb ?_
    refine kA ?_ (El (n:=5) (b:=b) (ws:=toArray (Q4 x)) (cs:=toArray (Si T)) rfl rfl rfl (by simp[Value.oneCell']) (by rw[show(toArray (Q4 x)).toList=Q4 x from rfl,show s*11+k*5=Jj (2*s+k) by unfold Jj;omega,YW T Af];exact DX) (by rw[J7];omega));refine Q3 ?_;refine Aj ?_;exact qr
   have jz: ∀j,j<k+1->¬((T.w (2*s+j)).sp=x.sp/\(T.w (2*s+j)).pg=x.pg):=λj hj=>by
    by_cases e:j=k
    ·subst e;exact P
    ·exact hn j Af
   have hp0:(T.w (2*s+k)).sp=x.sp->¬(T.w (2*s+k)).pg=x.pg:=λa c=>P ⟨a,c⟩;by_cases p0:(T.w (2*s+k)).sp=x.sp
   case' pos=>have q0:=hp0 p0
   all_goals
    refine Aj ?_;exact BR (k+1) ⟨Af,jz⟩ Af ⟨rfl,rfl,rfl,rfl,rfl,rfl,rfl,rfl,rfl,trivial⟩ (.drop .refl)
  obtain rfl:k=2:=by omega
  refine Aj ?_;refine E8 ?_;refine Aj ?_;rw[show(0:Int)+1=1 from rfl];refine Be (aW (i:=1) rfl rfl AZ rfl) ?_;refine Aj ?_;refine Be (Dt (n:=10) rfl (.tail _ (.head _)) (by rw[J7];omega) hx) ?_;refine Aj ?_;refine CF (α:=Nat) (λk=>[(0,pV b),(3,pV b3),(5,.pointer (some ⟨b,s*11,none⟩)),(6,.int .i64 (-1)),(8,.bool true),(55,.agg (toArray [.bool false,.bool true])),(56,.int .i64 1),(62,.agg (toArray (Q4 (T.w (2*s))++Q4 (T.w (2*s+1))))),(63,.int .i64 (k:Nat))]) (λ_=>K0 b3 x::NI b T::F) (λk=>k<=2/\ ∀j,j<k->¬(T.w (2*s+j)).sp=0) (λk=>2-k) 0 ⟨Af,λj hj=>by omega⟩ ⟨rfl,rfl,rfl,rfl,rfl,rfl,rfl,rfl,rfl,trivial⟩ .refl ?_;rintro k ⟨hk,hz⟩;by_cases Le:k<2
  ·refine Aj ?_;refine Be (aV (i:=k) (ws:=Q4 (T.w (2*s+k))) rfl rfl Le (by rcases k with _|_|k<;>first|rfl|omega)) ?_;refine AQ λGX=>?_;by_cases z0:(T.w (2*s+k)).sp=0
   ·rw[wI hb e4 Le hn hz z0];refine Aj ?_;refine Cx (Cr [6] 0 7) ?_;refine Yb ?_;refine Yb ?_;refine dl ?_;iterate 3 refine Yb ?_
    refine kA ?_ (El (n:=5) (b:=b) (ws:=toArray (Q4 x)) (cs:=toArray (Si T)) rfl rfl rfl (by simp[Value.oneCell']) (by rw[show(toArray (Q4 x)).toList=Q4 x from rfl,show s*11+k*5=Jj (2*s+k) by unfold Jj;omega,YW T Af];exact DX) (by rw[J7];omega));refine Q3 ?_;refine Aj ?_;exact qr
   ·refine Aj ?_;exact BR (k+1) ⟨Af,λj hj=>by by_cases e:j=k;subst e;exact z0;exact hz j Af⟩ Af ⟨rfl,rfl,rfl,rfl,rfl,rfl,rfl,rfl,rfl,trivial⟩ (.drop .refl)
  obtain rfl:k=2:=by omega
  rw[wJ hb e4 hn hz];have hds:=hd s hs4;refine Aj ?_;refine E8 ?_;refine Aj ?_;refine ME (Du (b:=b) (off:=s*11+10) (cs:=toArray (Si T)) (l':=K0 b3 x::NI b {T with d:=Qu.upd T.d s ((T.d s+1)%2)}::F) rfl rfl rfl (by rw[AaU T hs4];exact DX) (by rw[J7];omega)) rfl rfl ?_;rintro _ _ ⟨rfl,rfl⟩;refine Aj ?_;refine Cx (Cr [6] 0 7) ?_;refine Yb ?_;refine Yb ?_;refine dl ?_;iterate 3 refine Yb ?_
  refine kA ?_ (El (n:=5) (b:=b) (ws:=toArray (Q4 x)) (cs:=toArray (Si {T with d:=Qu.upd T.d s ((T.d s+1)%2)})) rfl rfl rfl (by simp[Value.oneCell']) (by rw[show(toArray (Q4 x)).toList=Q4 x from rfl,show s*11+(T.d s).toNat*5=Jj (2*s+(T.d s).toNat) by unfold Jj;omega,YW {T with d:=Qu.upd T.d s ((T.d s+1)%2)} Af];exact DX) (by rw[J7];omega));refine Q3 ?_;refine Aj ?_;exact qr
end Go.Proofs.YtlifcingifodfaaGreat
