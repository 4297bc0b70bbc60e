/- Laws that the statement's proof leans on (joined out of several texts). -/
import Derived.Test.YtlkgekpmileobaaGreatGb8
import Derived.Test.YtlkgekpmileobaaGreatGb31
import Derived.Test.YtlkgekpmileobaaGreatGb10
set_option linter.unusedVariables false
set_option linter.unusedSimpArgs false
namespace Go.Proofs.YtlkgekpmileobaaGreat
open Tryz
open List(toArray)
open Go.RowKit
set_option maxRecDepth 20000
variable{k s f:Nat}{T:J7}{x:Lt}{q:Nat->Bool}{A B:List Value}
abbrev de(B b:Nat):Ab:=(B,.cells (toArray [pV b]) 308 (0,0))
theorem TP(b:Nat)(l:List Ab):Fn prog 305 [pV b] l λv l'=> ∃B,v= .func (.func 343) #[] #[pV B]/\l'=de B b::l:=by refine AO func305 ntmps305 λE=>?_;refine AQ λb1=>?_;exact A8 .refl ⟨_,rfl,rfl⟩
theorem UR(T:J7)(s:Nat):(aB T s).length=11:=by simp[aB]
theorem N3(T:J7)(hs:s<4)(hf:f<11):(toArray (Qf T))[s*11+f]?=(aB T s)[f]?:=by
 rw[AE];unfold Qf;have h: ∀j,(aB T j).length=11:=UR T;obtain rfl|rfl|rfl|rfl:s=0\/s=1\/s=2\/s=3:=by omega
 ·rw[AC (by rw[h];omega),FY,Bw]
 ·rw[AP (by rw[h];omega),AC (by rw[h,h];omega),h];congr 1;omega
 ·rw[AP (by rw[h];omega),AP (by rw[h,h];omega),AC (by rw[h,h,h];omega),h,h];congr 1;omega
 ·rw[AP (by rw[h];omega),AP (by rw[h,h];omega),AP (by rw[h,h,h];omega),h,h,h];congr 1;omega
def Io(k:Nat):Nat:=k/2*11+k%2*5
theorem RU(T:J7)(hk:k<8)(hf:f<5):(toArray (Qf T))[Io k+f]?=(O9 (T.w k))[f]?:=by
 unfold Io;rw[show k/2*11+k%2*5+f=k/2*11+(k%2*5+f) by omega,N3 T Af Af];unfold aB;rcases Nat.mod_two_eq_zero_or_one k with h|h
 ·rw[h,FY,Bw,show 2*(k/2)=k by omega,AC (by simp;omega)]
 ·rw[h,AP (by simp),AC (by simp;omega),show 2*(k/2)+1=k by omega];congr 1;simp
abbrev ZA(T:J7)(k:Nat):Bool:=!decide ((T.w k).sp=0)
theorem Nr(q:Nat->Bool)(h:k<=8):(List.range k).filter q<+:(List.range 8).filter q:=by
 obtain⟨j,hj⟩: ∃j,8=k+j:=⟨8-k,Af⟩
 rw[hj,List.range_add,Dl];exact⟨_,rfl⟩
theorem US(h:q k=false):(List.range (k+1)).filter q=(List.range k).filter q:=by rw[Cs,Dl];simp[h]
theorem Qn(h:q k=true):(List.range (k+1)).filter q=(List.range k).filter q++[k]:=by rw[Cs,Dl];simp[h]
abbrev tW(B b:Nat)(T:J7)(pre:List Nat)(l:List Ab):Prop:=de B b∈l/\ ∃T':J7,Mj b T'∈l/\ ∀j,j<8->(∀x,x∈pre->x<j)->T'.w j=T.w j
set_option maxHeartbeats 2000000 in
theorem RV(B b:Nat)(T:J7):E2 prog 343 [pV B] (λk:Nat=>[.pointer (some ⟨b,Io k,none⟩)]) (λxs=>xs=KL T) (λpre=>pre<+:KL T) (tW B b T):=by
 refine⟨λr I Ix G0 hneed hY l G hG h0=>?_⟩;have key: ∀k l,k<8->I ((List.range k).filter (ZA T)) l->de B b∈l++G/\ ∃T':J7,Mj b T'∈l++G/\(toArray (Qf T'))[Io k+0]?=some (.int .i64 (T.w k).sp):=λk l hk hI=>by
  obtain⟨n1,T',n2,n3⟩:=hneed _ _ G hG hI;have e:=n3 k hk λx hx=>by have:=(Cr.1 hx).1;simpa using this
  exact⟨n1,T',n2,by rw[RU T' hk AW,e];rfl⟩
 have hy: ∀k l,k<8->ZA T k=true->I ((List.range k).filter (ZA T)) l->_:=λk l hk hn hI=>hY _ k l G hG hI (by rw[<-Qn hn];exact Nr _ hk);refine AO func343 ntmps343 λE=>?_;have n1:=(hneed _ _ G hG h0).1;refine Aj ?_;refine Cu (α:=Nat×List Ab) (λx=>[(0,.func (.yield r) #[] #[]),(1,pV B),(7,.int .i64 (x.1:Nat))]) (λx=>x.2++G) (λx=>x.1<=4/\I ((List.range (2*x.1)).filter (ZA T)) x.2) (λx=>4-x.1) (0,l) ⟨Bf _,h0⟩ ⟨rfl,rfl,rfl,trivial⟩ .refl ?_;clear n1 h0;rintro⟨s,l⟩ ⟨hs,hI⟩;simp only at hs hI⊢;by_cases h4:s<4
 case neg=>
  obtain rfl:s=4:=by omega
  refine Aj ?_;exact A8 .refl ⟨l,rfl,.inl ⟨_,rfl,hI⟩⟩
 have o1:Io (2*s)=s*11+Int.toNat 0*5:=by unfold Io;first|(simp;done)|(simp;omega)
 have o2:Io (2*s+1)=s*11+Int.toNat (0+1)*5:=by unfold Io;first|(simp;done)|(simp;omega)
 obtain⟨n1,T',n2,n3⟩:=key (2*s) l Af hI;rw[CN,o1] at n3;have hy1:=hy (2*s) l Af;have hy2:=λl=>hy (2*s+1) l Af;rw[o1] at hy1;rw[o2] at hy2;refine Aj ?_;refine Hb 2 ?_;refine Aj ?_;by_cases hz:(T.w (2*s)).sp=0
 ·have hI2:I ((List.range (2*s+1)).filter (ZA T)) l:=by rw[US (by simpa[ZA] using hz)];exact hI
  refine Aj ?_;refine Ew ?_;obtain⟨n1,T',n2,n3⟩:=key (2*s+1) l Af hI2;rw[CN,o2] at n3;refine Aj ?_;by_cases hz2:(T.w (2*s+1)).sp=0
  ·refine Aj ?_;refine Ew ?_;refine Aj ?_;exact BS (s+1,l) ⟨by simp only;omega,by simp only;rw[show 2*(s+1)=2*s+1+1 by omega,US (by simpa[ZA] using hz2)];exact hI2⟩ (by simp only;omega) ⟨rfl,rfl,rfl,trivial⟩ .refl
  ·have hn:ZA T (2*s+1)=true:=by simpa[ZA] using hz2
   refine Aj ?_;refine It (CK rfl rfl (hy2 l hn hI2)) rfl rfl rfl ?_;rw[<-Qn hn];rintro v _ ⟨l1,rfl,⟨rfl,hI3⟩|⟨rfl,hx⟩⟩
   ·refine Aj ?_;refine Ew ?_;refine Aj ?_;exact BS (s+1,l1) ⟨by simp only;omega,hI3⟩ (by simp only;omega) ⟨rfl,rfl,rfl,trivial⟩ .refl
   ·refine Aj ?_;exact By [] rfl .refl (by exact A7) ⟨l1,rfl,.inr ⟨_,Nr _ Af,hx⟩⟩
 ·have hn:ZA T (2*s)=true:=by simpa[ZA] using hz
  refine Aj ?_;refine It (CK rfl rfl (hy1 hn hI)) rfl rfl rfl ?_;rw[<-Qn hn];rintro v _ ⟨l1,rfl,⟨rfl,hI2⟩|⟨rfl,hx⟩⟩
  case' inr=>
   refine Aj ?_;exact By [] rfl .refl (by exact A7) ⟨l1,rfl,.inr ⟨_,Nr _ Af,hx⟩⟩
  refine Aj ?_;refine Ew ?_;obtain⟨n1,T',n2,n3⟩:=key (2*s+1) l1 Af hI2;rw[CN,o2] at n3;refine Aj ?_;by_cases hz2:(T.w (2*s+1)).sp=0
  ·refine Aj ?_;refine Ew ?_;refine Aj ?_;exact BS (s+1,l1) ⟨by simp only;omega,by simp only;rw[show 2*(s+1)=2*s+1+1 by omega,US (by simpa[ZA] using hz2)];exact hI2⟩ (by simp only;omega) ⟨rfl,rfl,rfl,trivial⟩ .refl
  ·have hn:ZA T (2*s+1)=true:=by simpa[ZA] using hz2
   refine Aj ?_;refine It (CK rfl rfl (hy2 l1 hn hI2)) rfl rfl rfl ?_;rw[<-Qn hn];rintro v _ ⟨l2,rfl,⟨rfl,hI3⟩|⟨rfl,hx⟩⟩
   ·refine Aj ?_;refine Ew ?_;refine Aj ?_;exact BS (s+1,l2) ⟨by simp only;omega,hI3⟩ (by simp only;omega) ⟨rfl,rfl,rfl,trivial⟩ .refl
   ·refine Aj ?_;exact By [] rfl .refl (by exact A7) ⟨l2,rfl,.inr ⟨_,Nr _ Af,hx⟩⟩
theorem mK(T:J7)(hk:k<8):(toArray (Qf T)).extract (Io k) (Io k+5)=toArray (O9 (T.w k)):=by
 apply Dk;intro j;rw[EI];have hs:(toArray (Qf T)).size=44:=by simp[Qf,UR]
 by_cases h:j<5
 ·rw[Ae (by rw[hs];unfold Io;omega),RU T hk h,AE]
 ·rw[Ac Af,AE,Bb (by simp;omega)]
theorem Jc(T:J7):(toArray (Qf T)).size=44:=by simp[Qf,UR]
theorem Qo(h:k<8):Io k+5<=44:=by unfold Io;omega
theorem mL{A':List Value}(h:A.length=A'.length)(hf:A.length<=f):(A++B)[f]?=(A'++B)[f]?:=by rw[AP hf,AP (h▸hf),h]
theorem mO{B':List Value}(hf:f<A.length):(A++B)[f]?=(A++B')[f]?:=by rw[AC hf,AC hf]
theorem Wq(T:J7)(hk:k<8)(x:Lt):CO (toArray (Qf T)) (Io k) (O9 x)=toArray (Qf (OM T k x)):=by
 apply Dk;intro j;rw[Q5,Jc];have hl:=Qo hk;have hx:(O9 x).length=5:=rfl;rw[hx];by_cases hj:j<44
 case neg=>rw[Ac Af,AE,AE,Bb (by have:=Jc T;simp at this;omega),Bb (by have:=Jc (OM T k x);simp at this;omega)]
 obtain⟨s,f,rfl,hs,hf⟩: ∃s f,j=s*11+f/\s<4/\f<11:=⟨j/11,j%11,Af,Af,Af⟩
 rw[N3 _ hs hf,N3 _ hs hf];have e1:(OM T k x).d=T.d:=rfl;have e2: ∀i,(OM T k x).w i=if i=k then x else T.w i:=λi=>rfl
 unfold aB;rw[e1,e2,e2];by_cases hin:Io k<=s*11+f/\s*11+f<Io k+5
 ·rw[Ae ⟨hin.1,Af,Af⟩];unfold Io at hin⊢;obtain rfl:s=k/2:=by omega
  rcases Nat.mod_two_eq_zero_or_one k with h|h
  ·rw[h] at hin⊢;rw[Ae Af,AC (by simp;omega)];congr 1;omega
  ·rw[h] at hin⊢;rw[Ac Af,Ae Af,AP (by simp;omega),AC (by simp;omega)];congr 1;simp;omega
 ·rw[Ac Af];unfold Io at hin;by_cases a:2*s=k
  ·rw[Ae a,Ac Af];exact mL rfl (by simp;omega)
  ·by_cases c:2*s+1=k
   ·rw[Ac a,Ae c];by_cases hf5:f<5
    ·exact mO (by simp;omega)
    ·rw[<-Al,<-Al];exact mL rfl (by simp;omega)
   ·rw[Ac a,Ac c]
abbrev JS(B:Nat)(x:Lt):Ab:=(B,.cells (toArray (O9 x)) 302 (0,0))
abbrev ov(x:Lt):Value:= .agg (toArray (O9 x))
abbrev Vf(B:Nat)(x:Bool):Ab:=(B,.cells (toArray [.bool x]) 4 (0,0))
set_option maxHeartbeats 1000000 in
theorem bM(b:Nat)(T:J7)(sp pg:Int)(l:List Ab)(m1:Mj b T∈l):Fn prog 227 [pV b,.int .i64 sp,.int .i64 pg] l λv l'=>v= .tuple #[ov (RO T sp pg).1,.bool (RO T sp pg).2]/\l'=l:=by
 unfold RO;refine AO func227 ntmps227 λE=>?_;refine AQ λb4=>?_;refine AQ λb5=>?_;refine AQ λb6=>?_;refine AQ λb7=>?_;refine AS (Az rfl rfl (TP b _)) ?_;rintro _ _ ⟨B,rfl,rfl⟩;refine Aj ?_;refine CU (α:=Nat) (ps:=[11]) (lb:=[pV B]) rfl (RV B b T) (λ_=>rfl) rfl
  (λpre l=>(∀k,k∈pre->(decide ((T.w k).sp=sp)&&decide ((T.w k).pg=pg))=false)/\l=[de B b,Vf b7 false,JS b6 O4,BG b5 pg,BG b4 sp])
  (λc pre l=>c= .ret/\ ∃pre' k,pre=pre'++[k]/\(∀k,k∈pre'->(decide ((T.w k).sp=sp)&&decide ((T.w k).pg=pg))=false)/\(decide ((T.w k).sp=sp)&&decide ((T.w k).pg=pg))=true/\l=[Vf b7 true,JS b6 (T.w k)])
  [de B b,Vf b7 false,JS b6 O4,BG b5 pg,BG b4 sp] l (λpre l2 X2 hX h=>⟨by rw[h.2];exact Ai _ (.head _),T,Aa _ (hX _ m1),λ_ _ _=>rfl⟩) (by exact AR) ⟨λ_ h=>(nomatch h),rfl⟩ ?_ ?_ ?_
 ·rintro E r0 rec pre k l' X ⟨fn,tmps,D,rfl⟩ hX ⟨hn,rfl⟩ hsp;have hk:k<8:=by
   have h3:k∈KL T:=hsp.subset (by simp);have:=(Cr.1 h3).1;simpa using this
  have mX:=hX _ m1;have c0:=RU T hk (f:=0) AW;have c1:=RU T hk (f:=1) AW;simp only[Du,Ad,Ag,CN] at c0 c1⊢;refine Aj ?_;refine Cp (by exact Dw) ?_;refine Aj ?_;refine Hw ?_;have c0:(toArray (Qf T))[Io k]?=some (.int .i64 (T.w k).sp):=c0;have c1:(toArray (Qf T))[Io k+1]?=some (.int .i64 (T.w k).pg):=c1;by_cases h1:(T.w k).sp=sp
  case neg=>
   refine BI ?_;refine Aj ?_;exact B9 [de B b,Vf b7 false,JS b6 O4,BG b5 pg,BG b4 sp] (by exact AR) ⟨λz hz=>by
    rcases AF.1 hz with hz|hz
    ·exact hn z hz
    ·rw[AA.1 hz];simp[h1],rfl⟩
  by_cases h2:(T.w k).pg=pg
  case neg=>
   refine BI ?_;refine Aj ?_;exact B9 [de B b,Vf b7 false,JS b6 O4,BG b5 pg,BG b4 sp] (by exact AR) ⟨λz hz=>by
    rcases AF.1 hz with hz|hz
    ·exact hn z hz
    ·rw[AA.1 hz];simp[h2],rfl⟩
  refine BI ?_;refine Aj ?_;refine Bc (Dm (n:=5) rfl (by first|exact .tail _ (.tail _ (.tail _ (.tail _ (.tail _ (.tail _ mX)))))) (by rw[Jc];exact Qo hk) (mK T hk)) ?_;refine Aj ?_;exact D3 [Vf b7 true,JS b6 (T.w k)] (by exact AR) ⟨rfl,pre,k,rfl,hn,by simp[h1,h2],rfl⟩
 ·rintro D xs l' rfl ⟨hn,rfl⟩;rw[Bu.2 λy hy=>by rw[hn y hy];decide];simp only[Ad,Ag];refine Aj ?_;exact AU [D] _ rfl (l':=l) (by exact AR) (by exact A7) (by exact AR) ⟨rfl,rfl⟩
 ·rintro D c pre l' hsp ⟨rfl,pre',k,rfl,hn,hx,rfl⟩;rw[Wp hsp hn hx];simp only[Ad,Ag];refine Aj ?_;exact AU [D] _ rfl (l':=l) (by exact AR) (by exact A7) (by exact AR) ⟨rfl,rfl⟩
theorem Yb(b:Nat)(T:J7)(st wy:Int)(F:List Ab):Fn prog 165 [pV b,.int .i64 st,.int .i64 wy] (Mj b T::F) λv l'=>v= .bool (LH T st wy).1/\l'=Mj b (LH T st wy).2::F:=by
 unfold LH;refine AO func165 ntmps165 λE=>?_;by_cases hb:st<0\/st>=4\/wy<0\/wy>=2
 ·rw[Ae hb];by_cases h1:st<0<;>by_cases h2:st>=4<;>by_cases h3:wy<0<;>by_cases h4:wy>=2;all_goals first
   |(exfalso;omega)
   |(refine Aj ?_
     exact qr)
 rw[Ac hb];obtain⟨s,rfl⟩: ∃q:Nat,st=q:=⟨st.toNat,Af⟩
 obtain⟨w,rfl⟩: ∃q:Nat,wy=q:=⟨wy.toNat,Af⟩
 have hk:2*s+w<8:=by omega
 have ho:s*11+w*5=Io (2*s+w):=by unfold Io;omega
 have c0:=RU T hk (f:=0) AW;have c0:(toArray (Qf T))[s*11+w*5]?=some (.int .i64 (T.w (2*s+w)).sp):=by rw[ho];exact c0
 rw[A3,A3];refine Aj ?_;refine LV (Ee (n:=5) (l':=Mj b (OM T (2*s+w) O4)::F) rfl rfl rfl (by simp[Value.oneCell']) (by rw[show(toArray _).toList=O9 O4 from rfl,ho,Wq T hk];exact .here) (by rw[Jc,ho];exact Qo hk)) rfl rfl ?_;rintro _ _ ⟨rfl,rfl⟩;refine Aj ?_;exact By [] rfl .refl (by exact A7) ⟨by simp[Iw],rfl⟩
def dropL(T:J7)(f:Lt->Bool)(pre:List Nat):J7:={T with w:=λk=>if k∈pre/\f (T.w k)=true then O4 else T.w k}
abbrev rG(B gf:Nat)(cs:List Value):Ab:=(B,.cells (toArray [.func (.func gf) #[] (toArray cs)]) 541 (0,0))
theorem RW{f:Lt->Bool}{pre:List Nat}:dropL T f (pre++[k])=if f (T.w k)=true then OM (dropL T f pre) k O4 else dropL T f pre:=by
 unfold dropL OM
 split
 ·rename_i h;congr 1;funext j;simp only[Qu.upd,AF,AA];by_cases e:j=k
  ·subst e;simp[h]
  ·simp[e]
 ·rename_i h;congr 1;funext j;simp only[AF,AA];by_cases e:j=k
  ·subst e;simp[h]
  ·simp[e]
theorem bN(T:J7)(f:Lt->Bool):dropL T f (KL T)=NM T f:=by unfold dropL NM;congr 1;funext k;unfold jX KL;simp[Cr,and_assoc]
set_option maxHeartbeats 1000000 in
theorem TQ(b:Nat)(T:J7)(gf:Nat)[EN prog gf](cs:List Value)(f:Lt->Bool)(R F:List Ab)(hR: ∀c,c∈R->c∈F)(hf: ∀x l2,(∀c,c∈R->c∈l2)->Fn prog gf (ov x::cs) l2 λv l'=>v= .bool (f x)/\l'=l2):
 Fn prog 376 [pV b,.func (.func gf) #[] (toArray cs)] (Mj b T::F) λv l'=>v=iV (LZ T f:Nat)/\l'=Mj b (NM T f)::F:=by
 refine AO func376 ntmps376 λE=>?_;refine AQ λb3=>?_;refine AQ λb5=>?_;refine AS (Az rfl rfl (TP b _)) ?_;rintro _ _ ⟨B,rfl,rfl⟩;refine Aj ?_;refine CU (α:=Nat) (ps:=[9]) (lb:=[pV B]) rfl (RV B b T) (λ_=>rfl) rfl
  (λpre l=>l=[de B b,BG b5 ((pre.filter λk=>f (T.w k)).length:Nat),rG b3 gf cs,Mj b (dropL T f pre)])
  (λc pre l=>False)
  [de B b,BG b5 0,rG b3 gf cs,Mj b T] F (λpre l2 X2 hX h=>by
   subst h;refine⟨Ai _ (.head _),dropL T f pre,Ai _ (.tail _ (.tail _ (.tail _ (.head _)))),λj _ hj=>?_⟩;have:¬j∈pre:=λhm=>by have:=hj j hm;omega
   simp[dropL,this]) (by exact AR) (by simp[dropL]) ?_ ?_ ?_
 ·rintro E r0 rec pre k l' X ⟨fn,tmps,D,rfl⟩ hX rfl hsp;have hk:k<8:=by
   have h3:k∈KL T:=hsp.subset (by simp);have:=(Cr.1 h3).1;simpa using this
  have hkn:¬k∈pre:=λhm=>by have h3:=(List.nodup_range (n:=8)).filter (λk=>!decide ((T.w k).sp=0));have h4:=h3.sublist hsp.sublist;exact absurd rfl ((Bs.1 h4).2.2 k hm k (by simp))
  have ew:(dropL T f pre).w k=T.w k:=by simp[dropL,hkn]
  have hl:=Qo hk;have hx:=mK (dropL T f pre) hk;rw[ew] at hx;simp only[Du,Ad,Ag];refine Aj ?_;refine Cp (by exact Dw) ?_;refine Aj ?_;refine Ch (Cf [] 0 5) ?_;refine Y8 ?_;refine Un ?_;refine Un ?_;refine Y8 ?_ (Dm (n:=5) rfl (.tail _ (.tail _ (.tail _ (.head _)))) (by rw[Jc];exact hl) hx);refine Y8 ?_ (Fb rfl rfl λl2 hl2=>hf (T.w k) l2 λc hc=>hl2 _ (.tail _ (.tail _ (.tail _ (.tail _ (.tail _ (hX _ (hR _ hc))))))));refine O8 ?_;have hc: ∀n:Nat,((pre++[k]).filter λk=>f (T.w k)).length=n->n=(pre.filter λk=>f (T.w k)).length+if f (T.w k)=true then 1 else 0:=λn h=>by rw[<-h,Dl,Ah];simp[ET];split<;>rfl
  cases hfk:f (T.w k) with
  |false=>refine Aj ?_;exact B9 [de B b,BG b5 ((pre.filter λk=>f (T.w k)).length:Nat),rG b3 gf cs,Mj b (dropL T f pre)] (by exact AR) (by rw[RW,Ac (by rw[hfk];decide),hc _ rfl,Ac (by rw[hfk];decide)];rfl)
  |true=>
   have hpl:=(hsp.length_le:(pre++[k]).length<=_)
   have hpl2:(KL T).length<=8:=C6 _ _;have hpf:=C6 (λk=>f (T.w k)) pre;rw[Ah] at hpl;refine Aj ?_;refine LV (Ee (n:=5) (b:=b) (off:=Io k) (cs:=toArray (Qf (dropL T f pre))) (l':=de B b::BG b5 ((pre.filter λk=>f (T.w k)).length:Nat)::rG b3 gf cs::Mj b (OM (dropL T f pre) k O4)::_) rfl rfl rfl (by simp[Value.oneCell']) (by rw[show(toArray _).toList=O9 O4 from rfl,Wq _ hk];exact Dw) (by rw[Jc];exact hl)) rfl rfl ?_;rintro _ _ ⟨rfl,rfl⟩;refine Aj ?_;exact B9 [de B b,BG b5 (((pre.filter λk=>f (T.w k)).length:Nat)+1),rG b3 gf cs,Mj b (OM (dropL T f pre) k O4)] (by exact AR) (by rw[RW,Ae hfk,hc _ rfl,Ae hfk];rfl)
 ·rintro D xs l' rfl rfl;have hd:((KL T).filter λk=>f (T.w k)).length=LZ T f:=by
   unfold LZ KL jX;rw[List.filter_filter];congr 1;exact List.filter_congr λk hk=>by rw[At (by simpa using hk:k<8),Bn,Bool.and_comm]
  rw[hd,bN];simp only[Ad,Ag];refine Aj ?_;exact AU [D] _ rfl (l':=Mj b (NM T f)::F) (by exact AR) (by exact A7) (by exact AR) ⟨rfl,rfl⟩
 ·rintro D c pre l' hsp h;exact h.elim
theorem kz(b4 b5:Nat)(sp pg:Int)(x:Lt)(l:List Ab)(m4:BG b4 sp∈l)(m5:BG b5 pg∈l):Fn prog 377 [ov x,pV b4,pV b5] l λv l'=>v= .bool (Jk sp pg x)/\l'=l:=by
 refine AO func377 ntmps377 λE=>?_;refine Aj ?_
 (first|refine AS (DZ rfl rfl) ?_|refine AS (CR rfl) ?_);rintro _ _ ⟨b3,_,rfl,rfl⟩
 have m4':=An (JS b3 x) m4;have m5':=An (JS b3 x) m5;by_cases h1:x.sp=sp<;>by_cases h2:x.pg=pg;all_goals
  refine Aj ?_;refine qr (hx:=?_);simp[Iw,h1,h2]
theorem kA(b4:Nat)(sp:Int)(x:Lt)(l:List Ab)(m4:BG b4 sp∈l):Fn prog 391 [ov x,pV b4] l λv l'=>v= .bool (PF sp x)/\l'=l:=by
 refine AO func391 ntmps391 λE=>?_;refine Aj ?_
 (first|refine AS (DZ rfl rfl) ?_|refine AS (CR rfl) ?_);rintro _ _ ⟨b3,_,rfl,rfl⟩
 have m4':=An (JS b3 x) m4;refine Aj ?_;exact qr
theorem Yc(b:Nat)(T:J7)(sp pg:Int)(F:List Ab):Fn prog 342 [pV b,.int .i64 sp,.int .i64 pg] (Mj b T::F) λv l'=>v=iV (LZ T (Jk sp pg):Nat)/\l'=Mj b (NM T (Jk sp pg))::F:=by refine AO func342 ntmps342 λE=>?_;refine AQ λb4=>?_;refine AQ λb5=>?_;refine Bk (l':=Mj b T::BG b5 pg::BG b4 sp::F) (.pick (.there (.there .here)) .refl) ?_;refine AS (Az rfl rfl (TQ b T _ [pV b4,pV b5] (Jk sp pg) [BG b5 pg,BG b4 sp] (BG b5 pg::BG b4 sp::F) (by simp) λx l2 h2=>kz b4 b5 sp pg x l2 (h2 _ (.tail _ (.head _))) (h2 _ (.head _)))) ?_;rintro _ _ ⟨rfl,rfl⟩;refine Aj ?_;exact A8 (.pick .here (.drop (.drop .refl))) ⟨rfl,rfl⟩
theorem Yd(b:Nat)(T:J7)(sp:Int)(F:List Ab):Fn prog 372 [pV b,.int .i64 sp] (Mj b T::F) λv l'=>v=iV (LZ T (PF sp):Nat)/\l'=Mj b (NM T (PF sp))::F:=by refine AO func372 ntmps372 λE=>?_;refine AQ λb4=>?_;refine Bk (l':=Mj b T::BG b4 sp::F) (.pick (.there .here) .refl) ?_;refine AS (Az rfl rfl (TQ b T _ [pV b4] (PF sp) [BG b4 sp] (BG b4 sp::F) (by simp) λx l2 h2=>kA b4 sp x l2 (h2 _ (.head _)))) ?_;rintro _ _ ⟨rfl,rfl⟩;refine Aj ?_;exact A8 (.pick .here (.drop .refl)) ⟨rfl,rfl⟩
theorem ow(T:J7)(hs:s<4):(toArray (Qf T))[s*11+10]?=some (.int .i64 (T.d s)):=by rw[N3 T hs AW];simp[aB]
theorem rH(T:J7)(hs:s<4)(v:Int):(toArray (Qf T)).setIfInBounds (s*11+10) (.int .i64 v)=toArray (Qf {T with d:=Qu.upd T.d s v}):=by
 apply Dk;intro j;rw[Array.getElem?_setIfInBounds,Jc];by_cases hj:j<44
 case neg=>rw[Ac Af,AE,AE,Bb (by have:=Jc T;simp at this;omega),Bb (by have:=Jc {T with d:=Qu.upd T.d s v};simp at this;omega)]
 obtain⟨r,f,rfl,hr,hf⟩: ∃r f,j=r*11+f/\r<4/\f<11:=⟨j/11,j%11,Af,Af,Af⟩
 rw[N3 _ hr hf,N3 _ hr hf];unfold aB;by_cases e:s*11+10=r*11+f
 ·obtain⟨rfl,rfl⟩:r=s/\f=10:=by omega
  rw[Ae rfl,Ae Af];simp[Qu.upd]
 ·rw[Ac e];by_cases e2:r=s
  ·subst e2;rw[<-Al,<-Al];exact mO (by simp;omega)
  ·simp[Qu.upd,e2]
theorem ox(T:J7)(hs:s<4):(toArray (Qf T)).extract (s*11) (s*11+10)=toArray (O9 (T.w (2*s))++O9 (T.w (2*s+1))):=by
 apply Dk;intro j;rw[EI,Jc];by_cases h:j<10
 ·rw[Ae Af,N3 T hs Af,AE];unfold aB;rw[<-Al,AC (by simp;omega)]
 ·rw[Ac Af,AE,Bb (by simp;omega)]
theorem oy(hb:¬SG x)(e4:(x.pg%4).toNat=s)(hk:k<2)(hn: ∀j,j<k->¬((T.w (2*s+j)).sp=x.sp/\(T.w (2*s+j)).pg=x.pg))(h:(T.w (2*s+k)).sp=x.sp/\(T.w (2*s+k)).pg=x.pg):Jp T x=(0,OM T (2*s+k) x):=by
 have:XV T x=some (2*s+k):=by
  unfold XV;simp only[e4];rcases k with _|_|k
  ·rw[CN] at h;rw[Ae h];rfl
  ·have h0:=hn 0 Af;rw[CN] at h0;rw[Ac h0,Ae h]
  ·omega
 unfold Jp;rw[Ac hb,this]
theorem oz(hb:¬SG x)(e4:(x.pg%4).toNat=s)(hk:k<2)(hn: ∀j,j<2->¬((T.w (2*s+j)).sp=x.sp/\(T.w (2*s+j)).pg=x.pg))(hz: ∀j,j<k->¬(T.w (2*s+j)).sp=0)(h:(T.w (2*s+k)).sp=0):Jp T x=(0,OM T (2*s+k) x):=by
 have:XV T x=some (2*s+k):=by
  have n0:=hn 0 Af;rw[CN] at n0;unfold XV;simp only[e4];rw[Ac n0,Ac (hn 1 Af)];rcases k with _|_|k
  ·rw[CN] at h;rw[Ae h];rfl
  ·have h0:=hz 0 Af;rw[CN] at h0;rw[Ac h0,Ae h]
  ·omega
 unfold Jp;rw[Ac hb,this]
theorem oC(hb:¬SG x)(e4:(x.pg%4).toNat=s)(hn: ∀j,j<2->¬((T.w (2*s+j)).sp=x.sp/\(T.w (2*s+j)).pg=x.pg))(hz: ∀j,j<2->¬(T.w (2*s+j)).sp=0):Jp T x=(0,OM {T with d:=Qu.upd T.d s ((T.d s+1)%2)} (2*s+(T.d s).toNat) x):=by
 have:XV T x=none:=by have n0:=hn 0 Af;rw[CN] at n0;have h0:=hz 0 Af;rw[CN] at h0;unfold XV;simp only[e4];rw[Ac n0,Ac (hn 1 Af),Ac h0,Ac (hz 1 Af)]
 unfold Jp;rw[Ac hb,this];simp only[e4];rfl
set_option maxHeartbeats 4000000 in
theorem bO(b:Nat)(T:J7)(hd: ∀s,s<4->T.d s=0\/T.d s=1)(x:Lt)(F:List Ab):Fn prog 229 [pV b,ov x] (Mj b T::F) λv l'=>v=iV (Jp T x).1/\l'=Mj b (Jp T x).2::F:=by
 refine AO func229 ntmps229 λE=>?_;refine Aj ?_
 (first|refine AS (DZ rfl rfl) ?_|refine AS (CR rfl) ?_);rintro _ _ ⟨b3,_,rfl,rfl⟩
 by_cases hb:SG x
 ·rw[show Jp T x=(2,T) by unfold Jp;rw[Ae hb]];unfold SG at hb;refine Aj ?_;iterate 7
   all_goals first
    |(refine qG rfl rfl rfl rfl (λ_=>?_) (λ_=>?_))
    |(refine qH rfl rfl rfl rfl (λ_=>?_) (λ_=>?_))
    |(refine dv rfl (λ_=>?_) (λ_=>?_))
    |skip
   all_goals refine Aj ?_
  all_goals first
   |exact qr
   |(exfalso;rcases hb with h|h|h|h|h|h<;>first|omega|(simp_all;done))
 obtain⟨z1,z2,z3,z4,z5,z6⟩:1<=x.sp/\0<=x.pg/\x.pg<512/\0<=x.fr/\x.fr<64/\¬(x.rd=false/\x.wr=false):=by unfold SG at hb;refine⟨Af,Af,Af,Af,Af,λh=>hb ?_⟩;simp[h]
 obtain⟨s,hs,hs4⟩: ∃s:Nat,x.pg%4=s/\s<4:=⟨(x.pg%4).toNat,Af,Af⟩
 have hx:=ox T hs4;have hc0:=ow T hs4;have e4:(x.pg%4).toNat=s:=by omega
 refine Aj ?_;refine qH rfl rfl rfl rfl (λh1=>?_) (λh1=>?_);all_goals refine Aj ?_
 case' refine_1=>refine dv rfl (λh2=>(by exfalso;simp_all)) (λh2=>?_)
 all_goals refine Aj ?_
 all_goals
  refine Hw ?_;iterate 4 refine iK ?_
  rw[hs];refine BI ?_;refine Aj ?_;refine Bc (F5 (zs:=[.bool false,.bool false]) (cs:=[.bool false,.bool true]) rfl rfl) ?_;refine Aj ?_;refine Hb 2 ?_;refine Aj ?_;refine Bc (X9 rfl rfl AW rfl) ?_;refine Aj ?_;refine Bc (Dm (n:=10) rfl (.tail _ (.head _)) (by rw[Jc];omega) hx) ?_;refine Aj ?_;refine Cu (α:=Nat) (λk=>[(0,pV b),(3,pV b3),(5,.pointer (some ⟨b,s*11,none⟩)),(6,.int .i64 (-1)),(8,.bool false),(55,.agg (toArray [.bool false,.bool true])),(56,.int .i64 0),(62,.agg (toArray (O9 (T.w (2*s))++O9 (T.w (2*s+1))))),(63,.int .i64 (k:Nat))]) (λ_=>JS b3 x::Mj b T::F) (λk=>k<=2/\ ∀j,j<k->¬((T.w (2*s+j)).sp=x.sp/\(T.w (2*s+j)).pg=x.pg)) (λk=>2-k) 0 ⟨Af,λj hj=>by omega⟩ ⟨rfl,rfl,rfl,rfl,rfl,rfl,rfl,rfl,rfl,trivial⟩ .refl ?_;rintro k ⟨hk,hn⟩;by_cases hk2:k<2
  ·refine Aj ?_;refine Bc (X6 (i:=k) (ws:=O9 (T.w (2*s+k))) rfl rfl hk2 (by rcases k with _|_|k<;>first|rfl|omega)) ?_;refine AQ λb10=>?_;by_cases P:(T.w (2*s+k)).sp=x.sp/\(T.w (2*s+k)).pg=x.pg
   ·rw[oy hb e4 hk2 hn P];obtain⟨p0,q0⟩:=P;refine Aj ?_;refine Ch (Cf [6] 0 7) ?_;refine Un ?_;refine Un ?_;refine Y8 ?_;iterate 3 refine Un ?_
    refine dJ ?_ (Ee (n:=5) (b:=b) (ws:=toArray (O9 x)) (cs:=toArray (Qf T)) rfl rfl rfl (by simp[Value.oneCell']) (by rw[show(toArray (O9 x)).toList=O9 x from rfl,show s*11+k*5=Io (2*s+k) by unfold Io;omega,Wq T Af];exact Dw) (by rw[Jc];omega));refine O8 ?_;refine Aj ?_;exact qr
   have hn2: ∀j,j<k+1->¬((T.w (2*s+j)).sp=x.sp/\(T.w (2*s+j)).pg=x.pg):=λj hj=>by
    by_cases e:j=k
    ·subst e;exact P
    ·exact hn j Af
   have hp0:(T.w (2*s+k)).sp=x.sp->¬(T.w (2*s+k)).pg=x.pg:=λa c=>P ⟨a,c⟩;by_cases p0:(T.w (2*s+k)).sp=x.sp
   case' pos=>have q0:=hp0 p0
   all_goals
    refine Aj ?_;exact BS (k+1) ⟨Af,hn2⟩ Af ⟨rfl,rfl,rfl,rfl,rfl,rfl,rfl,rfl,rfl,trivial⟩ (.drop .refl)
  obtain rfl:k=2:=by omega
  refine Aj ?_;refine Ew ?_;refine Aj ?_;rw[show(0:Int)+1=1 from rfl];refine Bc (X9 (i:=1) rfl rfl AW rfl) ?_;refine Aj ?_;refine Bc (Dm (n:=10) rfl (.tail _ (.head _)) (by rw[Jc];omega) hx) ?_;refine Aj ?_;refine Cu (α:=Nat) (λk=>[(0,pV b),(3,pV b3),(5,.pointer (some ⟨b,s*11,none⟩)),(6,.int .i64 (-1)),(8,.bool true),(55,.agg (toArray [.bool false,.bool true])),(56,.int .i64 1),(62,.agg (toArray (O9 (T.w (2*s))++O9 (T.w (2*s+1))))),(63,.int .i64 (k:Nat))]) (λ_=>JS b3 x::Mj b T::F) (λk=>k<=2/\ ∀j,j<k->¬(T.w (2*s+j)).sp=0) (λk=>2-k) 0 ⟨Af,λj hj=>by omega⟩ ⟨rfl,rfl,rfl,rfl,rfl,rfl,rfl,rfl,rfl,trivial⟩ .refl ?_;rintro k ⟨hk,hz⟩;by_cases hk2:k<2
  ·refine Aj ?_;refine Bc (X6 (i:=k) (ws:=O9 (T.w (2*s+k))) rfl rfl hk2 (by rcases k with _|_|k<;>first|rfl|omega)) ?_;refine AQ λb10=>?_;by_cases z0:(T.w (2*s+k)).sp=0
   ·rw[oz hb e4 hk2 hn hz z0];refine Aj ?_;refine Ch (Cf [6] 0 7) ?_;refine Un ?_;refine Un ?_;refine Y8 ?_;iterate 3 refine Un ?_
    refine dJ ?_ (Ee (n:=5) (b:=b) (ws:=toArray (O9 x)) (cs:=toArray (Qf T)) rfl rfl rfl (by simp[Value.oneCell']) (by rw[show(toArray (O9 x)).toList=O9 x from rfl,show s*11+k*5=Io (2*s+k) by unfold Io;omega,Wq T Af];exact Dw) (by rw[Jc];omega));refine O8 ?_;refine Aj ?_;exact qr
   ·refine Aj ?_;exact BS (k+1) ⟨Af,λj hj=>by by_cases e:j=k;subst e;exact z0;exact hz j Af⟩ Af ⟨rfl,rfl,rfl,rfl,rfl,rfl,rfl,rfl,rfl,trivial⟩ (.drop .refl)
  obtain rfl:k=2:=by omega
  rw[oC hb e4 hn hz];have hds:=hd s hs4;refine Aj ?_;refine Ew ?_;refine Aj ?_;refine LV (C7 (b:=b) (off:=s*11+10) (cs:=toArray (Qf T)) (l':=JS b3 x::Mj b {T with d:=Qu.upd T.d s ((T.d s+1)%2)}::F) rfl rfl rfl (by rw[rH T hs4];exact Dw) (by rw[Jc];omega)) rfl rfl ?_;rintro _ _ ⟨rfl,rfl⟩;refine Aj ?_;refine Ch (Cf [6] 0 7) ?_;refine Un ?_;refine Un ?_;refine Y8 ?_;iterate 3 refine Un ?_
  refine dJ ?_ (Ee (n:=5) (b:=b) (ws:=toArray (O9 x)) (cs:=toArray (Qf {T with d:=Qu.upd T.d s ((T.d s+1)%2)})) rfl rfl rfl (by simp[Value.oneCell']) (by rw[show(toArray (O9 x)).toList=O9 x from rfl,show s*11+(T.d s).toNat*5=Io (2*s+(T.d s).toNat) by unfold Io;omega,Wq {T with d:=Qu.upd T.d s ((T.d s+1)%2)} Af];exact Dw) (by rw[Jc];omega));refine O8 ?_;refine Aj ?_;exact qr
end Go.Proofs.YtlkgekpmileobaaGreat
