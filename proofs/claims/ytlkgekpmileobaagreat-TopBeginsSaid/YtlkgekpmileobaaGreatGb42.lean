/- Laws that the statement's proof leans on (joined out of several texts). -/
import Derived.Test.YtlkgekpmileobaaGreatGb8
import Derived.Test.YtlkgekpmileobaaGreatGb41
import Derived.Test.YtlkgekpmileobaaGreatGb10
import Derived.Test.YtlkgekpmileobaaGreatGb40
set_option linter.unusedVariables false
set_option linter.unusedSimpArgs false
namespace Go.Proofs.YtlkgekpmileobaaGreat
open Tryz
open List(toArray)
open Go.RowKit
set_option maxRecDepth 20000
variable{n i k F C b t:Nat}{c:Ab}{S:KT}{p:RP}{s:RL}{G lo T:List Ab}{cs:Array Value}
section
def P6(S:KT)(x:CB):(Int×Int)×KT:=if ¬R9 S x=0 then((0,R9 S x),S) else((((PO S x).1:Nat),0),(PO S x).2)
theorem r5(hK:IsK F C k S p s)(x:CB):Fn prog 213 [pV b,Fp x] (Av b p s S G) (KK F C b p k (.tuple #[iV (P6 S x).1.1,iV (P6 S x).1.2]) (P6 S x).2 G):=by
 have mr:Co b p∈Av b p s S G:=mR λ_ h=>h;obtain⟨R,hR⟩: ∃R,P6 S x=R:=⟨_,rfl⟩
 rw[hR];unfold P6 at hR;refine AO func213 ntmps213 λE=>?_;refine AQ λb3=>?_;refine Ea ?_;obtain⟨e,he⟩: ∃e,R9 S x=e:=⟨_,rfl⟩
 rw[he] at hR⊢;by_cases h0:e=0
 case neg=>rw[Ae h0] at hR;subst hR;refine Aj ?_;exact A4
 rw[Ac (λh=>h h0)] at hR;subst hR;refine Aj ?_;refine Fy ?_;intro S1 s1 L1 hS1 hK1 hT1 mr1;refine Aj ?_;exact A4
instance{x:CB}:EK prog F C b p 213 [pV b,Fp x] k S k (.tuple #[iV (P6 S x).1.1,iV (P6 S x).1.2]) (P6 S x).2:=⟨λs G h=>r5 h x⟩
def li:Nat->KT->CB->Nat->Nat->(Int×Int)×KT
 |0,S,_,_,n=>((n,0),S)
 |m+1,S,x,bu,n=>
  if ¬R9 S x=0 then((n,0),S) else match Tr.belowD S.H.2 x with
  |[]=>((n,0),S)
  |y::_=>if n=bu then((n,17),S) else li m (PO S y).2 x bu (n+1)
def SM(S:KT)(x:CB)(bu:Int):(Int×Int)×KT:=
 if ¬R9 S x=0 then((0,R9 S x),S) else if bu<1\/64<bu then((0,2),S) else li (bu.toNat+1) S x bu.toNat 0
theorem pc{A:List Ab}:(A++(c::Av b p s S G)).Perm (c::Av b p s S (A++G)):=by unfold Av;exact Cc
set_option maxHeartbeats 1000000 in
theorem r6(hK:IsK F C k S p s)(x:CB)(bu:Int):Fn prog 214 [pV b,Fp x,.int .i64 bu] (Av b p s S G) (KK F C b p k (.tuple #[iV (SM S x bu).1.1,iV (SM S x bu).1.2]) (SM S x bu).2 G):=by
 have mr:Co b p∈Av b p s S G:=mR λ_ h=>h;obtain⟨R,hR⟩: ∃R,SM S x bu=R:=⟨_,rfl⟩
 rw[hR];unfold SM at hR;refine AO func214 ntmps214 λE=>?_;refine AQ λb4=>?_;refine Ea ?_;obtain⟨e,he⟩: ∃e,R9 S x=e:=⟨_,rfl⟩
 rw[he] at hR⊢;by_cases h0:e=0
 case neg=>rw[Ae h0] at hR;subst hR;refine Aj ?_;exact A4
 rw[Ac (λh=>h h0)] at hR;by_cases h1:bu<1\/64<bu
 ·rw[Ae h1] at hR;subst hR;by_cases h2:bu<1<;>by_cases h3:64<bu;all_goals first
   |(exfalso;omega)
   |(refine Aj ?_
     exact A4)
 rw[Ac h1] at hR;obtain⟨h2,h3⟩:¬bu<1/\¬64<bu:=by omega
 obtain⟨w,rfl⟩: ∃w:Nat,bu=w:=⟨bu.toNat,Af⟩
 rw[A3] at hR;refine Aj ?_;refine Cu (α:=Nat×KT×RL×List Ab) (λy=>[(0,pV b),(2,.int .i64 (w:Nat)),(4,pV b4),(9,.int .i64 y.1)]) (λy=>TS b4 x::Av b p y.2.2.1 y.2.1 y.2.2.2) (λy=>y.1<=w/\li (w-y.1+1) y.2.1 x w y.1=R/\IsK F C k y.2.1 p y.2.2.1/\Tail y.2.2.2 G) (λy=>w-y.1) (0,S,s,G) ⟨Bf _,hR,hK,.nil⟩ ⟨rfl,rfl,rfl,rfl,trivial⟩ .refl ?_;rintro⟨n,S1,s1,L1⟩ ⟨hn,hR1,hK1,hT1⟩;simp only at hn hR1 hK1 hT1⊢;have mr1:Co b p∈Av b p s1 S1 L1:=mR λ_ h=>h;obtain⟨m8,h81,h82,_,h83⟩:=hK1.small;unfold li at hR1;refine Aj ?_;refine Ea ?_;obtain⟨e1,he1⟩: ∃e,R9 S1 x=e:=⟨_,rfl⟩
 rw[he1] at hR1⊢;by_cases h4:e1=0
 case neg=>rw[Ae h4] at hR1;subst hR1;refine Aj ?_;exact A4
 rw[Ac (λh=>h h4)] at hR1;refine Aj ?_;refine Ch (Cf [3] 0 5) ?_;refine Ci ?_;refine Ju (Az rfl rfl (RD p.h S1.H s1.H hK1.ho Af x _ λy hy=> .tail _ (mH (λ_ h=>h) y hy))) ?_ rfl rfl;rintro sl _ ⟨cs,ho,rfl⟩;refine Ci ?_;refine Jh (.of_perm pc) ?_;have mr2:Co b p∈Av b p s1 S1 (cs++L1):=mR λ_ h=>h;have hT2:Tail (cs++L1) G:=hT1.step cs;cases hD:Tr.belowD S1.H.2 x with
 |nil=>rw[hD] at hR1 ho;simp only at hR1;subst hR1;obtain⟨pp,cap,hsh⟩:=ho.shape;rw[Eh] at hsh;rw[hsh];refine Aj ?_;exact A4
 |cons y r=>
 rw[hD] at hR1 ho;simp only at hR1;obtain⟨gb,cap,sp,rfl,rfl⟩:=Mg ho (by simp);have hl:0<(y::r).length:=by simp
 obtain⟨z1,z2⟩:=ZR (ys:=y::r) (i:=0) (x:=y) rfl sp;have mw:sW gb (y::r) sp∈Av b p s1 S1 ([sW gb (y::r) sp]++L1):=mG (λ_ h=>h) _ (by simp);obtain⟨ln,hln⟩: ∃ln:Nat,(y::r).length=ln:=⟨_,rfl⟩
 rw[hln] at hl⊢;by_cases h5:n=w
 ·rw[Ae h5] at hR1;subst hR1;refine Aj ?_;exact A4
 rw[Ac h5] at hR1;have h6:¬(n:Int)=(w:Int):=by omega
 refine Aj ?_;refine Bc (Dm rfl (.tail _ mw) z1 z2) ?_;refine Aj ?_;refine Fy ?_;intro S2 s2 L2 hS2 hK2 hT3 mr3;refine Aj ?_;exact BS (n+1,S2,s2,L2) ⟨by simp only;omega,by simp only;rw[hS2,show w-(n+1)+1=w-n by omega];exact hR1,hK2,hT3.trans hT2⟩ (by simp only;omega) ⟨rfl,rfl,rfl,rfl,trivial⟩ .refl
instance{x:CB}{bu:Int}:EK prog F C b p 214 [pV b,Fp x,.int .i64 bu] k S k (.tuple #[iV (SM S x bu).1.1,iV (SM S x bu).1.2]) (SM S x bu).2:=⟨λs G h=>r6 h x bu⟩
end
section
variable{P:Program}{ro:Option Nat}{N:Nat}{fr:Fr}{R:List Ab}{d:Option Nat}{ty:TypeId}{pos:String}{aft:Array Edge}{g:Option (Nat×Bool)}{x y:Operand}{v:Value}
theorem cD{Q:Value->List Ab->Prop}{off:Nat}{l:List Ab}(hc:i7 P t=true)(hv:cs[off]?=some v)(h:Q v l):sl P (part t cs off) l Q:=by have h2:=dt (P:=P) (f:=λv=>(pure v:Sem Value)) (Q:=Q) hc hv (by simpa only[Bj] using h);simpa using h2
theorem UY{e m:Nat}{ki:IntKind}(hx:ev fr x=some (.agg cs))(hy:ev fr y=some (.int ki (m:Nat)))[c:AT P t n e k][co:OC P e](hk:k=1)(hi:m<n)(hv:cs[m]?=some v):OpQ P ro N fr R ⟨d,.index t x y,ty,pos,aft,g⟩ v:=BL rfl λρ l hρ _=>by
 obtain⟨inf,k1,k2,k3⟩:=Mr c.out;simp only[execOp,hρ x _ hx,hρ y _ hy];unfold Instr.index;simp only[asIntOf,AB,Bj];rw[EU k1];have h0:(0:Int)<=(m:Nat)/\((m:Nat):Int)<(n:Nat):=by omega
 simp only[Ae h0,AB,A3];rw[GG k2,k3,hk,Dh];exact cD co.out hv ⟨rfl,rfl⟩
end
structure IO where
 op:Int
 a:Int
 b:Int
 c:Int
 n0:Int
 n1:Int
 n2:Int
 w:Int
 ms:Ob
deriving DecidableEq
abbrev P7(o:IO):List Value:=[iV o.op,iV o.a,iV o.b,iV o.c,iV o.n0,iV o.n1,iV o.n2,Ba o.w,Ba o.ms.a,Ba o.ms.b,Ba o.ms.c,Ba o.ms.d]
abbrev sY(o:IO):Value:= .agg (toArray (P7 o))
abbrev iW(b:Nat)(t:Int)(o:IO)(x y:CB):List Value:=[pV b,iV t,iV o.op,iV o.a,iV o.b,iV o.c,iV o.n0,iV o.n1,iV o.n2,Ba o.w,Ba o.ms.a,Ba o.ms.b,Ba o.ms.c,Ba o.ms.d,iV x.1,iV x.2,iV y.1,iV y.2]
abbrev M4(b:Nat)(t:Int)(o:IO)(x y:CB):Value:= .agg (toArray (iW b t o x y))
abbrev Vi(B b:Nat)(t:Int)(o:IO)(x y:CB):Ab:=(B,.cells (toArray (iW b t o x y)) 293 (0,0))
section
theorem r7(hK:IsK F C k S p s)(t:Int)(o:IO)(x y z:CB)(kd:Int)(l:List Ab)(hl: ∀c,c∈Av b p s S G->c∈l):Fn prog 282 [M4 b t o x y,Fp z,.int .i64 kd] l λv l'=>v= .tuple #[UH (D5 S z),.bool (decide (E7 S z kd))]/\l'=l:=by
 have mr:Co b p∈l:=mR hl;have I: ∀{f:Nat} {vs:List Value} {v:Value} [QF prog f vs (Av b p s S G) v],QF prog f vs l v:=W5 hl;refine AO func282 ntmps282 λE=>?_;refine AQ λb3=>?_;refine AQ λb4=>?_;refine AQ λb6=>?_;refine Ch (Cf [8,9] 0 11) ?_;refine Ci ?_;obtain⟨c,hc⟩: ∃c,(getD' S.H.1 z).1=c:=⟨_,rfl⟩
 obtain⟨e,he⟩: ∃e,(getD' S.H.1 z).2=e:=⟨_,rfl⟩
 have hd:decide (E7 S z kd)=(decide (e=0)&&decide (c.kind=kd)):=by rw[Jf,AX,HA,HA,HA];show(_=0/\(D5 S z).kind=kd)<->_;rw[he,show D5 S z=c from hc]
 rw[show D5 S z=c from hc,hd,hc,he];refine Hf e_alloc (by rintro _ _ ⟨_,_,_,rfl⟩ c hc;exact .tail _ hc) ?_;rintro _ _ ⟨b8,_,rfl,rfl⟩;refine Ci ?_;refine Aj ?_;by_cases h1:e=0<;>by_cases h2:c.kind=kd;all_goals
  refine Ce [9] 11 ([Bp b8 c]) ?_ (hR:=(SJ BO));refine BI ?_;refine Aj ?_
  first|rw[At h1]|rw[Aw h1]
  first|rw[At h2]|rw[Aw h2]|skip
  simp only[Bool.and_true,Bn,Id,Bd];exact AU [] _ rfl .refl (Cq rfl (.tail _ (.head _)) (As.LSub.of_all (n:=8) (BR c) rfl) (by exact A7)) (.drop (.drop (.drop (.drop .refl)))) ⟨rfl,rfl⟩
instance[h:IsK F C k S p s]{t:Int}{o:IO}{x y z:CB}{kd:Int}:QF prog 282 [M4 b t o x y,Fp z,.int .i64 kd] (Av b p s S G) (.tuple #[UH (D5 S z),.bool (decide (E7 S z kd))]):=⟨λl hl=>r7 h t o x y z kd l hl⟩
def gP(S:KT)(t:Int)(j:Nat):KT:=if KM S.U j=t then(NE S j 0).2 else S
def pd(S:KT)(t:Int):KT:=(List.range S.K.length).foldl (λS j=>gP S t j) S
theorem cE(hK:IsK F C k S p s)(t:Int):Fn prog 304 [pV b,.int .i64 t] (Av b p s S G) (KK F C b p k (.tuple #[]) (pd S t) G):=by
 have mr:Co b p∈Av b p s S G:=mR λ_ h=>h;have hc1:=hK.c1;have hkl:=hK.kl;refine AO func304 ntmps304 λE=>?_;refine Aj ?_;refine Ea ?_;refine Aj ?_;refine Ea ?_;refine Aj ?_;refine Cu (α:=Nat×KT×RL×List Ab) (λx=>[(0,pV b),(1,.int .i64 t),(7,.int .i64 (S.K.length:Nat)),(8,.int .i64 x.1)]) (λx=>Av b p x.2.2.1 x.2.1 x.2.2.2) (λx=>x.1<=S.K.length/\x.2.1=(List.range x.1).foldl (λS j=>gP S t j) S/\IsK F C k x.2.1 p x.2.2.1/\Tail x.2.2.2 G) (λx=>S.K.length-x.1) (0,S,s,G) ⟨Bf _,rfl,hK,.nil⟩ ⟨rfl,rfl,rfl,rfl,trivial⟩ .refl ?_;rintro⟨j,S1,s1,L1⟩ ⟨hj,hS1,hK1,hT1⟩;simp only at hj hS1 hK1 hT1⊢;have mr1:Co b p∈Av b p s1 S1 L1:=mR λ_ h=>h;have hs:(List.range (j+1)).foldl (λS j=>gP S t j) S=gP S1 t j:=by rw[Cs,ED,<-hS1];rfl
 by_cases hlt:j<S.K.length
 ·refine Aj ?_;refine Ea ?_;unfold gP at hs;obtain⟨u,hu⟩: ∃u,KM S1.U j=u:=⟨_,rfl⟩
  rw[hu] at hs⊢;by_cases h0:u=t
  ·rw[Ae h0] at hs;refine Aj ?_;refine Fy ?_;intro S2 s2 L2 hS2 hK2 hT2 mr2;refine Aj ?_;exact BS (j+1,S2,s2,L2) ⟨by simp only;omega,by simp only;exact hS2.trans hs.symm,hK2,hT2.trans hT1⟩ (by simp only;omega) ⟨rfl,rfl,rfl,rfl,trivial⟩ .refl
  ·rw[Ac h0] at hs;refine Aj ?_;exact BS (j+1,S1,s1,L1) ⟨by simp only;omega,by simp only;exact hs.symm,hK1,hT1⟩ (by simp only;omega) ⟨rfl,rfl,rfl,rfl,trivial⟩ .refl
 ·obtain rfl:j=S.K.length:=by omega
  refine Aj ?_;exact A4
instance{t:Int}:EK prog F C b p 304 [pV b,.int .i64 t] k S k (.tuple #[]) (pd S t):=⟨λs G h=>cE h t⟩
def UZ(S:KT)(t:Int):KT:=pd {S with Q:=(Qu.backQ S.Q t).2} t
theorem gQ(hK:IsK F C k S p s)(t:Int)(o:IO)(x y:CB):Fn prog 221 [M4 b t o x y] (Av b p s S G) (KK F C b p k (iV 0) (UZ S t) G):=by have mr:Co b p∈Av b p s S G:=mR λ_ h=>h;unfold UZ;refine AO func221 ntmps221 λE=>?_;refine AQ λb1=>?_;refine Ch (Cf [5] 0 6) ?_;refine Ci ?_;refine Lj ?_;intro S1 s1 L1 hS1 hK1 hT1 mr1;rw[<-hS1];refine Ci ?_;refine Aj ?_;refine Fy ?_;intro S2 s2 L2 hS2 hK2 hT2 mr2;refine Aj ?_;exact A4
def ZY(n:Int):Int:=if n=0 then 2 else if n=1 then 5 else 8
def Sb(S:KT)(n:Int)(x y:CB):Int×KT:=
 if ¬E7 S x 9\/¬E7 S y (ZY n) then(8,S)
 else((Gi S.H y ((D5 S x).obj,n) (Ej (DH S.H.1 y) 7)).1,{S with H:=(Gi S.H y ((D5 S x).obj,n) (Ej (DH S.H.1 y) 7)).2})
theorem pf(hK:IsK F C (k+1) S p s)(t:Int)(o:IO)(x y:CB)(hn:0<=o.n0/\o.n0<=2):Fn prog 222 [M4 b t o x y] (Av b p s S G) (KK F C b p k (iV (Sb S o.n0 x y).1) (Sb S o.n0 x y).2 G):=by
 have mr:Co b p∈Av b p s S G:=mR λ_ h=>h;obtain⟨R,hR⟩: ∃R,Sb S o.n0 x y=R:=⟨_,rfl⟩
 rw[hR];unfold Sb at hR;obtain⟨n,hn0⟩: ∃n:Nat,o.n0=n:=⟨o.n0.toNat,Af⟩
 have hn3:n<3:=by omega
 have z0:(toArray (iW b t o x y))[2+4+(0:Int).toNat*1]?=some (iV o.n0):=rfl;have hv:(toArray [iV 2,iV 5,iV 8])[n]?=some (iV (ZY o.n0)):=by
  rw[hn0];have:n=0\/n=1\/n=2:=by omega
  rcases this with rfl|rfl|rfl<;>rfl
 refine AO func222 ntmps222 λE=>?_;refine AQ λb1=>?_;refine Ea (vs:=[M4 b t o x y,Fp x,.int .i64 9]) ?_;obtain⟨c,hc⟩: ∃c,D5 S x=c:=⟨_,rfl⟩
 rw[hc] at hR⊢;refine AQ λb3=>?_;refine Ch (Cf [13,14] 0 16) ?_;refine Ci ?_;refine Un ?_ (F5 (zs:=[iV 0,iV 0,iV 0]) (cs:=[iV 2,iV 5,iV 8]) rfl rfl);refine Ci ?_;refine Un (v:=iV (ZY o.n0)) ?_ (by refine UY (m:=n) rfl (by rw[<-hn0];rfl) rfl hn3 hv);obtain⟨w,hw⟩: ∃w,ZY o.n0=w:=⟨_,rfl⟩
 rw[hw] at hR⊢;refine uK (vs:=[M4 b t o x y,Fp y,.int .i64 w]) ?_;obtain⟨d,hd⟩: ∃d,D5 S y=d:=⟨_,rfl⟩
 rw[hd];refine Ci ?_;refine Hf e_alloc (by rintro _ _ ⟨_,_,_,rfl⟩ c hc;exact .tail _ hc) ?_;rintro _ _ ⟨b5,_,rfl,rfl⟩;refine Ci ?_;by_cases h0:¬E7 S x 9\/¬E7 S y w
 ·rw[Ae h0] at hR;subst hR;by_cases h1:E7 S x 9<;>by_cases h2:E7 S y w;all_goals first
   |(exfalso;simp[h1,h2] at h0;done)
   |(simp only[h1,h2,FT,GY]
     refine Aj ?_;exact A4)
 rw[Ac h0] at hR;subst hR;obtain⟨h1,h2⟩:E7 S x 9/\E7 S y w:=by simpa using h0
 simp only[h1,h2,FT];refine Aj ?_;refine Ch (Cf [12] 0 14) ?_;refine Ci ?_;obtain⟨z,hz⟩: ∃z:CB,(c.obj,o.n0)=z:=⟨_,rfl⟩
 try rw[hz] at hR
 try rw[hz]
 refine Lj (vs:=[pV p.h,Fp y,Fp z,.int .i64 7]) ?_ (hy:=by subst hz;rfl);intro S1 s1 L1 hS1 hK1 hT1 mr1;refine Ci ?_;refine Aj ?_;exact A4
end
def Ss(m e:Int)(n:Nat):List (Int×Int):=(List.range n).map λi:Nat=>(m+(i:Int)*e,m+(i:Int)*e+e)
theorem WD(m e:Int)(h:i<=n):(Ss m e n).take i=Ss m e i:=by unfold Ss;rw[<-FA,Ge,DU h]
theorem Sc(m e:Int)(n:Nat):Ss m e (n+1)=Ss m e n++[(m+(n:Int)*e,m+(n:Int)*e+e)]:=by unfold Ss;rw[Cs,Ap];rfl
theorem ZZ(m e:Int)(h:i<n):Ss m e i++[(m+(i:Int)*e,m+(i:Int)*e+e)]<+:Ss m e n:=by rw[<-Sc,<-WD m e (show i+1<=n by omega)];exact BD _ _
abbrev vS(x:Int×Int):List Value:=[iV x.1,iV x.2]
theorem Yr(m e n:Int)(l:List Ab):Fn prog 324 [.int .i64 m,.int .i64 e,.int .i64 n] l λv l'=> ∃B3 B4 B5,v= .func (.func 361) #[] #[pV B5,pV B3,pV B4]/\l'=BG B5 n::BG B4 e::BG B3 m::l:=by refine AO func324 ntmps324 λE=>?_;refine AQ λb3=>?_;refine AQ λb4=>?_;refine AQ λb5=>?_;exact A8 .refl ⟨_,_,_,rfl,rfl⟩
theorem WE(B3 B4 B5:Nat)(m e:Int)(n:Nat)(hm:0<=m/\m<=64)(he:1<=e/\e<=64)(hn:n<=4):
 E2 prog 361 [pV B5,pV B3,pV B4] vS (λxs=>xs=Ss m e n) (λpre=>pre<+:Ss m e n) (λ_ l=>BG B5 n∈l/\BG B4 e∈l/\BG B3 m∈l):=by
 refine⟨λr I Ix G0 hneed hY l G hG h0=>?_⟩;obtain⟨n1,n2,n3⟩:=hneed _ _ G hG h0;refine AO func361 ntmps361 λE=>?_;refine Aj ?_;refine Cu (α:=Nat×List Ab) (λx=>[(0,.func (.yield r) #[] #[]),(1,pV B5),(2,pV B3),(3,pV B4),(6,.int .i64 n),(7,.int .i64 x.1)]) (λx=>x.2++G) (λx=>x.1<=n/\I (Ss m e x.1) x.2) (λx=>n-x.1) (0,l) ⟨Bf _,h0⟩ ⟨rfl,rfl,rfl,rfl,rfl,rfl,trivial⟩ .refl ?_;clear n1 n2 n3;rintro⟨k,l⟩ ⟨hk,hI⟩;simp only at hk hI⊢;obtain⟨n1,n2,n3⟩:=hneed _ _ G hG hI;by_cases hlt:k<n
 ·have hke:(k:Int)*e<=4*64:=Int.mul_le_mul Af Af Af Af;have hk0:0<=(k:Int)*e:=Int.mul_nonneg Af Af;have hy:=hY (Ss m e k) (m+(k:Int)*e,m+(k:Int)*e+e) l G hG hI (ZZ m e hlt);refine Aj ?_;refine AS (CK rfl rfl hy) ?_;rintro v l' ⟨l1,rfl,⟨rfl,hI'⟩|⟨rfl,hx⟩⟩
  ·rw[<-Sc] at hI';refine Aj ?_;exact BS (k+1,l1) ⟨by simp only;omega,hI'⟩ (by simp only;omega) ⟨rfl,rfl,rfl,rfl,rfl,rfl,trivial⟩ .refl
  ·refine Aj ?_;exact A8 .refl ⟨l1,rfl,.inr ⟨_,ZZ m e hlt,hx⟩⟩
 ·obtain rfl:k=n:=by omega
  refine Aj ?_;exact A8 .refl ⟨l,rfl,.inl ⟨_,rfl,hI⟩⟩
def HH(t m e n:Int):(List Int×Int)×Int:=
 if t<0\/64<t\/m<0\/t<m\/e<1\/64<e\/n<1\/4<n then(([],0),2)
 else if e*n>t-m then(([],0),7)
 else(((Ss m e n.toNat).map Prod.fst,m+n*e),0)
theorem ph{m e:Int}{pre:List (Int×Int)}{x:Int×Int}(h:pre++[x]<+:Ss m e n):x=(m+(pre.length:Int)*e,m+(pre.length:Int)*e+e)/\pre.length<n/\pre=Ss m e pre.length:=by
 have hl:=h.length_le;have hn:(Ss m e n).length=n:=by unfold Ss;simp
 rw[hn,Ah,Bl] at hl;have h2:=HM.1 h;rw[WD m e (by simp;omega),Ah,Bl,Sc] at h2;obtain⟨h3,h4⟩:=IF h2 rfl;exact⟨by simpa using h4,Af,h3⟩
theorem ue{cs:List Ab}:((lo++cs)++c::T).Perm (lo++c::(cs++T)):=Cc
theorem r8{cs:List Ab}:(lo++c::(cs++T)).Perm (lo++(cs++c::T)):=Cc
set_option maxHeartbeats 2000000 in
theorem cF(t m e n:Int)(l:List Ab):Fn prog 284 [.int .i64 t,.int .i64 m,.int .i64 e,.int .i64 n] l λv l'=> ∃sl cs,v= .tuple #[sl,iV (HH t m e n).1.2,iV (HH t m e n).2]/\OwnSl 3 1 sl (HH t m e n).1.1.length ((HH t m e n).1.1.map CA) cs/\l'=cs++l:=by
 obtain⟨R,hR⟩: ∃R,HH t m e n=R:=⟨_,rfl⟩
 rw[hR];unfold HH at hR;refine AO func284 ntmps284 λE=>?_;refine Aj ?_;by_cases h1:t<0
 ·rw[Ae Af] at hR;subst hR;refine Aj ?_;exact Cy _ .refl .refl ⟨_,[],rfl,OwnSl.nil _ _,rfl⟩
 by_cases h2:64<t
 ·rw[Ae Af] at hR;subst hR;refine Aj ?_;exact Cy _ .refl .refl ⟨_,[],rfl,OwnSl.nil _ _,rfl⟩
 by_cases h3:m<0
 ·rw[Ae Af] at hR;subst hR;refine Aj ?_;exact Cy _ .refl .refl ⟨_,[],rfl,OwnSl.nil _ _,rfl⟩
 by_cases h4:t<m
 ·rw[Ae Af] at hR;subst hR;refine Aj ?_;exact Cy _ .refl .refl ⟨_,[],rfl,OwnSl.nil _ _,rfl⟩
 by_cases h5:e<1
 ·rw[Ae Af] at hR;subst hR;refine Aj ?_;exact Cy _ .refl .refl ⟨_,[],rfl,OwnSl.nil _ _,rfl⟩
 by_cases h6:64<e
 ·rw[Ae Af] at hR;subst hR;refine Aj ?_;exact Cy _ .refl .refl ⟨_,[],rfl,OwnSl.nil _ _,rfl⟩
 by_cases h7:n<1
 ·rw[Ae Af] at hR;subst hR;refine Aj ?_;exact Cy _ .refl .refl ⟨_,[],rfl,OwnSl.nil _ _,rfl⟩
 by_cases h8:4<n
 ·rw[Ae Af] at hR;subst hR;refine Aj ?_;exact Cy _ .refl .refl ⟨_,[],rfl,OwnSl.nil _ _,rfl⟩
 rw[Ac Af] at hR;obtain⟨n,rfl⟩: ∃k:Nat,n=k:=⟨n.toNat,Af⟩
 rw[A3] at hR;have hke:e*(n:Int)<=64*4:=Int.mul_le_mul Af Af Af Af;have hk0:0<=e*(n:Int):=Int.mul_nonneg Af Af;refine Aj ?_;by_cases h9:e*(n:Int)>t-m
 ·rw[Ae h9] at hR;subst hR;refine Aj ?_;exact Cy _ .refl .refl ⟨_,[],rfl,OwnSl.nil _ _,rfl⟩
 rw[Ac h9] at hR;subst hR;refine AQ λb11=>?_;refine AQ λb12=>?_;refine AS (Az rfl rfl (Yr m e n _)) ?_;rintro _ _ ⟨B3,B4,B5,rfl,rfl⟩;refine Aj ?_;refine CU (α:=Int×Int) (ps:=[60,61]) (lb:=[pV B5,pV B3,pV B4]) rfl (WE B3 B4 B5 m e n Af Af Af) (λ_=>rfl) rfl
  (λpre l1=> ∃v cs,OwnSl 3 1 v pre.length ((pre.map Prod.fst).map CA) cs/\l1=[BG B5 n,BG B4 e,BG B3 m,BG b12 (m+(pre.length:Int)*e),L6 b11 v]++cs) (λ_ _ _=>False)
  [BG B5 n,BG B4 e,BG B3 m,BG b12 m,L6 b11 (.slice none 0 0)] l (λpre l1 X hX h=>by obtain⟨v,cs,ho,rfl⟩:=h;exact⟨by simp,by simp,by simp⟩) (by exact AR) ⟨_,[],OwnSl.nil _ _,by simp⟩ ?_ ?_ λ_ _ _ _ _ h=>h.elim
 ·rintro E r0 rec pre x l1 T ⟨fn,tmps,D,rfl⟩ hX ⟨v,cs,ho,rfl⟩ hsp;obtain⟨rfl,hlt,_⟩:=ph hsp;refine DQ (.of_perm ue) ?_;simp only[Du,Ad,Ag];refine Aj ?_;refine Cp (by exact Dw) ?_;refine DQ (.of_perm (r8 (lo:=[BG B5 n,BG B4 e,BG B3 m,BG b12 (m+(pre.length:Int)*e),L6 b11 v]))) ?_;simp only[Ad,Ag];obtain⟨w,hw⟩: ∃w,m+(pre.length:Int)*e=w:=⟨_,rfl⟩
  rw[hw];refine Aj ?_;refine AS (JL (v:=iV w) rfl rfl) ?_;rintro _ _ ⟨bz,_,rfl,rfl⟩;refine Aj ?_;refine AS (GI (k:=1) (X:=[BG B5 n,BG B4 e,BG B3 m,BG b12 w,L6 b11 v]) (cs:=cs) (xs:=(pre.map Prod.fst).map CA) (n:=pre.length) (zs:=[iV 0]) (ws:=[iV w]) rfl rfl rfl ho rfl (by simp[Value.oneCell']) Af AW) ?_;rintro v2 _ ⟨cs2,ho2,rfl⟩;simp only[Ad,Ag];have o2:=Qy ho2;refine Aj ?_;refine B9 ([BG B5 n,BG B4 e,BG B3 m,BG b12 (w+e),L6 b11 v2]++cs2) (by exact .refl) ?_;exact⟨v2,cs2,by rw[Ah,Ap,Ap];exact ho2,by
   have:m+((pre.length+1:Nat):Int)*e=m+(pre.length:Int)*e+e:=by rw[Int.natCast_add,Int.add_mul];omega
   rw[Ah,Bl,this,hw];rfl⟩
 ·rintro D xs l1 rfl ⟨v,cs,ho,rfl⟩;have hlen:(Ss m e n).length=n:=by unfold Ss;simp
  rw[hlen] at ho⊢;simp only[Ad,Ag];refine Aj ?_;refine Ch (Cf [] 0 5) ?_;refine Ci ?_;refine Aj ?_;have hq2:m+(n:Int)*e=m+(n:Int)*e:=rfl;exact AU [D] _ rfl .refl (by exact A7) (by exact AR) ⟨v,cs,rfl,by rw[AZ,hlen];exact ho,rfl⟩
def WF(P:List Int)(nd ix:Int)(n:Nat):List (Int×CB):=(List.range n).map λi:Nat=>(P.getD i 0,(nd,ix+(i:Int)))
theorem WG(P:List Int)(nd ix:Int)(h:i<=n):(WF P nd ix n).take i=WF P nd ix i:=by unfold WF;rw[<-FA,Ge,DU h]
theorem Sd(P:List Int)(nd ix:Int)(n:Nat):WF P nd ix (n+1)=WF P nd ix n++[(P.getD n 0,(nd,ix+(n:Int)))]:=by unfold WF;rw[Cs,Ap];rfl
theorem Z0(P:List Int)(nd ix:Int)(h:i<n):WF P nd ix i++[(P.getD i 0,(nd,ix+(i:Int)))]<+:WF P nd ix n:=by rw[<-Sd,<-WG P nd ix (show i+1<=n by omega)];exact BD _ _
theorem Z1(P:List Int)(nd ix:Int)(n:Nat):(WF P nd ix n).length=n:=by unfold WF;simp
theorem gR{P:List Int}{nd ix:Int}{pre:List (Int×CB)}{x:Int×CB}(h:pre++[x]<+:WF P nd ix n):x=(P.getD pre.length 0,(nd,ix+(pre.length:Int)))/\pre.length<n/\pre=WF P nd ix pre.length:=by have hl:=h.length_le;rw[Z1,Ah,Bl] at hl;have h2:=HM.1 h;rw[WG P nd ix (by simp;omega),Ah,Bl,Sd] at h2;obtain⟨h3,h4⟩:=IF h2 rfl;exact⟨by simpa using h4,Af,h3⟩
abbrev vT(x:Int×CB):List Value:=[iV x.1,Fp x.2]
theorem PQ(v:Value)(hv:v.oneCell'=true)(nd ix:Int)(l:List Ab):Fn prog 285 [v,.int .i64 nd,.int .i64 ix] l λv' l'=> ∃B3 B4 B5,v'= .func (.func 325) #[] #[pV B3,pV B4,pV B5]/\l'=BG B5 ix::BG B4 nd::L6 B3 v::l:=by refine AO func285 ntmps285 λE=>?_;refine Aj ?_;refine AS (DZ rfl hv) ?_;rintro _ _ ⟨b3,_,rfl,rfl⟩;refine AQ λb4=>?_;refine AQ λb5=>?_;exact A8 .refl ⟨_,_,_,rfl,rfl⟩
theorem OT(B3 B4 B5 gb cap:Nat)(P:List Int)(sp:List Value)(nd ix:Int)(hP:P.length<=4)(hx:0<=ix/\ix<=100):
 E2 prog 325 [pV B3,pV B4,pV B5] vT (λxs=>xs=WF P nd ix P.length) (λpre=>pre<+:WF P nd ix P.length) (λ_ l=>L6 B3 (.slice (some ⟨gb,0,none⟩) P.length cap)∈l/\BG B4 nd∈l/\BG B5 ix∈l/\Me gb P sp∈l):=by
 refine⟨λr I Ix G0 hneed hY l G hG h0=>?_⟩;obtain⟨n1,n2,n3,n4⟩:=hneed _ _ G hG h0;refine AO func325 ntmps325 λE=>?_;refine Aj ?_;refine Cu (α:=Nat×List Ab) (λx=>[(0,.func (.yield r) #[] #[]),(2,pV B4),(3,pV B5),(7,.slice (some ⟨gb,0,none⟩) P.length cap),(8,.int .i64 (P.length:Nat)),(9,.int .i64 x.1)]) (λx=>x.2++G) (λx=>x.1<=P.length/\I (WF P nd ix x.1) x.2) (λx=>P.length-x.1) (0,l) ⟨Bf _,h0⟩ ⟨rfl,rfl,rfl,rfl,rfl,rfl,trivial⟩ .refl ?_;clear n1 n2 n3 n4;rintro⟨k,l⟩ ⟨hk,hI⟩;simp only at hk hI⊢;obtain⟨n1,n2,n3,n4⟩:=hneed _ _ G hG hI;by_cases hlt:k<P.length
 ·have hy:=hY (WF P nd ix k) (P.getD k 0,(nd,ix+(k:Int))) l G hG hI (Z0 P nd ix hlt);obtain⟨t,ht⟩: ∃t,P.getD k 0=t:=⟨_,rfl⟩
  have c0:(toArray (P.map CA++sp))[k*1]?=some (.int .i64 t):=by rw[Dh,<-ht];exact PK hlt
  rw[ht] at hy;refine Aj ?_;refine AS (CK (vs:=[iV t,Fp (nd,ix+(k:Int))]) rfl rfl hy) ?_;rintro v l' ⟨l1,rfl,⟨rfl,hI'⟩|⟨rfl,hx⟩⟩
  ·rw[<-ht,<-Sd] at hI';refine Aj ?_;exact BS (k+1,l1) ⟨by simp only;omega,hI'⟩ (by simp only;omega) ⟨rfl,rfl,rfl,rfl,rfl,rfl,trivial⟩ .refl
  ·rw[<-ht] at hx;refine Aj ?_;exact A8 .refl ⟨l1,rfl,.inr ⟨_,Z0 P nd ix hlt,hx⟩⟩
 ·obtain rfl:k=P.length:=by omega
  refine Aj ?_;exact A8 .refl ⟨l,rfl,.inl ⟨_,rfl,hI⟩⟩
end Go.Proofs.YtlkgekpmileobaaGreat
