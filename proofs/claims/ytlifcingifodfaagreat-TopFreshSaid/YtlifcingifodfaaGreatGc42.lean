/- Laws that the statement's proof leans on (joined out of several texts). -/
import Derived.Test.YtlifcingifodfaaGreatGc41
set_option maxHeartbeats 4000000
set_option linter.unusedVariables false
set_option linter.unusedSimpArgs false
namespace Go.Proofs.YtlifcingifodfaaGreat
open Tryz
open List(toArray)
open Go.RowKit
set_option maxRecDepth 20000
variable{n i k F C b t:Nat}{c:Bg}{S:KT}{p:RP}{s:RL}{G lo T:Ad}{cs:Array Value}
section
def Qw(S:KT)(x:Ck):(Int×Int)×KT:=if ¬Uq S x=0 then((0,Uq S x),S) else((((Qv S x).1:Nat),0),(Qv S x).2)
theorem Abd(hK:IsK F C k S p s)(x:Ck):Fn prog 212 [pV b,F4 x] (Aw b p s S G) (KK F C b p k (.tuple #[iV (Qw S x).1.1,iV (Qw S x).1.2]) (Qw S x).2 G):=by
 have mr:CD b p∈Aw b p s S G:=mR λ_ h=>h;obtain⟨R,hR⟩: ∃R,Qw S x=R:=⟨_,rfl⟩
 rw[hR];unfold Qw at hR;refine AO func212 ntmps212 λE=>?_;refine AQ λb3=>?_;refine EI ?_;obtain⟨e,he⟩: ∃e,Uq S x=e:=⟨_,rfl⟩
 rw[he] at hR⊢;by_cases h0:e=0
 case neg=>rw[Ac h0] at hR;subst hR;refine Aj ?_;exact A9
 rw[Ab (λh=>h h0)] at hR;subst hR;refine Aj ?_;refine Gc ?_;intro S1 s1 L1 EA Ey DL GI;refine Aj ?_;exact A9
instance{x:Ck}:EK prog F C b p 212 [pV b,F4 x] k S k (.tuple #[iV (Qw S x).1.1,iV (Qw S x).1.2]) (Qw S x).2:=⟨λs G h=>Abd h x⟩
def revR:Nat->KT->Ck->Nat->Nat->(Int×Int)×KT
 |0,S,_,_,n=>((n,0),S)
 |m+1,S,x,bu,n=>
  if ¬Uq S x=0 then((n,0),S) else match Tr.belowD S.H.2 x with
  |[]=>((n,0),S)
  |y::_=>if n=bu then((n,17),S) else revR m (Qv S y).2 x bu (n+1)
def R3(S:KT)(x:Ck)(bu:Int):(Int×Int)×KT:=
 if ¬Uq S x=0 then((0,Uq S x),S) else if bu<1\/64<bu then((0,2),S) else revR (bu.toNat+1) S x bu.toNat 0
theorem xt{A:Ad}:(A++(c::Aw b p s S G)).Perm (c::Aw b p s S (A++G)):=by unfold Aw;exact B0
theorem Abe(hK:IsK F C k S p s)(x:Ck)(bu:Int):Fn prog 213 [pV b,F4 x,.int .i64 bu] (Aw b p s S G) (KK F C b p k (.tuple #[iV (R3 S x bu).1.1,iV (R3 S x bu).1.2]) (R3 S x bu).2 G):=by
 have mr:CD b p∈Aw b p s S G:=mR λ_ h=>h;obtain⟨R,hR⟩: ∃R,R3 S x bu=R:=⟨_,rfl⟩
 rw[hR];unfold R3 at hR;refine AO func213 ntmps213 λE=>?_;refine AQ λb4=>?_;refine EI ?_;obtain⟨e,he⟩: ∃e,Uq S x=e:=⟨_,rfl⟩
 rw[he] at hR⊢;by_cases h0:e=0
 case neg=>rw[Ac h0] at hR;subst hR;refine Aj ?_;exact A9
 rw[Ab (λh=>h h0)] at hR;by_cases h1:bu<1\/64<bu
 ·rw[Ac h1] at hR;subst hR;by_cases h2:bu<1<;>by_cases h3:64<bu;all_goals first
   |(exfalso;omega)
   |(refine Aj ?_
     exact A9)
 rw[Ab h1] at hR;obtain⟨h2,h3⟩:¬bu<1/\¬64<bu:=by omega
 obtain⟨w,rfl⟩: ∃w:Nat,bu=w:=⟨bu.toNat,Af⟩
 rw[AY] at hR;refine Aj ?_;refine CF (α:=Nat×KT×RL×Ad) (λy=>[(0,pV b),(2,.int .i64 (w:Nat)),(4,pV b4),(9,.int .i64 y.1)]) (λy=>V0 b4 x::Aw b p y.2.2.1 y.2.1 y.2.2.2) (λy=>y.1<=w/\revR (w-y.1+1) y.2.1 x w y.1=R/\IsK F C k y.2.1 p y.2.2.1/\Tail y.2.2.2 G) (λy=>w-y.1) (0,S,s,G) ⟨Bm _,hR,hK,.nil⟩ ⟨rfl,rfl,rfl,rfl,trivial⟩ .refl ?_;rintro⟨n,S1,s1,L1⟩ ⟨hn,hR1,Ey,DL⟩;simp only at hn hR1 Ey DL⊢;have GI:CD b p∈Aw b p s1 S1 L1:=mR λ_ h=>h;obtain⟨m8,h81,h82,_,h83⟩:=Ey.small;unfold revR at hR1;refine Aj ?_;refine EI ?_;obtain⟨e1,he1⟩: ∃e,Uq S1 x=e:=⟨_,rfl⟩
 rw[he1] at hR1⊢;by_cases h4:e1=0
 case neg=>rw[Ac h4] at hR1;subst hR1;refine Aj ?_;exact A9
 rw[Ab (λh=>h h4)] at hR1;refine Aj ?_;refine Cx (Cr [3] 0 5) ?_;refine CC ?_;refine Ll (AA rfl rfl (TX p.h S1.H s1.H Ey.ho Af x _ λy hy=> .tail _ (mH (λ_ h=>h) y hy))) ?_ rfl rfl;rintro sl _ ⟨cs,ho,rfl⟩;refine CC ?_;refine Kf (.of_perm xt) ?_;have HP:CD b p∈Aw b p s1 S1 (cs++L1):=mR λ_ h=>h;have FL:Tail (cs++L1) G:=DL.step cs;cases hD:Tr.belowD S1.H.2 x with
 |nil=>rw[hD] at hR1 ho;simp only at hR1;subst hR1;obtain⟨pp,cap,cL⟩:=ho.shape;rw[Ff] at cL;rw[cL];refine Aj ?_;exact A9
 |cons y r=>
 rw[hD] at hR1 ho;simp only at hR1;obtain⟨gb,cap,sp,rfl,rfl⟩:=ND ho (by simp);have hl:0<(y::r).length:=by simp
 obtain⟨z1,z2⟩:=ez (ys:=y::r) (i:=0) (x:=y) rfl sp;have mw:lsC gb (y::r) sp∈Aw b p s1 S1 ([lsC gb (y::r) sp]++L1):=mG (λ_ h=>h) _ (by simp);obtain⟨ln,hln⟩: ∃ln:Nat,(y::r).length=ln:=⟨_,rfl⟩
 rw[hln] at hl⊢;by_cases h5:n=w
 ·rw[Ac h5] at hR1;subst hR1;refine Aj ?_;exact A9
 rw[Ab h5] at hR1;have h6:¬(n:Int)=(w:Int):=by omega
 refine Aj ?_;refine Be (Dt rfl (.tail _ mw) z1 z2) ?_;refine Aj ?_;refine Gc ?_;intro S2 s2 L2 hS2 FT KQ PV;refine Aj ?_;exact BR (n+1,S2,s2,L2) ⟨by simp only;omega,by simp only;rw[hS2,show w-(n+1)+1=w-n by omega];exact hR1,FT,KQ.trans FL⟩ (by simp only;omega) ⟨rfl,rfl,rfl,rfl,trivial⟩ .refl
instance{x:Ck}{bu:Int}:EK prog F C b p 213 [pV b,F4 x,.int .i64 bu] k S k (.tuple #[iV (R3 S x bu).1.1,iV (R3 S x bu).1.2]) (R3 S x bu).2:=⟨λs G h=>Abe h x bu⟩
end
section
variable{P:Program}{ro:Option Nat}{N:Nat}{fr:Fr}{R:Ad}{d:Option Nat}{ty:TypeId}{pos:String}{aft:Array Edge}{g:Option (Nat×Bool)}{x y:Operand}{v:Value}
theorem iJ{Q:Value->Ad->Prop}{off:Nat}{l:Ad}(hc:p7 P t=true)(hv:cs[off]?=some v)(h:Q v l):sl P (part t cs off) l Q:=by have h2:=XS (P:=P) (f:=λv=>(pure v:Sem Value)) (Q:=Q) hc hv (by simpa only[Bn] using h);simpa using h2
theorem Xa{e m:Nat}{ki:IntKind}(hx:ev fr x=some (.agg cs))(hy:ev fr y=some (.int ki (m:Nat)))[c:AT P t n e k][co:OC P e](hk:k=1)(hi:m<n)(hv:cs[m]?=some v):OpQ P ro N fr R ⟨d,.index t x y,ty,pos,aft,g⟩ v:=BM rfl λρ l hρ _=>by
 obtain⟨Hp,k1,k2,k3⟩:=Mn c.out;simp only[execOp,hρ x _ hx,hρ y _ hy];unfold Instr.index;simp only[asIntOf,AC,Bn];rw[E0 k1];have h0:(0:Int)<=(m:Nat)/\((m:Nat):Int)<(n:Nat):=by omega
 simp only[Ac h0,AC,AY];rw[Hr k2,k3,hk,Dq];exact iJ co.out hv ⟨rfl,rfl⟩
end
structure IY where
 op:Int
 a:Int
 b:Int
 c:Int
 n0:Int
 n1:Int
 n2:Int
 w:Int
 ms:Oz
deriving DecidableEq
abbrev R4(o:IY):Ap:=[iV o.op,iV o.a,iV o.b,iV o.c,iV o.n0,iV o.n1,iV o.n2,Bc o.w,Bc o.ms.a,Bc o.ms.b,Bc o.ms.c,Bc o.ms.d]
abbrev orV(o:IY):Value:= .agg (toArray (R4 o))
abbrev px(b:Nat)(t:Int)(o:IY)(x y:Ck):Ap:=[pV b,iV t,iV o.op,iV o.a,iV o.b,iV o.c,iV o.n0,iV o.n1,iV o.n2,Bc o.w,Bc o.ms.a,Bc o.ms.b,Bc o.ms.c,Bc o.ms.d,iV x.1,iV x.2,iV y.1,iV y.2]
abbrev OD(b:Nat)(t:Int)(o:IY)(x y:Ck):Value:= .agg (toArray (px b t o x y))
abbrev Xy(B b:Nat)(t:Int)(o:IY)(x y:Ck):Bg:=(B,.cells (toArray (px b t o x y)) 292 (0,0))
section
theorem Abf(hK:IsK F C k S p s)(t:Int)(o:IY)(x y z:Ck)(kd:Int)(l:Ad)(hl: ∀c,c∈Aw b p s S G->c∈l):Fn prog 281 [OD b t o x y,F4 z,.int .i64 kd] l λv l'=>v= .tuple #[WQ (Ec S z),.bool (decide (FE S z kd))]/\l'=l:=by
 have mr:CD b p∈l:=mR hl;have I: ∀{f:Nat} {vs:Ap} {v:Value} [QF prog f vs (Aw b p s S G) v],QF prog f vs l v:=Zz hl;refine AO func281 ntmps281 λE=>?_;refine AQ λb3=>?_;refine AQ λb4=>?_;refine AQ λb6=>?_;refine Cx (Cr [8,9] 0 11) ?_;refine CC ?_;obtain⟨c,hc⟩: ∃c,(getD' S.H.1 z).1=c:=⟨_,rfl⟩
 obtain⟨e,he⟩: ∃e,(getD' S.H.1 z).2=e:=⟨_,rfl⟩
 have hd:decide (FE S z kd)=(decide (e=0)&&decide (c.kind=kd)):=by rw[Kc,AW,Iz,Iz,Iz];show(_=0/\(Ec S z).kind=kd)<->_;rw[he,show Ec S z=c from hc]
 rw[show Ec S z=c from hc,hd,hc,he];refine Id e_alloc (by rintro _ _ ⟨_,_,_,rfl⟩ c hc;exact .tail _ hc) ?_;rintro _ _ ⟨b8,_,rfl,rfl⟩;refine CC ?_;refine Aj ?_;by_cases h1:e=0<;>by_cases h2:c.kind=kd;all_goals
  refine Cn [9] 11 ([Bv b8 c]) ?_ (hR:=(U2 BW));refine BS ?_;refine Aj ?_
  first|rw[Av h1]|rw[Ax h1]
  first|rw[Av h2]|rw[Ax h2]|skip
  simp only[Bool.and_true,Bu,I7,Bh];exact AV [] _ rfl .refl (Cz rfl (.tail _ (.head _)) (As.LSub.of_all (n:=8) (B9 c) rfl) (by exact Ba)) (.drop (.drop (.drop (.drop .refl)))) ⟨rfl,rfl⟩
instance[h:IsK F C k S p s]{t:Int}{o:IY}{x y z:Ck}{kd:Int}:QF prog 281 [OD b t o x y,F4 z,.int .i64 kd] (Aw b p s S G) (.tuple #[WQ (Ec S z),.bool (decide (FE S z kd))]):=⟨λl hl=>Abf h t o x y z kd l hl⟩
def bK(S:KT)(t:Int)(j:Nat):KT:=if LZ S.U j=t then(NC S j 0).2 else S
def sm(S:KT)(t:Int):KT:=(List.range S.K.length).foldl (λS j=>bK S t j) S
theorem iK(hK:IsK F C k S p s)(t:Int):Fn prog 303 [pV b,.int .i64 t] (Aw b p s S G) (KK F C b p k (.tuple #[]) (sm S t) G):=by
 have mr:CD b p∈Aw b p s S G:=mR λ_ h=>h;have pC:=hK.c1;have Xn:=hK.kl;refine AO func303 ntmps303 λE=>?_;refine Aj ?_;refine EI ?_;refine Aj ?_;refine EI ?_;refine Aj ?_;refine CF (α:=Nat×KT×RL×Ad) (λx=>[(0,pV b),(1,.int .i64 t),(7,.int .i64 (S.K.length:Nat)),(8,.int .i64 x.1)]) (λx=>Aw b p x.2.2.1 x.2.1 x.2.2.2) (λx=>x.1<=S.K.length/\x.2.1=(List.range x.1).foldl (λS j=>bK S t j) S/\IsK F C k x.2.1 p x.2.2.1/\Tail x.2.2.2 G) (λx=>S.K.length-x.1) (0,S,s,G) ⟨Bm _,rfl,hK,.nil⟩ ⟨rfl,rfl,rfl,rfl,trivial⟩ .refl ?_;rintro⟨j,S1,s1,L1⟩ ⟨hj,EA,Ey,DL⟩;simp only at hj EA Ey DL⊢;have GI:CD b p∈Aw b p s1 S1 L1:=mR λ_ h=>h;have hs:(List.range (j+1)).foldl (λS j=>bK S t j) S=bK S1 t j:=by rw[CA,Fd,<-EA];rfl
 by_cases Dc:j<S.K.length
 ·refine Aj ?_;refine EI ?_;unfold bK at hs;obtain⟨u,hu⟩: ∃u,LZ S1.U j=u:=⟨_,rfl⟩
  rw[hu] at hs⊢;by_cases h0:u=t
  ·rw[Ac h0] at hs;refine Aj ?_;refine Gc ?_;intro S2 s2 L2 hS2 FT FL HP;refine Aj ?_;exact BR (j+1,S2,s2,L2) ⟨by simp only;omega,by simp only;exact hS2.trans hs.symm,FT,FL.trans DL⟩ (by simp only;omega) ⟨rfl,rfl,rfl,rfl,trivial⟩ .refl
  ·rw[Ab h0] at hs;refine Aj ?_;exact BR (j+1,S1,s1,L1) ⟨by simp only;omega,by simp only;exact hs.symm,Ey,DL⟩ (by simp only;omega) ⟨rfl,rfl,rfl,rfl,trivial⟩ .refl
 ·obtain rfl:j=S.K.length:=by omega
  refine Aj ?_;exact A9
instance{t:Int}:EK prog F C b p 303 [pV b,.int .i64 t] k S k (.tuple #[]) (sm S t):=⟨λs G h=>iK h t⟩
def Xb(S:KT)(t:Int):KT:=sm {S with Q:=(Qu.backQ S.Q t).2} t
theorem nK(hK:IsK F C k S p s)(t:Int)(o:IY)(x y:Ck):Fn prog 220 [OD b t o x y] (Aw b p s S G) (KK F C b p k (iV 0) (Xb S t) G):=by have mr:CD b p∈Aw b p s S G:=mR λ_ h=>h;unfold Xb;refine AO func220 ntmps220 λE=>?_;refine AQ λb1=>?_;refine Cx (Cr [5] 0 6) ?_;refine CC ?_;refine MG ?_;intro S1 s1 L1 EA Ey DL GI;rw[<-EA];refine CC ?_;refine Aj ?_;refine Gc ?_;intro S2 s2 L2 hS2 FT FL HP;refine Aj ?_;exact A9
def eK(n:Int):Int:=if n=0 then 2 else if n=1 then 5 else 8
def Qy(S:KT)(n:Int)(x y:Ck):Int×KT:=
 if ¬FE S x 9\/¬FE S y (eK n) then(8,S)
 else((Gp S.H y ((Ec S x).obj,n) (Eo (D5 S.H.1 y) 7)).1,{S with H:=(Gp S.H y ((Ec S x).obj,n) (Eo (D5 S.H.1 y) 7)).2})
theorem xu(hK:IsK F C (k+1) S p s)(t:Int)(o:IY)(x y:Ck)(hn:0<=o.n0/\o.n0<=2):Fn prog 221 [OD b t o x y] (Aw b p s S G) (KK F C b p k (iV (Qy S o.n0 x y).1) (Qy S o.n0 x y).2 G):=by
 have mr:CD b p∈Aw b p s S G:=mR λ_ h=>h;obtain⟨R,hR⟩: ∃R,Qy S o.n0 x y=R:=⟨_,rfl⟩
 rw[hR];unfold Qy at hR;obtain⟨n,PQ⟩: ∃n:Nat,o.n0=n:=⟨o.n0.toNat,Af⟩
 have hn3:n<3:=by omega
 have z0:(toArray (px b t o x y))[2+4+(0:Int).toNat*1]?=some (iV o.n0):=rfl;have hv:(toArray [iV 2,iV 5,iV 8])[n]?=some (iV (eK o.n0)):=by
  rw[PQ];have:n=0\/n=1\/n=2:=by omega
  rcases this with rfl|rfl|rfl<;>rfl
 refine AO func221 ntmps221 λE=>?_;refine AQ λb1=>?_;refine EI (vs:=[OD b t o x y,F4 x,.int .i64 9]) ?_;obtain⟨c,hc⟩: ∃c,Ec S x=c:=⟨_,rfl⟩
 rw[hc] at hR⊢;refine AQ λb3=>?_;refine Cx (Cr [13,14] 0 16) ?_;refine CC ?_;refine Yb ?_ (GL (zs:=[iV 0,iV 0,iV 0]) (cs:=[iV 2,iV 5,iV 8]) rfl rfl);refine CC ?_;refine Yb (v:=iV (eK o.n0)) ?_ (by refine Xa (m:=n) rfl (by rw[<-PQ];rfl) rfl hn3 hv);obtain⟨w,hw⟩: ∃w,eK o.n0=w:=⟨_,rfl⟩
 rw[hw] at hR⊢;refine mqa (vs:=[OD b t o x y,F4 y,.int .i64 w]) ?_;obtain⟨d,hd⟩: ∃d,Ec S y=d:=⟨_,rfl⟩
 rw[hd];refine CC ?_;refine Id e_alloc (by rintro _ _ ⟨_,_,_,rfl⟩ c hc;exact .tail _ hc) ?_;rintro _ _ ⟨b5,_,rfl,rfl⟩;refine CC ?_;by_cases h0:¬FE S x 9\/¬FE S y w
 ·rw[Ac h0] at hR;subst hR;by_cases h1:FE S x 9<;>by_cases h2:FE S y w;all_goals first
   |(exfalso;simp[h1,h2] at h0;done)
   |(simp only[h1,h2,GB,HO]
     refine Aj ?_;exact A9)
 rw[Ab h0] at hR;subst hR;obtain⟨h1,h2⟩:FE S x 9/\FE S y w:=by simpa using h0
 simp only[h1,h2,GB];refine Aj ?_;refine Cx (Cr [12] 0 14) ?_;refine CC ?_;obtain⟨z,hz⟩: ∃z:Ck,(c.obj,o.n0)=z:=⟨_,rfl⟩
 try rw[hz] at hR
 try rw[hz]
 refine MG (vs:=[pV p.h,F4 y,F4 z,.int .i64 7]) ?_ (hy:=by subst hz;rfl);intro S1 s1 L1 EA Ey DL GI;refine CC ?_;refine Aj ?_;exact A9
end
def UP(m e:Int)(n:Nat):List (Int×Int):=(List.range n).map λi:Nat=>(m+(i:Int)*e,m+(i:Int)*e+e)
theorem Za(m e:Int)(h:i<=n):(UP m e n).take i=UP m e i:=by unfold UP;rw[<-G4,GV,ES h]
theorem Us(m e:Int)(n:Nat):UP m e (n+1)=UP m e n++[(m+(n:Int)*e,m+(n:Int)*e+e)]:=by unfold UP;rw[CA,Aq];rfl
theorem eM(m e:Int)(h:i<n):UP m e i++[(m+(i:Int)*e,m+(i:Int)*e+e)]<+:UP m e n:=by rw[<-Us,<-Za m e (show i+1<=n by omega)];exact BI _ _
abbrev pcV(x:Int×Int):Ap:=[iV x.1,iV x.2]
theorem bL(m e n:Int)(l:Ad):Fn prog 323 [.int .i64 m,.int .i64 e,.int .i64 n] l λv l'=> ∃B3 B4 B5,v= .func (.func 360) #[] #[pV B5,pV B3,pV B4]/\l'=BP B5 n::BP B4 e::BP B3 m::l:=by refine AO func323 ntmps323 λE=>?_;refine AQ λb3=>?_;refine AQ λb4=>?_;refine AQ λb5=>?_;exact Bb .refl ⟨_,_,_,rfl,rfl⟩
theorem Zb(B3 B4 B5:Nat)(m e:Int)(n:Nat)(hm:0<=m/\m<=64)(he:1<=e/\e<=64)(hn:n<=4):
 FA prog 360 [pV B5,pV B3,pV B4] pcV (λxs=>xs=UP m e n) (λpre=>pre<+:UP m e n) (λ_ l=>BP B5 n∈l/\BP B4 e∈l/\BP B3 m∈l):=by
 refine⟨λr I Ix G0 Ca hY l G hG h0=>?_⟩;obtain⟨n1,n2,n3⟩:=Ca _ _ G hG h0;refine AO func360 ntmps360 λE=>?_;refine Aj ?_;refine CF (α:=Nat×Ad) (λx=>[(0,.func (.yield r) #[] #[]),(1,pV B5),(2,pV B3),(3,pV B4),(6,.int .i64 n),(7,.int .i64 x.1)]) (λx=>x.2++G) (λx=>x.1<=n/\I (UP m e x.1) x.2) (λx=>n-x.1) (0,l) ⟨Bm _,h0⟩ ⟨rfl,rfl,rfl,rfl,rfl,rfl,trivial⟩ .refl ?_;clear n1 n2 n3;rintro⟨k,l⟩ ⟨hk,hI⟩;simp only at hk hI⊢;obtain⟨n1,n2,n3⟩:=Ca _ _ G hG hI;by_cases Dc:k<n
 ·have hke:(k:Int)*e<=4*64:=Int.mul_le_mul Af Af Af Af;have hk0:0<=(k:Int)*e:=Int.mul_nonneg Af Af;have hy:=hY (UP m e k) (m+(k:Int)*e,m+(k:Int)*e+e) l G hG hI (eM m e Dc);refine Aj ?_;refine AR (C0 rfl rfl hy) ?_;rintro v l' ⟨l1,rfl,⟨rfl,Lg⟩|⟨rfl,hx⟩⟩
  ·rw[<-Us] at Lg;refine Aj ?_;exact BR (k+1,l1) ⟨by simp only;omega,Lg⟩ (by simp only;omega) ⟨rfl,rfl,rfl,rfl,rfl,rfl,trivial⟩ .refl
  ·refine Aj ?_;exact Bb .refl ⟨l1,rfl,.inr ⟨_,eM m e Dc,hx⟩⟩
 ·obtain rfl:k=n:=by omega
  refine Aj ?_;exact Bb .refl ⟨l,rfl,.inl ⟨_,rfl,hI⟩⟩
def IF(t m e n:Int):(A4×Int)×Int:=
 if t<0\/64<t\/m<0\/t<m\/e<1\/64<e\/n<1\/4<n then(([],0),2)
 else if e*n>t-m then(([],0),7)
 else(((UP m e n.toNat).map Prod.fst,m+n*e),0)
theorem xx{m e:Int}{pre:List (Int×Int)}{x:Int×Int}(h:pre++[x]<+:UP m e n):x=(m+(pre.length:Int)*e,m+(pre.length:Int)*e+e)/\pre.length<n/\pre=UP m e pre.length:=by
 have hl:=h.length_le;have hn:(UP m e n).length=n:=by unfold UP;simp
 rw[hn,Ah,Bs] at hl;have h2:=IJ.1 h;rw[Za m e (by simp;omega),Ah,Bs,Us] at h2;obtain⟨h3,h4⟩:=JD h2 rfl;exact⟨by simpa using h4,Af,h3⟩
theorem Ad2{cs:Ad}:((lo++cs)++c::T).Perm (lo++c::(cs++T)):=B0
theorem Abg{cs:Ad}:(lo++c::(cs++T)).Perm (lo++(cs++c::T)):=B0
theorem iL(t m e n:Int)(l:Ad):Fn prog 283 [.int .i64 t,.int .i64 m,.int .i64 e,.int .i64 n] l λv l'=> ∃sl cs,v= .tuple #[sl,iV (IF t m e n).1.2,iV (IF t m e n).2]/\OwnSl 3 1 sl (IF t m e n).1.1.length ((IF t m e n).1.1.map CN) cs/\l'=cs++l:=by
 obtain⟨R,hR⟩: ∃R,IF t m e n=R:=⟨_,rfl⟩
 rw[hR];unfold IF at hR;refine AO func283 ntmps283 λE=>?_;refine Aj ?_;by_cases h1:t<0
 ·rw[Ac Af] at hR;subst hR;refine Aj ?_;exact CM _ .refl .refl ⟨_,[],rfl,OwnSl.nil _ _,rfl⟩
 by_cases h2:64<t
 ·rw[Ac Af] at hR;subst hR;refine Aj ?_;exact CM _ .refl .refl ⟨_,[],rfl,OwnSl.nil _ _,rfl⟩
 by_cases h3:m<0
 ·rw[Ac Af] at hR;subst hR;refine Aj ?_;exact CM _ .refl .refl ⟨_,[],rfl,OwnSl.nil _ _,rfl⟩
 by_cases h4:t<m
 ·rw[Ac Af] at hR;subst hR;refine Aj ?_;exact CM _ .refl .refl ⟨_,[],rfl,OwnSl.nil _ _,rfl⟩
 by_cases h5:e<1
 ·rw[Ac Af] at hR;subst hR;refine Aj ?_;exact CM _ .refl .refl ⟨_,[],rfl,OwnSl.nil _ _,rfl⟩
 by_cases h6:64<e
 ·rw[Ac Af] at hR;subst hR;refine Aj ?_;exact CM _ .refl .refl ⟨_,[],rfl,OwnSl.nil _ _,rfl⟩
 by_cases h7:n<1
 ·rw[Ac Af] at hR;subst hR;refine Aj ?_;exact CM _ .refl .refl ⟨_,[],rfl,OwnSl.nil _ _,rfl⟩
 by_cases h8:4<n
 ·rw[Ac Af] at hR;subst hR;refine Aj ?_;exact CM _ .refl .refl ⟨_,[],rfl,OwnSl.nil _ _,rfl⟩
 rw[Ab Af] at hR;obtain⟨n,rfl⟩: ∃k:Nat,n=k:=⟨n.toNat,Af⟩
 rw[AY] at hR;have hke:e*(n:Int)<=64*4:=Int.mul_le_mul Af Af Af Af;have hk0:0<=e*(n:Int):=Int.mul_nonneg Af Af;refine Aj ?_;by_cases h9:e*(n:Int)>t-m
 ·rw[Ac h9] at hR;subst hR;refine Aj ?_;exact CM _ .refl .refl ⟨_,[],rfl,OwnSl.nil _ _,rfl⟩
 rw[Ab h9] at hR;subst hR;refine AQ λLT=>?_;refine AQ λSP=>?_;refine AR (AA rfl rfl (bL m e n _)) ?_;rintro _ _ ⟨B3,B4,B5,rfl,rfl⟩;refine Aj ?_;refine Df (α:=Int×Int) (ps:=[60,61]) (lb:=[pV B5,pV B3,pV B4]) rfl (Zb B3 B4 B5 m e n Af Af Af) (λ_=>rfl) rfl
  (λpre l1=> ∃v cs,OwnSl 3 1 v pre.length ((pre.map Prod.fst).map CN) cs/\l1=[BP B5 n,BP B4 e,BP B3 m,BP SP (m+(pre.length:Int)*e),Nm LT v]++cs) (λ_ _ _=>False)
  [BP B5 n,BP B4 e,BP B3 m,BP SP m,Nm LT (.slice none 0 0)] l (λpre l1 X hX h=>by obtain⟨v,cs,ho,rfl⟩:=h;exact⟨by simp,by simp,by simp⟩) (by exact AU) ⟨_,[],OwnSl.nil _ _,by simp⟩ ?_ ?_ λ_ _ _ _ _ h=>h.elim
 ·rintro E r0 FS pre x l1 T ⟨fn,tmps,D,rfl⟩ hX ⟨v,cs,ho,rfl⟩ DB;obtain⟨rfl,Dc,_⟩:=xx DB;refine Em (.of_perm Ad2) ?_;simp only[DU,Ae,Ag];refine Aj ?_;refine CH (by exact DX) ?_;refine Em (.of_perm (Abg (lo:=[BP B5 n,BP B4 e,BP B3 m,BP SP (m+(pre.length:Int)*e),Nm LT v]))) ?_;simp only[Ae,Ag];obtain⟨w,hw⟩: ∃w,m+(pre.length:Int)*e=w:=⟨_,rfl⟩
  rw[hw];refine Aj ?_;refine AR (KU (v:=iV w) rfl rfl) ?_;rintro _ _ ⟨bz,_,rfl,rfl⟩;refine Aj ?_;refine AR (Ht (k:=1) (X:=[BP B5 n,BP B4 e,BP B3 m,BP SP w,Nm LT v]) (cs:=cs) (xs:=(pre.map Prod.fst).map CN) (n:=pre.length) (zs:=[iV 0]) (ws:=[iV w]) rfl rfl rfl ho rfl (by simp[Value.oneCell']) Af AZ) ?_;rintro v2 _ ⟨NG,FK,rfl⟩;simp only[Ae,Ag];have o2:=SE FK;refine Aj ?_;refine Cg ([BP B5 n,BP B4 e,BP B3 m,BP SP (w+e),Nm LT v2]++NG) (by exact .refl) ?_;exact⟨v2,NG,by rw[Ah,Aq,Aq];exact FK,by
   have:m+((pre.length+1:Nat):Int)*e=m+(pre.length:Int)*e+e:=by rw[Int.natCast_add,Int.add_mul];omega
   rw[Ah,Bs,this,hw];rfl⟩
 ·rintro D xs l1 rfl ⟨v,cs,ho,rfl⟩;have Ei:(UP m e n).length=n:=by unfold UP;simp
  rw[Ei] at ho⊢;simp only[Ae,Ag];refine Aj ?_;refine Cx (Cr [] 0 5) ?_;refine CC ?_;refine Aj ?_;have yv:m+(n:Int)*e=m+(n:Int)*e:=rfl;exact AV [D] _ rfl .refl (by exact Ba) (by exact AU) ⟨v,cs,rfl,by rw[A7,Ei];exact ho,rfl⟩
def Zc(P:A4)(nd ix:Int)(n:Nat):List (Int×Ck):=(List.range n).map λi:Nat=>(P.getD i 0,(nd,ix+(i:Int)))
theorem Zd(P:A4)(nd ix:Int)(h:i<=n):(Zc P nd ix n).take i=Zc P nd ix i:=by unfold Zc;rw[<-G4,GV,ES h]
theorem Ut(P:A4)(nd ix:Int)(n:Nat):Zc P nd ix (n+1)=Zc P nd ix n++[(P.getD n 0,(nd,ix+(n:Int)))]:=by unfold Zc;rw[CA,Aq];rfl
theorem eN(P:A4)(nd ix:Int)(h:i<n):Zc P nd ix i++[(P.getD i 0,(nd,ix+(i:Int)))]<+:Zc P nd ix n:=by rw[<-Ut,<-Zd P nd ix (show i+1<=n by omega)];exact BI _ _
theorem eP(P:A4)(nd ix:Int)(n:Nat):(Zc P nd ix n).length=n:=by unfold Zc;simp
theorem nL{P:A4}{nd ix:Int}{pre:List (Int×Ck)}{x:Int×Ck}(h:pre++[x]<+:Zc P nd ix n):x=(P.getD pre.length 0,(nd,ix+(pre.length:Int)))/\pre.length<n/\pre=Zc P nd ix pre.length:=by have hl:=h.length_le;rw[eP,Ah,Bs] at hl;have h2:=IJ.1 h;rw[Zd P nd ix (by simp;omega),Ah,Bs,Ut] at h2;obtain⟨h3,h4⟩:=JD h2 rfl;exact⟨by simpa using h4,Af,h3⟩
abbrev kpV(x:Int×Ck):Ap:=[iV x.1,F4 x.2]
theorem RI(v:Value)(hv:v.oneCell'=true)(nd ix:Int)(l:Ad):Fn prog 284 [v,.int .i64 nd,.int .i64 ix] l λv' l'=> ∃B3 B4 B5,v'= .func (.func 324) #[] #[pV B3,pV B4,pV B5]/\l'=BP B5 ix::BP B4 nd::Nm B3 v::l:=by refine AO func284 ntmps284 λE=>?_;refine Aj ?_;refine AR (Ex rfl hv) ?_;rintro _ _ ⟨b3,_,rfl,rfl⟩;refine AQ λb4=>?_;refine AQ λb5=>?_;exact Bb .refl ⟨_,_,_,rfl,rfl⟩
theorem Qz(B3 B4 B5 gb cap:Nat)(P:A4)(sp:Ap)(nd ix:Int)(hP:P.length<=4)(hx:0<=ix/\ix<=100):
 FA prog 324 [pV B3,pV B4,pV B5] kpV (λxs=>xs=Zc P nd ix P.length) (λpre=>pre<+:Zc P nd ix P.length) (λ_ l=>Nm B3 (.slice (some ⟨gb,0,none⟩) P.length cap)∈l/\BP B4 nd∈l/\BP B5 ix∈l/\NA gb P sp∈l):=by
 refine⟨λr I Ix G0 Ca hY l G hG h0=>?_⟩;obtain⟨n1,n2,n3,n4⟩:=Ca _ _ G hG h0;refine AO func324 ntmps324 λE=>?_;refine Aj ?_;refine CF (α:=Nat×Ad) (λx=>[(0,.func (.yield r) #[] #[]),(2,pV B4),(3,pV B5),(7,.slice (some ⟨gb,0,none⟩) P.length cap),(8,.int .i64 (P.length:Nat)),(9,.int .i64 x.1)]) (λx=>x.2++G) (λx=>x.1<=P.length/\I (Zc P nd ix x.1) x.2) (λx=>P.length-x.1) (0,l) ⟨Bm _,h0⟩ ⟨rfl,rfl,rfl,rfl,rfl,rfl,trivial⟩ .refl ?_;clear n1 n2 n3 n4;rintro⟨k,l⟩ ⟨hk,hI⟩;simp only at hk hI⊢;obtain⟨n1,n2,n3,n4⟩:=Ca _ _ G hG hI;by_cases Dc:k<P.length
 ·have hy:=hY (Zc P nd ix k) (P.getD k 0,(nd,ix+(k:Int))) l G hG hI (eN P nd ix Dc);obtain⟨t,ht⟩: ∃t,P.getD k 0=t:=⟨_,rfl⟩
  have c0:(toArray (P.map CN++sp))[k*1]?=some (.int .i64 t):=by rw[Dq,<-ht];exact RB Dc
  rw[ht] at hy;refine Aj ?_;refine AR (C0 (vs:=[iV t,F4 (nd,ix+(k:Int))]) rfl rfl hy) ?_;rintro v l' ⟨l1,rfl,⟨rfl,Lg⟩|⟨rfl,hx⟩⟩
  ·rw[<-ht,<-Ut] at Lg;refine Aj ?_;exact BR (k+1,l1) ⟨by simp only;omega,Lg⟩ (by simp only;omega) ⟨rfl,rfl,rfl,rfl,rfl,rfl,trivial⟩ .refl
  ·rw[<-ht] at hx;refine Aj ?_;exact Bb .refl ⟨l1,rfl,.inr ⟨_,eN P nd ix Dc,hx⟩⟩
 ·obtain rfl:k=P.length:=by omega
  refine Aj ?_;exact Bb .refl ⟨l,rfl,.inl ⟨_,rfl,hI⟩⟩
end Go.Proofs.YtlifcingifodfaaGreat
