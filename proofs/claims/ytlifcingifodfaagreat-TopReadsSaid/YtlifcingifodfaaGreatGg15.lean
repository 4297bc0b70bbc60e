/- Laws that the statement's proof leans on (joined out of several texts). -/
import Derived.Test.YtlifcingifodfaaGreatGg14
set_option maxHeartbeats 4000000
set_option linter.unusedVariables false
set_option linter.unusedSimpArgs false
namespace Go.Proofs.YtlifcingifodfaaGreat
open Tryz
open List(toArray replicate)
open Go.RowKit
set_option maxRecDepth 20000
variable{F T m i k:Nat}{E:World}{Q:Exit->Act->World->Prop}{ds:List Deferred}{sh:Bool}{fn:Func}{c:Code}{L:List (Int×Int)}{x:Int×Int}{G:Ac}
def Xq:Int->List (Int×Int)->List (Int×Int×Int)
 |_,[]=>[]
 |f,x::r=>(x.1,x.2,f)::Xq (f+Ar.framesD x.1 x.2) r
def Nw:Int->List (Int×Int)->Int
 |f,[]=>f
 |f,x::r=>Nw (f+Ar.framesD x.1 x.2) r
theorem nG(a b:List (Int×Int)): ∀f,Nw f (a++b)=Nw (Nw f a) b:=by
 induction a with
 |nil=>intro f;rfl
 |cons x r ih=>intro f;exact ih _
theorem OO: ∀(L:List (Int×Int)) (f:Int),(Xq f L).length=L.length
 |[],_=>rfl
 |x::r,f=>by show(Xq _ r).length+1=r.length+1;rw[OO r]
theorem Zk: ∀(L:List (Int×Int)) (f:Int) (m:Nat),(Xq f L)[m]?=L[m]?.map λx=>(x.1,x.2,Nw f (L.take m))
 |[],_,m=>by simp[Xq]
 |x::r,f,0=>rfl
 |x::r,f,m+1=>by show(Xq (f+Ar.framesD x.1 x.2) r)[m]?=_;rw[Zk r];rfl
theorem iQ(h:L[m]?=some x)(f:Int):Nw f (L.take (m+1))=Nw f (L.take m)+Ar.framesD x.1 x.2:=by rw[Ch,h,nG];rfl
theorem iR(h:L[m]?=some x)(f:Int):(Xq f L).take (m+1)=(Xq f L).take m++[(x.1,x.2,Nw f (L.take m))]:=by rw[Ch,Zk,h];rfl
abbrev yf(x:Int×Int×Int):Value:= .agg (toArray [.int .i64 x.1,.int .i64 x.2.1,.int .i64 x.2.2])
abbrev qb(B:Nat)(f:Int):Bd:=(B,.cells (toArray [.int .i64 f]) 3 (0,0))
abbrev sF(B r:Nat):Bd:=(B,.cells (toArray [.func (.yield r) #[] #[]]) 264 (0,0))
theorem nH(r:Nat)(k z f:Int)(hf:0<=f/\f<=1000000)(B3 B2:Nat)(l G:Ac)(J1 J2:Ac->Prop)(hy: ∀G2,(∀c,c∈G->c∈G2)->Oa prog r [yf (k,z,f)] (l++G2) (λv l'=> ∃l1,l'=l1++G2/\((v= .bool true/\J1 l1)\/(v= .bool false/\J2 l1)))):
 Fn prog 135 [.int .i64 k,.int .i64 z,pV B3,pV B2] (qb B3 f::sF B2 r::(l++G)) λv l'=> ∃l1 X bb,l'=qb B3 (f+Ar.framesD k z)::sF B2 r::(l1++(X++G))/\v= .bool bb/\((bb=true/\J1 l1)\/(bb=false/\J2 l1)):=by
 have pP:=Ar.frames_rng k z;refine AN func135 ntmps135 λE=>?_;refine AQ λb7=>?_;refine Cm [5] 6 ([]) ?_;refine BM ?_;apply Gp (S:=[qb B3 f]);(·exact Vb);(·exact C7 (.tail _ (.head _)));(·rfl);(·rfl);(·rfl);refine BM ?_;apply Eo
 ·exact AL rfl rfl (λl hl=>Ar.frames_any k z l)
 ·rfl
 ·rfl
 ·rfl
 refine BM ?_;apply Hy
 ·exact GF rfl rfl rfl (by exact BW) .zero (by exact DY)
 (·rfl);(·rfl);(·intro _ _ _ c hc;cases hc);(·exact λ_ _ _ x hx ha=>Dh BA hx ha)
 rintro _ _ ⟨rfl,rfl⟩;refine BM ?_;refine Aj ?_;refine Bs (l':=l++((b7,.cells (toArray [.int .i64 k,.int .i64 z,.int .i64 f]) 198 (0,0))::qb B3 (f+Ar.framesD k z)::sF B2 r::G)) (Keep.of_perm (AA [_,_,_] l G)) ?_;refine AS (C5 rfl rfl (hy _ λc hc=> .tail _ (.tail _ (.tail _ hc)))) ?_;rintro v _ ⟨l1,rfl,hJ⟩;obtain⟨bb,rfl,hK⟩: ∃bb,v= .bool bb/\((bb=true/\J1 l1)\/(bb=false/\J2 l1)):=by
  rcases hJ with⟨rfl,h⟩|⟨rfl,h⟩
  ·exact⟨true,rfl,.inl ⟨rfl,h⟩⟩
  ·exact⟨false,rfl,.inr ⟨rfl,h⟩⟩
 refine Aj ?_;refine Bb (l':=qb B3 (f+Ar.framesD k z)::sF B2 r::(l1++([(b7,.cells (toArray [.int .i64 k,.int .i64 z,.int .i64 f]) 198 (0,0))]++G))) (A8 []) ?_;exact⟨l1,_,bb,rfl,rfl,hK⟩
def jV(T:Nat)(sh:Bool):List (Int×Int):=(replicate T [(9,0),(2,4),(5,0),(6,0)]).flatten++(if sh then[(8,0)] else[])
def zY(F T:Nat)(sh:Bool):Int:=((F:Int)-Nw 0 (jV T sh))/T
def cx(F T:Nat)(sh:Bool):List (Int×Int):=jV T sh++replicate T (1,zY F T sh)
def Eu(F T:Nat)(sh:Bool):List (Int×Int×Int):=Xq 0 (cx F T sh)
def Pq(F T:Nat)(sh:Bool)(m:Nat):Int:=Nw 0 ((cx F T sh).take m)
abbrev Vh(B F C T:Nat)(sh:Bool):Bd:=(B,.cells (toArray [.int .i64 F,.int .i64 C,.int .i64 T,.bool sh]) 23 (0,0))
theorem Zl: ∀(L:List (Int×Int)) (f:Int),0<=f->0<=Nw f L/\Nw f L<=f+64*L.length
 |[],f,h=>by show 0<=f/\f<=f+64*0;omega
 |x::r,f,h=>by have h1:=Ar.frames_rng x.1 x.2;have h2:=Zl r (f+Ar.framesD x.1 x.2) Af;show 0<=Nw _ r/\Nw _ r<=f+64*((r.length+1:Nat):Int);omega
theorem vB: ∀(T i j:Nat),i<T->j<4->((replicate T [((9:Int),(0:Int)),(2,4),(5,0),(6,0)]).flatten)[4*i+j]?=[((9:Int),(0:Int)),(2,4),(5,0),(6,0)][j]?
 |0,i,j,h,_=>by omega
 |T+1,0,j,_,hj=>by rw[BL,Cy,Nat.mul_zero,BF,AH (by simpa using hj)]
 |T+1,i+1,j,h,hj=>by rw[BL,Cy,show 4*(i+1)+j=(4*i+j)+4 by omega,AY (by simp)];exact vB T i j Af hj
theorem Pf(T:Nat):((replicate T [((9:Int),(0:Int)),(2,4),(5,0),(6,0)]).flatten).length=4*T:=by
 induction T with
 |zero=>rfl
 |succ T ih=>rw[BL,Cy,Ah,ih];simp;omega
theorem Pg(T:Nat)(sh:Bool):(jV T sh).length=4*T+sh.toNat:=by unfold jV;rw[Ah,Pf];cases sh<;>rfl
theorem QE(F T:Nat)(sh:Bool):(cx F T sh).length=5*T+sh.toNat:=by unfold cx;rw[Ah,Pg,JG];omega
theorem SO{j:Nat}(hi:i<T)(hj:j<4):(cx F T sh)[4*i+j]?=[((9:Int),(0:Int)),(2,4),(5,0),(6,0)][j]?:=by unfold cx;rw[AH (by rw[Pg];omega)];unfold jV;rw[AH (by rw[Pf];omega)];exact vB T i j hi hj
theorem yg:(cx F T true)[4*T]?=some (8,0):=by unfold cx;rw[AH (by rw[Pg];simp)];unfold jV;rw[AY (by rw[Pf];omega),Pf,DV];rfl
theorem nI(hi:i<T):(cx F T sh)[4*T+sh.toNat+i]?=some (1,zY F T sh):=by unfold cx;rw[AY (by rw[Pg];omega),Pg,CJ,ED,Ad hi]
theorem ff(F T:Nat)(sh:Bool):(cx F T sh).take (4*T+sh.toNat)=jV T sh:=by unfold cx;rw[<-Pg,List.take_left]
theorem KU{L1 G':Ac}(h:Keep G G'):Keep (L1++G) (L1++G'):=by obtain⟨X,hX⟩:=h;exact⟨X,(hX.append_left L1).trans (AA L1 X G')⟩
theorem Ut(hT:T<=3){k z:Int}(hm:(cx F T sh)[m]?=some (k,z)){r:Nat}{I Ix:List (Int×Int×Int)->Ac->Prop}{G0:Ac}
 (hY: ∀pre x l G,(∀c,c∈G0->c∈G)->I pre l->pre++[x]<+:Eu F T sh->Oa prog r [yf x] (l++G) (λv l'=> ∃l1,l'=l1++G/\((v= .bool true/\I (pre++[x]) l1)\/(v= .bool false/\Ix (pre++[x]) l1))))
 {l:Ac}(hG: ∀c,c∈G0->c∈G)(hI:I ((Eu F T sh).take m) l)(B3 B2:Nat):
 Fn prog 135 [.int .i64 k,.int .i64 z,pV B3,pV B2] (qb B3 (Pq F T sh m)::sF B2 r::(l++G)) λv l'=> ∃l1 X bb,l'=qb B3 (Pq F T sh (m+1))::sF B2 r::(l1++(X++G))/\v= .bool bb/\((bb=true/\I ((Eu F T sh).take (m+1)) l1)\/(bb=false/\Ix ((Eu F T sh).take (m+1)) l1)):=by
 have e1:(Eu F T sh).take (m+1)=(Eu F T sh).take m++[(k,z,Pq F T sh m)]:=iR hm 0;have e2:Pq F T sh (m+1)=Pq F T sh m+Ar.framesD k z:=iQ hm 0;rw[e1,e2];have hb:0<=Pq F T sh m/\Pq F T sh m<=1000000:=by
  have h1:=Zl ((cx F T sh).take m) 0 (Int.le_refl 0);have h2:((cx F T sh).take m).length<=16:=by
   rw[Dk,QE];have:sh.toNat<=1:=by cases sh<;>decide
   omega
  unfold Pq;omega
 exact nH r k z _ hb B3 B2 l G _ _ λG2 hG2=>hY _ (k,z,Pq F T sh m) l G2 (λc hc=>hG2 c (hG c hc)) hI (by rw[<-e1];exact BK _ _)
theorem cy(F C T:Nat)(sh:Bool)(l:Ac):Fn prog 90 [.agg (toArray [.int .i64 F,.int .i64 C,.int .i64 T,.bool sh])] l λv l'=> ∃B1,v= .func (.func 134) #[] #[pV B1]/\l'=Vh B1 F C T sh::l:=by refine AN func90 ntmps90 λE=>?_;refine Aj ?_;refine AS (CH rfl) ?_;rintro _ _ ⟨B1,_,rfl,rfl⟩;refine Aj ?_;exact Bb .refl ⟨B1,rfl,rfl⟩
theorem Zm(B1 F C T:Nat)(sh:Bool)(DO:1<=T)(hT:T<=3)(hF:11*T<=F)(Ta:F<=64):uU prog 134 [pV B1] (λx=>[yf x]) (λxs=>xs=Eu F T sh) (λpre=>pre<+:Eu F T sh) (λ_ _=>True) [Vh B1 F C T sh]:=by
 refine⟨λr I Ix G0 Cb hY l G hG h0=>?_⟩;refine AN func134 ntmps134 λE=>?_;refine Aj ?_;refine AS (Ez rfl rfl) ?_;rintro _ _ ⟨B2,_,rfl,rfl⟩;refine Aj ?_;refine AS e_alloc ?_;rintro _ _ ⟨B3,_,rfl,rfl⟩;have qB:Vh B1 F C T sh∈l++([Vh B1 F C T sh]++G):=Aa _ (.head _);refine Aj ?_;refine CN (α:=Nat×Ac×Ac) (λx=>[(1,pV B1),(3,pV B3),(4,.func (.func 135) #[] #[pV B3,pV B2]),(8,.int .i64 T),(9,.int .i64 x.1)]) (λx=>qb B3 (Pq F T sh (4*x.1))::sF B2 r::(x.2.1++(x.2.2++(Vh B1 F C T sh::G)))) (λx=>x.1<=T/\I ((Eu F T sh).take (4*x.1)) x.2.1) (λx=>T-x.1) (0,l,[]) ⟨Bp _,h0⟩ ⟨rfl,rfl,rfl,rfl,rfl,trivial⟩ .refl ?_;rintro⟨i,l0,X0⟩ ⟨hi,hI0⟩;simp only at hi hI0⊢;have qB:Vh B1 F C T sh∈l0++(X0++(Vh B1 F C T sh::G)):=Aa _ (Aa _ (.head _));by_cases C9:i<T
 ·refine Aj ?_;refine AS (Dn rfl rfl (Ut (F:=F) (sh:=sh) hT (m:=4*i+0) (SO C9 AX) hY (G:=X0++(Vh B1 F C T sh::G)) (λc hc=>Aa _ ((.tail _ (hG c hc)))) hI0 B3 B2)) ?_;rintro _ _ ⟨l1,X1,bb,rfl,rfl,hbb⟩;rcases hbb.symm with⟨rfl,hx⟩|⟨rfl,jQ⟩
  ·refine Aj ?_;exact Bb (l':=l1++G) (.drop (.drop (KU (Keep.dropL X1 (Keep.dropL X0 ((.drop .refl))))))) ⟨l1,rfl,.inr ⟨_,BK _ _,hx⟩⟩
  refine Aj ?_;refine JB (Dn rfl rfl (Ut (F:=F) (sh:=sh) hT (m:=4*i+1) (SO C9 AX) hY (G:=X1++(X0++(Vh B1 F C T sh::G))) (λc hc=>Aa _ (Aa _ ((.tail _ (hG c hc))))) jQ B3 B2)) rfl rfl rfl ?_;rintro _ _ ⟨l2,X2,bb,rfl,rfl,hbb⟩;rcases hbb.symm with⟨rfl,hx⟩|⟨rfl,N6⟩
  ·refine Aj ?_;exact Bb (l':=l2++G) (.drop (.drop (KU (Keep.dropL X2 (Keep.dropL X1 (Keep.dropL X0 ((.drop .refl)))))))) ⟨l2,rfl,.inr ⟨_,BK _ _,hx⟩⟩
  refine Aj ?_;refine JB (Dn rfl rfl (Ut (F:=F) (sh:=sh) hT (m:=4*i+2) (SO C9 AX) hY (G:=X2++(X1++(X0++(Vh B1 F C T sh::G)))) (λc hc=>Aa _ (Aa _ (Aa _ ((.tail _ (hG c hc)))))) N6 B3 B2)) rfl rfl rfl ?_;rintro _ _ ⟨l3,X3,bb,rfl,rfl,hbb⟩;rcases hbb.symm with⟨rfl,hx⟩|⟨rfl,ak⟩
  ·refine Aj ?_;exact Bb (l':=l3++G) (.drop (.drop (KU (Keep.dropL X3 (Keep.dropL X2 (Keep.dropL X1 (Keep.dropL X0 ((.drop .refl))))))))) ⟨l3,rfl,.inr ⟨_,BK _ _,hx⟩⟩
  refine Aj ?_;refine JB (Dn rfl rfl (Ut (F:=F) (sh:=sh) hT (m:=4*i+3) (SO C9 AX) hY (G:=X3++(X2++(X1++(X0++(Vh B1 F C T sh::G))))) (λc hc=>Aa _ (Aa _ (Aa _ (Aa _ ((.tail _ (hG c hc))))))) ak B3 B2)) rfl rfl rfl ?_;rintro _ _ ⟨l4,X4,bb,rfl,rfl,hbb⟩;rcases hbb.symm with⟨rfl,hx⟩|⟨rfl,wL⟩
  ·refine Aj ?_;exact Bb (l':=l4++G) (.drop (.drop (KU (Keep.dropL X4 (Keep.dropL X3 (Keep.dropL X2 (Keep.dropL X1 (Keep.dropL X0 ((.drop .refl)))))))))) ⟨l4,rfl,.inr ⟨_,BK _ _,hx⟩⟩
  refine Aj ?_;exact BO (i+1,l4,X4++(X3++(X2++(X1++X0)))) ⟨by simp only;omega,wL⟩ (by simp only;omega) ⟨rfl,rfl,rfl,rfl,rfl,trivial⟩ (by simp only[Am];exact .refl)
 ·obtain rfl:i=T:=by omega
  have hv:Nw 0 (jV i sh)=7*i+sh.toNat:=by
   have h3:i=1\/i=2\/i=3:=by omega
   rcases h3 with rfl|rfl|rfl<;>cases sh<;>rfl
  cases sh with
  |true=>
   have hv:Nw 0 (jV i true)=7*i+1:=hv;refine Aj ?_;refine JB (Dn rfl rfl (Ut (F:=F) (sh:=true) hT (m:=4*i) yg hY (G:=X0++(Vh B1 F C i true::G)) (λc hc=>Aa _ ((.tail _ (hG c hc)))) hI0 B3 B2)) rfl rfl rfl ?_;rintro _ _ ⟨l1,X1,bb,rfl,rfl,hbb⟩;rcases hbb.symm with⟨rfl,hx⟩|⟨rfl,jQ⟩
   ·refine Aj ?_;exact Bb (l':=l1++G) (.drop (.drop (KU (Keep.dropL X1 (Keep.dropL X0 ((.drop .refl))))))) ⟨l1,rfl,.inr ⟨_,BK _ _,hx⟩⟩
   refine Aj ?_;have hfe:Pq F i true (4*i+1)=Nw 0 (jV i true):=by rw[<-ff F i true];rfl
   have hu:((F:Int)-Pq F i true (4*i+1))/i=zY F i true:=by rw[hfe];rfl
   have hmd:Vh B1 F C i true∈l1++(X1++(X0++(Vh B1 F C i true::G))):=Aa _ (Aa _ (Aa _ (.head _)));refine Aj ?_;rw[hu];refine Aj ?_;refine CN (α:=Nat×Ac×Ac) (λx=>[(4,.func (.func 135) #[] #[pV B3,pV B2]),(5,.int .i64 (zY F i true)),(45,.int .i64 i),(46,.int .i64 x.1)]) (λx=>qb B3 (Pq F i true ((4*i+1)+x.1))::sF B2 r::(x.2.1++(x.2.2++(Vh B1 F C i true::G)))) (λx=>x.1<=i/\I ((Eu F i true).take ((4*i+1)+x.1)) x.2.1) (λx=>i-x.1) (0,l1,X1++X0) ⟨Bp _,jQ⟩ ⟨rfl,rfl,rfl,rfl,trivial⟩ (by simp only[Am];exact .refl) ?_;rintro⟨j,l7,X7⟩ ⟨hj,XZ⟩;simp only at hj XZ⊢;by_cases wM:j<i
   ·refine Aj ?_;refine AS (Dn rfl rfl (Ut (F:=F) (sh:=true) hT (m:=(4*i+1)+j) (nI (sh:=true) wM) hY (G:=X7++(Vh B1 F C i true::G)) (λc hc=>Aa _ (.tail _ (hG c hc))) XZ B3 B2)) ?_;rintro _ _ ⟨l8,X8,bb,rfl,rfl,hbb⟩;rcases hbb.symm with⟨rfl,hx⟩|⟨rfl,wN⟩
    ·refine Aj ?_;exact Bb (l':=l8++G) (.drop (.drop (KU (Keep.dropL X8 (Keep.dropL X7 ((.drop .refl))))))) ⟨l8,rfl,.inr ⟨_,BK _ _,hx⟩⟩
    refine Aj ?_;exact BO (j+1,l8,X8++X7) ⟨by simp only;omega,wN⟩ (by simp only;omega) ⟨rfl,rfl,rfl,rfl,trivial⟩ (by simp only[Am];exact .refl)
   ·obtain rfl:j=i:=by omega
    have GD:(Eu F j true).take ((4*j+1)+j)=Eu F j true:=BD (by unfold Eu;rw[OO,QE];simp only[Ku,Mx];omega);rw[GD] at XZ;refine Aj ?_;exact Bb (l':=l7++G) (.drop (.drop (KU (Keep.dropL X7 (.drop .refl))))) ⟨l7,rfl,.inl ⟨_,rfl,XZ⟩⟩
  |false=>
   have hv:Nw 0 (jV i false)=7*i:=by simpa using hv
   have hfe:Pq F i false (4*i)=Nw 0 (jV i false):=by rw[<-ff F i false];rfl
   have hu:((F:Int)-Pq F i false (4*i))/i=zY F i false:=by rw[hfe];rfl
   have hmd:Vh B1 F C i false∈l0++(X0++(Vh B1 F C i false::G)):=Aa _ (Aa _ (.head _));refine Aj ?_;rw[hu];refine Aj ?_;refine CN (α:=Nat×Ac×Ac) (λx=>[(4,.func (.func 135) #[] #[pV B3,pV B2]),(5,.int .i64 (zY F i false)),(45,.int .i64 i),(46,.int .i64 x.1)]) (λx=>qb B3 (Pq F i false ((4*i)+x.1))::sF B2 r::(x.2.1++(x.2.2++(Vh B1 F C i false::G)))) (λx=>x.1<=i/\I ((Eu F i false).take ((4*i)+x.1)) x.2.1) (λx=>i-x.1) (0,l0,X0) ⟨Bp _,hI0⟩ ⟨rfl,rfl,rfl,rfl,trivial⟩ (by simp only[Am];exact .refl) ?_;rintro⟨j,l7,X7⟩ ⟨hj,XZ⟩;simp only at hj XZ⊢;by_cases wM:j<i
   ·refine Aj ?_;refine AS (Dn rfl rfl (Ut (F:=F) (sh:=false) hT (m:=(4*i)+j) (nI (sh:=false) wM) hY (G:=X7++(Vh B1 F C i false::G)) (λc hc=>Aa _ (.tail _ (hG c hc))) XZ B3 B2)) ?_;rintro _ _ ⟨l8,X8,bb,rfl,rfl,hbb⟩;rcases hbb.symm with⟨rfl,hx⟩|⟨rfl,wN⟩
    ·refine Aj ?_;exact Bb (l':=l8++G) (.drop (.drop (KU (Keep.dropL X8 (Keep.dropL X7 ((.drop .refl))))))) ⟨l8,rfl,.inr ⟨_,BK _ _,hx⟩⟩
    refine Aj ?_;exact BO (j+1,l8,X8++X7) ⟨by simp only;omega,wN⟩ (by simp only;omega) ⟨rfl,rfl,rfl,rfl,trivial⟩ (by simp only[Am];exact .refl)
   ·obtain rfl:j=i:=by omega
    have GD:(Eu F j false).take ((4*j)+j)=Eu F j false:=BD (by unfold Eu;rw[OO,QE];simp only[Ku,Mx];omega);rw[GD] at XZ;refine Aj ?_;exact Bb (l':=l7++G) (.drop (.drop (KU (Keep.dropL X7 (.drop .refl))))) ⟨l7,rfl,.inl ⟨_,rfl,XZ⟩⟩
structure OwT where
 th:Int
 nd:Int
 rt:Int
 pl:Int
 un:Int
abbrev RO(o:OwT):Ap:=[.int .i64 o.th,.int .i64 o.nd,.int .i64 o.rt,.int .i64 o.pl,.int .i64 o.un]
abbrev I8(B:Nat)(o:OwT):Bd:=(B,.cells (toArray (RO o)) 202 (0,0))
abbrev Jr(k o b:Int):CapT:=⟨k,o,0,0,0,b,0,0⟩
theorem Lv(k o b:Int):Jn (Jr k o b):=⟨Int.le_refl 0,by show(0:Int)<=9223372036854775807;decide⟩
def nJ(H:HS)(o:OwT)(first:Bool):HS:=
 let H1:=(Gt H (o.nd,1) (Jr 2 o.nd 8)).2
 let H2:=(Gt H1 (o.nd,2) (Jr 9 o.th 0)).2
 let H3:=(Gt H2 (o.nd,3) (Jr 1 o.un 0)).2
 let H4:=(Gt H3 (o.nd,4) (Jr 5 o.rt 0)).2
 let H5:=if first then(Gt H4 (o.nd,5) (Jr 7 0 0)).2 else H4
 let H6:=(Gt H5 (o.nd,6) (Jr 6 o.pl 0)).2
 let H7:=(Gv H6 (o.nd,1) (o.th,0) (Er (D5 H6.1 (o.nd,1)) 7)).2
 (Gv H7 (o.nd,4) (o.th,1) (Er (D5 H7.1 (o.nd,4)) 7)).2
def Uu(R:RT)(o:OwT)(first:Bool):RT:={R with H:=nJ R.H o first,N:=(As.assignP (As.addP R.N o.pl).2.2 o.pl o.rt).2.2.2}
theorem GW(o:OwT)(B:Nat)(i:Int)(l:Ac)(hm:I8 B o∈l):Fn prog 142 [.int .i64 i,pV B] l λv l'=>v= .agg (toArray (Cw (o.nd,i)))/\l'=l:=by refine AN func142 ntmps142 λE=>?_;refine AQ λb3=>?_;exact AU [] ((b3,.cells (toArray (Cw (o.nd,i))) 61 (0,0))::l) rfl (l':=l) (by exact AW) (by exact Ba) (by exact AW) ⟨rfl,rfl⟩
theorem SP(s:As.ASt)(o:Int)(n:Nat):(As.addP s o).2.2.given n=s.given n:=by
 unfold As.addP
 repeat' split
 all_goals rfl
theorem fg{s:As.ASt}(h: ∀n,n<32->0<=s.given n/\s.given n<=k)(o r:Int): ∀n,n<32->0<=(As.assignP s o r).2.2.2.given n/\(As.assignP s o r).2.2.2.given n<=(k+1:Nat):=by
 intro n hn;have h0:=h n hn;unfold As.assignP
 repeat' split
 all_goals first
  |(simp only;omega)
  |(simp only[As.ASt.give]
    unfold As.upd
    split<;>first|omega|(rename_i e;rw[<-e];omega))
theorem nK(F C n:Nat)(R:RT)(b:Nat)(p:RP)(s:RL)(hR:IsRl F C n R p s)(hn:n<=900)(o:OwT)(first:Bool)(G:Ac):Fn prog 92 [pV b,.agg (toArray (RO o)),.bool first] (CB b p s R G) λv l'=>
 v= .tuple #[]/\ ∃s' X,IsRl F C (n+8) (Uu R o first) p s'/\l'=CB b p s' (Uu R o first) (X++G):=by
 refine AN func92 ntmps92 λE=>?_;unfold CB;refine Aj ?_;refine AS (CH rfl) ?_;rintro _ _ ⟨b4,_,rfl,rfl⟩;refine Aj ?_;have FR: ∀(lq:Ac) (c:Bd),c∈[CF b p,I8 b4 o]->c∈lq++(I8 b4 o::CF b p::As.asA p.n R.N::(s.M++(s.C++(s.A++(s.T++(s.Q++(s.E++(s.V++G)))))))):=λlq c hc=>by
  rcases At.1 hc with rfl|hc
  ·exact Aa _ (.tail _ (.head _))
  ·rw[AC.1 hc];exact Aa _ (.head _)
 cases first with
 |true=>
  refine Em (l':=s.H++(I8 b4 o::CF b p::As.asA p.n R.N::(s.M++(s.C++(s.A++(s.T++(s.Q++(s.E++(s.V++G))))))))) (by dsimp only[I8,RO];exact A8 []) ?_;refine Cm [7] 8 ([CF b p,I8 b4 o]) ?_ (hR:=(FR _));refine BM ?_;apply Eo
  ·exact AL rfl rfl (λl hl=>DZ b p l (hl _ (.head _)))
  ·rfl
  ·rfl
  ·rfl
  refine BM ?_;apply Eo
  ·exact FL rfl rfl (λl hl=>GW o b4 1 l (hl _ (.tail _ (.head _))))
  ·rfl
  ·rfl
  ·rfl
  refine BM ?_;apply CM
  ·exact Az rfl rfl (F5 p.h R.H (n) (hR.inv) s.H hR.ho (o.nd,1) (Jr 2 o.nd 8) _)
  ·rfl
  ·rfl
  ·rfl
  ·rintro _ _ ⟨_,_,_,rfl⟩;exact FR _
  rintro _ _ ⟨rfl,lH1,hq1,rfl⟩;refine BM ?_;refine Aj ?_;obtain⟨H1,hH1⟩: ∃x,x=(Gt R.H (o.nd,1) (Jr 2 o.nd 8)).2:=⟨_,rfl⟩
  have jQ:InvH H1 (n+1):=by rw[hH1];exact InvH.root (hR.inv) _ _ (Lv _ _ _)
  rw[<-hH1] at hq1;refine Cm [7] 8 ([CF b p,I8 b4 o]) ?_ (hR:=(FR _));refine BM ?_;apply Eo
  ·exact AL rfl rfl (λl hl=>DZ b p l (hl _ (.head _)))
  ·rfl
  ·rfl
  ·rfl
  refine BM ?_;apply Eo
  ·exact FL rfl rfl (λl hl=>GW o b4 2 l (hl _ (.tail _ (.head _))))
  ·rfl
  ·rfl
  ·rfl
  refine BM ?_;apply CM
  ·exact Az rfl rfl (F5 p.h H1 (n+1) (jQ) lH1 hq1 (o.nd,2) (Jr 9 o.th 0) _)
  ·rfl
  ·rfl
  ·rfl
  ·rintro _ _ ⟨_,_,_,rfl⟩;exact FR _
  rintro _ _ ⟨rfl,lH2,zJ,rfl⟩;refine BM ?_;refine Aj ?_;obtain⟨H2,hH2⟩: ∃x,x=(Gt H1 (o.nd,2) (Jr 9 o.th 0)).2:=⟨_,rfl⟩
  have N6:InvH H2 (n+1+1):=by rw[hH2];exact InvH.root (jQ) _ _ (Lv _ _ _)
  rw[<-hH2] at zJ;refine Cm [7] 8 ([CF b p,I8 b4 o]) ?_ (hR:=(FR _));refine BM ?_;apply Eo
  ·exact AL rfl rfl (λl hl=>DZ b p l (hl _ (.head _)))
  ·rfl
  ·rfl
  ·rfl
  refine BM ?_;apply Eo
  ·exact FL rfl rfl (λl hl=>GW o b4 3 l (hl _ (.tail _ (.head _))))
  ·rfl
  ·rfl
  ·rfl
  refine BM ?_;apply CM
  ·exact Az rfl rfl (F5 p.h H2 (n+1+1) (N6) lH2 zJ (o.nd,3) (Jr 1 o.un 0) _)
  ·rfl
  ·rfl
  ·rfl
  ·rintro _ _ ⟨_,_,_,rfl⟩;exact FR _
  rintro _ _ ⟨rfl,lH3,hq3,rfl⟩;refine BM ?_;refine Aj ?_;obtain⟨H3,hH3⟩: ∃x,x=(Gt H2 (o.nd,3) (Jr 1 o.un 0)).2:=⟨_,rfl⟩
  have ak:InvH H3 (n+1+1+1):=by rw[hH3];exact InvH.root (N6) _ _ (Lv _ _ _)
  rw[<-hH3] at hq3;refine Cm [7] 8 ([CF b p,I8 b4 o]) ?_ (hR:=(FR _));refine BM ?_;apply Eo
  ·exact AL rfl rfl (λl hl=>DZ b p l (hl _ (.head _)))
  ·rfl
  ·rfl
  ·rfl
  refine BM ?_;apply Eo
  ·exact FL rfl rfl (λl hl=>GW o b4 4 l (hl _ (.tail _ (.head _))))
  ·rfl
  ·rfl
  ·rfl
  refine BM ?_;apply CM
  ·exact Az rfl rfl (F5 p.h H3 (n+1+1+1) (ak) lH3 hq3 (o.nd,4) (Jr 5 o.rt 0) _)
  ·rfl
  ·rfl
  ·rfl
  ·rintro _ _ ⟨_,_,_,rfl⟩;exact FR _
  rintro _ _ ⟨rfl,lH4,hq4,rfl⟩;refine BM ?_;refine Aj ?_;obtain⟨H4,hH4⟩: ∃x,x=(Gt H3 (o.nd,4) (Jr 5 o.rt 0)).2:=⟨_,rfl⟩
  have wL:InvH H4 (n+1+1+1+1):=by rw[hH4];exact InvH.root (ak) _ _ (Lv _ _ _)
  rw[<-hH4] at hq4;refine Bh (AL rfl rfl (λl hl=>DZ b p l (hl _ (FR _ _ (.head _))))) ?_;refine Aj ?_;refine Bh (FL rfl rfl (λl hl=>GW o b4 5 l (hl _ (FR _ _ (.tail _ (.head _)))))) ?_;refine Aj ?_;refine AS (Az rfl rfl (F5 p.h H4 (n+1+1+1+1) (wL) lH4 hq4 (o.nd,5) (Jr 7 0 0) _)) ?_;rintro _ _ ⟨rfl,lH5,hq5,rfl⟩;obtain⟨H5,hH5⟩: ∃x,x=(Gt H4 (o.nd,5) (Jr 7 0 0)).2:=⟨_,rfl⟩
  have hI5:InvH H5 (n+1+1+1+1+1):=by rw[hH5];exact InvH.root (wL) _ _ (Lv _ _ _)
  rw[<-hH5] at hq5;refine Aj ?_;refine Cm [7] 8 ([CF b p,I8 b4 o]) ?_ (hR:=(FR _));refine BM ?_;apply Eo
  ·exact AL rfl rfl (λl hl=>DZ b p l (hl _ (.head _)))
  ·rfl
  ·rfl
  ·rfl
  refine BM ?_;apply Eo
  ·exact FL rfl rfl (λl hl=>GW o b4 6 l (hl _ (.tail _ (.head _))))
  ·rfl
  ·rfl
  ·rfl
  refine BM ?_;apply CM
  ·exact Az rfl rfl (F5 p.h H5 (n+1+1+1+1+1) (hI5) lH5 hq5 (o.nd,6) (Jr 6 o.pl 0) _)
  ·rfl
  ·rfl
  ·rfl
  ·rintro _ _ ⟨_,_,_,rfl⟩;exact FR _
  rintro _ _ ⟨rfl,lH6,hq6,rfl⟩;refine BM ?_;refine Aj ?_;obtain⟨H6,hH6⟩: ∃x,x=(Gt H5 (o.nd,6) (Jr 6 o.pl 0)).2:=⟨_,rfl⟩
  have wO:InvH H6 (n+1+1+1+1+1+1):=by rw[hH6];exact InvH.root (hI5) _ _ (Lv _ _ _)
  rw[<-hH6] at hq6;refine Cm [7] 8 ([CF b p,I8 b4 o]) ?_ (hR:=(FR _));refine BM ?_;apply Eo
  ·exact AL rfl rfl (λl hl=>DZ b p l (hl _ (.head _)))
  ·rfl
  ·rfl
  ·rfl
  refine BM ?_;apply Eo
  ·exact FL rfl rfl (λl hl=>GW o b4 1 l (hl _ (.tail _ (.head _))))
  ·rfl
  ·rfl
  ·rfl
  refine BM ?_;apply CM
  ·exact Az rfl rfl (MO p.h H6 (n+1+1+1+1+1+1) (wO) Af lH6 hq6 (o.nd,1) (o.th,0) 7 _)
  ·rfl
  ·rfl
  ·rfl
  ·rintro _ _ ⟨_,_,_,rfl⟩;exact FR _
  rintro _ _ ⟨rfl,lH7,hq7,rfl⟩;refine BM ?_;refine Aj ?_;obtain⟨H7,hH7⟩: ∃x,x=(Gv H6 (o.nd,1) (o.th,0) (Er (D5 H6.1 (o.nd,1)) 7)).2:=⟨_,rfl⟩
  have XZ:InvH H7 (n+1+1+1+1+1+1+1):=by rw[hH7];exact InvH.der (wO) _ _ _ (Ow (wO.at _).2 _)
  rw[<-hH7] at hq7;refine Cm [7] 8 ([CF b p,I8 b4 o]) ?_ (hR:=(FR _));refine BM ?_;apply Eo
  ·exact AL rfl rfl (λl hl=>DZ b p l (hl _ (.head _)))
  ·rfl
  ·rfl
  ·rfl
  refine BM ?_;apply Eo
  ·exact FL rfl rfl (λl hl=>GW o b4 4 l (hl _ (.tail _ (.head _))))
  ·rfl
  ·rfl
  ·rfl
  refine BM ?_;apply CM
  ·exact Az rfl rfl (MO p.h H7 (n+1+1+1+1+1+1+1) (XZ) Af lH7 hq7 (o.nd,4) (o.th,1) 7 _)
  ·rfl
  ·rfl
  ·rfl
  ·rintro _ _ ⟨_,_,_,rfl⟩;exact FR _
  rintro _ _ ⟨rfl,lH8,hq8,rfl⟩;refine BM ?_;refine Aj ?_;obtain⟨H8,hH8⟩: ∃x,x=(Gv H7 (o.nd,4) (o.th,1) (Er (D5 H7.1 (o.nd,4)) 7)).2:=⟨_,rfl⟩
  have wN:InvH H8 (n+1+1+1+1+1+1+1+1):=by rw[hH8];exact InvH.der (XZ) _ _ _ (Ow (XZ.at _).2 _)
  rw[<-hH8] at hq8;have N7: ∀(N:As.ASt) (c:Bd),c∈[CF b p,I8 b4 o]->c∈As.asA p.n N::(lH8++(I8 b4 o::CF b p::(s.M++(s.C++(s.A++(s.T++(s.Q++(s.E++(s.V++G))))))))):=λN c hc=>by
   rcases At.1 hc with rfl|hc
   ·exact .tail _ (Aa _ (.tail _ (.head _)))
   ·rw[AC.1 hc];exact .tail _ (Aa _ (.head _))
  refine Em (l':=As.asA p.n R.N::(lH8++(I8 b4 o::CF b p::(s.M++(s.C++(s.A++(s.T++(s.Q++(s.E++(s.V++G)))))))))) (A8 []) ?_;refine Cm [4] 5 ([CF b p,I8 b4 o]) ?_ (hR:=(N7 _));refine BM ?_;apply Eo
  ·exact AL rfl rfl (λl hl=>Lu b p l (hl _ (.head _)))
  ·rfl
  ·rfl
  ·rfl
  refine BM ?_;apply CM
  ·exact Az rfl rfl (As.addPool_any p.n R.N o.pl _)
  ·rfl
  ·rfl
  ·rfl
  ·rintro _ _ ⟨_,rfl⟩;exact N7 _
  rintro _ _ ⟨rfl,rfl⟩;refine BM ?_;refine Aj ?_;refine Cm [6] 7 ([CF b p,I8 b4 o]) ?_ (hR:=(N7 _));refine BM ?_;apply Eo
  ·exact AL rfl rfl (λl hl=>Lu b p l (hl _ (.head _)))
  ·rfl
  ·rfl
  ·rfl
  refine BM ?_;apply CM
  ·exact Az rfl rfl (As.assign_any p.n (As.addP R.N o.pl).2.2 o.pl o.rt _ (λn hn=>by rw[SP];have:=hR.giv n hn;omega))
  ·rfl
  ·rfl
  ·rfl
  ·rintro _ _ ⟨_,rfl⟩;exact N7 _
  rintro _ _ ⟨rfl,rfl⟩;refine BM ?_;refine Aj ?_;refine Bb (l':=CB b p ⟨s.M,s.C,s.A,lH8,s.T,s.Q,s.E,s.V⟩ (Uu R o true) ([I8 b4 o]++G)) (by unfold CB;dsimp only[Uu];exact A8 []) ⟨rfl,⟨s.M,s.C,s.A,lH8,s.T,s.Q,s.E,s.V⟩,[I8 b4 o],?_,rfl⟩;have hL:nJ R.H o true=H8:=by simp only[nJ,CS];rw[<-hH1,<-hH2,<-hH3,<-hH4,<-hH5,<-hH6,<-hH7,<-hH8]
  unfold Uu;rw[hL];clear hH1 hH2 hH3 hH4 hH5 hH6 hH7 hH8;exact⟨hR.mem,hR.co,hR.ar,hR.an,hq8,wN.mono Af,λi hi=>by have:=fg (s:=(As.addP R.N o.pl).2.2) (k:=n) (λn hn=>by rw[SP];exact hR.giv n hn) o.pl o.rt i hi;simp only;omega,hR.th,hR.qu,λj hj=>BV (hR.ql j hj) Af,hR.en,hR.cu,hR.c1⟩
 |false=>
  refine Em (l':=s.H++(I8 b4 o::CF b p::As.asA p.n R.N::(s.M++(s.C++(s.A++(s.T++(s.Q++(s.E++(s.V++G))))))))) (by dsimp only[I8,RO];exact A8 []) ?_;refine Cm [7] 8 ([CF b p,I8 b4 o]) ?_ (hR:=(FR _));refine BM ?_;apply Eo
  ·exact AL rfl rfl (λl hl=>DZ b p l (hl _ (.head _)))
  ·rfl
  ·rfl
  ·rfl
  refine BM ?_;apply Eo
  ·exact FL rfl rfl (λl hl=>GW o b4 1 l (hl _ (.tail _ (.head _))))
  ·rfl
  ·rfl
  ·rfl
  refine BM ?_;apply CM
  ·exact Az rfl rfl (F5 p.h R.H (n) (hR.inv) s.H hR.ho (o.nd,1) (Jr 2 o.nd 8) _)
  ·rfl
  ·rfl
  ·rfl
  ·rintro _ _ ⟨_,_,_,rfl⟩;exact FR _
  rintro _ _ ⟨rfl,lH1,hq1,rfl⟩;refine BM ?_;refine Aj ?_;obtain⟨H1,hH1⟩: ∃x,x=(Gt R.H (o.nd,1) (Jr 2 o.nd 8)).2:=⟨_,rfl⟩
  have jQ:InvH H1 (n+1):=by rw[hH1];exact InvH.root (hR.inv) _ _ (Lv _ _ _)
  rw[<-hH1] at hq1;refine Cm [7] 8 ([CF b p,I8 b4 o]) ?_ (hR:=(FR _));refine BM ?_;apply Eo
  ·exact AL rfl rfl (λl hl=>DZ b p l (hl _ (.head _)))
  ·rfl
  ·rfl
  ·rfl
  refine BM ?_;apply Eo
  ·exact FL rfl rfl (λl hl=>GW o b4 2 l (hl _ (.tail _ (.head _))))
  ·rfl
  ·rfl
  ·rfl
  refine BM ?_;apply CM
  ·exact Az rfl rfl (F5 p.h H1 (n+1) (jQ) lH1 hq1 (o.nd,2) (Jr 9 o.th 0) _)
  ·rfl
  ·rfl
  ·rfl
  ·rintro _ _ ⟨_,_,_,rfl⟩;exact FR _
  rintro _ _ ⟨rfl,lH2,zJ,rfl⟩;refine BM ?_;refine Aj ?_;obtain⟨H2,hH2⟩: ∃x,x=(Gt H1 (o.nd,2) (Jr 9 o.th 0)).2:=⟨_,rfl⟩
  have N6:InvH H2 (n+1+1):=by rw[hH2];exact InvH.root (jQ) _ _ (Lv _ _ _)
  rw[<-hH2] at zJ;refine Cm [7] 8 ([CF b p,I8 b4 o]) ?_ (hR:=(FR _));refine BM ?_;apply Eo
  ·exact AL rfl rfl (λl hl=>DZ b p l (hl _ (.head _)))
  ·rfl
  ·rfl
  ·rfl
  refine BM ?_;apply Eo
  ·exact FL rfl rfl (λl hl=>GW o b4 3 l (hl _ (.tail _ (.head _))))
  ·rfl
  ·rfl
  ·rfl
  refine BM ?_;apply CM
  ·exact Az rfl rfl (F5 p.h H2 (n+1+1) (N6) lH2 zJ (o.nd,3) (Jr 1 o.un 0) _)
  ·rfl
  ·rfl
  ·rfl
  ·rintro _ _ ⟨_,_,_,rfl⟩;exact FR _
  rintro _ _ ⟨rfl,lH3,hq3,rfl⟩;refine BM ?_;refine Aj ?_;obtain⟨H3,hH3⟩: ∃x,x=(Gt H2 (o.nd,3) (Jr 1 o.un 0)).2:=⟨_,rfl⟩
  have ak:InvH H3 (n+1+1+1):=by rw[hH3];exact InvH.root (N6) _ _ (Lv _ _ _)
  rw[<-hH3] at hq3;refine Cm [7] 8 ([CF b p,I8 b4 o]) ?_ (hR:=(FR _));refine BM ?_;apply Eo
  ·exact AL rfl rfl (λl hl=>DZ b p l (hl _ (.head _)))
  ·rfl
  ·rfl
  ·rfl
  refine BM ?_;apply Eo
  ·exact FL rfl rfl (λl hl=>GW o b4 4 l (hl _ (.tail _ (.head _))))
  ·rfl
  ·rfl
  ·rfl
  refine BM ?_;apply CM
  ·exact Az rfl rfl (F5 p.h H3 (n+1+1+1) (ak) lH3 hq3 (o.nd,4) (Jr 5 o.rt 0) _)
  ·rfl
  ·rfl
  ·rfl
  ·rintro _ _ ⟨_,_,_,rfl⟩;exact FR _
  rintro _ _ ⟨rfl,lH4,hq4,rfl⟩;refine BM ?_;refine Aj ?_;obtain⟨H4,hH4⟩: ∃x,x=(Gt H3 (o.nd,4) (Jr 5 o.rt 0)).2:=⟨_,rfl⟩
  have wL:InvH H4 (n+1+1+1+1):=by rw[hH4];exact InvH.root (ak) _ _ (Lv _ _ _)
  rw[<-hH4] at hq4;refine Cm [7] 8 ([CF b p,I8 b4 o]) ?_ (hR:=(FR _));refine BM ?_;apply Eo
  ·exact AL rfl rfl (λl hl=>DZ b p l (hl _ (.head _)))
  ·rfl
  ·rfl
  ·rfl
  refine BM ?_;apply Eo
  ·exact FL rfl rfl (λl hl=>GW o b4 6 l (hl _ (.tail _ (.head _))))
  ·rfl
  ·rfl
  ·rfl
  refine BM ?_;apply CM
  ·exact Az rfl rfl (F5 p.h H4 (n+1+1+1+1) (wL) lH4 hq4 (o.nd,6) (Jr 6 o.pl 0) _)
  ·rfl
  ·rfl
  ·rfl
  ·rintro _ _ ⟨_,_,_,rfl⟩;exact FR _
  rintro _ _ ⟨rfl,lH6,hq6,rfl⟩;refine BM ?_;refine Aj ?_;obtain⟨H6,hH6⟩: ∃x,x=(Gt H4 (o.nd,6) (Jr 6 o.pl 0)).2:=⟨_,rfl⟩
  have wO:InvH H6 (n+1+1+1+1+1):=by rw[hH6];exact InvH.root (wL) _ _ (Lv _ _ _)
  rw[<-hH6] at hq6;refine Cm [7] 8 ([CF b p,I8 b4 o]) ?_ (hR:=(FR _));refine BM ?_;apply Eo
  ·exact AL rfl rfl (λl hl=>DZ b p l (hl _ (.head _)))
  ·rfl
  ·rfl
  ·rfl
  refine BM ?_;apply Eo
  ·exact FL rfl rfl (λl hl=>GW o b4 1 l (hl _ (.tail _ (.head _))))
  ·rfl
  ·rfl
  ·rfl
  refine BM ?_;apply CM
  ·exact Az rfl rfl (MO p.h H6 (n+1+1+1+1+1) (wO) Af lH6 hq6 (o.nd,1) (o.th,0) 7 _)
  ·rfl
  ·rfl
  ·rfl
  ·rintro _ _ ⟨_,_,_,rfl⟩;exact FR _
  rintro _ _ ⟨rfl,lH7,hq7,rfl⟩;refine BM ?_;refine Aj ?_;obtain⟨H7,hH7⟩: ∃x,x=(Gv H6 (o.nd,1) (o.th,0) (Er (D5 H6.1 (o.nd,1)) 7)).2:=⟨_,rfl⟩
  have XZ:InvH H7 (n+1+1+1+1+1+1):=by rw[hH7];exact InvH.der (wO) _ _ _ (Ow (wO.at _).2 _)
  rw[<-hH7] at hq7;refine Cm [7] 8 ([CF b p,I8 b4 o]) ?_ (hR:=(FR _));refine BM ?_;apply Eo
  ·exact AL rfl rfl (λl hl=>DZ b p l (hl _ (.head _)))
  ·rfl
  ·rfl
  ·rfl
  refine BM ?_;apply Eo
  ·exact FL rfl rfl (λl hl=>GW o b4 4 l (hl _ (.tail _ (.head _))))
  ·rfl
  ·rfl
  ·rfl
  refine BM ?_;apply CM
  ·exact Az rfl rfl (MO p.h H7 (n+1+1+1+1+1+1) (XZ) Af lH7 hq7 (o.nd,4) (o.th,1) 7 _)
  ·rfl
  ·rfl
  ·rfl
  ·rintro _ _ ⟨_,_,_,rfl⟩;exact FR _
  rintro _ _ ⟨rfl,lH8,hq8,rfl⟩;refine BM ?_;refine Aj ?_;obtain⟨H8,hH8⟩: ∃x,x=(Gv H7 (o.nd,4) (o.th,1) (Er (D5 H7.1 (o.nd,4)) 7)).2:=⟨_,rfl⟩
  have wN:InvH H8 (n+1+1+1+1+1+1+1):=by rw[hH8];exact InvH.der (XZ) _ _ _ (Ow (XZ.at _).2 _)
  rw[<-hH8] at hq8;have N7: ∀(N:As.ASt) (c:Bd),c∈[CF b p,I8 b4 o]->c∈As.asA p.n N::(lH8++(I8 b4 o::CF b p::(s.M++(s.C++(s.A++(s.T++(s.Q++(s.E++(s.V++G))))))))):=λN c hc=>by
   rcases At.1 hc with rfl|hc
   ·exact .tail _ (Aa _ (.tail _ (.head _)))
   ·rw[AC.1 hc];exact .tail _ (Aa _ (.head _))
  refine Em (l':=As.asA p.n R.N::(lH8++(I8 b4 o::CF b p::(s.M++(s.C++(s.A++(s.T++(s.Q++(s.E++(s.V++G)))))))))) (A8 []) ?_;refine Cm [4] 5 ([CF b p,I8 b4 o]) ?_ (hR:=(N7 _));refine BM ?_;apply Eo
  ·exact AL rfl rfl (λl hl=>Lu b p l (hl _ (.head _)))
  ·rfl
  ·rfl
  ·rfl
  refine BM ?_;apply CM
  ·exact Az rfl rfl (As.addPool_any p.n R.N o.pl _)
  ·rfl
  ·rfl
  ·rfl
  ·rintro _ _ ⟨_,rfl⟩;exact N7 _
  rintro _ _ ⟨rfl,rfl⟩;refine BM ?_;refine Aj ?_;refine Cm [6] 7 ([CF b p,I8 b4 o]) ?_ (hR:=(N7 _));refine BM ?_;apply Eo
  ·exact AL rfl rfl (λl hl=>Lu b p l (hl _ (.head _)))
  ·rfl
  ·rfl
  ·rfl
  refine BM ?_;apply CM
  ·exact Az rfl rfl (As.assign_any p.n (As.addP R.N o.pl).2.2 o.pl o.rt _ (λn hn=>by rw[SP];have:=hR.giv n hn;omega))
  ·rfl
  ·rfl
  ·rfl
  ·rintro _ _ ⟨_,rfl⟩;exact N7 _
  rintro _ _ ⟨rfl,rfl⟩;refine BM ?_;refine Aj ?_;refine Bb (l':=CB b p ⟨s.M,s.C,s.A,lH8,s.T,s.Q,s.E,s.V⟩ (Uu R o false) ([I8 b4 o]++G)) (by unfold CB;dsimp only[Uu];exact A8 []) ⟨rfl,⟨s.M,s.C,s.A,lH8,s.T,s.Q,s.E,s.V⟩,[I8 b4 o],?_,rfl⟩;have hL:nJ R.H o false=H8:=by simp only[nJ,Bm,C6];rw[<-hH1,<-hH2,<-hH3,<-hH4,<-hH6,<-hH7,<-hH8]
  unfold Uu;rw[hL];clear hH1 hH2 hH3 hH4 hH6 hH7 hH8;exact⟨hR.mem,hR.co,hR.ar,hR.an,hq8,wN.mono Af,λi hi=>by have:=fg (s:=(As.addP R.N o.pl).2.2) (k:=n) (λn hn=>by rw[SP];exact hR.giv n hn) o.pl o.rt i hi;simp only;omega,hR.th,hR.qu,λj hj=>BV (hR.ql j hj) Af,hR.en,hR.cu,hR.c1⟩
def Rs:List OwT->Ap
 |[]=>[]
 |o::os=>RO o++Rs os
theorem SQ: ∀{os:List OwT} {i:Nat} {o:OwT},os[i]?=some o->i*5+5<=(toArray (Rs os)).size/\(toArray (Rs os)).extract (i*5) (i*5+5)=toArray (RO o)
 |[],i,o,h=>by cases h
 |a::os,0,o,h=>by obtain rfl:a=o:=AZ h;refine⟨by show 0*5+5<=(RO a++Rs os).length;simp[RO],?_⟩;show(toArray (RO a++Rs os)).extract (0*5) (0*5+5)=_;simp[RO,Cj]
 |a::os,i+1,o,h=>by
  obtain⟨h1,h2⟩:=SQ (os:=os) (i:=i) (o:=o) h;simp only[Bv] at h1;refine⟨by show(i+1)*5+5<=(RO a++Rs os).length;simp[RO];omega,?_⟩;show(toArray (RO a++Rs os)).extract ((i+1)*5) ((i+1)*5+5)=_;rw[<-h2];simp only[E7,Cj];have e1:(i+1)*5=i*5+(RO a).length:=by show _=i*5+5;omega
  have e2:(i+1)*5+5-(i+1)*5=i*5+5-i*5:=by omega
  rw[e2];congr 1;rw[e1,KM,JM];simp
abbrev Wf:OwT:=⟨0,0,0,0,0⟩
abbrev nL(o:Int):CapT:=⟨8,o,7,0,0,0,0,0⟩
theorem yi(o:Int):Jn (nL o):=⟨Int.le_refl 0,by show(0:Int)<=9223372036854775807;decide⟩
def shH(H:HS)(nd:Int)(i:Nat)(o:OwT):HS:=
 let H1:=(Gv H (nd,7) (o.nd,7) (HH (D5 H.1 (nd,7)) 7 (i+1))).2
 (Gv H1 (nd,7) (o.th,2) (HH (D5 H1.1 (nd,7)) 7 (101+i))).2
def shK(nd:Int)(os:List OwT)(H:HS):Nat->HS
 |0=>H
 |k+1=>if k=0 then shK nd os H k else shH (shK nd os H k) nd k (os.getD k Wf)
def Rt(H:HS)(os:List OwT)(sh:Int):HS:=shK (os.getD 0 Wf).nd os (Gt H ((os.getD 0 Wf).nd,7) (nL sh)).2 os.length
theorem InvH.shH{H:HS}{n:Nat}(h:InvH H n)(nd:Int)(i:Nat)(o:OwT):InvH (shH H nd i o) (n+2):=by have h1:=h.der (nd,7) (o.nd,7) (HH (D5 H.1 (nd,7)) 7 (i+1)) (TU (h.at _).2 _ _);exact h1.der (nd,7) (o.th,2) _ (TU (h1.at _).2 _ _)
theorem InvH.shK{H:HS}{n:Nat}(h:InvH H n)(nd:Int)(os:List OwT): ∀k,InvH (shK nd os H k) (n+2*k)
 |0=>h
 |k+1=>by
  show InvH (if k=0 then _ else _) _
  split
  ·exact(InvH.shK h nd os k).mono Af
  ·exact((InvH.shK h nd os k).shH nd k _).mono Af
abbrev Wg(B:Nat)(s:Cs):Bd:=(B,.cells (toArray (Cw s)) 61 (0,0))
theorem iS(F C n:Nat)(R:RT)(b:Nat)(p:RP)(s:RL)(hR:IsRl F C n R p s)(hn:n<=900)(os:List OwT)(h0:1<=os.length)(h3:os.length<=3)(sh:Int)(bs cap:Nat)(T:TypeId)(fz:Nat×Nat)(G:Ac)(hm:(bs,Obj.cells (toArray (Rs os)) T fz)∈G):
 Fn prog 93 [pV b,.slice (some ⟨bs,0,none⟩) os.length cap,.int .i64 sh] (CB b p s R G) λv l'=>
 v= .tuple #[]/\ ∃s' X,IsRl F C (n+7) {R with H:=Rt R.H os sh} p s'/\l'=CB b p s' {R with H:=Rt R.H os sh} (X++G):=by
 obtain⟨o0,ot,rfl⟩: ∃o ot,os=o::ot:=by
  cases os with
  |nil=>exact absurd h0 AX
  |cons o ot=>exact⟨o,ot,rfl⟩
 refine AN func93 ntmps93 λE=>?_;unfold CB;refine Aj ?_;have XK:(bs,Obj.cells (toArray (Rs (o0::ot))) T fz)∈CF b p::As.asA p.n R.N::(s.M++(s.C++(s.A++(s.H++(s.T++(s.Q++(s.E++(s.V++G)))))))):= .tail _ (.tail _ (Aa _ (Aa _ (Aa _ (Aa _ (Aa _ (Aa _ (Aa _ (Aa _ hm)))))))));refine Bh (DS (v:= .int .i64 o0.nd) rfl XK rfl) ?_;refine AQ λb6=>?_;have P6: ∀(lq:Ac) (c:Bd),c∈[CF b p,Wg b6 (o0.nd,7)]->c∈lq++(Wg b6 (o0.nd,7)::CF b p::As.asA p.n R.N::(s.M++(s.C++(s.A++(s.T++(s.Q++(s.E++(s.V++G)))))))):=λlq c hc=>by
  rcases At.1 hc with rfl|hc
  ·exact Aa _ (.tail _ (.head _))
  ·rw[AC.1 hc];exact Aa _ (.head _)
 refine Em (l':=s.H++(Wg b6 (o0.nd,7)::CF b p::As.asA p.n R.N::(s.M++(s.C++(s.A++(s.T++(s.Q++(s.E++(s.V++G))))))))) (by dsimp only[Wg,Cw];exact A8 []) ?_;refine Cm [5] 6 ([CF b p,Wg b6 (o0.nd,7)]) ?_ (hR:=(P6 _));refine BM ?_;apply Eo
 ·exact AL rfl rfl (λl hl=>DZ b p l (hl _ (.head _)))
 ·rfl
 ·rfl
 ·rfl
 refine BM ?_;apply CM
 ·exact Az rfl rfl (F5 p.h R.H n hR.inv s.H hR.ho (o0.nd,7) (nL sh) _)
 ·rfl
 ·rfl
 ·rfl
 ·rintro _ _ ⟨_,_,_,rfl⟩;exact P6 _
 rintro _ _ ⟨rfl,lH1,hq1,rfl⟩;refine BM ?_;refine Aj ?_;obtain⟨H1,hH1⟩: ∃x,x=(Gt R.H (o0.nd,7) (nL sh)).2:=⟨_,rfl⟩
 have jQ:InvH H1 (n+1):=by rw[hH1];exact InvH.root hR.inv _ _ (yi _)
 rw[<-hH1] at hq1;refine CN (α:=Nat×Ac×Ac) (λx=>[(0,pV b),(6,pV b6),(20,.slice (some ⟨bs,0,none⟩) (o0::ot).length cap),(21,.int .i64 ((o0::ot).length:Nat)),(22,.int .i64 x.1)]) (λx=>x.2.1++(Wg b6 (o0.nd,7)::CF b p::As.asA p.n R.N::(s.M++(s.C++(s.A++(s.T++(s.Q++(s.E++(s.V++(x.2.2++G))))))))))
  (λx=>x.1<=(o0::ot).length/\IsH p.h (shK o0.nd (o0::ot) H1 x.1) x.2.1) (λx=>(o0::ot).length-x.1) (0,lH1,[]) ⟨Bp _,hq1⟩ ⟨rfl,rfl,rfl,rfl,rfl,trivial⟩ (by simp only[Ag];exact A8 []) ?_
 rintro⟨k,lH,X⟩ ⟨hk,hq⟩;simp only at hk hq⊢;by_cases ZT:k<(o0::ot).length
 ·obtain⟨o,ho⟩: ∃o,(o0::ot)[k]?=some o:=⟨_,Al ZT⟩
  obtain⟨x1,x2⟩:=SQ ho;have UW:(bs,Obj.cells (toArray (Rs (o0::ot))) T fz)∈lH++(Wg b6 (o0.nd,7)::CF b p::As.asA p.n R.N::(s.M++(s.C++(s.A++(s.T++(s.Q++(s.E++(s.V++(X++G))))))))):=Aa _ (.tail _ (.tail _ (.tail _ (Aa _ (Aa _ (Aa _ (Aa _ (Aa _ (Aa _ (Aa _ (Aa _ hm)))))))))));refine Aj ?_;refine Bh (Dt rfl UW x1 x2) ?_;refine AQ λb8=>?_;by_cases hk0:k=0
  ·subst hk0;refine Aj ?_;refine BO (0+1,lH,I8 b8 o::X) ⟨Af,?_⟩ (by simp only;omega) ⟨rfl,rfl,rfl,rfl,rfl,trivial⟩ (by dsimp only[I8,RO];exact A8 []);exact hq
  refine Aj ?_;have hI:InvH (shK o0.nd (o0::ot) H1 k) (n+1+2*k):=jQ.shK _ _ _;have KF: ∀(lq:Ac) (c:Bd),c∈[CF b p,Wg b6 (o0.nd,7),I8 b8 o]->c∈lq++(I8 b8 o::Wg b6 (o0.nd,7)::CF b p::As.asA p.n R.N::(s.M++(s.C++(s.A++(s.T++(s.Q++(s.E++(s.V++(X++G))))))))):=λlq c hc=>by
   rcases At.1 hc with rfl|hc
   ·exact Aa _ (.tail _ (.tail _ (.head _)))
   ·rcases At.1 hc with rfl|hc
    ·exact Aa _ (.tail _ (.head _))
    ·rw[AC.1 hc];exact Aa _ (.head _)
  refine Em (l':=lH++(I8 b8 o::Wg b6 (o0.nd,7)::CF b p::As.asA p.n R.N::(s.M++(s.C++(s.A++(s.T++(s.Q++(s.E++(s.V++(X++G)))))))))) (by dsimp only[I8,RO];exact A8 []) ?_;refine Cm [9] 10 ([CF b p,Wg b6 (o0.nd,7),I8 b8 o]) ?_ (hR:=(KF _));refine BM ?_;apply Eo
  ·exact AL rfl rfl (λl hl=>DZ b p l (hl _ (.head _)))
  ·rfl
  ·rfl
  ·rfl
  refine BM ?_;apply CM
  ·exact Az rfl rfl (Rn p.h (shK o0.nd (o0::ot) H1 k) _ (hI) Af lH hq (o0.nd,7) (o.nd,7) 7 (k+1) Af _)
  ·rfl
  ·rfl
  ·rfl
  ·rintro _ _ ⟨_,_,_,rfl⟩;exact KF _
  rintro _ _ ⟨rfl,lM1,hm1',rfl⟩;refine BM ?_;refine Aj ?_;have LB:=hI.der (o0.nd,7) (o.nd,7) (HH (D5 (shK o0.nd (o0::ot) H1 k).1 (o0.nd,7)) 7 (k+1)) (TU (hI.at _).2 _ _);refine Cm [9] 10 ([CF b p,Wg b6 (o0.nd,7),I8 b8 o]) ?_ (hR:=(KF _));refine BM ?_;apply Eo
  ·exact AL rfl rfl (λl hl=>DZ b p l (hl _ (.head _)))
  ·rfl
  ·rfl
  ·rfl
  refine BM ?_;apply CM
  ·exact Az rfl rfl (Rn p.h _ _ (LB) Af lM1 hm1' (o0.nd,7) (o.th,2) 7 (101+k) Af _)
  ·rfl
  ·rfl
  ·rfl
  ·rintro _ _ ⟨_,_,_,rfl⟩;exact KF _
  rintro _ _ ⟨rfl,lM2,hm2',rfl⟩;refine BM ?_;refine Aj ?_;refine BO (k+1,lM2,I8 b8 o::X) ⟨Af,?_⟩ (by simp only;omega) ⟨rfl,rfl,rfl,rfl,rfl,trivial⟩ (A8 []);have e1:shK o0.nd (o0::ot) H1 (k+1)=shH (shK o0.nd (o0::ot) H1 k) o0.nd k o:=by show(if k=0 then _ else _)=_;rw[Ab hk0,List.getD,ho,Dx]
  show IsH p.h (shK o0.nd (o0::ot) H1 (k+1)) lM2;rw[e1];exact hm2'
 ·refine Aj ?_;obtain rfl:k=(o0::ot).length:=by omega
  have hL:Rt R.H (o0::ot) sh=shK o0.nd (o0::ot) H1 (o0::ot).length:=by show shK o0.nd (o0::ot) (Gt R.H (o0.nd,7) (nL sh)).2 _=_;rw[<-hH1]
  have hI:InvH (shK o0.nd (o0::ot) H1 (o0::ot).length) (n+1+2*(o0::ot).length):=jQ.shK _ _ _;refine Bb (l':=CB b p ⟨s.M,s.C,s.A,lH,s.T,s.Q,s.E,s.V⟩ {R with H:=Rt R.H (o0::ot) sh} ((Wg b6 (o0.nd,7)::X)++G)) (by unfold CB;dsimp only;exact A8 []) ⟨rfl,⟨s.M,s.C,s.A,lH,s.T,s.Q,s.E,s.V⟩,Wg b6 (o0.nd,7)::X,?_,rfl⟩;rw[hL];exact⟨hR.mem,hR.co,hR.ar,hR.an,hq,hI.mono Af,λi hi=>by have:=hR.giv i hi;simp only;omega,hR.th,hR.qu,λj hj=>BV (hR.ql j hj) Af,hR.en,hR.cu,hR.c1⟩
def Ny(R:RT)(id:Int):RT:=match Th.findH R.T id with
 |none=>R
 |some t=>{R with T:=(Th.setD R.T {t with st:=1}).2,Q:=(Qu.addQ R.Q id t.pr).2}
theorem nM{X:Nat->A4}(h: ∀n,n<8->(X n).length<=k)(id pr:Int): ∀n,n<8->((Qu.addQ X id pr).2 n).length<=k+1:=by
 intro n hn;have h0:=h n hn;unfold Qu.addQ
 split
 ·exact Fa h0
 split
 ·exact Fa h0
 ·simp only[Qu.upd]
  split
  ·rename_i e;subst e;simp only[Ah,Bu,Fe];omega
  ·exact Fa h0
theorem iT(F C n:Nat)(R:RT)(b:Nat)(p:RP)(s:RL)(hR:IsRl F C n R p s)(hn:n<=900)(id:Int)(G:Ac):Fn prog 97 [pV b,.int .i64 id,.int .i64 1] (CB b p s R G) λv l'=>
 (∃e,v= .int .i64 e)/\ ∃s' X,IsRl F C (n+1) (Ny R id) p s'/\l'=CB b p s' (Ny R id) (X++G):=by
 refine AN func97 ntmps97 λE=>?_;unfold CB;refine Aj ?_;refine Bh (AL rfl rfl (λl hl=>Th.get_any p.t R.T s.T hR.th id l (λc hc=>hl _ (.tail _ (.tail _ (Aa _ (Aa _ (Aa _ (Aa _ (Ai _ hc)))))))))) ?_;cases hf:Th.findH R.T id with
 |none=>
  have e:Ny R id=R:=by unfold Ny;rw[hf]
  simp only[Option.getD_none,FA];refine AQ λb7=>?_;refine BE [] rfl (l':=CB b p s R ([Th.thC b7 Th.thZ]++G)) (by unfold CB;dsimp only[Th.thC,Th.encH,Th.thZ];exact A8 []) (by exact Ba) ⟨⟨_,rfl⟩,s,[Th.thC b7 Th.thZ],?_,by rw[e];rfl⟩;rw[e];exact hR.mono Af
 |some t=>
  have e:Ny R id={R with T:=(Th.setD R.T {t with st:=1}).2,Q:=(Qu.addQ R.Q id t.pr).2}:=by unfold Ny;rw[hf]
  simp only[Dx,IE];refine AQ λb7=>?_;have P6: ∀(lq:Ac) (c:Bd),c∈[CF b p,Th.thC b7 {t with st:=1}]->c∈lq++(Th.thC b7 {t with st:=1}::CF b p::As.asA p.n R.N::(s.M++(s.C++(s.A++(s.H++(s.Q++(s.E++(s.V++G)))))))):=λlq c hc=>by
   rcases At.1 hc with rfl|hc
   ·exact Aa _ (.tail _ (.head _))
   ·rw[AC.1 hc];exact Aa _ (.head _)
  refine Em (l':=s.T++(Th.thC b7 {t with st:=1}::CF b p::As.asA p.n R.N::(s.M++(s.C++(s.A++(s.H++(s.Q++(s.E++(s.V++G))))))))) (by dsimp only[Th.thC,Th.encH];exact A8 []) ?_;refine Cm [5] 6 ([CF b p,Th.thC b7 {t with st:=1}]) ?_ (hR:=(P6 _));refine BM ?_;apply CM
  ·exact Az rfl rfl (Th.set_any p.t R.T s.T hR.th {t with st:=1} _)
  ·rfl
  ·rfl
  ·rfl
  ·rintro _ _ ⟨_,_,_,rfl⟩;exact P6 _
  rintro _ _ ⟨rfl,lT,hT,rfl⟩;refine BM ?_;refine Aj ?_;have KF: ∀(lq:Ac) (c:Bd),c∈[CF b p,Th.thC b7 {t with st:=1}]->c∈lq++(Th.thC b7 {t with st:=1}::CF b p::As.asA p.n R.N::(s.M++(s.C++(s.A++(s.H++(lT++(s.E++(s.V++G)))))))):=λlq c hc=>by
   rcases At.1 hc with rfl|hc
   ·exact Aa _ (.tail _ (.head _))
   ·rw[AC.1 hc];exact Aa _ (.head _)
  refine Em (l':=s.Q++(Th.thC b7 {t with st:=1}::CF b p::As.asA p.n R.N::(s.M++(s.C++(s.A++(s.H++(lT++(s.E++(s.V++G))))))))) (A8 []) ?_;refine Cm [7] 8 ([CF b p,Th.thC b7 {t with st:=1}]) ?_ (hR:=(KF _));refine BM ?_;apply CM
  ·exact Az rfl rfl (Qu.add_any p.q R.Q s.Q id t.pr hR.qu (λj hj=>by have:=hR.ql j hj;omega) _)
  ·rfl
  ·rfl
  ·rfl
  ·rintro _ _ ⟨_,_,_,rfl⟩;exact KF _
  rintro _ _ ⟨rfl,lQ,hQ,rfl⟩;refine BM ?_;refine Aj ?_;rw[e];refine Bb (l':=CB b p ⟨s.M,s.C,s.A,s.H,lT,lQ,s.E,s.V⟩ {R with T:=(Th.setD R.T {t with st:=1}).2,Q:=(Qu.addQ R.Q id t.pr).2} ([Th.thC b7 {t with st:=1}]++G)) (by unfold CB;dsimp only;exact A8 []) ⟨⟨_,rfl⟩,⟨s.M,s.C,s.A,s.H,lT,lQ,s.E,s.V⟩,[Th.thC b7 {t with st:=1}],?_,rfl⟩;exact⟨hR.mem,hR.co,hR.ar,hR.an,hR.ho,hR.inv.mono Af,λi hi=>by have:=hR.giv i hi;simp only;omega,hT,hQ,nM hR.ql id t.pr,hR.en,hR.cu,hR.c1⟩
abbrev knC(B b:Nat):Bd:=(B,.cells (toArray [pV b]) 152 (0,0))
theorem nN(b:Nat)(l:Ac):Fn prog 98 [pV b] l λv l'=> ∃B,v= .tuple #[pV B,.int .i64 0]/\l'=knC B b::l:=by refine AN func98 ntmps98 λE=>?_;refine Aj ?_;refine AS (CH rfl) ?_;rintro _ _ ⟨B,_,rfl,rfl⟩;refine Aj ?_;exact Bb .refl ⟨B,rfl,rfl⟩
def NT(F C T:Int):Bool:=decide (1<=T)&&decide (T<=3)&&decide (1<=C)&&decide (C<=3)&&decide (11*T<=F)&&decide (F<=64)
theorem Zn(F C T:Int)(sh:Bool)(l:Ac):Fn prog 88 [.agg (toArray [.int .i64 F,.int .i64 C,.int .i64 T,.bool sh])] l λv l'=>v= .bool (NT F C T)/\l'=l:=by
 refine AN func88 ntmps88 λE=>?_;refine Aj ?_;refine AS (CH rfl) ?_;rintro _ _ ⟨b1,_,rfl,rfl⟩;refine Aj ?_;by_cases h0:1<=T
 case neg=>refine Aj ?_;exact BE [] rfl (l':=l) (.drop .refl) (by exact Ba) ⟨by simp[NT,JH,h0],rfl⟩
 by_cases h1:T<=3
 case neg=>refine Aj ?_;exact BE [] rfl (l':=l) (.drop .refl) (by exact Ba) ⟨by simp[NT,JH,h0,h1],rfl⟩
 by_cases h2:1<=C
 case neg=>refine Aj ?_;exact BE [] rfl (l':=l) (.drop .refl) (by exact Ba) ⟨by simp[NT,JH,h0,h1,h2],rfl⟩
 by_cases h3:C<=3
 case neg=>refine Aj ?_;exact BE [] rfl (l':=l) (.drop .refl) (by exact Ba) ⟨by simp[NT,JH,h0,h1,h2,h3],rfl⟩
 by_cases h4:11*T<=F
 case neg=>refine Aj ?_;exact BE [] rfl (l':=l) (.drop .refl) (by exact Ba) ⟨by simp[NT,JH,h0,h1,h2,h3,h4],rfl⟩
 by_cases h5:F<=64
 case neg=>refine Aj ?_;exact BE [] rfl (l':=l) (.drop .refl) (by exact Ba) ⟨by simp[NT,JH,h0,h1,h2,h3,h4,h5],rfl⟩
 refine Aj ?_;exact BE [] rfl (l':=l) (.drop .refl) (by exact Ba) ⟨by simp[NT,JH,h0,h1,h2,h3,h4,h5],rfl⟩
def zZ(S:RT×A4)(x:Int×Int×Int):RT×A4:=((JK S.1 x.1 x.2.1 x.2.2).2,S.2++[(JK S.1 x.1 x.2.1 x.2.2).1.1])
def XQ(F:Nat)(xs:List (Int×Int×Int)):RT×A4:=xs.foldl zZ (Jp F,[])
theorem nO(F:Nat)(xs:List (Int×Int×Int))(x:Int×Int×Int):XQ F (xs++[x])=zZ (XQ F xs) x:=by unfold XQ;rw[Fd];rfl
theorem fh(F:Nat)(xs:List (Int×Int×Int)):(XQ F xs).2.length=xs.length:=by
 have h: ∀(xs:List (Int×Int×Int)) (S:RT×A4),(xs.foldl zZ S).2.length=S.2.length+xs.length:=by
  intro xs
  induction xs with
  |nil=>intro S;rfl
  |cons x r ih=>intro S;show(List.foldl zZ (zZ S x) r).2.length=_;rw[ih];simp[zZ];omega
 rw[XQ,h];simp
abbrev qc(B:Nat)(F C T:Int)(sh:Bool):Bd:=(B,.cells (toArray [.int .i64 F,.int .i64 C,.int .i64 T,.bool sh]) 23 (0,0))
theorem sG(F C T:Int)(sh:Bool)(h:NT F C T=false)(l:Ac):Fn prog 66 [.agg (toArray [.int .i64 F,.int .i64 C,.int .i64 T,.bool sh])] l λv l'=>v= .tuple #[.pointer none,.slice none 0 0,.int .i64 3]/\l'=l:=by refine AN func66 ntmps66 λE=>?_;refine Aj ?_;refine AS (CH rfl) ?_;rintro _ _ ⟨b1,_,rfl,rfl⟩;refine Aj ?_;refine Bh (AL rfl rfl (λl hl=>Zn F C T sh l)) ?_;rw[h];refine Aj ?_;exact Bb (l':=l) (.drop .refl) ⟨rfl,rfl⟩
abbrev PV(B b:Nat):Bd:=(B,.cells (toArray [pV b]) 124 (0,0))
abbrev NJ(B:Nat)(v:Value):Bd:=(B,.cells (toArray [v]) 40 (0,0))
def InL(F C b:Nat)(p:RP)(b8:Nat)(pre:List (Int×Int×Int))(l:Ac):Prop:= ∃s v cs X,IsRl F C pre.length (XQ F pre).1 p s/\OwnSl 3 1 v pre.length ((XQ F pre).2.map CU) cs/\l=CB b p s (XQ F pre).1 (NJ b8 v::(cs++X))
def cA(ids:A4)(T i:Nat):OwT:=⟨ids.getD (4*i) 0,ids.getD (4*i+1) 0,ids.getD (4*i+2) 0,ids.getD (4*i+3) 0,ids.getD (ids.length-T+i) 0⟩
def PW(ids:A4)(T i:Nat):List OwT:=(List.range i).map (cA ids T)++replicate (T-i) Wf
theorem nP(n:Nat):Rs (replicate n Wf)=(replicate n (RO Wf)).flatten:=by
 induction n with
 |zero=>rfl
 |succ n ih=>rw[BL,BL,Cy,<-ih];rfl
def aft:Nat->Code->Code
 |0,c=>c
 |n+1,.seq _ c=>aft n c
 |_,c=>c
def hed:Code->Code
 | .seq c _=>c
 |c=>c
theorem cC{N:Nat}{e:Exit}{fr fr':Fr}{l l':Ac}(hs:FSub fr' fr)(p:Keep l l')(h:C0 N E Q e fr' ds l'):C0 N E Q e fr ds l:=⟨λa W hf hds hw=>h.run a W (hf.sub hs.spec) hds (p.sat hw)⟩
theorem Xr: ∀os:List OwT,(Rs os).length=os.length*5
 |[]=>rfl
 |o::os=>by show(RO o++Rs os).length=_;rw[Ah,Xr os];simp;omega
theorem fj(xs bs:List OwT):Rs (xs++bs)=Rs xs++Rs bs:=by
 induction xs with
 |nil=>rfl
 |cons a r ih=>show RO a++Rs (r++bs)=_;rw[ih];rfl
theorem Zo(ids:A4)(T i:Nat)(h:i<=T):(PW ids T i).length=T:=by simp[PW];omega
theorem nQ(ids:A4)(T i:Nat)(h:i<T):Da (toArray (Rs (PW ids T i))) (i*5) (RO (cA ids T i))=toArray (Rs (PW ids T (i+1))):=by
 have e1:PW ids T i=(List.range i).map (cA ids T)++(Wf::replicate (T-(i+1)) Wf):=by unfold PW;rw[show T-i=(T-(i+1))+1 by omega,BL]
 have e2:PW ids T (i+1)=(List.range i).map (cA ids T)++(cA ids T i::replicate (T-(i+1)) Wf):=by unfold PW;rw[CC,Aq,Am];rfl
 rw[e1,e2,fj,fj];have:=setFrom_mid (RO Wf) (RO (cA ids T i)) (Rs ((List.range i).map (cA ids T))) (Rs (replicate (T-(i+1)) Wf)) rfl;rw[Xr,A7,Fc] at this;exact this
def sH(F C T:Nat)(sh:Bool)(ids:A4)(sp:Ap)(b1 b5 b8 bo b gb cap i:Nat):Ac:=[NJ b8 (.slice (some ⟨gb,0,none⟩) (5*T+sh.toNat) cap),(gb,Obj.cells (toArray (ids.map CU++sp)) 3 (0,0)),qc b1 F C T sh,PV b5 b,(bo,Obj.cells (toArray (Rs (PW ids T i))) 202 (0,0))]
abbrev laF(T:Nat)(b1 b5 b8 bo:Nat):Fr:=[(1,pV b1),(5,pV b5),(7,.slice (some ⟨bo,0,none⟩) T T),(8,pV b8),(9,.int .i64 0)]
theorem Aff(hf:prog.funcs[66]?=some fn)(hc:fn.body=some c)(F C T:Nat)(sh:Bool)(DO:1<=T)(hT:T<=3)(ids:A4)(sp:Ap)(wj:ids.length=5*T+sh.toNat)(b1 b5 b8 bo b gb cap:Nat)(Z:Ac)
 (k:C0 fn.ntmps E Q .normal (laF T b1 b5 b8 bo) ds (sH F C T sh ids sp b1 b5 b8 bo b gb cap T++Z)):BR prog none fn.ntmps E (hed (aft 7 c)) Q (laF T b1 b5 b8 bo) ds (sH F C T sh ids sp b1 b5 b8 bo b gb cap 0++Z):=by
 obtain rfl:=AZ (hf.symm.trans func66);obtain rfl:=AZ hc;simp only[func66,ntmps66,aft,hed] at k⊢;have R9: ∀(x:Int) (m:Nat),x=m->m<ids.length->(toArray (ids.map CU++sp))[0+x.toNat*1]?=some (CU (ids.getD m 0)):=λx m hx hm=>by subst hx;rw[A0,Dr,BF,AE,AH (by rw[A7];exact hm),A6,List.getD,Al hm];rfl
 refine Aj ?_;refine CN (α:=Nat) (λi=>(56,.int .i64 T)::(57,.int .i64 i)::(55,.slice (some ⟨bo,0,none⟩) T T)::laF T b1 b5 b8 bo) (λi=>sH F C T sh ids sp b1 b5 b8 bo b gb cap i++Z)
  (λi=>i<=T) (λi=>T-i) 0 (Bp _) ⟨rfl,rfl,rfl,rfl,rfl,rfl,rfl,rfl,trivial⟩ .refl ?_
 intro i hi;have dA:sh.toNat<=1:=by cases sh<;>decide
 by_cases C9:i<T
 ·unfold sH;refine Aj ?_;have N7: ∀c,c∈[NJ b8 (.slice (some ⟨gb,0,none⟩) (5*T+sh.toNat) cap),(gb,Obj.cells (toArray (ids.map CU++sp)) 3 (0,0)),qc b1 F C T sh]->c∈NJ b8 (.slice (some ⟨gb,0,none⟩) (5*T+sh.toNat) cap)::(gb,Obj.cells (toArray (ids.map CU++sp)) 3 (0,0))::qc b1 F C T sh::PV b5 b::(bo,Obj.cells (toArray (Rs (PW ids T i))) 202 (0,0))::Z:=λc hc=>(@Ai _ c [_,_,_] _ hc)
  refine Cm [37] 38 ([NJ b8 (.slice (some ⟨gb,0,none⟩) (5*T+sh.toNat) cap),(gb,Obj.cells (toArray (ids.map CU++sp)) 3 (0,0)),qc b1 F C T sh]) ?_ (hR:=(N7));refine BM ?_;apply Eo
  ·exact DS (v:=CU (ids.getD (4*i) 0)) rfl (.tail _ (.head _)) (R9 _ (4*i) Af Af)
  ·rfl
  ·rfl
  ·rfl
  refine BM ?_;apply Eo
  ·exact DS (v:=CU (ids.getD (4*i+1) 0)) rfl (.tail _ (.head _)) (R9 _ (4*i+1) Af Af)
  ·rfl
  ·rfl
  ·rfl
  refine BM ?_;apply Eo
  ·exact DS (v:=CU (ids.getD (4*i+2) 0)) rfl (.tail _ (.head _)) (R9 _ (4*i+2) Af Af)
  ·rfl
  ·rfl
  ·rfl
  refine BM ?_;apply Eo
  ·exact DS (v:=CU (ids.getD (4*i+3) 0)) rfl (.tail _ (.head _)) (R9 _ (4*i+3) Af Af)
  ·rfl
  ·rfl
  ·rfl
  refine BM ?_;apply Eo
  ·exact DS (v:=CU (ids.getD (ids.length-T+i) 0)) rfl (.tail _ (.head _)) (R9 _ (ids.length-T+i) Af Af)
  ·rfl
  ·rfl
  ·rfl
  refine BM ?_;apply Oe
  ·exact EH (cs:=toArray (Rs (PW ids T i))) (T:=202) rfl rfl rfl (by simp[CU,Value.oneCell']) (.there (.there (.there (.there .here)))) (by have:=Xr (PW ids T i);rw[Zo _ _ _ hi] at this;simp only[Bv,Bu,Fe,this];omega)
  ·rfl
  ·rfl
  ·rintro _ _ ⟨_,rfl⟩;exact λc hc=>(@Ai _ c [_,_,_] _ hc)
  rintro _ _ ⟨rfl,rfl⟩;refine BM ?_;refine Aj ?_;refine BO (i+1) Af Af ⟨rfl,rfl,rfl,rfl,rfl,rfl,rfl,rfl,trivial⟩ (.of_perm (.of_eq ?_));show _=sH F C T sh ids sp b1 b5 b8 bo b gb cap (i+1)++Z;unfold sH;rw[<-nQ ids T i C9];simp only[A0,BF];rfl
 ·refine Aj ?_;obtain rfl:i=T:=by omega
  exact cC (fr':=laF i b1 b5 b8 bo) ⟨rfl,rfl,rfl,rfl,rfl,trivial⟩ .refl k
def Sh(R:RT)(os:List OwT):Nat->RT
 |0=>R
 |k+1=>Uu (Sh R os k) (os.getD k Wf) (decide ((k:Int)=0))
abbrev Wh(bo:Nat)(os:List OwT):Bd:=(bo,Obj.cells (toArray (Rs os)) 202 (0,0))
abbrev qd(T:Nat)(b1 b5 bo:Nat)(v9 v14:Value):Fr:=[(1,pV b1),(5,pV b5),(7,.slice (some ⟨bo,0,none⟩) T T),(9,v9),(14,v14)]
theorem Afg(hf:prog.funcs[66]?=some fn)(hc:fn.body=some c)(F C n:Nat)(R:RT)(b:Nat)(p:RP)(s:RL)(hR:IsRl F C n R p s)(hn:n<=800)(os:List OwT)(T:Nat)(NQ:os.length=T)(hT:T<=3)(b1 b5 bo:Nat)(v9:Value)(Z:Ac)
 (k: ∀s' X v cs,IsRl F C (n+8*T) (Sh R os T) p s'->OwnSl 3 1 v T ((os.map OwT.th).map CU) cs->C0 fn.ntmps E Q .normal (qd T b1 b5 bo v9 v) ds (PV b5 b::Wh bo os::(cs++CB b p s' (Sh R os T) (X++Z)))):
 BR prog none fn.ntmps E (hed (aft 10 c)) Q (qd T b1 b5 bo v9 (.slice none 0 0)) ds (PV b5 b::Wh bo os::CB b p s R Z):=by
 subst NQ;obtain rfl:=AZ (hf.symm.trans func66);obtain rfl:=AZ hc;simp only[func66,ntmps66,aft,hed] at k⊢;refine Aj ?_;refine CN (α:=Nat×RL×Ac×Value×Ac) (λx=>(106,.slice (some ⟨bo,0,none⟩) os.length os.length)::(107,.int .i64 (os.length:Nat))::(108,.int .i64 x.1)::qd os.length b1 b5 bo v9 x.2.2.2.1) (λx=>PV b5 b::Wh bo os::(x.2.2.2.2++CB b p x.2.1 (Sh R os x.1) (x.2.2.1++Z)))
  (λx=>x.1<=os.length/\IsRl F C (n+8*x.1) (Sh R os x.1) p x.2.1/\OwnSl 3 1 x.2.2.2.1 x.1 (((os.take x.1).map OwT.th).map CU) x.2.2.2.2) (λx=>os.length-x.1) (0,s,[],.slice none 0 0,[]) ⟨Bp _,hR,OwnSl.nil _ _⟩ ⟨rfl,rfl,rfl,rfl,rfl,rfl,rfl,rfl,trivial⟩ .refl ?_
 rintro⟨i,s,X,v,cs⟩ ⟨hi,hR,ho⟩;simp only at hi hR ho⊢;by_cases C9:i<os.length
 ·obtain⟨o,hio⟩: ∃o,os[i]?=some o:=⟨_,Al C9⟩
  obtain⟨x1,x2⟩:=SQ hio;refine Aj ?_;refine Bh (Dt rfl (.tail _ (.head _)) x1 x2) ?_;refine AQ λP4=>?_;refine Bs (l':=CB b p s (Sh R os i) (I8 P4 o::PV b5 b::Wh bo os::(cs++(X++Z)))) (by unfold CB;dsimp only[I8,RO];exact A8 []) ?_;refine AS (Az rfl rfl (nK F C (n+8*i) _ b p s hR Af o (decide ((i:Int)=0)) _)) ?_;rintro _ _ ⟨rfl,s1,X1,hR1,rfl⟩;have e1:Sh R os (i+1)=Uu (Sh R os i) o (decide ((i:Int)=0)):=by show Uu _ (os.getD i Wf) _=_;rw[List.getD,hio,Dx]
  have e2:os.take (i+1)=os.take i++[o]:=by rw[Ch,hio];rfl
  rw[<-e1] at hR1⊢;refine Bs (l':=I8 P4 o::PV b5 b::Wh bo os::(cs++CB b p s1 (Sh R os (i+1)) (X1++(X++Z)))) (by unfold CB;dsimp only[I8,RO];exact A8 []) ?_;refine Aj ?_;refine AS (Lj (v:=CU o.th) rfl rfl) ?_;rintro _ _ ⟨bl,_,rfl,rfl⟩;refine Bs (l':=cs++((bl,Obj.cells (toArray [CU o.th]) 3 (0,0))::I8 P4 o::PV b5 b::Wh bo os::CB b p s1 (Sh R os (i+1)) (X1++(X++Z)))) (A8 []) ?_;refine AS (GG (k:=1) (yb:=8) (n:=i) (xs:=((os.take i).map OwT.th).map CU) (news:=[CU o.th]) (zs:=[.int .i64 0]) (cs:=cs) rfl rfl rfl ho (Aa _ Ak) (λj u hj=>by simpa using hj) rfl (by simp[Value.oneCell',CU]) (by unfold maxLen;omega) Af) ?_;rintro v' _ ⟨cs',dv,rfl⟩;refine Aj ?_;refine BO (i+1,s1,(bl,Obj.cells (toArray [CU o.th]) 3 (0,0))::I8 P4 o::(X1++X),v',cs') ⟨Af,hR1,?_⟩ (by simp only;omega) ⟨rfl,rfl,rfl,rfl,rfl,rfl,rfl,rfl,trivial⟩ (by unfold CB;exact A8 []);rw[e2,Aq,Aq];exact dv
 ·refine Aj ?_;obtain rfl:i=os.length:=by omega
  rw[D8] at ho;exact cC (fr':=qd os.length b1 b5 bo v9 v) ⟨rfl,rfl,rfl,rfl,rfl,trivial⟩ .refl (k s X v cs hR ho)
def Uv(R:RT)(id:Int):RT:={R with T:=(Th.setD R.T {(Th.findH R.T id).getD Th.thZ with pr:=1}).2}
def qe(R:RT)(os:List OwT):Nat->RT
 |0=>R
 |k+1=>Ny (Uv (qe R os k) (os.getD k Wf).th) (os.getD k Wf).th
theorem Afh(hf:prog.funcs[66]?=some fn)(hc:fn.body=some c)(F C n:Nat)(R:RT)(b:Nat)(p:RP)(s:RL)(hR:IsRl F C n R p s)(hn:n<=800)(os:List OwT)(T:Nat)(NQ:os.length=T)(hT:T<=3)(b1 b5 bo:Nat)(v9 v14:Value)(Z:Ac)
 (k: ∀s' X,IsRl F C (n+T) (qe R os T) p s'->C0 fn.ntmps E Q .normal (qd T b1 b5 bo v9 v14) ds (PV b5 b::CB b p s' (qe R os T) (X++(Wh bo os::Z)))):
 BR prog none fn.ntmps E (hed (aft 12 c)) Q (qd T b1 b5 bo v9 v14) ds (PV b5 b::CB b p s R (Wh bo os::Z)):=by
 subst NQ;obtain rfl:=AZ (hf.symm.trans func66);obtain rfl:=AZ hc;simp only[func66,ntmps66,aft,hed] at k⊢;refine Aj ?_;refine CN (α:=Nat×RL×Ac) (λx=>(130,.slice (some ⟨bo,0,none⟩) os.length os.length)::(131,.int .i64 (os.length:Nat))::(132,.int .i64 x.1)::qd os.length b1 b5 bo v9 v14) (λx=>PV b5 b::CB b p x.2.1 (qe R os x.1) (x.2.2++(Wh bo os::Z)))
  (λx=>x.1<=os.length/\IsRl F C (n+x.1) (qe R os x.1) p x.2.1) (λx=>os.length-x.1) (0,s,[]) ⟨Bp _,hR⟩ ⟨rfl,rfl,rfl,rfl,rfl,rfl,rfl,rfl,trivial⟩ .refl ?_
 rintro⟨i,s,X⟩ ⟨hi,hR⟩;simp only at hi hR⊢;by_cases C9:i<os.length
 ·obtain⟨o,hio⟩: ∃o,os[i]?=some o:=⟨_,Al C9⟩
  obtain⟨x1,x2⟩:=SQ hio;have e1:qe R os (i+1)=Ny (Uv (qe R os i) o.th) o.th:=by show Ny (Uv _ (os.getD i Wf).th) (os.getD i Wf).th=_;rw[List.getD,hio,Dx]
  obtain⟨R1,hR1⟩: ∃R1,R1=qe R os i:=⟨_,rfl⟩
  rw[<-hR1] at hR e1⊢;refine Em (l':=Wh bo os::PV b5 b::CF b p::(s.T++(As.asA p.n R1.N::(s.M++(s.C++(s.A++(s.H++(s.Q++(s.E++(s.V++(X++Z))))))))))) (by unfold CB;exact A8 []) ?_;refine Aj ?_;refine Bh (Dt rfl (.head _) x1 x2) ?_;refine AQ λkJ=>?_;refine Em (l':=I8 kJ o::PV b5 b::CF b p::(s.T++(Wh bo os::(As.asA p.n R1.N::(s.M++(s.C++(s.A++(s.H++(s.Q++(s.E++(s.V++(X++Z)))))))))))) (by dsimp only[I8,RO];exact A8 []) ?_;have P6: ∀c,c∈I8 kJ o::PV b5 b::CF b p::s.T->c∈I8 kJ o::PV b5 b::CF b p::(s.T++(Wh bo os::(As.asA p.n R1.N::(s.M++(s.C++(s.A++(s.H++(s.Q++(s.E++(s.V++(X++Z))))))))))):=λc hc=> @Ai _ c (I8 kJ o::PV b5 b::CF b p::s.T) _ hc;refine Cm [8,9] 11 (I8 kJ o::PV b5 b::CF b p::s.T) ?_ (hR:=(P6));refine BM ?_;apply Eo
  ·exact AL rfl rfl (λl hl=>Nv b p l (hl _ (.tail _ (.tail _ (.head _)))))
  ·rfl
  ·rfl
  ·rfl
  refine BM ?_;apply Eo
  ·exact AL rfl rfl (λl hl=>Th.get_any p.t R1.T s.T hR.th o.th l (λc hc=>hl _ (.tail _ (.tail _ (.tail _ hc)))))
  ·rfl
  ·rfl
  ·rfl
  obtain⟨t,ht⟩: ∃t,t=(Th.findH R1.T o.th).getD Th.thZ:=⟨_,rfl⟩
  rw[<-ht];refine BM ?_;apply CM
  ·exact e_alloc
  ·rfl
  ·rfl
  ·rfl
  ·rintro _ _ ⟨b5,_,_,rfl⟩ c hc;exact .tail _ (P6 c hc)
  rintro _ _ ⟨uG,_,rfl,rfl⟩;apply Oe
  ·exact Vv (cs':=Th.encH t) rfl rfl rfl (by simp[Value.oneCell']) (.head _) (by repeat(first|apply LSetA.done|apply LSetA.put)) .here
  ·rfl
  ·rfl
  ·rintro _ _ ⟨_,rfl⟩ c hc;exact .tail _ (P6 c hc)
  rintro _ _ ⟨rfl,rfl⟩;refine BM ?_;refine Aj ?_;obtain⟨t1,ag⟩: ∃t1,t1={t with pr:=1}:=⟨_,rfl⟩
  have KF: ∀(lq:Ac) (c:Bd),c∈[Th.thC uG t1,PV b5 b,CF b p]->c∈lq++(Th.thC uG t1::PV b5 b::CF b p::(I8 kJ o::Wh bo os::As.asA p.n R1.N::(s.M++(s.C++(s.A++(s.H++(s.Q++(s.E++(s.V++(X++Z)))))))))):=λlq c hc=>Aa _ (@Ai _ c [_,_,_] _ hc);refine Em (l':=s.T++(Th.thC uG t1::PV b5 b::CF b p::(I8 kJ o::Wh bo os::As.asA p.n R1.N::(s.M++(s.C++(s.A++(s.H++(s.Q++(s.E++(s.V++(X++Z))))))))))) (by rw[ag];dsimp only[Th.thC,Th.encH];exact A8 []) ?_;refine Cm [3] 4 ([Th.thC uG t1,PV b5 b,CF b p]) ?_ (hR:=(KF _));refine BM ?_;apply Eo
  ·exact AL rfl rfl (λl hl=>Nv b p l (hl _ (.tail _ (.tail _ (.head _)))))
  ·rfl
  ·rfl
  ·rfl
  refine BM ?_;apply CM
  ·exact Az rfl rfl (Th.set_any p.t R1.T s.T hR.th t1 _)
  ·rfl
  ·rfl
  ·rfl
  ·rintro _ _ ⟨_,_,_,rfl⟩;exact KF _
  rintro _ _ ⟨rfl,lT,hT,rfl⟩;refine BM ?_;rw[ag,ht] at hT;have gB:IsRl F C (n+i) (Uv R1 o.th) p ⟨s.M,s.C,s.A,s.H,lT,s.Q,s.E,s.V⟩:=⟨hR.mem,hR.co,hR.ar,hR.an,hR.ho,hR.inv,hR.giv,hT,hR.qu,hR.ql,hR.en,hR.cu,hR.c1⟩
  refine Ky (l':=I8 kJ o::PV b5 b::CB b p ⟨s.M,s.C,s.A,s.H,lT,s.Q,s.E,s.V⟩ (Uv R1 o.th) (Wh bo os::Th.thC uG t1::(X++Z))) (by unfold CB;dsimp only[Uv];exact A8 []) ?_;refine Aj ?_;refine Bs (l':=CB b p ⟨s.M,s.C,s.A,s.H,lT,s.Q,s.E,s.V⟩ (Uv R1 o.th) (I8 kJ o::PV b5 b::Wh bo os::Th.thC uG t1::(X++Z))) (by unfold CB;exact A8 []) ?_;refine AS (Az rfl rfl (iT F C (n+i) _ b p _ gB Af o.th _)) ?_;rintro _ _ ⟨_,s1,X1,hR3,rfl⟩;rw[<-e1] at hR3⊢;refine Aj ?_;refine BO (i+1,s1,I8 kJ o::Th.thC uG t1::(X1++X)) ⟨Af,hR3⟩ (by simp only;omega) ⟨rfl,rfl,rfl,rfl,rfl,rfl,rfl,rfl,trivial⟩ (by unfold CB;exact A8 [])
 ·refine Aj ?_;obtain rfl:i=os.length:=by omega
  exact cC (fr':=qd os.length b1 b5 bo v9 v14) ⟨rfl,rfl,rfl,rfl,rfl,trivial⟩ .refl (k s X hR)
def fl(F T:Nat)(sh:Bool):A4:=(XQ F (Eu F T sh)).2
def Wi(F T:Nat)(sh:Bool):List OwT:=PW (fl F T sh) T T
def Wj(F T:Nat)(sh:Bool):Int:=if sh=true then(fl F T sh).getD (4*T) 0 else 0
def Uw(F T:Nat)(sh:Bool):RT:=Sh (XQ F (Eu F T sh)).1 (Wi F T sh) T
def RQ(F T:Nat)(sh:Bool):RT:=if sh=true then{Uw F T sh with H:=Rt (Uw F T sh).H (Wi F T sh) (Wj F T sh)} else Uw F T sh
def Lw(F T:Nat)(sh:Bool):RT:=qe (RQ F T sh) (Wi F T sh) T
theorem kz1(b:Nat)(p:RP)(s:RL)(R:RT)(c1 c2 c3 c4 c5:Bd)(X:Ac):Keep (c1::c2::c3::c4::c5::CB b p s R X) (c4::c5::CB b p s R (c1::c2::c3::X)):=by unfold CB;exact A8 []
theorem kz2(b:Nat)(p:RP)(s:RL)(R:RT)(c1 c2 c3 c4 c5:Bd)(A Y X:Ac):Keep (c4::c5::(A++CB b p s R (Y++c1::c2::c3::X))) (c3::c4::c5::(A++CB b p s R (Y++(c1::c2::X)))):=by unfold CB;exact A8 []
theorem kz3(b:Nat)(p:RP)(s:RL)(R:RT)(c1 c2 c3 c4 c5:Bd)(A Y X:Ac):Keep (c3::c4::c5::(A++CB b p s R (Y++(c1::c2::X)))) (c4::c5::(A++CB b p s R (Y++c1::c2::c3::X))):=by unfold CB;exact A8 []
theorem kz4(b:Nat)(p:RP)(s:RL)(R:RT)(c3 c4 c5:Bd)(A X:Ac):Keep (c3::c4::c5::(A++CB b p s R X)) (CB b p s R (c5::c4::c3::(A++X))):=by unfold CB;exact A8 []
theorem Afi(b:Nat)(p:RP)(s:RL)(R:RT)(c1 c2 c3 c4 c5:Bd)(A Y2 Y X:Ac):Keep (CB b p s R (Y2++(c5::c4::c3::(A++(Y++(c1::c2::X)))))) (c4::c5::(A++CB b p s R ((Y2++Y)++c1::c2::c3::X))):=by unfold CB;exact A8 []
theorem kz5(b:Nat)(p:RP)(s:RL)(R:RT)(c4 c5:Bd)(A X:Ac):Keep (c4::c5::(A++CB b p s R X)) (c4::CB b p s R (c5::(A++X))):=by unfold CB;exact A8 []
theorem kz6(b:Nat)(p:RP)(s:RL)(R:RT)(k m c1 c2 c3 c4 c5:Bd)(A W Y X G:Ac):Keep (k::c4::CB b p s R (W++c5::(A++(Y++(c1::c2::c3::(X++m::G)))))) ([m]++(k::(A++CB b p s R ((c4::c5::c1::c2::c3::(W++(Y++X)))++G)))):=by unfold CB;exact A8 []
theorem sI(F C T:Nat)(sh:Bool)(DO:1<=T)(hT:T<=3)(hC1:1<=C)(hC:C<=3)(hF:11*T<=F)(Ta:F<=64)(G:Ac):Fn prog 66 [.agg (toArray [.int .i64 F,.int .i64 C,.int .i64 T,.bool sh])] G λv l'=> ∃B b v14 p s X cs,v= .tuple #[pV B,v14,.int .i64 0]/\IsRl F C 60 (Lw F T sh) p s/\OwnSl 3 1 v14 T (((Wi F T sh).map OwT.th).map CU) cs/\l'=knC B b::(cs++CB b p s (Lw F T sh) (X++G)):=by
 have N8:NT F C T=true:=by simp[NT];omega
 refine AN func66 ntmps66 λE=>?_;refine Aj ?_;refine AS (CH rfl) ?_;rintro _ _ ⟨b1,_,rfl,rfl⟩;refine Aj ?_;refine Bh (AL rfl rfl (λl hl=>Zn F C T sh l)) ?_;rw[N8];refine Aj ?_;refine AS (Az rfl rfl (mL F C ⟨Af,Af⟩ ⟨Af,Af⟩ _)) ?_;rintro _ _ ⟨b,p,s0,X0,rfl,hR0,rfl⟩;refine AQ λb5=>?_;refine Bs (l':=PV b5 b::qc b1 F C T sh::CB b p s0 (Jp F) (X0++G)) (by unfold CB;dsimp only[PV,qc,pV];simp only[AM,AK];exact A8 []) ?_;refine Aj ?_;refine AS (Gg (n:=T) (kk:=5) (yb:=40) (zs:=RO Wf) (xs:=Rs (replicate T Wf)) rfl rfl Af Af AX (nP T)) ?_;rintro _ _ ⟨bo,_,rfl,rfl⟩;refine AQ λb8=>?_;refine AS (Dn rfl rfl (cy F C T sh _)) ?_;rintro _ _ ⟨B1,rfl,rfl⟩;refine Aj ?_;refine Yj (α:=Int×Int×Int) (ps:=[39]) (lb:=[pV B1]) rfl (Zm B1 F C T sh DO hT hF Ta) (λ_=>rfl) rfl (InL F C b p b8) (λ_ _ _=>False)
  (CB b p s0 (Jp F) (NJ b8 (.slice none 0 0)::([]++X0))) ((bo,Obj.cells (toArray (Rs (replicate T Wf))) 202 (0,0))::PV b5 b::qc b1 F C T sh::G) (λ_ _ _ _ _=>trivial) (by unfold CB;dsimp only[NJ,Vh];simp only[Ag,AM,AK];exact A8 []) ⟨s0,_,[],X0,hR0,OwnSl.nil _ _,rfl⟩ ?_ ?_ ?_
 ·rintro E r FU pre x l1 T' ⟨fn,tmps,D,rfl⟩ hTs ⟨s,v,cs,X,hR,ho,rfl⟩ Dw;have Eh:(pre++[x]).length<=25:=by
   have:=Dw.length_le;have h2:(Eu F T sh).length<=25:=by unfold Eu;rw[OO,QE];cases sh<;>simp<;>omega
   omega
  have Agj:pre.length+1<=25:=by simpa using Eh
  have kD:PV b5 b∈T':=hTs _ (.tail _ (.head _));simp only[DX];generalize hLO:Obj.loop _=LO;obtain⟨R,hRe⟩: ∃R,R=(XQ F pre).1:=⟨_,rfl⟩
  rw[<-hRe] at hR;rw[<-hRe];refine Em (l':=(r,LO)::(CB b p s R (NJ b8 v::(cs++X))++T')) (by unfold CB;exact A8 []) ?_;refine AQ λGd=>?_;subst hLO;refine CK (by exact DY) ?_;generalize hLO:Obj.loop _=LO;refine Aj ?_;refine Bh (DS (v:=pV b) rfl (.tail _ (.tail _ (Aa _ kD))) rfl) ?_;refine Aj ?_;refine Bs (l':=CB b p s R ((Gd,Obj.cells (toArray [.int .i64 x.1,.int .i64 x.2.1,.int .i64 x.2.2]) 198 (0,0))::(r,LO)::NJ b8 v::(cs++(X++T')))) (by unfold CB;exact A8 []) ?_;refine AS (Az rfl rfl (ni F C pre.length R b p s hR Af x.1 x.2.1 x.2.2 _)) ?_;rintro _ _ ⟨rfl,s1,X1,hR1,rfl⟩;refine Bs (l':=NJ b8 v::(cs++(CB b p s1 (JK R x.1 x.2.1 x.2.2).2 (X1++((Gd,Obj.cells (toArray [.int .i64 x.1,.int .i64 x.2.1,.int .i64 x.2.2]) 198 (0,0))::(r,LO)::(X++T')))))) (by unfold CB;exact A8 []) ?_;refine Aj ?_;refine AS (Lj (v:=CU (JK R x.1 x.2.1 x.2.2).1.1) rfl rfl) ?_;rintro _ _ ⟨bl,_,rfl,rfl⟩;refine Bs (l':=cs++((bl,Obj.cells (toArray [CU (JK R x.1 x.2.1 x.2.2).1.1]) 3 (0,0))::NJ b8 v::CB b p s1 (JK R x.1 x.2.1 x.2.2).2 (X1++((Gd,Obj.cells (toArray [.int .i64 x.1,.int .i64 x.2.1,.int .i64 x.2.2]) 198 (0,0))::(r,LO)::(X++T'))))) (A8 []) ?_;have ku:(XQ F pre).2.length=pre.length:=fh F pre;refine AS (GG (k:=1) (yb:=8) (n:=pre.length) (xs:=(XQ F pre).2.map CU) (news:=[CU (JK R x.1 x.2.1 x.2.2).1.1]) (zs:=[.int .i64 0]) (cs:=cs) rfl rfl rfl ho (Aa _ Ak) (λj u hj=>by simpa using hj) rfl (by simp[Value.oneCell',CU]) (by unfold maxLen;omega) Af) ?_;rintro v' _ ⟨cs',dv,rfl⟩;have Jz:v'.oneCell'=true:=dv.one;refine Bs (l':=NJ b8 v::(cs'++((bl,Obj.cells (toArray [CU (JK R x.1 x.2.1 x.2.2).1.1]) 3 (0,0))::CB b p s1 (JK R x.1 x.2.1 x.2.2).2 (X1++((Gd,Obj.cells (toArray [.int .i64 x.1,.int .i64 x.2.1,.int .i64 x.2.2]) 198 (0,0))::(r,LO)::(X++T')))))) (A8 []) ?_;apply M9
  ·exact GF rfl rfl Jz (by exact BW) .zero (by exact DY)
  ·rfl
  ·rfl
  rintro _ _ ⟨rfl,rfl⟩;refine Aj ?_;subst hLO;have e1:XQ F (pre++[x])=((JK R x.1 x.2.1 x.2.2).2,(XQ F pre).2++[(JK R x.1 x.2.1 x.2.2).1.1]):=by rw[nO,hRe];rfl
  refine Ci (CB b p s1 (XQ F (pre++[x])).1 (NJ b8 v'::(cs'++((bl,Obj.cells (toArray [CU (JK R x.1 x.2.1 x.2.2).1.1]) 3 (0,0))::(X1++((Gd,Obj.cells (toArray [.int .i64 x.1,.int .i64 x.2.1,.int .i64 x.2.2]) 198 (0,0))::X)))))) ?_ ⟨s1,v',cs',_,?_,?_,rfl⟩
  ·rw[e1];unfold CB;dsimp only[NJ];exact A8 []
  ·rw[e1,Ah];exact hR1
  ·rw[e1,Ah];simp only[Aq,AJ,CX];exact dv
 ·rintro D xs l PG ⟨s,v,cs,X,hR,ho,rfl⟩;subst PG;obtain⟨ids,hids⟩: ∃ids,ids=fl F T sh:=⟨_,rfl⟩
  have AaQ:(XQ F (Eu F T sh)).2=ids:=hids.symm;rw[AaQ] at ho;have Eh:(Eu F T sh).length=5*T+sh.toNat:=by unfold Eu;rw[OO,QE]
  have wj:ids.length=5*T+sh.toNat:=by rw[hids];unfold fl;rw[fh,Eh]
  have dA:sh.toNat<=1:=by cases sh<;>decide
  rw[Eh] at ho hR;rcases ho.2 with⟨_,h0,_⟩|⟨gb,cap,sp,rfl,rfl,_⟩
  ·omega
  obtain⟨R0,hR0⟩: ∃R0,R0=(XQ F (Eu F T sh)).1:=⟨_,rfl⟩
  rw[<-hR0] at hR⊢;refine Ky (l':=sH F C T sh ids sp b1 b5 b8 bo b gb cap 0++(CB b p s R0 (X++(Cr D::G)))) (by unfold sH CB;simp only[PW,List.range_zero,CX,Ag,Nat.sub_zero];exact A8 []) ?_;iterate 3 refine aJ ?_
  refine uO (fr':=laF T b1 b5 b8 bo) ⟨rfl,rfl,rfl,rfl,rfl,trivial⟩ (Aff func66 rfl F C T sh DO hT ids sp wj b1 b5 b8 bo b gb cap _ ?_);obtain⟨os,NQ⟩: ∃os,os=Wi F T sh:=⟨_,rfl⟩
  have Aef:PW ids T T=os:=by rw[NQ,hids];rfl
  have pW:os.length=T:=by rw[NQ];exact Zo _ _ _ (Bf _)
  refine Ob ?_;refine aE (α:=Unit) (λ_=>[(1,pV b1),(5,pV b5),(7,.slice (some ⟨bo,0,none⟩) T T),(9,.int .i64 (Wj F T sh))]) (λ_=>NJ b8 (.slice (some ⟨gb,0,none⟩) (5*T+sh.toNat) cap)::(gb,Obj.cells (toArray (ids.map CU++sp)) 3 (0,0))::qc b1 F C T sh::PV b5 b::Wh bo os::CB b p s R0 (X++(Cr D::G))) (λ_=>True) ?_ ?_
  ·unfold sH;rw[Aef];simp only[Ae,Ag];have R9: ∀(x:Int) (m:Nat),x=m->m<ids.length->(toArray (ids.map CU++sp))[0+x.toNat*1]?=some (CU (ids.getD m 0)):=λx m hx hm=>by
    subst hx;rw[A0,Dr,BF,AE,AH (by rw[A7];exact hm),A6,List.getD,Al hm];rfl
   cases sh with
   |false=>refine Aj ?_;exact Ep () trivial ⟨rfl,rfl,rfl,rfl,trivial⟩ .refl
   |true=>refine Aj ?_;refine Bh (DS (v:=CU (ids.getD (4*T) 0)) rfl (.tail _ (.head _)) (R9 (4*(T:Int)) (4*T) Af (by rw[wj];simp only[Ku];omega))) ?_;refine Aj ?_;rw[hids];exact Ep () trivial ⟨rfl,rfl,rfl,rfl,trivial⟩ .refl
  ·rintro _ _;iterate 6 refine aJ ?_
   refine uO (fr':=qd T b1 b5 bo (.int .i64 (Wj F T sh)) (.slice none 0 0)) ⟨rfl,rfl,rfl,rfl,rfl,trivial⟩ ?_;obtain⟨Z,hZ⟩: ∃Z,Z=NJ b8 (.slice (some ⟨gb,0,none⟩) (5*T+sh.toNat) cap)::(gb,Obj.cells (toArray (ids.map CU++sp)) 3 (0,0))::qc b1 F C T sh::(X++(Cr D::G)):=⟨_,rfl⟩
   refine Em (l':=PV b5 b::Wh bo os::CB b p s R0 Z) (by rw[hZ];exact kz1 ..) ?_;have hRT:Sh R0 os T=Uw F T sh:=by rw[hR0,NQ];rfl
   refine Afg func66 rfl F C _ R0 b p s hR Af os T pW hT b1 b5 bo _ _ ?_;intro s1 Y v14 ct hR ht;rw[hRT] at hR⊢;refine Ob ?_;refine aE (α:=RL×Ac) (λ_=>qd T b1 b5 bo (.int .i64 (Wj F T sh)) v14) (λx=>PV b5 b::Wh bo os::(ct++(CB b p x.1 (RQ F T sh) (x.2++Z)))) (λx=>IsRl F C 50 (RQ F T sh) p x.1) ?_ ?_
   ·rw[hZ];refine Em (kz2 ..) ?_;cases sh with
    |false=>
     have hB:RQ F T false=Uw F T false:=by unfold RQ;rw[Ab AX]
     rw[hB];refine Aj ?_;refine Ep (s1,Y) ?_ ⟨rfl,rfl,rfl,rfl,rfl,trivial⟩ (kz3 ..);exact hR.mono (by simp only[Mx];omega)
    |true=>
     have hB:RQ F T true={Uw F T true with H:=Rt (Uw F T true).H os (Wj F T true)}:=by unfold RQ;rw[Ad rfl,NQ]
     rw[hB];refine Aj ?_;have hs:=iS F C _ _ b p s1 hR Af os Af Af (Wj F T true) bo T 202 (0,0) (Wh bo os::PV b5 b::qc b1 F C T true::(ct++(Y++(NJ b8 (.slice (some ⟨gb,0,none⟩) (5*T+true.toNat) cap)::(gb,Obj.cells (toArray (ids.map CU++sp)) 3 (0,0))::(X++(Cr D::G)))))) (.head _);rw[pW] at hs;refine Bs (kz4 ..) ?_;refine AS (Az rfl rfl hs) ?_;rintro _ _ ⟨rfl,s2,Y2,gB,rfl⟩;refine Aj ?_;refine Ep (s2,Y2++Y) ?_ ⟨rfl,rfl,rfl,rfl,rfl,trivial⟩ (Afi ..);exact gB.mono (by simp only[Ku];omega)
   ·rintro⟨s2,Y2⟩ gB;simp only at gB⊢;iterate 1 refine aJ ?_
    have hBT:qe (RQ F T sh) os T=Lw F T sh:=by rw[NQ];rfl
    refine Em (kz5 ..) ?_;refine Afh func66 rfl F C _ _ b p s2 gB Af os T pW hT b1 b5 bo _ _ _ ?_;intro s3 W hR3;rw[hBT] at hR3⊢;rw[hZ];refine Aj ?_;refine AS (Az rfl rfl (nN b _)) ?_;rintro _ _ ⟨B,rfl,rfl⟩;refine Aj ?_;refine BE [D] rfl (kz6 ..) (by exact Ba) ⟨B,b,v14,p,s3,_,ct,rfl,hR3.mono Af,?_,rfl⟩;rw[<-NQ];exact ht
 ·intro D c pre l Dw hx;exact hx.elim
end Go.Proofs.YtlifcingifodfaaGreat
