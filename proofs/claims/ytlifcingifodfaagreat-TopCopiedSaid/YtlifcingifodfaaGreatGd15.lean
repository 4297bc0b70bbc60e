/- Laws. -/
import Derived.Test.YtlifcingifodfaaGreatGd14
set_option maxHeartbeats 4000000
set_option linter.all false
namespace Go.Proofs.YtlifcingifodfaaGreat
open Tryz
open List(replicate)
open List renaming toArray→τ
open Go.RowKit
set_option maxRecDepth 20000
theorem δ{A B:Ac}(h: ∀(f:Ac->Nat) (g:Bh->Nat),f []=0->(∀x l,f (x::l)=g x+f l)->(∀x y,f (x++y)=f x+f y)->f A=f B:=by intro f g h0 h1 h2;simp only[CZ,AK,h0,h1,h2,ι,υ,π];try omega):A.Perm B:=BV h
theorem γ{A B:Ac}(X:Ac)(h: ∀(f:Ac->Nat) (g:Bh->Nat),f []=0->(∀x l,f (x::l)=g x+f l)->(∀x y,f (x++y)=f x+f y)->f A=f (X++B):=by intro f g h0 h1 h2;simp only[CZ,AK,h0,h1,h2,ι,υ,π];try omega):Keep A B:=A9 X h
variable{F T m i k:Nat}{E:World}{Q:Exit->Act->World->Prop}{ds:List Deferred}{sh:Bool}{fn:Func}{c:Code}{L:List (Int×Int)}{x:Int×Int}{G:Ac}
def XW:Int->List (Int×Int)->List (Int×Int×Int)
 |_,[]=>[]
 |f,x::r=>(x.1,x.2,f)::XW (f+Ar.framesD x.1 x.2) r
def NK:Int->List (Int×Int)->Int
 |f,[]=>f
 |f,x::r=>NK (f+Ar.framesD x.1 x.2) r
theorem oF(a b:List (Int×Int)): ∀f,NK f (a++b)=NK (NK f a) b:=by
 induction a with
 |nil=>intro f;rfl
 |cons x r ih=>intro f;exact ih _
theorem O4: ∀(L:List (Int×Int)) (f:Int),(XW f L).length=L.length
 |[],_=>rfl
 |x::r,f=>by show(XW _ r).length+1=r.length+1;rw[O4 r]
theorem ZT: ∀(L:List (Int×Int)) (f:Int) (m:Nat),(XW f L)[m]?=L[m]?.map λx=>(x.1,x.2,NK f (L.take m))
 |[],_,m=>by simp[XW]
 |x::r,f,0=>rfl
 |x::r,f,m+1=>by show(XW (f+Ar.framesD x.1 x.2) r)[m]?=_;rw[ZT r];rfl
theorem jC(h:L[m]?=some x)(f:Int):NK f (L.take (m+1))=NK f (L.take m)+Ar.framesD x.1 x.2:=by rw[BP,h,oF];rfl
theorem jD(h:L[m]?=some x)(f:Int):(XW f L).take (m+1)=(XW f L).take m++[(x.1,x.2,NK f (L.take m))]:=by rw[BP,ZT,h];rfl
abbrev zg(x:Int×Int×Int):Value:= .agg (τ [ι x.1,ι x.2.1,ι x.2.2])
abbrev rc(B:Nat)(f:Int):Bh:=(B,.cells (τ [ι f]) 3 (0,0))
abbrev tS(B r:Nat):Bh:=(B,.cells (τ [.func (.yield r) #[] #[]]) 264 (0,0))
theorem oG(r:Nat)(k z f:Int)(hf:0<=f/\f<=1000000)(B3 B2:Nat)(l G:Ac)(J1 J2:Ac->Prop)(hy: ∀G2,(∀c,c∈G->c∈G2)->Ot prog r [zg (k,z,f)] (l++G2) (λv l'=> ∃l1,l'=l1++G2/\((v= .bool true/\J1 l1)\/(v= .bool false/\J2 l1)))):
 Fn prog 135 [ι k,ι z,pV B3,pV B2] (rc B3 f::tS B2 r::(l++G)) λv l'=> ∃l1 X bb,l'=rc B3 (f+Ar.framesD k z)::tS B2 r::(l1++(X++G))/\v= .bool bb/\((bb=true/\J1 l1)\/(bb=false/\J2 l1)):=by
 have qQ:=Ar.frames_rng k z;refine AO func135 ntmps135 λE=>?_;refine AR λb7=>?_;refine Ct [5] 6 ([]) ?_;refine BJ ?_;apply Gy (S:=[rc B3 f]);(·exact VE);(·exact Da ν);(·rfl);(·rfl);(·rfl);refine BJ ?_;apply EI
 ·exact AI rfl rfl (λl hl=>Ar.frames_any k z l)
 ·rfl
 ·rfl
 ·rfl
 refine BJ ?_;apply HL
 ·exact GM rfl rfl rfl Ca .zero D1
 (·rfl);(·rfl);(·intro _ _ _ c hc;cases hc);(·exact λ_ _ _ x hx ha=>Dk Bu hx ha)
 rintro _ _ ⟨rfl,rfl⟩;refine BJ ?_;refine Aj ?_;refine Bt (l':=l++((b7,.cells (τ [ι k,ι z,ι f]) 198 (0,0))::rc B3 (f+Ar.framesD k z)::tS B2 r::G)) (Keep.of_perm (AC [_,_,_] l G)) ?_;refine AP (C8 rfl rfl (hy _ λc hc=> .tail _ (.tail _ (.tail _ hc)))) ?_;rintro v _ ⟨l1,rfl,hJ⟩;obtain⟨bb,rfl,hK⟩: ∃bb,v= .bool bb/\((bb=true/\J1 l1)\/(bb=false/\J2 l1)):=by
  rcases hJ with⟨rfl,h⟩|⟨rfl,h⟩
  ·exact⟨true,rfl,.inl ⟨rfl,h⟩⟩
  ·exact⟨false,rfl,.inr ⟨rfl,h⟩⟩
 refine Aj ?_;refine Bc (l':=rc B3 (f+Ar.framesD k z)::tS B2 r::(l1++([(b7,.cells (τ [ι k,ι z,ι f]) 198 (0,0))]++G))) (γ []) ?_;exact⟨l1,_,bb,rfl,rfl,hK⟩
def kW(T:Nat)(sh:Bool):List (Int×Int):=(replicate T [(9,0),(2,4),(5,0),(6,0)]).flatten++(if sh then[(8,0)] else[])
def unt(F T:Nat)(sh:Bool):Int:=((F:Int)-NK 0 (kW T sh))/T
def dh(F T:Nat)(sh:Bool):List (Int×Int):=kW T sh++replicate T (1,unt F T sh)
def Ew(F T:Nat)(sh:Bool):List (Int×Int×Int):=XW 0 (dh F T sh)
def PH(F T:Nat)(sh:Bool)(m:Nat):Int:=NK 0 ((dh F T sh).take m)
abbrev VM(B F C T:Nat)(sh:Bool):Bh:=(B,.cells (τ [ι F,ι C,ι T,.bool sh]) 23 (0,0))
theorem ZU: ∀(L:List (Int×Int)) (f:Int),0<=f->0<=NK f L/\NK f L<=f+64*L.length
 |[],f,h=>by show 0<=f/\f<=f+64*0;omega
 |x::r,f,h=>by have h1:=Ar.frames_rng x.1 x.2;have h2:=ZU r (f+Ar.framesD x.1 x.2) Af;show 0<=NK _ r/\NK _ r<=f+64*((r.length+1:Nat):Int);omega
theorem wP: ∀(T i j:Nat),i<T->j<4->((replicate T [((9:Int),(0:Int)),(2,4),(5,0),(6,0)]).flatten)[4*i+j]?=[((9:Int),(0:Int)),(2,4),(5,0),(6,0)][j]?
 |0,i,j,h,_=>by omega
 |T+1,0,j,_,hj=>by rw[BN,CA,Nat.mul_zero,BG,AH (by simpa using hj)]
 |T+1,i+1,j,h,hj=>by rw[BN,CA,show 4*(i+1)+j=(4*i+j)+4 by omega,AW (by simp)];exact wP T i j Af hj
theorem Px(T:Nat):((replicate T [((9:Int),(0:Int)),(2,4),(5,0),(6,0)]).flatten).length=4*T:=by
 induction T with
 |zero=>rfl
 |succ T ih=>rw[BN,CA,Ah,ih];simp;omega
theorem Py(T:Nat)(sh:Bool):(kW T sh).length=4*T+sh.toNat:=by unfold kW;rw[Ah,Px];cases sh<;>rfl
theorem Ra(F T:Nat)(sh:Bool):(dh F T sh).length=5*T+sh.toNat:=by unfold dh;rw[Ah,Py,JO];omega
theorem Tj{j:Nat}(hi:i<T)(hj:j<4):(dh F T sh)[4*i+j]?=[((9:Int),(0:Int)),(2,4),(5,0),(6,0)][j]?:=by unfold dh;rw[AH (by rw[Py];omega)];unfold kW;rw[AH (by rw[Px];omega)];exact wP T i j hi hj
theorem zh:(dh F T true)[4*T]?=some (8,0):=by unfold dh;rw[AH (by rw[Py];simp)];unfold kW;rw[AW (by rw[Px];omega),Px,Dx];rfl
theorem oH(hi:i<T):(dh F T sh)[4*T+sh.toNat+i]?=some (1,unt F T sh):=by unfold dh;rw[AW (by rw[Py];omega),Py,CN,EE,Ad hi]
theorem gi(F T:Nat)(sh:Bool):(dh F T sh).take (4*T+sh.toNat)=kW T sh:=by unfold dh;rw[<-Py,List.take_left]
theorem K5{L1 G':Ac}(h:Keep G G'):Keep (L1++G) (L1++G'):=by obtain⟨X,hX⟩:=h;exact⟨X,(hX.append_left L1).trans (AC L1 X G')⟩
theorem UN(hT:T<=3){k z:Int}(hm:(dh F T sh)[m]?=some (k,z)){r:Nat}{I Ix:List (Int×Int×Int)->Ac->Prop}{G0:Ac}
 (hY: ∀pre x l G,(∀c,c∈G0->c∈G)->I pre l->pre++[x]<+:Ew F T sh->Ot prog r [zg x] (l++G) (λv l'=> ∃l1,l'=l1++G/\((v= .bool true/\I (pre++[x]) l1)\/(v= .bool false/\Ix (pre++[x]) l1))))
 {l:Ac}(hG: ∀c,c∈G0->c∈G)(hI:I ((Ew F T sh).take m) l)(B3 B2:Nat):
 Fn prog 135 [ι k,ι z,pV B3,pV B2] (rc B3 (PH F T sh m)::tS B2 r::(l++G)) λv l'=> ∃l1 X bb,l'=rc B3 (PH F T sh (m+1))::tS B2 r::(l1++(X++G))/\v= .bool bb/\((bb=true/\I ((Ew F T sh).take (m+1)) l1)\/(bb=false/\Ix ((Ew F T sh).take (m+1)) l1)):=by
 have e1:(Ew F T sh).take (m+1)=(Ew F T sh).take m++[(k,z,PH F T sh m)]:=jD hm 0;have e2:PH F T sh (m+1)=PH F T sh m+Ar.framesD k z:=jC hm 0;rw[e1,e2];have hb:0<=PH F T sh m/\PH F T sh m<=1000000:=by
  have h1:=ZU ((dh F T sh).take m) 0 (Int.le_refl 0);have h2:((dh F T sh).take m).length<=16:=by
   rw[C4,Ra];have:sh.toNat<=1:=by cases sh<;>decide
   omega
  unfold PH;omega
 exact oG r k z _ hb B3 B2 l G _ _ λG2 hG2=>hY _ (k,z,PH F T sh m) l G2 (λc hc=>hG2 c (hG c hc)) hI (by rw[<-e1];exact BL _ _)
theorem di(F C T:Nat)(sh:Bool)(l:Ac):Fn prog 90 [.agg (τ [ι F,ι C,ι T,.bool sh])] l λv l'=> ∃B1,v= .func (.func 134) #[] #[pV B1]/\l'=VM B1 F C T sh::l:=by refine AO func90 ntmps90 λE=>?_;refine Aj ?_;refine AP (Cw rfl) ?_;rintro _ _ ⟨B1,_,rfl,rfl⟩;refine Aj ?_;exact Bc .refl ⟨B1,rfl,rfl⟩
theorem ZW(B1 F C T:Nat)(sh:Bool)(DO:1<=T)(hT:T<=3)(hF:11*T<=F)(Rz:F<=64):wp prog 134 [pV B1] (λx=>[zg x]) (λxs=>xs=Ew F T sh) (λpre=>pre<+:Ew F T sh) (λ_ _=>True) [VM B1 F C T sh]:=by
 refine⟨λr I Ix G0 Cf hY l G hG h0=>?_⟩;refine AO func134 ntmps134 λE=>?_;refine Aj ?_;refine AP (EA rfl rfl) ?_;rintro _ _ ⟨B2,_,rfl,rfl⟩;refine Aj ?_;refine AP e_alloc ?_;rintro _ _ ⟨B3,_,rfl,rfl⟩;have rJ:VM B1 F C T sh∈l++([VM B1 F C T sh]++G):=Aa _ (.head _);refine Aj ?_;refine CF (α:=Nat×Ac×Ac) (λx=>[(1,pV B1),(3,pV B3),(4,.func (.func 135) #[] #[pV B3,pV B2]),(8,ι T),(9,ι x.1)]) (λx=>rc B3 (PH F T sh (4*x.1))::tS B2 r::(x.2.1++(x.2.2++(VM B1 F C T sh::G)))) (λx=>x.1<=T/\I ((Ew F T sh).take (4*x.1)) x.2.1) (λx=>T-x.1) (0,l,[]) ⟨Bm _,h0⟩ ⟨rfl,rfl,rfl,rfl,rfl,trivial⟩ .refl ?_;rintro⟨i,l0,X0⟩ ⟨hi,hI0⟩;simp only at hi hI0⊢;have rJ:VM B1 F C T sh∈l0++(X0++(VM B1 F C T sh::G)):=Aa _ (Aa _ (.head _));by_cases C7:i<T
 ·refine Aj ?_;refine AP (Dr rfl rfl (UN (F:=F) (sh:=sh) hT (m:=4*i+0) (Tj C7 A0) hY (G:=X0++(VM B1 F C T sh::G)) (λc hc=>Aa _ ((.tail _ (hG c hc)))) hI0 B3 B2)) ?_;rintro _ _ ⟨l1,X1,bb,rfl,rfl,hbb⟩;rcases hbb.symm with⟨rfl,hx⟩|⟨rfl,Yq⟩
  ·refine Aj ?_;exact Bc (l':=l1++G) (.drop (.drop (K5 (Keep.dropL X1 (Keep.dropL X0 (ζ)))))) ⟨l1,rfl,.inr ⟨_,BL _ _,hx⟩⟩
  refine Aj ?_;refine IE (Dr rfl rfl (UN (F:=F) (sh:=sh) hT (m:=4*i+1) (Tj C7 A0) hY (G:=X1++(X0++(VM B1 F C T sh::G))) (λc hc=>Aa _ (Aa _ ((.tail _ (hG c hc))))) Yq B3 B2)) rfl rfl rfl ?_;rintro _ _ ⟨l2,X2,bb,rfl,rfl,hbb⟩;rcases hbb.symm with⟨rfl,hx⟩|⟨rfl,N7⟩
  ·refine Aj ?_;exact Bc (l':=l2++G) (.drop (.drop (K5 (Keep.dropL X2 (Keep.dropL X1 (Keep.dropL X0 (ζ))))))) ⟨l2,rfl,.inr ⟨_,BL _ _,hx⟩⟩
  refine Aj ?_;refine IE (Dr rfl rfl (UN (F:=F) (sh:=sh) hT (m:=4*i+2) (Tj C7 A0) hY (G:=X2++(X1++(X0++(VM B1 F C T sh::G)))) (λc hc=>Aa _ (Aa _ (Aa _ ((.tail _ (hG c hc)))))) N7 B3 B2)) rfl rfl rfl ?_;rintro _ _ ⟨l3,X3,bb,rfl,rfl,hbb⟩;rcases hbb.symm with⟨rfl,hx⟩|⟨rfl,aV⟩
  ·refine Aj ?_;exact Bc (l':=l3++G) (.drop (.drop (K5 (Keep.dropL X3 (Keep.dropL X2 (Keep.dropL X1 (Keep.dropL X0 (ζ)))))))) ⟨l3,rfl,.inr ⟨_,BL _ _,hx⟩⟩
  refine Aj ?_;refine IE (Dr rfl rfl (UN (F:=F) (sh:=sh) hT (m:=4*i+3) (Tj C7 A0) hY (G:=X3++(X2++(X1++(X0++(VM B1 F C T sh::G))))) (λc hc=>Aa _ (Aa _ (Aa _ (Aa _ ((.tail _ (hG c hc))))))) aV B3 B2)) rfl rfl rfl ?_;rintro _ _ ⟨l4,X4,bb,rfl,rfl,hbb⟩;rcases hbb.symm with⟨rfl,hx⟩|⟨rfl,yj⟩
  ·refine Aj ?_;exact Bc (l':=l4++G) (.drop (.drop (K5 (Keep.dropL X4 (Keep.dropL X3 (Keep.dropL X2 (Keep.dropL X1 (Keep.dropL X0 (ζ))))))))) ⟨l4,rfl,.inr ⟨_,BL _ _,hx⟩⟩
  refine Aj ?_;exact BZ (i+1,l4,X4++(X3++(X2++(X1++X0)))) ⟨by simp only;omega,yj⟩ (by simp only;omega) ⟨rfl,rfl,rfl,rfl,rfl,trivial⟩ (by simp only[Am];exact .refl)
 ·obtain rfl:i=T:=by omega
  have hv:NK 0 (kW i sh)=7*i+sh.toNat:=by
   have h3:i=1\/i=2\/i=3:=by omega
   rcases h3 with rfl|rfl|rfl<;>cases sh<;>rfl
  cases sh with
  |true=>
   have hv:NK 0 (kW i true)=7*i+1:=hv;refine Aj ?_;refine IE (Dr rfl rfl (UN (F:=F) (sh:=true) hT (m:=4*i) zh hY (G:=X0++(VM B1 F C i true::G)) (λc hc=>Aa _ ((.tail _ (hG c hc)))) hI0 B3 B2)) rfl rfl rfl ?_;rintro _ _ ⟨l1,X1,bb,rfl,rfl,hbb⟩;rcases hbb.symm with⟨rfl,hx⟩|⟨rfl,Yq⟩
   ·refine Aj ?_;exact Bc (l':=l1++G) (.drop (.drop (K5 (Keep.dropL X1 (Keep.dropL X0 (ζ)))))) ⟨l1,rfl,.inr ⟨_,BL _ _,hx⟩⟩
   refine Aj ?_;have hfe:PH F i true (4*i+1)=NK 0 (kW i true):=by rw[<-gi F i true];rfl
   have hu:((F:Int)-PH F i true (4*i+1))/i=unt F i true:=by rw[hfe];rfl
   have hmd:VM B1 F C i true∈l1++(X1++(X0++(VM B1 F C i true::G))):=Aa _ (Aa _ (Aa _ (.head _)));refine Aj ?_;rw[hu];refine Aj ?_;refine CF (α:=Nat×Ac×Ac) (λx=>[(4,.func (.func 135) #[] #[pV B3,pV B2]),(5,ι (unt F i true)),(45,ι i),(46,ι x.1)]) (λx=>rc B3 (PH F i true ((4*i+1)+x.1))::tS B2 r::(x.2.1++(x.2.2++(VM B1 F C i true::G)))) (λx=>x.1<=i/\I ((Ew F i true).take ((4*i+1)+x.1)) x.2.1) (λx=>i-x.1) (0,l1,X1++X0) ⟨Bm _,Yq⟩ ⟨rfl,rfl,rfl,rfl,trivial⟩ (by simp only[Am];exact .refl) ?_;rintro⟨j,l7,X7⟩ ⟨hj,YE⟩;simp only at hj YE⊢;by_cases yk:j<i
   ·refine Aj ?_;refine AP (Dr rfl rfl (UN (F:=F) (sh:=true) hT (m:=(4*i+1)+j) (oH (sh:=true) yk) hY (G:=X7++(VM B1 F C i true::G)) (λc hc=>Aa _ (.tail _ (hG c hc))) YE B3 B2)) ?_;rintro _ _ ⟨l8,X8,bb,rfl,rfl,hbb⟩;rcases hbb.symm with⟨rfl,hx⟩|⟨rfl,yl⟩
    ·refine Aj ?_;exact Bc (l':=l8++G) (.drop (.drop (K5 (Keep.dropL X8 (Keep.dropL X7 (ζ)))))) ⟨l8,rfl,.inr ⟨_,BL _ _,hx⟩⟩
    refine Aj ?_;exact BZ (j+1,l8,X8++X7) ⟨by simp only;omega,yl⟩ (by simp only;omega) ⟨rfl,rfl,rfl,rfl,trivial⟩ (by simp only[Am];exact .refl)
   ·obtain rfl:j=i:=by omega
    have GK:(Ew F j true).take ((4*j+1)+j)=Ew F j true:=BD (by unfold Ew;rw[O4,Ra];simp only[KE,MJ];omega);rw[GK] at YE;refine Aj ?_;exact Bc (l':=l7++G) (.drop (.drop (K5 (Keep.dropL X7 ζ)))) ⟨l7,rfl,.inl ⟨_,rfl,YE⟩⟩
  |false=>
   have hv:NK 0 (kW i false)=7*i:=by simpa using hv
   have hfe:PH F i false (4*i)=NK 0 (kW i false):=by rw[<-gi F i false];rfl
   have hu:((F:Int)-PH F i false (4*i))/i=unt F i false:=by rw[hfe];rfl
   have hmd:VM B1 F C i false∈l0++(X0++(VM B1 F C i false::G)):=Aa _ (Aa _ (.head _));refine Aj ?_;rw[hu];refine Aj ?_;refine CF (α:=Nat×Ac×Ac) (λx=>[(4,.func (.func 135) #[] #[pV B3,pV B2]),(5,ι (unt F i false)),(45,ι i),(46,ι x.1)]) (λx=>rc B3 (PH F i false ((4*i)+x.1))::tS B2 r::(x.2.1++(x.2.2++(VM B1 F C i false::G)))) (λx=>x.1<=i/\I ((Ew F i false).take ((4*i)+x.1)) x.2.1) (λx=>i-x.1) (0,l0,X0) ⟨Bm _,hI0⟩ ⟨rfl,rfl,rfl,rfl,trivial⟩ (by simp only[Am];exact .refl) ?_;rintro⟨j,l7,X7⟩ ⟨hj,YE⟩;simp only at hj YE⊢;by_cases yk:j<i
   ·refine Aj ?_;refine AP (Dr rfl rfl (UN (F:=F) (sh:=false) hT (m:=(4*i)+j) (oH (sh:=false) yk) hY (G:=X7++(VM B1 F C i false::G)) (λc hc=>Aa _ (.tail _ (hG c hc))) YE B3 B2)) ?_;rintro _ _ ⟨l8,X8,bb,rfl,rfl,hbb⟩;rcases hbb.symm with⟨rfl,hx⟩|⟨rfl,yl⟩
    ·refine Aj ?_;exact Bc (l':=l8++G) (.drop (.drop (K5 (Keep.dropL X8 (Keep.dropL X7 (ζ)))))) ⟨l8,rfl,.inr ⟨_,BL _ _,hx⟩⟩
    refine Aj ?_;exact BZ (j+1,l8,X8++X7) ⟨by simp only;omega,yl⟩ (by simp only;omega) ⟨rfl,rfl,rfl,rfl,trivial⟩ (by simp only[Am];exact .refl)
   ·obtain rfl:j=i:=by omega
    have GK:(Ew F j false).take ((4*j)+j)=Ew F j false:=BD (by unfold Ew;rw[O4,Ra];simp only[KE,MJ];omega);rw[GK] at YE;refine Aj ?_;exact Bc (l':=l7++G) (.drop (.drop (K5 (Keep.dropL X7 ζ)))) ⟨l7,rfl,.inl ⟨_,rfl,YE⟩⟩
structure OwT where
 th:Int
 nd:Int
 rt:Int
 pl:Int
 un:Int
abbrev Sh(o:OwT):Ap:=[ι o.th,ι o.nd,ι o.rt,ι o.pl,ι o.un]
abbrev Jh(B:Nat)(o:OwT):Bh:=(B,.cells (τ (Sh o)) 202 (0,0))
abbrev JF(k o b:Int):CapT:=⟨k,o,0,0,0,b,0,0⟩
theorem LB(k o b:Int):JA (JF k o b):=⟨Int.le_refl 0,by show(0:Int)<=9223372036854775807;decide⟩
def oI(H:HS)(o:OwT)(first:Bool):HS:=
 let H1:=(GD H (o.nd,1) (JF 2 o.nd 8)).2
 let H2:=(GD H1 (o.nd,2) (JF 9 o.th 0)).2
 let H3:=(GD H2 (o.nd,3) (JF 1 o.un 0)).2
 let H4:=(GD H3 (o.nd,4) (JF 5 o.rt 0)).2
 let H5:=if first then(GD H4 (o.nd,5) (JF 7 0 0)).2 else H4
 let H6:=(GD H5 (o.nd,6) (JF 6 o.pl 0)).2
 let H7:=(F7 H6 (o.nd,1) (o.th,0) (Ea (Dv H6.1 (o.nd,1)) 7)).2
 (F7 H7 (o.nd,4) (o.th,1) (Ea (Dv H7.1 (o.nd,4)) 7)).2
def UO(R:RT)(o:OwT)(first:Bool):RT:={R with H:=oI R.H o first,N:=(As.assignP (As.addP R.N o.pl).2.2 o.pl o.rt).2.2.2}
theorem G9(o:OwT)(B:Nat)(i:Int)(l:Ac)(hm:Jh B o∈l):Fn prog 142 [ι i,pV B] l λv l'=>v= .agg (τ (Cd (o.nd,i)))/\l'=l:=by refine AO func142 ntmps142 λE=>?_;refine AR λb3=>?_;exact AU [] ((b3,.cells (τ (Cd (o.nd,i))) 61 (0,0))::l) rfl (l':=l) AY Ba AY ⟨rfl,rfl⟩
theorem Tk(s:As.ASt)(o:Int)(n:Nat):(As.addP s o).2.2.given n=s.given n:=by
 unfold As.addP
 repeat' split
 all_goals rfl
theorem gj{s:As.ASt}(h: ∀n,n<32->0<=s.given n/\s.given n<=k)(o r:Int): ∀n,n<32->0<=(As.assignP s o r).2.2.2.given n/\(As.assignP s o r).2.2.2.given n<=(k+1:Nat):=by
 intro n hn;have h0:=h n hn;unfold As.assignP
 repeat' split
 all_goals first
  |(simp only;omega)
  |(simp only[As.ASt.give]
    unfold As.upd
    split<;>first|omega|(rename_i e;rw[<-e];omega))
theorem oJ(F C n:Nat)(R:RT)(b:Nat)(p:RP)(s:RL)(hR:IsRl F C n R p s)(hn:n<=900)(o:OwT)(first:Bool)(G:Ac):Fn prog 92 [pV b,.agg (τ (Sh o)),.bool first] (CD b p s R G) λv l'=>
 v= .tuple #[]/\ ∃s' X,IsRl F C (n+8) (UO R o first) p s'/\l'=CD b p s' (UO R o first) (X++G):=by
 refine AO func92 ntmps92 λE=>?_;unfold CD;refine Aj ?_;refine AP (Cw rfl) ?_;rintro _ _ ⟨b4,_,rfl,rfl⟩;refine Aj ?_;have F8: ∀(lq:Ac) (c:Bh),c∈[CH b p,Jh b4 o]->c∈lq++(Jh b4 o::CH b p::As.asA p.n R.N::(s.M++(s.C++(s.A++(s.T++(s.Q++(s.E++(s.V++G)))))))):=λlq c hc=>by
  rcases Au.1 hc with rfl|hc
  ·exact Aa _ ν
  ·rw[Ay.1 hc];exact Aa _ (.head _)
 cases first with
 |true=>
  refine Eh (l':=s.H++(Jh b4 o::CH b p::As.asA p.n R.N::(s.M++(s.C++(s.A++(s.T++(s.Q++(s.E++(s.V++G))))))))) (by dsimp only[Jh,Sh];exact γ []) ?_;refine Ct [7] 8 ([CH b p,Jh b4 o]) ?_ (hR:=(F8 _));refine BJ ?_;apply EI
  ·exact AI rfl rfl (λl hl=>D4 b p l (hl _ (.head _)))
  ·rfl
  ·rfl
  ·rfl
  refine BJ ?_;apply EI
  ·exact FY rfl rfl (λl hl=>G9 o b4 1 l (hl _ ν))
  ·rfl
  ·rfl
  ·rfl
  refine BJ ?_;apply CX
  ·exact Az rfl rfl (Gi p.h R.H (n) (hR.inv) s.H hR.ho (o.nd,1) (JF 2 o.nd 8) _)
  ·rfl
  ·rfl
  ·rfl
  ·rintro _ _ ⟨_,_,_,rfl⟩;exact F8 _
  rintro _ _ ⟨rfl,lH1,hq1,rfl⟩;refine BJ ?_;refine Aj ?_;obtain⟨H1,hH1⟩: ∃x,x=(GD R.H (o.nd,1) (JF 2 o.nd 8)).2:=⟨_,rfl⟩
  have Yq:InvH H1 (n+1):=by rw[hH1];exact InvH.root (hR.inv) _ _ (LB _ _ _)
  rw[<-hH1] at hq1;refine Ct [7] 8 ([CH b p,Jh b4 o]) ?_ (hR:=(F8 _));refine BJ ?_;apply EI
  ·exact AI rfl rfl (λl hl=>D4 b p l (hl _ (.head _)))
  ·rfl
  ·rfl
  ·rfl
  refine BJ ?_;apply EI
  ·exact FY rfl rfl (λl hl=>G9 o b4 2 l (hl _ ν))
  ·rfl
  ·rfl
  ·rfl
  refine BJ ?_;apply CX
  ·exact Az rfl rfl (Gi p.h H1 (n+1) (Yq) lH1 hq1 (o.nd,2) (JF 9 o.th 0) _)
  ·rfl
  ·rfl
  ·rfl
  ·rintro _ _ ⟨_,_,_,rfl⟩;exact F8 _
  rintro _ _ ⟨rfl,lH2,hq2,rfl⟩;refine BJ ?_;refine Aj ?_;obtain⟨H2,hH2⟩: ∃x,x=(GD H1 (o.nd,2) (JF 9 o.th 0)).2:=⟨_,rfl⟩
  have N7:InvH H2 (n+1+1):=by rw[hH2];exact InvH.root (Yq) _ _ (LB _ _ _)
  rw[<-hH2] at hq2;refine Ct [7] 8 ([CH b p,Jh b4 o]) ?_ (hR:=(F8 _));refine BJ ?_;apply EI
  ·exact AI rfl rfl (λl hl=>D4 b p l (hl _ (.head _)))
  ·rfl
  ·rfl
  ·rfl
  refine BJ ?_;apply EI
  ·exact FY rfl rfl (λl hl=>G9 o b4 3 l (hl _ ν))
  ·rfl
  ·rfl
  ·rfl
  refine BJ ?_;apply CX
  ·exact Az rfl rfl (Gi p.h H2 (n+1+1) (N7) lH2 hq2 (o.nd,3) (JF 1 o.un 0) _)
  ·rfl
  ·rfl
  ·rfl
  ·rintro _ _ ⟨_,_,_,rfl⟩;exact F8 _
  rintro _ _ ⟨rfl,lH3,hq3,rfl⟩;refine BJ ?_;refine Aj ?_;obtain⟨H3,hH3⟩: ∃x,x=(GD H2 (o.nd,3) (JF 1 o.un 0)).2:=⟨_,rfl⟩
  have aV:InvH H3 (n+1+1+1):=by rw[hH3];exact InvH.root (N7) _ _ (LB _ _ _)
  rw[<-hH3] at hq3;refine Ct [7] 8 ([CH b p,Jh b4 o]) ?_ (hR:=(F8 _));refine BJ ?_;apply EI
  ·exact AI rfl rfl (λl hl=>D4 b p l (hl _ (.head _)))
  ·rfl
  ·rfl
  ·rfl
  refine BJ ?_;apply EI
  ·exact FY rfl rfl (λl hl=>G9 o b4 4 l (hl _ ν))
  ·rfl
  ·rfl
  ·rfl
  refine BJ ?_;apply CX
  ·exact Az rfl rfl (Gi p.h H3 (n+1+1+1) (aV) lH3 hq3 (o.nd,4) (JF 5 o.rt 0) _)
  ·rfl
  ·rfl
  ·rfl
  ·rintro _ _ ⟨_,_,_,rfl⟩;exact F8 _
  rintro _ _ ⟨rfl,lH4,hq4,rfl⟩;refine BJ ?_;refine Aj ?_;obtain⟨H4,hH4⟩: ∃x,x=(GD H3 (o.nd,4) (JF 5 o.rt 0)).2:=⟨_,rfl⟩
  have yj:InvH H4 (n+1+1+1+1):=by rw[hH4];exact InvH.root (aV) _ _ (LB _ _ _)
  rw[<-hH4] at hq4;refine Be (AI rfl rfl (λl hl=>D4 b p l (hl _ (F8 _ _ (.head _))))) ?_;refine Aj ?_;refine Be (FY rfl rfl (λl hl=>G9 o b4 5 l (hl _ (F8 _ _ ν)))) ?_;refine Aj ?_;refine AP (Az rfl rfl (Gi p.h H4 (n+1+1+1+1) (yj) lH4 hq4 (o.nd,5) (JF 7 0 0) _)) ?_;rintro _ _ ⟨rfl,lH5,hq5,rfl⟩;obtain⟨H5,hH5⟩: ∃x,x=(GD H4 (o.nd,5) (JF 7 0 0)).2:=⟨_,rfl⟩
  have hI5:InvH H5 (n+1+1+1+1+1):=by rw[hH5];exact InvH.root (yj) _ _ (LB _ _ _)
  rw[<-hH5] at hq5;refine Aj ?_;refine Ct [7] 8 ([CH b p,Jh b4 o]) ?_ (hR:=(F8 _));refine BJ ?_;apply EI
  ·exact AI rfl rfl (λl hl=>D4 b p l (hl _ (.head _)))
  ·rfl
  ·rfl
  ·rfl
  refine BJ ?_;apply EI
  ·exact FY rfl rfl (λl hl=>G9 o b4 6 l (hl _ ν))
  ·rfl
  ·rfl
  ·rfl
  refine BJ ?_;apply CX
  ·exact Az rfl rfl (Gi p.h H5 (n+1+1+1+1+1) (hI5) lH5 hq5 (o.nd,6) (JF 6 o.pl 0) _)
  ·rfl
  ·rfl
  ·rfl
  ·rintro _ _ ⟨_,_,_,rfl⟩;exact F8 _
  rintro _ _ ⟨rfl,lH6,hq6,rfl⟩;refine BJ ?_;refine Aj ?_;obtain⟨H6,hH6⟩: ∃x,x=(GD H5 (o.nd,6) (JF 6 o.pl 0)).2:=⟨_,rfl⟩
  have ym:InvH H6 (n+1+1+1+1+1+1):=by rw[hH6];exact InvH.root (hI5) _ _ (LB _ _ _)
  rw[<-hH6] at hq6;refine Ct [7] 8 ([CH b p,Jh b4 o]) ?_ (hR:=(F8 _));refine BJ ?_;apply EI
  ·exact AI rfl rfl (λl hl=>D4 b p l (hl _ (.head _)))
  ·rfl
  ·rfl
  ·rfl
  refine BJ ?_;apply EI
  ·exact FY rfl rfl (λl hl=>G9 o b4 1 l (hl _ ν))
  ·rfl
  ·rfl
  ·rfl
  refine BJ ?_;apply CX
  ·exact Az rfl rfl (M2 p.h H6 (n+1+1+1+1+1+1) (ym) Af lH6 hq6 (o.nd,1) (o.th,0) 7 _)
  ·rfl
  ·rfl
  ·rfl
  ·rintro _ _ ⟨_,_,_,rfl⟩;exact F8 _
  rintro _ _ ⟨rfl,lH7,hq7,rfl⟩;refine BJ ?_;refine Aj ?_;obtain⟨H7,hH7⟩: ∃x,x=(F7 H6 (o.nd,1) (o.th,0) (Ea (Dv H6.1 (o.nd,1)) 7)).2:=⟨_,rfl⟩
  have YE:InvH H7 (n+1+1+1+1+1+1+1):=by rw[hH7];exact InvH.der (ym) _ _ _ (Nw (ym.at _).2 _)
  rw[<-hH7] at hq7;refine Ct [7] 8 ([CH b p,Jh b4 o]) ?_ (hR:=(F8 _));refine BJ ?_;apply EI
  ·exact AI rfl rfl (λl hl=>D4 b p l (hl _ (.head _)))
  ·rfl
  ·rfl
  ·rfl
  refine BJ ?_;apply EI
  ·exact FY rfl rfl (λl hl=>G9 o b4 4 l (hl _ ν))
  ·rfl
  ·rfl
  ·rfl
  refine BJ ?_;apply CX
  ·exact Az rfl rfl (M2 p.h H7 (n+1+1+1+1+1+1+1) (YE) Af lH7 hq7 (o.nd,4) (o.th,1) 7 _)
  ·rfl
  ·rfl
  ·rfl
  ·rintro _ _ ⟨_,_,_,rfl⟩;exact F8 _
  rintro _ _ ⟨rfl,lH8,hq8,rfl⟩;refine BJ ?_;refine Aj ?_;obtain⟨H8,hH8⟩: ∃x,x=(F7 H7 (o.nd,4) (o.th,1) (Ea (Dv H7.1 (o.nd,4)) 7)).2:=⟨_,rfl⟩
  have yl:InvH H8 (n+1+1+1+1+1+1+1+1):=by rw[hH8];exact InvH.der (YE) _ _ _ (Nw (YE.at _).2 _)
  rw[<-hH8] at hq8;have On: ∀(N:As.ASt) (c:Bh),c∈[CH b p,Jh b4 o]->c∈As.asA p.n N::(lH8++(Jh b4 o::CH b p::(s.M++(s.C++(s.A++(s.T++(s.Q++(s.E++(s.V++G))))))))):=λN c hc=>by
   rcases Au.1 hc with rfl|hc
   ·exact .tail _ (Aa _ ν)
   ·rw[Ay.1 hc];exact .tail _ (Aa _ (.head _))
  refine Eh (l':=As.asA p.n R.N::(lH8++(Jh b4 o::CH b p::(s.M++(s.C++(s.A++(s.T++(s.Q++(s.E++(s.V++G)))))))))) (γ []) ?_;refine Ct [4] 5 ([CH b p,Jh b4 o]) ?_ (hR:=(On _));refine BJ ?_;apply EI
  ·exact AI rfl rfl (λl hl=>LA b p l (hl _ (.head _)))
  ·rfl
  ·rfl
  ·rfl
  refine BJ ?_;apply CX
  ·exact Az rfl rfl (As.addPool_any p.n R.N o.pl _)
  ·rfl
  ·rfl
  ·rfl
  ·rintro _ _ ⟨_,rfl⟩;exact On _
  rintro _ _ ⟨rfl,rfl⟩;refine BJ ?_;refine Aj ?_;refine Ct [6] 7 ([CH b p,Jh b4 o]) ?_ (hR:=(On _));refine BJ ?_;apply EI
  ·exact AI rfl rfl (λl hl=>LA b p l (hl _ (.head _)))
  ·rfl
  ·rfl
  ·rfl
  refine BJ ?_;apply CX
  ·exact Az rfl rfl (As.assign_any p.n (As.addP R.N o.pl).2.2 o.pl o.rt _ (λn hn=>by rw[Tk];have:=hR.giv n hn;omega))
  ·rfl
  ·rfl
  ·rfl
  ·rintro _ _ ⟨_,rfl⟩;exact On _
  rintro _ _ ⟨rfl,rfl⟩;refine BJ ?_;refine Aj ?_;refine Bc (l':=CD b p ⟨s.M,s.C,s.A,lH8,s.T,s.Q,s.E,s.V⟩ (UO R o true) ([Jh b4 o]++G)) (by unfold CD;dsimp only[UO];exact γ []) ⟨rfl,⟨s.M,s.C,s.A,lH8,s.T,s.Q,s.E,s.V⟩,[Jh b4 o],?_,rfl⟩;have hL:oI R.H o true=H8:=by simp only[oI,CV];rw[<-hH1,<-hH2,<-hH3,<-hH4,<-hH5,<-hH6,<-hH7,<-hH8]
  unfold UO;rw[hL];clear hH1 hH2 hH3 hH4 hH5 hH6 hH7 hH8;exact⟨hR.mem,hR.co,hR.ar,hR.an,hq8,yl.mono Af,λi hi=>by have:=gj (s:=(As.addP R.N o.pl).2.2) (k:=n) (λn hn=>by rw[Tk];exact hR.giv n hn) o.pl o.rt i hi;simp only;omega,hR.th,hR.qu,λj hj=>B9 (hR.ql j hj) Af,hR.en,hR.cu,hR.c1⟩
 |false=>
  refine Eh (l':=s.H++(Jh b4 o::CH b p::As.asA p.n R.N::(s.M++(s.C++(s.A++(s.T++(s.Q++(s.E++(s.V++G))))))))) (by dsimp only[Jh,Sh];exact γ []) ?_;refine Ct [7] 8 ([CH b p,Jh b4 o]) ?_ (hR:=(F8 _));refine BJ ?_;apply EI
  ·exact AI rfl rfl (λl hl=>D4 b p l (hl _ (.head _)))
  ·rfl
  ·rfl
  ·rfl
  refine BJ ?_;apply EI
  ·exact FY rfl rfl (λl hl=>G9 o b4 1 l (hl _ ν))
  ·rfl
  ·rfl
  ·rfl
  refine BJ ?_;apply CX
  ·exact Az rfl rfl (Gi p.h R.H (n) (hR.inv) s.H hR.ho (o.nd,1) (JF 2 o.nd 8) _)
  ·rfl
  ·rfl
  ·rfl
  ·rintro _ _ ⟨_,_,_,rfl⟩;exact F8 _
  rintro _ _ ⟨rfl,lH1,hq1,rfl⟩;refine BJ ?_;refine Aj ?_;obtain⟨H1,hH1⟩: ∃x,x=(GD R.H (o.nd,1) (JF 2 o.nd 8)).2:=⟨_,rfl⟩
  have Yq:InvH H1 (n+1):=by rw[hH1];exact InvH.root (hR.inv) _ _ (LB _ _ _)
  rw[<-hH1] at hq1;refine Ct [7] 8 ([CH b p,Jh b4 o]) ?_ (hR:=(F8 _));refine BJ ?_;apply EI
  ·exact AI rfl rfl (λl hl=>D4 b p l (hl _ (.head _)))
  ·rfl
  ·rfl
  ·rfl
  refine BJ ?_;apply EI
  ·exact FY rfl rfl (λl hl=>G9 o b4 2 l (hl _ ν))
  ·rfl
  ·rfl
  ·rfl
  refine BJ ?_;apply CX
  ·exact Az rfl rfl (Gi p.h H1 (n+1) (Yq) lH1 hq1 (o.nd,2) (JF 9 o.th 0) _)
  ·rfl
  ·rfl
  ·rfl
  ·rintro _ _ ⟨_,_,_,rfl⟩;exact F8 _
  rintro _ _ ⟨rfl,lH2,hq2,rfl⟩;refine BJ ?_;refine Aj ?_;obtain⟨H2,hH2⟩: ∃x,x=(GD H1 (o.nd,2) (JF 9 o.th 0)).2:=⟨_,rfl⟩
  have N7:InvH H2 (n+1+1):=by rw[hH2];exact InvH.root (Yq) _ _ (LB _ _ _)
  rw[<-hH2] at hq2;refine Ct [7] 8 ([CH b p,Jh b4 o]) ?_ (hR:=(F8 _));refine BJ ?_;apply EI
  ·exact AI rfl rfl (λl hl=>D4 b p l (hl _ (.head _)))
  ·rfl
  ·rfl
  ·rfl
  refine BJ ?_;apply EI
  ·exact FY rfl rfl (λl hl=>G9 o b4 3 l (hl _ ν))
  ·rfl
  ·rfl
  ·rfl
  refine BJ ?_;apply CX
  ·exact Az rfl rfl (Gi p.h H2 (n+1+1) (N7) lH2 hq2 (o.nd,3) (JF 1 o.un 0) _)
  ·rfl
  ·rfl
  ·rfl
  ·rintro _ _ ⟨_,_,_,rfl⟩;exact F8 _
  rintro _ _ ⟨rfl,lH3,hq3,rfl⟩;refine BJ ?_;refine Aj ?_;obtain⟨H3,hH3⟩: ∃x,x=(GD H2 (o.nd,3) (JF 1 o.un 0)).2:=⟨_,rfl⟩
  have aV:InvH H3 (n+1+1+1):=by rw[hH3];exact InvH.root (N7) _ _ (LB _ _ _)
  rw[<-hH3] at hq3;refine Ct [7] 8 ([CH b p,Jh b4 o]) ?_ (hR:=(F8 _));refine BJ ?_;apply EI
  ·exact AI rfl rfl (λl hl=>D4 b p l (hl _ (.head _)))
  ·rfl
  ·rfl
  ·rfl
  refine BJ ?_;apply EI
  ·exact FY rfl rfl (λl hl=>G9 o b4 4 l (hl _ ν))
  ·rfl
  ·rfl
  ·rfl
  refine BJ ?_;apply CX
  ·exact Az rfl rfl (Gi p.h H3 (n+1+1+1) (aV) lH3 hq3 (o.nd,4) (JF 5 o.rt 0) _)
  ·rfl
  ·rfl
  ·rfl
  ·rintro _ _ ⟨_,_,_,rfl⟩;exact F8 _
  rintro _ _ ⟨rfl,lH4,hq4,rfl⟩;refine BJ ?_;refine Aj ?_;obtain⟨H4,hH4⟩: ∃x,x=(GD H3 (o.nd,4) (JF 5 o.rt 0)).2:=⟨_,rfl⟩
  have yj:InvH H4 (n+1+1+1+1):=by rw[hH4];exact InvH.root (aV) _ _ (LB _ _ _)
  rw[<-hH4] at hq4;refine Ct [7] 8 ([CH b p,Jh b4 o]) ?_ (hR:=(F8 _));refine BJ ?_;apply EI
  ·exact AI rfl rfl (λl hl=>D4 b p l (hl _ (.head _)))
  ·rfl
  ·rfl
  ·rfl
  refine BJ ?_;apply EI
  ·exact FY rfl rfl (λl hl=>G9 o b4 6 l (hl _ ν))
  ·rfl
  ·rfl
  ·rfl
  refine BJ ?_;apply CX
  ·exact Az rfl rfl (Gi p.h H4 (n+1+1+1+1) (yj) lH4 hq4 (o.nd,6) (JF 6 o.pl 0) _)
  ·rfl
  ·rfl
  ·rfl
  ·rintro _ _ ⟨_,_,_,rfl⟩;exact F8 _
  rintro _ _ ⟨rfl,lH6,hq6,rfl⟩;refine BJ ?_;refine Aj ?_;obtain⟨H6,hH6⟩: ∃x,x=(GD H4 (o.nd,6) (JF 6 o.pl 0)).2:=⟨_,rfl⟩
  have ym:InvH H6 (n+1+1+1+1+1):=by rw[hH6];exact InvH.root (yj) _ _ (LB _ _ _)
  rw[<-hH6] at hq6;refine Ct [7] 8 ([CH b p,Jh b4 o]) ?_ (hR:=(F8 _));refine BJ ?_;apply EI
  ·exact AI rfl rfl (λl hl=>D4 b p l (hl _ (.head _)))
  ·rfl
  ·rfl
  ·rfl
  refine BJ ?_;apply EI
  ·exact FY rfl rfl (λl hl=>G9 o b4 1 l (hl _ ν))
  ·rfl
  ·rfl
  ·rfl
  refine BJ ?_;apply CX
  ·exact Az rfl rfl (M2 p.h H6 (n+1+1+1+1+1) (ym) Af lH6 hq6 (o.nd,1) (o.th,0) 7 _)
  ·rfl
  ·rfl
  ·rfl
  ·rintro _ _ ⟨_,_,_,rfl⟩;exact F8 _
  rintro _ _ ⟨rfl,lH7,hq7,rfl⟩;refine BJ ?_;refine Aj ?_;obtain⟨H7,hH7⟩: ∃x,x=(F7 H6 (o.nd,1) (o.th,0) (Ea (Dv H6.1 (o.nd,1)) 7)).2:=⟨_,rfl⟩
  have YE:InvH H7 (n+1+1+1+1+1+1):=by rw[hH7];exact InvH.der (ym) _ _ _ (Nw (ym.at _).2 _)
  rw[<-hH7] at hq7;refine Ct [7] 8 ([CH b p,Jh b4 o]) ?_ (hR:=(F8 _));refine BJ ?_;apply EI
  ·exact AI rfl rfl (λl hl=>D4 b p l (hl _ (.head _)))
  ·rfl
  ·rfl
  ·rfl
  refine BJ ?_;apply EI
  ·exact FY rfl rfl (λl hl=>G9 o b4 4 l (hl _ ν))
  ·rfl
  ·rfl
  ·rfl
  refine BJ ?_;apply CX
  ·exact Az rfl rfl (M2 p.h H7 (n+1+1+1+1+1+1) (YE) Af lH7 hq7 (o.nd,4) (o.th,1) 7 _)
  ·rfl
  ·rfl
  ·rfl
  ·rintro _ _ ⟨_,_,_,rfl⟩;exact F8 _
  rintro _ _ ⟨rfl,lH8,hq8,rfl⟩;refine BJ ?_;refine Aj ?_;obtain⟨H8,hH8⟩: ∃x,x=(F7 H7 (o.nd,4) (o.th,1) (Ea (Dv H7.1 (o.nd,4)) 7)).2:=⟨_,rfl⟩
  have yl:InvH H8 (n+1+1+1+1+1+1+1):=by rw[hH8];exact InvH.der (YE) _ _ _ (Nw (YE.at _).2 _)
  rw[<-hH8] at hq8;have On: ∀(N:As.ASt) (c:Bh),c∈[CH b p,Jh b4 o]->c∈As.asA p.n N::(lH8++(Jh b4 o::CH b p::(s.M++(s.C++(s.A++(s.T++(s.Q++(s.E++(s.V++G))))))))):=λN c hc=>by
   rcases Au.1 hc with rfl|hc
   ·exact .tail _ (Aa _ ν)
   ·rw[Ay.1 hc];exact .tail _ (Aa _ (.head _))
  refine Eh (l':=As.asA p.n R.N::(lH8++(Jh b4 o::CH b p::(s.M++(s.C++(s.A++(s.T++(s.Q++(s.E++(s.V++G)))))))))) (γ []) ?_;refine Ct [4] 5 ([CH b p,Jh b4 o]) ?_ (hR:=(On _));refine BJ ?_;apply EI
  ·exact AI rfl rfl (λl hl=>LA b p l (hl _ (.head _)))
  ·rfl
  ·rfl
  ·rfl
  refine BJ ?_;apply CX
  ·exact Az rfl rfl (As.addPool_any p.n R.N o.pl _)
  ·rfl
  ·rfl
  ·rfl
  ·rintro _ _ ⟨_,rfl⟩;exact On _
  rintro _ _ ⟨rfl,rfl⟩;refine BJ ?_;refine Aj ?_;refine Ct [6] 7 ([CH b p,Jh b4 o]) ?_ (hR:=(On _));refine BJ ?_;apply EI
  ·exact AI rfl rfl (λl hl=>LA b p l (hl _ (.head _)))
  ·rfl
  ·rfl
  ·rfl
  refine BJ ?_;apply CX
  ·exact Az rfl rfl (As.assign_any p.n (As.addP R.N o.pl).2.2 o.pl o.rt _ (λn hn=>by rw[Tk];have:=hR.giv n hn;omega))
  ·rfl
  ·rfl
  ·rfl
  ·rintro _ _ ⟨_,rfl⟩;exact On _
  rintro _ _ ⟨rfl,rfl⟩;refine BJ ?_;refine Aj ?_;refine Bc (l':=CD b p ⟨s.M,s.C,s.A,lH8,s.T,s.Q,s.E,s.V⟩ (UO R o false) ([Jh b4 o]++G)) (by unfold CD;dsimp only[UO];exact γ []) ⟨rfl,⟨s.M,s.C,s.A,lH8,s.T,s.Q,s.E,s.V⟩,[Jh b4 o],?_,rfl⟩;have hL:oI R.H o false=H8:=by simp only[oI,Bn,C0];rw[<-hH1,<-hH2,<-hH3,<-hH4,<-hH6,<-hH7,<-hH8]
  unfold UO;rw[hL];clear hH1 hH2 hH3 hH4 hH6 hH7 hH8;exact⟨hR.mem,hR.co,hR.ar,hR.an,hq8,yl.mono Af,λi hi=>by have:=gj (s:=(As.addP R.N o.pl).2.2) (k:=n) (λn hn=>by rw[Tk];exact hR.giv n hn) o.pl o.rt i hi;simp only;omega,hR.th,hR.qu,λj hj=>B9 (hR.ql j hj) Af,hR.en,hR.cu,hR.c1⟩
def RX:List OwT->Ap
 |[]=>[]
 |o::os=>Sh o++RX os
theorem Tl: ∀{os:List OwT} {i:Nat} {o:OwT},os[i]?=some o->i*5+5<=(τ (RX os)).size/\(τ (RX os)).extract (i*5) (i*5+5)=τ (Sh o)
 |[],i,o,h=>by cases h
 |a::os,0,o,h=>by obtain rfl:a=o:=AZ h;refine⟨by show 0*5+5<=(Sh a++RX os).length;simp[Sh],?_⟩;show(τ (Sh a++RX os)).extract (0*5) (0*5+5)=_;simp[Sh,Co]
 |a::os,i+1,o,h=>by
  obtain⟨h1,h2⟩:=Tl (os:=os) (i:=i) (o:=o) h;simp only[Bz] at h1;refine⟨by show(i+1)*5+5<=(Sh a++RX os).length;simp[Sh];omega,?_⟩;show(τ (Sh a++RX os)).extract ((i+1)*5) ((i+1)*5+5)=_;rw[<-h2];simp only[Fi,Co];have e1:(i+1)*5=i*5+(Sh a).length:=by show _=i*5+5;omega
  have e2:(i+1)*5+5-(i+1)*5=i*5+5-i*5:=by omega
  rw[e2];congr 1;rw[e1,KY,JU];simp
abbrev WH:OwT:=⟨0,0,0,0,0⟩
abbrev oK(o:Int):CapT:=⟨8,o,7,0,0,0,0,0⟩
theorem zi(o:Int):JA (oK o):=⟨Int.le_refl 0,by show(0:Int)<=9223372036854775807;decide⟩
def shH(H:HS)(nd:Int)(i:Nat)(o:OwT):HS:=
 let H1:=(F7 H (nd,7) (o.nd,7) (HT (Dv H.1 (nd,7)) 7 (i+1))).2
 (F7 H1 (nd,7) (o.th,2) (HT (Dv H1.1 (nd,7)) 7 (101+i))).2
def shK(nd:Int)(os:List OwT)(H:HS):Nat->HS
 |0=>H
 |k+1=>if k=0 then shK nd os H k else shH (shK nd os H k) nd k (os.getD k WH)
def RY(H:HS)(os:List OwT)(sh:Int):HS:=shK (os.getD 0 WH).nd os (GD H ((os.getD 0 WH).nd,7) (oK sh)).2 os.length
theorem InvH.shH{H:HS}{n:Nat}(h:InvH H n)(nd:Int)(i:Nat)(o:OwT):InvH (shH H nd i o) (n+2):=by have h1:=h.der (nd,7) (o.nd,7) (HT (Dv H.1 (nd,7)) 7 (i+1)) (Uf (h.at _).2 _ _);exact h1.der (nd,7) (o.th,2) _ (Uf (h1.at _).2 _ _)
theorem InvH.shK{H:HS}{n:Nat}(h:InvH H n)(nd:Int)(os:List OwT): ∀k,InvH (shK nd os H k) (n+2*k)
 |0=>h
 |k+1=>by
  show InvH (if k=0 then _ else _) _
  split
  ·exact(InvH.shK h nd os k).mono Af
  ·exact((InvH.shK h nd os k).shH nd k _).mono Af
abbrev WI(B:Nat)(s:Ch):Bh:=(B,.cells (τ (Cd s)) 61 (0,0))
theorem jE(F C n:Nat)(R:RT)(b:Nat)(p:RP)(s:RL)(hR:IsRl F C n R p s)(hn:n<=900)(os:List OwT)(h0:1<=os.length)(h3:os.length<=3)(sh:Int)(bs cap:Nat)(T:TypeId)(fz:Nat×Nat)(G:Ac)(hm:(bs,Obj.cells (τ (RX os)) T fz)∈G):
 Fn prog 93 [pV b,.slice (some ⟨bs,0,none⟩) os.length cap,ι sh] (CD b p s R G) λv l'=>
 v= .tuple #[]/\ ∃s' X,IsRl F C (n+7) {R with H:=RY R.H os sh} p s'/\l'=CD b p s' {R with H:=RY R.H os sh} (X++G):=by
 obtain⟨o0,ot,rfl⟩: ∃o ot,os=o::ot:=by
  cases os with
  |nil=>exact absurd h0 A0
  |cons o ot=>exact⟨o,ot,rfl⟩
 refine AO func93 ntmps93 λE=>?_;unfold CD;refine Aj ?_;have Ym:(bs,Obj.cells (τ (RX (o0::ot))) T fz)∈CH b p::As.asA p.n R.N::(s.M++(s.C++(s.A++(s.H++(s.T++(s.Q++(s.E++(s.V++G)))))))):= .tail _ (.tail _ (Aa _ (Aa _ (Aa _ (Aa _ (Aa _ (Aa _ (Aa _ (Aa _ hm)))))))));refine Be (DQ (v:= ι o0.nd) rfl Ym rfl) ?_;refine AR λb6=>?_;have Qw: ∀(lq:Ac) (c:Bh),c∈[CH b p,WI b6 (o0.nd,7)]->c∈lq++(WI b6 (o0.nd,7)::CH b p::As.asA p.n R.N::(s.M++(s.C++(s.A++(s.T++(s.Q++(s.E++(s.V++G)))))))):=λlq c hc=>by
  rcases Au.1 hc with rfl|hc
  ·exact Aa _ ν
  ·rw[Ay.1 hc];exact Aa _ (.head _)
 refine Eh (l':=s.H++(WI b6 (o0.nd,7)::CH b p::As.asA p.n R.N::(s.M++(s.C++(s.A++(s.T++(s.Q++(s.E++(s.V++G))))))))) (by dsimp only[WI,Cd];exact γ []) ?_;refine Ct [5] 6 ([CH b p,WI b6 (o0.nd,7)]) ?_ (hR:=(Qw _));refine BJ ?_;apply EI
 ·exact AI rfl rfl (λl hl=>D4 b p l (hl _ (.head _)))
 ·rfl
 ·rfl
 ·rfl
 refine BJ ?_;apply CX
 ·exact Az rfl rfl (Gi p.h R.H n hR.inv s.H hR.ho (o0.nd,7) (oK sh) _)
 ·rfl
 ·rfl
 ·rfl
 ·rintro _ _ ⟨_,_,_,rfl⟩;exact Qw _
 rintro _ _ ⟨rfl,lH1,hq1,rfl⟩;refine BJ ?_;refine Aj ?_;obtain⟨H1,hH1⟩: ∃x,x=(GD R.H (o0.nd,7) (oK sh)).2:=⟨_,rfl⟩
 have Yq:InvH H1 (n+1):=by rw[hH1];exact InvH.root hR.inv _ _ (zi _)
 rw[<-hH1] at hq1;refine CF (α:=Nat×Ac×Ac) (λx=>[(0,pV b),(6,pV b6),(20,.slice (some ⟨bs,0,none⟩) (o0::ot).length cap),(21,ι ((o0::ot).length:Nat)),(22,ι x.1)]) (λx=>x.2.1++(WI b6 (o0.nd,7)::CH b p::As.asA p.n R.N::(s.M++(s.C++(s.A++(s.T++(s.Q++(s.E++(s.V++(x.2.2++G))))))))))
  (λx=>x.1<=(o0::ot).length/\IsH p.h (shK o0.nd (o0::ot) H1 x.1) x.2.1) (λx=>(o0::ot).length-x.1) (0,lH1,[]) ⟨Bm _,hq1⟩ ⟨rfl,rfl,rfl,rfl,rfl,trivial⟩ (by simp only[Ag];exact γ []) ?_
 rintro⟨k,lH,X⟩ ⟨hk,hq⟩;simp only at hk hq⊢;by_cases aB:k<(o0::ot).length
 ·obtain⟨o,ho⟩: ∃o,(o0::ot)[k]?=some o:=⟨_,Ak aB⟩
  obtain⟨x1,x2⟩:=Tl ho;have Vo:(bs,Obj.cells (τ (RX (o0::ot))) T fz)∈lH++(WI b6 (o0.nd,7)::CH b p::As.asA p.n R.N::(s.M++(s.C++(s.A++(s.T++(s.Q++(s.E++(s.V++(X++G))))))))):=Aa _ (.tail _ (.tail _ (.tail _ (Aa _ (Aa _ (Aa _ (Aa _ (Aa _ (Aa _ (Aa _ (Aa _ hm)))))))))));refine Aj ?_;refine Be (Dp rfl Vo x1 x2) ?_;refine AR λb8=>?_;by_cases hk0:k=0
  ·subst hk0;refine Aj ?_;refine BZ (0+1,lH,Jh b8 o::X) ⟨Af,?_⟩ (by simp only;omega) ⟨rfl,rfl,rfl,rfl,rfl,trivial⟩ (by dsimp only[Jh,Sh];exact γ []);exact hq
  refine Aj ?_;have hI:InvH (shK o0.nd (o0::ot) H1 k) (n+1+2*k):=Yq.shK _ _ _;have KU: ∀(lq:Ac) (c:Bh),c∈[CH b p,WI b6 (o0.nd,7),Jh b8 o]->c∈lq++(Jh b8 o::WI b6 (o0.nd,7)::CH b p::As.asA p.n R.N::(s.M++(s.C++(s.A++(s.T++(s.Q++(s.E++(s.V++(X++G))))))))):=λlq c hc=>by
   rcases Au.1 hc with rfl|hc
   ·exact Aa _ ω
   ·rcases Au.1 hc with rfl|hc
    ·exact Aa _ ν
    ·rw[Ay.1 hc];exact Aa _ (.head _)
  refine Eh (l':=lH++(Jh b8 o::WI b6 (o0.nd,7)::CH b p::As.asA p.n R.N::(s.M++(s.C++(s.A++(s.T++(s.Q++(s.E++(s.V++(X++G)))))))))) (by dsimp only[Jh,Sh];exact γ []) ?_;refine Ct [9] 10 ([CH b p,WI b6 (o0.nd,7),Jh b8 o]) ?_ (hR:=(KU _));refine BJ ?_;apply EI
  ·exact AI rfl rfl (λl hl=>D4 b p l (hl _ (.head _)))
  ·rfl
  ·rfl
  ·rfl
  refine BJ ?_;apply CX
  ·exact Az rfl rfl (RR p.h (shK o0.nd (o0::ot) H1 k) _ (hI) Af lH hq (o0.nd,7) (o.nd,7) 7 (k+1) Af _)
  ·rfl
  ·rfl
  ·rfl
  ·rintro _ _ ⟨_,_,_,rfl⟩;exact KU _
  rintro _ _ ⟨rfl,lM1,hm1',rfl⟩;refine BJ ?_;refine Aj ?_;have Kz:=hI.der (o0.nd,7) (o.nd,7) (HT (Dv (shK o0.nd (o0::ot) H1 k).1 (o0.nd,7)) 7 (k+1)) (Uf (hI.at _).2 _ _);refine Ct [9] 10 ([CH b p,WI b6 (o0.nd,7),Jh b8 o]) ?_ (hR:=(KU _));refine BJ ?_;apply EI
  ·exact AI rfl rfl (λl hl=>D4 b p l (hl _ (.head _)))
  ·rfl
  ·rfl
  ·rfl
  refine BJ ?_;apply CX
  ·exact Az rfl rfl (RR p.h _ _ (Kz) Af lM1 hm1' (o0.nd,7) (o.th,2) 7 (101+k) Af _)
  ·rfl
  ·rfl
  ·rfl
  ·rintro _ _ ⟨_,_,_,rfl⟩;exact KU _
  rintro _ _ ⟨rfl,lM2,hm2',rfl⟩;refine BJ ?_;refine Aj ?_;refine BZ (k+1,lM2,Jh b8 o::X) ⟨Af,?_⟩ (by simp only;omega) ⟨rfl,rfl,rfl,rfl,rfl,trivial⟩ (γ []);have e1:shK o0.nd (o0::ot) H1 (k+1)=shH (shK o0.nd (o0::ot) H1 k) o0.nd k o:=by show(if k=0 then _ else _)=_;rw[Ab hk0,List.getD,ho,Dl]
  show IsH p.h (shK o0.nd (o0::ot) H1 (k+1)) lM2;rw[e1];exact hm2'
 ·refine Aj ?_;obtain rfl:k=(o0::ot).length:=by omega
  have hL:RY R.H (o0::ot) sh=shK o0.nd (o0::ot) H1 (o0::ot).length:=by show shK o0.nd (o0::ot) (GD R.H (o0.nd,7) (oK sh)).2 _=_;rw[<-hH1]
  have hI:InvH (shK o0.nd (o0::ot) H1 (o0::ot).length) (n+1+2*(o0::ot).length):=Yq.shK _ _ _;refine Bc (l':=CD b p ⟨s.M,s.C,s.A,lH,s.T,s.Q,s.E,s.V⟩ {R with H:=RY R.H (o0::ot) sh} ((WI b6 (o0.nd,7)::X)++G)) (by unfold CD;dsimp only;exact γ []) ⟨rfl,⟨s.M,s.C,s.A,lH,s.T,s.Q,s.E,s.V⟩,WI b6 (o0.nd,7)::X,?_,rfl⟩;rw[hL];exact⟨hR.mem,hR.co,hR.ar,hR.an,hq,hI.mono Af,λi hi=>by have:=hR.giv i hi;simp only;omega,hR.th,hR.qu,λj hj=>B9 (hR.ql j hj) Af,hR.en,hR.cu,hR.c1⟩
def NL(R:RT)(id:Int):RT:=match Th.findH R.T id with
 |none=>R
 |some t=>{R with T:=(Th.setD R.T {t with st:=1}).2,Q:=(Qu.addQ R.Q id t.pr).2}
theorem oL{X:Nat->A8}(h: ∀n,n<8->(X n).length<=k)(id pr:Int): ∀n,n<8->((Qu.addQ X id pr).2 n).length<=k+1:=by
 intro n hn;have h0:=h n hn;unfold Qu.addQ
 split
 ·exact Fl h0
 split
 ·exact Fl h0
 ·simp only[Qu.upd]
  split
  ·rename_i e;subst e;simp only[Ah,By,EW];omega
  ·exact Fl h0
theorem jF(F C n:Nat)(R:RT)(b:Nat)(p:RP)(s:RL)(hR:IsRl F C n R p s)(hn:n<=900)(id:Int)(G:Ac):Fn prog 97 [pV b,ι id,ι 1] (CD b p s R G) λv l'=>
 (∃e,v= ι e)/\ ∃s' X,IsRl F C (n+1) (NL R id) p s'/\l'=CD b p s' (NL R id) (X++G):=by
 refine AO func97 ntmps97 λE=>?_;unfold CD;refine Aj ?_;refine Be (AI rfl rfl (λl hl=>Th.get_any p.t R.T s.T hR.th id l (λc hc=>hl _ (.tail _ (.tail _ (Aa _ (Aa _ (Aa _ (Aa _ (Ai _ hc)))))))))) ?_;cases hf:Th.findH R.T id with
 |none=>
  have e:NL R id=R:=by unfold NL;rw[hf]
  simp only[Option.getD_none,FL];refine AR λb7=>?_;refine BF [] rfl (l':=CD b p s R ([Th.thC b7 Th.thZ]++G)) (by unfold CD;dsimp only[Th.thC,Th.encH,Th.thZ];exact γ []) Ba ⟨⟨_,rfl⟩,s,[Th.thC b7 Th.thZ],?_,by rw[e];rfl⟩;rw[e];exact hR.mono Af
 |some t=>
  have e:NL R id={R with T:=(Th.setD R.T {t with st:=1}).2,Q:=(Qu.addQ R.Q id t.pr).2}:=by unfold NL;rw[hf]
  simp only[Dl,IU];refine AR λb7=>?_;have Qw: ∀(lq:Ac) (c:Bh),c∈[CH b p,Th.thC b7 {t with st:=1}]->c∈lq++(Th.thC b7 {t with st:=1}::CH b p::As.asA p.n R.N::(s.M++(s.C++(s.A++(s.H++(s.Q++(s.E++(s.V++G)))))))):=λlq c hc=>by
   rcases Au.1 hc with rfl|hc
   ·exact Aa _ ν
   ·rw[Ay.1 hc];exact Aa _ (.head _)
  refine Eh (l':=s.T++(Th.thC b7 {t with st:=1}::CH b p::As.asA p.n R.N::(s.M++(s.C++(s.A++(s.H++(s.Q++(s.E++(s.V++G))))))))) (by dsimp only[Th.thC,Th.encH];exact γ []) ?_;refine Ct [5] 6 ([CH b p,Th.thC b7 {t with st:=1}]) ?_ (hR:=(Qw _));refine BJ ?_;apply CX
  ·exact Az rfl rfl (Th.set_any p.t R.T s.T hR.th {t with st:=1} _)
  ·rfl
  ·rfl
  ·rfl
  ·rintro _ _ ⟨_,_,_,rfl⟩;exact Qw _
  rintro _ _ ⟨rfl,lT,hT,rfl⟩;refine BJ ?_;refine Aj ?_;have KU: ∀(lq:Ac) (c:Bh),c∈[CH b p,Th.thC b7 {t with st:=1}]->c∈lq++(Th.thC b7 {t with st:=1}::CH b p::As.asA p.n R.N::(s.M++(s.C++(s.A++(s.H++(lT++(s.E++(s.V++G)))))))):=λlq c hc=>by
   rcases Au.1 hc with rfl|hc
   ·exact Aa _ ν
   ·rw[Ay.1 hc];exact Aa _ (.head _)
  refine Eh (l':=s.Q++(Th.thC b7 {t with st:=1}::CH b p::As.asA p.n R.N::(s.M++(s.C++(s.A++(s.H++(lT++(s.E++(s.V++G))))))))) (γ []) ?_;refine Ct [7] 8 ([CH b p,Th.thC b7 {t with st:=1}]) ?_ (hR:=(KU _));refine BJ ?_;apply CX
  ·exact Az rfl rfl (Qu.add_any p.q R.Q s.Q id t.pr hR.qu (λj hj=>by have:=hR.ql j hj;omega) _)
  ·rfl
  ·rfl
  ·rfl
  ·rintro _ _ ⟨_,_,_,rfl⟩;exact KU _
  rintro _ _ ⟨rfl,lQ,hQ,rfl⟩;refine BJ ?_;refine Aj ?_;rw[e];refine Bc (l':=CD b p ⟨s.M,s.C,s.A,s.H,lT,lQ,s.E,s.V⟩ {R with T:=(Th.setD R.T {t with st:=1}).2,Q:=(Qu.addQ R.Q id t.pr).2} ([Th.thC b7 {t with st:=1}]++G)) (by unfold CD;dsimp only;exact γ []) ⟨⟨_,rfl⟩,⟨s.M,s.C,s.A,s.H,lT,lQ,s.E,s.V⟩,[Th.thC b7 {t with st:=1}],?_,rfl⟩;exact⟨hR.mem,hR.co,hR.ar,hR.an,hR.ho,hR.inv.mono Af,λi hi=>by have:=hR.giv i hi;simp only;omega,hT,hQ,oL hR.ql id t.pr,hR.en,hR.cu,hR.c1⟩
abbrev knC(B b:Nat):Bh:=(B,.cells (τ [pV b]) 152 (0,0))
theorem oM(b:Nat)(l:Ac):Fn prog 98 [pV b] l λv l'=> ∃B,v= .tuple #[pV B,ι 0]/\l'=knC B b::l:=by refine AO func98 ntmps98 λE=>?_;refine Aj ?_;refine AP (Cw rfl) ?_;rintro _ _ ⟨B,_,rfl,rfl⟩;refine Aj ?_;exact Bc .refl ⟨B,rfl,rfl⟩
def Oc(F C T:Int):Bool:=decide (1<=T)&&decide (T<=3)&&decide (1<=C)&&decide (C<=3)&&decide (11*T<=F)&&decide (F<=64)
theorem ZX(F C T:Int)(sh:Bool)(l:Ac):Fn prog 88 [.agg (τ [ι F,ι C,ι T,.bool sh])] l λv l'=>v= .bool (Oc F C T)/\l'=l:=by
 refine AO func88 ntmps88 λE=>?_;refine Aj ?_;refine AP (Cw rfl) ?_;rintro _ _ ⟨b1,_,rfl,rfl⟩;refine Aj ?_;by_cases h0:1<=T
 case neg=>refine Aj ?_;exact BF [] rfl (l':=l) ζ Ba ⟨by simp[Oc,JQ,h0],rfl⟩
 by_cases h1:T<=3
 case neg=>refine Aj ?_;exact BF [] rfl (l':=l) ζ Ba ⟨by simp[Oc,JQ,h0,h1],rfl⟩
 by_cases h2:1<=C
 case neg=>refine Aj ?_;exact BF [] rfl (l':=l) ζ Ba ⟨by simp[Oc,JQ,h0,h1,h2],rfl⟩
 by_cases h3:C<=3
 case neg=>refine Aj ?_;exact BF [] rfl (l':=l) ζ Ba ⟨by simp[Oc,JQ,h0,h1,h2,h3],rfl⟩
 by_cases h4:11*T<=F
 case neg=>refine Aj ?_;exact BF [] rfl (l':=l) ζ Ba ⟨by simp[Oc,JQ,h0,h1,h2,h3,h4],rfl⟩
 by_cases h5:F<=64
 case neg=>refine Aj ?_;exact BF [] rfl (l':=l) ζ Ba ⟨by simp[Oc,JQ,h0,h1,h2,h3,h4,h5],rfl⟩
 refine Aj ?_;exact BF [] rfl (l':=l) ζ Ba ⟨by simp[Oc,JQ,h0,h1,h2,h3,h4,h5],rfl⟩
def mkF(S:RT×A8)(x:Int×Int×Int):RT×A8:=((JS S.1 x.1 x.2.1 x.2.2).2,S.2++[(JS S.1 x.1 x.2.1 x.2.2).1.1])
def Yv(F:Nat)(xs:List (Int×Int×Int)):RT×A8:=xs.foldl mkF (JC F,[])
theorem oN(F:Nat)(xs:List (Int×Int×Int))(x:Int×Int×Int):Yv F (xs++[x])=mkF (Yv F xs) x:=by unfold Yv;rw[El];rfl
theorem gk(F:Nat)(xs:List (Int×Int×Int)):(Yv F xs).2.length=xs.length:=by
 have h: ∀(xs:List (Int×Int×Int)) (S:RT×A8),(xs.foldl mkF S).2.length=S.2.length+xs.length:=by
  intro xs
  induction xs with
  |nil=>intro S;rfl
  |cons x r ih=>intro S;show(List.foldl mkF (mkF S x) r).2.length=_;rw[ih];simp[mkF];omega
 rw[Yv,h];simp
abbrev rh(B:Nat)(F C T:Int)(sh:Bool):Bh:=(B,.cells (τ [ι F,ι C,ι T,.bool sh]) 23 (0,0))
theorem tT(F C T:Int)(sh:Bool)(h:Oc F C T=false)(l:Ac):Fn prog 66 [.agg (τ [ι F,ι C,ι T,.bool sh])] l λv l'=>v= .tuple #[.pointer none,.slice none 0 0,ι 3]/\l'=l:=by refine AO func66 ntmps66 λE=>?_;refine Aj ?_;refine AP (Cw rfl) ?_;rintro _ _ ⟨b1,_,rfl,rfl⟩;refine Aj ?_;refine Be (AI rfl rfl (λl hl=>ZX F C T sh l)) ?_;rw[h];refine Aj ?_;exact Bc (l':=l) ζ ⟨rfl,rfl⟩
abbrev Qi(B b:Nat):Bh:=(B,.cells (τ [pV b]) 124 (0,0))
abbrev NY(B:Nat)(v:Value):Bh:=(B,.cells (τ [v]) 40 (0,0))
def InL(F C b:Nat)(p:RP)(b8:Nat)(pre:List (Int×Int×Int))(l:Ac):Prop:= ∃s v cs X,IsRl F C pre.length (Yv F pre).1 p s/\OwnSl 3 1 v pre.length ((Yv F pre).2.map CU) cs/\l=CD b p s (Yv F pre).1 (NY b8 v::(cs++X))
def dk(ids:A8)(T i:Nat):OwT:=⟨ids.getD (4*i) 0,ids.getD (4*i+1) 0,ids.getD (4*i+2) 0,ids.getD (4*i+3) 0,ids.getD (ids.length-T+i) 0⟩
def Qj(ids:A8)(T i:Nat):List OwT:=(List.range i).map (dk ids T)++replicate (T-i) WH
theorem oO(n:Nat):RX (replicate n WH)=(replicate n (Sh WH)).flatten:=by
 induction n with
 |zero=>rfl
 |succ n ih=>rw[BN,BN,CA,<-ih];rfl
def aft:Nat->Code->Code
 |0,c=>c
 |n+1,.seq _ c=>aft n c
 |_,c=>c
def hed:Code->Code
 | .seq c _=>c
 |c=>c
theorem dl{N:Nat}{e:Exit}{fr fr':Fr}{l l':Ac}(hs:FSub fr' fr)(p:Keep l l')(h:C3 N E Q e fr' ds l'):C3 N E Q e fr ds l:=⟨λa W hf hds hw=>h.run a W (hf.sub hs.spec) hds (p.sat hw)⟩
theorem XX: ∀os:List OwT,(RX os).length=os.length*5
 |[]=>rfl
 |o::os=>by show(Sh o++RX os).length=_;rw[Ah,XX os];simp;omega
theorem gl(xs bs:List OwT):RX (xs++bs)=RX xs++RX bs:=by
 induction xs with
 |nil=>rfl
 |cons a r ih=>show Sh a++RX (r++bs)=_;rw[ih];rfl
theorem ZY(ids:A8)(T i:Nat)(h:i<=T):(Qj ids T i).length=T:=by simp[Qj];omega
theorem oP(ids:A8)(T i:Nat)(h:i<T):Dc (τ (RX (Qj ids T i))) (i*5) (Sh (dk ids T i))=τ (RX (Qj ids T (i+1))):=by
 have e1:Qj ids T i=(List.range i).map (dk ids T)++(WH::replicate (T-(i+1)) WH):=by unfold Qj;rw[show T-i=(T-(i+1))+1 by omega,BN]
 have e2:Qj ids T (i+1)=(List.range i).map (dk ids T)++(dk ids T i::replicate (T-(i+1)) WH):=by unfold Qj;rw[Cx,At,Am];rfl
 rw[e1,e2,gl,gl];have:=setFrom_mid (Sh WH) (Sh (dk ids T i)) (RX ((List.range i).map (dk ids T))) (RX (replicate (T-(i+1)) WH)) rfl;rw[XX,A5,Fq] at this;exact this
def tU(F C T:Nat)(sh:Bool)(ids:A8)(sp:Ap)(b1 b5 b8 bo b gb cap i:Nat):Ac:=[NY b8 (.slice (some ⟨gb,0,none⟩) (5*T+sh.toNat) cap),(gb,Obj.cells (τ (ids.map CU++sp)) 3 (0,0)),rh b1 F C T sh,Qi b5 b,(bo,Obj.cells (τ (RX (Qj ids T i))) 202 (0,0))]
abbrev laF(T:Nat)(b1 b5 b8 bo:Nat):Fr:=[(1,pV b1),(5,pV b5),(7,.slice (some ⟨bo,0,none⟩) T T),(8,pV b8),(9,ι 0)]
theorem Agj(hf:prog.funcs[66]?=some fn)(hc:fn.body=some c)(F C T:Nat)(sh:Bool)(DO:1<=T)(hT:T<=3)(ids:A8)(sp:Ap)(xO:ids.length=5*T+sh.toNat)(b1 b5 b8 bo b gb cap:Nat)(Z:Ac)
 (k:C3 fn.ntmps E Q .normal (laF T b1 b5 b8 bo) ds (tU F C T sh ids sp b1 b5 b8 bo b gb cap T++Z)):BS prog none fn.ntmps E (hed (aft 7 c)) Q (laF T b1 b5 b8 bo) ds (tU F C T sh ids sp b1 b5 b8 bo b gb cap 0++Z):=by
 obtain rfl:=AZ (hf.symm.trans func66);obtain rfl:=AZ hc;simp only[func66,ntmps66,aft,hed] at k⊢;have Sy: ∀(x:Int) (m:Nat),x=m->m<ids.length->(τ (ids.map CU++sp))[0+x.toNat*1]?=some (CU (ids.getD m 0)):=λx m hx hm=>by subst hx;rw[AV,Dw,BG,AF,AH (by rw[A5];exact hm),A7,List.getD,Ak hm];rfl
 refine Aj ?_;refine CF (α:=Nat) (λi=>(56,ι T)::(57,ι i)::(55,.slice (some ⟨bo,0,none⟩) T T)::laF T b1 b5 b8 bo) (λi=>tU F C T sh ids sp b1 b5 b8 bo b gb cap i++Z)
  (λi=>i<=T) (λi=>T-i) 0 (Bm _) ⟨rfl,rfl,rfl,rfl,rfl,rfl,rfl,rfl,trivial⟩ .refl ?_
 intro i hi;have ei:sh.toNat<=1:=by cases sh<;>decide
 by_cases C7:i<T
 ·unfold tU;refine Aj ?_;have On: ∀c,c∈[NY b8 (.slice (some ⟨gb,0,none⟩) (5*T+sh.toNat) cap),(gb,Obj.cells (τ (ids.map CU++sp)) 3 (0,0)),rh b1 F C T sh]->c∈NY b8 (.slice (some ⟨gb,0,none⟩) (5*T+sh.toNat) cap)::(gb,Obj.cells (τ (ids.map CU++sp)) 3 (0,0))::rh b1 F C T sh::Qi b5 b::(bo,Obj.cells (τ (RX (Qj ids T i))) 202 (0,0))::Z:=λc hc=>(@Ai _ c [_,_,_] _ hc)
  refine Ct [37] 38 ([NY b8 (.slice (some ⟨gb,0,none⟩) (5*T+sh.toNat) cap),(gb,Obj.cells (τ (ids.map CU++sp)) 3 (0,0)),rh b1 F C T sh]) ?_ (hR:=(On));refine BJ ?_;apply EI
  ·exact DQ (v:=CU (ids.getD (4*i) 0)) rfl ν (Sy _ (4*i) Af Af)
  ·rfl
  ·rfl
  ·rfl
  refine BJ ?_;apply EI
  ·exact DQ (v:=CU (ids.getD (4*i+1) 0)) rfl ν (Sy _ (4*i+1) Af Af)
  ·rfl
  ·rfl
  ·rfl
  refine BJ ?_;apply EI
  ·exact DQ (v:=CU (ids.getD (4*i+2) 0)) rfl ν (Sy _ (4*i+2) Af Af)
  ·rfl
  ·rfl
  ·rfl
  refine BJ ?_;apply EI
  ·exact DQ (v:=CU (ids.getD (4*i+3) 0)) rfl ν (Sy _ (4*i+3) Af Af)
  ·rfl
  ·rfl
  ·rfl
  refine BJ ?_;apply EI
  ·exact DQ (v:=CU (ids.getD (ids.length-T+i) 0)) rfl ν (Sy _ (ids.length-T+i) Af Af)
  ·rfl
  ·rfl
  ·rfl
  refine BJ ?_;apply Oy
  ·exact EG (cs:=τ (RX (Qj ids T i))) (T:=202) rfl rfl rfl (by simp[CU,Value.oneCell']) (.there (.there (.there (.there .here)))) (by have:=XX (Qj ids T i);rw[ZY _ _ _ hi] at this;simp only[Bz,By,EW,this];omega)
  ·rfl
  ·rfl
  ·rintro _ _ ⟨_,rfl⟩;exact λc hc=>(@Ai _ c [_,_,_] _ hc)
  rintro _ _ ⟨rfl,rfl⟩;refine BJ ?_;refine Aj ?_;refine BZ (i+1) Af Af ⟨rfl,rfl,rfl,rfl,rfl,rfl,rfl,rfl,trivial⟩ (.of_perm (.of_eq ?_));show _=tU F C T sh ids sp b1 b5 b8 bo b gb cap (i+1)++Z;unfold tU;rw[<-oP ids T i C7];simp only[AV,BG];rfl
 ·refine Aj ?_;obtain rfl:i=T:=by omega
  exact dl (fr':=laF i b1 b5 b8 bo) ⟨rfl,rfl,rfl,rfl,rfl,trivial⟩ .refl k
def SH(R:RT)(os:List OwT):Nat->RT
 |0=>R
 |k+1=>UO (SH R os k) (os.getD k WH) (decide ((k:Int)=0))
abbrev WJ(bo:Nat)(os:List OwT):Bh:=(bo,Obj.cells (τ (RX os)) 202 (0,0))
abbrev rk(T:Nat)(b1 b5 bo:Nat)(v9 v14:Value):Fr:=[(1,pV b1),(5,pV b5),(7,.slice (some ⟨bo,0,none⟩) T T),(9,v9),(14,v14)]
theorem Agk(hf:prog.funcs[66]?=some fn)(hc:fn.body=some c)(F C n:Nat)(R:RT)(b:Nat)(p:RP)(s:RL)(hR:IsRl F C n R p s)(hn:n<=800)(os:List OwT)(T:Nat)(N6:os.length=T)(hT:T<=3)(b1 b5 bo:Nat)(v9:Value)(Z:Ac)
 (k: ∀s' X v cs,IsRl F C (n+8*T) (SH R os T) p s'->OwnSl 3 1 v T ((os.map OwT.th).map CU) cs->C3 fn.ntmps E Q .normal (rk T b1 b5 bo v9 v) ds (Qi b5 b::WJ bo os::(cs++CD b p s' (SH R os T) (X++Z)))):
 BS prog none fn.ntmps E (hed (aft 10 c)) Q (rk T b1 b5 bo v9 (.slice none 0 0)) ds (Qi b5 b::WJ bo os::CD b p s R Z):=by
 subst N6;obtain rfl:=AZ (hf.symm.trans func66);obtain rfl:=AZ hc;simp only[func66,ntmps66,aft,hed] at k⊢;refine Aj ?_;refine CF (α:=Nat×RL×Ac×Value×Ac) (λx=>(106,.slice (some ⟨bo,0,none⟩) os.length os.length)::(107,ι (os.length:Nat))::(108,ι x.1)::rk os.length b1 b5 bo v9 x.2.2.2.1) (λx=>Qi b5 b::WJ bo os::(x.2.2.2.2++CD b p x.2.1 (SH R os x.1) (x.2.2.1++Z)))
  (λx=>x.1<=os.length/\IsRl F C (n+8*x.1) (SH R os x.1) p x.2.1/\OwnSl 3 1 x.2.2.2.1 x.1 (((os.take x.1).map OwT.th).map CU) x.2.2.2.2) (λx=>os.length-x.1) (0,s,[],.slice none 0 0,[]) ⟨Bm _,hR,OwnSl.nil _ _⟩ ⟨rfl,rfl,rfl,rfl,rfl,rfl,rfl,rfl,trivial⟩ .refl ?_
 rintro⟨i,s,X,v,cs⟩ ⟨hi,hR,ho⟩;simp only at hi hR ho⊢;by_cases C7:i<os.length
 ·obtain⟨o,hio⟩: ∃o,os[i]?=some o:=⟨_,Ak C7⟩
  obtain⟨x1,x2⟩:=Tl hio;refine Aj ?_;refine Be (Dp rfl ν x1 x2) ?_;refine AR λQt=>?_;refine Bt (l':=CD b p s (SH R os i) (Jh Qt o::Qi b5 b::WJ bo os::(cs++(X++Z)))) (by unfold CD;dsimp only[Jh,Sh];exact γ []) ?_;refine AP (Az rfl rfl (oJ F C (n+8*i) _ b p s hR Af o (decide ((i:Int)=0)) _)) ?_;rintro _ _ ⟨rfl,s1,X1,hR1,rfl⟩;have e1:SH R os (i+1)=UO (SH R os i) o (decide ((i:Int)=0)):=by show UO _ (os.getD i WH) _=_;rw[List.getD,hio,Dl]
  have e2:os.take (i+1)=os.take i++[o]:=by rw[BP,hio];rfl
  rw[<-e1] at hR1⊢;refine Bt (l':=Jh Qt o::Qi b5 b::WJ bo os::(cs++CD b p s1 (SH R os (i+1)) (X1++(X++Z)))) (by unfold CD;dsimp only[Jh,Sh];exact γ []) ?_;refine Aj ?_;refine AP (Lq (v:=CU o.th) rfl rfl) ?_;rintro _ _ ⟨bl,_,rfl,rfl⟩;refine Bt (l':=cs++((bl,Obj.cells (τ [CU o.th]) 3 (0,0))::Jh Qt o::Qi b5 b::WJ bo os::CD b p s1 (SH R os (i+1)) (X1++(X++Z)))) (γ []) ?_;refine AP (GN (k:=1) (yb:=8) (n:=i) (xs:=((os.take i).map OwT.th).map CU) (news:=[CU o.th]) (zs:=[ι 0]) (cs:=cs) rfl rfl rfl ho (Aa _ Al) (λj u hj=>by simpa using hj) rfl (by simp[Value.oneCell',CU]) (by unfold maxLen;omega) Af) ?_;rintro v' _ ⟨cs',eg,rfl⟩;refine Aj ?_;refine BZ (i+1,s1,(bl,Obj.cells (τ [CU o.th]) 3 (0,0))::Jh Qt o::(X1++X),v',cs') ⟨Af,hR1,?_⟩ (by simp only;omega) ⟨rfl,rfl,rfl,rfl,rfl,rfl,rfl,rfl,trivial⟩ (by unfold CD;exact γ []);rw[e2,At,At];exact eg
 ·refine Aj ?_;obtain rfl:i=os.length:=by omega
  rw[CK] at ho;exact dl (fr':=rk os.length b1 b5 bo v9 v) ⟨rfl,rfl,rfl,rfl,rfl,trivial⟩ .refl (k s X v cs hR ho)
def UP(R:RT)(id:Int):RT:={R with T:=(Th.setD R.T {(Th.findH R.T id).getD Th.thZ with pr:=1}).2}
def rl(R:RT)(os:List OwT):Nat->RT
 |0=>R
 |k+1=>NL (UP (rl R os k) (os.getD k WH).th) (os.getD k WH).th
theorem Agl(hf:prog.funcs[66]?=some fn)(hc:fn.body=some c)(F C n:Nat)(R:RT)(b:Nat)(p:RP)(s:RL)(hR:IsRl F C n R p s)(hn:n<=800)(os:List OwT)(T:Nat)(N6:os.length=T)(hT:T<=3)(b1 b5 bo:Nat)(v9 v14:Value)(Z:Ac)
 (k: ∀s' X,IsRl F C (n+T) (rl R os T) p s'->C3 fn.ntmps E Q .normal (rk T b1 b5 bo v9 v14) ds (Qi b5 b::CD b p s' (rl R os T) (X++(WJ bo os::Z)))):
 BS prog none fn.ntmps E (hed (aft 12 c)) Q (rk T b1 b5 bo v9 v14) ds (Qi b5 b::CD b p s R (WJ bo os::Z)):=by
 subst N6;obtain rfl:=AZ (hf.symm.trans func66);obtain rfl:=AZ hc;simp only[func66,ntmps66,aft,hed] at k⊢;refine Aj ?_;refine CF (α:=Nat×RL×Ac) (λx=>(130,.slice (some ⟨bo,0,none⟩) os.length os.length)::(131,ι (os.length:Nat))::(132,ι x.1)::rk os.length b1 b5 bo v9 v14) (λx=>Qi b5 b::CD b p x.2.1 (rl R os x.1) (x.2.2++(WJ bo os::Z)))
  (λx=>x.1<=os.length/\IsRl F C (n+x.1) (rl R os x.1) p x.2.1) (λx=>os.length-x.1) (0,s,[]) ⟨Bm _,hR⟩ ⟨rfl,rfl,rfl,rfl,rfl,rfl,rfl,rfl,trivial⟩ .refl ?_
 rintro⟨i,s,X⟩ ⟨hi,hR⟩;simp only at hi hR⊢;by_cases C7:i<os.length
 ·obtain⟨o,hio⟩: ∃o,os[i]?=some o:=⟨_,Ak C7⟩
  obtain⟨x1,x2⟩:=Tl hio;have e1:rl R os (i+1)=NL (UP (rl R os i) o.th) o.th:=by show NL (UP _ (os.getD i WH).th) (os.getD i WH).th=_;rw[List.getD,hio,Dl]
  obtain⟨R1,hR1⟩: ∃R1,R1=rl R os i:=⟨_,rfl⟩
  rw[<-hR1] at hR e1⊢;refine Eh (l':=WJ bo os::Qi b5 b::CH b p::(s.T++(As.asA p.n R1.N::(s.M++(s.C++(s.A++(s.H++(s.Q++(s.E++(s.V++(X++Z))))))))))) (by unfold CD;exact γ []) ?_;refine Aj ?_;refine Be (Dp rfl (.head _) x1 x2) ?_;refine AR λlN=>?_;refine Eh (l':=Jh lN o::Qi b5 b::CH b p::(s.T++(WJ bo os::(As.asA p.n R1.N::(s.M++(s.C++(s.A++(s.H++(s.Q++(s.E++(s.V++(X++Z)))))))))))) (by dsimp only[Jh,Sh];exact γ []) ?_;have Qw: ∀c,c∈Jh lN o::Qi b5 b::CH b p::s.T->c∈Jh lN o::Qi b5 b::CH b p::(s.T++(WJ bo os::(As.asA p.n R1.N::(s.M++(s.C++(s.A++(s.H++(s.Q++(s.E++(s.V++(X++Z))))))))))):=λc hc=> @Ai _ c (Jh lN o::Qi b5 b::CH b p::s.T) _ hc;refine Ct [8,9] 11 (Jh lN o::Qi b5 b::CH b p::s.T) ?_ (hR:=(Qw));refine BJ ?_;apply EI
  ·exact AI rfl rfl (λl hl=>NJ b p l (hl _ ω))
  ·rfl
  ·rfl
  ·rfl
  refine BJ ?_;apply EI
  ·exact AI rfl rfl (λl hl=>Th.get_any p.t R1.T s.T hR.th o.th l (λc hc=>hl _ (.tail _ (.tail _ (.tail _ hc)))))
  ·rfl
  ·rfl
  ·rfl
  obtain⟨t,ht⟩: ∃t,t=(Th.findH R1.T o.th).getD Th.thZ:=⟨_,rfl⟩
  rw[<-ht];refine BJ ?_;apply CX
  ·exact e_alloc
  ·rfl
  ·rfl
  ·rfl
  ·rintro _ _ ⟨b5,_,_,rfl⟩ c hc;exact .tail _ (Qw c hc)
  rintro _ _ ⟨vW,_,rfl,rfl⟩;apply Oy
  ·exact VY (cs':=Th.encH t) rfl rfl rfl (by simp[Value.oneCell']) (.head _) (by repeat(first|apply LSetA.done|apply LSetA.put)) .here
  ·rfl
  ·rfl
  ·rintro _ _ ⟨_,rfl⟩ c hc;exact .tail _ (Qw c hc)
  rintro _ _ ⟨rfl,rfl⟩;refine BJ ?_;refine Aj ?_;obtain⟨t1,aQ⟩: ∃t1,t1={t with pr:=1}:=⟨_,rfl⟩
  have KU: ∀(lq:Ac) (c:Bh),c∈[Th.thC vW t1,Qi b5 b,CH b p]->c∈lq++(Th.thC vW t1::Qi b5 b::CH b p::(Jh lN o::WJ bo os::As.asA p.n R1.N::(s.M++(s.C++(s.A++(s.H++(s.Q++(s.E++(s.V++(X++Z)))))))))):=λlq c hc=>Aa _ (@Ai _ c [_,_,_] _ hc);refine Eh (l':=s.T++(Th.thC vW t1::Qi b5 b::CH b p::(Jh lN o::WJ bo os::As.asA p.n R1.N::(s.M++(s.C++(s.A++(s.H++(s.Q++(s.E++(s.V++(X++Z))))))))))) (by rw[aQ];dsimp only[Th.thC,Th.encH];exact γ []) ?_;refine Ct [3] 4 ([Th.thC vW t1,Qi b5 b,CH b p]) ?_ (hR:=(KU _));refine BJ ?_;apply EI
  ·exact AI rfl rfl (λl hl=>NJ b p l (hl _ ω))
  ·rfl
  ·rfl
  ·rfl
  refine BJ ?_;apply CX
  ·exact Az rfl rfl (Th.set_any p.t R1.T s.T hR.th t1 _)
  ·rfl
  ·rfl
  ·rfl
  ·rintro _ _ ⟨_,_,_,rfl⟩;exact KU _
  rintro _ _ ⟨rfl,lT,hT,rfl⟩;refine BJ ?_;rw[aQ,ht] at hT;have kR:IsRl F C (n+i) (UP R1 o.th) p ⟨s.M,s.C,s.A,s.H,lT,s.Q,s.E,s.V⟩:=⟨hR.mem,hR.co,hR.ar,hR.an,hR.ho,hR.inv,hR.giv,hT,hR.qu,hR.ql,hR.en,hR.cu,hR.c1⟩
  refine KG (l':=Jh lN o::Qi b5 b::CD b p ⟨s.M,s.C,s.A,s.H,lT,s.Q,s.E,s.V⟩ (UP R1 o.th) (WJ bo os::Th.thC vW t1::(X++Z))) (by unfold CD;dsimp only[UP];exact γ []) ?_;refine Aj ?_;refine Bt (l':=CD b p ⟨s.M,s.C,s.A,s.H,lT,s.Q,s.E,s.V⟩ (UP R1 o.th) (Jh lN o::Qi b5 b::WJ bo os::Th.thC vW t1::(X++Z))) (by unfold CD;exact γ []) ?_;refine AP (Az rfl rfl (jF F C (n+i) _ b p _ kR Af o.th _)) ?_;rintro _ _ ⟨_,s1,X1,hR3,rfl⟩;rw[<-e1] at hR3⊢;refine Aj ?_;refine BZ (i+1,s1,Jh lN o::Th.thC vW t1::(X1++X)) ⟨Af,hR3⟩ (by simp only;omega) ⟨rfl,rfl,rfl,rfl,rfl,rfl,rfl,rfl,trivial⟩ (by unfold CD;exact γ [])
 ·refine Aj ?_;obtain rfl:i=os.length:=by omega
  exact dl (fr':=rk os.length b1 b5 bo v9 v14) ⟨rfl,rfl,rfl,rfl,rfl,trivial⟩ .refl (k s X hR)
def gn(F T:Nat)(sh:Bool):A8:=(Yv F (Ew F T sh)).2
def WK(F T:Nat)(sh:Bool):List OwT:=Qj (gn F T sh) T T
def WL(F T:Nat)(sh:Bool):Int:=if sh=true then(gn F T sh).getD (4*T) 0 else 0
def UQ(F T:Nat)(sh:Bool):RT:=SH (Yv F (Ew F T sh)).1 (WK F T sh) T
def Si(F T:Nat)(sh:Bool):RT:=if sh=true then{UQ F T sh with H:=RY (UQ F T sh).H (WK F T sh) (WL F T sh)} else UQ F T sh
def IK(F T:Nat)(sh:Bool):RT:=rl (Si F T sh) (WK F T sh) T
theorem kz1(b:Nat)(p:RP)(s:RL)(R:RT)(c1 c2 c3 c4 c5:Bh)(X:Ac):Keep (c1::c2::c3::c4::c5::CD b p s R X) (c4::c5::CD b p s R (c1::c2::c3::X)):=by unfold CD;exact γ []
theorem kz2(b:Nat)(p:RP)(s:RL)(R:RT)(c1 c2 c3 c4 c5:Bh)(A Y X:Ac):Keep (c4::c5::(A++CD b p s R (Y++c1::c2::c3::X))) (c3::c4::c5::(A++CD b p s R (Y++(c1::c2::X)))):=by unfold CD;exact γ []
theorem kz3(b:Nat)(p:RP)(s:RL)(R:RT)(c1 c2 c3 c4 c5:Bh)(A Y X:Ac):Keep (c3::c4::c5::(A++CD b p s R (Y++(c1::c2::X)))) (c4::c5::(A++CD b p s R (Y++c1::c2::c3::X))):=by unfold CD;exact γ []
theorem kz4(b:Nat)(p:RP)(s:RL)(R:RT)(c3 c4 c5:Bh)(A X:Ac):Keep (c3::c4::c5::(A++CD b p s R X)) (CD b p s R (c5::c4::c3::(A++X))):=by unfold CD;exact γ []
theorem Agm(b:Nat)(p:RP)(s:RL)(R:RT)(c1 c2 c3 c4 c5:Bh)(A Y2 Y X:Ac):Keep (CD b p s R (Y2++(c5::c4::c3::(A++(Y++(c1::c2::X)))))) (c4::c5::(A++CD b p s R ((Y2++Y)++c1::c2::c3::X))):=by unfold CD;exact γ []
theorem kz5(b:Nat)(p:RP)(s:RL)(R:RT)(c4 c5:Bh)(A X:Ac):Keep (c4::c5::(A++CD b p s R X)) (c4::CD b p s R (c5::(A++X))):=by unfold CD;exact γ []
theorem kz6(b:Nat)(p:RP)(s:RL)(R:RT)(k m c1 c2 c3 c4 c5:Bh)(A W Y X G:Ac):Keep (k::c4::CD b p s R (W++c5::(A++(Y++(c1::c2::c3::(X++m::G)))))) ([m]++(k::(A++CD b p s R ((c4::c5::c1::c2::c3::(W++(Y++X)))++G)))):=by unfold CD;exact γ []
theorem tV(F C T:Nat)(sh:Bool)(DO:1<=T)(hT:T<=3)(hC1:1<=C)(hC:C<=3)(hF:11*T<=F)(Rz:F<=64)(G:Ac):Fn prog 66 [.agg (τ [ι F,ι C,ι T,.bool sh])] G λv l'=> ∃B b v14 p s X cs,v= .tuple #[pV B,v14,ι 0]/\IsRl F C 60 (IK F T sh) p s/\OwnSl 3 1 v14 T (((WK F T sh).map OwT.th).map CU) cs/\l'=knC B b::(cs++CD b p s (IK F T sh) (X++G)):=by
 have Oo:Oc F C T=true:=by simp[Oc];omega
 refine AO func66 ntmps66 λE=>?_;refine Aj ?_;refine AP (Cw rfl) ?_;rintro _ _ ⟨b1,_,rfl,rfl⟩;refine Aj ?_;refine Be (AI rfl rfl (λl hl=>ZX F C T sh l)) ?_;rw[Oo];refine Aj ?_;refine AP (Az rfl rfl (nP F C ⟨Af,Af⟩ ⟨Af,Af⟩ _)) ?_;rintro _ _ ⟨b,p,s0,X0,rfl,hR0,rfl⟩;refine AR λb5=>?_;refine Bt (l':=Qi b5 b::rh b1 F C T sh::CD b p s0 (JC F) (X0++G)) (by unfold CD;dsimp only[Qi,rh,pV];simp only[AN,AL];exact γ []) ?_;refine Aj ?_;refine AP (Gs (n:=T) (kk:=5) (yb:=40) (zs:=Sh WH) (xs:=RX (replicate T WH)) rfl rfl Af Af A0 (oO T)) ?_;rintro _ _ ⟨bo,_,rfl,rfl⟩;refine AR λb8=>?_;refine AP (Dr rfl rfl (di F C T sh _)) ?_;rintro _ _ ⟨B1,rfl,rfl⟩;refine Aj ?_;refine YR (α:=Int×Int×Int) (ps:=[39]) (lb:=[pV B1]) rfl (ZW B1 F C T sh DO hT hF Rz) (λ_=>rfl) rfl (InL F C b p b8) (λ_ _ _=>False)
  (CD b p s0 (JC F) (NY b8 (.slice none 0 0)::([]++X0))) ((bo,Obj.cells (τ (RX (replicate T WH))) 202 (0,0))::Qi b5 b::rh b1 F C T sh::G) (λ_ _ _ _ _=>trivial) (by unfold CD;dsimp only[NY,VM];simp only[Ag,AN,AL];exact γ []) ⟨s0,_,[],X0,hR0,OwnSl.nil _ _,rfl⟩ ?_ ?_ ?_
 ·rintro E r Gb pre x l1 T' ⟨fn,tmps,D,rfl⟩ hTs ⟨s,v,cs,X,hR,ho,rfl⟩ DG;have Ef:(pre++[x]).length<=25:=by
   have:=DG.length_le;have h2:(Ew F T sh).length<=25:=by unfold Ew;rw[O4,Ra];cases sh<;>simp<;>omega
   omega
  have Ahl:pre.length+1<=25:=by simpa using Ef
  have lG:Qi b5 b∈T':=hTs _ ν;simp only[DY];generalize hLO:Obj.loop _=LO;obtain⟨R,hRe⟩: ∃R,R=(Yv F pre).1:=⟨_,rfl⟩
  rw[<-hRe] at hR;rw[<-hRe];refine Eh (l':=(r,LO)::(CD b p s R (NY b8 v::(cs++X))++T')) (by unfold CD;exact γ []) ?_;refine AR λGW=>?_;subst hLO;refine CP D1 ?_;generalize hLO:Obj.loop _=LO;refine Aj ?_;refine Be (DQ (v:=pV b) rfl (.tail _ (.tail _ (Aa _ lG))) rfl) ?_;refine Aj ?_;refine Bt (l':=CD b p s R ((GW,Obj.cells (τ [ι x.1,ι x.2.1,ι x.2.2]) 198 (0,0))::(r,LO)::NY b8 v::(cs++(X++T')))) (by unfold CD;exact γ []) ?_;refine AP (Az rfl rfl (n9 F C pre.length R b p s hR Af x.1 x.2.1 x.2.2 _)) ?_;rintro _ _ ⟨rfl,s1,X1,hR1,rfl⟩;refine Bt (l':=NY b8 v::(cs++(CD b p s1 (JS R x.1 x.2.1 x.2.2).2 (X1++((GW,Obj.cells (τ [ι x.1,ι x.2.1,ι x.2.2]) 198 (0,0))::(r,LO)::(X++T')))))) (by unfold CD;exact γ []) ?_;refine Aj ?_;refine AP (Lq (v:=CU (JS R x.1 x.2.1 x.2.2).1.1) rfl rfl) ?_;rintro _ _ ⟨bl,_,rfl,rfl⟩;refine Bt (l':=cs++((bl,Obj.cells (τ [CU (JS R x.1 x.2.1 x.2.2).1.1]) 3 (0,0))::NY b8 v::CD b p s1 (JS R x.1 x.2.1 x.2.2).2 (X1++((GW,Obj.cells (τ [ι x.1,ι x.2.1,ι x.2.2]) 198 (0,0))::(r,LO)::(X++T'))))) (γ []) ?_;have lr:(Yv F pre).2.length=pre.length:=gk F pre;refine AP (GN (k:=1) (yb:=8) (n:=pre.length) (xs:=(Yv F pre).2.map CU) (news:=[CU (JS R x.1 x.2.1 x.2.2).1.1]) (zs:=[ι 0]) (cs:=cs) rfl rfl rfl ho (Aa _ Al) (λj u hj=>by simpa using hj) rfl (by simp[Value.oneCell',CU]) (by unfold maxLen;omega) Af) ?_;rintro v' _ ⟨cs',eg,rfl⟩;have Js:v'.oneCell'=true:=eg.one;refine Bt (l':=NY b8 v::(cs'++((bl,Obj.cells (τ [CU (JS R x.1 x.2.1 x.2.2).1.1]) 3 (0,0))::CD b p s1 (JS R x.1 x.2.1 x.2.2).2 (X1++((GW,Obj.cells (τ [ι x.1,ι x.2.1,ι x.2.2]) 198 (0,0))::(r,LO)::(X++T')))))) (γ []) ?_;apply Nk
  ·exact GM rfl rfl Js Ca .zero D1
  ·rfl
  ·rfl
  rintro _ _ ⟨rfl,rfl⟩;refine Aj ?_;subst hLO;have e1:Yv F (pre++[x])=((JS R x.1 x.2.1 x.2.2).2,(Yv F pre).2++[(JS R x.1 x.2.1 x.2.2).1.1]):=by rw[oN,hRe];rfl
  refine Cn (CD b p s1 (Yv F (pre++[x])).1 (NY b8 v'::(cs'++((bl,Obj.cells (τ [CU (JS R x.1 x.2.1 x.2.2).1.1]) 3 (0,0))::(X1++((GW,Obj.cells (τ [ι x.1,ι x.2.1,ι x.2.2]) 198 (0,0))::X)))))) ?_ ⟨s1,v',cs',_,?_,?_,rfl⟩
  ·rw[e1];unfold CD;dsimp only[NY];exact γ []
  ·rw[e1,Ah];exact hR1
  ·rw[e1,Ah];simp only[At,AK,CZ];exact eg
 ·rintro D xs l Rx ⟨s,v,cs,X,hR,ho,rfl⟩;subst Rx;obtain⟨ids,hids⟩: ∃ids,ids=gn F T sh:=⟨_,rfl⟩
  have AbT:(Yv F (Ew F T sh)).2=ids:=hids.symm;rw[AbT] at ho;have Ef:(Ew F T sh).length=5*T+sh.toNat:=by unfold Ew;rw[O4,Ra]
  have xO:ids.length=5*T+sh.toNat:=by rw[hids];unfold gn;rw[gk,Ef]
  have ei:sh.toNat<=1:=by cases sh<;>decide
  rw[Ef] at ho hR;rcases ho.2 with⟨_,h0,_⟩|⟨gb,cap,sp,rfl,rfl,_⟩
  ·omega
  obtain⟨R0,hR0⟩: ∃R0,R0=(Yv F (Ew F T sh)).1:=⟨_,rfl⟩
  rw[<-hR0] at hR⊢;refine KG (l':=tU F C T sh ids sp b1 b5 b8 bo b gb cap 0++(CD b p s R0 (X++(Cv D::G)))) (by unfold tU CD;simp only[Qj,List.range_zero,CZ,Ag,Nat.sub_zero];exact γ []) ?_;iterate 3 refine bJ ?_
  refine wi (fr':=laF T b1 b5 b8 bo) ⟨rfl,rfl,rfl,rfl,rfl,trivial⟩ (Agj func66 rfl F C T sh DO hT ids sp xO b1 b5 b8 bo b gb cap _ ?_);obtain⟨os,N6⟩: ∃os,os=WK F T sh:=⟨_,rfl⟩
  have Aff:Qj ids T T=os:=by rw[N6,hids];rfl
  have qW:os.length=T:=by rw[N6];exact ZY _ _ _ (Bf _)
  refine Ou ?_;refine bE (α:=Unit) (λ_=>[(1,pV b1),(5,pV b5),(7,.slice (some ⟨bo,0,none⟩) T T),(9,ι (WL F T sh))]) (λ_=>NY b8 (.slice (some ⟨gb,0,none⟩) (5*T+sh.toNat) cap)::(gb,Obj.cells (τ (ids.map CU++sp)) 3 (0,0))::rh b1 F C T sh::Qi b5 b::WJ bo os::CD b p s R0 (X++(Cv D::G))) (λ_=>True) ?_ ?_
  ·unfold tU;rw[Aff];simp only[Ae,Ag];have Sy: ∀(x:Int) (m:Nat),x=m->m<ids.length->(τ (ids.map CU++sp))[0+x.toNat*1]?=some (CU (ids.getD m 0)):=λx m hx hm=>by
    subst hx;rw[AV,Dw,BG,AF,AH (by rw[A5];exact hm),A7,List.getD,Ak hm];rfl
   cases sh with
   |false=>refine Aj ?_;exact EM () trivial ⟨rfl,rfl,rfl,rfl,trivial⟩ .refl
   |true=>refine Aj ?_;refine Be (DQ (v:=CU (ids.getD (4*T) 0)) rfl ν (Sy (4*(T:Int)) (4*T) Af (by rw[xO];simp only[KE];omega))) ?_;refine Aj ?_;rw[hids];exact EM () trivial ⟨rfl,rfl,rfl,rfl,trivial⟩ .refl
  ·rintro _ _;iterate 6 refine bJ ?_
   refine wi (fr':=rk T b1 b5 bo (ι (WL F T sh)) (.slice none 0 0)) ⟨rfl,rfl,rfl,rfl,rfl,trivial⟩ ?_;obtain⟨Z,hZ⟩: ∃Z,Z=NY b8 (.slice (some ⟨gb,0,none⟩) (5*T+sh.toNat) cap)::(gb,Obj.cells (τ (ids.map CU++sp)) 3 (0,0))::rh b1 F C T sh::(X++(Cv D::G)):=⟨_,rfl⟩
   refine Eh (l':=Qi b5 b::WJ bo os::CD b p s R0 Z) (by rw[hZ];exact kz1 ..) ?_;have hRT:SH R0 os T=UQ F T sh:=by rw[hR0,N6];rfl
   refine Agk func66 rfl F C _ R0 b p s hR Af os T qW hT b1 b5 bo _ _ ?_;intro s1 Y v14 ct hR ht;rw[hRT] at hR⊢;refine Ou ?_;refine bE (α:=RL×Ac) (λ_=>rk T b1 b5 bo (ι (WL F T sh)) v14) (λx=>Qi b5 b::WJ bo os::(ct++(CD b p x.1 (Si F T sh) (x.2++Z)))) (λx=>IsRl F C 50 (Si F T sh) p x.1) ?_ ?_
   ·rw[hZ];refine Eh (kz2 ..) ?_;cases sh with
    |false=>
     have hB:Si F T false=UQ F T false:=by unfold Si;rw[Ab A0]
     rw[hB];refine Aj ?_;refine EM (s1,Y) ?_ ⟨rfl,rfl,rfl,rfl,rfl,trivial⟩ (kz3 ..);exact hR.mono (by simp only[MJ];omega)
    |true=>
     have hB:Si F T true={UQ F T true with H:=RY (UQ F T true).H os (WL F T true)}:=by unfold Si;rw[Ad rfl,N6]
     rw[hB];refine Aj ?_;have hs:=jE F C _ _ b p s1 hR Af os Af Af (WL F T true) bo T 202 (0,0) (WJ bo os::Qi b5 b::rh b1 F C T true::(ct++(Y++(NY b8 (.slice (some ⟨gb,0,none⟩) (5*T+true.toNat) cap)::(gb,Obj.cells (τ (ids.map CU++sp)) 3 (0,0))::(X++(Cv D::G)))))) (.head _);rw[qW] at hs;refine Bt (kz4 ..) ?_;refine AP (Az rfl rfl hs) ?_;rintro _ _ ⟨rfl,s2,Y2,kR,rfl⟩;refine Aj ?_;refine EM (s2,Y2++Y) ?_ ⟨rfl,rfl,rfl,rfl,rfl,trivial⟩ (Agm ..);exact kR.mono (by simp only[KE];omega)
   ·rintro⟨s2,Y2⟩ kR;simp only at kR⊢;iterate 1 refine bJ ?_
    have hBT:rl (Si F T sh) os T=IK F T sh:=by rw[N6];rfl
    refine Eh (kz5 ..) ?_;refine Agl func66 rfl F C _ _ b p s2 kR Af os T qW hT b1 b5 bo _ _ _ ?_;intro s3 W hR3;rw[hBT] at hR3⊢;rw[hZ];refine Aj ?_;refine AP (Az rfl rfl (oM b _)) ?_;rintro _ _ ⟨B,rfl,rfl⟩;refine Aj ?_;refine BF [D] rfl (kz6 ..) Ba ⟨B,b,v14,p,s3,_,ct,rfl,hR3.mono Af,?_,rfl⟩;rw[<-N6];exact ht
 ·intro D c pre l DG hx;exact hx.elim
end Go.Proofs.YtlifcingifodfaaGreat
