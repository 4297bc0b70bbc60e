/- Laws that the statement's proof leans on (joined out of several texts). -/
import Derived.Test.YtlkgekpmileobaaGreatGb8
import Derived.Test.YtlkgekpmileobaaGreatGb9
import Derived.Test.YtlkgekpmileobaaGreatGb10
set_option linter.unusedVariables false
set_option linter.unusedSimpArgs false
namespace Go.Proofs.YtlkgekpmileobaaGreat
open Tryz
open List(toArray)
open Go.RowKit
set_option maxRecDepth 20000
set_option maxHeartbeats 400000
variable{es:List Kl}{clock b m v k n:Nat}{a:Int}{lq:List Ab}{α:Type}
theorem Dg(x lo hi:Int)(l:List Ab):Fn prog 244 [.int .i64 x,.int .i64 lo,.int .i64 hi] l λv l'=>v= .bool (decide (lo<=x)&&decide (x<=hi))/\l'=l:=by
 refine AO func244 ntmps244 λE=>?_;by_cases h:lo<=x
 ·rw[At h,Bn];exact Es
 ·rw[Aw h,Bd];exact Es
theorem Xy(x:Int)(l:List Ab):Fn prog 246 [.int .i64 x] l λv l'=>v= .bool (decide (0<=x)&&decide (x<=7))/\l'=l:=by
 refine AO func246 ntmps246 λE=>?_;by_cases h:0<=x
 ·rw[At h,Bn];exact Es
 ·rw[Aw h,Bd];exact Es
def F6(v k:Nat):List Nat:=(List.range k).filter λi=>v.testBit i
theorem Rh(h:v.testBit k=true):F6 v (k+1)=F6 v k++[k]:=by unfold F6;rw[Cs,Dl,List.filter_cons_of_pos h];rfl
theorem VU(h:v.testBit k=false):F6 v (k+1)=F6 v k:=by unfold F6;rw[Cs,Dl,HJ (by rw[h];simp)];simp
theorem Ri(v k:Nat): ∀m,F6 v k<+:F6 v (k+m)
 |0=>Ga
 |m+1=>(Ri v k m).trans (by
   show F6 v (k+m)<+:F6 v (k+m+1);cases h:v.testBit (k+m) with
   |true=>rw[Rh h];exact FZ _ _
   |false=>rw[VU h];exact Ga)
abbrev Pe(B v:Nat):Ab:=(B,.cells #[.int .u64 (v:Nat)] 34 (0,0))
theorem ed(v:Nat)(l:List Ab):Fn prog 313 [.int .u64 (v:Nat)] l λr l'=> ∃B,r= .func (.func 358) #[] #[.pointer (some ⟨B,0,none⟩)]/\l'=Pe B v::l:=by refine AO func313 ntmps313 λE=>?_;refine gz ?_;refine AS (DZ rfl rfl) ?_;rintro _ _ ⟨B,hB,rfl,rfl⟩;refine gz ?_;exact A8 .refl ⟨B,rfl,rfl⟩
theorem aK(B v:Nat)(hv:v<18446744073709551616):E2 prog 358 [.pointer (some ⟨B,0,none⟩)] (λi:Nat=>[.int .i64 i]) (λxs=>xs=F6 v 64) (λpre=>pre<+:F6 v 64)
 (λ_ l=>Pe B v∈l):=by
 refine⟨λr I Ix G0 hneed hY l G hG h0=>?_⟩;refine AO func358 ntmps358 λE=>?_;refine gz ?_;refine Cu (α:=Nat×List Ab) (λx=>[(0,.func (.yield r) #[] #[]),(1,.pointer (some ⟨B,0,none⟩)),(4,.int .i64 x.1)]) (λx=>x.2++G) (λx=>x.1<=64/\I (F6 v x.1) x.2) (λx=>64-x.1) (0,l) ⟨Bf _,h0⟩ ⟨rfl,rfl,rfl,trivial⟩ .refl ?_;rintro⟨k,l⟩ ⟨hk,hI⟩;simp only at hk hI⊢;have hm:=hneed _ _ G hG hI;by_cases hlt:k<64
 ·refine gz ?_;refine Bc (mi (n:=k) rfl rfl (by show k<=64;omega)) ?_;have hsh:((v:Nat):Int)/2^k=((v/2^k:Nat):Int):=by norm_cast
  rw[hsh];refine Bc (mj (b:=1) rfl rfl (DW (Nat.div_le_self _ _) hv) Af) ?_;rw[Nat.and_one_is_mod];cases hb:v.testBit k with
  |true=>
   have hb2:v/2^k%2=1:=by rw[Dt] at hb;simpa using hb
   have hp:F6 v k++[k]<+:F6 v 64:=by rw[<-Rh hb];have:=Ri v (k+1) (64-(k+1));rw[show k+1+(64-(k+1))=64 by omega] at this;exact this
   have hy:=hY (F6 v k) k l G hG hI hp;rw[hb2];refine gz ?_;refine It (CK rfl rfl hy) rfl rfl rfl ?_;rintro w l' ⟨l1,rfl,⟨rfl,hI'⟩|⟨rfl,hx⟩⟩
   ·refine gz ?_;exact BS (k+1,l1) ⟨by simp only;omega,by simp only;rw[Rh hb];exact hI'⟩ (by simp only;omega) ⟨rfl,rfl,rfl,trivial⟩ .refl
   ·refine gz ?_;exact A8 .refl ⟨l1,rfl,.inr ⟨_,hp,hx⟩⟩
  |false=>
   have hb2:v/2^k%2=0:=by rw[Dt] at hb;simp at hb;omega
   rw[hb2];refine gz ?_;exact BS (k+1,l) ⟨by simp only;omega,by simp only;rw[VU hb];exact hI⟩ (by simp only;omega) ⟨rfl,rfl,rfl,trivial⟩ .refl
 ·obtain rfl:k=64:=by omega
  refine gz ?_;exact A8 .refl ⟨l,rfl,.inl ⟨_,rfl,hI⟩⟩
def JQ(v:Nat)(n:Int):Bool:=(F6 v 64).all λj=>decide ((j:Int)<n)
abbrev bC(B:Nat)(x:Bool):Ab:=(B,.cells #[.bool x] 4 (0,0))
abbrev FR(B:Nat)(x:Int):Ab:=(B,.cells #[.int .i64 x] 3 (0,0))
theorem OD(v:Nat)(hv:v<18446744073709551616)(n:Int)(l:List Ab):Fn prog 245 [.int .u64 (v:Nat),.int .i64 n] l λr l'=>r= .bool (JQ v n)/\l'=l:=by
 refine AO func245 ntmps245 λE=>?_;refine Hj λb3=>?_;refine Hj λb4=>?_;refine AS (Az rfl rfl (ed v _)) ?_;rintro _ _ ⟨B,rfl,rfl⟩;refine gz ?_;refine CU (α:=Nat) (ps:=[8]) (lb:=[.pointer (some ⟨B,0,none⟩)]) rfl (aK B v hv) (λ_=>rfl) rfl
  (λpre l=>l=[Pe B v,bC b4 false,FR b3 n]/\ ∀j,j∈pre->(j:Int)<n)
  (λc pre l=>c= .ret/\(∃j,j∈pre/\¬(j:Int)<n)/\l=[bC b4 false])
  _ l (λpre l2 X2 hX h=>by rw[h.1];exact List.Mem.head _) (by exact AR) ⟨rfl,by simp⟩ ?_ ?_ ?_
 ·rintro E r0 rec pre y l' T ⟨fn,tmps,D,rfl⟩ hT ⟨rfl,hpre⟩ hsp;simp only[Du,Ad,Ag];refine gz ?_;refine Cp (by exact Dw) ?_;by_cases hy:(y:Int)<n
  ·refine gz ?_;refine B9 _ .refl ⟨rfl,λj hj=>?_⟩;rcases AF.1 hj with hj|hj
   ·exact hpre j hj
   ·rw[AA.1 hj];exact hy
  ·refine gz ?_;exact D3 [bC b4 false] (by exact AR) ⟨rfl,⟨y,by simp,hy⟩,rfl⟩
 ·rintro D xs l' rfl ⟨rfl,hpre⟩;have e:JQ v n=true:=by unfold JQ;exact A6.2 λj hj=>by simpa using hpre j hj
  rw[e];simp only[Ad,Ag];refine gz ?_;exact AU [D] (bC b4 true::l) rfl (l':=l) (by exact AR) (by exact A7) (.drop .refl) ⟨rfl,rfl⟩
 ·rintro D c pre l' hsp ⟨rfl,⟨j,hj,hn⟩,rfl⟩;have e:JQ v n=false:=by
   cases h:JQ v n with
   |false=>rfl
   |true=>exact absurd (by simpa using A6.1 h j (hsp.subset hj)) hn
  rw[e];simp only[Ad,Ag];refine gz ?_;exact AU [D] (bC b4 false::l) rfl (l':=l) (by exact AR) (by exact A7) (.drop .refl) ⟨rfl,rfl⟩
structure CapT where
 kind:Int
 obj:Int
 rights:Int
 badge:Int
 guard:Int
 bits:Int
 serial:Int
 page:Int
abbrev BR(c:CapT):List Value:=[.int .i64 c.kind,.int .i64 c.obj,.int .i64 c.rights,.int .u64 c.badge,.int .i64 c.guard,.int .i64 c.bits,.int .i64 c.serial,.int .i64 c.page]
abbrev qW:List (Option IntKind):=[some .i64,some .i64,some .i64,some .u64,some .i64,some .i64,some .i64,some .i64]
theorem D9(c:CapT):AllK qW (BR c):=⟨_,_,rfl,⟨_,rfl⟩,_,_,rfl,⟨_,rfl⟩,_,_,rfl,⟨_,rfl⟩,_,_,rfl,⟨_,rfl⟩,_,_,rfl,⟨_,rfl⟩,_,_,rfl,⟨_,rfl⟩,_,_,rfl,⟨_,rfl⟩,_,_,rfl,⟨_,rfl⟩,rfl⟩
theorem ee: ∀x y,BR x=BR y->x=y:=λx y h=>by cases x;cases y;simp only[BR,CJ,Value.int.injEq,KU,Ml] at h;simp only[CapT.mk.injEq];exact h
instance:EQ prog 74 qW:=⟨Bv⟩
abbrev Bp(B:Nat)(c:CapT):Ab:=(B,.cells (toArray (BR c)) 74 (0,0))
def KR(a b:CapT):Bool:=BQ (BR a) (BR b)
theorem Uu{a b:CapT}:KR a b=true<->a=b:=by unfold KR;rw[FW (D9 a) (D9 b)];exact⟨ee a b,λh=>by rw[h]⟩
def PZ(x:Int):Nat:=(x%18446744073709551616).toNat
theorem jA(x:Int):PZ x<18446744073709551616:=by have h1:=Int.emod_nonneg x (b:=(18446744073709551616:Int)) Af;have h2:=Int.emod_lt_of_pos x (b:=(18446744073709551616:Int)) Af;unfold PZ;omega
theorem Tp(x:Int):IntKind.u64.wrap x=((PZ x:Nat):Int):=by
 have h1:=Int.emod_nonneg x (b:=(18446744073709551616:Int)) Af;have:IntKind.u64.wrap x=x%18446744073709551616:=by simp[IntKind.wrap,IntKind.signed,IntKind.bits]
 rw[this];unfold PZ;omega
def LX(x:Int):Bool:=decide (1<=x)&&decide (x<=65535)
abbrev Zg(c:CapT):CapT:=⟨c.kind,0,0,0,0,0,0,0⟩
abbrev Hc(c:CapT):CapT:=⟨c.kind,c.obj,0,0,0,0,0,0⟩
abbrev Tq(c:CapT):CapT:=⟨c.kind,c.obj,0,0,c.guard,c.bits,0,0⟩
abbrev Kr(c:CapT):CapT:=⟨c.kind,c.obj,c.rights,0,0,0,c.serial,c.page⟩
abbrev Ts(c:CapT):CapT:=⟨c.kind,c.obj,c.rights,c.badge,0,0,0,0⟩
def Zh(c:CapT):Bool:=(decide (0<=c.bits)&&decide (c.bits<=12))&&(decide (0<=c.guard)&&JQ (PZ c.guard) c.bits)
def Ly(c:CapT):Bool:=(decide (1<=c.serial)&&decide (c.serial<=16777215))&&(decide (0<=c.page)&&decide (c.page<=511))
def Xz(c:CapT):Bool:=(decide (1<=c.rights)&&decide (c.rights<=3))&&(Ly c||(decide (c.serial=0)&&decide (c.page=0)))
def nS(c:CapT):Bool:=(decide (0<=c.rights)&&decide (c.rights<=7))&&decide (c.badge<=16777215)
def E5(c:CapT):Bool:=
 if c.kind=0\/c.kind=7 then KR c (Zg c)
 else if c.kind=1\/c.kind=4\/c.kind=5\/c.kind=6\/c.kind=9 then KR c (Hc c)&&LX c.obj
 else if c.kind=2 then Zh c&&(KR c (Tq c)&&LX c.obj)
 else if c.kind=3 then Xz c&&(KR c (Kr c)&&LX c.obj)
 else if c.kind=8 then nS c&&(KR c (Ts c)&&LX c.obj)
 else false
set_option maxRecDepth 20000 in
theorem Hq(c:CapT)(l:List Ab):Fn prog 186 [.agg (toArray (BR c))] l λv l'=>v= .bool (E5 c)/\l'=l:=by
 refine AO func186 ntmps186 λE=>?_;refine AQ λb1=>?_;refine AS e_alloc ?_;rintro _ _ ⟨b3,_,rfl,rfl⟩;iterate 10 refine Xo ?_
 by_cases h0:c.kind=0\/c.kind=7
 ·have e:E5 c=KR c (Zg c):=by unfold E5;rw[Ae h0]
  rw[e];rcases h0 with h0|h0
  ·refine Aj ?_;refine Bc (FJ (ys:=BR (Zg c)) rfl rfl (D9 c) (D9 _)) ?_;exact Es
  ·refine Aj ?_;refine Bc (FJ (ys:=BR (Zg c)) rfl rfl (D9 c) (D9 _)) ?_;exact Es
 by_cases h1:c.kind=1\/c.kind=4\/c.kind=5\/c.kind=6\/c.kind=9
 ·have e:E5 c=(KR c (Hc c)&&LX c.obj):=by unfold E5;rw[Ac h0,Ae h1]
  rw[e];unfold LX;rcases h1 with h1|h1|h1|h1|h1
  ·refine Aj ?_;refine Bc (FJ (ys:=BR (Hc c)) rfl rfl (D9 c) (D9 _)) ?_;rw[show BQ (BR c) (BR (Hc c))=KR c (Hc c) from rfl];cases he:KR c (Hc c) with
   |false=>rw[Bd];exact Es
   |true=>rw[Bn];refine Aj ?_;refine N9 (AK rfl rfl λl2 _=>Dg c.obj 1 65535 l2) rfl rfl rfl ?_;exact Es
  ·refine Aj ?_;refine Bc (FJ (ys:=BR (Hc c)) rfl rfl (D9 c) (D9 _)) ?_;rw[show BQ (BR c) (BR (Hc c))=KR c (Hc c) from rfl];cases he:KR c (Hc c) with
   |false=>rw[Bd];exact Es
   |true=>rw[Bn];refine Aj ?_;refine N9 (AK rfl rfl λl2 _=>Dg c.obj 1 65535 l2) rfl rfl rfl ?_;exact Es
  ·refine Aj ?_;refine Bc (FJ (ys:=BR (Hc c)) rfl rfl (D9 c) (D9 _)) ?_;rw[show BQ (BR c) (BR (Hc c))=KR c (Hc c) from rfl];cases he:KR c (Hc c) with
   |false=>rw[Bd];exact Es
   |true=>rw[Bn];refine Aj ?_;refine N9 (AK rfl rfl λl2 _=>Dg c.obj 1 65535 l2) rfl rfl rfl ?_;exact Es
  ·refine Aj ?_;refine Bc (FJ (ys:=BR (Hc c)) rfl rfl (D9 c) (D9 _)) ?_;rw[show BQ (BR c) (BR (Hc c))=KR c (Hc c) from rfl];cases he:KR c (Hc c) with
   |false=>rw[Bd];exact Es
   |true=>rw[Bn];refine Aj ?_;refine N9 (AK rfl rfl λl2 _=>Dg c.obj 1 65535 l2) rfl rfl rfl ?_;exact Es
  ·refine Aj ?_;refine Bc (FJ (ys:=BR (Hc c)) rfl rfl (D9 c) (D9 _)) ?_;rw[show BQ (BR c) (BR (Hc c))=KR c (Hc c) from rfl];cases he:KR c (Hc c) with
   |false=>rw[Bd];exact Es
   |true=>rw[Bn];refine Aj ?_;refine N9 (AK rfl rfl λl2 _=>Dg c.obj 1 65535 l2) rfl rfl rfl ?_;exact Es
 by_cases h2:c.kind=2
 ·have e:E5 c=(Zh c&&(KR c (Tq c)&&LX c.obj)):=by unfold E5;rw[Ac h0,Ac h1,Ae h2]
  rw[e];unfold Zh LX;refine Aj ?_;refine Ce [5,7] 8 ([Bp b1 c]) ?_;refine BI ?_;refine Aj ?_;refine Bc (AK rfl rfl λl2 _=>Dg c.bits 0 12 l2) ?_;cases k1:(decide (0<=c.bits)&&decide (c.bits<=12)) with
  |false=>rw[Bd,Bd];exact Es
  |true=>
   rw[Bn];by_cases k2:0<=c.guard
   case neg=>rw[Aw k2,Bd,Bd];exact Es
   rw[At k2,Bn];refine Aj ?_;refine N9 (Ol rfl) rfl rfl rfl ?_;rw[Tp];refine Aj ?_;refine N9 (AK rfl rfl λl2 _=>OD (PZ c.guard) (jA _) c.bits l2) rfl rfl rfl ?_;cases k3:JQ (PZ c.guard) c.bits with
   |false=>rw[Bd];exact Es
   |true=>
    rw[Bn];refine Aj ?_;refine Bc (FJ (ys:=BR (Tq c)) rfl rfl (D9 c) (D9 _)) ?_;rw[show BQ (BR c) (BR (Tq c))=KR c (Tq c) from rfl];cases he:KR c (Tq c) with
    |false=>rw[Bd];exact Es
    |true=>rw[Bn];refine Aj ?_;refine N9 (AK rfl rfl λl2 _=>Dg c.obj 1 65535 l2) rfl rfl rfl ?_;exact Es
 by_cases h3:c.kind=3
 ·have e:E5 c=(Xz c&&(KR c (Kr c)&&LX c.obj)):=by unfold E5;rw[Ac h0,Ac h1,Ac h2,Ae h3]
  rw[e];unfold Xz LX;refine Aj ?_;refine Ce [7,9,11] 12 ([Bp b1 c]) ?_;refine BI ?_;refine Aj ?_;refine Bc (AK rfl rfl λl2 _=>Dg c.serial 1 16777215 l2) ?_;cases k1:(decide (1<=c.serial)&&decide (c.serial<=16777215)) with
  |false=>
   have kp:Ly c=false:=by unfold Ly;rw[k1];rfl
   refine Aj ?_;refine Bc (AK rfl rfl λl2 _=>Dg c.rights 1 3 l2) ?_;cases kr:(decide (1<=c.rights)&&decide (c.rights<=3)) with
   |false=>rw[Bd,Bd];exact Es
   |true=>
    rw[Bn];rw[kp,KE];by_cases ks:c.serial=0
    case neg=>rw[Aw ks,Bd,Bd];exact Es
    rw[At ks,Bn];by_cases kg:c.page=0
    case neg=>rw[Aw kg,Bd];exact Es
    rw[At kg,Bn];refine Aj ?_;refine Bc (FJ (ys:=BR (Kr c)) rfl rfl (D9 c) (D9 _)) ?_;rw[show BQ (BR c) (BR (Kr c))=KR c (Kr c) from rfl];cases he:KR c (Kr c) with
    |false=>rw[Bd];exact Es
    |true=>rw[Bn];refine Aj ?_;refine N9 (AK rfl rfl λl2 _=>Dg c.obj 1 65535 l2) rfl rfl rfl ?_;exact Es
  |true=>
   refine Aj ?_;refine N9 (AK rfl rfl λl2 _=>Dg c.page 0 511 l2) rfl rfl rfl ?_;cases k2:(decide (0<=c.page)&&decide (c.page<=511)) with
   |false=>
    have kp:Ly c=false:=by unfold Ly;rw[k1,k2];rfl
    refine Aj ?_;refine Bc (AK rfl rfl λl2 _=>Dg c.rights 1 3 l2) ?_;cases kr:(decide (1<=c.rights)&&decide (c.rights<=3)) with
    |false=>rw[Bd,Bd];exact Es
    |true=>
     rw[Bn];rw[kp,KE];by_cases ks:c.serial=0
     case neg=>rw[Aw ks,Bd,Bd];exact Es
     rw[At ks,Bn];by_cases kg:c.page=0
     case neg=>rw[Aw kg,Bd];exact Es
     rw[At kg,Bn];refine Aj ?_;refine Bc (FJ (ys:=BR (Kr c)) rfl rfl (D9 c) (D9 _)) ?_;rw[show BQ (BR c) (BR (Kr c))=KR c (Kr c) from rfl];cases he:KR c (Kr c) with
     |false=>rw[Bd];exact Es
     |true=>rw[Bn];refine Aj ?_;refine N9 (AK rfl rfl λl2 _=>Dg c.obj 1 65535 l2) rfl rfl rfl ?_;exact Es
   |true=>
    have kp:Ly c=true:=by unfold Ly;rw[k1,k2];rfl
    refine Aj ?_;refine Bc (AK rfl rfl λl2 _=>Dg c.rights 1 3 l2) ?_;cases kr:(decide (1<=c.rights)&&decide (c.rights<=3)) with
    |false=>rw[Bd,Bd];exact Es
    |true=>
     rw[Bn];rw[kp,Bool.true_or,Bn];refine Aj ?_;refine Bc (FJ (ys:=BR (Kr c)) rfl rfl (D9 c) (D9 _)) ?_;rw[show BQ (BR c) (BR (Kr c))=KR c (Kr c) from rfl];cases he:KR c (Kr c) with
     |false=>rw[Bd];exact Es
     |true=>rw[Bn];refine Aj ?_;refine N9 (AK rfl rfl λl2 _=>Dg c.obj 1 65535 l2) rfl rfl rfl ?_;exact Es
 by_cases h8:c.kind=8
 ·have e:E5 c=(nS c&&(KR c (Ts c)&&LX c.obj)):=by unfold E5;rw[Ac h0,Ac h1,Ac h2,Ac h3,Ae h8]
  rw[e];unfold nS LX;refine Aj ?_;refine Ce [5,7] 8 ([Bp b1 c]) ?_;refine BI ?_;refine Aj ?_;refine Bc (AK rfl rfl λl2 _=>Xy c.rights l2) ?_;cases k1:(decide (0<=c.rights)&&decide (c.rights<=7)) with
  |false=>rw[Bd,Bd];exact Es
  |true=>
   rw[Bn];by_cases k2:c.badge<=16777215
   case neg=>rw[Aw k2,Bd];exact Es
   rw[At k2,Bn];refine Aj ?_;refine Bc (FJ (ys:=BR (Ts c)) rfl rfl (D9 c) (D9 _)) ?_;rw[show BQ (BR c) (BR (Ts c))=KR c (Ts c) from rfl];cases he:KR c (Ts c) with
   |false=>rw[Bd];exact Es
   |true=>rw[Bn];refine Aj ?_;refine N9 (AK rfl rfl λl2 _=>Dg c.obj 1 65535 l2) rfl rfl rfl ?_;exact Es
 have e:E5 c=false:=by unfold E5;rw[Ac h0,Ac h1,Ac h2,Ac h3,Ac h8]
 rw[e];exact Es
theorem Rj{j:Nat}:j∈F6 v k<->j<k/\v.testBit j=true:=by unfold F6;rw[Cr,FN]
theorem VV(hv:v<18446744073709551616)(hn:n<=64):JQ v n=decide (v<2^n):=by
 by_cases h:v<2^n
 ·rw[At h];unfold JQ;refine A6.2 λj hj=>?_;obtain⟨h1,h2⟩:=Rj.1 hj;refine At ?_;by_cases hjn:j<n
  ·omega
  ·exfalso;have h3:v<2^j:=DY h (CG Af Af);rw[EH h3] at h2;cases h2
 ·rw[Aw h];cases hf:JQ v n with
  |false=>rfl
  |true=>
   exfalso;refine h (Nat.lt_pow_two_of_testBit v λi hi=>?_);cases hb:v.testBit i with
   |false=>rfl
   |true=>
    exfalso;by_cases hi64:i<64
    ·have:=A6.1 hf i (Rj.2 ⟨hi64,hb⟩);simp at this;omega
    ·have h3:v<2^i:=DY hv (by
      have:=CG (n:=2) Af (show 64<=i by omega);exact BW AW this)
     rw[EH h3] at hb;cases hb
structure Ik(c:CapT):Prop where
 badge:0<=c.badge
 guard:c.guard<=9223372036854775807
def HF(a b:CapT):Bool:=E5 a&&E5 b&&!decide (a.kind=0)&&decide (a.kind=b.kind)&&decide (a.obj=b.obj)
theorem Jw(a:Int): ∀(es:List Kl) (i:Nat),Gg a es i=Ep a es i
 |[],i=>rfl
 |e::es,i=>by unfold Gg Ep;rw[Jw a es (i+1)]
theorem IJ(a:Int)(es:List Kl):J4 a es=GZ a es:=by unfold J4 GZ;rw[Jw]
theorem Uv(a:Int)(v:Value)(clock:Nat)(es:List Kl):Mw a v clock es=J6 a v clock es:=by unfold Mw J6;rw[Jw];rfl
theorem XA(a:Int)(es:List Kl):NT a es=NC a es:=by unfold NT NC;rw[Jw];rfl
theorem Rk:a∈es.map (·.1)<->(GZ a es).isSome=true:=by
 unfold GZ;cases h:Ep a es 0 with
 |none=>
  simp only[DF,E0,Bg,iff_false];exact λhm=>by obtain⟨e,he,h2⟩:=Au.1 hm;exact HC.1 h e he h2
 |some p=>obtain⟨A,e,B,rfl,_,h1,_⟩:=GK (k:=p.1) (v:=p.2) h;simp[h1]
theorem EP{α:Type}(p:α->Bool): ∀(A B:List α),(A++B).find? p=(A.find? p).or (B.find? p)
 |[],B=>rfl
 |x::A,B=>by
  rw[Ad,BB,BB];cases p x with
  |true=>rfl
  |false=>exact EP p A B
theorem JR{α:Type}{p q:α->Bool}: ∀{l:List α},(∀x,x∈l->p x=q x)->l.find? p=l.find? q
 |[],_=>rfl
 |x::l,h=>by rw[BB,BB,h x Ak,JR λy hy=>h y (An _ hy)]
section
variable{key:α->Int}{val:α->Value}
def DG(key:α->Int)(L:List α)(a:Int):Option α:=L.find? λt=>decide (key t=a)
structure MB(key:α->Int)(val:α->Value)(L:List α)(es:List Kl)(clock:Nat):Prop where
 ok:KeysOk es clock
 get: ∀a,J4 a es=(DG key L a).map val
 asc:L.Pairwise λx y=>key x<key y
theorem MB.zero:MB key val [] [] 0:=⟨⟨by simp,by simp,by simp⟩,λa=>rfl,by simp⟩
theorem E6{L:List α}{t:α}(h:DG key L a=some t):t∈L/\key t=a:=⟨BN h,by simpa using Ei h⟩
theorem FE{L:List α}:DG key L a=none<-> ∀t,t∈L->key t≠a:=by unfold DG;rw[Bu];simp
theorem MB.nd{L:List α}(h:MB key val L es clock):(L.map key).Nodup:=by refine(Ck.2 (h.asc.imp λhxy=>?_));omega
theorem MB.keys{L:List α}(h:MB key val L es clock):(es.map (·.1)).Perm (L.map key):=by
 refine(E1 h.ok.keys h.nd).2 λa=>?_;rw[Rk,<-IJ,h.get];cases hf:DG key L a with
 |none=>
  simp only[DF,E0,Bg,false_iff];exact λhm=>by obtain⟨t,ht,h2⟩:=Au.1 hm;exact FE.1 hf t ht h2
 |some t=>obtain⟨h1,h2⟩:=E6 hf;simp only[BH,Hy,true_iff];exact Au.2 ⟨t,h1,h2⟩
theorem MB.len{L:List α}(h:MB key val L es clock):es.length=L.length:=by simpa using h.keys.length_eq
theorem MB.at_{L:List α}(h:MB key val L es clock){t:α}(ht:t∈L):DG key L (key t)=some t:=by
 cases hf:DG key L (key t) with
 |none=>exact absurd rfl (FE.1 hf t ht)
 |some u=>obtain⟨h1,h2⟩:=E6 hf;rw[MC h.nd h1 ht h2]
def K9(key:α->Int)(L:List α)(t:α):List α:=L.takeWhile (λx=>decide (key x<key t))++t::L.dropWhile λx=>decide (key x<key t)
theorem Tt{L:List α}(hs:L.Pairwise λx y=>key x<key y)(hne: ∀x,x∈L->key x≠a): ∃W Z,L.takeWhile (λx=>decide (key x<a))=W/\L.dropWhile (λx=>decide (key x<a))=Z/\L=W++Z/\(∀x,x∈W->key x<a)/\(∀x,x∈Z->a<key x):=by
 have hL:L.takeWhile (λx=>decide (key x<a))++L.dropWhile (λx=>decide (key x<a))=L:=BV ..;refine⟨_,_,rfl,rfl,hL.symm,λx hx=>by simpa using A6.1 (Hz (l:=L) (p:=λx=>decide (key x<a))) x hx,λx hx=>?_⟩;rw[<-hL,Bh] at hs;cases hd:L.dropWhile (λx=>decide (key x<a)) with
 |nil=>rw[hd] at hx;cases hx
 |cons y r=>
  have hy:¬key y<a:=by have:=List.head?_dropWhile_not (λx:α=>decide (key x<a)) L;rw[hd] at this;simpa using this
  have hyL:y∈L:=(Ic _).subset (by rw[hd];exact Ak);have:=hne y hyL;rw[hd] at hx;rcases Aq.1 hx with rfl|hx
  ·omega
  ·have h2:=hs.2.1;rw[hd] at h2;have:=(BY.1 h2).1 x hx;omega
theorem MB.add{L:List α}(h:MB key val L es clock){t:α}(hn:DG key L (key t)=none):MB key val (K9 key L t) (Mw (key t) (val t) clock es).1 (Mw (key t) (val t) clock es).2:=by
 have hne:=FE.1 hn;obtain⟨W,Z,e1,e2,hL,hall,hgt⟩:=Tt h.asc hne;have hs:=h.asc;rw[hL,Bh] at hs;have hi:K9 key L t=W++t::Z:=by unfold K9;rw[e1,e2]
 rw[Uv,hi];refine⟨h.ok.set _ _,λa=>?_,?_⟩
 ·rw[IJ,I9,<-IJ,h.get];unfold DG;rw[EP,BB];have e0:L.find? (λt=>decide (key t=a))=(W.find? (λt=>decide (key t=a))).or (Z.find? (λt=>decide (key t=a))):=by rw[<-EP,<-hL]
  rw[e0];by_cases ha:a=key t
  ·subst ha;rw[Ae rfl,At rfl];have:W.find? (λx=>decide (key x=key t))=none:=Bu.2 λx hx=>by have:=hall x hx;simp;omega
   rw[this];rfl
  ·rw[Ac ha,Aw λe=>ha e.symm]
 ·refine Bh.2 ⟨hs.1,BY.2 ⟨λx hx=>hgt x hx,hs.2.1⟩,λx hx y hy=>?_⟩;have h1:=hall x hx;rcases Aq.1 hy with rfl|hy
  ·exact h1
  ·have:=hgt y hy;omega
theorem MB.drop{L:List α}(h:MB key val L es clock)(a:Int):MB key val (L.filter λx=>decide (key x≠a)) (NT a es) clock:=by
 rw[XA];refine⟨h.ok.del a,λc=>?_,h.asc.filter _⟩;rw[IJ,Om h.ok,<-IJ,h.get];unfold DG;rw[List.find?_filter];by_cases hc:c=a
 ·subst hc;rw[Ae rfl];rw[show L.find? (λx=>decide (decide (key x≠c)=true/\decide (key x=c)=true))=none from Bu.2 λx _=>by simp];rfl
 ·rw[Ac hc];congr 1;apply JR;intro x _;by_cases hx:key x=c
  ·simp[hx,hc]
  ·simp[hx]
theorem Rl{L:List α}{t:α}(h:DG key L a=some t): ∃A B,L=A++t::B/\key t=a/\ ∀x,x∈A->key x≠a:=by obtain⟨h1,A,B,rfl,h2⟩:=List.find?_eq_some_iff_append.1 h;exact⟨A,B,rfl,by simpa using h1,λx hx=>by simpa using h2 x hx⟩
theorem XC{A B:List α}{x:α}(h:(A++x::B).Pairwise λx y=>key x<key y)(hx:key x=a):(A++x::B).filter (λx=>decide (key x≠a))=A++B:=by obtain⟨_,h2,h3⟩:=Bh.1 h;have h4:=(BY.1 h2).1;rw[Dl,HJ (by simpa using hx)];rw[List.filter_eq_self.2 λy hy=>by have:=h3 y hy x Ak;simp;omega,List.filter_eq_self.2 λy hy=>by have:=h4 y hy;simp;omega]
theorem MB.repl{A B:List α}{x y:α}(h:MB key val (A++x::B) es clock)(hk:key y=key x)(hv:val y=val x):MB key val (A++y::B) es clock:=by
 refine⟨h.ok,λa=>?_,?_⟩
 ·rw[h.get];unfold DG;rw[EP,EP,BB,BB,hk];cases A.find? (λt=>decide (key t=a)) with
  |some u=>rfl
  |none=>
   simp only[Option.none_or]
   split
   ·rw[BH,BH,hv]
   ·rfl
 ·have h1:=h.asc;obtain⟨h2,h3,h4⟩:=Bh.1 h1;obtain⟨h5,h6⟩:=BY.1 h3;refine Bh.2 ⟨h2,BY.2 ⟨λz hz=>by rw[hk];exact h5 z hz,h6⟩,λz hz w hw=>?_⟩;rcases Aq.1 hw with rfl|hw
  ·rw[hk];exact h4 z hz x Ak
  ·exact h4 z hz w (An _ hw)
end
structure NdS where
 id:Int
 C:List CapT
 gb:Nat
variable{S:List NdS}
def Qk(C:List CapT):List Value:=C.flatMap BR
abbrev Cv:CapT:=⟨0,0,0,0,0,0,0,0⟩
abbrev NdS.val(nd:NdS):Value:= .slice (some ⟨nd.gb,0,none⟩) nd.C.length nd.C.length
abbrev NdS.blk(nd:NdS):Ab:=(nd.gb,.cells (toArray (Qk nd.C)) 74 (0,0))
abbrev NdS.d(nd:NdS):Int×List CapT:=(nd.id,nd.C)
abbrev xC(b m:Nat):Ab:=(b,.cells (toArray [.map (some m)]) 407 (0,0))
abbrev SD:=List (Int×List CapT)
structure SB(b:Nat)(S:List NdS)(m:Nat)(es:List Kl)(clock:Nat)(lq:List Ab):Prop where
 eq:lq=xC b m::(m,Fh .i64 es clock)::S.map NdS.blk
 mb:MB NdS.id NdS.val S es clock
 sz: ∀nd,nd∈S->0<nd.C.length/\nd.C.length<=16
def IsS(b:Nat)(D:SD)(lq:List Ab):Prop:= ∃S m es clock,S.map NdS.d=D/\SB b S m es clock lq
abbrev CB:=Int×Int
abbrev Cj(s:CB):List Value:=[.int .i64 s.1,.int .i64 s.2]
abbrev C8(B:Nat)(s:CB):Ab:=(B,.cells (toArray (Cj s)) 61 (0,0))
theorem Jj:DG Prod.fst (S.map NdS.d) a=(DG NdS.id S a).map NdS.d:=by unfold DG;rw[List.find?_map];rfl
theorem SB.m1(h:SB b S m es clock lq):xC b m∈lq:=by rw[h.eq];exact .head _
theorem SB.m2(h:SB b S m es clock lq):(m,Fh .i64 es clock)∈lq:=by rw[h.eq];exact .tail _ (.head _)
theorem SB.m3(h:SB b S m es clock lq){nd:NdS}(hn:nd∈S):nd.blk∈lq:=by rw[h.eq];exact .tail _ (.tail _ (Au.2 ⟨nd,hn,rfl⟩))
theorem SB.look(h:SB b S m es clock lq)(a:Int):(J4 a es).getD (.slice none 0 0)=match DG NdS.id S a with
 |some nd=>nd.val
 |none=> .slice none 0 0:=by
 rw[h.mb.get];cases DG NdS.id S a<;>rfl
theorem qX(C:List CapT):(Qk C).length=C.length*8:=by
 induction C with
 |nil=>rfl
 |cons x r ih=>rw[show Qk (x::r)=BR x++Qk r from rfl,Ah,ih];show 8+r.length*8=(r.length+1)*8;omega
theorem Uw{C:List CapT}{c:CapT}(h:C[k]?=some c):(toArray (Qk C)).extract (k*8) (k*8+8)=toArray (BR c)/\k*8+8<=(toArray (Qk C)).size:=by obtain⟨h1,h2⟩:=JN (enc:=BR) (k:=8) (λ_=>rfl) [] C k c h;rw[Be] at h1 h2;refine⟨?_,by rw[Bm];exact h2⟩;apply BJ.1;rw[Gw];simp only[List.extract,CP];exact h1
def Iy(D:SD)(a:Int):Int:=match DG Prod.fst D a with
 |some x=>(x.2.length:Nat)
 |none=>0
def Fc(D:SD)(s:CB):Bool:=decide (0<=s.2)&&decide (s.2<Iy D s.1)
def DH(D:SD)(s:CB):CapT:=match DG Prod.fst D s.1 with
 |some x=>x.2.getD s.2.toNat Cv
 |none=>Cv
def getD'(D:SD)(s:CB):CapT×Int:=if Fc D s=true then(DH D s,0) else(Cv,3)
def G4(D:SD)(id n:Int):Int×SD:=if id<1\/n<1\/16<n then(2,D) else if(DG Prod.fst D id).isSome=true then(11,D) else(0,K9 Prod.fst D (id,List.replicate n.toNat Cv))
theorem jB{β:Type}{f:α->β}{key:α->Int}{key':β->Int}(hk: ∀x,key' (f x)=key x)(S:List α)(x:α):(K9 key S x).map f=K9 key' (S.map f) (f x):=by
 unfold K9;rw[Ap,AJ,List.takeWhile_map,List.dropWhile_map];have e:(λy=>decide (key y<key x))=(λy=>decide (key' y<key' (f x)))∘f:=by funext y;simp[hk]
 rw[e]
theorem SB.look1(h:SB b S m es clock lq)(a:Int): ∃p n cap,(J4 a es).getD (.slice none 0 0)= .slice p n cap/\Iy (S.map NdS.d) a=((n:Nat):Int):=by
 rw[h.look];unfold Iy;rw[Jj];cases DG NdS.id S a with
 |none=>exact⟨none,0,0,rfl,rfl⟩
 |some nd=>exact⟨_,_,_,rfl,rfl⟩
theorem SB.look2(h:SB b S m es clock lq)(a:Int)(hn:Iy (S.map NdS.d) a=((n:Nat):Int))(h0:0<n): ∃nd,DG NdS.id S a=some nd/\nd.C.length=n/\(J4 a es).getD (.slice none 0 0)=nd.val:=by
 rw[h.look];unfold Iy at hn;rw[Jj] at hn;cases hf:DG NdS.id S a with
 |none=>rw[hf] at hn;simp at hn;omega
 |some nd=>rw[hf] at hn;simp at hn;exact⟨nd,rfl,Af,rfl⟩
theorem new_any(l:List Ab):Fn prog 179 [] l λv l'=> ∃b,v= .pointer (some ⟨b,0,none⟩)/\ ∃lq,IsS b [] lq/\l'=lq++l:=by refine AO func179 ntmps179 λE=>?_;refine gz ?_;refine AS Na ?_;rintro _ _ ⟨m,hm,rfl,rfl⟩;refine Hj λb=>?_;exact By [] rfl .refl (by exact A7) ⟨b,rfl,_,⟨[],m,[],0,rfl,rfl,MB.zero,by simp⟩,rfl⟩
def eg(S:List NdS)(s:CB):Option Addr:=if Fc (S.map NdS.d) s=true then(DG NdS.id S s.1).map λnd=>⟨nd.gb,s.2.toNat*8,none⟩ else none
theorem II(b:Nat)(D:SD)(S:List NdS)(m clock:Nat)(es:List Kl)(lq:List Ab)(hD:S.map NdS.d=D)(hS:SB b S m es clock lq)(s:CB)(l:List Ab)(hsub: ∀c,c∈lq->c∈l):
 Fn prog 247 [.pointer (some ⟨b,0,none⟩),.agg (toArray (Cj s))] l λv l'=>v= .tuple #[.pointer (eg S s),.int .i64 (if Fc D s=true then 0 else 3)]/\l'=l:=by
 subst hD;have hm1:=hsub _ hS.m1;have hm2:=hsub _ hS.m2;obtain⟨p,n,cap,hlk,hn⟩:=hS.look1 s.1;refine AO func247 ntmps247 λE=>?_;refine gz ?_
 (first|refine AS (DZ rfl rfl) ?_|refine AS (CR rfl) ?_);rintro _ _ ⟨b3,_,rfl,rfl⟩
 by_cases h0:s.2<0
 ·have hok:Fc (S.map NdS.d) s=false:=by unfold Fc;rw[Aw (show ¬0<=s.2 by omega)];rfl
  rw[hok,show eg S s=none by unfold eg;rw[hok];rfl];refine gz ?_;refine Ce [] 17 _ ?_ (hR:=(λ_ h=>h));refine pz ?_;exact Es
 ·refine gz ?_;refine Ce [] 17 _ ?_ (hR:=(λ_ h=>h));refine pz ?_;rw[hlk];refine pz ?_;by_cases h1:s.2<(n:Int)
  ·have hok:Fc (S.map NdS.d) s=true:=by unfold Fc;rw[hn,At (show 0<=s.2 by omega),At h1];rfl
   obtain⟨nd,hf,hlen,hnd⟩:=hS.look2 s.1 hn Af;obtain⟨k,hk⟩: ∃k:Nat,s.2=(k:Nat):=⟨s.2.toNat,Af⟩
   rw[hok,show eg S s=some ⟨nd.gb,k*8,none⟩ by unfold eg;rw[hok,hf,hk];rfl];refine gz ?_;refine Ce [] 12 _ ?_ (hR:=(λ_ h=>h));refine pz ?_;rw[hnd,hk];refine pz ?_;exact Es
  ·have hok:Fc (S.map NdS.d) s=false:=by unfold Fc;rw[hn,Aw h1];simp
   rw[hok,show eg S s=none by unfold eg;rw[hok];rfl];exact Es
theorem get_any(b:Nat)(D:SD)(lq:List Ab)(hq:IsS b D lq)(s:CB)(l:List Ab)(hsub: ∀c,c∈lq->c∈l):
 Fn prog 230 [.pointer (some ⟨b,0,none⟩),.agg (toArray (Cj s))] l λv l'=>v= .tuple #[.agg (toArray (BR (getD' D s).1)),.int .i64 (getD' D s).2]/\l'=l:=by
 obtain⟨S,m,es,clock,rfl,hS⟩:=hq;refine AO func230 ntmps230 λE=>?_;refine Hj λb3=>?_;refine Hj λb4=>?_;refine Bc (AK rfl rfl λl2 hl=>II b _ S m clock es lq rfl hS s l2 λc hc=>hl c (.tail _ (.tail _ (hsub c hc)))) ?_;cases hok:Fc (S.map NdS.d) s with
 |false=>rw[show getD' (S.map NdS.d) s=(Cv,3) by unfold getD';rw[hok];rfl];simp only[Bg,CS];refine gz ?_;exact Cy (l':=l) (Bp b4 Cv::C8 b3 s::l) .refl (.drop (.drop .refl)) ⟨rfl,rfl⟩
 |true=>
  have hok2:=hok;unfold Fc at hok2;rw[AX,Br,Br] at hok2;obtain⟨p,n,cap,hlk,hn⟩:=hS.look1 s.1;obtain⟨nd,hf,hlen,hnd⟩:=hS.look2 s.1 hn Af;obtain⟨k,hk⟩: ∃k:Nat,s.2=(k:Nat):=⟨s.2.toNat,Af⟩
  obtain⟨c,hc⟩: ∃c,nd.C[k]?=some c:=⟨_,Am Af⟩
  have hat:DH (S.map NdS.d) s=c:=by unfold DH;rw[Jj,hf,hk];show nd.C.getD k Cv=c;rw[De,hc];rfl
  rw[show eg S s=some ⟨nd.gb,k*8,none⟩ by unfold eg;rw[hok,hf,hk];rfl,show getD' (S.map NdS.d) s=(c,0) by unfold getD';rw[hok,hat];rfl];simp only[CT];obtain⟨g1,g2⟩:=Uw hc;have hmb:nd.blk∈l:=hsub _ (hS.m3 (E6 hf).1);refine gz ?_;refine Bc (Dm (n:=8) rfl (.tail _ (.tail _ hmb)) g2 g1) ?_;refine gz ?_;exact Cy (l':=l) (Bp b4 c::C8 b3 s::l) .refl (.drop (.drop .refl)) ⟨rfl,rfl⟩
end Go.Proofs.YtlkgekpmileobaaGreat
