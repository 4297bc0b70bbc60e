/- Laws that the statement's proof leans on (joined out of several texts). -/
import Derived.Test.YtlifcingifodfaaGreatGc15
set_option maxHeartbeats 4000000
set_option linter.unusedVariables false
set_option linter.unusedSimpArgs false
namespace Go.Proofs.YtlifcingifodfaaGreat
open Tryz
open List(toArray)
open Go.RowKit
set_option maxRecDepth 20000
variable{es:List Lx}{clock b m v k n:Nat}{a:Int}{lq:Ad}{α:Type}
theorem DA(x lo hi:Int)(l:Ad):Fn prog 243 [.int .i64 x,.int .i64 lo,.int .i64 hi] l λv l'=>v= .bool (decide (lo<=x)&&decide (x<=hi))/\l'=l:=by
 refine AO func243 ntmps243 λE=>?_;by_cases h:lo<=x
 ·rw[Av h,Bu];exact E4
 ·rw[Ax h,Bh];exact E4
theorem am(x:Int)(l:Ad):Fn prog 245 [.int .i64 x] l λv l'=>v= .bool (decide (0<=x)&&decide (x<=7))/\l'=l:=by
 refine AO func245 ntmps245 λE=>?_;by_cases h:0<=x
 ·rw[Av h,Bu];exact E4
 ·rw[Ax h,Bh];exact E4
def GM(v k:Nat):List Nat:=(List.range k).filter λi=>v.testBit i
theorem Tx(h:v.testBit k=true):GM v (k+1)=GM v k++[k]:=by unfold GM;rw[CA,DI,List.filter_cons_of_pos h];rfl
theorem Yq(h:v.testBit k=false):GM v (k+1)=GM v k:=by unfold GM;rw[CA,DI,IH (by rw[h];simp)];simp
theorem Ty(v k:Nat): ∀m,GM v k<+:GM v (k+m)
 |0=>GR
 |m+1=>(Ty v k m).trans (by
   show GM v (k+m)<+:GM v (k+m+1);cases h:v.testBit (k+m) with
   |true=>rw[Tx h];exact GH _ _
   |false=>rw[Yq h];exact GR)
abbrev Q9(B v:Nat):Bg:=(B,.cells #[.int .u64 (v:Nat)] 34 (0,0))
theorem kU(v:Nat)(l:Ad):Fn prog 312 [.int .u64 (v:Nat)] l λr l'=> ∃B,r= .func (.func 357) #[] #[.pointer (some ⟨B,0,none⟩)]/\l'=Q9 B v::l:=by refine AO func312 ntmps312 λE=>?_;refine gz ?_;refine AR (Ex rfl rfl) ?_;rintro _ _ ⟨B,hB,rfl,rfl⟩;refine gz ?_;exact Bb .refl ⟨B,rfl,rfl⟩
theorem gr(B v:Nat)(hv:v<18446744073709551616):FA prog 357 [.pointer (some ⟨B,0,none⟩)] (λi:Nat=>[.int .i64 i]) (λxs=>xs=GM v 64) (λpre=>pre<+:GM v 64)
 (λ_ l=>Q9 B v∈l):=by
 refine⟨λr I Ix G0 Ca hY l G hG h0=>?_⟩;refine AO func357 ntmps357 λE=>?_;refine gz ?_;refine CF (α:=Nat×Ad) (λx=>[(0,.func (.yield r) #[] #[]),(1,.pointer (some ⟨B,0,none⟩)),(4,.int .i64 x.1)]) (λx=>x.2++G) (λx=>x.1<=64/\I (GM v x.1) x.2) (λx=>64-x.1) (0,l) ⟨Bm _,h0⟩ ⟨rfl,rfl,rfl,trivial⟩ .refl ?_;rintro⟨k,l⟩ ⟨hk,hI⟩;simp only at hk hI⊢;have hm:=Ca _ _ G hG hI;by_cases Dc:k<64
 ·refine gz ?_;refine Be (tQ (n:=k) rfl rfl (by show k<=64;omega)) ?_;have cL:((v:Nat):Int)/2^k=((v/2^k:Nat):Int):=by norm_cast
  rw[cL];refine Be (tS (b:=1) rfl rfl (Et (Nat.div_le_self _ _) hv) Af) ?_;rw[Nat.and_one_is_mod];cases hb:v.testBit k with
  |true=>
   have Wf:v/2^k%2=1:=by rw[DS] at hb;simpa using hb
   have hp:GM v k++[k]<+:GM v 64:=by rw[<-Tx hb];have:=Ty v (k+1) (64-(k+1));rw[show k+1+(64-(k+1))=64 by omega] at this;exact this
   have hy:=hY (GM v k) k l G hG hI hp;rw[Wf];refine gz ?_;refine Jr (C0 rfl rfl hy) rfl rfl rfl ?_;rintro w l' ⟨l1,rfl,⟨rfl,Lg⟩|⟨rfl,hx⟩⟩
   ·refine gz ?_;exact BR (k+1,l1) ⟨by simp only;omega,by simp only;rw[Tx hb];exact Lg⟩ (by simp only;omega) ⟨rfl,rfl,rfl,trivial⟩ .refl
   ·refine gz ?_;exact Bb .refl ⟨l1,rfl,.inr ⟨_,hp,hx⟩⟩
  |false=>
   have Wf:v/2^k%2=0:=by rw[DS] at hb;simp at hb;omega
   rw[Wf];refine gz ?_;exact BR (k+1,l) ⟨by simp only;omega,by simp only;rw[Yq hb];exact hI⟩ (by simp only;omega) ⟨rfl,rfl,rfl,trivial⟩ .refl
 ·obtain rfl:k=64:=by omega
  refine gz ?_;exact Bb .refl ⟨l,rfl,.inl ⟨_,rfl,hI⟩⟩
def KY(v:Nat)(n:Int):Bool:=(GM v 64).all λj=>decide ((j:Int)<n)
abbrev bC(B:Nat)(x:Bool):Bg:=(B,.cells #[.bool x] 4 (0,0))
abbrev GA(B:Nat)(x:Int):Bg:=(B,.cells #[.int .i64 x] 3 (0,0))
theorem Qh(v:Nat)(hv:v<18446744073709551616)(n:Int)(l:Ad):Fn prog 244 [.int .u64 (v:Nat),.int .i64 n] l λr l'=>r= .bool (KY v n)/\l'=l:=by
 refine AO func244 ntmps244 λE=>?_;refine Ih λb3=>?_;refine Ih λb4=>?_;refine AR (AA rfl rfl (kU v _)) ?_;rintro _ _ ⟨B,rfl,rfl⟩;refine gz ?_;refine Df (α:=Nat) (ps:=[8]) (lb:=[.pointer (some ⟨B,0,none⟩)]) rfl (gr B v hv) (λ_=>rfl) rfl
  (λpre l=>l=[Q9 B v,bC b4 false,GA b3 n]/\ ∀j,j∈pre->(j:Int)<n)
  (λc pre l=>c= .ret/\(∃j,j∈pre/\¬(j:Int)<n)/\l=[bC b4 false])
  _ l (λpre l2 X2 hX h=>by rw[h.1];exact List.Mem.head _) (by exact AU) ⟨rfl,by simp⟩ ?_ ?_ ?_
 ·rintro E r0 FS pre y l' T ⟨fn,tmps,D,rfl⟩ hT ⟨rfl,Gg⟩ DB;simp only[DU,Ae,Ag];refine gz ?_;refine CH (by exact DX) ?_;by_cases hy:(y:Int)<n
  ·refine gz ?_;refine Cg _ .refl ⟨rfl,λj hj=>?_⟩;rcases AH.1 hj with hj|hj
   ·exact Gg j hj
   ·rw[AE.1 hj];exact hy
  ·refine gz ?_;exact EC [bC b4 false] (by exact AU) ⟨rfl,⟨y,by simp,hy⟩,rfl⟩
 ·rintro D xs l' rfl ⟨rfl,Gg⟩;have e:KY v n=true:=by unfold KY;exact A3.2 λj hj=>by simpa using Gg j hj
  rw[e];simp only[Ae,Ag];refine gz ?_;exact AV [D] (bC b4 true::l) rfl (l':=l) (by exact AU) (by exact Ba) (.drop .refl) ⟨rfl,rfl⟩
 ·rintro D c pre l' DB ⟨rfl,⟨j,hj,hn⟩,rfl⟩;have e:KY v n=false:=by
   cases h:KY v n with
   |false=>rfl
   |true=>exact absurd (by simpa using A3.1 h j (DB.subset hj)) hn
  rw[e];simp only[Ae,Ag];refine gz ?_;exact AV [D] (bC b4 false::l) rfl (l':=l) (by exact AU) (by exact Ba) (.drop .refl) ⟨rfl,rfl⟩
structure CapT where
 kind:Int
 obj:Int
 rights:Int
 badge:Int
 guard:Int
 bits:Int
 serial:Int
 page:Int
abbrev B9(c:CapT):Ap:=[.int .i64 c.kind,.int .i64 c.obj,.int .i64 c.rights,.int .u64 c.badge,.int .i64 c.guard,.int .i64 c.bits,.int .i64 c.serial,.int .i64 c.page]
abbrev Aat:List (Option IntKind):=[some .i64,some .i64,some .i64,some .u64,some .i64,some .i64,some .i64,some .i64]
theorem EH(c:CapT):AllK Aat (B9 c):=⟨_,_,rfl,⟨_,rfl⟩,_,_,rfl,⟨_,rfl⟩,_,_,rfl,⟨_,rfl⟩,_,_,rfl,⟨_,rfl⟩,_,_,rfl,⟨_,rfl⟩,_,_,rfl,⟨_,rfl⟩,_,_,rfl,⟨_,rfl⟩,_,_,rfl,⟨_,rfl⟩,rfl⟩
theorem kV: ∀x y,B9 x=B9 y->x=y:=λx y h=>by cases x;cases y;simp only[B9,CZ,Value.int.injEq,Md,NK] at h;simp only[CapT.mk.injEq];exact h
instance:EQ prog 74 Aat:=⟨BB⟩
abbrev Bv(B:Nat)(c:CapT):Bg:=(B,.cells (toArray (B9 c)) 74 (0,0))
def Mb(a b:CapT):Bool:=BZ (B9 a) (B9 b)
theorem WD{a b:CapT}:Mb a b=true<->a=b:=by unfold Mb;rw[GD (EH a) (EH b)];exact⟨kV a b,λh=>by rw[h]⟩
def RV(x:Int):Nat:=(x%18446744073709551616).toNat
theorem qH(x:Int):RV x<18446744073709551616:=by have h1:=Int.emod_nonneg x (b:=(18446744073709551616:Int)) Af;have h2:=Int.emod_lt_of_pos x (b:=(18446744073709551616:Int)) Af;unfold RV;omega
theorem VB(x:Int):IntKind.u64.wrap x=((RV x:Nat):Int):=by
 have h1:=Int.emod_nonneg x (b:=(18446744073709551616:Int)) Af;have:IntKind.u64.wrap x=x%18446744073709551616:=by simp[IntKind.wrap,IntKind.signed,IntKind.bits]
 rw[this];unfold RV;omega
def Nk(x:Int):Bool:=decide (1<=x)&&decide (x<=65535)
abbrev dz(c:CapT):CapT:=⟨c.kind,0,0,0,0,0,0,0⟩
abbrev Ia(c:CapT):CapT:=⟨c.kind,c.obj,0,0,0,0,0,0⟩
abbrev VC(c:CapT):CapT:=⟨c.kind,c.obj,0,0,c.guard,c.bits,0,0⟩
abbrev LD(c:CapT):CapT:=⟨c.kind,c.obj,c.rights,0,0,0,c.serial,c.page⟩
abbrev VD(c:CapT):CapT:=⟨c.kind,c.obj,c.rights,c.badge,0,0,0,0⟩
def dA(c:CapT):Bool:=(decide (0<=c.bits)&&decide (c.bits<=12))&&(decide (0<=c.guard)&&KY (RV c.guard) c.bits)
def MZ(c:CapT):Bool:=(decide (1<=c.serial)&&decide (c.serial<=16777215))&&(decide (0<=c.page)&&decide (c.page<=511))
def ap(c:CapT):Bool:=(decide (1<=c.rights)&&decide (c.rights<=3))&&(MZ c||(decide (c.serial=0)&&decide (c.page=0)))
def wg(c:CapT):Bool:=(decide (0<=c.rights)&&decide (c.rights<=7))&&decide (c.badge<=16777215)
def FD(c:CapT):Bool:=
 if c.kind=0\/c.kind=7 then Mb c (dz c)
 else if c.kind=1\/c.kind=4\/c.kind=5\/c.kind=6\/c.kind=9 then Mb c (Ia c)&&Nk c.obj
 else if c.kind=2 then dA c&&(Mb c (VC c)&&Nk c.obj)
 else if c.kind=3 then ap c&&(Mb c (LD c)&&Nk c.obj)
 else if c.kind=8 then wg c&&(Mb c (VD c)&&Nk c.obj)
 else false
set_option maxRecDepth 20000 in
theorem Io(c:CapT)(l:Ad):Fn prog 185 [.agg (toArray (B9 c))] l λv l'=>v= .bool (FD c)/\l'=l:=by
 refine AO func185 ntmps185 λE=>?_;refine AQ λb1=>?_;refine AR e_alloc ?_;rintro _ _ ⟨b3,_,rfl,rfl⟩;iterate 10 refine ac ?_
 by_cases h0:c.kind=0\/c.kind=7
 ·have e:FD c=Mb c (dz c):=by unfold FD;rw[Ac h0]
  rw[e];rcases h0 with h0|h0
  ·refine Aj ?_;refine Be (Gr (ys:=B9 (dz c)) rfl rfl (EH c) (EH _)) ?_;exact E4
  ·refine Aj ?_;refine Be (Gr (ys:=B9 (dz c)) rfl rfl (EH c) (EH _)) ?_;exact E4
 by_cases h1:c.kind=1\/c.kind=4\/c.kind=5\/c.kind=6\/c.kind=9
 ·have e:FD c=(Mb c (Ia c)&&Nk c.obj):=by unfold FD;rw[Ab h0,Ac h1]
  rw[e];unfold Nk;rcases h1 with h1|h1|h1|h1|h1
  ·refine Aj ?_;refine Be (Gr (ys:=B9 (Ia c)) rfl rfl (EH c) (EH _)) ?_;rw[show BZ (B9 c) (B9 (Ia c))=Mb c (Ia c) from rfl];cases he:Mb c (Ia c) with
   |false=>rw[Bh];exact E4
   |true=>rw[Bu];refine Aj ?_;refine QO (AL rfl rfl λl2 _=>DA c.obj 1 65535 l2) rfl rfl rfl ?_;exact E4
  ·refine Aj ?_;refine Be (Gr (ys:=B9 (Ia c)) rfl rfl (EH c) (EH _)) ?_;rw[show BZ (B9 c) (B9 (Ia c))=Mb c (Ia c) from rfl];cases he:Mb c (Ia c) with
   |false=>rw[Bh];exact E4
   |true=>rw[Bu];refine Aj ?_;refine QO (AL rfl rfl λl2 _=>DA c.obj 1 65535 l2) rfl rfl rfl ?_;exact E4
  ·refine Aj ?_;refine Be (Gr (ys:=B9 (Ia c)) rfl rfl (EH c) (EH _)) ?_;rw[show BZ (B9 c) (B9 (Ia c))=Mb c (Ia c) from rfl];cases he:Mb c (Ia c) with
   |false=>rw[Bh];exact E4
   |true=>rw[Bu];refine Aj ?_;refine QO (AL rfl rfl λl2 _=>DA c.obj 1 65535 l2) rfl rfl rfl ?_;exact E4
  ·refine Aj ?_;refine Be (Gr (ys:=B9 (Ia c)) rfl rfl (EH c) (EH _)) ?_;rw[show BZ (B9 c) (B9 (Ia c))=Mb c (Ia c) from rfl];cases he:Mb c (Ia c) with
   |false=>rw[Bh];exact E4
   |true=>rw[Bu];refine Aj ?_;refine QO (AL rfl rfl λl2 _=>DA c.obj 1 65535 l2) rfl rfl rfl ?_;exact E4
  ·refine Aj ?_;refine Be (Gr (ys:=B9 (Ia c)) rfl rfl (EH c) (EH _)) ?_;rw[show BZ (B9 c) (B9 (Ia c))=Mb c (Ia c) from rfl];cases he:Mb c (Ia c) with
   |false=>rw[Bh];exact E4
   |true=>rw[Bu];refine Aj ?_;refine QO (AL rfl rfl λl2 _=>DA c.obj 1 65535 l2) rfl rfl rfl ?_;exact E4
 by_cases h2:c.kind=2
 ·have e:FD c=(dA c&&(Mb c (VC c)&&Nk c.obj)):=by unfold FD;rw[Ab h0,Ab h1,Ac h2]
  rw[e];unfold dA Nk;refine Aj ?_;refine Cn [5,7] 8 ([Bv b1 c]) ?_;refine BS ?_;refine Aj ?_;refine Be (AL rfl rfl λl2 _=>DA c.bits 0 12 l2) ?_;cases k1:(decide (0<=c.bits)&&decide (c.bits<=12)) with
  |false=>rw[Bh,Bh];exact E4
  |true=>
   rw[Bu];by_cases k2:0<=c.guard
   case neg=>rw[Ax k2,Bh,Bh];exact E4
   rw[Av k2,Bu];refine Aj ?_;refine QO (P4 rfl) rfl rfl rfl ?_;rw[VB];refine Aj ?_;refine QO (AL rfl rfl λl2 _=>Qh (RV c.guard) (qH _) c.bits l2) rfl rfl rfl ?_;cases k3:KY (RV c.guard) c.bits with
   |false=>rw[Bh];exact E4
   |true=>
    rw[Bu];refine Aj ?_;refine Be (Gr (ys:=B9 (VC c)) rfl rfl (EH c) (EH _)) ?_;rw[show BZ (B9 c) (B9 (VC c))=Mb c (VC c) from rfl];cases he:Mb c (VC c) with
    |false=>rw[Bh];exact E4
    |true=>rw[Bu];refine Aj ?_;refine QO (AL rfl rfl λl2 _=>DA c.obj 1 65535 l2) rfl rfl rfl ?_;exact E4
 by_cases h3:c.kind=3
 ·have e:FD c=(ap c&&(Mb c (LD c)&&Nk c.obj)):=by unfold FD;rw[Ab h0,Ab h1,Ab h2,Ac h3]
  rw[e];unfold ap Nk;refine Aj ?_;refine Cn [7,9,11] 12 ([Bv b1 c]) ?_;refine BS ?_;refine Aj ?_;refine Be (AL rfl rfl λl2 _=>DA c.serial 1 16777215 l2) ?_;cases k1:(decide (1<=c.serial)&&decide (c.serial<=16777215)) with
  |false=>
   have kp:MZ c=false:=by unfold MZ;rw[k1];rfl
   refine Aj ?_;refine Be (AL rfl rfl λl2 _=>DA c.rights 1 3 l2) ?_;cases kr:(decide (1<=c.rights)&&decide (c.rights<=3)) with
   |false=>rw[Bh,Bh];exact E4
   |true=>
    rw[Bu];rw[kp,LR];by_cases ks:c.serial=0
    case neg=>rw[Ax ks,Bh,Bh];exact E4
    rw[Av ks,Bu];by_cases kg:c.page=0
    case neg=>rw[Ax kg,Bh];exact E4
    rw[Av kg,Bu];refine Aj ?_;refine Be (Gr (ys:=B9 (LD c)) rfl rfl (EH c) (EH _)) ?_;rw[show BZ (B9 c) (B9 (LD c))=Mb c (LD c) from rfl];cases he:Mb c (LD c) with
    |false=>rw[Bh];exact E4
    |true=>rw[Bu];refine Aj ?_;refine QO (AL rfl rfl λl2 _=>DA c.obj 1 65535 l2) rfl rfl rfl ?_;exact E4
  |true=>
   refine Aj ?_;refine QO (AL rfl rfl λl2 _=>DA c.page 0 511 l2) rfl rfl rfl ?_;cases k2:(decide (0<=c.page)&&decide (c.page<=511)) with
   |false=>
    have kp:MZ c=false:=by unfold MZ;rw[k1,k2];rfl
    refine Aj ?_;refine Be (AL rfl rfl λl2 _=>DA c.rights 1 3 l2) ?_;cases kr:(decide (1<=c.rights)&&decide (c.rights<=3)) with
    |false=>rw[Bh,Bh];exact E4
    |true=>
     rw[Bu];rw[kp,LR];by_cases ks:c.serial=0
     case neg=>rw[Ax ks,Bh,Bh];exact E4
     rw[Av ks,Bu];by_cases kg:c.page=0
     case neg=>rw[Ax kg,Bh];exact E4
     rw[Av kg,Bu];refine Aj ?_;refine Be (Gr (ys:=B9 (LD c)) rfl rfl (EH c) (EH _)) ?_;rw[show BZ (B9 c) (B9 (LD c))=Mb c (LD c) from rfl];cases he:Mb c (LD c) with
     |false=>rw[Bh];exact E4
     |true=>rw[Bu];refine Aj ?_;refine QO (AL rfl rfl λl2 _=>DA c.obj 1 65535 l2) rfl rfl rfl ?_;exact E4
   |true=>
    have kp:MZ c=true:=by unfold MZ;rw[k1,k2];rfl
    refine Aj ?_;refine Be (AL rfl rfl λl2 _=>DA c.rights 1 3 l2) ?_;cases kr:(decide (1<=c.rights)&&decide (c.rights<=3)) with
    |false=>rw[Bh,Bh];exact E4
    |true=>
     rw[Bu];rw[kp,Bool.true_or,Bu];refine Aj ?_;refine Be (Gr (ys:=B9 (LD c)) rfl rfl (EH c) (EH _)) ?_;rw[show BZ (B9 c) (B9 (LD c))=Mb c (LD c) from rfl];cases he:Mb c (LD c) with
     |false=>rw[Bh];exact E4
     |true=>rw[Bu];refine Aj ?_;refine QO (AL rfl rfl λl2 _=>DA c.obj 1 65535 l2) rfl rfl rfl ?_;exact E4
 by_cases h8:c.kind=8
 ·have e:FD c=(wg c&&(Mb c (VD c)&&Nk c.obj)):=by unfold FD;rw[Ab h0,Ab h1,Ab h2,Ab h3,Ac h8]
  rw[e];unfold wg Nk;refine Aj ?_;refine Cn [5,7] 8 ([Bv b1 c]) ?_;refine BS ?_;refine Aj ?_;refine Be (AL rfl rfl λl2 _=>am c.rights l2) ?_;cases k1:(decide (0<=c.rights)&&decide (c.rights<=7)) with
  |false=>rw[Bh,Bh];exact E4
  |true=>
   rw[Bu];by_cases k2:c.badge<=16777215
   case neg=>rw[Ax k2,Bh];exact E4
   rw[Av k2,Bu];refine Aj ?_;refine Be (Gr (ys:=B9 (VD c)) rfl rfl (EH c) (EH _)) ?_;rw[show BZ (B9 c) (B9 (VD c))=Mb c (VD c) from rfl];cases he:Mb c (VD c) with
   |false=>rw[Bh];exact E4
   |true=>rw[Bu];refine Aj ?_;refine QO (AL rfl rfl λl2 _=>DA c.obj 1 65535 l2) rfl rfl rfl ?_;exact E4
 have e:FD c=false:=by unfold FD;rw[Ab h0,Ab h1,Ab h2,Ab h3,Ab h8]
 rw[e];exact E4
theorem Tz{j:Nat}:j∈GM v k<->j<k/\v.testBit j=true:=by unfold GM;rw[Co,E6]
theorem Yr(hv:v<18446744073709551616)(hn:n<=64):KY v n=decide (v<2^n):=by
 by_cases h:v<2^n
 ·rw[Av h];unfold KY;refine A3.2 λj hj=>?_;obtain⟨h1,h2⟩:=Tz.1 hj;refine Av ?_;by_cases hjn:j<n
  ·omega
  ·exfalso;have h3:v<2^j:=Ev h (CT Af Af);rw[Fk h3] at h2;cases h2
 ·rw[Ax h];cases hf:KY v n with
  |false=>rfl
  |true=>
   exfalso;refine h (Nat.lt_pow_two_of_testBit v λi hi=>?_);cases hb:v.testBit i with
   |false=>rfl
   |true=>
    exfalso;by_cases AcB:i<64
    ·have:=A3.1 hf i (Tz.2 ⟨AcB,hb⟩);simp at this;omega
    ·have h3:v<2^i:=Ev hv (by
      have:=CT (n:=2) Af (show 64<=i by omega);exact BY AZ this)
     rw[Fk h3] at hb;cases hb
structure Jg(c:CapT):Prop where
 badge:0<=c.badge
 guard:c.guard<=9223372036854775807
def IC(a b:CapT):Bool:=FD a&&FD b&&!decide (a.kind=0)&&decide (a.kind=b.kind)&&decide (a.obj=b.obj)
theorem Kw(a:Int): ∀(es:List Lx) (i:Nat),GY a es i=EZ a es i
 |[],i=>rfl
 |e::es,i=>by unfold GY EZ;rw[Kw a es (i+1)]
theorem JJ(a:Int)(es:List Lx):Li a es=HQ a es:=by unfold Li HQ;rw[Kw]
theorem WE(a:Int)(v:Value)(clock:Nat)(es:List Lx):N2 a v clock es=Lk a v clock es:=by unfold N2 Lk;rw[Kw]<;>rfl
theorem aq(a:Int)(es:List Lx):Py a es=Pc a es:=by unfold Py Pc;rw[Kw]<;>rfl
theorem TA:a∈es.map (·.1)<->(HQ a es).isSome=true:=by
 unfold HQ;cases h:EZ a es 0 with
 |none=>
  simp only[DJ,Fy,Bl,iff_false];exact λhm=>by obtain⟨e,he,h2⟩:=Au.1 hm;exact IA.1 h e he h2
 |some p=>obtain⟨A,e,B,rfl,_,h1,_⟩:=Hv (k:=p.1) (v:=p.2) h;simp[h1]
theorem Fs{α:Type}(p:α->Bool): ∀(A B:List α),(A++B).find? p=(A.find? p).or (B.find? p)
 |[],B=>rfl
 |x::A,B=>by
  rw[Ae,BG,BG];cases p x with
  |true=>rfl
  |false=>exact Fs p A B
theorem KZ{α:Type}{p q:α->Bool}: ∀{l:List α},(∀x,x∈l->p x=q x)->l.find? p=l.find? q
 |[],_=>rfl
 |x::l,h=>by rw[BG,BG,h x Ak,KZ λy hy=>h y (An _ hy)]
section
variable{key:α->Int}{val:α->Value}
def D6(key:α->Int)(L:List α)(a:Int):Option α:=L.find? λt=>decide (key t=a)
structure MB(key:α->Int)(val:α->Value)(L:List α)(es:List Lx)(clock:Nat):Prop where
 ok:KeysOk es clock
 get: ∀a,Li a es=(D6 key L a).map val
 asc:L.Pairwise λx y=>key x<key y
theorem MB.zero:MB key val [] [] 0:=⟨⟨by simp,by simp,by simp⟩,λa=>rfl,by simp⟩
theorem Fg{L:List α}{t:α}(h:D6 key L a=some t):t∈L/\key t=a:=⟨BK h,by simpa using Er h⟩
theorem Gj{L:List α}:D6 key L a=none<-> ∀t,t∈L->key t≠a:=by unfold D6;rw[Br];simp
theorem MB.nd{L:List α}(h:MB key val L es clock):(L.map key).Nodup:=by refine(Cu.2 (h.asc.imp λUJ=>?_));omega
theorem MB.keys{L:List α}(h:MB key val L es clock):(es.map (·.1)).Perm (L.map key):=by
 refine(Fz h.ok.keys h.nd).2 λa=>?_;rw[TA,<-JJ,h.get];cases hf:D6 key L a with
 |none=>
  simp only[DJ,Fy,Bl,false_iff];exact λhm=>by obtain⟨t,ht,h2⟩:=Au.1 hm;exact Gj.1 hf t ht h2
 |some t=>obtain⟨h1,h2⟩:=Fg hf;simp only[BQ,Iw,true_iff];exact Au.2 ⟨t,h1,h2⟩
theorem MB.len{L:List α}(h:MB key val L es clock):es.length=L.length:=by simpa using h.keys.length_eq
theorem MB.at_{L:List α}(h:MB key val L es clock){t:α}(ht:t∈L):D6 key L (key t)=some t:=by
 cases hf:D6 key L (key t) with
 |none=>exact absurd rfl (Gj.1 hf t ht)
 |some u=>obtain⟨h1,h2⟩:=Fg hf;rw[N7 h.nd h1 ht h2]
def Mt(key:α->Int)(L:List α)(t:α):List α:=L.takeWhile (λx=>decide (key x<key t))++t::L.dropWhile λx=>decide (key x<key t)
theorem VE{L:List α}(hs:L.Pairwise λx y=>key x<key y)(G5: ∀x,x∈L->key x≠a): ∃W Z,L.takeWhile (λx=>decide (key x<a))=W/\L.dropWhile (λx=>decide (key x<a))=Z/\L=W++Z/\(∀x,x∈W->key x<a)/\(∀x,x∈Z->a<key x):=by
 have hL:L.takeWhile (λx=>decide (key x<a))++L.dropWhile (λx=>decide (key x<a))=L:=Cb ..;refine⟨_,_,rfl,rfl,hL.symm,λx hx=>by simpa using A3.1 (Iy (l:=L) (p:=λx=>decide (key x<a))) x hx,λx hx=>?_⟩;rw[<-hL,Bp] at hs;cases hd:L.dropWhile (λx=>decide (key x<a)) with
 |nil=>rw[hd] at hx;cases hx
 |cons y r=>
  have hy:¬key y<a:=by have:=List.head?_dropWhile_not (λx:α=>decide (key x<a)) L;rw[hd] at this;simpa using this
  have hyL:y∈L:=(I6 _).subset (by rw[hd];exact Ak);have:=G5 y hyL;rw[hd] at hx;rcases At.1 hx with rfl|hx
  ·omega
  ·have h2:=hs.2.1;rw[hd] at h2;have:=(Cd.1 h2).1 x hx;omega
theorem MB.add{L:List α}(h:MB key val L es clock){t:α}(hn:D6 key L (key t)=none):MB key val (Mt key L t) (N2 (key t) (val t) clock es).1 (N2 (key t) (val t) clock es).2:=by
 have G5:=Gj.1 hn;obtain⟨W,Z,e1,e2,hL,Gv,XF⟩:=VE h.asc G5;have hs:=h.asc;rw[hL,Bp] at hs;have hi:Mt key L t=W++t::Z:=by unfold Mt;rw[e1,e2]
 rw[WE,hi];refine⟨h.ok.set _ _,λa=>?_,?_⟩
 ·rw[JJ,J4,<-JJ,h.get];unfold D6;rw[Fs,BG];have e0:L.find? (λt=>decide (key t=a))=(W.find? (λt=>decide (key t=a))).or (Z.find? (λt=>decide (key t=a))):=by rw[<-Fs,<-hL]
  rw[e0];by_cases ha:a=key t
  ·subst ha;rw[Ac rfl,Av rfl];have:W.find? (λx=>decide (key x=key t))=none:=Br.2 λx hx=>by have:=Gv x hx;simp;omega
   rw[this];rfl
  ·rw[Ab ha,Ax λe=>ha e.symm]
 ·refine Bp.2 ⟨hs.1,Cd.2 ⟨λx hx=>XF x hx,hs.2.1⟩,λx hx y hy=>?_⟩;have h1:=Gv x hx;rcases At.1 hy with rfl|hy
  ·exact h1
  ·have:=XF y hy;omega
theorem MB.drop{L:List α}(h:MB key val L es clock)(a:Int):MB key val (L.filter λx=>decide (key x≠a)) (Py a es) clock:=by
 rw[aq];refine⟨h.ok.del a,λc=>?_,h.asc.filter _⟩;rw[JJ,P5 h.ok,<-JJ,h.get];unfold D6;rw[List.find?_filter];by_cases hc:c=a
 ·subst hc;rw[Ac rfl];rw[show L.find? (λx=>decide (decide (key x≠c)=true/\decide (key x=c)=true))=none from Br.2 λx _=>by simp];rfl
 ·rw[Ab hc];congr 1;apply KZ;intro x _;by_cases hx:key x=c
  ·simp[hx,hc]
  ·simp[hx]
theorem TC{L:List α}{t:α}(h:D6 key L a=some t): ∃A B,L=A++t::B/\key t=a/\ ∀x,x∈A->key x≠a:=by obtain⟨h1,A,B,rfl,h2⟩:=List.find?_eq_some_iff_append.1 h;exact⟨A,B,rfl,by simpa using h1,λx hx=>by simpa using h2 x hx⟩
theorem au{A B:List α}{x:α}(h:(A++x::B).Pairwise λx y=>key x<key y)(hx:key x=a):(A++x::B).filter (λx=>decide (key x≠a))=A++B:=by obtain⟨_,h2,h3⟩:=Bp.1 h;have h4:=(Cd.1 h2).1;rw[DI,IH (by simpa using hx)];rw[List.filter_eq_self.2 λy hy=>by have:=h3 y hy x Ak;simp;omega,List.filter_eq_self.2 λy hy=>by have:=h4 y hy;simp;omega]
theorem MB.repl{A B:List α}{x y:α}(h:MB key val (A++x::B) es clock)(hk:key y=key x)(hv:val y=val x):MB key val (A++y::B) es clock:=by
 refine⟨h.ok,λa=>?_,?_⟩
 ·rw[h.get];unfold D6;rw[Fs,Fs,BG,BG,hk];cases A.find? (λt=>decide (key t=a)) with
  |some u=>rfl
  |none=>
   simp only[Option.none_or]
   split
   ·rw[BQ,BQ,hv]
   ·rfl
 ·have h1:=h.asc;obtain⟨h2,h3,h4⟩:=Bp.1 h1;obtain⟨h5,h6⟩:=Cd.1 h3;refine Bp.2 ⟨h2,Cd.2 ⟨λz hz=>by rw[hk];exact h5 z hz,h6⟩,λz hz w hw=>?_⟩;rcases At.1 hw with rfl|hw
  ·rw[hk];exact h4 z hz x Ak
  ·exact h4 z hz w (An _ hw)
end
structure NdS where
 id:Int
 C:List CapT
 gb:Nat
variable{S:List NdS}
def Sn(C:List CapT):Ap:=C.flatMap B9
abbrev CI:CapT:=⟨0,0,0,0,0,0,0,0⟩
abbrev NdS.val(nd:NdS):Value:= .slice (some ⟨nd.gb,0,none⟩) nd.C.length nd.C.length
abbrev NdS.blk(nd:NdS):Bg:=(nd.gb,.cells (toArray (Sn nd.C)) 74 (0,0))
abbrev NdS.d(nd:NdS):Int×List CapT:=(nd.id,nd.C)
abbrev xC(b m:Nat):Bg:=(b,.cells (toArray [.map (some m)]) 406 (0,0))
abbrev SD:=List (Int×List CapT)
structure SB(b:Nat)(S:List NdS)(m:Nat)(es:List Lx)(clock:Nat)(lq:Ad):Prop where
 eq:lq=xC b m::(m,FU .i64 es clock)::S.map NdS.blk
 mb:MB NdS.id NdS.val S es clock
 sz: ∀nd,nd∈S->0<nd.C.length/\nd.C.length<=16
def IsS(b:Nat)(D:SD)(lq:Ad):Prop:= ∃S m es clock,S.map NdS.d=D/\SB b S m es clock lq
abbrev Ck:=Int×Int
abbrev Ct(s:Ck):Ap:=[.int .i64 s.1,.int .i64 s.2]
abbrev Dv(B:Nat)(s:Ck):Bg:=(B,.cells (toArray (Ct s)) 61 (0,0))
theorem Kh:D6 Prod.fst (S.map NdS.d) a=(D6 NdS.id S a).map NdS.d:=by unfold D6;rw[List.find?_map];rfl
theorem SB.m1(h:SB b S m es clock lq):xC b m∈lq:=by rw[h.eq];exact .head _
theorem SB.m2(h:SB b S m es clock lq):(m,FU .i64 es clock)∈lq:=by rw[h.eq];exact .tail _ (.head _)
theorem SB.m3(h:SB b S m es clock lq){nd:NdS}(hn:nd∈S):nd.blk∈lq:=by rw[h.eq];exact .tail _ (.tail _ (Au.2 ⟨nd,hn,rfl⟩))
theorem SB.look(h:SB b S m es clock lq)(a:Int):(Li a es).getD (.slice none 0 0)=match D6 NdS.id S a with
 |some nd=>nd.val
 |none=> .slice none 0 0:=by
 rw[h.mb.get];cases D6 NdS.id S a<;>rfl
theorem Aau(C:List CapT):(Sn C).length=C.length*8:=by
 induction C with
 |nil=>rfl
 |cons x r ih=>rw[show Sn (x::r)=B9 x++Sn r from rfl,Ah,ih];show 8+r.length*8=(r.length+1)*8;omega
theorem WF{C:List CapT}{c:CapT}(h:C[k]?=some c):(toArray (Sn C)).extract (k*8) (k*8+8)=toArray (B9 c)/\k*8+8<=(toArray (Sn C)).size:=by obtain⟨h1,h2⟩:=KV (enc:=B9) (k:=8) (λ_=>rfl) [] C k c h;rw[Bi] at h1 h2;refine⟨?_,by rw[Bt];exact h2⟩;apply BU.1;rw[Hh];simp only[List.extract,CG];exact h1
def Jw(D:SD)(a:Int):Int:=match D6 Prod.fst D a with
 |some x=>(x.2.length:Nat)
 |none=>0
def FJ(D:SD)(s:Ck):Bool:=decide (0<=s.2)&&decide (s.2<Jw D s.1)
def D5(D:SD)(s:Ck):CapT:=match D6 Prod.fst D s.1 with
 |some x=>x.2.getD s.2.toNat CI
 |none=>CI
def getD'(D:SD)(s:Ck):CapT×Int:=if FJ D s=true then(D5 D s,0) else(CI,3)
def Hg(D:SD)(id n:Int):Int×SD:=if id<1\/n<1\/16<n then(2,D) else if(D6 Prod.fst D id).isSome=true then(11,D) else(0,Mt Prod.fst D (id,List.replicate n.toNat CI))
theorem qI{β:Type}{f:α->β}{key:α->Int}{key':β->Int}(hk: ∀x,key' (f x)=key x)(S:List α)(x:α):(Mt key S x).map f=Mt key' (S.map f) (f x):=by
 unfold Mt;rw[Aq,AJ,List.takeWhile_map,List.dropWhile_map];have e:(λy=>decide (key y<key x))=(λy=>decide (key' y<key' (f x)))∘f:=by funext y;simp[hk]
 rw[e]
theorem SB.look1(h:SB b S m es clock lq)(a:Int): ∃p n cap,(Li a es).getD (.slice none 0 0)= .slice p n cap/\Jw (S.map NdS.d) a=((n:Nat):Int):=by
 rw[h.look];unfold Jw;rw[Kh];cases D6 NdS.id S a with
 |none=>exact⟨none,0,0,rfl,rfl⟩
 |some nd=>exact⟨_,_,_,rfl,rfl⟩
theorem SB.look2(h:SB b S m es clock lq)(a:Int)(hn:Jw (S.map NdS.d) a=((n:Nat):Int))(h0:0<n): ∃nd,D6 NdS.id S a=some nd/\nd.C.length=n/\(Li a es).getD (.slice none 0 0)=nd.val:=by
 rw[h.look];unfold Jw at hn;rw[Kh] at hn;cases hf:D6 NdS.id S a with
 |none=>rw[hf] at hn;simp at hn;omega
 |some nd=>rw[hf] at hn;simp at hn;exact⟨nd,rfl,Af,rfl⟩
theorem new_any(l:Ad):Fn prog 178 [] l λv l'=> ∃b,v= .pointer (some ⟨b,0,none⟩)/\ ∃lq,IsS b [] lq/\l'=lq++l:=by refine AO func178 ntmps178 λE=>?_;refine gz ?_;refine AR OM ?_;rintro _ _ ⟨m,hm,rfl,rfl⟩;refine Ih λb=>?_;exact BD [] rfl .refl (by exact Ba) ⟨b,rfl,_,⟨[],m,[],0,rfl,rfl,MB.zero,by simp⟩,rfl⟩
def kW(S:List NdS)(s:Ck):Option Addr:=if FJ (S.map NdS.d) s=true then(D6 NdS.id S s.1).map λnd=>⟨nd.gb,s.2.toNat*8,none⟩ else none
theorem JI(b:Nat)(D:SD)(S:List NdS)(m clock:Nat)(es:List Lx)(lq:Ad)(hD:S.map NdS.d=D)(hS:SB b S m es clock lq)(s:Ck)(l:Ad)(CE: ∀c,c∈lq->c∈l):
 Fn prog 246 [.pointer (some ⟨b,0,none⟩),.agg (toArray (Ct s))] l λv l'=>v= .tuple #[.pointer (kW S s),.int .i64 (if FJ D s=true then 0 else 3)]/\l'=l:=by
 subst hD;have Xr:=CE _ hS.m1;have UL:=CE _ hS.m2;obtain⟨p,n,cap,ZI,hn⟩:=hS.look1 s.1;refine AO func246 ntmps246 λE=>?_;refine gz ?_
 (first|refine AR (Ex rfl rfl) ?_|refine AR (C4 rfl) ?_);rintro _ _ ⟨b3,_,rfl,rfl⟩
 by_cases h0:s.2<0
 ·have Dm:FJ (S.map NdS.d) s=false:=by unfold FJ;rw[Ax (show ¬0<=s.2 by omega)];rfl
  rw[Dm,show kW S s=none by unfold kW;rw[Dm];rfl];refine gz ?_;refine Cn [] 17 _ ?_ (hR:=(λ_ h=>h));refine pz ?_;exact E4
 ·refine gz ?_;refine Cn [] 17 _ ?_ (hR:=(λ_ h=>h));refine pz ?_;rw[ZI];refine pz ?_;by_cases h1:s.2<(n:Int)
  ·have Dm:FJ (S.map NdS.d) s=true:=by unfold FJ;rw[hn,Av (show 0<=s.2 by omega),Av h1];rfl
   obtain⟨nd,hf,Ei,KP⟩:=hS.look2 s.1 hn Af;obtain⟨k,hk⟩: ∃k:Nat,s.2=(k:Nat):=⟨s.2.toNat,Af⟩
   rw[Dm,show kW S s=some ⟨nd.gb,k*8,none⟩ by unfold kW;rw[Dm,hf,hk];rfl];refine gz ?_;refine Cn [] 12 _ ?_ (hR:=(λ_ h=>h));refine pz ?_;rw[KP,hk];refine pz ?_;exact E4
  ·have Dm:FJ (S.map NdS.d) s=false:=by unfold FJ;rw[hn,Ax h1];simp
   rw[Dm,show kW S s=none by unfold kW;rw[Dm];rfl];exact E4
theorem get_any(b:Nat)(D:SD)(lq:Ad)(hq:IsS b D lq)(s:Ck)(l:Ad)(CE: ∀c,c∈lq->c∈l):
 Fn prog 229 [.pointer (some ⟨b,0,none⟩),.agg (toArray (Ct s))] l λv l'=>v= .tuple #[.agg (toArray (B9 (getD' D s).1)),.int .i64 (getD' D s).2]/\l'=l:=by
 obtain⟨S,m,es,clock,rfl,hS⟩:=hq;refine AO func229 ntmps229 λE=>?_;refine Ih λb3=>?_;refine Ih λb4=>?_;refine Be (AL rfl rfl λl2 hl=>JI b _ S m clock es lq rfl hS s l2 λc hc=>hl c (.tail _ (.tail _ (CE c hc)))) ?_;cases Dm:FJ (S.map NdS.d) s with
 |false=>rw[show getD' (S.map NdS.d) s=(CI,3) by unfold getD';rw[Dm];rfl];simp only[Bl,C3];refine gz ?_;exact CM (l':=l) (Bv b4 CI::Dv b3 s::l) .refl (.drop (.drop .refl)) ⟨rfl,rfl⟩
 |true=>
  have jH:=Dm;unfold FJ at jH;rw[AW,Bj,Bj] at jH;obtain⟨p,n,cap,ZI,hn⟩:=hS.look1 s.1;obtain⟨nd,hf,Ei,KP⟩:=hS.look2 s.1 hn Af;obtain⟨k,hk⟩: ∃k:Nat,s.2=(k:Nat):=⟨s.2.toNat,Af⟩
  obtain⟨c,hc⟩: ∃c,nd.C[k]?=some c:=⟨_,Al Af⟩
  have hat:D5 (S.map NdS.d) s=c:=by unfold D5;rw[Kh,hf,hk];show nd.C.getD k CI=c;rw[Bk,hc];rfl
  rw[show kW S s=some ⟨nd.gb,k*8,none⟩ by unfold kW;rw[Dm,hf,hk];rfl,show getD' (S.map NdS.d) s=(c,0) by unfold getD';rw[Dm,hat];rfl];simp only[C6];obtain⟨g1,g2⟩:=WF hc;have u6:nd.blk∈l:=CE _ (hS.m3 (Fg hf).1);refine gz ?_;refine Be (Dt (n:=8) rfl (.tail _ (.tail _ u6)) g2 g1) ?_;refine gz ?_;exact CM (l':=l) (Bv b4 c::Dv b3 s::l) .refl (.drop (.drop .refl)) ⟨rfl,rfl⟩
end Go.Proofs.YtlifcingifodfaaGreat
