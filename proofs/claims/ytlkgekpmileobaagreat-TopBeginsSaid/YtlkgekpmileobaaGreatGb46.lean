/- Laws that the statement's proof leans on (joined out of several texts). -/
import Derived.Test.YtlkgekpmileobaaGreatGb8
import Derived.Test.YtlkgekpmileobaaGreatGb45
import Derived.Test.YtlkgekpmileobaaGreatGb42
import Derived.Test.YtlkgekpmileobaaGreatGb10
import Derived.Test.YtlkgekpmileobaaGreatGb40
set_option linter.unusedVariables false
set_option linter.unusedSimpArgs false
namespace Go.Proofs.YtlkgekpmileobaaGreat
open Tryz
open List(toArray)
open Go.RowKit
set_option maxRecDepth 20000
variable{F C k b:Nat}{S:KT}{p:RP}{s:RL}{G:List Ab}
class OB(o:IO):Prop where
 w:JW o.w
 r:o.op=1->0<=o.n2/\o.n2<=1000
 d:o.op=19->0<=o.n0/\o.n0<=2
def Ma(S:KT)(t:Int)(o:IO)(x y:CB):Int×KT:=
 if o.op=1 then LP S o x y else
 if o.op=2 then((Gi S.H x y (Ej (DH S.H.1 x) o.n0)).1,{S with H:=(Gi S.H x y (Ej (DH S.H.1 x) o.n0)).2}) else
 if o.op=3 then((Gi S.H x y (Il (DH S.H.1 x) o.n0 o.w.toNat)).1,{S with H:=(Gi S.H x y (Il (DH S.H.1 x) o.n0 o.w.toNat)).2}) else
 if o.op=4 then((Jo S.H x y).1,{S with H:=(Jo S.H x y).2}) else
 if o.op=5 then((LY S.H x y).1,{S with H:=(LY S.H x y).2}) else
 if o.op=6 then((P6 S x).1.2,(P6 S x).2) else
 if o.op=7 then((SM S x o.n0).1.2,(SM S x o.n0).2) else
 if o.op=8 then Sh S x y o.w else
 if o.op=9 then TY S x else
 if o.op=10 then Si S x y o.w o.n0 else
 if o.op=11 then T1 S x else
 if o.op=12 then TZ S x y else
 if o.op=13 then T0 S x y else
 if o.op=18 then(0,UZ S t) else
 if o.op=19 then Sb S o.n0 x y else
 if o.op=20 then LQ S o.n0 x else
 if o.op=21 then LR S x else
 if o.op=22 then J3 S x else
 if o.op=23 then Sf S o.n0 x else
 (2,S)
section
theorem pC{x y:CB}{m w:Int}(hw:JW w):EK prog F C b p 150 [pV p.h,Fp x,Fp y,.int .i64 m,Ba w] (k+1) S k (iV (Gi S.H x y (Il (DH S.H.1 x) m w.toNat)).1) {S with H:=(Gi S.H x y (Il (DH S.H.1 x) m w.toNat)).2}:=by
 obtain⟨n,rfl⟩: ∃n:Nat,w=n:=⟨w.toNat,by have:=hw.1;omega⟩
 have hn:n<18446744073709551616:=by have:=hw.2;omega
 rw[A3];exact⟨λs G h=>jZ h Af (λi hi=>(hi.der x y _ (Ro (hi.at x).2 m n)).mono Af) λi G hi h9=>Pi p.h S.H i hi h9 s.H h.ho x y m n hn G⟩
set_option maxHeartbeats 4000000 in
theorem pD(hK:IsK F C (k+8) S p s)(t:Int)(o:IO)(x y:CB)(ho:OB o):Fn prog 162 [M4 b t o x y] (Av b p s S G) (KK F C b p k (iV (Ma S t o x y).1) (Ma S t o x y).2 G):=by
 have mr:Co b p∈Av b p s S G:=mR λ_ h=>h;obtain⟨R,hR⟩: ∃R,Ma S t o x y=R:=⟨_,rfl⟩
 rw[hR];unfold Ma at hR;have z0:(toArray (iW b t o x y))[2+4+(0:Int).toNat*1]?=some (iV o.n0):=rfl;have hu:U6 o.w:=⟨ho.w⟩
 have hb:=ho.r;have hd:=ho.d;refine AO func162 ntmps162 λE=>?_;refine AQ λb1=>?_;by_cases e1:o.op=1
 ·rw[Ae e1] at hR;subst hR;refine Aj ?_;refine Fy (vs:=[M4 b t o x y]) ?_ (q:=(⟨λs G h=>gV h t o x y (hb e1)⟩:EK prog F C b p 210 [M4 b t o x y] (k+8) S k (iV (LP S o x y).1) (LP S o x y).2));intro S1 s1 L1 hS1 hK1 hT1 mr1;refine Aj ?_;exact A4
 rw[Ac e1] at hR;by_cases e2:o.op=2
 ·rw[Ae e2] at hR;subst hR;refine Aj ?_;refine Ch (Cf [11] 0 13) ?_;refine Ci ?_;refine Lj (vs:=[pV p.h,Fp x,Fp y,.int .i64 o.n0]) ?_;intro S1 s1 L1 hS1 hK1 hT1 mr1;refine Ci ?_;refine Aj ?_;exact A4
 rw[Ac e2] at hR;by_cases e3:o.op=3
 ·rw[Ae e3] at hR;subst hR;refine Aj ?_;refine Ch (Cf [14] 0 16) ?_;refine Ci ?_;refine Lj (vs:=[pV p.h,Fp x,Fp y,.int .i64 o.n0,Ba o.w]) ?_ (q:=pC ho.w);intro S1 s1 L1 hS1 hK1 hT1 mr1;refine Ci ?_;refine Aj ?_;exact A4
 rw[Ac e3] at hR;by_cases e4:o.op=4
 ·rw[Ae e4] at hR;subst hR;refine Aj ?_;refine Ch (Cf [7] 0 9) ?_;refine Ci ?_;refine Lj (vs:=[pV p.h,Fp x,Fp y]) ?_;intro S1 s1 L1 hS1 hK1 hT1 mr1;refine Ci ?_;refine Aj ?_;exact A4
 rw[Ac e4] at hR;by_cases e5:o.op=5
 ·rw[Ae e5] at hR;subst hR;refine Aj ?_;refine Ch (Cf [7] 0 9) ?_;refine Ci ?_;refine Lj (vs:=[pV p.h,Fp x,Fp y]) ?_;intro S1 s1 L1 hS1 hK1 hT1 mr1;refine Ci ?_;refine Aj ?_;exact A4
 rw[Ac e5] at hR;by_cases e6:o.op=6
 ·rw[Ae e6] at hR;subst hR;refine Aj ?_;refine Fy (vs:=[pV b,Fp x]) ?_;intro S1 s1 L1 hS1 hK1 hT1 mr1;refine Aj ?_;exact A4
 rw[Ac e6] at hR;by_cases e7:o.op=7
 ·rw[Ae e7] at hR;subst hR;refine Aj ?_;refine Fy (vs:=[pV b,Fp x,.int .i64 o.n0]) ?_;intro S1 s1 L1 hS1 hK1 hT1 mr1;refine Aj ?_;exact A4
 rw[Ac e7] at hR;by_cases e8:o.op=8
 ·rw[Ae e8] at hR;subst hR;refine Aj ?_;refine Fy (vs:=[pV b,Fp x,Fp y,Ba o.w]) ?_;intro S1 s1 L1 hS1 hK1 hT1 mr1;refine Aj ?_;exact A4
 rw[Ac e8] at hR;by_cases e9:o.op=9
 ·rw[Ae e9] at hR;subst hR;refine Aj ?_;refine Fy (vs:=[pV b,Fp x]) ?_;intro S1 s1 L1 hS1 hK1 hT1 mr1;refine Aj ?_;exact A4
 rw[Ac e9] at hR;by_cases e10:o.op=10
 ·rw[Ae e10] at hR;subst hR;refine Aj ?_;refine Fy (vs:=[pV b,Fp x,Fp y,Ba o.w,.int .i64 o.n0]) ?_;intro S1 s1 L1 hS1 hK1 hT1 mr1;refine Aj ?_;exact A4
 rw[Ac e10] at hR;by_cases e11:o.op=11
 ·rw[Ae e11] at hR;subst hR;refine Aj ?_;refine Fy (vs:=[pV b,Fp x]) ?_;intro S1 s1 L1 hS1 hK1 hT1 mr1;refine Aj ?_;exact A4
 rw[Ac e11] at hR;by_cases e12:o.op=12
 ·rw[Ae e12] at hR;subst hR;refine Aj ?_;refine Fy (vs:=[pV b,Fp x,Fp y]) ?_;intro S1 s1 L1 hS1 hK1 hT1 mr1;refine Aj ?_;exact A4
 rw[Ac e12] at hR;by_cases e13:o.op=13
 ·rw[Ae e13] at hR;subst hR;refine Aj ?_;refine Fy (vs:=[pV b,Fp x,Fp y]) ?_;intro S1 s1 L1 hS1 hK1 hT1 mr1;refine Aj ?_;exact A4
 rw[Ac e13] at hR;by_cases e18:o.op=18
 ·rw[Ae e18] at hR;subst hR;refine Aj ?_;refine Fy (vs:=[M4 b t o x y]) ?_ (q:=(⟨λs G h=>gQ h t o x y⟩:EK prog F C b p 221 [M4 b t o x y] (k+8) S (k+8) (iV 0) (UZ S t)));intro S1 s1 L1 hS1 hK1 hT1 mr1;refine Aj ?_;exact A4
 rw[Ac e18] at hR;by_cases e19:o.op=19
 ·rw[Ae e19] at hR;subst hR;refine Aj ?_;refine Fy (vs:=[M4 b t o x y]) ?_ (q:=(⟨λs G h=>pf h t o x y (hd e19)⟩:EK prog F C b p 222 [M4 b t o x y] (k+8) S (k+7) (iV (Sb S o.n0 x y).1) (Sb S o.n0 x y).2));intro S1 s1 L1 hS1 hK1 hT1 mr1;refine Aj ?_;exact A4
 rw[Ac e19] at hR;by_cases e20:o.op=20
 ·rw[Ae e20] at hR;subst hR;refine Aj ?_;refine Fy (vs:=[M4 b t o x y]) ?_ (q:=(⟨λs G h=>gW h t o x y⟩:EK prog F C b p 223 [M4 b t o x y] (k+8) S (k+8) (iV (LQ S o.n0 x).1) (LQ S o.n0 x).2));intro S1 s1 L1 hS1 hK1 hT1 mr1;refine Aj ?_;exact A4
 rw[Ac e20] at hR;by_cases e21:o.op=21
 ·rw[Ae e21] at hR;subst hR;refine Aj ?_;refine Fy (vs:=[M4 b t o x y]) ?_ (q:=(⟨λs G h=>gX h t o x y⟩:EK prog F C b p 224 [M4 b t o x y] (k+8) S (k+7) (iV (LR S x).1) (LR S x).2));intro S1 s1 L1 hS1 hK1 hT1 mr1;refine Aj ?_;exact A4
 rw[Ac e21] at hR;by_cases e22:o.op=22
 ·rw[Ae e22] at hR;subst hR;refine Aj ?_;refine Fy (vs:=[M4 b t o x y]) ?_ (q:=(⟨λs G h=>cJ h t o x y⟩:EK prog F C b p 225 [M4 b t o x y] (k+8) S (k+8) (iV (J3 S x).1) (J3 S x).2));intro S1 s1 L1 hS1 hK1 hT1 mr1;refine Aj ?_;exact A4
 rw[Ac e22] at hR;by_cases e23:o.op=23
 ·rw[Ae e23] at hR;subst hR;refine Aj ?_;refine Fy (vs:=[M4 b t o x y]) ?_ (q:=(⟨λs G h=>pj h t o x y⟩:EK prog F C b p 226 [M4 b t o x y] (k+8) S (k+7) (iV (Sf S o.n0 x).1) (Sf S o.n0 x).2));intro S1 s1 L1 hS1 hK1 hT1 mr1;refine Aj ?_;exact A4
 rw[Ac e23] at hR;subst hR;refine Aj ?_;exact A4
end
structure Nz where
 op:Int
 a0:Int
 a1:Int
 a2:Int
 a3:Int
 a4:Int
 a5:Int
deriving DecidableEq
abbrev dh(c:Nz):List Value:=[Ba c.op,Ba c.a0,Ba c.a1,Ba c.a2,Ba c.a3,Ba c.a4,Ba c.a5]
abbrev iX(c:Nz):Value:= .agg (toArray (dh c))
structure LT where
 kd:Int
 co:Int
 th:Int
 cl:Nz
 va:Int
 vl:Int
 st:Int
 wy:Int
 pg:Int
deriving DecidableEq
abbrev WM(e:LT):List Value:=[iV e.kd,iV e.co,iV e.th,Ba e.cl.op,Ba e.cl.a0,Ba e.cl.a1,Ba e.cl.a2,Ba e.cl.a3,Ba e.cl.a4,Ba e.cl.a5,Ba e.va,Ba e.vl,iV e.st,iV e.wy,iV e.pg]
abbrev OX(e:LT):Value:= .agg (toArray (WM e))
abbrev Oc(kb b:Nat):Ab:=(kb,.cells #[pV b] 153 (0,0))
def PV(S:KT)(core t:Int):Int×KT:=
 if core<0\/(S.K.length:Int)<=core then(3,S)
 else if t=0/\(Qu.firstQ S.Q).2=false then(19,S)
 else if Oa S (if t=0 then(Qu.firstQ S.Q).1 else t)=false then(2,S)
 else if ¬(Er S (if t=0 then(Qu.firstQ S.Q).1 else t)).st=1 then(16,S)
 else NE S core (if t=0 then(Qu.firstQ S.Q).1 else t)
def M7(S:KT)(e:LT):Int×KT:=
 if e.co<0\/(S.K.length:Int)<=e.co then(3,S)
 else if e.kd=6/\(e.pg<0\/512<=e.pg) then(3,S)
 else if e.kd=6 then(0,{S with K:=(DD S.K S.W e.co e.pg).2})
 else if e.st<0\/4<=e.st\/e.wy<0\/2<=e.wy then(3,S)
 else(0,{S with K:=(jY S.K e.co e.st e.wy).2})
section
theorem sr{n pg:Int}:EV prog F C b p 109 [pV p.c,.int .i64 n,pV p.m,.int .i64 pg] k S k {S with K:=(DD S.K S.W n pg).2}:=⟨λs G h=>by obtain⟨x,hx⟩:=fR (G:=G) h n pg;exact Fn.re .refl hx λv l' ⟨h1,s',L,h2,h3,h4⟩=>⟨l',.refl,s',L,h2,h3,h4⟩⟩
set_option maxHeartbeats 2000000 in
theorem pE(hK:IsK F C k S p s)(kb:Nat)(hk:Oc kb b∈G)(core t:Int):Fn prog 70 [pV kb,.int .i64 core,.int .i64 t] (Av b p s S G) (KK F C b p k (iV (PV S core t).1) (PV S core t).2 G):=by
 have mr:Co b p∈Av b p s S G:=mR λ_ h=>h;have mk:Oc kb b∈Av b p s S G:=mG (λ_ h=>h) _ hk;obtain⟨R,hR⟩: ∃R,PV S core t=R:=⟨_,rfl⟩
 rw[hR];unfold PV at hR;obtain⟨id,hid⟩: ∃i,(if t=0 then(Qu.firstQ S.Q).1 else t)=i:=⟨_,rfl⟩
 rw[hid] at hR;refine AO func70 ntmps70 λE=>?_;refine Aj ?_;by_cases h1:core<0
 ·rw[Ae (.inl h1)] at hR;subst hR;refine Aj ?_;exact A4
 refine Aj ?_;refine Ea ?_;refine Aj ?_;refine Ea ?_;refine Aj ?_;by_cases h2:(S.K.length:Int)<=core
 ·rw[Ae (.inr h2)] at hR;subst hR;refine Aj ?_;exact A4
 rw[Ac Af] at hR;refine Aj ?_;by_cases h5:t=0/\(Qu.firstQ S.Q).2=false
 ·rw[Ae h5] at hR;subst hR;obtain⟨h6,h7⟩:=h5;refine Aj ?_;refine Ea ?_;refine Aj ?_;refine Ea ?_;rw[h7];refine Aj ?_;exact A4
 rw[Ac h5] at hR;refine PR (α:=Unit) (λ_=>[(0,pV kb),(1,iV core),(2,iV id)]) (λ_=>Av b p s S G) (λ_=>True) ?_ ?_
 ·by_cases h6:t=0
  ·rw[Ae h6] at hid;have h7:(Qu.firstQ S.Q).2=true:=by simpa[h6] using h5
   refine Aj ?_;refine Ea ?_;refine Aj ?_;refine Ea ?_;rw[h7,hid];refine Aj ?_;exact D8 () trivial ⟨rfl,rfl,rfl,trivial⟩ .refl
  ·rw[Ac h6] at hid;subst hid;refine Aj ?_;exact D8 () trivial ⟨rfl,rfl,rfl,trivial⟩ .refl
 rintro- -;refine Aj ?_;refine Ea ?_;refine Aj ?_;refine Ea ?_;obtain⟨u,hu⟩: ∃u,Er S id=u:=⟨_,rfl⟩
 obtain⟨ok,hok⟩: ∃k,(Th.findH S.T id).isSome=k:=⟨_,rfl⟩
 rw[show Oa S id=ok from hok,hu] at hR;rw[hu,hok];refine AQ λb9=>?_;cases ok with
 |false=>rw[Ae rfl] at hR;subst hR;refine Aj ?_;exact A4
 |true=>
 rw[Ac AW] at hR;refine Aj ?_;by_cases h8:u.st=1
 case neg=>rw[Ae h8] at hR;subst hR;refine Aj ?_;exact A4
 rw[Ac (λh=>h h8)] at hR;refine Aj ?_;refine Fy ?_;intro S1 s1 L1 hS1 hK1 hT1 mr1;refine Aj ?_;subst hR;exact A4
set_option maxHeartbeats 2000000 in
theorem lD(hK:IsK F C k S p s)(kb:Nat)(hk:Oc kb b∈G)(e:LT):Fn prog 72 [pV kb,OX e] (Av b p s S G) (KK F C b p k (iV (M7 S e).1) (M7 S e).2 G):=by
 have mr:Co b p∈Av b p s S G:=mR λ_ h=>h;have mk:Oc kb b∈Av b p s S G:=mG (λ_ h=>h) _ hk;obtain⟨R,hR⟩: ∃R,M7 S e=R:=⟨_,rfl⟩
 rw[hR];unfold M7 at hR;refine AO func72 ntmps72 λE=>?_;refine AQ λb3=>?_;by_cases h1:e.co<0
 ·rw[Ae (.inl h1)] at hR;subst hR;refine Ce [] 15 _ ?_ (hR:=(λ_ h=>h));refine BI ?_;refine Aj ?_;exact A4
 refine Ce [] 15 _ ?_ (hR:=(λ_ h=>h));refine BI ?_;refine Tf ?_;refine BI ?_;refine Tf ?_;refine BI ?_;refine Aj ?_;by_cases h2:(S.K.length:Int)<=e.co
 ·rw[Ae (.inr h2)] at hR;subst hR;refine Aj ?_;exact A4
 rw[Ac Af] at hR;refine Aj ?_;by_cases h3:e.kd=6
 ·by_cases h4:e.pg<0
  ·rw[Ae ⟨h3,.inl h4⟩] at hR;subst hR;refine Aj ?_;exact A4
  by_cases h5:512<=e.pg
  ·rw[Ae ⟨h3,.inr h5⟩] at hR;subst hR;refine Aj ?_;exact A4
  rw[Ac Af,Ae h3] at hR;subst hR;refine Aj ?_;refine Ch (Cf [14] 0 15) ?_;refine Ci ?_;refine Ju (Az (vs:=[pV p.c,.int .i64 e.co,pV p.m,.int .i64 e.pg]) rfl rfl ((sr (k:=k) (S:=S) (n:=e.co) (pg:=e.pg)).on hK (by exact Zr))) ?_;rintro _ _ ⟨s1,L1,hK1,hT1,rfl⟩;refine Ci ?_;refine Aj ?_;exact A4
 rw[Ac Af,Ac h3] at hR;refine Aj ?_;by_cases g1:e.st<0
 ·rw[Ae Af] at hR;subst hR;refine Aj ?_;exact A4
 by_cases g2:4<=e.st
 ·rw[Ae Af] at hR;subst hR;refine Aj ?_;exact A4
 by_cases g3:e.wy<0
 ·rw[Ae Af] at hR;subst hR;refine Aj ?_;exact A4
 by_cases g4:2<=e.wy
 ·rw[Ae Af] at hR;subst hR;refine Aj ?_;exact A4
 rw[Ac Af] at hR;subst hR;refine Aj ?_;refine Ch (Cf [11] 0 12) ?_;refine Ci ?_;refine Lj ?_;intro S1 s1 L1 hS1 hK1 hT1 mr1;refine Ci ?_;refine Aj ?_;exact A4
end
structure FoT where
 le:Int
 mo:Int
 wd:Bool
 at':Option Nat
deriving DecidableEq
def ug(bo bc:Nat):Option Nat->Value
 |some o=> .pointer (some ⟨bo,o,none⟩)
 |none=> .pointer (some ⟨bc,0,none⟩)
def St(bo bc:Nat)(f:FoT):List Value:=[Ba f.le,Ba f.mo,if f.wd=true then .pointer none else ug bo bc f.at',if f.wd=true then ug bo bc f.at' else .pointer none]
abbrev QB(o:Nat):FoT:=⟨0,4095,false,some o⟩
abbrev U2(o:Option Nat)(le mo:Int):FoT:=⟨le,mo,false,o⟩
abbrev pF(o:Nat):FoT:=⟨0,18446744073709551615,true,some o⟩
abbrev u6:List FoT:=[pF 8,pF 9,pF 10,pF 11]
def OY(op:Int):Option (List FoT):=
 if op=1 then some [QB 1,U2 (some 4) 0 15,U2 (some 5) 0 64,QB 2,U2 (some 6) 0 15,U2 none 1 4]
 else if op=2 then some [QB 1,QB 2,U2 (some 4) 0 7]
 else if op=3 then some [QB 1,QB 2,U2 (some 4) 0 7,pF 7]
 else if op=4\/op=5\/op=12\/op=13 then some [QB 1,QB 2]
 else if op=6\/op=9\/op=11\/op=21\/op=22 then some [QB 1]
 else if op=7 then some [QB 1,U2 (some 4) 1 64]
 else if op=8 then some [QB 1,QB 2,pF 7]
 else if op=10 then some [QB 1,QB 2,pF 7,U2 (some 4) 0 7]
 else if op=14\/op=15 then some (QB 1::U2 (some 4) 0 4096::u6)
 else if op=16 then some [QB 1,U2 (some 4) 0 4096]
 else if op=17 then some u6
 else if op=18 then some []
 else if op=19 then some [QB 1,U2 (some 4) 0 2,QB 2]
 else if op=20 then some [QB 1,U2 (some 4) 0 2]
 else if op=23 then some [QB 1,U2 (some 4) 0 7]
 else none
section
variable{bo bc o:Nat}{l:List Ab}
theorem ie(l:List Ab)(bo o:Nat):Fn prog 122 [.pointer (some ⟨bo,o,none⟩)] l λv l'=>v= .agg (toArray [Ba 0,Ba 4095,.pointer (some ⟨bo,o,none⟩),.pointer none])/\l'=l:=by refine AO func122 ntmps122 λE=>?_;refine AQ λb2=>?_;exact AU [] _ rfl .refl (Cq rfl (.head _) (As.LSub.of_all (n:=4) [Ba 0,Ba 4095,.pointer (some ⟨bo,o,none⟩),.pointer none] rfl) (by exact A7)) (.drop .refl) ⟨rfl,rfl⟩
theorem ig(l:List Ab)(bo o:Nat)(le mo:Int):Fn prog 123 [.pointer (some ⟨bo,o,none⟩),Ba le,Ba mo] l λv l'=>v= .agg (toArray [Ba le,Ba mo,.pointer (some ⟨bo,o,none⟩),.pointer none])/\l'=l:=by refine AO func123 ntmps123 λE=>?_;refine AQ λb6=>?_;exact AU [] _ rfl .refl (Cq rfl (.head _) (As.LSub.of_all (n:=4) [Ba le,Ba mo,.pointer (some ⟨bo,o,none⟩),.pointer none] rfl) (by exact A7)) (.drop .refl) ⟨rfl,rfl⟩
theorem ii(l:List Ab)(bo o:Nat):Fn prog 124 [.pointer (some ⟨bo,o,none⟩)] l λv l'=>v= .agg (toArray [Ba 0,Ba 18446744073709551615,.pointer none,.pointer (some ⟨bo,o,none⟩)])/\l'=l:=by refine AO func124 ntmps124 λE=>?_;refine AQ λb2=>?_;exact AU [] _ rfl .refl (Cq rfl (.head _) (As.LSub.of_all (n:=4) [Ba 0,Ba 18446744073709551615,.pointer none,.pointer (some ⟨bo,o,none⟩)] rfl) (by exact A7)) (.drop .refl) ⟨rfl,rfl⟩
instance{l:List Ab}{bo o:Nat}:QF prog 122 [.pointer (some ⟨bo,o,none⟩)] l (.agg (toArray [Ba 0,Ba 4095,.pointer (some ⟨bo,o,none⟩),.pointer none])):=⟨λl _=>ie l bo o⟩
instance{l:List Ab}{bo o:Nat}{le mo:Int}:QF prog 123 [.pointer (some ⟨bo,o,none⟩),Ba le,Ba mo] l (.agg (toArray [Ba le,Ba mo,.pointer (some ⟨bo,o,none⟩),.pointer none])):=⟨λl _=>ig l bo o le mo⟩
instance{l:List Ab}{bo o:Nat}:QF prog 124 [.pointer (some ⟨bo,o,none⟩)] l (.agg (toArray [Ba 0,Ba 18446744073709551615,.pointer none,.pointer (some ⟨bo,o,none⟩)])):=⟨λl _=>ii l bo o⟩
end
class CL(c:Nz):Prop where
 op:JW c.op
 a0:JW c.a0
 a1:JW c.a1
 a2:JW c.a2
 a3:JW c.a3
 a4:JW c.a4
 a5:JW c.a5
def U3(c:Nz):Bool:=if c.a1<=15/\c.a2<=64 then decide (Ar.framesD c.a1 c.a2>0) else false
theorem Yz(c:Nz)(hc:CL c)(l:List Ab):Fn prog 82 [iX c] l λv l'=>v= .bool (U3 c)/\l'=l:=by
 obtain⟨R,hR⟩: ∃R,U3 c=R:=⟨_,rfl⟩
 rw[hR];unfold U3 at hR;have z1:(toArray (dh c))[1+(1:Int).toNat*1]?=some (Ba c.a1):=rfl;have z2:(toArray (dh c))[1+(2:Int).toNat*1]?=some (Ba c.a2):=rfl;obtain⟨u1,u2⟩:=hc.a1;obtain⟨w1,w2⟩:=hc.a2;refine AO func82 ntmps82 λE=>?_;refine AQ λb1=>?_;refine Ce [] 8 _ ?_ (hR:=(λ_ h=>h));refine BI ?_;refine Aj ?_;by_cases h1:c.a1<=15
 ·by_cases h2:c.a2<=64
  ·rw[Ae ⟨h1,h2⟩] at hR;subst hR;refine Aj ?_;refine Ea ?_;refine Aj ?_;exact qr
  ·rw[Ac Af] at hR;subst hR;refine Aj ?_;exact qr
 ·rw[Ac Af] at hR;subst hR;refine Aj ?_;exact qr
instance{c:Nz}[hc:CL c]{l:List Ab}:QF prog 82 [iX c] l (.bool (U3 c)):=⟨λl _=>Yz c hc l⟩
abbrev s6(le mo:Int)(bp i:Nat):Value:= .agg (toArray [Ba le,Ba mo,.pointer (some ⟨bp,i,none⟩),.pointer none])
abbrev uh(le mo:Int)(bp i:Nat):Value:= .agg (toArray [Ba le,Ba mo,.pointer none,.pointer (some ⟨bp,i,none⟩)])
theorem WN(le mo:Int)(bp i:Nat)(cs:Array Value)(ct:TypeId)(fz:Nat×Nat)(v:Int)(l:List Ab)(hm:(bp,Obj.cells cs ct fz)∈l)(hv:cs[i]?=some (iV v)):Fn prog 206 [s6 le mo bp i] l λx l'=>x= .int .u64 (IntKind.u64.wrap v)/\l'=l:=by refine AO func206 ntmps206 λE=>?_;refine AQ λb1=>?_;refine Bc (Ol rfl) ?_;refine Aj ?_;exact qr
theorem ij(le mo:Int)(bp i:Nat)(cs:Array Value)(ct:TypeId)(fz:Nat×Nat)(v:Int)(l:List Ab)(hm:(bp,Obj.cells cs ct fz)∈l)(hv:cs[i]?=some (Ba v)):Fn prog 206 [uh le mo bp i] l λx l'=>x=Ba v/\l'=l:=by refine AO func206 ntmps206 λE=>?_;refine AQ λb1=>?_;exact qr
theorem WO(le mo:Int)(bp i:Nat)(cs:List Value)(ct:TypeId)(x:Int)(hx:0<=x/\x<=1000000)(hi:i<cs.length)(l:List Ab):Fn prog 84 [s6 le mo bp i,Ba x] ((bp,.cells (toArray cs) ct (0,0))::l) λv l'=>v= .tuple #[]/\l'=(bp,.cells (toArray (cs.set i (iV x))) ct (0,0))::l:=by refine AO func84 ntmps84 λE=>?_;refine AQ λb2=>?_;refine LV (C7 (cs:=toArray cs) (T:=ct) (off:=i) (l':=(b2,.cells (toArray [Ba le,Ba mo,.pointer (some ⟨bp,i,none⟩),.pointer none]) 184 (0,0))::(bp,.cells ((toArray cs).setIfInBounds i (iV x)) ct (0,0))::l) rfl rfl rfl (by exact Dw) (by simpa using hi)) rfl rfl ?_;rintro _ _ ⟨rfl,rfl⟩;refine Aj ?_;exact AU [] _ rfl .refl (by exact A7) (.drop .refl) ⟨rfl,by rw[Bq]⟩
theorem ik(le mo:Int)(bp i:Nat)(cs:List Value)(ct:TypeId)(x:Int)(hi:i<cs.length)(l:List Ab):Fn prog 84 [uh le mo bp i,Ba x] ((bp,.cells (toArray cs) ct (0,0))::l) λv l'=>v= .tuple #[]/\l'=(bp,.cells (toArray (cs.set i (Ba x))) ct (0,0))::l:=by refine AO func84 ntmps84 λE=>?_;refine AQ λb2=>?_;refine LV (C7 (cs:=toArray cs) (T:=ct) (off:=i) (l':=(b2,.cells (toArray [Ba le,Ba mo,.pointer none,.pointer (some ⟨bp,i,none⟩)]) 184 (0,0))::(bp,.cells ((toArray cs).setIfInBounds i (Ba x)) ct (0,0))::l) rfl rfl rfl (by exact Dw) (by simpa using hi)) rfl rfl ?_;rintro _ _ ⟨rfl,rfl⟩;refine Aj ?_;exact AU [] _ rfl .refl (by exact A7) (.drop .refl) ⟨rfl,by rw[Bq]⟩
abbrev O6:List Value:=[Ba 0,Ba 0,.pointer none,.pointer none]
abbrev Su(bo i:Nat):List Value:=[Ba 0,Ba 18446744073709551615,.pointer none,.pointer (some ⟨bo,i,none⟩)]
abbrev Cz(bo i:Nat):List Value:=[Ba 0,Ba 4095,.pointer (some ⟨bo,i,none⟩),.pointer none]
abbrev Fg(bo i:Nat)(le mo:Int):List Value:=[Ba le,Ba mo,.pointer (some ⟨bo,i,none⟩),.pointer none]
abbrev HQ(gb:Nat)(cs:List Value):Ab:=(gb,.cells (toArray cs) 184 (0,0))
theorem D6(rows:List (List Value))(hr: ∀r,r∈rows->r.length=4):Instr.fill (λi=>some (i*4,4)) (toArray (List.replicate rows.length O6).flatten) (Ef 0 rows)=some (toArray rows.flatten):=by have h:=Pp (zs:=O6) (k:=4) rfl rows [] 0 hr rfl;rw[Ag,Ag] at h;exact h
theorem CI{rows:List (List Value)}(h:rows.all (λr=>r.length==4)=true): ∀r,r∈rows->r.length=4:=λr hr=>by simpa using A6.1 h r hr
abbrev U4(bo:Nat):List (List Value):=[Su bo 8,Su bo 9,Su bo 10,Su bo 11]
theorem OZ(bo:Nat)(l:List Ab):Fn prog 125 [.pointer (some ⟨bo,0,none⟩)] l λv l'=> ∃gb,(∀c,c∈l->c.1≠gb)/\v= .slice (some ⟨gb,0,none⟩) 4 4/\l'=HQ gb (U4 bo).flatten::l:=by refine AO func125 ntmps125 λE=>?_;refine Aj ?_;refine Ch (Cf [20] 0 22) ?_;refine Ci ?_;refine Ju (Dy (k:=4) (n:=4) (e:=184) (zs:=O6) (cs:=(U4 bo).flatten) (pvs:=Ef 0 (U4 bo)) rfl AW AW rfl (D6 (U4 bo) (CI rfl))) ?_;rintro _ _ ⟨gb,hgb,rfl,rfl⟩;refine Ci ?_;refine Aj ?_;exact Cy _ .refl .refl ⟨gb,hgb,rfl,rfl⟩
end Go.Proofs.YtlkgekpmileobaaGreat
