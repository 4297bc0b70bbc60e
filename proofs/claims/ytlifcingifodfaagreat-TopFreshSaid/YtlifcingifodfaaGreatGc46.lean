/- Laws that the statement's proof leans on (joined out of several texts). -/
import Derived.Test.YtlifcingifodfaaGreatGc45
set_option maxHeartbeats 4000000
set_option linter.unusedVariables false
set_option linter.unusedSimpArgs false
namespace Go.Proofs.YtlifcingifodfaaGreat
open Tryz
open List(toArray)
open Go.RowKit
set_option maxRecDepth 20000
variable{F C k b:Nat}{S:KT}{p:RP}{s:RL}{G:Ad}
class OB(o:IY):Prop where
 w:K6 o.w
 r:o.op=1->0<=o.n2/\o.n2<=1000
 d:o.op=19->0<=o.n0/\o.n0<=2
def Kq(S:KT)(t:Int)(o:IY)(x y:Ck):Int×KT:=
 if o.op=1 then EW S o x y else
 if o.op=2 then((Gp S.H x y (Eo (D5 S.H.1 x) o.n0)).1,{S with H:=(Gp S.H x y (Eo (D5 S.H.1 x) o.n0)).2}) else
 if o.op=3 then((Gp S.H x y (Hy (D5 S.H.1 x) o.n0 o.w.toNat)).1,{S with H:=(Gp S.H x y (Hy (D5 S.H.1 x) o.n0 o.w.toNat)).2}) else
 if o.op=4 then((Jx S.H x y).1,{S with H:=(Jx S.H x y).2}) else
 if o.op=5 then((LI S.H x y).1,{S with H:=(LI S.H x y).2}) else
 if o.op=6 then((Qw S x).1.2,(Qw S x).2) else
 if o.op=7 then((R3 S x o.n0).1.2,(R3 S x o.n0).2) else
 if o.op=8 then QB S x y o.w else
 if o.op=9 then RD S x else
 if o.op=10 then QC S x y o.w o.n0 else
 if o.op=11 then RG S x else
 if o.op=12 then RE S x y else
 if o.op=13 then RF S x y else
 if o.op=18 then(0,Xb S t) else
 if o.op=19 then Qy S o.n0 x y else
 if o.op=20 then KB S o.n0 x else
 if o.op=21 then KC S x else
 if o.op=22 then Jm S x else
 if o.op=23 then QA S o.n0 x else
 (2,S)
section
theorem xL{x y:Ck}{m w:Int}(hw:K6 w):EK prog F C b p 149 [pV p.h,F4 x,F4 y,.int .i64 m,Bc w] (k+1) S k (iV (Gp S.H x y (Hy (D5 S.H.1 x) m w.toNat)).1) {S with H:=(Gp S.H x y (Hy (D5 S.H.1 x) m w.toNat)).2}:=by
 obtain⟨n,rfl⟩: ∃n:Nat,w=n:=⟨w.toNat,by have:=hw.1;omega⟩
 have hn:n<18446744073709551616:=by have:=hw.2;omega
 rw[AY];exact⟨λs G h=>rk h Af (λi hi=>(hi.der x y _ (TG (hi.at x).2 m n)).mono Af) λi G hi h9=>Rd p.h S.H i hi h9 s.H h.ho x y m n hn G⟩
theorem xM(hK:IsK F C (k+8) S p s)(t:Int)(o:IY)(x y:Ck)(ho:OB o):Fn prog 161 [OD b t o x y] (Aw b p s S G) (KK F C b p k (iV (Kq S t o x y).1) (Kq S t o x y).2 G):=by
 have mr:CD b p∈Aw b p s S G:=mR λ_ h=>h;obtain⟨R,hR⟩: ∃R,Kq S t o x y=R:=⟨_,rfl⟩
 rw[hR];unfold Kq at hR;have z0:(toArray (px b t o x y))[2+4+(0:Int).toNat*1]?=some (iV o.n0):=rfl;have hu:U6 o.w:=⟨ho.w⟩
 have hb:=ho.r;have hd:=ho.d;refine AO func161 ntmps161 λE=>?_;refine AQ λb1=>?_;by_cases e1:o.op=1
 ·rw[Ac e1] at hR;subst hR;refine Aj ?_;refine Gc (vs:=[OD b t o x y]) ?_ (q:=(⟨λs G h=>nO h t o x y (hb e1)⟩:EK prog F C b p 209 [OD b t o x y] (k+8) S k (iV (EW S o x y).1) (EW S o x y).2));intro S1 s1 L1 EA Ey DL GI;refine Aj ?_;exact A9
 rw[Ab e1] at hR;by_cases e2:o.op=2
 ·rw[Ac e2] at hR;subst hR;refine Aj ?_;refine Cx (Cr [11] 0 13) ?_;refine CC ?_;refine MG (vs:=[pV p.h,F4 x,F4 y,.int .i64 o.n0]) ?_;intro S1 s1 L1 EA Ey DL GI;refine CC ?_;refine Aj ?_;exact A9
 rw[Ab e2] at hR;by_cases e3:o.op=3
 ·rw[Ac e3] at hR;subst hR;refine Aj ?_;refine Cx (Cr [14] 0 16) ?_;refine CC ?_;refine MG (vs:=[pV p.h,F4 x,F4 y,.int .i64 o.n0,Bc o.w]) ?_ (q:=xL ho.w);intro S1 s1 L1 EA Ey DL GI;refine CC ?_;refine Aj ?_;exact A9
 rw[Ab e3] at hR;by_cases e4:o.op=4
 ·rw[Ac e4] at hR;subst hR;refine Aj ?_;refine Cx (Cr [7] 0 9) ?_;refine CC ?_;refine MG (vs:=[pV p.h,F4 x,F4 y]) ?_;intro S1 s1 L1 EA Ey DL GI;refine CC ?_;refine Aj ?_;exact A9
 rw[Ab e4] at hR;by_cases e5:o.op=5
 ·rw[Ac e5] at hR;subst hR;refine Aj ?_;refine Cx (Cr [7] 0 9) ?_;refine CC ?_;refine MG (vs:=[pV p.h,F4 x,F4 y]) ?_;intro S1 s1 L1 EA Ey DL GI;refine CC ?_;refine Aj ?_;exact A9
 rw[Ab e5] at hR;by_cases e6:o.op=6
 ·rw[Ac e6] at hR;subst hR;refine Aj ?_;refine Gc (vs:=[pV b,F4 x]) ?_;intro S1 s1 L1 EA Ey DL GI;refine Aj ?_;exact A9
 rw[Ab e6] at hR;by_cases e7:o.op=7
 ·rw[Ac e7] at hR;subst hR;refine Aj ?_;refine Gc (vs:=[pV b,F4 x,.int .i64 o.n0]) ?_;intro S1 s1 L1 EA Ey DL GI;refine Aj ?_;exact A9
 rw[Ab e7] at hR;by_cases e8:o.op=8
 ·rw[Ac e8] at hR;subst hR;refine Aj ?_;refine Gc (vs:=[pV b,F4 x,F4 y,Bc o.w]) ?_;intro S1 s1 L1 EA Ey DL GI;refine Aj ?_;exact A9
 rw[Ab e8] at hR;by_cases e9:o.op=9
 ·rw[Ac e9] at hR;subst hR;refine Aj ?_;refine Gc (vs:=[pV b,F4 x]) ?_;intro S1 s1 L1 EA Ey DL GI;refine Aj ?_;exact A9
 rw[Ab e9] at hR;by_cases yy:o.op=10
 ·rw[Ac yy] at hR;subst hR;refine Aj ?_;refine Gc (vs:=[pV b,F4 x,F4 y,Bc o.w,.int .i64 o.n0]) ?_;intro S1 s1 L1 EA Ey DL GI;refine Aj ?_;exact A9
 rw[Ab yy] at hR;by_cases yz:o.op=11
 ·rw[Ac yz] at hR;subst hR;refine Aj ?_;refine Gc (vs:=[pV b,F4 x]) ?_;intro S1 s1 L1 EA Ey DL GI;refine Aj ?_;exact A9
 rw[Ab yz] at hR;by_cases yA:o.op=12
 ·rw[Ac yA] at hR;subst hR;refine Aj ?_;refine Gc (vs:=[pV b,F4 x,F4 y]) ?_;intro S1 s1 L1 EA Ey DL GI;refine Aj ?_;exact A9
 rw[Ab yA] at hR;by_cases yB:o.op=13
 ·rw[Ac yB] at hR;subst hR;refine Aj ?_;refine Gc (vs:=[pV b,F4 x,F4 y]) ?_;intro S1 s1 L1 EA Ey DL GI;refine Aj ?_;exact A9
 rw[Ab yB] at hR;by_cases yC:o.op=18
 ·rw[Ac yC] at hR;subst hR;refine Aj ?_;refine Gc (vs:=[OD b t o x y]) ?_ (q:=(⟨λs G h=>nK h t o x y⟩:EK prog F C b p 220 [OD b t o x y] (k+8) S (k+8) (iV 0) (Xb S t)));intro S1 s1 L1 EA Ey DL GI;refine Aj ?_;exact A9
 rw[Ab yC] at hR;by_cases vE:o.op=19
 ·rw[Ac vE] at hR;subst hR;refine Aj ?_;refine Gc (vs:=[OD b t o x y]) ?_ (q:=(⟨λs G h=>xu h t o x y (hd vE)⟩:EK prog F C b p 221 [OD b t o x y] (k+8) S (k+7) (iV (Qy S o.n0 x y).1) (Qy S o.n0 x y).2));intro S1 s1 L1 EA Ey DL GI;refine Aj ?_;exact A9
 rw[Ab vE] at hR;by_cases yD:o.op=20
 ·rw[Ac yD] at hR;subst hR;refine Aj ?_;refine Gc (vs:=[OD b t o x y]) ?_ (q:=(⟨λs G h=>nP h t o x y⟩:EK prog F C b p 222 [OD b t o x y] (k+8) S (k+8) (iV (KB S o.n0 x).1) (KB S o.n0 x).2));intro S1 s1 L1 EA Ey DL GI;refine Aj ?_;exact A9
 rw[Ab yD] at hR;by_cases yE:o.op=21
 ·rw[Ac yE] at hR;subst hR;refine Aj ?_;refine Gc (vs:=[OD b t o x y]) ?_ (q:=(⟨λs G h=>nQ h t o x y⟩:EK prog F C b p 223 [OD b t o x y] (k+8) S (k+7) (iV (KC S x).1) (KC S x).2));intro S1 s1 L1 EA Ey DL GI;refine Aj ?_;exact A9
 rw[Ab yE] at hR;by_cases tA:o.op=22
 ·rw[Ac tA] at hR;subst hR;refine Aj ?_;refine Gc (vs:=[OD b t o x y]) ?_ (q:=(⟨λs G h=>iP h t o x y⟩:EK prog F C b p 224 [OD b t o x y] (k+8) S (k+8) (iV (Jm S x).1) (Jm S x).2));intro S1 s1 L1 EA Ey DL GI;refine Aj ?_;exact A9
 rw[Ab tA] at hR;by_cases yF:o.op=23
 ·rw[Ac yF] at hR;subst hR;refine Aj ?_;refine Gc (vs:=[OD b t o x y]) ?_ (q:=(⟨λs G h=>xz h t o x y⟩:EK prog F C b p 225 [OD b t o x y] (k+8) S (k+7) (iV (QA S o.n0 x).1) (QA S o.n0 x).2));intro S1 s1 L1 EA Ey DL GI;refine Aj ?_;exact A9
 rw[Ab yF] at hR;subst hR;refine Aj ?_;exact A9
end
structure OG where
 op:Int
 a0:Int
 a1:Int
 a2:Int
 a3:Int
 a4:Int
 a5:Int
deriving DecidableEq
abbrev jv(c:OG):Ap:=[Bc c.op,Bc c.a0,Bc c.a1,Bc c.a2,Bc c.a3,Bc c.a4,Bc c.a5]
abbrev py(c:OG):Value:= .agg (toArray (jv c))
structure Pf where
 kd:Int
 co:Int
 th:Int
 cl:OG
 va:Int
 vl:Int
 st:Int
 wy:Int
 pg:Int
deriving DecidableEq
abbrev bT(e:Pf):Ap:=[iV e.kd,iV e.co,iV e.th,Bc e.cl.op,Bc e.cl.a0,Bc e.cl.a1,Bc e.cl.a2,Bc e.cl.a3,Bc e.cl.a4,Bc e.cl.a5,Bc e.va,Bc e.vl,iV e.st,iV e.wy,iV e.pg]
abbrev QD(e:Pf):Value:= .agg (toArray (bT e))
abbrev Pt(kb b:Nat):Bg:=(kb,.cells #[pV b] 152 (0,0))
def Pu(S:KT)(core t:Int):Int×KT:=
 if core<0\/(S.K.length:Int)<=core then(3,S)
 else if t=0/\(Qu.firstQ S.Q).2=false then(19,S)
 else if Ps S (if t=0 then(Qu.firstQ S.Q).1 else t)=false then(2,S)
 else if ¬(DW S (if t=0 then(Qu.firstQ S.Q).1 else t)).st=1 then(16,S)
 else NC S core (if t=0 then(Qu.firstQ S.Q).1 else t)
def Ma(S:KT)(e:Pf):Int×KT:=
 if e.co<0\/(S.K.length:Int)<=e.co then(3,S)
 else if e.kd=6/\(e.pg<0\/512<=e.pg) then(3,S)
 else if e.kd=6 then(0,{S with K:=(DQ S.K S.W e.co e.pg).2})
 else if e.st<0\/4<=e.st\/e.wy<0\/2<=e.wy then(3,S)
 else(0,{S with K:=(lY S.K e.co e.st e.wy).2})
section
theorem Abm{n pg:Int}:EV prog F C b p 108 [pV p.c,.int .i64 n,pV p.m,.int .i64 pg] k S k {S with K:=(DQ S.K S.W n pg).2}:=⟨λs G h=>by obtain⟨x,hx⟩:=mI (G:=G) h n pg;exact Fn.re .refl hx λv l' ⟨h1,s',L,h2,h3,h4⟩=>⟨l',.refl,s',L,h2,h3,h4⟩⟩
theorem xN(hK:IsK F C k S p s)(kb:Nat)(hk:Pt kb b∈G)(core t:Int):Fn prog 69 [pV kb,.int .i64 core,.int .i64 t] (Aw b p s S G) (KK F C b p k (iV (Pu S core t).1) (Pu S core t).2 G):=by
 have mr:CD b p∈Aw b p s S G:=mR λ_ h=>h;have mk:Pt kb b∈Aw b p s S G:=mG (λ_ h=>h) _ hk;obtain⟨R,hR⟩: ∃R,Pu S core t=R:=⟨_,rfl⟩
 rw[hR];unfold Pu at hR;obtain⟨id,Va⟩: ∃i,(if t=0 then(Qu.firstQ S.Q).1 else t)=i:=⟨_,rfl⟩
 rw[Va] at hR;refine AO func69 ntmps69 λE=>?_;refine Aj ?_;by_cases h1:core<0
 ·rw[Ac (.inl h1)] at hR;subst hR;refine Aj ?_;exact A9
 refine Aj ?_;refine EI ?_;refine Aj ?_;refine EI ?_;refine Aj ?_;by_cases h2:(S.K.length:Int)<=core
 ·rw[Ac (.inr h2)] at hR;subst hR;refine Aj ?_;exact A9
 rw[Ab Af] at hR;refine Aj ?_;by_cases h5:t=0/\(Qu.firstQ S.Q).2=false
 ·rw[Ac h5] at hR;subst hR;obtain⟨h6,h7⟩:=h5;refine Aj ?_;refine EI ?_;refine Aj ?_;refine EI ?_;rw[h7];refine Aj ?_;exact A9
 rw[Ab h5] at hR;refine RJ (α:=Unit) (λ_=>[(0,pV kb),(1,iV core),(2,iV id)]) (λ_=>Aw b p s S G) (λ_=>True) ?_ ?_
 ·by_cases h6:t=0
  ·rw[Ac h6] at Va;have h7:(Qu.firstQ S.Q).2=true:=by simpa[h6] using h5
   refine Aj ?_;refine EI ?_;refine Aj ?_;refine EI ?_;rw[h7,Va];refine Aj ?_;exact EG () trivial ⟨rfl,rfl,rfl,trivial⟩ .refl
  ·rw[Ab h6] at Va;subst Va;refine Aj ?_;exact EG () trivial ⟨rfl,rfl,rfl,trivial⟩ .refl
 rintro- -;refine Aj ?_;refine EI ?_;refine Aj ?_;refine EI ?_;obtain⟨u,hu⟩: ∃u,DW S id=u:=⟨_,rfl⟩
 obtain⟨ok,Dm⟩: ∃k,(Th.findH S.T id).isSome=k:=⟨_,rfl⟩
 rw[show Ps S id=ok from Dm,hu] at hR;rw[hu,Dm];refine AQ λb9=>?_;cases ok with
 |false=>rw[Ac rfl] at hR;subst hR;refine Aj ?_;exact A9
 |true=>
 rw[Ab AZ] at hR;refine Aj ?_;by_cases h8:u.st=1
 case neg=>rw[Ac h8] at hR;subst hR;refine Aj ?_;exact A9
 rw[Ab (λh=>h h8)] at hR;refine Aj ?_;refine Gc ?_;intro S1 s1 L1 EA Ey DL GI;refine Aj ?_;subst hR;exact A9
theorem sC(hK:IsK F C k S p s)(kb:Nat)(hk:Pt kb b∈G)(e:Pf):Fn prog 71 [pV kb,QD e] (Aw b p s S G) (KK F C b p k (iV (Ma S e).1) (Ma S e).2 G):=by
 have mr:CD b p∈Aw b p s S G:=mR λ_ h=>h;have mk:Pt kb b∈Aw b p s S G:=mG (λ_ h=>h) _ hk;obtain⟨R,hR⟩: ∃R,Ma S e=R:=⟨_,rfl⟩
 rw[hR];unfold Ma at hR;refine AO func71 ntmps71 λE=>?_;refine AQ λb3=>?_;by_cases h1:e.co<0
 ·rw[Ac (.inl h1)] at hR;subst hR;refine Cn [] 15 _ ?_ (hR:=(λ_ h=>h));refine BS ?_;refine Aj ?_;exact A9
 refine Cn [] 15 _ ?_ (hR:=(λ_ h=>h));refine BS ?_;refine Vs ?_;refine BS ?_;refine Vs ?_;refine BS ?_;refine Aj ?_;by_cases h2:(S.K.length:Int)<=e.co
 ·rw[Ac (.inr h2)] at hR;subst hR;refine Aj ?_;exact A9
 rw[Ab Af] at hR;refine Aj ?_;by_cases h3:e.kd=6
 ·by_cases h4:e.pg<0
  ·rw[Ac ⟨h3,.inl h4⟩] at hR;subst hR;refine Aj ?_;exact A9
  by_cases h5:512<=e.pg
  ·rw[Ac ⟨h3,.inr h5⟩] at hR;subst hR;refine Aj ?_;exact A9
  rw[Ab Af,Ac h3] at hR;subst hR;refine Aj ?_;refine Cx (Cr [14] 0 15) ?_;refine CC ?_;refine Ll (AA (vs:=[pV p.c,.int .i64 e.co,pV p.m,.int .i64 e.pg]) rfl rfl ((Abm (k:=k) (S:=S) (n:=e.co) (pg:=e.pg)).on hK (by exact dI))) ?_;rintro _ _ ⟨s1,L1,Ey,DL,rfl⟩;refine CC ?_;refine Aj ?_;exact A9
 rw[Ab Af,Ab h3] at hR;refine Aj ?_;by_cases g1:e.st<0
 ·rw[Ac Af] at hR;subst hR;refine Aj ?_;exact A9
 by_cases g2:4<=e.st
 ·rw[Ac Af] at hR;subst hR;refine Aj ?_;exact A9
 by_cases g3:e.wy<0
 ·rw[Ac Af] at hR;subst hR;refine Aj ?_;exact A9
 by_cases g4:2<=e.wy
 ·rw[Ac Af] at hR;subst hR;refine Aj ?_;exact A9
 rw[Ab Af] at hR;subst hR;refine Aj ?_;refine Cx (Cr [11] 0 12) ?_;refine CC ?_;refine MG ?_;intro S1 s1 L1 EA Ey DL GI;refine CC ?_;refine Aj ?_;exact A9
end
structure FoT where
 le:Int
 mo:Int
 wd:Bool
 at':Option Nat
deriving DecidableEq
def foP(bo bc:Nat):Option Nat->Value
 |some o=> .pointer (some ⟨bo,o,none⟩)
 |none=> .pointer (some ⟨bc,0,none⟩)
def UQ(bo bc:Nat)(f:FoT):Ap:=[Bc f.le,Bc f.mo,if f.wd=true then .pointer none else foP bo bc f.at',if f.wd=true then foP bo bc f.at' else .pointer none]
abbrev SH(o:Nat):FoT:=⟨0,4095,false,some o⟩
abbrev Xd(o:Option Nat)(le mo:Int):FoT:=⟨le,mo,false,o⟩
abbrev xO(o:Nat):FoT:=⟨0,18446744073709551615,true,some o⟩
abbrev msF:List FoT:=[xO 8,xO 9,xO 10,xO 11]
def QE(op:Int):Option (List FoT):=
 if op=1 then some [SH 1,Xd (some 4) 0 15,Xd (some 5) 0 64,SH 2,Xd (some 6) 0 15,Xd none 1 4]
 else if op=2 then some [SH 1,SH 2,Xd (some 4) 0 7]
 else if op=3 then some [SH 1,SH 2,Xd (some 4) 0 7,xO 7]
 else if op=4\/op=5\/op=12\/op=13 then some [SH 1,SH 2]
 else if op=6\/op=9\/op=11\/op=21\/op=22 then some [SH 1]
 else if op=7 then some [SH 1,Xd (some 4) 1 64]
 else if op=8 then some [SH 1,SH 2,xO 7]
 else if op=10 then some [SH 1,SH 2,xO 7,Xd (some 4) 0 7]
 else if op=14\/op=15 then some (SH 1::Xd (some 4) 0 4096::msF)
 else if op=16 then some [SH 1,Xd (some 4) 0 4096]
 else if op=17 then some msF
 else if op=18 then some []
 else if op=19 then some [SH 1,Xd (some 4) 0 2,SH 2]
 else if op=20 then some [SH 1,Xd (some 4) 0 2]
 else if op=23 then some [SH 1,Xd (some 4) 0 7]
 else none
section
variable{bo bc o:Nat}{l:Ad}
theorem nX(l:Ad)(bo o:Nat):Fn prog 121 [.pointer (some ⟨bo,o,none⟩)] l λv l'=>v= .agg (toArray [Bc 0,Bc 4095,.pointer (some ⟨bo,o,none⟩),.pointer none])/\l'=l:=by refine AO func121 ntmps121 λE=>?_;refine AQ λb2=>?_;exact AV [] _ rfl .refl (Cz rfl (.head _) (As.LSub.of_all (n:=4) [Bc 0,Bc 4095,.pointer (some ⟨bo,o,none⟩),.pointer none] rfl) (by exact Ba)) (.drop .refl) ⟨rfl,rfl⟩
theorem nY(l:Ad)(bo o:Nat)(le mo:Int):Fn prog 122 [.pointer (some ⟨bo,o,none⟩),Bc le,Bc mo] l λv l'=>v= .agg (toArray [Bc le,Bc mo,.pointer (some ⟨bo,o,none⟩),.pointer none])/\l'=l:=by refine AO func122 ntmps122 λE=>?_;refine AQ λb6=>?_;exact AV [] _ rfl .refl (Cz rfl (.head _) (As.LSub.of_all (n:=4) [Bc le,Bc mo,.pointer (some ⟨bo,o,none⟩),.pointer none] rfl) (by exact Ba)) (.drop .refl) ⟨rfl,rfl⟩
theorem nZ(l:Ad)(bo o:Nat):Fn prog 123 [.pointer (some ⟨bo,o,none⟩)] l λv l'=>v= .agg (toArray [Bc 0,Bc 18446744073709551615,.pointer none,.pointer (some ⟨bo,o,none⟩)])/\l'=l:=by refine AO func123 ntmps123 λE=>?_;refine AQ λb2=>?_;exact AV [] _ rfl .refl (Cz rfl (.head _) (As.LSub.of_all (n:=4) [Bc 0,Bc 18446744073709551615,.pointer none,.pointer (some ⟨bo,o,none⟩)] rfl) (by exact Ba)) (.drop .refl) ⟨rfl,rfl⟩
instance{l:Ad}{bo o:Nat}:QF prog 121 [.pointer (some ⟨bo,o,none⟩)] l (.agg (toArray [Bc 0,Bc 4095,.pointer (some ⟨bo,o,none⟩),.pointer none])):=⟨λl _=>nX l bo o⟩
instance{l:Ad}{bo o:Nat}{le mo:Int}:QF prog 122 [.pointer (some ⟨bo,o,none⟩),Bc le,Bc mo] l (.agg (toArray [Bc le,Bc mo,.pointer (some ⟨bo,o,none⟩),.pointer none])):=⟨λl _=>nY l bo o le mo⟩
instance{l:Ad}{bo o:Nat}:QF prog 123 [.pointer (some ⟨bo,o,none⟩)] l (.agg (toArray [Bc 0,Bc 18446744073709551615,.pointer none,.pointer (some ⟨bo,o,none⟩)])):=⟨λl _=>nZ l bo o⟩
end
class CL(c:OG):Prop where
 op:K6 c.op
 a0:K6 c.a0
 a1:K6 c.a1
 a2:K6 c.a2
 a3:K6 c.a3
 a4:K6 c.a4
 a5:K6 c.a5
def Xe(c:OG):Bool:=if c.a1<=15/\c.a2<=64 then decide (Ar.framesD c.a1 c.a2>0) else false
theorem bU(c:OG)(hc:CL c)(l:Ad):Fn prog 81 [py c] l λv l'=>v= .bool (Xe c)/\l'=l:=by
 obtain⟨R,hR⟩: ∃R,Xe c=R:=⟨_,rfl⟩
 rw[hR];unfold Xe at hR;have z1:(toArray (jv c))[1+(1:Int).toNat*1]?=some (Bc c.a1):=rfl;have z2:(toArray (jv c))[1+(2:Int).toNat*1]?=some (Bc c.a2):=rfl;obtain⟨u1,u2⟩:=hc.a1;obtain⟨w1,w2⟩:=hc.a2;refine AO func81 ntmps81 λE=>?_;refine AQ λb1=>?_;refine Cn [] 8 _ ?_ (hR:=(λ_ h=>h));refine BS ?_;refine Aj ?_;by_cases h1:c.a1<=15
 ·by_cases h2:c.a2<=64
  ·rw[Ac ⟨h1,h2⟩] at hR;subst hR;refine Aj ?_;refine EI ?_;refine Aj ?_;exact qr
  ·rw[Ab Af] at hR;subst hR;refine Aj ?_;exact qr
 ·rw[Ab Af] at hR;subst hR;refine Aj ?_;exact qr
instance{c:OG}[hc:CL c]{l:Ad}:QF prog 81 [py c] l (.bool (Xe c)):=⟨λl _=>bU c hc l⟩
abbrev fnV(le mo:Int)(bp i:Nat):Value:= .agg (toArray [Bc le,Bc mo,.pointer (some ⟨bp,i,none⟩),.pointer none])
abbrev fwV(le mo:Int)(bp i:Nat):Value:= .agg (toArray [Bc le,Bc mo,.pointer none,.pointer (some ⟨bp,i,none⟩)])
theorem Zi(le mo:Int)(bp i:Nat)(cs:Array Value)(ct:TypeId)(fz:Nat×Nat)(v:Int)(l:Ad)(hm:(bp,Obj.cells cs ct fz)∈l)(hv:cs[i]?=some (iV v)):Fn prog 205 [fnV le mo bp i] l λx l'=>x= .int .u64 (IntKind.u64.wrap v)/\l'=l:=by refine AO func205 ntmps205 λE=>?_;refine AQ λb1=>?_;refine Be (P4 rfl) ?_;refine Aj ?_;exact qr
theorem n7(le mo:Int)(bp i:Nat)(cs:Array Value)(ct:TypeId)(fz:Nat×Nat)(v:Int)(l:Ad)(hm:(bp,Obj.cells cs ct fz)∈l)(hv:cs[i]?=some (Bc v)):Fn prog 205 [fwV le mo bp i] l λx l'=>x=Bc v/\l'=l:=by refine AO func205 ntmps205 λE=>?_;refine AQ λb1=>?_;exact qr
theorem Zj(le mo:Int)(bp i:Nat)(cs:Ap)(ct:TypeId)(x:Int)(hx:0<=x/\x<=1000000)(hi:i<cs.length)(l:Ad):Fn prog 83 [fnV le mo bp i,Bc x] ((bp,.cells (toArray cs) ct (0,0))::l) λv l'=>v= .tuple #[]/\l'=(bp,.cells (toArray (cs.set i (iV x))) ct (0,0))::l:=by refine AO func83 ntmps83 λE=>?_;refine AQ λb2=>?_;refine ME (Du (cs:=toArray cs) (T:=ct) (off:=i) (l':=(b2,.cells (toArray [Bc le,Bc mo,.pointer (some ⟨bp,i,none⟩),.pointer none]) 183 (0,0))::(bp,.cells ((toArray cs).setIfInBounds i (iV x)) ct (0,0))::l) rfl rfl rfl (by exact DX) (by simpa using hi)) rfl rfl ?_;rintro _ _ ⟨rfl,rfl⟩;refine Aj ?_;exact AV [] _ rfl .refl (by exact Ba) (.drop .refl) ⟨rfl,by rw[Bw]⟩
theorem n8(le mo:Int)(bp i:Nat)(cs:Ap)(ct:TypeId)(x:Int)(hi:i<cs.length)(l:Ad):Fn prog 83 [fwV le mo bp i,Bc x] ((bp,.cells (toArray cs) ct (0,0))::l) λv l'=>v= .tuple #[]/\l'=(bp,.cells (toArray (cs.set i (Bc x))) ct (0,0))::l:=by refine AO func83 ntmps83 λE=>?_;refine AQ λb2=>?_;refine ME (Du (cs:=toArray cs) (T:=ct) (off:=i) (l':=(b2,.cells (toArray [Bc le,Bc mo,.pointer none,.pointer (some ⟨bp,i,none⟩)]) 183 (0,0))::(bp,.cells ((toArray cs).setIfInBounds i (Bc x)) ct (0,0))::l) rfl rfl rfl (by exact DX) (by simpa using hi)) rfl rfl ?_;rintro _ _ ⟨rfl,rfl⟩;refine Aj ?_;exact AV [] _ rfl .refl (by exact Ba) (.drop .refl) ⟨rfl,by rw[Bw]⟩
abbrev QV:Ap:=[Bc 0,Bc 0,.pointer none,.pointer none]
abbrev UR(bo i:Nat):Ap:=[Bc 0,Bc 18446744073709551615,.pointer none,.pointer (some ⟨bo,i,none⟩)]
abbrev CK(bo i:Nat):Ap:=[Bc 0,Bc 4095,.pointer (some ⟨bo,i,none⟩),.pointer none]
abbrev FR(bo i:Nat)(le mo:Int):Ap:=[Bc le,Bc mo,.pointer (some ⟨bo,i,none⟩),.pointer none]
abbrev IO(gb:Nat)(cs:Ap):Bg:=(gb,.cells (toArray cs) 183 (0,0))
theorem EE(rows:List (Ap))(hr: ∀r,r∈rows->r.length=4):Instr.fill (λi=>some (i*4,4)) (toArray (List.replicate rows.length QV).flatten) (EP 0 rows)=some (toArray rows.flatten):=by have h:=Rj (zs:=QV) (k:=4) rfl rows [] 0 hr rfl;rw[Ag,Ag] at h;exact h
theorem CY{rows:List (Ap)}(h:rows.all (λr=>r.length==4)=true): ∀r,r∈rows->r.length=4:=λr hr=>by simpa using A3.1 h r hr
abbrev Xf(bo:Nat):List (Ap):=[UR bo 8,UR bo 9,UR bo 10,UR bo 11]
theorem QG(bo:Nat)(l:Ad):Fn prog 124 [.pointer (some ⟨bo,0,none⟩)] l λv l'=> ∃gb,(∀c,c∈l->c.1≠gb)/\v= .slice (some ⟨gb,0,none⟩) 4 4/\l'=IO gb (Xf bo).flatten::l:=by refine AO func124 ntmps124 λE=>?_;refine Aj ?_;refine Cx (Cr [20] 0 22) ?_;refine CC ?_;refine Ll (D1 (k:=4) (n:=4) (e:=183) (zs:=QV) (cs:=(Xf bo).flatten) (pvs:=EP 0 (Xf bo)) rfl AZ AZ rfl (EE (Xf bo) (CY rfl))) ?_;rintro _ _ ⟨gb,RQ,rfl,rfl⟩;refine CC ?_;refine Aj ?_;exact CM _ .refl .refl ⟨gb,RQ,rfl,rfl⟩
end Go.Proofs.YtlifcingifodfaaGreat
