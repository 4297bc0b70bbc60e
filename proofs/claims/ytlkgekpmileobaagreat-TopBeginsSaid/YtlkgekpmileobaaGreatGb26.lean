/- Laws that the statement's proof leans on (joined out of several texts). -/
import Derived.Test.YtlkgekpmileobaaGreatGb25
import Derived.Test.YtlkgekpmileobaaGreatGb8
import Derived.Test.YtlkgekpmileobaaGreatGb10
import Derived.Test.YtlkgekpmileobaaGreatGb13
set_option linter.unusedVariables false
set_option linter.unusedSimpArgs false
namespace Go.Proofs.YtlkgekpmileobaaGreat
open Tryz
open List(toArray)
open Go.RowKit
set_option maxRecDepth 20000
set_option maxHeartbeats 400000
theorem XK(b:Nat)(H:HS)(lq:List Ab)(hq:IsH b H lq)(id:Int)(G:List Ab):
 Fn prog 366 [.pointer (some ⟨b,0,none⟩),.int .i64 id] (lq++G) λv l'=>v= .int .i64 (Iz H.1 id).1/\ ∃lq',IsH b ((Iz H.1 id).2,H.2) lq'/\l'=lq'++G:=by
 obtain⟨bs,bt,ls,lt,rfl,hs,ht⟩:=hq;refine AO func366 ntmps366 λE=>?_;simp only[Ad,Al];refine Aj ?_;refine Bc (AK rfl rfl λl2 hl=>JU b bs bt l2 (hl _ (.head _))) ?_;refine Aj ?_;refine AS (CZ rfl rfl (Fn.mvP (λA=>Lc b bs bt::(A++(lt++G))) (drop_any bs H.1 ls hs id (Lc b bs bt::(lt++G))))) ?_;rintro _ _ ⟨rfl,ls',hs',rfl⟩;refine Aj ?_;exact A8 (l':=(Lc b bs bt::(ls'++lt))++G) (.of_perm (.of_eq (by simp))) ⟨rfl,_,⟨bs,bt,ls',lt,rfl,hs',ht⟩,rfl⟩
theorem RD(b:Nat)(H:HS)(lq:List Ab)(hq:IsH b H lq)(hn:H.2.length<=1000)(s:CB)(l:List Ab)(hsub: ∀c,c∈lq->c∈l):
 Fn prog 283 [.pointer (some ⟨b,0,none⟩),.agg (toArray (Cj s))] l λv l'=> ∃cs,OwnSl 61 2 v (Tr.belowD H.2 s).length (Tr.scs (Tr.belowD H.2 s)) cs/\l'=cs++l:=by
 obtain⟨bs,bt,ls,lt,hb⟩:=hq;have hm:=hsub _ hb.h;refine AO func283 ntmps283 λE=>?_;refine AQ λb3=>?_;refine Ce [5] 7 (C8 b3 s::l) ?_;refine BI ?_;apply CE
 ·exact Az rfl rfl (Tr.belowOf_any bt H.2 lt hb.t Af s _ λc hc=> .tail _ (hsub _ (hb.m2 c hc)))
 ·rfl
 ·rfl
 ·rfl
 ·rintro _ _ ⟨cs,_,rfl⟩ x hx;exact Aa _ hx
 rintro v _ ⟨cs,ho,rfl⟩;refine BI ?_;refine Aj ?_;refine A8 (l':=cs++l) (AY (A:=cs++(C8 b3 s::l)) [C8 b3 s]) ?_;exact⟨cs,ho,rfl⟩
theorem TG(a b:CapT)(l:List Ab):Fn prog 340 [.agg (toArray (BR a)),.agg (toArray (BR b))] l λv l'=>v= .bool (HF a b)/\l'=l:=by
 refine AO func340 ntmps340 λE=>?_;refine AQ λb2=>?_;refine AQ λb3=>?_;refine Bc (AK rfl rfl λl2 _=>Hq a l2) ?_;unfold HF;cases hA:E5 a with
 |false=>exact Es
 |true=>
  refine Aj ?_;refine Vu (AK rfl rfl λl2 _=>Hq b l2) rfl rfl rfl rfl rfl rfl ?_;cases hB:E5 b with
  |false=>exact Es
  |true=>
   by_cases k0:a.kind=0
   ·rw[At k0];exact Es
   rw[Aw k0];by_cases k1:a.kind=b.kind
   ·rw[At k1];exact Es
   ·rw[Aw k1];exact Es
theorem fh(b:Nat)(H:HS)(n:Nat)(hI:InvH H n)(lq:List Ab)(hq:IsH b H lq)(s:CB)(c:CapT)(G:List Ab):
 Fn prog 300 [.pointer (some ⟨b,0,none⟩),.agg (toArray (Cj s)),.agg (toArray (BR c))] (lq++G) λv l'=>v= .int .i64 (OH H s c).1/\ ∃lq',IsH b (OH H s c).2 lq'/\l'=lq'++G:=by
 have hq0:=hq;refine AO func300 ntmps300 λE=>?_;refine AQ λb4=>?_;refine AQ λb5=>?_;refine Bc (AK rfl rfl λl2 hl=>Im b H lq hq s l2 λc hc=>hl c (.tail _ (.tail _ (Ai _ hc)))) ?_;have hret: ∀(d:CapT) (B:Nat),Keep (Bp B d::Bp b5 c::C8 b4 s::(lq++G)) (lq++G):=λ_ _=> .drop (.drop (.drop .refl));cases hok:Fc H.1 s with
 |false=>rw[TD hok,show OH H s c=(3,H) by unfold OH;rw[Ae hok]];refine AQ λb7=>?_;exact A8 (hret _ _) ⟨rfl,_,hq0,rfl⟩
 |true=>
 rw[Ky hok];have e0:OH H s c=if(DH H.1 s).kind=0 then(10,H) else if HF (DH H.1 s) c=false then(5,H) else(0,(FS H.1 s c,H.2)):=by unfold OH;rw[Ac (by rw[hok];decide)]
 rw[e0];refine AQ λb7=>?_;by_cases hw:(DH H.1 s).kind=0
 ·rw[Ae hw];refine Aj ?_;exact A8 (hret _ _) ⟨rfl,_,hq0,rfl⟩
 rw[Ac hw];refine Aj ?_;refine Bc (AK rfl rfl λl2 hl=>TG (DH H.1 s) c l2) ?_;cases ha:HF (DH H.1 s) c with
 |false=>rw[Ae rfl];refine Aj ?_;exact A8 (hret _ _) ⟨rfl,_,hq0,rfl⟩
 |true=>
 rw[Ac AW];obtain⟨bs,bt,ls,lt,rfl,hs,ht⟩:=hq;obtain⟨X,hX⟩: ∃X,X=[Bp b7 (DH H.1 s),Bp b5 c,C8 b4 s,Lc b bs bt]:=⟨_,rfl⟩
 have H1:=Fn.mvP (λA=>X++(A++(lt++G))) (set_any bs H.1 ls hs s c (X++(lt++G)));rw[JT hok (aU ha)] at H1;rw[hX] at H1;simp only[Ad,Al,Ag] at H1⊢;refine Aj ?_;refine Ce [6] 8 ([Bp b5 c,C8 b4 s,Lc b bs bt]) ?_;refine BI ?_;apply CE
 ·exact CZ rfl rfl H1
 ·rfl
 ·rfl
 ·rfl
 ·rintro _ _ ⟨_,ls',_,rfl⟩;exact Sn
 rintro _ _ ⟨rfl,ls',hs',rfl⟩;refine BI ?_;refine Aj ?_;exact A8 (l':=(Lc b bs bt::(ls'++lt))++G) (.drop (.drop (.drop (.of_perm (.of_eq (by simp)))))) ⟨rfl,_,⟨bs,bt,ls',lt,rfl,hs',ht⟩,rfl⟩
theorem aY(b:Nat)(H:HS)(n:Nat)(hI:InvH H n)(lq:List Ab)(hq:IsH b H lq)(a c:CB)(G:List Ab):
 Fn prog 211 [.pointer (some ⟨b,0,none⟩),.agg (toArray (Cj a)),.agg (toArray (Cj c))] (lq++G) λv l'=>v= .int .i64 (Jo H a c).1/\ ∃lq',IsH b (Jo H a c).2 lq'/\l'=lq'++G:=by
 refine AO func211 ntmps211 λE=>?_;refine AQ λb5=>?_;refine AQ λb6=>?_;refine Bc (AK rfl rfl λl2 hl=>Nm b H lq hq a c l2 λc hc=>hl c (.tail _ (.tail _ (Ai _ hc)))) ?_;have hret: ∀(d e:CapT) (B C:Nat),Keep (Bp B d::Bp C e::C8 b6 c::C8 b5 a::(lq++G)) (lq++G):=λ_ _ _ _=> .drop (.drop (.drop (.drop .refl)));by_cases hok:Fc H.1 a=false\/Fc H.1 c=false
 ·rw[UE hok];have e1:GN H a c=3:=by unfold GN;rw[Ae hok]
  rw[show Jo H a c=(3,H) by unfold Jo;rw[Ae (by rw[e1];decide),e1]];refine Aj ?_;refine AS e_alloc ?_;rintro _ _ ⟨b9,_,rfl,rfl⟩;refine AQ λb10=>?_;exact A8 (hret _ _ _ _) ⟨rfl,_,hq,rfl⟩
 obtain⟨oka,okc⟩:=Zl hok;rw[UD oka okc,Ky oka,Ky okc];refine Aj ?_;refine AS e_alloc ?_;rintro _ _ ⟨b9,_,rfl,rfl⟩;refine AQ λb10=>?_;by_cases hp:(DH H.1 a).kind=0
 ·have e1:GN H a c=10:=by unfold GN;rw[Ac hok,Ae hp]
  rw[show Jo H a c=(10,H) by unfold Jo;rw[Ae (by rw[e1];decide),e1]];refine Aj ?_;exact A8 (hret _ _ _ _) ⟨rfl,_,hq,rfl⟩
 by_cases hw:(DH H.1 c).kind≠0
 ·have e1:GN H a c=11:=by unfold GN;rw[Ac hok,Ac hp,Ae hw]
  rw[show Jo H a c=(11,H) by unfold Jo;rw[Ae (by rw[e1];decide),e1]];refine Aj ?_;exact A8 (hret _ _ _ _) ⟨rfl,_,hq,rfl⟩
 have e1:GN H a c=0:=by unfold GN;rw[Ac hok,Ac hp,Ac hw]
 rw[show Jo H a c=(0,(FS (FS H.1 a Cv) c (DH H.1 a),(Tr.moveD H.2 a c).2)) by unfold Jo;rw[Ac (by rw[e1];decide)]];obtain⟨bs,bt,ls,lt,rfl,hs,ht⟩:=hq;have hr0:=(V7 (t:=c) hI.tree ((hI.link a).2 ⟨oka,hp⟩) (hI.no (by simpa using hw))).1;obtain⟨X,hX⟩: ∃X,X=[Bp b10 (DH H.1 c),Bp b9 (DH H.1 a),C8 b6 c,C8 b5 a,Lc b bs bt]:=⟨_,rfl⟩
 have H1:=Fn.mvP (λA=>X++(A++(lt++G))) (set_any bs H.1 ls hs a Cv (X++(lt++G)));have H2:=λls (hs:IsS bs (FS H.1 a Cv) ls)=>Fn.mvP (λA=>X++(A++(lt++G))) (set_any bs _ ls hs c (DH H.1 a) (X++(lt++G)));have H3:=λls=>Fn.mvP (λA=>X++(ls++(A++G))) (Tr.move_any bt H.2 lt ht a c (X++(ls++G)));rw[JT oka Kw.1] at H1;rw[JT (by rw[MR];exact okc) (hI.at a).1] at H2;rw[hr0] at H3;rw[hX] at H1 H2 H3;simp only[Ad,Al,Ag] at H1 H2 H3⊢;refine Aj ?_;refine Ce [6] 7 ([C8 b5 a,Lc b bs bt]) ?_;refine BI ?_;apply CE
 ·exact CZ rfl rfl H1
 ·rfl
 ·rfl
 ·rfl
 ·rintro _ _ ⟨_,ls',_,rfl⟩;exact Sn
 rintro _ _ ⟨rfl,ls',hs',rfl⟩;refine BI ?_;refine Aj ?_;refine Ce [6] 7 ([Bp b9 (DH H.1 a),C8 b6 c,Lc b bs bt]) ?_;refine BI ?_;apply CE
 ·exact CZ rfl rfl (H2 ls' hs')
 ·rfl
 ·rfl
 ·rfl
 ·rintro _ _ ⟨_,ls2,_,rfl⟩;exact Sn
 rintro _ _ ⟨rfl,ls2,hs2,rfl⟩;refine BI ?_;refine Aj ?_;refine Ce [6] 8 ([C8 b6 c,C8 b5 a,Lc b bs bt]) ?_;refine BI ?_;apply CE
 ·exact CZ rfl rfl (H3 ls2)
 ·rfl
 ·rfl
 ·rfl
 ·rintro _ _ ⟨_,lt',_,rfl⟩;exact Sn
 rintro _ _ ⟨rfl,lt',ht',rfl⟩;refine BI ?_;refine Aj ?_;exact A8 (l':=(Lc b bs bt::(ls2++lt'))++G) (.drop (.drop (.drop (.drop (.of_perm (.of_eq (by simp))))))) ⟨rfl,_,⟨bs,bt,ls2,lt',rfl,hs2,ht'⟩,rfl⟩
theorem aZ(b:Nat)(H:HS)(n:Nat)(hI:InvH H n)(lq:List Ab)(hq:IsH b H lq)(a c:CB)(G:List Ab):
 Fn prog 212 [.pointer (some ⟨b,0,none⟩),.agg (toArray (Cj a)),.agg (toArray (Cj c))] (lq++G) λv l'=>v= .int .i64 (LY H a c).1/\ ∃lq',IsH b (LY H a c).2 lq'/\l'=lq'++G:=by
 refine AO func212 ntmps212 λE=>?_;refine AQ λb5=>?_;refine AQ λb6=>?_;refine Bc (AK rfl rfl λl2 hl=>Nm b H lq hq a c l2 λc hc=>hl c (.tail _ (.tail _ (Ai _ hc)))) ?_;have hret: ∀(d e:CapT) (B C:Nat),Keep (Bp B d::Bp C e::C8 b6 c::C8 b5 a::(lq++G)) (lq++G):=λ_ _ _ _=> .drop (.drop (.drop (.drop .refl)));by_cases hok:Fc H.1 a=false\/Fc H.1 c=false
 ·rw[UE hok,show LY H a c=(3,H) by unfold LY;rw[Ae hok]];refine Aj ?_;refine AS e_alloc ?_;rintro _ _ ⟨b9,_,rfl,rfl⟩;refine AQ λb10=>?_;exact A8 (hret _ _ _ _) ⟨rfl,_,hq,rfl⟩
 obtain⟨oka,okc⟩:=Zl hok;rw[UD oka okc,Ky oka,Ky okc,show LY H a c=(0,(FS (FS H.1 a (DH H.1 c)) c (DH H.1 a),Tr.swapD H.2 a c)) by unfold LY;rw[Ac hok]];refine Aj ?_;refine AS e_alloc ?_;rintro _ _ ⟨b9,_,rfl,rfl⟩;refine AQ λb10=>?_;obtain⟨bs,bt,ls,lt,rfl,hs,ht⟩:=hq;obtain⟨X,hX⟩: ∃X,X=[Bp b10 (DH H.1 c),Bp b9 (DH H.1 a),C8 b6 c,C8 b5 a,Lc b bs bt]:=⟨_,rfl⟩
 have H1:=Fn.mvP (λA=>X++(A++(lt++G))) (set_any bs H.1 ls hs a (DH H.1 c) (X++(lt++G)));have H2:=λls (hs:IsS bs (FS H.1 a (DH H.1 c)) ls)=>Fn.mvP (λA=>X++(A++(lt++G))) (set_any bs _ ls hs c (DH H.1 a) (X++(lt++G)));have H3:=λls=>Fn.mvP (λA=>X++(ls++(A++G))) (Tr.swap_any bt H.2 lt ht a c (X++(ls++G)));rw[JT oka (hI.at c).1] at H1;rw[JT (by rw[MR];exact okc) (hI.at a).1] at H2;rw[hX] at H1 H2 H3;simp only[Ad,Al,Ag] at H1 H2 H3⊢;refine Aj ?_;refine Ce [6] 7 ([Bp b10 (DH H.1 c),C8 b5 a,Lc b bs bt]) ?_;refine BI ?_;apply CE
 ·exact CZ rfl rfl H1
 ·rfl
 ·rfl
 ·rfl
 ·rintro _ _ ⟨_,ls',_,rfl⟩;exact Sn
 rintro _ _ ⟨rfl,ls',hs',rfl⟩;refine BI ?_;refine Aj ?_;refine Ce [6] 7 ([Bp b9 (DH H.1 a),C8 b6 c,Lc b bs bt]) ?_;refine BI ?_;apply CE
 ·exact CZ rfl rfl (H2 ls' hs')
 ·rfl
 ·rfl
 ·rfl
 ·rintro _ _ ⟨_,ls2,_,rfl⟩;exact Sn
 rintro _ _ ⟨rfl,ls2,hs2,rfl⟩;refine BI ?_;refine Aj ?_;refine Ce [6] 8 ([C8 b6 c,C8 b5 a,Lc b bs bt]) ?_;refine BI ?_;apply CE
 ·exact CZ rfl rfl (H3 ls2)
 ·rfl
 ·rfl
 ·rfl
 ·rintro _ _ ⟨_,lt',_,rfl⟩;exact Sn
 rintro _ _ ⟨rfl,lt',ht',rfl⟩;refine BI ?_;refine Aj ?_;exact A8 (l':=(Lc b bs bt::(ls2++lt'))++G) (.drop (.drop (.drop (.drop (.of_perm (.of_eq (by simp))))))) ⟨rfl,_,⟨bs,bt,ls2,lt',rfl,hs2,ht'⟩,rfl⟩
theorem XL(b:Nat)(H:HS)(n:Nat)(hI:InvH H n)(hn:n<=1000)(lq:List Ab)(hq:IsH b H lq)(s:CB)(G:List Ab):
 Fn prog 328 [.pointer (some ⟨b,0,none⟩),.agg (toArray (Cj s))] (lq++G) λv l'=>v= .tuple #[.agg (toArray (BR (DR H s).1.1)),.int .i64 (DR H s).1.2]/\ ∃lq',IsH b (DR H s).2 lq'/\l'=lq'++G:=by
 refine AO func328 ntmps328 λE=>?_;refine AQ λb3=>?_;refine AQ λb4=>?_;refine Bc (AK rfl rfl λl2 hl=>Im b H lq hq s l2 λc hc=>hl c (.tail _ (.tail _ (Ai _ hc)))) ?_;have hK: ∀(d2 c6:CapT) (B:Nat),Keep (Bp B d2::Bp b4 c6::C8 b3 s::(lq++G)) (Bp b4 c6::(lq++G)):=λ_ _ _=> .drop (.pick .here (.drop .refl));cases hok:Fc H.1 s with
 |false=>rw[TD hok,show DR H s=((Cv,3),H) by unfold DR;rw[Ae hok]];refine AQ λb6=>?_;exact Cy (l':=lq++G) (Bp b4 Cv::(lq++G)) (hK Cv Cv b6) (.drop .refl) ⟨rfl,_,hq,rfl⟩
 |true=>
 rw[Ky hok];refine AQ λb6=>?_;by_cases hw:(DH H.1 s).kind=0
 ·rw[show DR H s=((Cv,10),H) by unfold DR;rw[Ac (by rw[hok];decide),Ae hw]];refine Aj ?_;exact Cy (l':=lq++G) (Bp b4 Cv::(lq++G)) (hK (DH H.1 s) Cv b6) (.drop .refl) ⟨rfl,_,hq,rfl⟩
 rw[show DR H s=((DH H.1 s,0),(FS H.1 s Cv,(Tr.removeD H.2 s).2)) by unfold DR;rw[Ac (by rw[hok];decide),Ac hw]];obtain⟨bs,bt,ls,lt,rfl,hs,ht⟩:=hq;obtain⟨X,hX⟩: ∃X,X=[Bp b6 (DH H.1 s),Bp b4 Cv,C8 b3 s,Lc b bs bt]:=⟨_,rfl⟩
 have H1:=Fn.mvP (λA=>X++(A++(lt++G))) (set_any bs H.1 ls hs s Cv (X++(lt++G)));have H2:=λls=>Fn.mvP (λA=>X++(ls++(A++G))) (Tr.remove_any bt H.2 lt ht (hI.small hn).2.2 s (X++(ls++G)));rw[JT hok Kw.1] at H1;rw[hX] at H1 H2;simp only[Ad,Al,Ag] at H1 H2⊢;refine Aj ?_;refine Ce [6] 7 ([C8 b3 s,Lc b bs bt]) ?_;refine BI ?_;apply CE
 ·exact CZ rfl rfl H1
 ·rfl
 ·rfl
 ·rfl
 ·rintro _ _ ⟨_,ls',_,rfl⟩;exact Sn
 rintro _ _ ⟨rfl,ls',hs',rfl⟩;refine BI ?_;refine Aj ?_;refine Ce [5] 6 ([C8 b3 s,Lc b bs bt]) ?_;refine BI ?_;apply CE
 ·exact CZ rfl rfl (H2 ls')
 ·rfl
 ·rfl
 ·rfl
 ·rintro _ _ ⟨_,lt',_,rfl⟩;exact Sn
 rintro _ _ ⟨rfl,lt',ht',rfl⟩;refine BI ?_;refine Aj ?_;exact Cy (l':=(Lc b bs bt::(ls'++lt'))++G) (Bp b4 (DH H.1 s)::((Lc b bs bt::(ls'++lt'))++G)) (.drop (.pick .here (.drop (.of_perm (.of_eq (by simp)))))) (.drop .refl) ⟨rfl,_,⟨bs,bt,ls',lt',rfl,hs',ht'⟩,rfl⟩
abbrev sL(B b:Nat):Ab:=(B,.cells #[.pointer (some ⟨b,0,none⟩)] 157 (0,0))
def PE(s:CB)(c:CapT)(x:P0):Bool:=!decide (x.1=s)&&HF x.2 c
def JV(D:SD)(s:CB)(c:CapT)(i:Nat):List CB:=(((DC D).take i).filter (PE s c)).map Prod.fst
theorem XM{D:SD}{s:CB}{c:CapT}{i:Nat}{x:P0}(h:(DC D)[i]?=some x):JV D s c (i+1)=if PE s c x=true then JV D s c i++[x.1] else JV D s c i:=by
 unfold JV;rw[B0,h,Option.toList_some,Dl,Ap];by_cases hp:PE s c x=true
 ·rw[Ae hp,List.filter_cons_of_pos (by exact hp)];rfl
 ·rw[Ac hp,HJ (by exact hp)];simp
theorem bf(D:SD)(s:CB)(c:CapT)(i:Nat):JV D s c i<+:JV D s c (DC D).length:=by unfold JV;rw[D1];exact((BD i _).filter _).map _
theorem OwnSl.hds'{v:Value}{L:List P0}{cs l:List Ab}(h:OwnSl 132 10 v L.length (MM L) cs)(hs: ∀c,c∈cs->c∈l):RowSl l v 10 P1 L:=OwnSl.rowSl (enc:=P1) h (λ_=>rfl) hs
theorem XN(b:Nat)(s:CB)(c:CapT)(l:List Ab):
 Fn prog 363 [.pointer (some ⟨b,0,none⟩),.agg (toArray (Cj s)),.agg (toArray (BR c))] l λv l'=>
  ∃B1 B2 B3,v= .func (.func 385) #[] #[.pointer (some ⟨B1,0,none⟩),.pointer (some ⟨B2,0,none⟩),.pointer (some ⟨B3,0,none⟩)]/\l'=Bp B3 c::C8 B2 s::sL B1 b::l:=by
 refine AO func363 ntmps363 λE=>?_;refine AQ λb1=>?_;refine AQ λb2=>?_;refine AQ λb3=>?_;exact A8 .refl ⟨_,_,_,rfl,rfl⟩
theorem XO(B1 B2 B3 b:Nat)(H:HS)(n:Nat)(hI:InvH H n)(hn:n<=1000)(lq:List Ab)(hq:IsH b H lq)(s:CB)(c:CapT)(hul:(DC H.1).length<=900000):
 E2 prog 385 [.pointer (some ⟨B1,0,none⟩),.pointer (some ⟨B2,0,none⟩),.pointer (some ⟨B3,0,none⟩)] (λy:CB=>[.agg (toArray (Cj y))]) (λxs=>xs=JV H.1 s c (DC H.1).length) (λpre=>pre<+:JV H.1 s c (DC H.1).length)
  (λ_ l=>(∀x,x∈[sL B1 b,C8 B2 s,Bp B3 c]->x∈l)/\(∀c,c∈lq->c∈l)):=by
 refine⟨λr I Ix G0 hneed hY l G hG h0=>?_⟩;obtain⟨n1,n2⟩:=hneed _ _ G hG h0;have m1:=n1 (sL B1 b) (by simp);refine AO func385 ntmps385 λE=>?_;refine Aj ?_;refine AS (Az rfl rfl (TC b H lq hq (hI.small hn).1 _ n2)) ?_;rintro v _ ⟨cs,ho,rfl⟩;obtain⟨U,hU⟩: ∃U,DC H.1=U:=⟨_,rfl⟩
 have hlk:= @XM H.1 s c;have hlp:=bf H.1 s c;rw[hU] at ho hul hlk hlp hY⊢;have hR:=λ(l2:List Ab) (h: ∀c,c∈cs->c∈l2)=>ho.hds' h;obtain⟨p,cap,rfl⟩:=ho.shape;refine Aj ?_;refine Cu (α:=Nat×List Ab) (λx=>[(0,.func (.yield r) #[] #[]),(2,.pointer (some ⟨B2,0,none⟩)),(3,.pointer (some ⟨B3,0,none⟩)),(8,.slice p U.length cap),(9,.int .i64 U.length),(10,.int .i64 x.1)]) (λx=>x.2++(cs++G)) (λx=>x.1<=U.length/\I (JV H.1 s c x.1) x.2) (λx=>U.length-x.1) (0,l) ⟨Bf _,h0⟩ ⟨rfl,rfl,rfl,rfl,rfl,rfl,trivial⟩ (Keep.in_mid cs l G) ?_;clear n1 n2 m1 h0;rintro⟨i,l⟩ ⟨hi,hI'⟩;simp only at hi hI'⊢;by_cases hlt:i<U.length
 case neg=>
  obtain rfl:i=U.length:=by omega
  refine Aj ?_;exact A8 (l':=l++G) (AY cs) ⟨l,rfl,.inl ⟨_,rfl,hI'⟩⟩
 obtain⟨x,hx⟩: ∃x,U[i]?=some x:=⟨_,Am hlt⟩
 have hsn:=hlk hx;obtain⟨a0,cp,hv,hrow⟩:=hR (l++(cs++G)) (λc hc=>Aa _ (Ai _ hc));obtain⟨gb,off,xs,ty,fz,rfl,hm,hc⟩:=hrow Af;obtain⟨g1,g2⟩:=hc i x hx;cases hv;obtain⟨n1,n2⟩:=hneed (JV H.1 s c i) l (cs++G) (λc hc=>Aa _ (hG c hc)) hI';refine Aj ?_;refine Bc (Dm rfl hm g1 g2) ?_;refine Aj ?_;refine AS e_alloc ?_;rintro _ _ ⟨b6,_,rfl,rfl⟩;have m2:C8 B2 s∈l++(cs++G):=n1 _ (by simp);have m3:Bp B3 c∈l++(cs++G):=n1 _ (by simp);refine Aj ?_;refine Bc (FJ rfl rfl (Rt x.1) (Rt s)) ?_;by_cases hxs:x.1=s
 ·rw[hxs,F4 (Rt s)];rw[Ac (by unfold PE;rw[At hxs];simp)] at hsn;refine Aj ?_;exact BS (i+1,l) ⟨by simp only;omega,by rw[hsn];exact hI'⟩ (by simp only;omega) ⟨rfl,rfl,rfl,rfl,rfl,rfl,trivial⟩ (.drop .refl)
 rw[q6 hxs];refine Aj ?_;refine N9 (AK rfl rfl λl2 hl=>TG x.2 c l2) rfl rfl rfl ?_;cases ha:HF x.2 c with
 |false=>rw[Ac (by unfold PE;rw[ha];simp)] at hsn;refine Aj ?_;exact BS (i+1,l) ⟨by simp only;omega,by rw[hsn];exact hI'⟩ (by simp only;omega) ⟨rfl,rfl,rfl,rfl,rfl,rfl,trivial⟩ (.drop .refl)
 |true=>
 rw[Ae (by unfold PE;rw[ha,Aw hxs];rfl)] at hsn;have hp:=hlp (i+1);rw[hsn] at hp;have hy:=hY (JV H.1 s c i) x.1 l (q5 b6 x::(cs++G)) (λc hc=> .tail _ (Aa _ (hG c hc))) hI' hp;refine Aj ?_;refine Bk (Keep.in_mid [q5 b6 x] l (cs++G)) ?_;refine It (CK rfl rfl hy) rfl rfl rfl ?_;rintro w l' ⟨l1,rfl,⟨rfl,hI2⟩|⟨rfl,hx2⟩⟩
 ·refine Aj ?_;exact BS (i+1,l1) ⟨by simp only;omega,by rw[hsn];exact hI2⟩ (by simp only;omega) ⟨rfl,rfl,rfl,rfl,rfl,rfl,trivial⟩ (AY [q5 b6 x])
 ·refine Aj ?_;exact A8 (l':=l1++G) (AY (q5 b6 x::cs)) ⟨l1,rfl,.inr ⟨_,hp,hx2⟩⟩
theorem bg{H:HS}{s:CB}(h1:Fc H.1 s=true)(h2:(DH H.1 s).kind≠0):KJ H s=decide (JV H.1 s (DH H.1 s) (DC H.1).length=[]):=by
 unfold KJ JV;rw[Jf,HA,h1,Aw h2,D1,List.map_eq_nil_iff,List.filter_eq_nil_iff];simp only[Ib,Bn,Bool.and_true,A6];constructor
 ·intro h x hx hl;have:=h x hx;unfold PE at hl;cases hd:decide (x.1=s)<;>cases ha:HF x.2 (DH H.1 s)<;>simp_all
 ·intro h x hx;have:=h x hx;unfold PE at this;cases hd:decide (x.1=s)<;>cases ha:HF x.2 (DH H.1 s)<;>simp_all
theorem XP(b:Nat)(H:HS)(n:Nat)(hI:InvH H n)(hn:n<=1000)(lq:List Ab)(hq:IsH b H lq)(s:CB)(hul:(DC H.1).length<=900000)(l:List Ab)(hsub: ∀c,c∈lq->c∈l):
 Fn prog 327 [.pointer (some ⟨b,0,none⟩),.agg (toArray (Cj s))] l λv l'=>v= .bool (KJ H s)/\l'=l:=by
 refine AO func327 ntmps327 λE=>?_;refine AQ λb3=>?_;refine AQ λb4=>?_;refine Bc (AK rfl rfl λl2 hl=>Im b H lq hq s l2 λc hc=>hl c (.tail _ (.tail _ (hsub c hc)))) ?_;cases hok:Fc H.1 s with
 |false=>rw[TD hok,show KJ H s=false by unfold KJ;rw[hok];rfl];refine AQ λb5=>?_;exact Cy (l':=l) ((b4,.cells (toArray [.bool false]) 4 (0,0))::l) (.drop (.pick .here (.drop .refl))) (.drop .refl) ⟨rfl,rfl⟩
 |true=>
 rw[Ky hok];refine AQ λb5=>?_;by_cases hw:(DH H.1 s).kind=0
 ·rw[show KJ H s=false by unfold KJ;rw[At hw];simp];refine Aj ?_;exact Cy (l':=l) ((b4,.cells (toArray [.bool false]) 4 (0,0))::l) (.drop (.pick .here (.drop .refl))) (.drop .refl) ⟨rfl,rfl⟩
 rw[bg hok hw];refine Aj ?_;refine AS (Az rfl rfl (XN b s (DH H.1 s) _)) ?_;rintro _ _ ⟨B1,B2,B3,rfl,rfl⟩;refine Aj ?_;refine CU (α:=CB) (ps:=[24]) (lb:=[.pointer (some ⟨B1,0,none⟩),.pointer (some ⟨B2,0,none⟩),.pointer (some ⟨B3,0,none⟩)]) rfl (XO B1 B2 B3 b H n hI hn lq hq s (DH H.1 s) hul) (λ_=>rfl) rfl
  (λpre l=>l=[Bp B3 (DH H.1 s),C8 B2 s,sL B1 b,(b4,.cells (toArray [.bool false]) 4 (0,0))]/\pre=[])
  (λc pre l=>c= .ret/\pre≠[]/\l=[(b4,.cells (toArray [.bool false]) 4 (0,0))])
  _ (Bp b5 (DH H.1 s)::C8 b3 s::l) (λpre l2 X2 hX h=>⟨λx hx=>by rw[h.1];exact Ai _ (by simp only[Aq,BK,Ec] at hx⊢;rcases hx with h|h|h<;>simp[h]),λc hc=>Aa _ (hX _ (.tail _ (.tail _ (hsub _ hc))))⟩) (by exact AR) ⟨rfl,rfl⟩ ?_ ?_ ?_
 ·rintro E r0 rec pre x l' T ⟨fn,tmps,D0,rfl⟩ hT ⟨rfl,rfl⟩ hsp;simp only[Du,Ad,Ag];refine Aj ?_;refine Cp (by exact Dw) ?_;refine Aj ?_;refine D3 [(b4,.cells (toArray [.bool false]) 4 (0,0))] (by exact AR) ⟨rfl,by simp,rfl⟩
 ·rintro D0 xs l' hS ⟨rfl,rfl⟩;rw[<-hS];simp only[Ad,Ag];refine Aj ?_;exact AU [D0] ((b4,.cells (toArray [.bool true]) 4 (0,0))::l) rfl (l':=l) (by exact AR) (by exact A7) (.drop .refl) ⟨rfl,rfl⟩
 ·rintro D0 c pre l' hsp ⟨rfl,hne,rfl⟩;have hL:JV H.1 s (DH H.1 s) (DC H.1).length≠[]:=λe=>by rw[e] at hsp;exact hne (List.prefix_nil.1 hsp)
  rw[Aw hL];simp only[Ad,Ag];refine Aj ?_;exact AU [D0] ((b4,.cells (toArray [.bool false]) 4 (0,0))::l) rfl (l':=l) (by exact AR) (by exact A7) (.drop .refl) ⟨rfl,rfl⟩
end Go.Proofs.YtlkgekpmileobaaGreat
namespace Go.Proofs.YtlkgekpmileobaaGreat.Ar
open Tryz
open List(toArray)
open Go.RowKit
set_option maxRecDepth 20000
set_option maxHeartbeats 400000
variable{S:ArT}{k:Nat}{o o':ObT}{id m s p v:Int}{os:OL}
def dropD(S:ArT)(id:Int):Int×ArT:=match atO S.os id with
 |some k=>(0,{S with os:=S.os.eraseIdx k})
 |none=>(2,S)
def Zm(o:ObT)(m:Int):ObT:={o with ma:=m}
def Zn(o:ObT)(s p v:Int):ObT:={o with se:=s,pg:=p,lv:=v}
def markD'(S:ArT)(id m:Int):Int×ArT:=match atO S.os id with
 |some k=>if(S.os.getD k obO).kd≠1 then(8,S) else if m<0\/m>(S.os.getD k obO).fr then(3,S) else(0,{S with os:=S.os.set k (Zm (S.os.getD k obO) m)})
 |none=>(2,S)
abbrev Ql(s p v:Int):Prop:=(s=0/\p=0/\v=0)\/(1<=s/\s<=16777215/\0<=p/\p<512/\1<=v/\v<=2)
def placeD(S:ArT)(id s p v:Int):Int×ArT:=match atO S.os id with
 |some k=>if(S.os.getD k obO).kd≠4 then(8,S) else if ¬Ql s p v then(3,S) else(0,{S with os:=S.os.set k (Zn (S.os.getD k obO) s p v)})
 |none=>(2,S)
theorem JT(hS:S.Ok)(h:S.os[k]?=some o)(h1:o'.id=o.id)(h2:o'.fi=o.fi):ArT.Ok {S with os:=S.os.set k o'}:=by
 have hk:=(Ax.1 h).1;have he:=(Ax.1 h).2;have hm: ∀x∈S.os.set k o',∃y∈S.os,x.id=y.id/\x.fi=y.fi:=λx hx=>by
  rcases Ek hx with hx|rfl
  ·exact⟨x,hx,rfl,rfl⟩
  ·exact⟨o,A9 h,h1,h2⟩
 refine⟨hS.n1,hS.n2,hS.g1,?_,λx hx=>?_,λx hx=>?_⟩
 ·show(S.os.set k o').Pairwise _;rw[G9];intro i j hi hj hij;rw[Ct] at hi hj;have hP:=G9.1 hS.asc;have g: ∀(i:Nat) (hi:i<S.os.length) (hi':i<(S.os.set k o').length),((S.os.set k o')[i]).id=(S.os[i]).id:=λi hi hi'=>by
   rw[List.getElem_set]
   split
   ·rename_i e;subst e;rw[h1,he]
   ·rfl
  rw[g i hi,g j hj];exact hP i j hi hj hij
 ·obtain⟨y,hy,e1,e2⟩:=hm x hx;rw[e1];exact hS.rng y hy
 ·obtain⟨y,hy,e1,e2⟩:=hm x hx;show 0<=x.fi/\x.fi<S.n/\ ∃c:Int,0<=c/\c<S.g x.fi.toNat/\x.id=x.fi+1+64*c;rw[e1,e2];exact hS.num y hy
theorem atO_get(h:atO os id=some k):os[k]?=some (os.getD k obO)/\(os.getD k obO).id=id:=by obtain⟨o,h1,h2⟩:=ME h;rw[List.getD,h1];exact⟨rfl,h2⟩
theorem jM(hS:S.Ok)(id:Int):(dropD S id).2.Ok:=by
 unfold dropD
 split
 ·rename_i k hk;have hm: ∀x∈S.os.eraseIdx k,x∈S.os:=λx hx=>Hm hx;exact⟨hS.n1,hS.n2,hS.g1,hS.asc.sublist (List.eraseIdx_sublist ..),λx hx=>hS.rng x (hm x hx),λx hx=>hS.num x (hm x hx)⟩
 ·exact hS
theorem jN(hS:S.Ok)(id m:Int):(markD' S id m).2.Ok:=by
 unfold markD'
 split
 ·rename_i k hk
  split
  ·exact hS
  split
  ·exact hS
  exact JT hS (atO_get hk).1 rfl rfl
 ·exact hS
theorem fj(hS:S.Ok)(id s p v:Int):(placeD S id s p v).2.Ok:=by
 unfold placeD
 split
 ·rename_i k hk
  split
  ·exact hS
  split
  ·exact hS
  exact JT hS (atO_get hk).1 rfl rfl
 ·exact hS
theorem bi(os:OL)(k:Nat)(hk:k<os.length):(os.eraseIdx k)=os.take k++os.drop (k+1):=C4 ..
theorem XQ{c x:Ab}{l F:List Ab}(h:c∈x::l):c∈x::(l++F):=by rw[<-Ad];exact Ai _ h
theorem bj(h:os[k]?=some o):ocs os=ocs (os.take k)++obC o++ocs (os.drop (k+1)):=by
 conv=>lhs;rw[VG h]
 rw[Lv,show ocs (o::os.drop (k+1))=obC o++ocs (os.drop (k+1)) from rfl,Al]
theorem Nn(h:os[k]?=some o):os.getD k obO=o:=by rw[List.getD,h];rfl
theorem TH(h:atO S.os id=none):markD' S id m=(2,S):=by unfold markD';rw[h]
theorem n9(h:atO S.os id=some k)(ho:S.os[k]?=some o)(h1:o.kd≠1):markD' S id m=(8,S):=by unfold markD';rw[h];simp only[Nn ho];rw[Ae h1]
theorem fl(h:atO S.os id=some k)(ho:S.os[k]?=some o)(h1:o.kd=1)(h2:m<0\/m>o.fr):markD' S id m=(3,S):=by unfold markD';rw[h];simp only[Nn ho];rw[Ac Af,Ae h2]
theorem oa(h:atO S.os id=some k)(ho:S.os[k]?=some o)(h1:o.kd=1)(h2:¬(m<0\/m>o.fr)):markD' S id m=(0,{S with os:=S.os.set k (Zm o m)}):=by unfold markD';rw[h];simp only[Nn ho];rw[Ac Af,Ac h2]
theorem RE(h:atO S.os id=none):placeD S id s p v=(2,S):=by unfold placeD;rw[h]
theorem jO(h:atO S.os id=some k)(ho:S.os[k]?=some o)(h1:o.kd≠4):placeD S id s p v=(8,S):=by unfold placeD;rw[h];simp only[Nn ho];rw[Ae h1]
theorem jP(h:atO S.os id=some k)(ho:S.os[k]?=some o)(h1:o.kd=4)(h2:¬Ql s p v):placeD S id s p v=(3,S):=by unfold placeD;rw[h];simp only[Nn ho];rw[Ac Af,Ae h2]
theorem jQ(h:atO S.os id=some k)(ho:S.os[k]?=some o)(h1:o.kd=4)(h2:Ql s p v):placeD S id s p v=(0,{S with os:=S.os.set k (Zn o s p v)}):=by unfold placeD;rw[h];simp only[Nn ho];rw[Ac Af,Ac (FC h2)]
theorem Zo{b gb cap:Nat}{sp:List Value}(hOk:ArT.Ok {S with os:=S.os.set k o'})(hnc:S.os.length<=cap)(hcm:cap<=maxLen)(hcl:(ocs S.os++sp).length=cap*9):
 IsA b {S with os:=S.os.set k o'} [Q8 b S.n S.g (.slice (some ⟨gb,0,none⟩) S.os.length cap),(gb,.cells (toArray (ocs (S.os.set k o')++sp)) 100 (0,0))]:=by
 refine⟨hOk,_,_,rfl,?_⟩;show OwnSl 100 9 _ (S.os.set k o').length (ocs (S.os.set k o')) _;refine⟨by rw[MD],.inr ⟨gb,cap,sp,by rw[Ct],rfl,by rw[Ct];exact hnc,hcm,?_⟩⟩;rw[Ah,MD,Ct];rw[Ah,MD] at hcl;exact hcl
end Go.Proofs.YtlkgekpmileobaaGreat.Ar
namespace Go.Proofs.YtlkgekpmileobaaGreat
open Tryz
open List(toArray)
open Go.RowKit
set_option maxRecDepth 20000
variable{S:Ar.ArT}{c:CapT}{left:Int}{D:SD}{addr f:Nat}
abbrev W4:=CB×Int
abbrev od(y:W4):List Value:=[.int .i64 y.1.1,.int .i64 y.1.2,.int .i64 y.2]
def jR(S:Ar.ArT)(c:CapT):Ar.ObT:=(Ar.getD' S c.obj).1
def mq(addr:Nat)(c:CapT)(left:Int):Nat:=if c.bits>0 then DN addr (left-c.bits).toNat c.bits.toNat else 0
def UG(S:Ar.ArT)(c:CapT)(left:Int):Prop:=E5 c=true/\c.kind=2/\(Ar.getD' S c.obj).2=true/\(jR S c).kd=2/\c.bits+(jR S c).sz<=left
instance(S:Ar.ArT)(c:CapT)(left:Int):Decidable (UG S c left):=by unfold UG;exact inferInstance
def HP(S:Ar.ArT)(c:CapT)(left:Int):Int:=left-(c.bits+(jR S c).sz)
def NL(S:Ar.ArT)(addr:Nat)(c:CapT)(left:Int):CB:=((jR S c).id,(DN addr (HP S c left).toNat (jR S c).sz.toNat:Nat))
def MX(D:SD)(S:Ar.ArT)(addr:Nat)(c:CapT)(left:Int):Option (W4×CapT):=
 if UG S c left then(if mq addr c left=PZ c.guard/\(getD' D (NL S addr c left)).2=0 then some ((NL S addr c left,HP S c left),(getD' D (NL S addr c left)).1) else none) else none
def Fx(D:SD)(S:Ar.ArT)(addr:Nat):Nat->CapT->Int->List W4
 |0,_,_=>[]
 |f+1,c,left=>if left>0 then(match MX D S addr c left with|some y=>y.1::Fx D S addr f y.2 y.1.2|none=>[]) else[]
def jS(S:Ar.ArT):Prop:= ∀o∈S.os,o.kd=2->1<=o.sz/\o.sz<=4
theorem Zp{id:Int}(h:(Ar.getD' S id).2=true):(Ar.getD' S id).1∈S.os/\(Ar.getD' S id).1.id=id:=by
 unfold Ar.getD' at*;cases hk:Ar.atO S.os id with
 |none=>rw[hk] at h;cases h
 |some k=>obtain⟨h1,h2⟩:=Ar.atO_get hk;exact⟨A9 h1,h2⟩
theorem TI(h:E5 c=true)(hk:c.kind=2):0<=c.bits/\c.bits<=12/\0<=c.guard/\JQ (PZ c.guard) c.bits=true:=by unfold E5 at h;rw[Ac Af,Ac Af,Ae hk] at h;unfold Zh at h;simp only[AX,Br] at h;obtain⟨⟨⟨h1,h2⟩,h3,h4⟩,_⟩:=h;exact⟨h1,h2,h3,h4⟩
theorem XR(hR:jS S)(h:UG S c left):0<=c.bits/\c.bits<=12/\1<=(jR S c).sz/\(jR S c).sz<=4/\0<=HP S c left/\HP S c left<left:=by obtain⟨h1,h2,h3,h4,h5⟩:=h;obtain⟨b1,b2,_⟩:=TI h1 h2;obtain⟨m1,_⟩:=Zp h3;obtain⟨s1,s2⟩:=hR _ m1 h4;unfold HP jR at*;refine⟨b1,b2,s1,s2,Af,Af⟩
theorem bk(h:UG S c left)(h2:mq addr c left=PZ c.guard/\(getD' D (NL S addr c left)).2=0):MX D S addr c left=some ((NL S addr c left,HP S c left),(getD' D (NL S addr c left)).1):=by unfold MX;rw[Ae h,Ae h2]
theorem XS(h:¬UG S c left):MX D S addr c left=none:=by unfold MX;rw[Ac h]
theorem RF(h:¬(mq addr c left=PZ c.guard/\(getD' D (NL S addr c left)).2=0)):MX D S addr c left=none:=by
 unfold MX;by_cases hg:UG S c left
 ·rw[Ae hg,Ac h]
 ·rw[Ac hg]
theorem RG(h:left<=0):Fx D S addr f c left=[]:=by
 cases f with
 |zero=>rfl
 |succ f=>unfold Fx;rw[Ac Af]
theorem No(h:MX D S addr c left=none):Fx D S addr f c left=[]:=by
 cases f with
 |zero=>rfl
 |succ f=>unfold Fx;rw[h];split<;>rfl
theorem Zq{y:W4×CapT}(h0:left>0)(h:MX D S addr c left=some y):Fx D S addr (f+1) c left=y.1::Fx D S addr f y.2 y.1.2:=by rw[Fx,Ae h0,h]
theorem fm{w a n:Nat}(h:n<=4):DN w a n<16:=DY (show DN w a n<2^n from Gy _ (Gb n)) (CG Af h)
def fo(addr:Nat)(depth:Int):Prop:=depth<1\/depth>12\/JQ addr depth=false
instance(addr:Nat)(depth:Int):Decidable (fo addr depth):=by unfold fo;exact inferInstance
def OJ(L:List W4)(depth:Int):W4:=L.getLast?.getD ((0,0),depth)
def Wa(D:SD)(S:Ar.ArT)(c:CapT)(addr:Nat)(depth:Int):CB×Int:=
 if fo addr depth then((0,0),3) else if(OJ (Fx D S addr 13 c depth) depth).2>0 then((0,0),12) else((OJ (Fx D S addr 13 c depth) depth).1,0)
end Go.Proofs.YtlkgekpmileobaaGreat
