/- Laws that the statement's proof leans on (joined out of several texts). -/
import Derived.Test.YtlifcingifodfaaGreatGc25
set_option maxHeartbeats 4000000
set_option linter.unusedVariables false
set_option linter.unusedSimpArgs false
namespace Go.Proofs.YtlifcingifodfaaGreat
open Tryz
open List(toArray)
open Go.RowKit
set_option maxRecDepth 20000
variable{S:Ar.ArT}{c:CapT}{left:Int}{D:SD}{Ch f:Nat}
theorem aD(b:Nat)(H:HS)(lq:Ad)(hq:IsH b H lq)(id:Int)(G:Ad):
 Fn prog 365 [.pointer (some ⟨b,0,none⟩),.int .i64 id] (lq++G) λv l'=>v= .int .i64 (Hx H.1 id).1/\ ∃DD,IsH b ((Hx H.1 id).2,H.2) DD/\l'=DD++G:=by
 obtain⟨bs,bt,ls,lt,rfl,hs,ht⟩:=hq;refine AO func365 ntmps365 λE=>?_;simp only[Ae,Am];refine Aj ?_;refine Be (AL rfl rfl λl2 hl=>K4 b bs bt l2 (hl _ (.head _))) ?_;refine Aj ?_;refine AR (Dn rfl rfl (Fn.mvP (λA=>Mw b bs bt::(A++(lt++G))) (drop_any bs H.1 ls hs id (Mw b bs bt::(lt++G))))) ?_;rintro _ _ ⟨rfl,ls',hs',rfl⟩;refine Aj ?_;exact Bb (l':=(Mw b bs bt::(ls'++lt))++G) (.of_perm (.of_eq (by simp))) ⟨rfl,_,⟨bs,bt,ls',lt,rfl,hs',ht⟩,rfl⟩
theorem TX(b:Nat)(H:HS)(lq:Ad)(hq:IsH b H lq)(hn:H.2.length<=1000)(s:Ck)(l:Ad)(CE: ∀c,c∈lq->c∈l):
 Fn prog 282 [.pointer (some ⟨b,0,none⟩),.agg (toArray (Ct s))] l λv l'=> ∃cs,OwnSl 61 2 v (Tr.belowD H.2 s).length (Tr.scs (Tr.belowD H.2 s)) cs/\l'=cs++l:=by
 obtain⟨bs,bt,ls,lt,hb⟩:=hq;have hm:=CE _ hb.h;refine AO func282 ntmps282 λE=>?_;refine AQ λb3=>?_;refine Cn [5] 7 (Dv b3 s::l) ?_;refine BS ?_;apply CS
 ·exact AA rfl rfl (Tr.belowOf_any bt H.2 lt hb.t Af s _ λc hc=> .tail _ (CE _ (hb.m2 c hc)))
 ·rfl
 ·rfl
 ·rfl
 ·rintro _ _ ⟨cs,_,rfl⟩ x hx;exact Aa _ hx
 rintro v _ ⟨cs,ho,rfl⟩;refine BS ?_;refine Aj ?_;refine Bb (l':=cs++l) (A8 (A:=cs++(Dv b3 s::l)) [Dv b3 s]) ?_;exact⟨cs,ho,rfl⟩
theorem VQ(a b:CapT)(l:Ad):Fn prog 339 [.agg (toArray (B9 a)),.agg (toArray (B9 b))] l λv l'=>v= .bool (IC a b)/\l'=l:=by
 refine AO func339 ntmps339 λE=>?_;refine AQ λb2=>?_;refine AQ λb3=>?_;refine Be (AL rfl rfl λl2 _=>Io a l2) ?_;unfold IC;cases hA:FD a with
 |false=>exact E4
 |true=>
  refine Aj ?_;refine XT (AL rfl rfl λl2 _=>Io b l2) rfl rfl rfl rfl rfl rfl ?_;cases hB:FD b with
  |false=>exact E4
  |true=>
   by_cases k0:a.kind=0
   ·rw[Av k0];exact E4
   rw[Ax k0];by_cases k1:a.kind=b.kind
   ·rw[Av k1];exact E4
   ·rw[Ax k1];exact E4
theorem lP(b:Nat)(H:HS)(n:Nat)(hI:InvH H n)(lq:Ad)(hq:IsH b H lq)(s:Ck)(c:CapT)(G:Ad):
 Fn prog 299 [.pointer (some ⟨b,0,none⟩),.agg (toArray (Ct s)),.agg (toArray (B9 c))] (lq++G) λv l'=>v= .int .i64 (Pd H s c).1/\ ∃DD,IsH b (Pd H s c).2 DD/\l'=DD++G:=by
 have MJ:=hq;refine AO func299 ntmps299 λE=>?_;refine AQ λb4=>?_;refine AQ λb5=>?_;refine Be (AL rfl rfl λl2 hl=>Jh b H lq hq s l2 λc hc=>hl c (.tail _ (.tail _ (Ai _ hc)))) ?_;have Ke: ∀(d:CapT) (B:Nat),Keep (Bv B d::Bv b5 c::Dv b4 s::(lq++G)) (lq++G):=λ_ _=> .drop (.drop (.drop .refl));cases Dm:FJ H.1 s with
 |false=>rw[VN Dm,show Pd H s c=(3,H) by unfold Pd;rw[Ac Dm]];refine AQ λb7=>?_;exact Bb (Ke _ _) ⟨rfl,_,MJ,rfl⟩
 |true=>
 rw[LK Dm];have e0:Pd H s c=if(D5 H.1 s).kind=0 then(10,H) else if IC (D5 H.1 s) c=false then(5,H) else(0,(Gn H.1 s c,H.2)):=by unfold Pd;rw[Ab (by rw[Dm];decide)]
 rw[e0];refine AQ λb7=>?_;by_cases hw:(D5 H.1 s).kind=0
 ·rw[Ac hw];refine Aj ?_;exact Bb (Ke _ _) ⟨rfl,_,MJ,rfl⟩
 rw[Ab hw];refine Aj ?_;refine Be (AL rfl rfl λl2 hl=>VQ (D5 H.1 s) c l2) ?_;cases ha:IC (D5 H.1 s) c with
 |false=>rw[Ac rfl];refine Aj ?_;exact Bb (Ke _ _) ⟨rfl,_,MJ,rfl⟩
 |true=>
 rw[Ab AZ];obtain⟨bs,bt,ls,lt,rfl,hs,ht⟩:=hq;obtain⟨X,hX⟩: ∃X,X=[Bv b7 (D5 H.1 s),Bv b5 c,Dv b4 s,Mw b bs bt]:=⟨_,rfl⟩
 have H1:=Fn.mvP (λA=>X++(A++(lt++G))) (set_any bs H.1 ls hs s c (X++(lt++G)));rw[K3 Dm (gJ ha)] at H1;rw[hX] at H1;simp only[Ae,Am,Ag] at H1⊢;refine Aj ?_;refine Cn [6] 8 ([Bv b5 c,Dv b4 s,Mw b bs bt]) ?_;refine BS ?_;apply CS
 ·exact Dn rfl rfl H1
 ·rfl
 ·rfl
 ·rfl
 ·rintro _ _ ⟨_,ls',_,rfl⟩;exact UM
 rintro _ _ ⟨rfl,ls',hs',rfl⟩;refine BS ?_;refine Aj ?_;exact Bb (l':=(Mw b bs bt::(ls'++lt))++G) (.drop (.drop (.drop (.of_perm (.of_eq (by simp)))))) ⟨rfl,_,⟨bs,bt,ls',lt,rfl,hs',ht⟩,rfl⟩
theorem gO(b:Nat)(H:HS)(n:Nat)(hI:InvH H n)(lq:Ad)(hq:IsH b H lq)(a c:Ck)(G:Ad):
 Fn prog 210 [.pointer (some ⟨b,0,none⟩),.agg (toArray (Ct a)),.agg (toArray (Ct c))] (lq++G) λv l'=>v= .int .i64 (Jx H a c).1/\ ∃DD,IsH b (Jx H a c).2 DD/\l'=DD++G:=by
 refine AO func210 ntmps210 λE=>?_;refine AQ λb5=>?_;refine AQ λb6=>?_;refine Be (AL rfl rfl λl2 hl=>OY b H lq hq a c l2 λc hc=>hl c (.tail _ (.tail _ (Ai _ hc)))) ?_;have Ke: ∀(d e:CapT) (B C:Nat),Keep (Bv B d::Bv C e::Dv b6 c::Dv b5 a::(lq++G)) (lq++G):=λ_ _ _ _=> .drop (.drop (.drop (.drop .refl)));by_cases Dm:FJ H.1 a=false\/FJ H.1 c=false
 ·rw[WN Dm];have e1:HA H a c=3:=by unfold HA;rw[Ac Dm]
  rw[show Jx H a c=(3,H) by unfold Jx;rw[Ac (by rw[e1];decide),e1]];refine Aj ?_;refine AR e_alloc ?_;rintro _ _ ⟨b9,_,rfl,rfl⟩;refine AQ λGX=>?_;exact Bb (Ke _ _ _ _) ⟨rfl,_,hq,rfl⟩
 obtain⟨jK,okc⟩:=dE Dm;rw[WM jK okc,LK jK,LK okc];refine Aj ?_;refine AR e_alloc ?_;rintro _ _ ⟨b9,_,rfl,rfl⟩;refine AQ λGX=>?_;by_cases hp:(D5 H.1 a).kind=0
 ·have e1:HA H a c=10:=by unfold HA;rw[Ab Dm,Ac hp]
  rw[show Jx H a c=(10,H) by unfold Jx;rw[Ac (by rw[e1];decide),e1]];refine Aj ?_;exact Bb (Ke _ _ _ _) ⟨rfl,_,hq,rfl⟩
 by_cases hw:(D5 H.1 c).kind≠0
 ·have e1:HA H a c=11:=by unfold HA;rw[Ab Dm,Ab hp,Ac hw]
  rw[show Jx H a c=(11,H) by unfold Jx;rw[Ac (by rw[e1];decide),e1]];refine Aj ?_;exact Bb (Ke _ _ _ _) ⟨rfl,_,hq,rfl⟩
 have e1:HA H a c=0:=by unfold HA;rw[Ab Dm,Ab hp,Ab hw]
 rw[show Jx H a c=(0,(Gn (Gn H.1 a CI) c (D5 H.1 a),(Tr.moveD H.2 a c).2)) by unfold Jx;rw[Ab (by rw[e1];decide)]];obtain⟨bs,bt,ls,lt,rfl,hs,ht⟩:=hq;have cK:=(YD (t:=c) hI.tree ((hI.link a).2 ⟨jK,hp⟩) (hI.no (by simpa using hw))).1;obtain⟨X,hX⟩: ∃X,X=[Bv GX (D5 H.1 c),Bv b9 (D5 H.1 a),Dv b6 c,Dv b5 a,Mw b bs bt]:=⟨_,rfl⟩
 have H1:=Fn.mvP (λA=>X++(A++(lt++G))) (set_any bs H.1 ls hs a CI (X++(lt++G)));have H2:=λls (hs:IsS bs (Gn H.1 a CI) ls)=>Fn.mvP (λA=>X++(A++(lt++G))) (set_any bs _ ls hs c (D5 H.1 a) (X++(lt++G)));have H3:=λls=>Fn.mvP (λA=>X++(ls++(A++G))) (Tr.move_any bt H.2 lt ht a c (X++(ls++G)));rw[K3 jK LJ.1] at H1;rw[K3 (by rw[Oj];exact okc) (hI.at a).1] at H2;rw[cK] at H3;rw[hX] at H1 H2 H3;simp only[Ae,Am,Ag] at H1 H2 H3⊢;refine Aj ?_;refine Cn [6] 7 ([Dv b5 a,Mw b bs bt]) ?_;refine BS ?_;apply CS
 ·exact Dn rfl rfl H1
 ·rfl
 ·rfl
 ·rfl
 ·rintro _ _ ⟨_,ls',_,rfl⟩;exact UM
 rintro _ _ ⟨rfl,ls',hs',rfl⟩;refine BS ?_;refine Aj ?_;refine Cn [6] 7 ([Bv b9 (D5 H.1 a),Dv b6 c,Mw b bs bt]) ?_;refine BS ?_;apply CS
 ·exact Dn rfl rfl (H2 ls' hs')
 ·rfl
 ·rfl
 ·rfl
 ·rintro _ _ ⟨_,ls2,_,rfl⟩;exact UM
 rintro _ _ ⟨rfl,ls2,NM,rfl⟩;refine BS ?_;refine Aj ?_;refine Cn [6] 8 ([Dv b6 c,Dv b5 a,Mw b bs bt]) ?_;refine BS ?_;apply CS
 ·exact Dn rfl rfl (H3 ls2)
 ·rfl
 ·rfl
 ·rfl
 ·rintro _ _ ⟨_,lt',_,rfl⟩;exact UM
 rintro _ _ ⟨rfl,lt',ht',rfl⟩;refine BS ?_;refine Aj ?_;exact Bb (l':=(Mw b bs bt::(ls2++lt'))++G) (.drop (.drop (.drop (.drop (.of_perm (.of_eq (by simp))))))) ⟨rfl,_,⟨bs,bt,ls2,lt',rfl,NM,ht'⟩,rfl⟩
theorem gP(b:Nat)(H:HS)(n:Nat)(hI:InvH H n)(lq:Ad)(hq:IsH b H lq)(a c:Ck)(G:Ad):
 Fn prog 211 [.pointer (some ⟨b,0,none⟩),.agg (toArray (Ct a)),.agg (toArray (Ct c))] (lq++G) λv l'=>v= .int .i64 (LI H a c).1/\ ∃DD,IsH b (LI H a c).2 DD/\l'=DD++G:=by
 refine AO func211 ntmps211 λE=>?_;refine AQ λb5=>?_;refine AQ λb6=>?_;refine Be (AL rfl rfl λl2 hl=>OY b H lq hq a c l2 λc hc=>hl c (.tail _ (.tail _ (Ai _ hc)))) ?_;have Ke: ∀(d e:CapT) (B C:Nat),Keep (Bv B d::Bv C e::Dv b6 c::Dv b5 a::(lq++G)) (lq++G):=λ_ _ _ _=> .drop (.drop (.drop (.drop .refl)));by_cases Dm:FJ H.1 a=false\/FJ H.1 c=false
 ·rw[WN Dm,show LI H a c=(3,H) by unfold LI;rw[Ac Dm]];refine Aj ?_;refine AR e_alloc ?_;rintro _ _ ⟨b9,_,rfl,rfl⟩;refine AQ λGX=>?_;exact Bb (Ke _ _ _ _) ⟨rfl,_,hq,rfl⟩
 obtain⟨jK,okc⟩:=dE Dm;rw[WM jK okc,LK jK,LK okc,show LI H a c=(0,(Gn (Gn H.1 a (D5 H.1 c)) c (D5 H.1 a),Tr.swapD H.2 a c)) by unfold LI;rw[Ab Dm]];refine Aj ?_;refine AR e_alloc ?_;rintro _ _ ⟨b9,_,rfl,rfl⟩;refine AQ λGX=>?_;obtain⟨bs,bt,ls,lt,rfl,hs,ht⟩:=hq;obtain⟨X,hX⟩: ∃X,X=[Bv GX (D5 H.1 c),Bv b9 (D5 H.1 a),Dv b6 c,Dv b5 a,Mw b bs bt]:=⟨_,rfl⟩
 have H1:=Fn.mvP (λA=>X++(A++(lt++G))) (set_any bs H.1 ls hs a (D5 H.1 c) (X++(lt++G)));have H2:=λls (hs:IsS bs (Gn H.1 a (D5 H.1 c)) ls)=>Fn.mvP (λA=>X++(A++(lt++G))) (set_any bs _ ls hs c (D5 H.1 a) (X++(lt++G)));have H3:=λls=>Fn.mvP (λA=>X++(ls++(A++G))) (Tr.swap_any bt H.2 lt ht a c (X++(ls++G)));rw[K3 jK (hI.at c).1] at H1;rw[K3 (by rw[Oj];exact okc) (hI.at a).1] at H2;rw[hX] at H1 H2 H3;simp only[Ae,Am,Ag] at H1 H2 H3⊢;refine Aj ?_;refine Cn [6] 7 ([Bv GX (D5 H.1 c),Dv b5 a,Mw b bs bt]) ?_;refine BS ?_;apply CS
 ·exact Dn rfl rfl H1
 ·rfl
 ·rfl
 ·rfl
 ·rintro _ _ ⟨_,ls',_,rfl⟩;exact UM
 rintro _ _ ⟨rfl,ls',hs',rfl⟩;refine BS ?_;refine Aj ?_;refine Cn [6] 7 ([Bv b9 (D5 H.1 a),Dv b6 c,Mw b bs bt]) ?_;refine BS ?_;apply CS
 ·exact Dn rfl rfl (H2 ls' hs')
 ·rfl
 ·rfl
 ·rfl
 ·rintro _ _ ⟨_,ls2,_,rfl⟩;exact UM
 rintro _ _ ⟨rfl,ls2,NM,rfl⟩;refine BS ?_;refine Aj ?_;refine Cn [6] 8 ([Dv b6 c,Dv b5 a,Mw b bs bt]) ?_;refine BS ?_;apply CS
 ·exact Dn rfl rfl (H3 ls2)
 ·rfl
 ·rfl
 ·rfl
 ·rintro _ _ ⟨_,lt',_,rfl⟩;exact UM
 rintro _ _ ⟨rfl,lt',ht',rfl⟩;refine BS ?_;refine Aj ?_;exact Bb (l':=(Mw b bs bt::(ls2++lt'))++G) (.drop (.drop (.drop (.drop (.of_perm (.of_eq (by simp))))))) ⟨rfl,_,⟨bs,bt,ls2,lt',rfl,NM,ht'⟩,rfl⟩
theorem aE(b:Nat)(H:HS)(n:Nat)(hI:InvH H n)(hn:n<=1000)(lq:Ad)(hq:IsH b H lq)(s:Ck)(G:Ad):
 Fn prog 327 [.pointer (some ⟨b,0,none⟩),.agg (toArray (Ct s))] (lq++G) λv l'=>v= .tuple #[.agg (toArray (B9 (Eb H s).1.1)),.int .i64 (Eb H s).1.2]/\ ∃DD,IsH b (Eb H s).2 DD/\l'=DD++G:=by
 refine AO func327 ntmps327 λE=>?_;refine AQ λb3=>?_;refine AQ λb4=>?_;refine Be (AL rfl rfl λl2 hl=>Jh b H lq hq s l2 λc hc=>hl c (.tail _ (.tail _ (Ai _ hc)))) ?_;have hK: ∀(d2 c6:CapT) (B:Nat),Keep (Bv B d2::Bv b4 c6::Dv b3 s::(lq++G)) (Bv b4 c6::(lq++G)):=λ_ _ _=> .drop (.pick .here (.drop .refl));cases Dm:FJ H.1 s with
 |false=>rw[VN Dm,show Eb H s=((CI,3),H) by unfold Eb;rw[Ac Dm]];refine AQ λb6=>?_;exact CM (l':=lq++G) (Bv b4 CI::(lq++G)) (hK CI CI b6) (.drop .refl) ⟨rfl,_,hq,rfl⟩
 |true=>
 rw[LK Dm];refine AQ λb6=>?_;by_cases hw:(D5 H.1 s).kind=0
 ·rw[show Eb H s=((CI,10),H) by unfold Eb;rw[Ab (by rw[Dm];decide),Ac hw]];refine Aj ?_;exact CM (l':=lq++G) (Bv b4 CI::(lq++G)) (hK (D5 H.1 s) CI b6) (.drop .refl) ⟨rfl,_,hq,rfl⟩
 rw[show Eb H s=((D5 H.1 s,0),(Gn H.1 s CI,(Tr.removeD H.2 s).2)) by unfold Eb;rw[Ab (by rw[Dm];decide),Ab hw]];obtain⟨bs,bt,ls,lt,rfl,hs,ht⟩:=hq;obtain⟨X,hX⟩: ∃X,X=[Bv b6 (D5 H.1 s),Bv b4 CI,Dv b3 s,Mw b bs bt]:=⟨_,rfl⟩
 have H1:=Fn.mvP (λA=>X++(A++(lt++G))) (set_any bs H.1 ls hs s CI (X++(lt++G)));have H2:=λls=>Fn.mvP (λA=>X++(ls++(A++G))) (Tr.remove_any bt H.2 lt ht (hI.small hn).2.2 s (X++(ls++G)));rw[K3 Dm LJ.1] at H1;rw[hX] at H1 H2;simp only[Ae,Am,Ag] at H1 H2⊢;refine Aj ?_;refine Cn [6] 7 ([Dv b3 s,Mw b bs bt]) ?_;refine BS ?_;apply CS
 ·exact Dn rfl rfl H1
 ·rfl
 ·rfl
 ·rfl
 ·rintro _ _ ⟨_,ls',_,rfl⟩;exact UM
 rintro _ _ ⟨rfl,ls',hs',rfl⟩;refine BS ?_;refine Aj ?_;refine Cn [5] 6 ([Dv b3 s,Mw b bs bt]) ?_;refine BS ?_;apply CS
 ·exact Dn rfl rfl (H2 ls')
 ·rfl
 ·rfl
 ·rfl
 ·rintro _ _ ⟨_,lt',_,rfl⟩;exact UM
 rintro _ _ ⟨rfl,lt',ht',rfl⟩;refine BS ?_;refine Aj ?_;exact CM (l':=(Mw b bs bt::(ls'++lt'))++G) (Bv b4 (D5 H.1 s)::((Mw b bs bt::(ls'++lt'))++G)) (.drop (.pick .here (.drop (.of_perm (.of_eq (by simp)))))) (.drop .refl) ⟨rfl,_,⟨bs,bt,ls',lt',rfl,hs',ht'⟩,rfl⟩
abbrev hpC(B b:Nat):Bg:=(B,.cells #[.pointer (some ⟨b,0,none⟩)] 156 (0,0))
def Rw(s:Ck)(c:CapT)(x:RW):Bool:=!decide (x.1=s)&&IC x.2 c
def K5(D:SD)(s:Ck)(c:CapT)(i:Nat):List Ck:=(((DY D).take i).filter (Rw s c)).map Prod.fst
theorem aF{D:SD}{s:Ck}{c:CapT}{i:Nat}{x:RW}(h:(DY D)[i]?=some x):K5 D s c (i+1)=if Rw s c x=true then K5 D s c i++[x.1] else K5 D s c i:=by
 unfold K5;rw[Cf,h,Option.toList_some,DI,Aq];by_cases hp:Rw s c x=true
 ·rw[Ac hp,List.filter_cons_of_pos (by exact hp)];rfl
 ·rw[Ab hp,IH (by exact hp)];simp
theorem gQ(D:SD)(s:Ck)(c:CapT)(i:Nat):K5 D s c i<+:K5 D s c (DY D).length:=by unfold K5;rw[D7];exact((BI i _).filter _).map _
theorem OwnSl.hds'{v:Value}{L:List RW}{cs l:Ad}(h:OwnSl 131 10 v L.length (Og L) cs)(hs: ∀c,c∈cs->c∈l):RowSl l v 10 RX L:=OwnSl.rowSl (enc:=RX) h (λ_=>rfl) hs
theorem aG(b:Nat)(s:Ck)(c:CapT)(l:Ad):
 Fn prog 362 [.pointer (some ⟨b,0,none⟩),.agg (toArray (Ct s)),.agg (toArray (B9 c))] l λv l'=>
  ∃B1 B2 B3,v= .func (.func 384) #[] #[.pointer (some ⟨B1,0,none⟩),.pointer (some ⟨B2,0,none⟩),.pointer (some ⟨B3,0,none⟩)]/\l'=Bv B3 c::Dv B2 s::hpC B1 b::l:=by
 refine AO func362 ntmps362 λE=>?_;refine AQ λb1=>?_;refine AQ λb2=>?_;refine AQ λb3=>?_;exact Bb .refl ⟨_,_,_,rfl,rfl⟩
theorem aH(B1 B2 B3 b:Nat)(H:HS)(n:Nat)(hI:InvH H n)(hn:n<=1000)(lq:Ad)(hq:IsH b H lq)(s:Ck)(c:CapT)(ZL:(DY H.1).length<=900000):
 FA prog 384 [.pointer (some ⟨B1,0,none⟩),.pointer (some ⟨B2,0,none⟩),.pointer (some ⟨B3,0,none⟩)] (λy:Ck=>[.agg (toArray (Ct y))]) (λxs=>xs=K5 H.1 s c (DY H.1).length) (λpre=>pre<+:K5 H.1 s c (DY H.1).length)
  (λ_ l=>(∀x,x∈[hpC B1 b,Dv B2 s,Bv B3 c]->x∈l)/\(∀c,c∈lq->c∈l)):=by
 refine⟨λr I Ix G0 Ca hY l G hG h0=>?_⟩;obtain⟨n1,n2⟩:=Ca _ _ G hG h0;have m1:=n1 (hpC B1 b) (by simp);refine AO func384 ntmps384 λE=>?_;refine Aj ?_;refine AR (AA rfl rfl (VM b H lq hq (hI.small hn).1 _ n2)) ?_;rintro v _ ⟨cs,ho,rfl⟩;obtain⟨U,hU⟩: ∃U,DY H.1=U:=⟨_,rfl⟩
 have ZI:= @aF H.1 s c;have jO:=gQ H.1 s c;rw[hU] at ho ZL ZI jO hY⊢;have hR:=λ(l2:Ad) (h: ∀c,c∈cs->c∈l2)=>ho.hds' h;obtain⟨p,cap,rfl⟩:=ho.shape;refine Aj ?_;refine CF (α:=Nat×Ad) (λx=>[(0,.func (.yield r) #[] #[]),(2,.pointer (some ⟨B2,0,none⟩)),(3,.pointer (some ⟨B3,0,none⟩)),(8,.slice p U.length cap),(9,.int .i64 U.length),(10,.int .i64 x.1)]) (λx=>x.2++(cs++G)) (λx=>x.1<=U.length/\I (K5 H.1 s c x.1) x.2) (λx=>U.length-x.1) (0,l) ⟨Bm _,h0⟩ ⟨rfl,rfl,rfl,rfl,rfl,rfl,trivial⟩ (Keep.in_mid cs l G) ?_;clear n1 n2 m1 h0;rintro⟨i,l⟩ ⟨hi,Lg⟩;simp only at hi Lg⊢;by_cases Dc:i<U.length
 case neg=>
  obtain rfl:i=U.length:=by omega
  refine Aj ?_;exact Bb (l':=l++G) (A8 cs) ⟨l,rfl,.inl ⟨_,rfl,Lg⟩⟩
 obtain⟨x,hx⟩: ∃x,U[i]?=some x:=⟨_,Al Dc⟩
 have pQ:=ZI hx;obtain⟨a0,cp,hv,Mk⟩:=hR (l++(cs++G)) (λc hc=>Aa _ (Ai _ hc));obtain⟨gb,off,xs,ty,fz,rfl,hm,hc⟩:=Mk Af;obtain⟨g1,g2⟩:=hc i x hx;cases hv;obtain⟨n1,n2⟩:=Ca (K5 H.1 s c i) l (cs++G) (λc hc=>Aa _ (hG c hc)) Lg;refine Aj ?_;refine Be (Dt rfl hm g1 g2) ?_;refine Aj ?_;refine AR e_alloc ?_;rintro _ _ ⟨b6,_,rfl,rfl⟩;have m2:Dv B2 s∈l++(cs++G):=n1 _ (by simp);have m3:Bv B3 c∈l++(cs++G):=n1 _ (by simp);refine Aj ?_;refine Be (Gr rfl rfl (TM x.1) (TM s)) ?_;by_cases QX:x.1=s
 ·rw[QX,GK (TM s)];rw[Ab (by unfold Rw;rw[Av QX];simp)] at pQ;refine Aj ?_;exact BR (i+1,l) ⟨by simp only;omega,by rw[pQ];exact Lg⟩ (by simp only;omega) ⟨rfl,rfl,rfl,rfl,rfl,rfl,trivial⟩ (.drop .refl)
 rw[Aay QX];refine Aj ?_;refine QO (AL rfl rfl λl2 hl=>VQ x.2 c l2) rfl rfl rfl ?_;cases ha:IC x.2 c with
 |false=>rw[Ab (by unfold Rw;rw[ha];simp)] at pQ;refine Aj ?_;exact BR (i+1,l) ⟨by simp only;omega,by rw[pQ];exact Lg⟩ (by simp only;omega) ⟨rfl,rfl,rfl,rfl,rfl,rfl,trivial⟩ (.drop .refl)
 |true=>
 rw[Ac (by unfold Rw;rw[ha,Ax QX];rfl)] at pQ;have hp:=jO (i+1);rw[pQ] at hp;have hy:=hY (K5 H.1 s c i) x.1 l (hdC b6 x::(cs++G)) (λc hc=> .tail _ (Aa _ (hG c hc))) Lg hp;refine Aj ?_;refine Bq (Keep.in_mid [hdC b6 x] l (cs++G)) ?_;refine Jr (C0 rfl rfl hy) rfl rfl rfl ?_;rintro w l' ⟨l1,rfl,⟨rfl,NP⟩|⟨rfl,Xs⟩⟩
 ·refine Aj ?_;exact BR (i+1,l1) ⟨by simp only;omega,by rw[pQ];exact NP⟩ (by simp only;omega) ⟨rfl,rfl,rfl,rfl,rfl,rfl,trivial⟩ (A8 [hdC b6 x])
 ·refine Aj ?_;exact Bb (l':=l1++G) (A8 (hdC b6 x::cs)) ⟨l1,rfl,.inr ⟨_,hp,Xs⟩⟩
theorem gR{H:HS}{s:Ck}(h1:FJ H.1 s=true)(h2:(D5 H.1 s).kind≠0):LX H s=decide (K5 H.1 s (D5 H.1 s) (DY H.1).length=[]):=by
 unfold LX K5;rw[Kc,Iz,h1,Ax h2,D7,List.map_eq_nil_iff,List.filter_eq_nil_iff];simp only[Hj,Bu,Bool.and_true,A3];constructor
 ·intro h x hx hl;have:=h x hx;unfold Rw at hl;cases hd:decide (x.1=s)<;>cases ha:IC x.2 (D5 H.1 s)<;>simp_all
 ·intro h x hx;have:=h x hx;unfold Rw at this;cases hd:decide (x.1=s)<;>cases ha:IC x.2 (D5 H.1 s)<;>simp_all
theorem aI(b:Nat)(H:HS)(n:Nat)(hI:InvH H n)(hn:n<=1000)(lq:Ad)(hq:IsH b H lq)(s:Ck)(ZL:(DY H.1).length<=900000)(l:Ad)(CE: ∀c,c∈lq->c∈l):
 Fn prog 326 [.pointer (some ⟨b,0,none⟩),.agg (toArray (Ct s))] l λv l'=>v= .bool (LX H s)/\l'=l:=by
 refine AO func326 ntmps326 λE=>?_;refine AQ λb3=>?_;refine AQ λb4=>?_;refine Be (AL rfl rfl λl2 hl=>Jh b H lq hq s l2 λc hc=>hl c (.tail _ (.tail _ (CE c hc)))) ?_;cases Dm:FJ H.1 s with
 |false=>rw[VN Dm,show LX H s=false by unfold LX;rw[Dm];rfl];refine AQ λb5=>?_;exact CM (l':=l) ((b4,.cells (toArray [.bool false]) 4 (0,0))::l) (.drop (.pick .here (.drop .refl))) (.drop .refl) ⟨rfl,rfl⟩
 |true=>
 rw[LK Dm];refine AQ λb5=>?_;by_cases hw:(D5 H.1 s).kind=0
 ·rw[show LX H s=false by unfold LX;rw[Av hw];simp];refine Aj ?_;exact CM (l':=l) ((b4,.cells (toArray [.bool false]) 4 (0,0))::l) (.drop (.pick .here (.drop .refl))) (.drop .refl) ⟨rfl,rfl⟩
 rw[gR Dm hw];refine Aj ?_;refine AR (AA rfl rfl (aG b s (D5 H.1 s) _)) ?_;rintro _ _ ⟨B1,B2,B3,rfl,rfl⟩;refine Aj ?_;refine Df (α:=Ck) (ps:=[24]) (lb:=[.pointer (some ⟨B1,0,none⟩),.pointer (some ⟨B2,0,none⟩),.pointer (some ⟨B3,0,none⟩)]) rfl (aH B1 B2 B3 b H n hI hn lq hq s (D5 H.1 s) ZL) (λ_=>rfl) rfl
  (λpre l=>l=[Bv B3 (D5 H.1 s),Dv B2 s,hpC B1 b,(b4,.cells (toArray [.bool false]) 4 (0,0))]/\pre=[])
  (λc pre l=>c= .ret/\pre≠[]/\l=[(b4,.cells (toArray [.bool false]) 4 (0,0))])
  _ (Bv b5 (D5 H.1 s)::Dv b3 s::l) (λpre l2 X2 hX h=>⟨λx hx=>by rw[h.1];exact Ai _ (by simp only[At,BL,Ez] at hx⊢;rcases hx with h|h|h<;>simp[h]),λc hc=>Aa _ (hX _ (.tail _ (.tail _ (CE _ hc))))⟩) (by exact AU) ⟨rfl,rfl⟩ ?_ ?_ ?_
 ·rintro E r0 FS pre x l' T ⟨fn,tmps,D0,rfl⟩ hT ⟨rfl,rfl⟩ DB;simp only[DU,Ae,Ag];refine Aj ?_;refine CH (by exact DX) ?_;refine Aj ?_;refine EC [(b4,.cells (toArray [.bool false]) 4 (0,0))] (by exact AU) ⟨rfl,by simp,rfl⟩
 ·rintro D0 xs l' hS ⟨rfl,rfl⟩;rw[<-hS];simp only[Ae,Ag];refine Aj ?_;exact AV [D0] ((b4,.cells (toArray [.bool true]) 4 (0,0))::l) rfl (l':=l) (by exact AU) (by exact Ba) (.drop .refl) ⟨rfl,rfl⟩
 ·rintro D0 c pre l' DB ⟨rfl,G5,rfl⟩;have hL:K5 H.1 s (D5 H.1 s) (DY H.1).length≠[]:=λe=>by rw[e] at DB;exact G5 (List.prefix_nil.1 DB)
  rw[Ax hL];simp only[Ae,Ag];refine Aj ?_;exact AV [D0] ((b4,.cells (toArray [.bool false]) 4 (0,0))::l) rfl (l':=l) (by exact AU) (by exact Ba) (.drop .refl) ⟨rfl,rfl⟩
namespace Ar
variable{S:ArT}{k:Nat}{o o':ObT}{id m s p v:Int}{os:OL}
def dropD(S:ArT)(id:Int):Int×ArT:=match atO S.os id with
 |some k=>(0,{S with os:=S.os.eraseIdx k})
 |none=>(2,S)
def setMa(o:ObT)(m:Int):ObT:={o with ma:=m}
def setPl(o:ObT)(s p v:Int):ObT:={o with se:=s,pg:=p,lv:=v}
def markD'(S:ArT)(id m:Int):Int×ArT:=match atO S.os id with
 |some k=>if(S.os.getD k obO).kd≠1 then(8,S) else if m<0\/m>(S.os.getD k obO).fr then(3,S) else(0,{S with os:=S.os.set k (setMa (S.os.getD k obO) m)})
 |none=>(2,S)
abbrev So(s p v:Int):Prop:=(s=0/\p=0/\v=0)\/(1<=s/\s<=16777215/\0<=p/\p<512/\1<=v/\v<=2)
def placeD(S:ArT)(id s p v:Int):Int×ArT:=match atO S.os id with
 |some k=>if(S.os.getD k obO).kd≠4 then(8,S) else if ¬So s p v then(3,S) else(0,{S with os:=S.os.set k (setPl (S.os.getD k obO) s p v)})
 |none=>(2,S)
theorem K3(hS:S.Ok)(h:S.os[k]?=some o)(h1:o'.id=o.id)(h2:o'.fi=o.fi):ArT.Ok {S with os:=S.os.set k o'}:=by
 have hk:=(Ay.1 h).1;have he:=(Ay.1 h).2;have hm: ∀x∈S.os.set k o',∃y∈S.os,x.id=y.id/\x.fi=y.fi:=λx hx=>by
  rcases Cq hx with hx|rfl
  ·exact⟨x,hx,rfl,rfl⟩
  ·exact⟨o,A6 h,h1,h2⟩
 refine⟨hS.n1,hS.n2,hS.g1,?_,λx hx=>?_,λx hx=>?_⟩
 ·show(S.os.set k o').Pairwise _;rw[HY];intro i j hi hj Wc;rw[CB] at hi hj;have hP:=HY.1 hS.asc;have g: ∀(i:Nat) (hi:i<S.os.length) (hi':i<(S.os.set k o').length),((S.os.set k o')[i]).id=(S.os[i]).id:=λi hi hi'=>by
   rw[List.getElem_set]
   split
   ·rename_i e;subst e;rw[h1,he]
   ·rfl
  rw[g i hi,g j hj];exact hP i j hi hj Wc
 ·obtain⟨y,hy,e1,e2⟩:=hm x hx;rw[e1];exact hS.rng y hy
 ·obtain⟨y,hy,e1,e2⟩:=hm x hx;show 0<=x.fi/\x.fi<S.n/\ ∃c:Int,0<=c/\c<S.g x.fi.toNat/\x.id=x.fi+1+64*c;rw[e1,e2];exact hS.num y hy
theorem atO_get(h:atO os id=some k):os[k]?=some (os.getD k obO)/\(os.getD k obO).id=id:=by obtain⟨o,h1,h2⟩:=atO_some h;rw[List.getD,h1];exact⟨rfl,h2⟩
theorem qT(hS:S.Ok)(id:Int):(dropD S id).2.Ok:=by
 unfold dropD
 split
 ·rename_i k hk;have hm: ∀x∈S.os.eraseIdx k,x∈S.os:=λx hx=>E1 hx;exact⟨hS.n1,hS.n2,hS.g1,hS.asc.sublist (List.eraseIdx_sublist ..),λx hx=>hS.rng x (hm x hx),λx hx=>hS.num x (hm x hx)⟩
 ·exact hS
theorem qU(hS:S.Ok)(id m:Int):(markD' S id m).2.Ok:=by
 unfold markD'
 split
 ·rename_i k hk
  split
  ·exact hS
  split
  ·exact hS
  exact K3 hS (atO_get hk).1 rfl rfl
 ·exact hS
theorem lR(hS:S.Ok)(id s p v:Int):(placeD S id s p v).2.Ok:=by
 unfold placeD
 split
 ·rename_i k hk
  split
  ·exact hS
  split
  ·exact hS
  exact K3 hS (atO_get hk).1 rfl rfl
 ·exact hS
theorem gS(os:OL)(k:Nat)(hk:k<os.length):(os.eraseIdx k)=os.take k++os.drop (k+1):=Dp ..
theorem aJ{c x:Bg}{l F:Ad}(h:c∈x::l):c∈x::(l++F):=by rw[<-Ae];exact Ai _ h
theorem gT(h:os[k]?=some o):ocs os=ocs (os.take k)++obC o++ocs (os.drop (k+1)):=by
 conv=>lhs;rw[Yd h]
 rw[MW,show ocs (o::os.drop (k+1))=obC o++ocs (os.drop (k+1)) from rfl,Am]
theorem OZ(h:os[k]?=some o):os.getD k obO=o:=by rw[List.getD,h];rfl
theorem VR(h:atO S.os id=none):markD' S id m=(2,S):=by unfold markD';rw[h]
theorem wq(h:atO S.os id=some k)(ho:S.os[k]?=some o)(h1:o.kd≠1):markD' S id m=(8,S):=by unfold markD';rw[h];simp only[OZ ho];rw[Ac h1]
theorem lS(h:atO S.os id=some k)(ho:S.os[k]?=some o)(h1:o.kd=1)(h2:m<0\/m>o.fr):markD' S id m=(3,S):=by unfold markD';rw[h];simp only[OZ ho];rw[Ab Af,Ac h2]
theorem wt(h:atO S.os id=some k)(ho:S.os[k]?=some o)(h1:o.kd=1)(h2:¬(m<0\/m>o.fr)):markD' S id m=(0,{S with os:=S.os.set k (setMa o m)}):=by unfold markD';rw[h];simp only[OZ ho];rw[Ab Af,Ab h2]
theorem TY(h:atO S.os id=none):placeD S id s p v=(2,S):=by unfold placeD;rw[h]
theorem qV(h:atO S.os id=some k)(ho:S.os[k]?=some o)(h1:o.kd≠4):placeD S id s p v=(8,S):=by unfold placeD;rw[h];simp only[OZ ho];rw[Ac h1]
theorem qW(h:atO S.os id=some k)(ho:S.os[k]?=some o)(h1:o.kd=4)(h2:¬So s p v):placeD S id s p v=(3,S):=by unfold placeD;rw[h];simp only[OZ ho];rw[Ab Af,Ac h2]
theorem qX(h:atO S.os id=some k)(ho:S.os[k]?=some o)(h1:o.kd=4)(h2:So s p v):placeD S id s p v=(0,{S with os:=S.os.set k (setPl o s p v)}):=by unfold placeD;rw[h];simp only[OZ ho];rw[Ab Af,Ab (Gf h2)]
theorem dF{b gb cap:Nat}{sp:Ap}(Xq:ArT.Ok {S with os:=S.os.set k o'})(fD:S.os.length<=cap)(UK:cap<=maxLen)(Nu:(ocs S.os++sp).length=cap*9):
 IsA b {S with os:=S.os.set k o'} [Tn b S.n S.g (.slice (some ⟨gb,0,none⟩) S.os.length cap),(gb,.cells (toArray (ocs (S.os.set k o')++sp)) 100 (0,0))]:=by
 refine⟨Xq,_,_,rfl,?_⟩;show OwnSl 100 9 _ (S.os.set k o').length (ocs (S.os.set k o')) _;refine⟨by rw[N8],.inr ⟨gb,cap,sp,by rw[CB],rfl,by rw[CB];exact fD,UK,?_⟩⟩;rw[Ah,N8,CB];rw[Ah,N8] at Nu;exact Nu
end Ar
abbrev Zy:=Ck×Int
abbrev wv(y:Zy):Ap:=[.int .i64 y.1.1,.int .i64 y.1.2,.int .i64 y.2]
def qY(S:Ar.ArT)(c:CapT):Ar.ObT:=(Ar.getD' S c.obj).1
def tX(Ch:Nat)(c:CapT)(left:Int):Nat:=if c.bits>0 then Ee Ch (left-c.bits).toNat c.bits.toNat else 0
def WP(S:Ar.ArT)(c:CapT)(left:Int):Prop:=FD c=true/\c.kind=2/\(Ar.getD' S c.obj).2=true/\(qY S c).kd=2/\c.bits+(qY S c).sz<=left
instance(S:Ar.ArT)(c:CapT)(left:Int):Decidable (WP S c left):=by unfold WP;exact inferInstance
def IM(S:Ar.ArT)(c:CapT)(left:Int):Int:=left-(c.bits+(qY S c).sz)
def Pp(S:Ar.ArT)(Ch:Nat)(c:CapT)(left:Int):Ck:=((qY S c).id,(Ee Ch (IM S c left).toNat (qY S c).sz.toNat:Nat))
def Oq(D:SD)(S:Ar.ArT)(Ch:Nat)(c:CapT)(left:Int):Option (Zy×CapT):=
 if WP S c left then(if tX Ch c left=RV c.guard/\(getD' D (Pp S Ch c left)).2=0 then some ((Pp S Ch c left,IM S c left),(getD' D (Pp S Ch c left)).1) else none) else none
def Gb(D:SD)(S:Ar.ArT)(Ch:Nat):Nat->CapT->Int->List Zy
 |0,_,_=>[]
 |f+1,c,left=>if left>0 then(match Oq D S Ch c left with|some y=>y.1::Gb D S Ch f y.2 y.1.2|none=>[]) else[]
def qZ(S:Ar.ArT):Prop:= ∀o∈S.os,o.kd=2->1<=o.sz/\o.sz<=4
theorem dG{id:Int}(h:(Ar.getD' S id).2=true):(Ar.getD' S id).1∈S.os/\(Ar.getD' S id).1.id=id:=by
 unfold Ar.getD' at*;cases hk:Ar.atO S.os id with
 |none=>rw[hk] at h;cases h
 |some k=>obtain⟨h1,h2⟩:=Ar.atO_get hk;exact⟨A6 h1,h2⟩
theorem VS(h:FD c=true)(hk:c.kind=2):0<=c.bits/\c.bits<=12/\0<=c.guard/\KY (RV c.guard) c.bits=true:=by unfold FD at h;rw[Ab Af,Ab Af,Ac hk] at h;unfold dA at h;simp only[AW,Bj] at h;obtain⟨⟨⟨h1,h2⟩,h3,h4⟩,_⟩:=h;exact⟨h1,h2,h3,h4⟩
theorem aK(hR:qZ S)(h:WP S c left):0<=c.bits/\c.bits<=12/\1<=(qY S c).sz/\(qY S c).sz<=4/\0<=IM S c left/\IM S c left<left:=by obtain⟨h1,h2,h3,h4,h5⟩:=h;obtain⟨b1,b2,_⟩:=VS h1 h2;obtain⟨m1,_⟩:=dG h3;obtain⟨s1,s2⟩:=hR _ m1 h4;unfold IM qY at*;refine⟨b1,b2,s1,s2,Af,Af⟩
theorem gU(h:WP S c left)(h2:tX Ch c left=RV c.guard/\(getD' D (Pp S Ch c left)).2=0):Oq D S Ch c left=some ((Pp S Ch c left,IM S c left),(getD' D (Pp S Ch c left)).1):=by unfold Oq;rw[Ac h,Ac h2]
theorem aL(h:¬WP S c left):Oq D S Ch c left=none:=by unfold Oq;rw[Ab h]
theorem TZ(h:¬(tX Ch c left=RV c.guard/\(getD' D (Pp S Ch c left)).2=0)):Oq D S Ch c left=none:=by
 unfold Oq;by_cases hg:WP S c left
 ·rw[Ac hg,Ab h]
 ·rw[Ab hg]
theorem T0(h:left<=0):Gb D S Ch f c left=[]:=by
 cases f with
 |zero=>rfl
 |succ f=>unfold Gb;rw[Ab Af]
theorem O0(h:Oq D S Ch c left=none):Gb D S Ch f c left=[]:=by
 cases f with
 |zero=>rfl
 |succ f=>unfold Gb;rw[h];split<;>rfl
theorem dH{y:Zy×CapT}(h0:left>0)(h:Oq D S Ch c left=some y):Gb D S Ch (f+1) c left=y.1::Gb D S Ch f y.2 y.1.2:=by rw[Gb,Ac h0,h]
theorem lU{w a n:Nat}(h:n<=4):Ee w a n<16:=Ev (show Ee w a n<2^n from Hi _ (GS n)) (CT Af h)
def lV(Ch:Nat)(depth:Int):Prop:=depth<1\/depth>12\/KY Ch depth=false
instance(Ch:Nat)(depth:Int):Decidable (lV Ch depth):=by unfold lV;exact inferInstance
def Ql(L:List Zy)(depth:Int):Zy:=L.getLast?.getD ((0,0),depth)
def YG(D:SD)(S:Ar.ArT)(c:CapT)(Ch:Nat)(depth:Int):Ck×Int:=
 if lV Ch depth then((0,0),3) else if(Ql (Gb D S Ch 13 c depth) depth).2>0 then((0,0),12) else((Ql (Gb D S Ch 13 c depth) depth).1,0)
end Go.Proofs.YtlifcingifodfaaGreat
