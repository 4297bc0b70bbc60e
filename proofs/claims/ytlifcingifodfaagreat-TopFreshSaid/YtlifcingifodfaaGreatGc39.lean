/- Laws that the statement's proof leans on (joined out of several texts). -/
import Derived.Test.YtlifcingifodfaaGreatGc38
set_option maxHeartbeats 4000000
set_option linter.unusedVariables false
set_option linter.unusedSimpArgs false
namespace Go.Proofs.YtlifcingifodfaaGreat
open Tryz
open List(toArray)
open Go.RowKit
set_option maxRecDepth 20000
variable{F C k b:Nat}{S:KT}{p:RP}{s:RL}{G:Ad}
abbrev bF(a b c d:Nat):Ap:=[.int .i64 (a:Nat),.int .i64 (b:Nat),.int .i64 (c:Nat),.int .i64 (d:Nat)]
def wW(w:Nat):Ap:=if 32768<=w then bF 0 0 0 0 else bF (Ee w 12 3) (Ee w 9 3) (Ee w 6 3) (Ee w 0 6)
theorem O7(w a n:Nat):Ee w a n<2^n:=Hi _ (GS n)
theorem iA(w:Nat)(hw:w<18446744073709551616)(l:Ad):Fn prog 255 [.int .u64 (w:Nat)] l λv l'=>v= .tuple #[.agg (toArray (wW w)),iV (if 32768<=w then 3 else 0)]/\l'=l:=by
 have f1:=O7 w 12 3;have f2:=O7 w 9 3;have f3:=O7 w 6 3;have f4:=O7 w 0 6;unfold wW;refine AO func255 ntmps255 λE=>?_;refine AQ λb2=>?_;by_cases h1:32768<=w
 ·rw[Ac h1,Ac h1];refine Aj ?_;exact AV [] _ rfl .refl (Cz rfl (.head _) (As.LSub.of_all (n:=4) (bF 0 0 0 0) rfl) (by exact Ba)) (.drop .refl) ⟨rfl,rfl⟩
 rw[Ab h1,Ab h1];refine AQ λb4=>?_;refine H9 3 ?_;refine Aj ?_;refine Be (AL rfl rfl λl2 _=>JK w 12 3 hw AZ AZ AZ l2) ?_;obtain⟨x1,jh⟩: ∃x,Ee w 12 3=x:=⟨_,rfl⟩
 rw[jh] at f1⊢;refine Aj ?_;refine ME (Gx (cs:=bF 0 0 0 0) (cs':=bF x1 0 0 0) rfl rfl rfl (.head _) (by exact .zero) (by exact .here)) rfl rfl ?_;rintro _ _ ⟨rfl,rfl⟩;refine Aj ?_;refine E8 ?_;refine Aj ?_;refine Be (AL rfl rfl λl2 _=>JK w 9 3 hw AZ AZ AZ l2) ?_;obtain⟨x2,Xs⟩: ∃x,Ee w 9 3=x:=⟨_,rfl⟩
 rw[Xs] at f2⊢;refine Aj ?_;refine ME (Gx (cs:=bF x1 0 0 0) (cs':=bF x1 x2 0 0) rfl rfl rfl (.head _) (by exact .succ .zero) (by exact .here)) rfl rfl ?_;rintro _ _ ⟨rfl,rfl⟩;refine Aj ?_;refine E8 ?_;refine Aj ?_;refine Be (AL rfl rfl λl2 _=>JK w 6 3 hw AZ AZ AZ l2) ?_;obtain⟨x3,hx3⟩: ∃x,Ee w 6 3=x:=⟨_,rfl⟩
 rw[hx3] at f3⊢;refine Aj ?_;refine ME (Gx (cs:=bF x1 x2 0 0) (cs':=bF x1 x2 x3 0) rfl rfl rfl (.head _) (by exact .succ (.succ .zero)) (by exact .here)) rfl rfl ?_;rintro _ _ ⟨rfl,rfl⟩;refine Aj ?_;refine E8 ?_;refine Aj ?_;refine Be (AL rfl rfl λl2 _=>JK w 0 6 hw AZ AZ AZ l2) ?_;obtain⟨x4,hx4⟩: ∃x,Ee w 0 6=x:=⟨_,rfl⟩
 rw[hx4] at f4⊢;have g0:(toArray (bF x1 x2 x3 0))[0+(0:Int).toNat*1]?=some (.int .i64 (x1:Nat)):=rfl;have g1:(toArray (bF x1 x2 x3 0))[0+(1:Int).toNat*1]?=some (.int .i64 (x2:Nat)):=rfl;have g2:(toArray (bF x1 x2 x3 0))[0+(2:Int).toNat*1]?=some (.int .i64 (x3:Nat)):=rfl;refine Aj ?_;exact AV [] _ rfl .refl (Cz rfl (.tail _ (.head _)) (As.LSub.of_all (n:=4) (bF x1 x2 x3 x4) rfl) (by exact Ba)) (.drop (.drop .refl)) ⟨rfl,rfl⟩
section
def wX(w:Int):Ap:=wW w.toNat
def wY(w:Int):Int:=if 32768<=w.toNat then 3 else 0
instance{w:Int}[hu:U6 w]{l:Ad}:QF prog 255 [Bc w] l (.tuple #[.agg (toArray (wX w)),iV (wY w)]):=⟨λl _=>by
 obtain⟨n,rfl⟩: ∃n:Nat,w=n:=⟨w.toNat,by have:=hu.out.1;omega⟩
 exact iA n (by have:=hu.out.2;omega) l⟩
def frA(x:MF)(va:Int):Int:=IntKind.u64.wrap (IntKind.i64.wrap (IntKind.i64.wrap (x.fr*64)+(Ee va.toNat 0 6:Nat)))
def findA(S:KT)(core va:Int)(wr:Bool):(Int×Int)×KT:=
 if 32768<=va.toNat then((0,1),S) else if ¬va%8=0 then((0,2),S) else if ¬(Pr S.K core).2.2=0\/(Pr S.K core).1<0 then((0,3),S)
 else if ¬(DQ S.K S.W core (G1 va).1).1.2.2=0 then((0,4),{S with K:=(DQ S.K S.W core (G1 va).1).2})
 else if(wr=true/\(DQ S.K S.W core (G1 va).1).1.1.wr=false)\/(wr=false/\(DQ S.K S.W core (G1 va).1).1.1.rd=false) then((0,5),{S with K:=(DQ S.K S.W core (G1 va).1).2})
 else((frA (DQ S.K S.W core (G1 va).1).1.1 va,0),{S with K:=(DQ S.K S.W core (G1 va).1).2})
theorem rX(hK:IsK F C k S p s)(core va:Int)[hu:U6 va](wr:Bool):Fn prog 200 [pV p.c,pV p.m,.int .i64 core,Bc va,.bool wr] (Aw b p s S G) (KK F C b p k (.tuple #[Bc (findA S core va wr).1.1,iV (findA S core va wr).1.2]) (findA S core va wr).2 G):=by
 have mr:CD b p∈Aw b p s S G:=mR λ_ h=>h;obtain⟨u0,u1⟩:=hu.out;obtain⟨R,hR⟩: ∃R,findA S core va wr=R:=⟨_,rfl⟩
 rw[hR];unfold findA at hR;refine AO func200 ntmps200 λE=>?_;refine Aj ?_;refine H9 1 ?_;refine Aj ?_;refine EI ?_;refine Aj ?_;by_cases h1:32768<=va.toNat
 ·rw[Ac h1] at hR;subst hR;rw[show wY va=3 from Ac h1,show wX va=bF 0 0 0 0 from Ac h1];refine AQ λZN=>?_;exact A9
 rw[Ab h1] at hR;rw[show wY va=0 from Ab h1,show wX va=bF (Ee va.toNat 12 3) (Ee va.toNat 9 3) (Ee va.toNat 6 3) (Ee va.toNat 0 6) from Ab h1];obtain⟨x1,jh⟩: ∃x,Ee va.toNat 12 3=x:=⟨_,rfl⟩
 obtain⟨x2,Xs⟩: ∃x,Ee va.toNat 9 3=x:=⟨_,rfl⟩
 obtain⟨x3,hx3⟩: ∃x,Ee va.toNat 6 3=x:=⟨_,rfl⟩
 obtain⟨x4,hx4⟩: ∃x,Ee va.toNat 0 6=x:=⟨_,rfl⟩
 rw[jh,Xs,hx3,hx4];refine AQ λZN=>?_;by_cases h2:va%8=0
 case neg=>rw[Ac h2] at hR;subst hR;refine Aj ?_;exact A9
 rw[Ab (by simpa using h2)] at hR;refine Aj ?_;refine EI ?_;obtain⟨r,hr⟩: ∃r,Pr S.K core=r:=⟨_,rfl⟩
 rw[hr] at hR⊢;refine Aj ?_;by_cases h3:¬r.2.2=0\/r.1<0
 ·rw[Ac h3] at hR;subst hR;by_cases h4:r.2.2=0<;>by_cases h5:r.1<0;all_goals first
   |(exfalso;omega)
   |(refine Aj ?_
     exact A9)
 rw[Ab h3] at hR;obtain⟨h4,h5⟩:r.2.2=0/\¬r.1<0:=by omega
 refine Aj ?_;refine EI ?_;refine Aj ?_;try simp only[AM,AK,AS]
 refine Gc ?_;intro S1 s1 L1 EA Ey DL GI;obtain⟨t,ht⟩: ∃t,DQ S.K S.W core (G1 va).1=t:=⟨_,rfl⟩
 rw[ht] at hR EA⊢;rw[<-EA] at hR;refine AQ λb20=>?_;by_cases h6:t.1.2.2=0
 case neg=>rw[Ac h6] at hR;subst hR;refine Aj ?_;exact A9
 rw[Ab (by simpa using h6)] at hR;by_cases h7:(wr=true/\t.1.1.wr=false)\/(wr=false/\t.1.1.rd=false)
 ·rw[Ac h7] at hR;subst hR;cases wr<;>cases h8:t.1.1.wr<;>cases h9:t.1.1.rd;all_goals first
   |(exfalso;simp[h8,h9] at h7;done)
   |(refine Aj ?_
     exact A9)
 rw[Ab h7] at hR;subst hR;cases wr<;>cases h8:t.1.1.wr<;>cases h9:t.1.1.rd;all_goals first
  |(exfalso;simp[h8,h9] at h7;done)
  |(refine Aj ?_
    refine Be (qe rfl rfl) ?_;refine Aj ?_;refine Be (qd rfl rfl) ?_;refine Aj ?_;refine Be (P4 rfl) ?_;refine Aj ?_;refine E8 ?_;refine Aj ?_;unfold frA;rw[hx4];exact A9)
end
section
instance{core va:Int}[hu:U6 va]{wr:Bool}:EK prog F C b p 200 [pV p.c,pV p.m,.int .i64 core,Bc va,.bool wr] k S k (.tuple #[Bc (findA S core va wr).1.1,iV (findA S core va wr).1.2]) (findA S core va wr).2:=⟨λs G h=>rX h core va wr⟩
abbrev ZA(kd va:Int)(wr:Bool):Ap:=[iV kd,Bc va,.bool wr]
theorem wZ(x:Int):U6 (IntKind.u64.wrap x):=⟨by rw[kG];exact⟨Af,Af⟩⟩
theorem nl(S:KT)(core va:Int)(wr:Bool):U6 (findA S core va wr).1.1:=by
 unfold findA
 repeat' split
 all_goals first
  |exact(⟨by decide,by decide⟩:U6 0)
  |exact wZ _
def jt(kd va:Int)(wr:Bool):Ap:=if kd=0 then ZA 0 0 false else ZA kd va wr
def ju(S:KT)(core va:Int):(Int×Int)×KT:=
 if ¬(findA S core va false).1.2=0 then((0,(findA S core va false).1.2),(findA S core va false).2)
 else if ¬(O1 (findA S core va false).2.W (findA S core va false).1.1).2=0 then((0,4),(findA S core va false).2)
 else(((O1 (findA S core va false).2.W (findA S core va false).1.1).1,0),(findA S core va false).2)
theorem rY(hK:IsK F C k S p s)(core va:Int)[hu:U6 va]:Fn prog 155 [pV p.c,pV p.m,.int .i64 core,Bc va] (Aw b p s S G) (KK F C b p k (.tuple #[Bc (ju S core va).1.1,.agg (toArray (jt (ju S core va).1.2 va false))]) (ju S core va).2 G):=by
 have mr:CD b p∈Aw b p s S G:=mR λ_ h=>h;have hU:=nl S core va false;obtain⟨R,hR⟩: ∃R,ju S core va=R:=⟨_,rfl⟩
 rw[hR];unfold ju at hR;refine AO func155 ntmps155 λE=>?_;refine AQ λb9=>?_;refine Gc ?_;intro S1 s1 L1 EA Ey DL GI;obtain⟨q,hq⟩: ∃q,findA S core va false=q:=⟨_,rfl⟩
 rw[hq] at hR EA hU⊢;rw[<-EA] at hR;refine Aj ?_;by_cases h1:q.1.2=0
 case neg=>rw[Ac h1] at hR;subst hR;rw[show jt q.1.2 va false=ZA q.1.2 va false from Ab h1];refine Aj ?_;exact A9 (h:= .tmp rfl (Cz rfl (.head _) (As.LSub.of_all (n:=3) (ZA q.1.2 va false) rfl) .nil))
 rw[Ab (by simpa using h1)] at hR;refine Aj ?_;try simp only[AM,AK,AS]
 refine EI ?_;obtain⟨w,hw⟩: ∃w,O1 S1.W q.1.1=w:=⟨_,rfl⟩
 rw[hw] at hR⊢;refine Aj ?_;by_cases h2:w.2=0
 case neg=>rw[Ac h2] at hR;subst hR;rw[show jt 4 va false=ZA 4 va false from rfl];refine Aj ?_;exact A9 (h:= .tmp rfl (Cz rfl (.head _) (As.LSub.of_all (n:=3) (ZA 4 va false) rfl) .nil))
 rw[Ab (by simpa using h2)] at hR;subst hR;refine Aj ?_;exact A9 (h:= .tmp rfl (Cz rfl (.head _) (As.LSub.of_all (n:=3) (ZA 0 0 false) rfl) .nil))
instance{core va:Int}[hu:U6 va]:EK prog F C b p 155 [pV p.c,pV p.m,.int .i64 core,Bc va] k S k (.tuple #[Bc (ju S core va).1.1,.agg (toArray (jt (ju S core va).1.2 va false))]) (ju S core va).2:=⟨λs G h=>rY h core va⟩
end
section
def nm(S:KT)(core va v:Int):Int×KT:=
 if ¬(findA S core va true).1.2=0 then((findA S core va true).1.2,(findA S core va true).2)
 else(if(gX (findA S core va true).2.W (findA S core va true).1.1 v).1=0 then 0 else 4,{(findA S core va true).2 with W:=(gX (findA S core va true).2.W (findA S core va true).1.1 v).2})
theorem np(hK:IsK F C k S p s)(core va v:Int)[hu:U6 va][hv:U6 v]:Fn prog 154 [pV p.c,pV p.m,.int .i64 core,Bc va,Bc v] (Aw b p s S G) (KK F C b p k (.agg (toArray (jt (nm S core va v).1 va true))) (nm S core va v).2 G):=by
 have mr:CD b p∈Aw b p s S G:=mR λ_ h=>h;have hU:=nl S core va true;obtain⟨R,hR⟩: ∃R,nm S core va v=R:=⟨_,rfl⟩
 rw[hR];unfold nm at hR;refine AO func154 ntmps154 λE=>?_;refine AQ λb9=>?_;refine Gc ?_;intro S1 s1 L1 EA Ey DL GI;obtain⟨q,hq⟩: ∃q,findA S core va true=q:=⟨_,rfl⟩
 rw[hq] at hR EA hU⊢;rw[<-EA] at hR;refine Aj ?_;by_cases h1:q.1.2=0
 case neg=>rw[Ac h1] at hR;subst hR;rw[show jt q.1.2 va true=ZA q.1.2 va true from Ab h1];refine Aj ?_;exact A9 (h:=Cz rfl (.head _) (As.LSub.of_all (n:=3) (ZA q.1.2 va true) rfl) .nil)
 rw[Ab (by simpa using h1)] at hR;refine Aj ?_;try simp only[AM,AK,AS]
 refine Gc ?_;intro S2 s2 L2 hS2 FT FL HP;obtain⟨w,hw⟩: ∃w,gX S1.W q.1.1 v=w:=⟨_,rfl⟩
 rw[hw] at hR hS2⊢;rw[<-hS2] at hR;by_cases h2:w.1=0
 case neg=>rw[Ab h2] at hR;subst hR;rw[show jt 4 va true=ZA 4 va true from rfl];refine Aj ?_;exact A9 (h:=Cz rfl (.head _) (As.LSub.of_all (n:=3) (ZA 4 va true) rfl) .nil)
 rw[Ac h2] at hR;subst hR;refine Aj ?_;exact A9 (h:=Cz rfl (.head _) (As.LSub.of_all (n:=3) (ZA 0 0 false) rfl) .nil)
instance{core va v:Int}[hu:U6 va][hv:U6 v]:EK prog F C b p 154 [pV p.c,pV p.m,.int .i64 core,Bc va,Bc v] k S k (.agg (toArray (jt (nm S core va v).1 va true))) (nm S core va v).2:=⟨λs G h=>np h core va v⟩
end
abbrev lvV(x:Int×Int):Ap:=[iV x.1,Bc x.2]
theorem Y6(B3 B4 B5 b gb F:Nat)(p:RP)(W:A4)(h1:F<=64)(hW:W.length=F*8)(hu: ∀w,w∈W->K6 w)(root page:Int):
 FA prog 331 [pV B3,pV B4,pV B5] lvV (λxs=>xs=uo W root page) (λpre=>pre<+:uo W root page)
  (λ_ l=>BP B5 page∈l/\BP B4 root∈l/\rB B3 b∈l/\CD b p∈l/\Pn p.m gb F∈l/\T3 gb W∈l):=by
 refine⟨λr I Ix G0 Ca hY l G hG h0=>?_⟩;have Q1: ∀l,CD b p∈l->QF prog 86 [pV b] l (pV p.m):=λl h=>⟨λl2 hl=>Ua b p l2 (hl _ h)⟩
 have Q2: ∀l lv,Pn p.m gb F∈l->T3 gb W∈l->QF prog 298 [pV p.m,.int .i64 root,.int .i64 page,.int .i64 lv] l (.tuple #[Bc (QQ W root page lv).1,iV (QQ W root page lv).2]):=λl lv m1 m2=>⟨λl2 hl=>WZ p.m gb F W h1 hW hu root page lv l2 (hl _ m1) (hl _ m2)⟩
 obtain⟨n1,n2,n3,n4,n5,n6⟩:=Ca _ _ G hG h0;have i1:=Q1 _ n4;have i2:=Q2 _ 1 n5 n6;obtain⟨a1,ha1⟩: ∃a,QQ W root page 1=a:=⟨_,rfl⟩
 obtain⟨a2,ha2⟩: ∃a,QQ W root page 2=a:=⟨_,rfl⟩
 rw[ha1] at i2;have hD:uo W root page=if ¬a1.2=0 then[] else(1,a1.1)::if ¬a2.2=0 then[] else[(2,a2.1)]:=by unfold uo;rw[ha1,ha2]
 rw[hD] at hY⊢;refine AO func331 ntmps331 λE=>?_;refine Aj ?_;refine H9 2 ?_;refine Aj ?_;refine It ?_;refine pc ?_;refine Vs ?_;iterate 3 refine pc ?_
 refine Vs ?_;refine BS ?_;by_cases e1:a1.2=0
 case neg=>refine Aj ?_;exact Bb .refl ⟨l,rfl,.inl ⟨[],(Ac e1).symm,h0⟩⟩
 rw[Ab (by simpa using e1)] at hY⊢;refine Aj ?_;have jN:[((1:Int),a1.1)]<+:(1,a1.1)::(if ¬a2.2=0 then[] else[((2:Int),a2.1)]):=⟨_,rfl⟩
 have hy:=hY [] (1,a1.1) l G hG h0 jN;refine Jr (C0 rfl rfl hy) rfl rfl rfl ?_;rintro v _ ⟨l1,rfl,⟨rfl,hI⟩|⟨rfl,hx⟩⟩
 case' inr=>
  refine Aj ?_;exact Bb .refl ⟨l1,rfl,.inr ⟨_,jN,hx⟩⟩
 obtain⟨n1,n2,n3,n4,n5,n6⟩:=Ca _ _ G hG hI;have i1:=Q1 _ n4;have i2:=Q2 _ 2 n5 n6;rw[ha2] at i2;refine Aj ?_;refine E8 ?_;refine Aj ?_;rw[show(1:Int)+1=2 from rfl];refine It ?_;refine pc ?_;refine Vs ?_;iterate 3 refine pc ?_
 refine Vs ?_;refine BS ?_;by_cases e2:a2.2=0
 case neg=>rw[Ac e2] at hY⊢;refine Aj ?_;exact Bb .refl ⟨l1,rfl,.inl ⟨[(1,a1.1)],rfl,hI⟩⟩
 rw[Ab (by simpa using e2)] at hY⊢;refine Aj ?_;have QN:[((1:Int),a1.1),(2,a2.1)]<+:[((1:Int),a1.1),(2,a2.1)]:=⟨[],rfl⟩
 have SM:=hY [(1,a1.1)] (2,a2.1) l1 G hG hI QN;refine Jr (C0 rfl rfl SM) rfl rfl rfl ?_;rintro v _ ⟨l2,rfl,⟨rfl,NP⟩|⟨rfl,Xs⟩⟩
 case' inr=>
  refine Aj ?_;exact Bb .refl ⟨l2,rfl,.inr ⟨_,QN,Xs⟩⟩
 refine Aj ?_;refine E8 ?_;refine Aj ?_;exact Bb .refl ⟨l2,rfl,.inl ⟨[(1,a1.1),(2,a2.1)],rfl,NP⟩⟩
section
theorem nq(N:As.ASt)(o:Int):(As.dropP N o).2.2.given=N.given:=by unfold As.dropP;(repeat' split)<;>rfl
theorem bG(hK:IsK F C k S p s)(o:Int):Fn prog 386 [pV p.n,.int .i64 o] (Aw b p s S G) λv l'=> ∃sl cs,v= .tuple #[sl,iV (As.dropP S.N o).2.1]/\OwnSl 3 1 sl (As.dropP S.N o).1.length (As.dropP S.N o).1 cs/\IsK F C k {S with N:=(As.dropP S.N o).2.2} p s/\l'=cs++Aw b p s {S with N:=(As.dropP S.N o).2.2} G:=
 Fn.re (.of_perm (by unfold Aw;exact B0)) (As.dropPool_any p.n S.N o (CD b p::(s.M++(s.C++(s.A++(s.H++(s.T++(s.Q++(s.E++(s.V++G))))))))))
  λv l' ⟨sl,cs,h1,h2,h3⟩=>⟨cs++Aw b p s {S with N:=(As.dropP S.N o).2.2} G,by rw[h3];unfold Aw;exact A8 [],sl,cs,h1,h2,{hK with giv:=λn hn=>by rw[show({S with N:=(As.dropP S.N o).2.2}:KT).N.given=S.N.given from nq ..];exact hK.giv n hn},rfl⟩
end
section
def vI:Value->Int
 | .int _ i=>i
 |_=>0
def rZ(N:As.ASt)(o:Int):A4:=(As.dropP N o).1.map vI
def PK(S:KT)(id:Int):Bool×KT:=
 if(Ar.getD' S.A id).2=false then(false,S)
 else if(Ar.getD' S.A id).1.kd=4 then((FX S id).2,RC S id)
 else if(Ar.getD' S.A id).1.kd=5 then(decide ((As.unP S.N id).2.1=0),{S with N:=(As.unP S.N id).2.2,K:=if(As.unP S.N id).2.1=0 then IE S.K (QR (As.unP S.N id).1) else S.K})
 else if(Ar.getD' S.A id).1.kd=6 then(decide ((As.dropP S.N id).2.1=0),{S with N:=(As.dropP S.N id).2.2,K:=(rZ S.N id).foldl (λK n=>IE K (QR n)) S.K})
 else(false,S)
theorem Aa3(hK:IsK F C k S p s)(id:Int)(h6:¬(Ar.getD' S.A id).1.kd=6):Fn prog 364 [pV b,.int .i64 id] (Aw b p s S G) (KK F C b p k (.bool (PK S id).1) (PK S id).2 G):=by
 have mr:CD b p∈Aw b p s S G:=mR λ_ h=>h;obtain⟨R,hR⟩: ∃R,PK S id=R:=⟨_,rfl⟩
 rw[hR];unfold PK at hR;refine AO func364 ntmps364 λE=>?_;refine Aj ?_;refine EI ?_;refine Aj ?_;refine EI ?_;obtain⟨o,ho⟩: ∃o,(Ar.getD' S.A id).1=o:=⟨_,rfl⟩
 obtain⟨ok,Dm⟩: ∃ok,(Ar.getD' S.A id).2=ok:=⟨_,rfl⟩
 rw[ho,Dm] at hR;rw[ho] at h6;rw[ho,Dm];refine AQ λb5=>?_;cases ok with
 |false=>rw[Ac rfl] at hR;subst hR;refine Aj ?_;exact A9
 |true=>
 rw[Ab AZ] at hR;refine Aj ?_;by_cases h4:o.kd=4
 ·rw[Ac h4] at hR;subst hR;refine Aj ?_;refine Gc ?_;intro S1 s1 L1 EA Ey DL GI;refine Aj ?_;exact A9
 rw[Ab h4] at hR;by_cases h5:o.kd=5
 ·rw[Ac h5] at hR;refine Aj ?_;refine EI ?_;refine Aj ?_;refine Gc ?_;intro S1 s1 L1 EA Ey DL GI;obtain⟨u,hu⟩: ∃u,As.unP S.N id=u:=⟨_,rfl⟩
  rw[hu] at hR EA⊢;refine Aj ?_;by_cases h7:u.2.1=0
  ·rw[Ac h7,h7] at hR;subst hR;refine Aj ?_;refine EI ?_;refine Aj ?_;try simp only[AM,AK,AS]
   refine Gc ?_;intro S2 s2 L2 hS2 FT FL HP;refine Aj ?_;have hS:S2={S with N:=u.2.2,K:=IE S.K (QR u.1)}:=by rw[hS2,EA]
   exact A9
  rw[Ab h7,show decide (u.2.1=0)=false by simp[h7]] at hR;subst hR;refine Aj ?_;exact A9
 rw[Ab h5,Ab h6] at hR;subst hR;refine Aj ?_;exact A9
end
section
theorem r4(N:As.ASt)(o:Int):(As.dropP N o).1.length<=4:=by
 unfold As.dropP
 split
 ·simp
 ·exact BY (As.dropL_len ..) (As.nums_len _)
theorem r5(N:As.ASt)(o:Int):(As.dropP N o).1=(rZ N o).map iV:=by
 unfold rZ;rw[CR];unfold As.dropP
 split
 ·rfl
 ·unfold As.dropL;simp only[CR];exact BA λ_ _=>rfl
theorem w9(hK:IsK F C k S p s)(id:Int)(h6:(Ar.getD' S.A id).1.kd=6):Fn prog 364 [pV b,.int .i64 id] (Aw b p s S G) (KK F C b p k (.bool (PK S id).1) (PK S id).2 G):=by
 have mr:CD b p∈Aw b p s S G:=mR λ_ h=>h;obtain⟨R,hR⟩: ∃R,PK S id=R:=⟨_,rfl⟩
 rw[hR];unfold PK at hR;refine AO func364 ntmps364 λE=>?_;refine Aj ?_;refine EI ?_;refine Aj ?_;refine EI ?_;obtain⟨o,ho⟩: ∃o,(Ar.getD' S.A id).1=o:=⟨_,rfl⟩
 obtain⟨ok,Dm⟩: ∃ok,(Ar.getD' S.A id).2=ok:=⟨_,rfl⟩
 rw[ho,Dm] at hR;rw[ho] at h6;rw[ho,Dm];refine AQ λb5=>?_;cases ok with
 |false=>rw[Ac rfl] at hR;subst hR;refine Aj ?_;exact A9
 |true=>
 rw[Ab AZ,Ab Af,Ab Af,Ac h6] at hR;refine Aj ?_;refine EI ?_;refine Aj ?_;refine Bq (.of_perm (Fi b p s S [_] G)) ?_;refine AR (AA rfl rfl (bG hK id)) ?_;rintro _ _ ⟨sl,cs,rfl,Gh,Ey,rfl⟩;have hl:=r4 S.N id;rw[r5] at Gh hl;obtain⟨dn,hdn⟩: ∃d,As.dropP S.N id=d:=⟨_,rfl⟩
 obtain⟨ds,hds⟩: ∃ds,rZ S.N id=ds:=⟨_,rfl⟩
 rw[hds] at Gh hl hR;rw[hdn] at Ey hR⊢;rw[A7] at Gh hl;refine Bq (.of_perm (Fi b p s _ cs _)) ?_;obtain⟨c5,hc5⟩: ∃c,(b5,Obj.cells (toArray (Ar.obC o)) 100 (0,0))=c:=⟨_,rfl⟩
 obtain⟨pp,cap,cL⟩:=Gh.shape;have pT:Tail (cs++([(b5,Obj.cells (toArray (Ar.obC o)) 100 (0,0))]++G)) G:=⟨cs++[_],by rw[Am]⟩
 rcases ds with _|⟨d1,_|⟨d2,_|⟨d3,_|⟨d4,_|⟨d5,ds⟩⟩⟩⟩⟩
 ·simp only[Gu] at hR;rw[cL];subst hR;refine Aj ?_;refine H9 0 ?_;refine Aj ?_;exact A9 (ht:=pT)
 ·obtain⟨gb,cap,sp,rfl,rfl⟩:=ND Gh (by simp);simp only[ER,Gu] at hR;obtain⟨L0,fJ⟩: ∃L0,[(gb,Obj.cells (toArray ([d1].map iV++sp)) 3 (0,0))]++([(b5,Obj.cells (toArray (Ar.obC o)) 100 (0,0))]++G)=L0:=⟨_,rfl⟩
  have w0:(gb,Obj.cells (toArray ([d1].map iV++sp)) 3 (0,0))∈L0:=by rw[<-fJ];exact .head _
  rw[fJ] at pT⊢;have m0:=mG (b:=b) (p:=p) (s:=s) (S:=({S with N:=dn.2.2}:KT)) (G:=L0) (l:=Aw b p s {S with N:=dn.2.2} L0) (λ_ h=>h) _ w0;have mr:=mR (b:=b) (p:=p) (s:=s) (S:=({S with N:=dn.2.2}:KT)) (G:=L0) (l:=Aw b p s {S with N:=dn.2.2} L0) λ_ h=>h;have z0:(toArray ([d1].map iV++sp))[0+(0:Int).toNat*1]?=some (.int .i64 d1):=rfl;rw[show([d1]:A4).length=1 from rfl];refine Aj ?_;refine H9 1 ?_;refine Aj ?_;refine EI ?_;refine Aj ?_;refine Gc ?_;intro S1 s1 L1 EA FT DL GI;have w1:(gb,Obj.cells (toArray ([d1].map iV++sp)) 3 (0,0))∈L1:=by obtain⟨X,rfl⟩:=DL;exact Aa _ w0
  have m1:=mG (b:=b) (p:=p) (s:=s1) (S:=S1) (G:=L1) (l:=Aw b p s1 S1 L1) (λ_ h=>h) _ w1;refine Aj ?_;refine E8 ?_;refine Aj ?_;subst hR;exact A9 (ht:=(DL.trans pT))
 ·obtain⟨gb,cap,sp,rfl,rfl⟩:=ND Gh (by simp);simp only[ER,Gu] at hR;obtain⟨L0,fJ⟩: ∃L0,[(gb,Obj.cells (toArray ([d1,d2].map iV++sp)) 3 (0,0))]++([(b5,Obj.cells (toArray (Ar.obC o)) 100 (0,0))]++G)=L0:=⟨_,rfl⟩
  have w0:(gb,Obj.cells (toArray ([d1,d2].map iV++sp)) 3 (0,0))∈L0:=by rw[<-fJ];exact .head _
  rw[fJ] at pT⊢;have m0:=mG (b:=b) (p:=p) (s:=s) (S:=({S with N:=dn.2.2}:KT)) (G:=L0) (l:=Aw b p s {S with N:=dn.2.2} L0) (λ_ h=>h) _ w0;have mr:=mR (b:=b) (p:=p) (s:=s) (S:=({S with N:=dn.2.2}:KT)) (G:=L0) (l:=Aw b p s {S with N:=dn.2.2} L0) λ_ h=>h;have z0:(toArray ([d1,d2].map iV++sp))[0+(0:Int).toNat*1]?=some (.int .i64 d1):=rfl;have z1:(toArray ([d1,d2].map iV++sp))[0+(1:Int).toNat*1]?=some (.int .i64 d2):=rfl;rw[show([d1,d2]:A4).length=2 from rfl];refine Aj ?_;refine H9 2 ?_;refine Aj ?_;refine EI ?_;refine Aj ?_;refine Gc ?_;intro S1 s1 L1 EA FT DL GI;have w1:(gb,Obj.cells (toArray ([d1,d2].map iV++sp)) 3 (0,0))∈L1:=by obtain⟨X,rfl⟩:=DL;exact Aa _ w0
  have m1:=mG (b:=b) (p:=p) (s:=s1) (S:=S1) (G:=L1) (l:=Aw b p s1 S1 L1) (λ_ h=>h) _ w1;refine Aj ?_;refine E8 ?_;refine Aj ?_;rw[show(0:Int)+1=1 from rfl];refine Aj ?_;refine EI ?_;refine Aj ?_;refine Gc ?_;intro S2 s2 L2 hS2 MD FL HP;have w2:(gb,Obj.cells (toArray ([d1,d2].map iV++sp)) 3 (0,0))∈L2:=by obtain⟨X,rfl⟩:=FL;exact Aa _ w1
  have m2:=mG (b:=b) (p:=p) (s:=s2) (S:=S2) (G:=L2) (l:=Aw b p s2 S2 L2) (λ_ h=>h) _ w2;refine Aj ?_;refine E8 ?_;refine Aj ?_;subst hR;exact A9 (ht:=(FL.trans (DL.trans pT)))
 ·obtain⟨gb,cap,sp,rfl,rfl⟩:=ND Gh (by simp);simp only[ER,Gu] at hR;obtain⟨L0,fJ⟩: ∃L0,[(gb,Obj.cells (toArray ([d1,d2,d3].map iV++sp)) 3 (0,0))]++([(b5,Obj.cells (toArray (Ar.obC o)) 100 (0,0))]++G)=L0:=⟨_,rfl⟩
  have w0:(gb,Obj.cells (toArray ([d1,d2,d3].map iV++sp)) 3 (0,0))∈L0:=by rw[<-fJ];exact .head _
  rw[fJ] at pT⊢;have m0:=mG (b:=b) (p:=p) (s:=s) (S:=({S with N:=dn.2.2}:KT)) (G:=L0) (l:=Aw b p s {S with N:=dn.2.2} L0) (λ_ h=>h) _ w0;have mr:=mR (b:=b) (p:=p) (s:=s) (S:=({S with N:=dn.2.2}:KT)) (G:=L0) (l:=Aw b p s {S with N:=dn.2.2} L0) λ_ h=>h;have z0:(toArray ([d1,d2,d3].map iV++sp))[0+(0:Int).toNat*1]?=some (.int .i64 d1):=rfl;have z1:(toArray ([d1,d2,d3].map iV++sp))[0+(1:Int).toNat*1]?=some (.int .i64 d2):=rfl;have z2:(toArray ([d1,d2,d3].map iV++sp))[0+(2:Int).toNat*1]?=some (.int .i64 d3):=rfl;rw[show([d1,d2,d3]:A4).length=3 from rfl];refine Aj ?_;refine H9 3 ?_;refine Aj ?_;refine EI ?_;refine Aj ?_;refine Gc ?_;intro S1 s1 L1 EA FT DL GI;have w1:(gb,Obj.cells (toArray ([d1,d2,d3].map iV++sp)) 3 (0,0))∈L1:=by obtain⟨X,rfl⟩:=DL;exact Aa _ w0
  have m1:=mG (b:=b) (p:=p) (s:=s1) (S:=S1) (G:=L1) (l:=Aw b p s1 S1 L1) (λ_ h=>h) _ w1;refine Aj ?_;refine E8 ?_;refine Aj ?_;rw[show(0:Int)+1=1 from rfl];refine Aj ?_;refine EI ?_;refine Aj ?_;refine Gc ?_;intro S2 s2 L2 hS2 MD FL HP;have w2:(gb,Obj.cells (toArray ([d1,d2,d3].map iV++sp)) 3 (0,0))∈L2:=by obtain⟨X,rfl⟩:=FL;exact Aa _ w1
  have m2:=mG (b:=b) (p:=p) (s:=s2) (S:=S2) (G:=L2) (l:=Aw b p s2 S2 L2) (λ_ h=>h) _ w2;refine Aj ?_;refine E8 ?_;refine Aj ?_;rw[show(1:Int)+1=2 from rfl];refine Aj ?_;refine EI ?_;refine Aj ?_;refine Gc ?_;intro S3 s3 L3 hS3 hK4 KQ PV;have w3:(gb,Obj.cells (toArray ([d1,d2,d3].map iV++sp)) 3 (0,0))∈L3:=by obtain⟨X,rfl⟩:=KQ;exact Aa _ w2
  have m3:=mG (b:=b) (p:=p) (s:=s3) (S:=S3) (G:=L3) (l:=Aw b p s3 S3 L3) (λ_ h=>h) _ w3;refine Aj ?_;refine E8 ?_;refine Aj ?_;subst hR;exact A9 (ht:=(KQ.trans (FL.trans (DL.trans pT))))
 ·obtain⟨gb,cap,sp,rfl,rfl⟩:=ND Gh (by simp);simp only[ER,Gu] at hR;obtain⟨L0,fJ⟩: ∃L0,[(gb,Obj.cells (toArray ([d1,d2,d3,d4].map iV++sp)) 3 (0,0))]++([(b5,Obj.cells (toArray (Ar.obC o)) 100 (0,0))]++G)=L0:=⟨_,rfl⟩
  have w0:(gb,Obj.cells (toArray ([d1,d2,d3,d4].map iV++sp)) 3 (0,0))∈L0:=by rw[<-fJ];exact .head _
  rw[fJ] at pT⊢;have m0:=mG (b:=b) (p:=p) (s:=s) (S:=({S with N:=dn.2.2}:KT)) (G:=L0) (l:=Aw b p s {S with N:=dn.2.2} L0) (λ_ h=>h) _ w0;have mr:=mR (b:=b) (p:=p) (s:=s) (S:=({S with N:=dn.2.2}:KT)) (G:=L0) (l:=Aw b p s {S with N:=dn.2.2} L0) λ_ h=>h;have z0:(toArray ([d1,d2,d3,d4].map iV++sp))[0+(0:Int).toNat*1]?=some (.int .i64 d1):=rfl;have z1:(toArray ([d1,d2,d3,d4].map iV++sp))[0+(1:Int).toNat*1]?=some (.int .i64 d2):=rfl;have z2:(toArray ([d1,d2,d3,d4].map iV++sp))[0+(2:Int).toNat*1]?=some (.int .i64 d3):=rfl;have z3:(toArray ([d1,d2,d3,d4].map iV++sp))[0+(3:Int).toNat*1]?=some (.int .i64 d4):=rfl;rw[show([d1,d2,d3,d4]:A4).length=4 from rfl];refine Aj ?_;refine H9 4 ?_;refine Aj ?_;refine EI ?_;refine Aj ?_;refine Gc ?_;intro S1 s1 L1 EA FT DL GI;have w1:(gb,Obj.cells (toArray ([d1,d2,d3,d4].map iV++sp)) 3 (0,0))∈L1:=by obtain⟨X,rfl⟩:=DL;exact Aa _ w0
  have m1:=mG (b:=b) (p:=p) (s:=s1) (S:=S1) (G:=L1) (l:=Aw b p s1 S1 L1) (λ_ h=>h) _ w1;refine Aj ?_;refine E8 ?_;refine Aj ?_;rw[show(0:Int)+1=1 from rfl];refine Aj ?_;refine EI ?_;refine Aj ?_;refine Gc ?_;intro S2 s2 L2 hS2 MD FL HP;have w2:(gb,Obj.cells (toArray ([d1,d2,d3,d4].map iV++sp)) 3 (0,0))∈L2:=by obtain⟨X,rfl⟩:=FL;exact Aa _ w1
  have m2:=mG (b:=b) (p:=p) (s:=s2) (S:=S2) (G:=L2) (l:=Aw b p s2 S2 L2) (λ_ h=>h) _ w2;refine Aj ?_;refine E8 ?_;refine Aj ?_;rw[show(1:Int)+1=2 from rfl];refine Aj ?_;refine EI ?_;refine Aj ?_;refine Gc ?_;intro S3 s3 L3 hS3 hK4 KQ PV;have w3:(gb,Obj.cells (toArray ([d1,d2,d3,d4].map iV++sp)) 3 (0,0))∈L3:=by obtain⟨X,rfl⟩:=KQ;exact Aa _ w2
  have m3:=mG (b:=b) (p:=p) (s:=s3) (S:=S3) (G:=L3) (l:=Aw b p s3 S3 L3) (λ_ h=>h) _ w3;refine Aj ?_;refine E8 ?_;refine Aj ?_;rw[show(2:Int)+1=3 from rfl];refine Aj ?_;refine EI ?_;refine Aj ?_;refine Gc ?_;intro S4 s4 L4 hS4 hK5 jm mr4;have w4:(gb,Obj.cells (toArray ([d1,d2,d3,d4].map iV++sp)) 3 (0,0))∈L4:=by obtain⟨X,rfl⟩:=jm;exact Aa _ w3
  have m4:=mG (b:=b) (p:=p) (s:=s4) (S:=S4) (G:=L4) (l:=Aw b p s4 S4 L4) (λ_ h=>h) _ w4;refine Aj ?_;refine E8 ?_;refine Aj ?_;subst hR;exact A9 (ht:=(jm.trans (KQ.trans (FL.trans (DL.trans pT)))))
 ·exfalso;simp at hl
instance{id:Int}:EK prog F C b p 364 [pV b,.int .i64 id] k S k (.bool (PK S id).1) (PK S id).2:=⟨λs G h=>by
 by_cases h6:(Ar.getD' S.A id).1.kd=6
 ·exact w9 h id h6
 ·exact Aa3 h id h6⟩
end
end Go.Proofs.YtlifcingifodfaaGreat
