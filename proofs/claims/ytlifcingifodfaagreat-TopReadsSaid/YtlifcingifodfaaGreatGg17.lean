/- Laws that the statement's proof leans on (joined out of several texts). -/
import Derived.Test.YtlifcingifodfaaGreatGg16
import Derived.Lib.AppendZeros
set_option maxHeartbeats 4000000
set_option linter.unusedVariables false
set_option linter.unusedSimpArgs false
namespace Go.Proofs.YtlifcingifodfaaGreat
open Tryz
open List(toArray)
open Go.RowKit
set_option maxRecDepth 20000
variable{F C k b N:Nat}{S:KT}{p:RP}{s:RL}{G:Ac}{P:Program}{ro:Option Nat}{ty:TypeId}{pos:String}{g:Option (Nat×Bool)}{x:Operand}
section
def yv(w:Int):Ap:=yu w.toNat
def yw(w:Int):Int:=if 32768<=w.toNat then 3 else 0
instance{w:Int}[hu:U6 w]{l:Ac}:QF prog 255 [Be w] l (.tuple #[.agg (toArray (yv w)),iV (yw w)]):=⟨λl _=>by
 obtain⟨n,rfl⟩: ∃n:Nat,w=n:=⟨w.toNat,by have:=hu.out.1;omega⟩
 exact iY n (by have:=hu.out.2;omega) l⟩
def frA(x:MJ)(va:Int):Int:=IntKind.u64.wrap (IntKind.i64.wrap (IntKind.i64.wrap (x.fr*64)+(Ed va.toNat 0 6:Nat)))
def findA(S:KT)(core va:Int)(wr:Bool):(Int×Int)×KT:=
 if 32768<=va.toNat then((0,1),S) else if ¬va%8=0 then((0,2),S) else if ¬(Km S.K core).2.2=0\/(Km S.K core).1<0 then((0,3),S)
 else if ¬(B9 S.K S.W core (E4 va).1).1.2.2=0 then((0,4),{S with K:=(B9 S.K S.W core (E4 va).1).2})
 else if(wr=true/\(B9 S.K S.W core (E4 va).1).1.1.wr=false)\/(wr=false/\(B9 S.K S.W core (E4 va).1).1.1.rd=false) then((0,5),{S with K:=(B9 S.K S.W core (E4 va).1).2})
 else((frA (B9 S.K S.W core (E4 va).1).1.1 va,0),{S with K:=(B9 S.K S.W core (E4 va).1).2})
theorem sW(hK:IsK F C k S p s)(core va:Int)[hu:U6 va](wr:Bool):Fn prog 200 [pV p.c,pV p.m,.int .i64 core,Be va,.bool wr] (Ax b p s S G) (KK F C b p k (.tuple #[Be (findA S core va wr).1.1,iV (findA S core va wr).1.2]) (findA S core va wr).2 G):=by
 have mr:CF b p∈Ax b p s S G:=mR λ_ h=>h;obtain⟨u0,u1⟩:=hu.out;obtain⟨R,hR⟩: ∃R,findA S core va wr=R:=⟨_,rfl⟩
 rw[hR];unfold findA at hR;refine AN func200 ntmps200 λE=>?_;refine Aj ?_;refine Ie 1 ?_;refine Aj ?_;refine EM ?_;refine Aj ?_;by_cases h1:32768<=va.toNat
 ·rw[Ad h1] at hR;subst hR;rw[show yw va=3 from Ad h1,show yv va=cD 0 0 0 0 from Ad h1];refine AQ λU5=>?_;exact A9
 rw[Ab h1] at hR;rw[show yw va=0 from Ab h1,show yv va=cD (Ed va.toNat 12 3) (Ed va.toNat 9 3) (Ed va.toNat 6 3) (Ed va.toNat 0 6) from Ab h1];obtain⟨x1,ZX⟩: ∃x,Ed va.toNat 12 3=x:=⟨_,rfl⟩
 obtain⟨x2,XL⟩: ∃x,Ed va.toNat 9 3=x:=⟨_,rfl⟩
 obtain⟨x3,hx3⟩: ∃x,Ed va.toNat 6 3=x:=⟨_,rfl⟩
 obtain⟨x4,hx4⟩: ∃x,Ed va.toNat 0 6=x:=⟨_,rfl⟩
 rw[ZX,XL,hx3,hx4];refine AQ λU5=>?_;by_cases h2:va%8=0
 case neg=>rw[Ad h2] at hR;subst hR;refine Aj ?_;exact A9
 rw[Ab (by simpa using h2)] at hR;refine Aj ?_;refine EM ?_;obtain⟨r,hr⟩: ∃r,Km S.K core=r:=⟨_,rfl⟩
 rw[hr] at hR⊢;refine Aj ?_;by_cases h3:¬r.2.2=0\/r.1<0
 ·rw[Ad h3] at hR;subst hR;by_cases h4:r.2.2=0<;>by_cases h5:r.1<0;all_goals first
   |(exfalso;omega)
   |(refine Aj ?_
     exact A9)
 rw[Ab h3] at hR;obtain⟨h4,h5⟩:r.2.2=0/\¬r.1<0:=by omega
 refine Aj ?_;refine EM ?_;refine Aj ?_;try simp only[AM,AK,AR]
 refine Gi ?_;intro S1 s1 L1 EG EC DO GQ;obtain⟨t,ht⟩: ∃t,B9 S.K S.W core (E4 va).1=t:=⟨_,rfl⟩
 rw[ht] at hR EG⊢;rw[<-EG] at hR;refine AQ λb20=>?_;by_cases h6:t.1.2.2=0
 case neg=>rw[Ad h6] at hR;subst hR;refine Aj ?_;exact A9
 rw[Ab (by simpa using h6)] at hR;by_cases h7:(wr=true/\t.1.1.wr=false)\/(wr=false/\t.1.1.rd=false)
 ·rw[Ad h7] at hR;subst hR;cases wr<;>cases h8:t.1.1.wr<;>cases h9:t.1.1.rd;all_goals first
   |(exfalso;simp[h8,h9] at h7;done)
   |(refine Aj ?_
     exact A9)
 rw[Ab h7] at hR;subst hR;cases wr<;>cases h8:t.1.1.wr<;>cases h9:t.1.1.rd;all_goals first
  |(exfalso;simp[h8,h9] at h7;done)
  |(refine Aj ?_
    refine Bh (qX rfl rfl) ?_;refine Aj ?_;refine Bh (qW rfl rfl) ?_;refine Aj ?_;refine Bh (Qe rfl) ?_;refine Aj ?_;refine E9 ?_;refine Aj ?_;unfold frA;rw[hx4];exact A9)
end
section
instance{core va:Int}[hu:U6 va]{wr:Bool}:EK prog F C b p 200 [pV p.c,pV p.m,.int .i64 core,Be va,.bool wr] k S k (.tuple #[Be (findA S core va wr).1.1,iV (findA S core va wr).1.2]) (findA S core va wr).2:=⟨λs G h=>sW h core va wr⟩
abbrev Z4(kd va:Int)(wr:Bool):Ap:=[iV kd,Be va,.bool wr]
theorem yx(x:Int):U6 (IntKind.u64.wrap x):=⟨by rw[lD];exact⟨Af,Af⟩⟩
theorem nY(S:KT)(core va:Int)(wr:Bool):U6 (findA S core va wr).1.1:=by
 unfold findA
 repeat' split
 all_goals first
  |exact(⟨by decide,by decide⟩:U6 0)
  |exact yx _
def jX(kd va:Int)(wr:Bool):Ap:=if kd=0 then Z4 0 0 false else Z4 kd va wr
def cE(S:KT)(core va:Int):(Int×Int)×KT:=
 if ¬(findA S core va false).1.2=0 then((0,(findA S core va false).1.2),(findA S core va false).2)
 else if ¬(N1 (findA S core va false).2.W (findA S core va false).1.1).2=0 then((0,4),(findA S core va false).2)
 else(((N1 (findA S core va false).2.W (findA S core va false).1.1).1,0),(findA S core va false).2)
theorem sX(hK:IsK F C k S p s)(core va:Int)[hu:U6 va]:Fn prog 155 [pV p.c,pV p.m,.int .i64 core,Be va] (Ax b p s S G) (KK F C b p k (.tuple #[Be (cE S core va).1.1,.agg (toArray (jX (cE S core va).1.2 va false))]) (cE S core va).2 G):=by
 have mr:CF b p∈Ax b p s S G:=mR λ_ h=>h;have hU:=nY S core va false;obtain⟨R,hR⟩: ∃R,cE S core va=R:=⟨_,rfl⟩
 rw[hR];unfold cE at hR;refine AN func155 ntmps155 λE=>?_;refine AQ λb9=>?_;refine Gi ?_;intro S1 s1 L1 EG EC DO GQ;obtain⟨q,hq⟩: ∃q,findA S core va false=q:=⟨_,rfl⟩
 rw[hq] at hR EG hU⊢;rw[<-EG] at hR;refine Aj ?_;by_cases h1:q.1.2=0
 case neg=>rw[Ad h1] at hR;subst hR;rw[show jX q.1.2 va false=Z4 q.1.2 va false from Ab h1];refine Aj ?_;exact A9 (h:= .tmp rfl (Cq rfl (.head _) (As.LSub.of_all (n:=3) (Z4 q.1.2 va false) rfl) .nil))
 rw[Ab (by simpa using h1)] at hR;refine Aj ?_;try simp only[AM,AK,AR]
 refine EM ?_;obtain⟨w,hw⟩: ∃w,N1 S1.W q.1.1=w:=⟨_,rfl⟩
 rw[hw] at hR⊢;refine Aj ?_;by_cases h2:w.2=0
 case neg=>rw[Ad h2] at hR;subst hR;rw[show jX 4 va false=Z4 4 va false from rfl];refine Aj ?_;exact A9 (h:= .tmp rfl (Cq rfl (.head _) (As.LSub.of_all (n:=3) (Z4 4 va false) rfl) .nil))
 rw[Ab (by simpa using h2)] at hR;subst hR;refine Aj ?_;exact A9 (h:= .tmp rfl (Cq rfl (.head _) (As.LSub.of_all (n:=3) (Z4 0 0 false) rfl) .nil))
instance{core va:Int}[hu:U6 va]:EK prog F C b p 155 [pV p.c,pV p.m,.int .i64 core,Be va] k S k (.tuple #[Be (cE S core va).1.1,.agg (toArray (jX (cE S core va).1.2 va false))]) (cE S core va).2:=⟨λs G h=>sX h core va⟩
end
section
def Z5(S:KT)(core va v:Int):Int×KT:=
 if ¬(findA S core va true).1.2=0 then((findA S core va true).1.2,(findA S core va true).2)
 else(if(V9 (findA S core va true).2.W (findA S core va true).1.1 v).1=0 then 0 else 4,{(findA S core va true).2 with W:=(V9 (findA S core va true).2.W (findA S core va true).1.1 v).2})
theorem nZ(hK:IsK F C k S p s)(core va v:Int)[hu:U6 va][hv:U6 v]:Fn prog 154 [pV p.c,pV p.m,.int .i64 core,Be va,Be v] (Ax b p s S G) (KK F C b p k (.agg (toArray (jX (Z5 S core va v).1 va true))) (Z5 S core va v).2 G):=by
 have mr:CF b p∈Ax b p s S G:=mR λ_ h=>h;have hU:=nY S core va true;obtain⟨R,hR⟩: ∃R,Z5 S core va v=R:=⟨_,rfl⟩
 rw[hR];unfold Z5 at hR;refine AN func154 ntmps154 λE=>?_;refine AQ λb9=>?_;refine Gi ?_;intro S1 s1 L1 EG EC DO GQ;obtain⟨q,hq⟩: ∃q,findA S core va true=q:=⟨_,rfl⟩
 rw[hq] at hR EG hU⊢;rw[<-EG] at hR;refine Aj ?_;by_cases h1:q.1.2=0
 case neg=>rw[Ad h1] at hR;subst hR;rw[show jX q.1.2 va true=Z4 q.1.2 va true from Ab h1];refine Aj ?_;exact A9 (h:=Cq rfl (.head _) (As.LSub.of_all (n:=3) (Z4 q.1.2 va true) rfl) .nil)
 rw[Ab (by simpa using h1)] at hR;refine Aj ?_;try simp only[AM,AK,AR]
 refine Gi ?_;intro S2 s2 L2 hS2 FW FN HV;obtain⟨w,hw⟩: ∃w,V9 S1.W q.1.1 v=w:=⟨_,rfl⟩
 rw[hw] at hR hS2⊢;rw[<-hS2] at hR;by_cases h2:w.1=0
 case neg=>rw[Ab h2] at hR;subst hR;rw[show jX 4 va true=Z4 4 va true from rfl];refine Aj ?_;exact A9 (h:=Cq rfl (.head _) (As.LSub.of_all (n:=3) (Z4 4 va true) rfl) .nil)
 rw[Ad h2] at hR;subst hR;refine Aj ?_;exact A9 (h:=Cq rfl (.head _) (As.LSub.of_all (n:=3) (Z4 0 0 false) rfl) .nil)
instance{core va v:Int}[hu:U6 va][hv:U6 v]:EK prog F C b p 154 [pV p.c,pV p.m,.int .i64 core,Be va,Be v] k S k (.agg (toArray (jX (Z5 S core va v).1 va true))) (Z5 S core va v).2:=⟨λs G h=>nZ h core va v⟩
end
abbrev lvV(x:Int×Int):Ap:=[iV x.1,Be x.2]
theorem Zs(B3 B4 B5 b gb F:Nat)(p:RP)(W:A4)(h1:F<=64)(hW:W.length=F*8)(hu: ∀w,w∈W->Lt w)(root page:Int):
 FC prog 331 [pV B3,pV B4,pV B5] lvV (λxs=>xs=vE W root page) (λpre=>pre<+:vE W root page)
  (λ_ l=>BS B5 page∈l/\BS B4 root∈l/\rB B3 b∈l/\CF b p∈l/\Pz p.m gb F∈l/\Ug gb W∈l):=by
 refine⟨λr I Ix G0 Cb hY l G hG h0=>?_⟩;have Q1: ∀l,CF b p∈l->QF prog 86 [pV b] l (pV p.m):=λl h=>⟨λl2 hl=>Ul b p l2 (hl _ h)⟩
 have Q2: ∀l lv,Pz p.m gb F∈l->Ug gb W∈l->QF prog 298 [pV p.m,.int .i64 root,.int .i64 page,.int .i64 lv] l (.tuple #[Be (Q4 W root page lv).1,iV (Q4 W root page lv).2]):=λl lv m1 m2=>⟨λl2 hl=>Xk p.m gb F W h1 hW hu root page lv l2 (hl _ m1) (hl _ m2)⟩
 obtain⟨n1,n2,n3,n4,n5,n6⟩:=Cb _ _ G hG h0;have i1:=Q1 _ n4;have i2:=Q2 _ 1 n5 n6;obtain⟨a1,ha1⟩: ∃a,Q4 W root page 1=a:=⟨_,rfl⟩
 obtain⟨a2,ha2⟩: ∃a,Q4 W root page 2=a:=⟨_,rfl⟩
 rw[ha1] at i2;have hD:vE W root page=if ¬a1.2=0 then[] else(1,a1.1)::if ¬a2.2=0 then[] else[(2,a2.1)]:=by unfold vE;rw[ha1,ha2]
 rw[hD] at hY⊢;refine AN func331 ntmps331 λE=>?_;refine Aj ?_;refine Ie 2 ?_;refine Aj ?_;refine IB ?_;refine pY ?_;refine VI ?_;iterate 3 refine pY ?_
 refine VI ?_;refine BM ?_;by_cases e1:a1.2=0
 case neg=>refine Aj ?_;exact Bb .refl ⟨l,rfl,.inl ⟨[],(Ad e1).symm,h0⟩⟩
 rw[Ab (by simpa using e1)] at hY⊢;refine Aj ?_;have kG:[((1:Int),a1.1)]<+:(1,a1.1)::(if ¬a2.2=0 then[] else[((2:Int),a2.1)]):=⟨_,rfl⟩
 have hy:=hY [] (1,a1.1) l G hG h0 kG;refine JB (C5 rfl rfl hy) rfl rfl rfl ?_;rintro v _ ⟨l1,rfl,⟨rfl,hI⟩|⟨rfl,hx⟩⟩
 case' inr=>
  refine Aj ?_;exact Bb .refl ⟨l1,rfl,.inr ⟨_,kG,hx⟩⟩
 obtain⟨n1,n2,n3,n4,n5,n6⟩:=Cb _ _ G hG hI;have i1:=Q1 _ n4;have i2:=Q2 _ 2 n5 n6;rw[ha2] at i2;refine Aj ?_;refine E9 ?_;refine Aj ?_;rw[show(1:Int)+1=2 from rfl];refine IB ?_;refine pY ?_;refine VI ?_;iterate 3 refine pY ?_
 refine VI ?_;refine BM ?_;by_cases e2:a2.2=0
 case neg=>rw[Ad e2] at hY⊢;refine Aj ?_;exact Bb .refl ⟨l1,rfl,.inl ⟨[(1,a1.1)],rfl,hI⟩⟩
 rw[Ab (by simpa using e2)] at hY⊢;refine Aj ?_;have Q0:[((1:Int),a1.1),(2,a2.1)]<+:[((1:Int),a1.1),(2,a2.1)]:=⟨[],rfl⟩
 have S8:=hY [(1,a1.1)] (2,a2.1) l1 G hG hI Q0;refine JB (C5 rfl rfl S8) rfl rfl rfl ?_;rintro v _ ⟨l2,rfl,⟨rfl,N6⟩|⟨rfl,XL⟩⟩
 case' inr=>
  refine Aj ?_;exact Bb .refl ⟨l2,rfl,.inr ⟨_,Q0,XL⟩⟩
 refine Aj ?_;refine E9 ?_;refine Aj ?_;exact Bb .refl ⟨l2,rfl,.inl ⟨[(1,a1.1),(2,a2.1)],rfl,N6⟩⟩
section
theorem n7(N:As.ASt)(o:Int):(As.dropP N o).2.2.given=N.given:=by unfold As.dropP;(repeat' split)<;>rfl
theorem cF(hK:IsK F C k S p s)(o:Int):Fn prog 386 [pV p.n,.int .i64 o] (Ax b p s S G) λv l'=> ∃sl cs,v= .tuple #[sl,iV (As.dropP S.N o).2.1]/\OwnSl 3 1 sl (As.dropP S.N o).1.length (As.dropP S.N o).1 cs/\IsK F C k {S with N:=(As.dropP S.N o).2.2} p s/\l'=cs++Ax b p s {S with N:=(As.dropP S.N o).2.2} G:=
 Fn.re (.of_perm (by unfold Ax;exact BX)) (As.dropPool_any p.n S.N o (CF b p::(s.M++(s.C++(s.A++(s.H++(s.T++(s.Q++(s.E++(s.V++G))))))))))
  λv l' ⟨sl,cs,h1,h2,h3⟩=>⟨cs++Ax b p s {S with N:=(As.dropP S.N o).2.2} G,by rw[h3];unfold Ax;exact A8 [],sl,cs,h1,h2,{hK with giv:=λn hn=>by rw[show({S with N:=(As.dropP S.N o).2.2}:KT).N.given=S.N.given from n7 ..];exact hK.giv n hn},rfl⟩
end
section
def vI:Value->Int
 | .int _ i=>i
 |_=>0
def sY(N:As.ASt)(o:Int):A4:=(As.dropP N o).1.map vI
def PX(S:KT)(id:Int):Bool×KT:=
 if(Ar.getD' S.A id).2=false then(false,S)
 else if(Ar.getD' S.A id).1.kd=4 then((FZ S id).2,RS S id)
 else if(Ar.getD' S.A id).1.kd=5 then(decide ((As.unP S.N id).2.1=0),{S with N:=(As.unP S.N id).2.2,K:=if(As.unP S.N id).2.1=0 then IM S.K (Q5 (As.unP S.N id).1) else S.K})
 else if(Ar.getD' S.A id).1.kd=6 then(decide ((As.dropP S.N id).2.1=0),{S with N:=(As.dropP S.N id).2.2,K:=(sY S.N id).foldl (λK n=>IM K (Q5 n)) S.K})
 else(false,S)
theorem Aca(hK:IsK F C k S p s)(id:Int)(h6:¬(Ar.getD' S.A id).1.kd=6):Fn prog 364 [pV b,.int .i64 id] (Ax b p s S G) (KK F C b p k (.bool (PX S id).1) (PX S id).2 G):=by
 have mr:CF b p∈Ax b p s S G:=mR λ_ h=>h;obtain⟨R,hR⟩: ∃R,PX S id=R:=⟨_,rfl⟩
 rw[hR];unfold PX at hR;refine AN func364 ntmps364 λE=>?_;refine Aj ?_;refine EM ?_;refine Aj ?_;refine EM ?_;obtain⟨o,ho⟩: ∃o,(Ar.getD' S.A id).1=o:=⟨_,rfl⟩
 obtain⟨ok,Dm⟩: ∃ok,(Ar.getD' S.A id).2=ok:=⟨_,rfl⟩
 rw[ho,Dm] at hR;rw[ho] at h6;rw[ho,Dm];refine AQ λb5=>?_;cases ok with
 |false=>rw[Ad rfl] at hR;subst hR;refine Aj ?_;exact A9
 |true=>
 rw[Ab AX] at hR;refine Aj ?_;by_cases h4:o.kd=4
 ·rw[Ad h4] at hR;subst hR;refine Aj ?_;refine Gi ?_;intro S1 s1 L1 EG EC DO GQ;refine Aj ?_;exact A9
 rw[Ab h4] at hR;by_cases h5:o.kd=5
 ·rw[Ad h5] at hR;refine Aj ?_;refine EM ?_;refine Aj ?_;refine Gi ?_;intro S1 s1 L1 EG EC DO GQ;obtain⟨u,hu⟩: ∃u,As.unP S.N id=u:=⟨_,rfl⟩
  rw[hu] at hR EG⊢;refine Aj ?_;by_cases h7:u.2.1=0
  ·rw[Ad h7,h7] at hR;subst hR;refine Aj ?_;refine EM ?_;refine Aj ?_;try simp only[AM,AK,AR]
   refine Gi ?_;intro S2 s2 L2 hS2 FW FN HV;refine Aj ?_;have hS:S2={S with N:=u.2.2,K:=IM S.K (Q5 u.1)}:=by rw[hS2,EG]
   exact A9
  rw[Ab h7,show decide (u.2.1=0)=false by simp[h7]] at hR;subst hR;refine Aj ?_;exact A9
 rw[Ab h5,Ab h6] at hR;subst hR;refine Aj ?_;exact A9
end
section
theorem sZ(N:As.ASt)(o:Int):(As.dropP N o).1.length<=4:=by
 unfold As.dropP
 split
 ·simp
 ·exact BV (As.dropL_len ..) (As.nums_len _)
theorem s6(N:As.ASt)(o:Int):(As.dropP N o).1=(sY N o).map iV:=by
 unfold sY;rw[CY];unfold As.dropP
 split
 ·rfl
 ·unfold As.dropL;simp only[CY];exact By λ_ _=>rfl
theorem yy(hK:IsK F C k S p s)(id:Int)(h6:(Ar.getD' S.A id).1.kd=6):Fn prog 364 [pV b,.int .i64 id] (Ax b p s S G) (KK F C b p k (.bool (PX S id).1) (PX S id).2 G):=by
 have mr:CF b p∈Ax b p s S G:=mR λ_ h=>h;obtain⟨R,hR⟩: ∃R,PX S id=R:=⟨_,rfl⟩
 rw[hR];unfold PX at hR;refine AN func364 ntmps364 λE=>?_;refine Aj ?_;refine EM ?_;refine Aj ?_;refine EM ?_;obtain⟨o,ho⟩: ∃o,(Ar.getD' S.A id).1=o:=⟨_,rfl⟩
 obtain⟨ok,Dm⟩: ∃ok,(Ar.getD' S.A id).2=ok:=⟨_,rfl⟩
 rw[ho,Dm] at hR;rw[ho] at h6;rw[ho,Dm];refine AQ λb5=>?_;cases ok with
 |false=>rw[Ad rfl] at hR;subst hR;refine Aj ?_;exact A9
 |true=>
 rw[Ab AX,Ab Af,Ab Af,Ad h6] at hR;refine Aj ?_;refine EM ?_;refine Aj ?_;refine Bs (.of_perm (Fi b p s S [_] G)) ?_;refine AS (Az rfl rfl (cF hK id)) ?_;rintro _ _ ⟨sl,cs,rfl,Gc,EC,rfl⟩;have hl:=sZ S.N id;rw[s6] at Gc hl;obtain⟨dn,hdn⟩: ∃d,As.dropP S.N id=d:=⟨_,rfl⟩
 obtain⟨ds,hds⟩: ∃ds,sY S.N id=ds:=⟨_,rfl⟩
 rw[hds] at Gc hl hR;rw[hdn] at EC hR⊢;rw[A7] at Gc hl;refine Bs (.of_perm (Fi b p s _ cs _)) ?_;obtain⟨c5,hc5⟩: ∃c,(b5,Obj.cells (toArray (Ar.obC o)) 100 (0,0))=c:=⟨_,rfl⟩
 obtain⟨pp,cap,dA⟩:=Gc.shape;have qJ:Tail (cs++([(b5,Obj.cells (toArray (Ar.obC o)) 100 (0,0))]++G)) G:=⟨cs++[_],by rw[Am]⟩
 rcases ds with _|⟨d1,_|⟨d2,_|⟨d3,_|⟨d4,_|⟨d5,ds⟩⟩⟩⟩⟩
 ·simp only[GC] at hR;rw[dA];subst hR;refine Aj ?_;refine Ie 0 ?_;refine Aj ?_;exact A9 (ht:=qJ)
 ·obtain⟨gb,cap,sp,rfl,rfl⟩:=MR Gc (by simp);simp only[D6,GC] at hR;obtain⟨L0,go⟩: ∃L0,[(gb,Obj.cells (toArray ([d1].map iV++sp)) 3 (0,0))]++([(b5,Obj.cells (toArray (Ar.obC o)) 100 (0,0))]++G)=L0:=⟨_,rfl⟩
  have w0:(gb,Obj.cells (toArray ([d1].map iV++sp)) 3 (0,0))∈L0:=by rw[<-go];exact .head _
  rw[go] at qJ⊢;have m0:=mG (b:=b) (p:=p) (s:=s) (S:=({S with N:=dn.2.2}:KT)) (G:=L0) (l:=Ax b p s {S with N:=dn.2.2} L0) (λ_ h=>h) _ w0;have mr:=mR (b:=b) (p:=p) (s:=s) (S:=({S with N:=dn.2.2}:KT)) (G:=L0) (l:=Ax b p s {S with N:=dn.2.2} L0) λ_ h=>h;have z0:(toArray ([d1].map iV++sp))[0+(0:Int).toNat*1]?=some (.int .i64 d1):=rfl;rw[show([d1]:A4).length=1 from rfl];refine Aj ?_;refine Ie 1 ?_;refine Aj ?_;refine EM ?_;refine Aj ?_;refine Gi ?_;intro S1 s1 L1 EG FW DO GQ;have w1:(gb,Obj.cells (toArray ([d1].map iV++sp)) 3 (0,0))∈L1:=by obtain⟨X,rfl⟩:=DO;exact Aa _ w0
  have m1:=mG (b:=b) (p:=p) (s:=s1) (S:=S1) (G:=L1) (l:=Ax b p s1 S1 L1) (λ_ h=>h) _ w1;refine Aj ?_;refine E9 ?_;refine Aj ?_;subst hR;exact A9 (ht:=(DO.trans qJ))
 ·obtain⟨gb,cap,sp,rfl,rfl⟩:=MR Gc (by simp);simp only[D6,GC] at hR;obtain⟨L0,go⟩: ∃L0,[(gb,Obj.cells (toArray ([d1,d2].map iV++sp)) 3 (0,0))]++([(b5,Obj.cells (toArray (Ar.obC o)) 100 (0,0))]++G)=L0:=⟨_,rfl⟩
  have w0:(gb,Obj.cells (toArray ([d1,d2].map iV++sp)) 3 (0,0))∈L0:=by rw[<-go];exact .head _
  rw[go] at qJ⊢;have m0:=mG (b:=b) (p:=p) (s:=s) (S:=({S with N:=dn.2.2}:KT)) (G:=L0) (l:=Ax b p s {S with N:=dn.2.2} L0) (λ_ h=>h) _ w0;have mr:=mR (b:=b) (p:=p) (s:=s) (S:=({S with N:=dn.2.2}:KT)) (G:=L0) (l:=Ax b p s {S with N:=dn.2.2} L0) λ_ h=>h;have z0:(toArray ([d1,d2].map iV++sp))[0+(0:Int).toNat*1]?=some (.int .i64 d1):=rfl;have z1:(toArray ([d1,d2].map iV++sp))[0+(1:Int).toNat*1]?=some (.int .i64 d2):=rfl;rw[show([d1,d2]:A4).length=2 from rfl];refine Aj ?_;refine Ie 2 ?_;refine Aj ?_;refine EM ?_;refine Aj ?_;refine Gi ?_;intro S1 s1 L1 EG FW DO GQ;have w1:(gb,Obj.cells (toArray ([d1,d2].map iV++sp)) 3 (0,0))∈L1:=by obtain⟨X,rfl⟩:=DO;exact Aa _ w0
  have m1:=mG (b:=b) (p:=p) (s:=s1) (S:=S1) (G:=L1) (l:=Ax b p s1 S1 L1) (λ_ h=>h) _ w1;refine Aj ?_;refine E9 ?_;refine Aj ?_;rw[show(0:Int)+1=1 from rfl];refine Aj ?_;refine EM ?_;refine Aj ?_;refine Gi ?_;intro S2 s2 L2 hS2 MW FN HV;have w2:(gb,Obj.cells (toArray ([d1,d2].map iV++sp)) 3 (0,0))∈L2:=by obtain⟨X,rfl⟩:=FN;exact Aa _ w1
  have m2:=mG (b:=b) (p:=p) (s:=s2) (S:=S2) (G:=L2) (l:=Ax b p s2 S2 L2) (λ_ h=>h) _ w2;refine Aj ?_;refine E9 ?_;refine Aj ?_;subst hR;exact A9 (ht:=(FN.trans (DO.trans qJ)))
 ·obtain⟨gb,cap,sp,rfl,rfl⟩:=MR Gc (by simp);simp only[D6,GC] at hR;obtain⟨L0,go⟩: ∃L0,[(gb,Obj.cells (toArray ([d1,d2,d3].map iV++sp)) 3 (0,0))]++([(b5,Obj.cells (toArray (Ar.obC o)) 100 (0,0))]++G)=L0:=⟨_,rfl⟩
  have w0:(gb,Obj.cells (toArray ([d1,d2,d3].map iV++sp)) 3 (0,0))∈L0:=by rw[<-go];exact .head _
  rw[go] at qJ⊢;have m0:=mG (b:=b) (p:=p) (s:=s) (S:=({S with N:=dn.2.2}:KT)) (G:=L0) (l:=Ax b p s {S with N:=dn.2.2} L0) (λ_ h=>h) _ w0;have mr:=mR (b:=b) (p:=p) (s:=s) (S:=({S with N:=dn.2.2}:KT)) (G:=L0) (l:=Ax b p s {S with N:=dn.2.2} L0) λ_ h=>h;have z0:(toArray ([d1,d2,d3].map iV++sp))[0+(0:Int).toNat*1]?=some (.int .i64 d1):=rfl;have z1:(toArray ([d1,d2,d3].map iV++sp))[0+(1:Int).toNat*1]?=some (.int .i64 d2):=rfl;have z2:(toArray ([d1,d2,d3].map iV++sp))[0+(2:Int).toNat*1]?=some (.int .i64 d3):=rfl;rw[show([d1,d2,d3]:A4).length=3 from rfl];refine Aj ?_;refine Ie 3 ?_;refine Aj ?_;refine EM ?_;refine Aj ?_;refine Gi ?_;intro S1 s1 L1 EG FW DO GQ;have w1:(gb,Obj.cells (toArray ([d1,d2,d3].map iV++sp)) 3 (0,0))∈L1:=by obtain⟨X,rfl⟩:=DO;exact Aa _ w0
  have m1:=mG (b:=b) (p:=p) (s:=s1) (S:=S1) (G:=L1) (l:=Ax b p s1 S1 L1) (λ_ h=>h) _ w1;refine Aj ?_;refine E9 ?_;refine Aj ?_;rw[show(0:Int)+1=1 from rfl];refine Aj ?_;refine EM ?_;refine Aj ?_;refine Gi ?_;intro S2 s2 L2 hS2 MW FN HV;have w2:(gb,Obj.cells (toArray ([d1,d2,d3].map iV++sp)) 3 (0,0))∈L2:=by obtain⟨X,rfl⟩:=FN;exact Aa _ w1
  have m2:=mG (b:=b) (p:=p) (s:=s2) (S:=S2) (G:=L2) (l:=Ax b p s2 S2 L2) (λ_ h=>h) _ w2;refine Aj ?_;refine E9 ?_;refine Aj ?_;rw[show(1:Int)+1=2 from rfl];refine Aj ?_;refine EM ?_;refine Aj ?_;refine Gi ?_;intro S3 s3 L3 hS3 hK4 Lg Pu;have w3:(gb,Obj.cells (toArray ([d1,d2,d3].map iV++sp)) 3 (0,0))∈L3:=by obtain⟨X,rfl⟩:=Lg;exact Aa _ w2
  have m3:=mG (b:=b) (p:=p) (s:=s3) (S:=S3) (G:=L3) (l:=Ax b p s3 S3 L3) (λ_ h=>h) _ w3;refine Aj ?_;refine E9 ?_;refine Aj ?_;subst hR;exact A9 (ht:=(Lg.trans (FN.trans (DO.trans qJ))))
 ·obtain⟨gb,cap,sp,rfl,rfl⟩:=MR Gc (by simp);simp only[D6,GC] at hR;obtain⟨L0,go⟩: ∃L0,[(gb,Obj.cells (toArray ([d1,d2,d3,d4].map iV++sp)) 3 (0,0))]++([(b5,Obj.cells (toArray (Ar.obC o)) 100 (0,0))]++G)=L0:=⟨_,rfl⟩
  have w0:(gb,Obj.cells (toArray ([d1,d2,d3,d4].map iV++sp)) 3 (0,0))∈L0:=by rw[<-go];exact .head _
  rw[go] at qJ⊢;have m0:=mG (b:=b) (p:=p) (s:=s) (S:=({S with N:=dn.2.2}:KT)) (G:=L0) (l:=Ax b p s {S with N:=dn.2.2} L0) (λ_ h=>h) _ w0;have mr:=mR (b:=b) (p:=p) (s:=s) (S:=({S with N:=dn.2.2}:KT)) (G:=L0) (l:=Ax b p s {S with N:=dn.2.2} L0) λ_ h=>h;have z0:(toArray ([d1,d2,d3,d4].map iV++sp))[0+(0:Int).toNat*1]?=some (.int .i64 d1):=rfl;have z1:(toArray ([d1,d2,d3,d4].map iV++sp))[0+(1:Int).toNat*1]?=some (.int .i64 d2):=rfl;have z2:(toArray ([d1,d2,d3,d4].map iV++sp))[0+(2:Int).toNat*1]?=some (.int .i64 d3):=rfl;have z3:(toArray ([d1,d2,d3,d4].map iV++sp))[0+(3:Int).toNat*1]?=some (.int .i64 d4):=rfl;rw[show([d1,d2,d3,d4]:A4).length=4 from rfl];refine Aj ?_;refine Ie 4 ?_;refine Aj ?_;refine EM ?_;refine Aj ?_;refine Gi ?_;intro S1 s1 L1 EG FW DO GQ;have w1:(gb,Obj.cells (toArray ([d1,d2,d3,d4].map iV++sp)) 3 (0,0))∈L1:=by obtain⟨X,rfl⟩:=DO;exact Aa _ w0
  have m1:=mG (b:=b) (p:=p) (s:=s1) (S:=S1) (G:=L1) (l:=Ax b p s1 S1 L1) (λ_ h=>h) _ w1;refine Aj ?_;refine E9 ?_;refine Aj ?_;rw[show(0:Int)+1=1 from rfl];refine Aj ?_;refine EM ?_;refine Aj ?_;refine Gi ?_;intro S2 s2 L2 hS2 MW FN HV;have w2:(gb,Obj.cells (toArray ([d1,d2,d3,d4].map iV++sp)) 3 (0,0))∈L2:=by obtain⟨X,rfl⟩:=FN;exact Aa _ w1
  have m2:=mG (b:=b) (p:=p) (s:=s2) (S:=S2) (G:=L2) (l:=Ax b p s2 S2 L2) (λ_ h=>h) _ w2;refine Aj ?_;refine E9 ?_;refine Aj ?_;rw[show(1:Int)+1=2 from rfl];refine Aj ?_;refine EM ?_;refine Aj ?_;refine Gi ?_;intro S3 s3 L3 hS3 hK4 Lg Pu;have w3:(gb,Obj.cells (toArray ([d1,d2,d3,d4].map iV++sp)) 3 (0,0))∈L3:=by obtain⟨X,rfl⟩:=Lg;exact Aa _ w2
  have m3:=mG (b:=b) (p:=p) (s:=s3) (S:=S3) (G:=L3) (l:=Ax b p s3 S3 L3) (λ_ h=>h) _ w3;refine Aj ?_;refine E9 ?_;refine Aj ?_;rw[show(2:Int)+1=3 from rfl];refine Aj ?_;refine EM ?_;refine Aj ?_;refine Gi ?_;intro S4 s4 L4 hS4 hK5 jP mr4;have w4:(gb,Obj.cells (toArray ([d1,d2,d3,d4].map iV++sp)) 3 (0,0))∈L4:=by obtain⟨X,rfl⟩:=jP;exact Aa _ w3
  have m4:=mG (b:=b) (p:=p) (s:=s4) (S:=S4) (G:=L4) (l:=Ax b p s4 S4 L4) (λ_ h=>h) _ w4;refine Aj ?_;refine E9 ?_;refine Aj ?_;subst hR;exact A9 (ht:=(jP.trans (Lg.trans (FN.trans (DO.trans qJ)))))
 ·exfalso;simp at hl
instance{id:Int}:EK prog F C b p 364 [pV b,.int .i64 id] k S k (.bool (PX S id).1) (PX S id).2:=⟨λs G h=>by
 by_cases h6:(Ar.getD' S.A id).1.kd=6
 ·exact yy h id h6
 ·exact Aca h id h6⟩
end
section
variable{E:World}{Q:Exit->Act->World->Prop}{fr:Fr}{ds:List Deferred}{L:Ac}{α:Type}{g:Operand}{ps:List Tmp}{assign body:Code}{gf:Nat}{lb:Ap}{enc:α->Ap}
abbrev UB(r:Nat)(fn:FuncId)(tmps:Array Value)(ps:List Tmp)(assign body:Code)(D:Nat)(st:LoopState)(c:Option Code):Bd:=(r,.loop (DR fn tmps ps.toArray assign body D st c))
theorem Zt(hg:ev fr g=some (.func (.func gf) #[] lb.toArray))[en:EN P gf](A:Ac->Prop)(B:Code->Ac->Prop)
 (Aei: ∀(r:Nat) (fn:FuncId) (tmps:Array Value) (D:Nat),(∀a:Act,a.tmps=tmps->FSat N fr a)->
   Fn P gf (.func (.yield r) #[] #[]::lb) (UB r fn tmps ps assign body D .ready none::Cr D::L) λv l'=>(∃l1,A l1/\l'=UB r fn tmps ps assign body D .ready none::Cr D::l1)\/(∃c l1,B c l1/\l'=UB r fn tmps ps assign body D .done (some c)::Cr D::l1))
 (N4: ∀(D:Nat) (l:Ac),A l->C0 N E Q .normal fr (Hw D::ds) (Cr D::l))
 (KE: ∀(D:Nat) (c:Code) (l:Ac),B c l->BR P none N E c Q fr (Hw D::ds) (Cr D::l)):
 BR P none N E (.rangeFunc g ps.toArray assign body) Q fr ds L:=by
 refine⟨λa W hf hds hs=>wpIn_rangeFunc ?_⟩;intro fn hfn;obtain⟨FU,hrec⟩: ∃FU,FU=DR fn a.tmps ps.toArray assign body W.heap.size:=⟨_,rfl⟩
 obtain⟨W1,ZU⟩: ∃W1,(W.alloc (.deferred (some []))).alloc (.loop (FU .ready none))=W1:=⟨_,rfl⟩
 have Sn:Sat E ((W.heap.size+1,.loop (FU .ready none))::(W.heap.size,.deferred (some []))::L) W1:=by have:=(hs.alloc (.deferred (some []))).alloc (.loop (FU .ready none));rw[World.size_alloc,ZU] at this;exact this
 have hev:=hf.agrees g _ hg;refine⟨W.heap.size+1,[Hw W.heap.size],W1,{target:= .fn (.func gf) lb.toArray,args:=#[.func (.yield (W.heap.size+1)) #[] #[]]},W1,gf,#[.func (.yield (W.heap.size+1)) #[] #[]]++lb.toArray,W1,?_,?_,λ_ _=>trivial,?_,λh=>(by cases h),?_⟩
 ·rw[<-ZU,hrec];exact run_enterLoop_outer _ _ _ _ _
 ·simp only[resolve,hev];simp[Deferred.ofValue,Act.eval]
 ·simp[invoke,en.out]
 ·have hc:=(Aei (W.heap.size+1) fn a.tmps W.heap.size λa' ha'=>⟨by rw[ha'];exact hf.size,λd v hd=>by rw[ha'];exact hf.at_ d v hd⟩).run E W1 (by rw[hrec] at Sn;exact Sn);have kj:(Value.func (.yield (W.heap.size+1)) #[] #[]::lb).toArray=#[.func (.yield (W.heap.size+1)) #[] #[]]++lb.toArray:=by simp
  rw[kj] at hc;refine M6 (hc.mono ?_);rintro e W2 ⟨v,l',rfl,⟨l1,hA,rfl⟩|⟨c,l1,hB,rfl⟩,RA⟩
  ·have hm:W2.heap[W.heap.size+1]?=some (.loop (DR fn a.tmps ps.toArray assign body W.heap.size .ready none)):=RA.has (W.heap.size+1,_) (.head _);refine⟨none,_,run_endLoop (P:=P) hm (by simp[DR]),?_⟩;refine(N4 W.heap.size l1 hA).run {a with defers:=[Hw W.heap.size]++a.defers} _ ⟨hf.size,hf.at_⟩ (by rw[<-hds];rfl) ?_;exact(RA.upd .here).tail
  ·have hm:W2.heap[W.heap.size+1]?=some (.loop (DR fn a.tmps ps.toArray assign body W.heap.size .done (some c))):=RA.has (W.heap.size+1,_) (.head _);refine⟨some c,_,run_endLoop (P:=P) hm (by simp[DR]),?_⟩;refine(KE W.heap.size c l1 hB).run {a with defers:=[Hw W.heap.size]++a.defers} _ ⟨hf.size,hf.at_⟩ (by rw[<-hds];rfl) ?_;exact(RA.upd .here).tail
structure Zu(P:Program)(gf:Nat)(lb:Ap)(enc:α->Ap)(C:Ac)(Out:List α->Ac->Prop):Prop where
 run: ∀(r:Nat) (I:List α->Ac->Prop),(∀pre x l X,pre.length<=3->I pre l->Oa P r (enc x) (l++X) (λv l'=> ∃l1,v= .bool true/\I (pre++[x]) l1/\l'=l1++X))->
  ∀l,I [] l->Fn P gf (.func (.yield r) #[] #[]::lb) (l++C) (λv l'=> ∃xs l1 C',I xs l1/\Out xs C'/\l'=l1++C')
theorem n8(hg:ev fr g=some (.func (.func gf) #[] lb.toArray))[en:EN P gf]{C:Ac}{Out:List α->Ac->Prop}(hit:Zu P gf lb enc C Out)(NO: ∀x,(enc x).length=ps.length)(jI:ps.all (λp=>Nat.blt p N)=true)
 (I:List α->Ac->Prop)(l0:Ac)(hL:Keep L (l0++C))(h0:I [] l0)
 (M0: ∀(E:World) (r:Nat) (FU:LoopState->Option Code->Loop) (pre:List α) (x:α) (l T:Ac),(∃fn tmps D,FU=DR fn tmps ps.toArray assign body D)->pre.length<=3->I pre l->
   BR P (some r) N E assign (Exit.then (PI P r body (roundPost P r (RK E (Kz I (λ_ _ _=>False) (pre++[x]) r FU T)))) (λ_ _ _=>False)) (DX ps (enc x) fr) [] (l++(r,.loop (FU .ready none))::T))
 (N4: ∀(D:Nat) (xs:List α) (l C':Ac),I xs l->Out xs C'->C0 N E Q .normal fr (Hw D::ds) (Cr D::(l++C'))):
 BR P none N E (.rangeFunc g ps.toArray assign body) Q fr ds L:=by
 refine Em hL (Zt hg (λl1=> ∃xs l C',I xs l/\Out xs C'/\l1=l++C') (λ_ _=>False) ?_ ?_ λD c l h=>h.elim)
 ·intro r fn tmps D hf;have hy:=hit.run r (λpre l=> ∃l1,I pre l1/\l=l1++[UB r fn tmps ps assign body D .ready none,Cr D]) (λpre x l X h3 ⟨l1,h1,h2⟩=>by
   subst h2;have hy:=Tm (P:=P) (N:=N) (fr:=fr) (assign:=assign) (body:=body) (ps:=ps) (enc:=enc) (r:=r) (fn:=fn) (tmps:=tmps) (D:=D) (T:=Cr D::X) (I:=I) (Ix:=λ_ _ _=>False) (pre:=pre) (x:=x) (l:=l1) (NO x) jI hf (λE'=>M0 E' r _ pre x l1 (Cr D::X) ⟨fn,tmps,D,rfl⟩ h3 h1);refine⟨λE' W' hs'=>?_⟩;have e:l1++[UB r fn tmps ps assign body D .ready none,Cr D]++X=l1++UB r fn tmps ps assign body D .ready none::Cr D::X:=by simp
   rw[e] at hs';obtain⟨fn',tm,asg,bo,k1,k2⟩:=hy.run E' W' hs';refine⟨fn',tm,asg,bo,k1,k2.mono ?_⟩;rintro e' W'' ⟨v,l',rfl,hk,hs''⟩;refine⟨v,l',rfl,?_,hs''⟩;rcases hk with⟨hv,l2,hI,rfl⟩|⟨hv,c,l2,hI,rfl⟩
   ·exact⟨l2++[UB r fn tmps ps assign body D .ready none,Cr D],hv,⟨l2,hI,rfl⟩,by simp⟩
   ·exact hI.elim) (l0++[UB r fn tmps ps assign body D .ready none,Cr D]) ⟨l0,h0,rfl⟩
  refine Fn.re (.of_perm ?_) hy λv l' ⟨xs,l1,C',⟨l2,h1,h2⟩,h3,h4⟩=>⟨UB r fn tmps ps assign body D .ready none::Cr D::(l2++C'),.of_perm ?_,.inl ⟨_,⟨xs,l2,C',h1,h3,rfl⟩,rfl⟩⟩
  ·exact(Ja C (Ej (l₁:=[UB r fn tmps ps assign body D .ready none,Cr D]) (l₂:=l0)))
  ·subst h4 h2;exact(Ja C' (Ej (l₁:=l2) (l₂:=[UB r fn tmps ps assign body D .ready none,Cr D])))
 ·rintro D l ⟨xs,l1,C',h1,h2,rfl⟩;exact N4 D xs l1 C' h1 h2
structure vF(P:Program)(gf:Nat)(lb:Ap)(enc:α->Ap)(Nx:List α->Option α->Ac->Prop):Prop where
 run: ∀(r:Nat) (I:Nat->List α->Option α->Ac->Prop) (Ix:List α->Ac->Prop),(∀m pre o l X,I m pre o l->Nx pre o (l++X))->
  (∀m pre x l X,I m pre (some x) l->Oa P r (enc x) (l++X) (λv l'=> ∃l1,l'=l1++X/\((v= .bool true/\ ∃m' o,m'<m/\I m' (pre++[x]) o l1)\/(v= .bool false/\Ix (pre++[x]) l1))))->
  ∀m o l X,I m [] o l->Fn P gf (.func (.yield r) #[] #[]::lb) (l++X) (λv l'=> ∃l1,l'=l1++X/\((∃m xs,I m xs none l1)\/ ∃pre,Ix pre l1))
theorem n9(hg:ev fr g=some (.func (.func gf) #[] lb.toArray))[en:EN P gf]{Nx:List α->Option α->Ac->Prop}(hit:vF P gf lb enc Nx)(NO: ∀x,(enc x).length=ps.length)(jI:ps.all (λp=>Nat.blt p N)=true)
 (I:Nat->List α->Option α->Ac->Prop)(Ix:Code->List α->Ac->Prop)(l0:Ac){m0:Nat}{o0:Option α}(Wx: ∀m pre o l X,I m pre o l->Nx pre o (l++X))(hL:Keep L l0)(h0:I m0 [] o0 l0)
 (M0: ∀(E:World) (r:Nat) (FU:LoopState->Option Code->Loop) (m:Nat) (pre:List α) (x:α) (l T:Ac),(∃fn tmps D,FU=DR fn tmps ps.toArray assign body D)->I m pre (some x) l->
   BR P (some r) N E assign (Exit.then (PI P r body (roundPost P r (RK E (Kz (λxs l=> ∃m' o,m'<m/\I m' xs o l) Ix (pre++[x]) r FU T)))) (λ_ _ _=>False)) (DX ps (enc x) fr) [] (l++(r,.loop (FU .ready none))::T))
 (N4: ∀(D:Nat) (m:Nat) (xs:List α) (l:Ac),I m xs none l->C0 N E Q .normal fr (Hw D::ds) (Cr D::l))
 (KE: ∀(D:Nat) (c:Code) (pre:List α) (l:Ac),Ix c pre l->BR P none N E c Q fr (Hw D::ds) (Cr D::l)):
 BR P none N E (.rangeFunc g ps.toArray assign body) Q fr ds L:=by
 refine Em hL (Zt hg (λl1=> ∃m xs,I m xs none l1) (λc l1=> ∃pre,Ix c pre l1) ?_ ?_ ?_)
 ·intro r fn tmps D hf;have hy:=hit.run r (λm pre o l=> ∃l1,I m pre o l1/\l=l1++[UB r fn tmps ps assign body D .ready none,Cr D]) (λpre l=> ∃c l1,Ix c pre l1/\l=l1++[UB r fn tmps ps assign body D .done (some c),Cr D]) (λm pre o l X ⟨l1,h1,h2⟩=>by rw[h2,Am];exact Wx _ _ _ _ _ h1) (λm pre x l X ⟨l1,h1,h2⟩=>by
   subst h2;have hy:=Tm (P:=P) (N:=N) (fr:=fr) (assign:=assign) (body:=body) (ps:=ps) (enc:=enc) (r:=r) (fn:=fn) (tmps:=tmps) (D:=D) (T:=Cr D::X) (I:=λxs l=> ∃m' o,m'<m/\I m' xs o l) (Ix:=Ix) (pre:=pre) (x:=x) (l:=l1) (NO x) jI hf (λE'=>M0 E' r _ m pre x l1 (Cr D::X) ⟨fn,tmps,D,rfl⟩ h1);refine⟨λE' W' hs'=>?_⟩;have e:l1++[UB r fn tmps ps assign body D .ready none,Cr D]++X=l1++UB r fn tmps ps assign body D .ready none::Cr D::X:=by simp
   rw[e] at hs';obtain⟨fn',tm,asg,bo,k1,k2⟩:=hy.run E' W' hs';refine⟨fn',tm,asg,bo,k1,k2.mono ?_⟩;rintro e' W'' ⟨v,l',rfl,hk,hs''⟩;refine⟨v,l',rfl,?_,hs''⟩;rcases hk with⟨hv,l2,⟨m',o,hm,hI⟩,rfl⟩|⟨hv,c,l2,hI,rfl⟩
   ·exact⟨l2++[UB r fn tmps ps assign body D .ready none,Cr D],by simp,.inl ⟨hv,m',o,hm,l2,hI,rfl⟩⟩
   ·exact⟨l2++[UB r fn tmps ps assign body D .done (some c),Cr D],by simp,.inr ⟨hv,c,l2,hI,rfl⟩⟩) m0 o0 (l0++[UB r fn tmps ps assign body D .ready none,Cr D]) [] ⟨l0,h0,rfl⟩
  refine Fn.re (.of_perm ?_) hy ?_
  ·rw[Bj];exact Ej (l₁:=[UB r fn tmps ps assign body D .ready none,Cr D]) (l₂:=l0)
  rintro v l' ⟨l1,rfl,⟨m,xs,l2,h1,rfl⟩|⟨pre,c,l2,h1,rfl⟩⟩
  ·refine⟨UB r fn tmps ps assign body D .ready none::Cr D::l2,.of_perm ?_,.inl ⟨l2,⟨m,xs,h1⟩,rfl⟩⟩;rw[Bj];exact Ej (l₁:=l2) (l₂:=[UB r fn tmps ps assign body D .ready none,Cr D])
  ·refine⟨UB r fn tmps ps assign body D .done (some c)::Cr D::l2,.of_perm ?_,.inr ⟨c,l2,⟨pre,h1⟩,rfl⟩⟩;rw[Bj];exact Ej (l₁:=l2) (l₂:=[UB r fn tmps ps assign body D .done (some c),Cr D])
 ·rintro D l ⟨m,xs,h1⟩;exact N4 D m xs l h1
 ·rintro D c l ⟨pre,h1⟩;exact KE D c pre l h1
end
section
variable{fr:Fr}{l:Ac}{K:Value->Ac->Prop}{d:Option Nat}{aft:Array Edge}
theorem s7{f:Nat}{xs:List Operand}{vs cs:Ap}{at_:Array TypeId}(hx:ev fr x=some (.func (.func f) #[] (toArray cs)))(hy:Sd fr xs=some vs)[c:EN P f](h:Fn P f (vs++cs) l K):OpE P ro N fr l ⟨d,.call {callee:= .value x,args:=xs.toArray,argTypes:=at_},ty,pos,aft,g⟩ K:=Dn hx hy (by simpa using h)
end
def Mf(i j:Int):Int:=IntKind.i64.wrap (((BitVec.ofInt 64 i)&&& (BitVec.ofInt 64 j)).toNat:Int)
theorem KV{fr:Fr}{R:Ac}{d:Option Nat}{t2 t:TypeId}{aft:Array Edge}{y:Operand}{i j:Int}(hx:ev fr x=some (.int .i64 i))(hy:ev fr y=some (.int .i64 j)):OpQ P ro N fr R ⟨d,.binOp .and t x y t2,ty,pos,aft,g⟩ (.int .i64 (Mf i j)):=
 IV hx hy (λ_ _=>De _ _ _ _ _) (by simp only[binOp,Op.intBits];rfl)
end Go.Proofs.YtlifcingifodfaaGreat
namespace Go.Proofs.YtlifcingifodfaaGreat
open Tryz
open List(toArray)
open Go.RowKit Go.Lib
section
variable{P:Program}{ro:Option Nat}{N:Nat}{fr:Fr}{l:Ac}{d:Option Nat}{ty:TypeId}{pos:String}{aft:Array Edge}{g:Option (Nat×Bool)}
theorem iZ{R:Ac}{s x:Operand}{p q:Option Addr}{T e kk yb n cap cp:Nat}(hs:ev fr s=some (.slice p n cap))(hx:ev fr x=some (.slice q 0 cp))[c:ST P T e kk yb](hn:n<=cap):
 OpQ P ro N fr R ⟨d,.call {callee:= .builtin .append,args:=#[s,x],argTypes:=#[T,T]},ty,pos,aft,g⟩ (.slice p n cap):=BN rfl λρ l hρ _=>by
 obtain⟨Hv,u1,u2,_⟩:=E8 c.out;simp only[execOp,resolve,AB,Bn,invoke,builtin,Dj,AJ,CX,hρ s _ hs,hρ x _ hx];unfold Builtin.append_;simp only[AE,Dc,Db,AB];rw[E1 u1];simp only;rw[E2 u2];simp only[AB];rw[E1 u1];simp only[Bn,Bm,C6,Builtin.lenOf,Hp,CS,CV,Ad hn,AB,Builtin.firstCells];cases q with
 |none=>
  cases p with
  |none=>exact⟨rfl,rfl⟩
  |some a=>exact⟨rfl,rfl⟩
 |some a'=>
  simp only[GO,loadCells,loadCellsFrom,Bn];cases p with
  |none=>exact⟨rfl,rfl⟩
  |some a=>exact⟨rfl,rfl⟩
end
end Go.Proofs.YtlifcingifodfaaGreat
namespace Go.Proofs.YtlifcingifodfaaGreat
open Tryz
open List(toArray)
open Go.RowKit
variable{k N F C b e n i j gf:Nat}{a c:Bd}{P:Program}{ro:Option Nat}{S:KT}{p:RP}{s:RL}{G A T L:Ac}{v:Value}{E:World}{Q:Exit->Act->World->Prop}{ds:List Deferred}{x:Cs}{ty:TypeId}{pos:String}{xs lb:Ap}{Γ:Ac->Ac}{g:Option (Nat×Bool)}{ops:Array Oper}{Fm:Th.ThT->Th.ThT}{ys:List Cs}{H:HS}
theorem Rv{fr:Fr}{F:Ac}{d:Option Nat}{aft:Array Edge}{s x:Operand}{vx:Value}{T yb m:Nat}{ys zs:Ap}{cs cw:Ac}(hs:ev fr s=some v)(hx:ev fr x=some vx)[c:ST P T e k yb][cz:ZV P e zs](R8:zs.length=k)(ho:OwnSl e k v n xs cs)(Fg:OwnSl e k vx m ys cw)(h1: ∀u∈ys,u.oneCell'=true)(hn:n<=1000000)(hm:m<=1000000)(du:yb<=1000):
 OpE P ro N fr (cs++(cw++F)) ⟨d,.call {callee:= .builtin .append,args:=#[s,x],argTypes:=#[T,T]},ty,pos,aft,g⟩ (λv' l'=> ∃c2,OwnSl e k v' (n+m) (xs++ys) c2/\l'=c2++(cw++F)):=by
 have hb:(n+m)*yb<=140737488355328:=by have:=Jc (show n+m<=2000000 by omega) du;omega
 by_cases h0:m=0
 ·subst h0;obtain⟨pp,cap,hv⟩:=ho.shape;obtain⟨p2,cap2,hv2⟩:=Fg.shape;subst hv hv2;have LQ:n<=cap:=by
   rcases ho.2 with⟨e1,e2,_⟩|⟨b,c2,sp,e1,_,e2,_⟩
   ·omega
   ·cases e1;exact e2
  have hy:ys=[]:=Ef (by rw[Fg.1,GO]);subst hy;have hq:=iZ (P:=P) (ro:=ro) (N:=N) (R:=[]) (d:=d) (ty:=ty) (pos:=pos) (aft:=aft) (g:=g) (T:=T) hs hx LQ;refine(hq.run (cs++(cw++F)) λc hc=>by cases hc).mono ?_;rintro _ _ ⟨rfl,rfl⟩;exact⟨cs,by rw[Bj];exact ho,rfl⟩
 ·obtain⟨hl,⟨_,h2,_⟩|⟨b,cap,sp,rfl,rfl,h3,h4,h5⟩⟩:=Fg
  ·exact absurd h2 h0
  exact GG (k:=k) (yb:=yb) (news:=ys) (zs:=zs) (m:=m) hs hx R8 ho (Aa _ (.head _)) (λj u hj=>by rw[BF,AE];rw[AH (Ay.1 hj).1];exact hj) hl h1 (by unfold maxLen;omega) hb
theorem UC{l:Ac}(ha:a∈l): ∀x,x∈[a]->x∈l:=by intro x hx;rw[AC.1 hx];exact ha
theorem jY{b:Bd}{l:Ac}(ha:a∈l)(hb:b∈l): ∀x,x∈[a,b]->x∈l:=by
 intro x hx;simp only[At,BQ,EE] at hx;rcases hx with rfl|rfl
 ·exact ha
 ·exact hb
def yz:Code->Nat
 | .skip=>0
 | .region ..=>1
 | .seq ..=>3
 | .cond ..=>4
 | .block ..=>5
 | .loop ..=>6
 | .rangeFunc ..=>7
 | .exit ..=>8
 | .scope ..=>9
 | .label ..=>10
 |_=>11
def sqA:Code->Code
 | .seq a _=>a
 |c=>c
def sqB:Code->Code
 | .seq _ b=>b
 |c=>c
def cnT:Code->Code
 | .cond _ a _=>a
 |c=>c
def cnE:Code->Code
 | .cond _ _ b=>b
 |c=>c
def cnO:Code->Operand
 | .cond o _ _=>o
 |_=> .tmp 0
def cnM:Code->Nat
 | .cond (.tmp t) _ _=>t
 |_=>0
def bkC:Code->Code
 | .block _ x=>x
 | .loop x=>x
 | .scope x=>x
 |c=>c
def bkI:Code->Nat
 | .block k _=>k
 |_=>0
def rfG:Code->Operand
 | .rangeFunc g _ _ _=>g
 |_=> .tmp 0
def rfP:Code->List Tmp
 | .rangeFunc _ ps _ _=>ps.toList
 |_=>[]
def rfA:Code->Code
 | .rangeFunc _ _ a _=>a
 |c=>c
def rfB:Code->Code
 | .rangeFunc _ _ _ b=>b
 |c=>c
section
variable{c:Code}{fr:Fr}{l:Ac}
theorem yA(hc:yz c=3)(h:BR P ro N E (sqA c) (Exit.then ((sqB c).wpIn (Fw ro) 0 P Q) Q) fr ds l):BR P ro N E c Q fr ds l:=by cases c<;>first|exact dD h|cases hc
theorem oa(hc:yz c=5)(h:BR P ro N E (bkC c) (Exit.inBlock (bkI c) Q) fr ds l):BR P ro N E c Q fr ds l:=by cases c<;>first|exact P7 h|cases hc
theorem od(hc:yz c=7)(h:BR P ro N E (.rangeFunc (rfG c) (rfP c).toArray (rfA c) (rfB c)) Q fr ds l):BR P ro N E c Q fr ds l:=by cases c<;>first|exact h|cases hc
theorem oe(hc:yz c=4)(hv:ev fr (cnO c)=some (.bool true))(h:BR P ro N E (cnT c) Q fr ds l):BR P ro N E c Q fr ds l:=by cases c<;>first|exact Mz hv h|cases hc
theorem og(hc:yz c=4)(hv:ev fr (cnO c)=some (.bool false))(h:BR P ro N E (cnE c) Q fr ds l):BR P ro N E c Q fr ds l:=by cases c<;>first|exact MA hv h|cases hc
theorem yB{p:Prop}{ip:Decidable p}(hc:yz c=4)(ho:cnO c= .tmp (cnM c))(hv:BZ fr (cnM c)=some (.bool (@decide p ip)))(hp:p)(h:BR P ro N E (cnT c) Q ((cnM c,.bool true)::fr) ds l):BR P ro N E c Q fr ds l:=by
 cases c with
 |cond o a b=>simp only[cnO] at ho;rw[ho];exact Tk hv hp h
 |_=>cases hc
theorem yC{p:Prop}{ip:Decidable p}(hc:yz c=4)(ho:cnO c= .tmp (cnM c))(hv:BZ fr (cnM c)=some (.bool (@decide p ip)))(hp:¬p)(h:BR P ro N E (cnE c) Q ((cnM c,.bool false)::fr) ds l):BR P ro N E c Q fr ds l:=by
 cases c with
 |cond o a b=>simp only[cnO] at ho;rw[ho];exact Tl hv hp h
 |_=>cases hc
theorem Zv{f:FuncId}{fn:Func}{args:Ap}{K:Value->Ac->Prop}(hf:P.funcs[f]?=some fn)(hb:fn.body.isSome=true)(hn:Nat.ble args.length fn.ntmps=true)
 (h: ∀E,BR P none fn.ntmps E (fn.body.getD .skip) (bodyPostM Fence.wide 0 P fn (RK E K)) (WD 0 args) [] l):Fn P f args l K:=by
 cases Ww:fn.body with
 |none=>rw[Ww] at hb;cases hb
 |some c=>exact Tg hf Ww hn (by rw[Ww] at h;exact h)
end
theorem LK{H G:Prop}(k:H)(h:Bx H->G:=by(intro k;(repeat(first|(show DA _ _ _ _ _ _ (_::_) _ _ _;first|refine ozq ?_|refine ozs ?_|refine ozs0 ?_|refine ozt ?_|refine ozf ?_|refine xk rfl rfl rfl rfl rfl rfl ?_|refine ozn ?_)|refine yA rfl ?_|refine Ob ?_|refine P8 ?_|refine Vt ?_|refine oe rfl rfl ?_|refine og rfl rfl ?_|refine oa rfl ?_|refine WE ?_|refine Te ?_|refine Qa ?_|refine LS ?_|refine Ji ?_|refine M8 rfl ?_|refine dE ?_|refine M7 ?_|refine LT ?_|refine c_scopeP rfl ?_|refine Sq ?_|refine Sr ?_|refine LU ?_|refine p_scope_exit ?_|refine dG ?_|refine yB rfl rfl rfl Af ?_|refine yC rfl rfl rfl Af ?_));exact k.h)):G:=h ⟨k⟩
set_option maxRecDepth 20000
section
variable{Q':Exit->Act->World->Prop}{c:Code}{fr:Fr}{l:Ac}{e:Exit}
theorem yD(h: ∀Q',(∀e a W,Q e a W->Q' e a W)->BR P ro N E c Q' fr ds l):BR P ro N E c Q fr ds l:=h Q λ_ _ _ h=>h
theorem Acb(hQ: ∀e a W,Q e a W->Q' e a W)(h:C0 N E Q e fr ds l):C0 N E Q' e fr ds l:=⟨λa W h1 h2 h3=>hQ _ _ _ (h.run a W h1 h2 h3)⟩
end
theorem SU{cs:Ac}(h:OwnSl e k v n xs cs):v.oneCell'=true:=by obtain⟨_,_,h⟩:=h.shape;rw[h];rfl
theorem Wk{b:Bd}{l:Ac}(ha:a∈l)(hb:b∈l)(hc:c∈l): ∀x,x∈[a,b,c]->x∈l:=by
 intro x hx;simp only[At,BQ,EE] at hx;rcases hx with rfl|rfl|rfl
 ·exact ha
 ·exact hb
 ·exact hc
section
theorem Hi{cs:Ac}(hT:Tail L (cs++G)): ∃L',Tail L' G/\(Ax b p s S L).Perm (cs++Ax b p s S L'):=by obtain⟨X,rfl⟩:=hT;exact⟨X++G,⟨X,rfl⟩,by unfold Ax;exact BX⟩
instance:QF prog 143 [pV b] [CF b p] (pV p.h):=⟨λl hl=>DZ b p l (hl _ (.head _))⟩
instance:EK prog F C b p 72 [pV b] k S k (.tuple #[]) (Js S):=⟨λs G h=>nS h⟩
instance:QF prog 262 [pV b] [CF b p] (pV p.e):=⟨λl hl=>Wa b p l (hl _ (.head _))⟩
variable{fr:Fr}{l R:Ac}{x0:Value}{d f k':Nat}{x:Operand}{xs:List Operand}{vs:Ap}{at_:Array TypeId}{aft:Array Edge}{S':KT}{tbl:List (List Nat)}{pl:List BG}
theorem pek(hR: ∀S1 s' L,∀c,c∈R->c∈Γ (Ax b p s' S1 L))(hk: ∀S1 s' L,S1=S'->IsK F C k' S1 p s'->Tail L G->CF b p∈Ax b p s' S1 L->PlanS P ro N E ops Q R tbl none [] pl ((d,x0)::fr) ds (Γ (Ax b p s' S1 L)))(hx:ev fr x=some (.func (.func f) #[] #[]):=by rfl)(hy:Sd fr xs=some vs:=by rfl)(hF:Fr1 (Ax b p s S G) l Γ:=by exact eJ)(c:EN P f:=by infer_instance)(hK:IsK F C k S p s:=by infer_instance)(q:EK P F C b p f vs k S k' x0 S':=by infer_instance)(hb:Nat.blt d N=true:=by rfl):PlanS P ro N E ops Q R tbl none [] ((i,false,⟨some d,.call {callee:= .value x,args:=xs.toArray,argTypes:=at_},ty,pos,aft,none⟩)::pl) fr ds l:=
 CM (Az hx hy (q.on hK hF)) rfl rfl hb (λv l' ⟨h1,s',L,h2,h3,h4⟩ c hc=>by rw[h4];exact hR S' s' L c hc) λv l' ⟨h1,s',L,h2,h3,h4⟩=>by rw[h1,h4];exact hk S' s' L rfl h2 h3 (mR λ_ h=>h)
theorem Afj{dj:Nat}{oj:Oper}{w:Bool}(hR: ∀S1 s' L,∀c,c∈R->c∈Γ (Ax b p s' S1 L))(hk: ∀S1 s' L,S1=S'->IsK F C k' S1 p s'->Tail L G->CF b p∈Ax b p s' S1 L->PlanS P ro N E ops Q R tbl none [] pl ((d,x0)::fr) ds (Γ (Ax b p s' S1 L)))(hx:ev fr x=some (.func (.func f) #[] #[]):=by rfl)(hy:Sd fr xs=some vs:=by rfl)(hF:Fr1 (Ax b p s S G) l Γ:=by exact eJ)(c:EN P f:=by infer_instance)(hK:IsK F C k S p s:=by infer_instance)(q:EK P F C b p f vs k S k' x0 S':=by infer_instance)(hb:Nat.blt d N=true:=by rfl)(hj:ops[j]?=some oj:=by rfl)(Ld:oj.dst=some dj:=by rfl)(hbg:BZ fr dj=some (.bool w):=by rfl):PlanS P ro N E ops Q R tbl none [] ((i,false,⟨some d,.call {callee:= .value x,args:=xs.toArray,argTypes:=at_},ty,pos,aft,some (j,w)⟩)::pl) fr ds l:=
 Abp (Az hx hy (q.on hK hF)) rfl hj Ld hbg rfl hb (λv l' ⟨h1,s',L,h2,h3,h4⟩ c hc=>by rw[h4];exact hR S' s' L c hc) λv l' ⟨h1,s',L,h2,h3,h4⟩=>by rw[h1,h4];exact hk S' s' L rfl h2 h3 (mR λ_ h=>h)
end
theorem Acc{l:Ac}: ∀c,c∈([]:Ac)->c∈l:=λ_ h=>nomatch h
theorem yE{l:Ac}(h1:a∈l)(h2: ∀c,c∈A->c∈l): ∀c,c∈a::A->c∈l:=λc hc=>by
 rcases At.1 hc with rfl|hc
 ·exact h1
 ·exact h2 c hc
theorem zIn{l:Ac}(h: ∀c,c∈A->c∈l:=by(repeat(first|exact Acc|(apply yE;·exact BW)))): ∀c,c∈A->c∈l:=h
structure oh(P:Program)(g:Nat)(lb:Ap)(A:Ac)(Fm:Th.ThT->Th.ThT):Prop where
 run: ∀(x:Nat) (t:Th.ThT) (l:Ac),(∀c,c∈A->c∈l)->Fn P g (pV x::lb) (Th.thC x t::l) λv l'=>v= .tuple #[]/\l'=Th.thC x (Fm t)::l
section
theorem Acd(hK:IsK F C k S p s)(id:Int){g:Nat}[en:EN prog g](q:oh prog g lb A Fm)(hw:TW (Fm (Dq S id)))(hA: ∀c,c∈A->c∈G):Fn prog 265 [pV b,.int .i64 id,.func (.func g) #[] (toArray lb)] (Ax b p s S G) (KK F C b p k (Th.thV (Fm (Dq S id))) (DD S (Fm (Dq S id))) G):=by
 have mr:CF b p∈Ax b p s S G:=mR λ_ h=>h;refine AN func265 ntmps265 λE=>?_;refine AQ λb6=>?_;refine EM ?_;refine Aj ?_;refine EM ?_;obtain⟨t,ht⟩: ∃t,Dq S id=t:=⟨_,rfl⟩
 rw[ht] at hw⊢;refine AQ λb7=>?_;obtain⟨u,hu⟩: ∃u,Fm t=u:=⟨_,rfl⟩
 refine AS (s7 (vs:=[pV b7]) (cs:=lb) rfl rfl (q.run b7 t _ λc hc=> .tail _ (mG (λ_ h=>h) c (hA c hc)))) ?_;rintro _ _ ⟨rfl,rfl⟩;rw[hu] at hw⊢;refine Aj ?_;refine CA (Cu [3] 0 4) ?_;refine CE ?_;refine MX (q:=OM u hw) ?_;intro S1 s1 L1 EG EC DO GQ;refine CE ?_;refine Aj ?_;exact A9 (h:=Cq rfl (.tail _ (.head _)) (As.LSub.of_all (n:=24) (Th.encH u) rfl) .nil)
variable{A3:List Oper}{fr:Fr}{l:Ac}{d:Nat}{x:Operand}{xs:List Operand}{at_:Array TypeId}{aft:Array Edge}
theorem Vi{id:Int}[en:EN prog gf](q:oh prog gf lb A Fm)(hw:TW (Fm (Dq S id)))(hk: ∀S1 s' L,S1=DD S (Fm (Dq S id))->IsK F C k S1 p s'->Tail L G->CF b p∈Ax b p s' S1 L->DA prog ro N E ops Q A3 ((d,Th.thV (Fm (Dq S id)))::fr) ds (Γ (Ax b p s' S1 L)))
 (hx:ev fr x=some (.func (.func 265) #[] #[]):=by rfl)(hy:Sd fr xs=some [pV b,.int .i64 id,.func (.func gf) #[] (toArray lb)]:=by rfl)(hF:Fr1 (Ax b p s S G) l Γ:=by exact eJ)(hA: ∀c,c∈A->c∈Γ []:=by exact zIn)(hK:IsK F C k S p s:=by infer_instance)(hw':Rb ops fr g=some true:=by rfl)(hb:Nat.blt d N=true:=by rfl):
 DA prog ro N E ops Q (⟨some d,.call {callee:= .value x,args:=xs.toArray,argTypes:=at_},ty,pos,aft,g⟩::A3) fr ds l:=by
 obtain⟨B,rfl,hB⟩:=hF.eq;have hA2: ∀c,c∈A->c∈B++G:=λc hc=>Ai _ (by have:=hA c hc;rw[hB,Bj] at this;exact this);refine JB (Az hx hy (Fn.re (.of_perm (Fi b p s S B G)) (Acd (G:=B++G) hK id q hw hA2) (K':=λv l'=>v=Th.thV (Fm (Dq S id))/\ ∃s' L,IsK F C k (DD S (Fm (Dq S id))) p s'/\Tail L G/\l'=Γ (Ax b p s' (DD S (Fm (Dq S id))) L)) λv l' ⟨h1,s',L,h2,⟨X,h3⟩,h4⟩=>⟨Γ (Ax b p s' (DD S (Fm (Dq S id))) (X++G)),?_,h1,s',_,h2,⟨X,rfl⟩,rfl⟩)) hw' rfl hb λv l' ⟨h1,s',L,h2,h3,h4⟩=>by rw[h1,h4];exact hk _ s' L rfl h2 h3 (mR λ_ h=>h)
 rw[h4,h3,hB];exact .of_perm (Uh ..)
end
section
def HM(S:KT)(t Ck:Int):Th.ThT×Int:=if MY S t=false\/¬(Dq S t).st=1\/Ck<0\/4096<Ck then(Th.thZ,2) else(Dq S t,0)
theorem s8(hK:IsK F C k S p s)(t Ck:Int)(l:Ac)(hl: ∀c,c∈Ax b p s S G->c∈l):Fn prog 261 [pV b,.int .i64 t,.int .i64 Ck] l λv l'=>v= .tuple #[Th.thV (HM S t Ck).1,iV (HM S t Ck).2]/\l'=l:=by
 have mr:CF b p∈l:=mR hl;have I: ∀{f:Nat} {vs:Ap} {v:Value} [QF prog f vs (Ax b p s S G) v],QF prog f vs l v:=Z3 hl;unfold HM MY;refine AN func261 ntmps261 λE=>?_;refine AQ λb6=>?_;refine EM ?_;refine Aj ?_;refine EM ?_;obtain⟨u,hu⟩: ∃u,Dq S t=u:=⟨_,rfl⟩
 obtain⟨ok,Dm⟩: ∃q,(Th.findH S.T t).isSome=q:=⟨_,rfl⟩
 rw[hu,Dm];refine AQ λb8=>?_;by_cases h0:ok=false\/¬u.st=1\/Ck<0\/4096<Ck
 ·rw[Ad h0];cases ok<;>by_cases h1:u.st=1<;>by_cases h2:Ck<0<;>by_cases h3:4096<Ck;all_goals first
   |(exfalso;simp[h1,h2,h3] at h0;done)
   |(exfalso;omega)
   |(refine Aj ?_
     exact AU [] _ rfl .refl (Cq rfl (.tail _ (.head _)) (As.LSub.of_all (n:=24) (Th.encH Th.thZ) rfl) (by exact Ba)) (.drop (.drop .refl)) ⟨rfl,rfl⟩)
 rw[Ab h0];obtain⟨h1,h2,h3,h4⟩:ok=true/\u.st=1/\¬Ck<0/\¬4096<Ck:=by simp at h0;exact⟨h0.1,h0.2.1,Af,Af⟩
 subst h1;refine Aj ?_;exact AU [] _ rfl .refl (Cq rfl (.tail _ (.head _)) (As.LSub.of_all (n:=24) (Th.encH u) rfl) (by exact Ba)) (.drop (.drop .refl)) ⟨rfl,rfl⟩
instance[h:IsK F C k S p s]{t Ck:Int}:QF prog 261 [pV b,.int .i64 t,.int .i64 Ck] (Ax b p s S G) (.tuple #[Th.thV (HM S t Ck).1,iV (HM S t Ck).2]):=⟨λl hl=>s8 h t Ck l hl⟩
class AD(a:Int):Prop where
 out:a<18446744073709551616
instance[h:IsK F C k S p s]{id a:Int}[ha:AD a]:QF prog 159 [pV b,.int .i64 id,.int .i64 a] (Ax b p s S G) (.tuple #[F6 (H9 S id a).1,iV (H9 S id a).2]):=⟨λl hl=>x9 h id a ha.out l hl⟩
def QJ(S:KT)(t u:Th.ThT):Bool×KT:=
 if t.gv=4096\/u.inn=4096 then(false,S)
 else if(H9 S t.id t.gv).2=0/\(H9 S u.id u.inn).2=0 then(decide ((Gv S.H (H9 S t.id t.gv).1 (H9 S u.id u.inn).1 (Er (D5 S.H.1 (H9 S t.id t.gv).1) 7)).1=0),{S with H:=(Gv S.H (H9 S t.id t.gv).1 (H9 S u.id u.inn).1 (Er (D5 S.H.1 (H9 S t.id t.gv).1) 7)).2})
 else(false,S)
theorem s9(hK:IsK F C (k+1) S p s)(t u:Th.ThT)(ht:AD t.gv)(hu:AD u.inn):Fn prog 318 [pV b,Th.thV t,Th.thV u] (Ax b p s S G) (KK F C b p k (.bool (QJ S t u).1) (QJ S t u).2 G):=by
 have mr:CF b p∈Ax b p s S G:=mR λ_ h=>h;obtain⟨R,hR⟩: ∃R,QJ S t u=R:=⟨_,rfl⟩
 rw[hR];unfold QJ at hR;refine AN func318 ntmps318 λE=>?_;refine AQ λb4=>?_;refine AQ λb5=>?_;by_cases h0:t.gv=4096\/u.inn=4096
 ·rw[Ad h0] at hR;subst hR;by_cases h1:t.gv=4096<;>by_cases h2:u.inn=4096;all_goals first
   |(exfalso;omega)
   |(refine Aj ?_
     exact A9)
 rw[Ab h0] at hR;obtain⟨h1,h2⟩:¬t.gv=4096/\¬u.inn=4096:=by omega
 refine Aj ?_;refine EM ?_;obtain⟨q,hq⟩: ∃q,H9 S t.id t.gv=q:=⟨_,rfl⟩
 rw[hq] at hR⊢;refine AQ λb7=>?_;refine EM ?_;obtain⟨w,hw⟩: ∃q,H9 S u.id u.inn=q:=⟨_,rfl⟩
 rw[hw] at hR⊢;refine AQ λb9=>?_;by_cases h3:q.2=0/\w.2=0
 case neg=>
  rw[Ab h3] at hR;subst hR;by_cases h4:q.2=0<;>by_cases h5:w.2=0;all_goals first
   |(exfalso;exact h3 ⟨h4,h5⟩)
   |(refine IB ?_
     refine BM ?_;refine Aj ?_;exact A9)
 rw[Ad h3] at hR;subst hR;obtain⟨h4,h5⟩:=h3;refine Cm [11] 15 ([Wg b9 w.1,Wg b7 q.1,CF b p]) ?_ (hR:=(Wk BW BW BW));refine BM ?_;refine VI ?_;refine BM ?_;refine Afj ?_ ?_
 ·intro S2 s2 L2;have HV:CF b p∈Ax b p s2 S2 L2:=mR λ_ h=>h;exact Wk BW BW BW
 intro S2 s2 L2 hS2 FW FN HV;refine BM ?_;refine Aj ?_;exact A9
end
structure OP where
 a:Int
 b:Int
 c:Int
 d:Int
deriving DecidableEq
abbrev msC(m:OP):Ap:=[Be m.a,Be m.b,Be m.c,Be m.d]
abbrev qh(m:OP):Value:= .agg (toArray (msC m))
abbrev U0(B:Nat)(m:OP):Bd:=(B,.cells (toArray (msC m)) 55 (0,0))
abbrev u6B(B:Nat)(x:Int):Bd:=(B,.cells (toArray [Be x]) 34 (0,0))
structure Ia where
 th:Int
 co:Int
 va:Int
 ms:OP
 bd:Int
 got:Bool
 fk:Int
 fv:Int
 fw:Bool
deriving DecidableEq
abbrev Si(n:Ia):Ap:=[iV n.th,iV n.co,Be n.va,Be n.ms.a,Be n.ms.b,Be n.ms.c,Be n.ms.d,Be n.bd,.bool n.got,iV n.fk,Be n.fv,.bool n.fw]
abbrev fy(n:Ia):Value:= .agg (toArray (Si n))
abbrev Vj(B:Nat)(n:Ia):Bd:=(B,.cells (toArray (Si n)) 69 (0,0))
abbrev nsC(B:Nat)(v:Value):Bd:=(B,.cells (toArray [v]) 30 (0,0))
abbrev msZ:OP:=⟨0,0,0,0⟩
abbrev NL(t:Int):Ia:=⟨t,0,0,msZ,0,false,0,0,false⟩
abbrev vG(m:OP)(bd:Int)(got:Bool)(t:Th.ThT):Th.ThT:={t with m0:=m.a,m1:=m.b,m2:=m.c,m3:=m.d,bd:=bd,got:=got,inn:=4096,wa:=0}
theorem ol(b1 b2 b3:Nat)(m:OP)(bd:Int)(got:Bool):oh prog 319 [pV b1,pV b2,pV b3] [U0 b1 m,u6B b2 bd,XO b3 got] (vG m bd got):=by refine⟨λx t l hA=>?_⟩;have n1:U0 b1 m∈l:=hA _ (.head _);have n2:u6B b2 bd∈l:=hA _ (.tail _ (.head _));have n3:XO b3 got∈l:=hA _ (.tail _ (.tail _ (.head _)));refine AN func319 ntmps319 λE=>?_;refine Aj ?_;refine Cm [10,13,16,19,22] 23 (l) ?_ (hR:=(λc hc=> .tail _ hc));refine BM ?_;exact E3
theorem Wl(b1:Nat)(u:Int):oh prog 320 [pV b1] [BS b1 u] (λt=>{t with ca:=u}):=by refine⟨λx t l hA=>?_⟩;have n1:BS b1 u∈l:=hA _ (.head _);refine AN func320 ntmps320 λE=>?_;exact E3
abbrev fA(m:OP)(c:CapT)(gv:Int)(cl:Bool)(t:Th.ThT):Th.ThT:={t with o0:=m.a,o1:=m.b,o2:=m.c,o3:=m.d,ob:=c.badge,gv:=gv,cl:=cl,wa:=c.obj}
theorem om(b1 b2 b3 b4:Nat)(m:OP)(c:CapT)(gv:Int)(cl:Bool):oh prog 266 [pV b1,pV b2,pV b3,pV b4] [U0 b1 m,Bz b2 c,BS b3 gv,XO b4 cl] (fA m c gv cl):=by refine⟨λx t l hA=>?_⟩;have n1:U0 b1 m∈l:=hA _ (.head _);have n2:Bz b2 c∈l:=hA _ (.tail _ (.head _));have n3:BS b3 gv∈l:=hA _ (.tail _ (.tail _ (.head _)));have n4:XO b4 cl∈l:=hA _ (.tail _ (.tail _ (.tail _ (.head _))));refine AN func266 ntmps266 λE=>?_;refine Aj ?_;refine Cm [14,17,20,23,26] 27 (l) ?_ (hR:=(λc hc=> .tail _ hc));refine BM ?_;exact E3
theorem i4:oh prog 270 [] [] (λt=>{t with cl:=true}):=by refine⟨λx t l hA=>?_⟩;refine AN func270 ntmps270 λE=>?_;exact E3
theorem oq(b1:Nat)(u:Int):oh prog 274 [pV b1] [BS b1 u] (λt=>{t with inn:=u}):=by refine⟨λx t l hA=>?_⟩;have n1:BS b1 u∈l:=hA _ (.head _);refine AN func274 ntmps274 λE=>?_;exact E3
theorem ou(b1:Nat)(c:CapT):oh prog 275 [pV b1] [Bz b1 c] (λt=>{t with wa:=c.obj}):=by refine⟨λx t l hA=>?_⟩;have n1:Bz b1 c∈l:=hA _ (.head _);refine AN func275 ntmps275 λE=>?_;exact E3
theorem i5:oh prog 277 [] [] (λt=>{t with wa:=0,o0:=0,o1:=0,o2:=0,o3:=0,ob:=0,gv:=4096}):=by refine⟨λx t l hA=>?_⟩;refine AN func277 ntmps277 λE=>?_;refine Aj ?_;refine Bh (GT (zs:=[.int .u64 0,.int .u64 0,.int .u64 0,.int .u64 0]) (cs:=[.int .u64 0,.int .u64 0,.int .u64 0,.int .u64 0]) rfl rfl) ?_;exact E3
theorem i6:oh prog 278 [] [] (λt=>{t with ca:=0}):=by refine⟨λx t l hA=>?_⟩;refine AN func278 ntmps278 λE=>?_;exact E3
def OQ(m:OP)(t:Th.ThT):Th.ThT:=if t.fa=true then{t with fa:=false} else{t with cl:=false,m0:=m.a,m1:=m.b,m2:=m.c,m3:=m.d,bd:=0,got:=false}
theorem cG(b1:Nat)(m:OP):oh prog 280 [pV b1] [U0 b1 m] (OQ m):=by
 refine⟨λx t l hA=>?_⟩;have n1:U0 b1 m∈l:=hA _ (.head _);unfold OQ;refine AN func280 ntmps280 λE=>?_;refine Aj ?_;cases hf:t.fa with
 |true=>rw[Ad rfl];exact E3
 |false=>rw[Ab AX];refine Aj ?_;refine Cm [7,10,13,16] 17 (l) ?_ (hR:=(λc hc=> .tail _ hc));refine BM ?_;refine Aj ?_;exact BE [] rfl .refl (by exact Ba) ⟨rfl,by rw[hf]⟩
theorem Afk{cs:Ac}:((a::cs)++c::T).Perm (a::c::(cs++T)):=List.Perm.cons _ AI
theorem Afl{b:Bd}{cs:Ac}:(a::b::c::(cs++T)).Perm (a::b::(cs++c::T)):=List.Perm.cons _ (List.Perm.cons _ AI.symm)
abbrev Fx(xs:List Ia):Ap:=xs.flatMap Si
theorem i7(xs:List Ia)(x:Ia):Fx (xs++[x])=Fx xs++Si x:=by simp[Fx]
theorem Rw{C:Ac}{Out:List Ia->Ac->Prop}[en:EN prog gf](hit:Zu prog gf lb (λn:Ia=>[fy n]) C Out):Fn prog 267 [.func (.func gf) #[] (toArray lb)] C λv l'=> ∃xs cs C',OwnSl 69 12 v xs.length (Fx xs) cs/\Out xs C'/\l'=cs++C':=by
 refine AN func267 ntmps267 λE=>?_;refine AQ λb3=>?_;refine n8 (α:=Ia) (ps:=[6]) (lb:=lb) rfl hit (λ_=>rfl) rfl (λpre l=> ∃v cs,OwnSl 69 12 v pre.length (Fx pre) cs/\l=nsC b3 v::cs) [nsC b3 (.slice none 0 0)] .refl ⟨_,[],OwnSl.nil _ _,rfl⟩ ?_ ?_
 ·rintro E r0 FU pre x l T ⟨fn,tmps,D,rfl⟩ h3 ⟨v,cs,ho,rfl⟩;refine Em (.of_perm Afk) ?_;simp only[DX];refine AQ λb4=>?_;refine CK (by exact DY) ?_;refine Em (.of_perm Afl) ?_;refine Aj ?_;refine AS (FE (ws:=Si x) (k:=12) rfl rfl rfl AX AX) ?_;rintro _ _ ⟨bz,_,rfl,rfl⟩;refine Aj ?_;refine AS (Hz (k:=12) (X:=[Vj b4 x,nsC b3 v]) (cs:=cs) (xs:=Fx pre) (n:=pre.length) (zs:=Si (NL 0)) (ws:=Si x) rfl rfl rfl ho rfl (by simp[Value.oneCell']) Af AX) ?_;rintro v2 _ ⟨NX,Fg,rfl⟩;simp only[Ae,Ag];have o2:=SU Fg;refine Aj ?_;refine Ci (nsC b3 v2::NX) (.drop .refl) ?_;exact⟨v2,NX,by rw[i7,Ah];exact Fg,rfl⟩
 ·rintro D xs l C' ⟨v,cs,ho,rfl⟩ hO;simp only[Ae];refine Aj ?_;exact AU (vs:=[v]) [D] _ rfl .refl (by exact Ba) (.drop .refl) ⟨xs,cs,C',ho,hO,rfl⟩
abbrev qi(bl:Nat)(v:Value):Bd:=(bl,.cells (toArray [v]) 491 (0,0))
abbrev lsC(gb:Nat)(ys:List Cs)(sp:Ap):Bd:=(gb,.cells (toArray (Tr.scs ys++sp)) 61 (0,0))
abbrev lpB(B bl:Nat):Bd:=(B,.cells #[pV bl] 489 (0,0))
theorem fB(h:ys[i]?=some x)(sp:Ap):i*2+2<=(toArray (Tr.scs ys++sp)).size/\(toArray (Tr.scs ys++sp)).extract (i*2) (i*2+2)=toArray (Cw x):=by obtain⟨h1,h2⟩:=Lk (enc:=Cw) (k:=2) (λ_=>rfl) sp ys i x h;refine⟨by rw[Bv];exact h2,?_⟩;rw[E7,Cj,CJ];exact BI toArray h1
theorem ov(bl:Nat)(l:Ac):Fn prog 325 [pV bl] l λv l'=> ∃B,v= .func (.func 361) #[] #[pV B]/\l'=lpB B bl::l:=by refine AN func325 ntmps325 λE=>?_;refine AQ λB=>?_;exact Bb .refl ⟨B,rfl,rfl⟩
def NxL(B bl:Nat)(pre:List Cs)(o:Option Cs)(L:Ac):Prop:= ∃gb cap sp ys,lpB B bl∈L/\qi bl (.slice (some ⟨gb,0,none⟩) ys.length cap)∈L/\lsC gb ys sp∈L/\ys.length<=1000000/\o=ys[pre.length]?
theorem i8(B bl:Nat):vF prog 361 [pV B] (λx:Cs=>[F6 x]) (NxL B bl):=by
 refine⟨λr I Ix Wx hY m o l X h0=>?_⟩;refine AN func361 ntmps361 λE=>?_;refine Aj ?_;refine CN (α:=Nat×Nat×List Cs×Option Cs×Ac) (λx=>[(0,.func (.yield r) #[] #[]),(1,pV B),(3,.int .i64 x.1)]) (λx=>x.2.2.2.2++X) (λx=>x.2.2.1.length=x.1/\I x.2.1 x.2.2.1 x.2.2.2.1 x.2.2.2.2) (λx=>x.2.1) (0,m,[],o,l) ⟨rfl,h0⟩ ⟨rfl,rfl,rfl,trivial⟩ .refl ?_;rintro⟨i,m,pre,o,l⟩ ⟨hi,hI⟩;simp only at hi hI⊢;obtain⟨gb,cap,sp,ys,n1,n2,n3,hl,ho⟩:=Wx _ _ _ _ X hI;rw[hi] at ho;by_cases C9:i<ys.length
 ·obtain⟨x,hx⟩: ∃x,ys[i]?=some x:=⟨_,Al C9⟩
  rw[hx] at ho;subst ho;obtain⟨z1,z2⟩:=fB hx sp;refine Aj ?_;refine Bh (Dt rfl n3 z1 z2) ?_;refine Aj ?_;have hy:=hY m pre x l X hI;refine AS (C5 rfl rfl hy) ?_;rintro v _ ⟨l1,rfl,⟨rfl,m',o',hm,LB⟩|⟨rfl,hx⟩⟩
  ·refine Aj ?_;exact BO (i+1,m',pre++[x],o',l1) ⟨by simp[hi],LB⟩ hm ⟨rfl,rfl,rfl,trivial⟩ .refl
  ·refine Aj ?_;exact Bb .refl ⟨l1,rfl,.inr ⟨_,hx⟩⟩
 ·rw[Bg Af] at ho;subst ho;refine Aj ?_;exact Bb .refl ⟨l,rfl,.inl ⟨m,pre,hI⟩⟩
def yF(S:KT)(id:Int):KT:=DD S {Dq S id with ca:=0}
def endT(S:KT)(id:Int):KT:=if MY S id=true/\¬(Dq S id).ca=0 then yF (IY S (Dq S id).ca).2 id else S
def KW(S:KT)(c:CapT):KT:=
 if c.kind=4\/c.kind=5\/c.kind=6 then(PX S c.obj).2
 else if c.kind=8 then(En.listD S.E c.obj).1.foldl (λS t=>(IY S t).2) S
 else if c.kind=9 then endT (IY S c.obj).2 c.obj
 else S
def i9(S:KT)(x:Cs):Bool:=decide ((getD' S.H.1 x).2=0)&&!decide ((Ei S x).kind=0)
def Mn(S:KT)(c:CapT)(n:Nat):List Cs:=((List.range n).map λi=>(c.obj,((i:Nat):Int))).filter (i9 S)
def Mo(S:KT)(c:CapT):List Cs:=Mn S c (Ar.slotsD c.kind (Ar.getD' S.A c.obj).1.sz).toNat
theorem fC(k z:Int):0<=Ar.slotsD k z/\Ar.slotsD k z<=16:=by unfold Ar.slotsD;(repeat' split)<;>omega
theorem Wm(S:KT)(c:CapT)(n:Nat):(Mn S c n).length<=n:=BV (C8 _ _) (by simp)
theorem RY(S:KT)(c:CapT)(n:Nat):Mn S c (n+1)=Mn S c n++(if i9 S (c.obj,n)=true then[(c.obj,(n:Int))] else[]):=by unfold Mn;rw[CC,Aq,DJ,AJ,CX,Fv,List.filter_nil]
theorem ow{cs:Ac}(h:OwnSl e 2 v (ys.length+1) (Tr.scs ys++Cw x) cs):OwnSl e 2 v (ys++[x]).length (Tr.scs (ys++[x])) cs:=by rw[Tr.scs_snoc,Ah];exact h
theorem Wn{U:A4}(h:j<U.length):U.take (j+1)=U.take j++[U.getD j 0]:=by rw[Ch,List.getD,Al h];rfl
section
theorem fD{cs:Ac}(h:OwnSl e k v n xs cs):n<=9223372036854775807:=by
 have hm:maxLen<=9223372036854775807:=by decide
 rcases h.2 with⟨_,rfl,_⟩|⟨_,cap,_,_,_,h1,h2,_⟩<;>omega
theorem yG{X d:Bd}:([X]++(c::d::Ax b p s S G)).Perm (c::d::Ax b p s S (X::G)):=by unfold Ax;exact BX
theorem Ace(hK:IsK F C k S p s)(c:CapT)(bl:Nat)(v:Value)(ys:List Cs)(cs:Ac)(ac:ys.length<=500000)(ho:OwnSl 61 2 v ys.length (Tr.scs ys) cs):
 Fn prog 328 [pV b,pV bl,Xb c] (qi bl v::(cs++Ax b p s S G)) λv' l'=>v'= .tuple #[]/\ ∃v2 NX s' L,OwnSl 61 2 v2 (ys++Mo (KW S c) c).length (Tr.scs (ys++Mo (KW S c) c)) NX/\IsK F C k (KW S c) p s'/\Tail L G/\l'=qi bl v2::(NX++Ax b p s' (KW S c) L):=by
 refine Fn.keep (l':=qi bl v::Ax b p s S (cs++G)) (.of_perm (List.Perm.cons _ (Fi ..))) ?_;have mr:CF b p∈Ax b p s S (cs++G):=mR λ_ h=>h;obtain⟨R,hR⟩: ∃R,KW S c=R:=⟨_,rfl⟩
 rw[hR];unfold KW at hR;refine AN func328 ntmps328 λE=>?_;refine Aj ?_
 (first|refine AS (Ez rfl rfl) ?_|refine AS (CH rfl) ?_);rintro _ _ ⟨b5,_,rfl,rfl⟩
 refine Vt ?_;refine Ob ?_;refine aE (α:=KT×RL×Ac) (λ_=>[(0,pV b),(1,pV bl),(5,pV b5)]) (λx=>Bz b5 c::qi bl v::(cs++Ax b p x.2.1 x.1 x.2.2)) (λx=>x.1=R/\IsK F C k x.1 p x.2.1/\Tail x.2.2 G) ?_ ?_
 ·refine Aj ?_;by_cases h4:c.kind=4\/c.kind=5\/c.kind=6
  ·rw[Ad h4] at hR;rcases h4 with h|h|h;all_goals
    refine Aj ?_;refine Gi ?_;intro S1 s1 L1 EG EC DO GQ;refine Aj ?_;obtain⟨L2,P3,hp⟩:=Hi (b:=b) (p:=p) (s:=s1) (S:=S1) DO;exact Ep (S1,s1,L2) ⟨EG.trans hR,EC,P3⟩ ⟨rfl,rfl,rfl,trivial⟩ (.of_perm (.cons _ (.cons _ hp)))
  rw[Ab h4] at hR;by_cases h8:c.kind=8
  ·rw[Ad h8] at hR;refine Aj ?_;refine CA (Cu [4] 0 10) ?_;refine CE ?_;refine LJ (Az rfl rfl (En.list_any p.e S.E s.E c.obj hK.en hK.el9 _ λx hx=> .tail _ (.tail _ (mE (λ_ h=>h) x hx)))) ?_ rfl rfl;rintro _ _ ⟨sl,cw,rfl,hw,rfl⟩;obtain⟨W,hW⟩: ∃W,(En.listD S.E c.obj).1=W:=⟨_,rfl⟩
   rw[hW] at hR hw;refine CE ?_;by_cases hW0:W.length=0
   ·obtain⟨pp,cap,dA⟩:=hw.shape;rw[hW0] at dA;rw[Gz.1 hW0] at hR;rw[dA];refine Aj ?_;refine Ie 0 ?_;refine Aj ?_;obtain⟨L2,P3,hp⟩:=Hi (b:=b) (p:=p) (s:=s) (S:=S) (Tail.nil (G:=cs++G));exact Ep (S,s,L2) ⟨hR,hK,P3⟩ ⟨rfl,rfl,rfl,trivial⟩ (Keep.trans (Keep.dropL' cw .refl) (.of_perm (.cons _ (.cons _ hp))))
   obtain⟨gw,cap,sw,rfl,rfl⟩:=MR hw Af;have hwl:=fD hw;refine Aj ?_;refine CN (α:=Nat×KT×RL×Ac) (λx=>[(0,pV b),(1,pV bl),(5,pV b5),(38,.slice (some ⟨gw,0,none⟩) W.length cap),(39,.int .i64 (W.length:Nat)),(40,.int .i64 x.1)]) (λx=>Bz b5 c::qi bl v::Ax b p x.2.2.1 x.2.1 x.2.2.2) (λx=>x.1<=W.length/\x.2.1=(W.take x.1).foldl (λS t=>(IY S t).2) S/\IsK F C k x.2.1 p x.2.2.1/\Tail x.2.2.2 (NU gw W sw::(cs++G))) (λx=>W.length-x.1) (0,S,s,NU gw W sw::(cs++G)) ⟨Bp _,rfl,hK,.nil⟩ ⟨rfl,rfl,rfl,rfl,rfl,rfl,trivial⟩ (.of_perm yG) ?_;rintro⟨i,S1,s1,L1⟩ ⟨hi,EG,EC,DO⟩;simp only at hi EG EC DO⊢;have GQ:CF b p∈Ax b p s1 S1 L1:=mR λ_ h=>h;have mw:NU gw W sw∈Ax b p s1 S1 L1:=mG (λ_ h=>h) _ (by obtain⟨X,rfl⟩:=DO;simp);by_cases C9:i<W.length
   ·obtain⟨t,ht⟩: ∃t,W.getD i 0=t:=⟨_,rfl⟩
    have c0:(toArray (W.map CU++sw))[i*1]?=some (.int .i64 t):=by rw[Dr,<-ht];exact RR C9
    refine Aj ?_;refine Gi ?_;intro S2 s2 L2 hS2 FW FN HV;refine Aj ?_;exact BO (i+1,S2,s2,L2) ⟨by simp only;omega,by simp only;rw[Wn C9,Fd,<-EG,ht];exact hS2,FW,FN.trans DO⟩ (by simp only;omega) ⟨rfl,rfl,rfl,rfl,rfl,rfl,trivial⟩ .refl
   ·rw[BD Af] at EG;refine Aj ?_;obtain⟨L2,P3,hp⟩:=Hi (b:=b) (p:=p) (s:=s1) (S:=S1) (DO.trans (Tail.nil.cons));exact Ep (S1,s1,L2) ⟨EG.trans hR,EC,P3⟩ ⟨rfl,rfl,rfl,trivial⟩ (.of_perm (.cons _ (.cons _ hp)))
  rw[Ab h8] at hR;by_cases h9:c.kind=9
  case neg=>rw[Ab h9] at hR;refine Aj ?_;obtain⟨L2,P3,hp⟩:=Hi (b:=b) (p:=p) (s:=s) (S:=S) (Tail.nil (G:=cs++G));exact Ep (S,s,L2) ⟨hR,hK,P3⟩ ⟨rfl,rfl,rfl,trivial⟩ (.of_perm (.cons _ (.cons _ hp)))
  rw[Ad h9] at hR;refine Aj ?_;refine Gi ?_;intro S1 s1 L1 EG EC DO GQ;rw[<-EG] at hR;unfold endT MY at hR;refine Aj ?_;refine CA (Cu [8,9] 0 11) ?_;refine CE ?_;obtain⟨t,ht⟩: ∃t,Dq S1 c.obj=t:=⟨_,rfl⟩
  obtain⟨ok,Dm⟩: ∃ok,(Th.findH S1.T c.obj).isSome=ok:=⟨_,rfl⟩
  rw[ht,Dm] at hR⊢;refine Ij e_alloc (by rintro _ _ ⟨_,_,_,rfl⟩ c hc;exact .tail _ hc) ?_;rintro _ _ ⟨Gd,_,rfl,rfl⟩;refine CE ?_;by_cases h2:ok=true/\¬t.ca=0
  case neg=>
   rw[Ab h2] at hR;obtain⟨L2,P3,hp⟩:=Hi (b:=b) (p:=p) (s:=s1) (S:=S1) DO;cases ok<;>by_cases h3:t.ca=0;all_goals first
    |(exfalso;simp[h3] at h2;done)
    |(refine Aj ?_
      exact Ep (S1,s1,L2) ⟨hR,EC,P3⟩ ⟨rfl,rfl,rfl,trivial⟩ (.drop (.of_perm (.cons _ (.cons _ hp)))))
  rw[Ad h2] at hR;obtain⟨rfl,h3⟩:=h2;refine Aj ?_;refine Gi ?_;intro S2 s2 L2 hS2 FW FN HV;rw[<-hS2] at hR;unfold yF at hR;refine Aj ?_;refine CA (Cu [8] 0 9) ?_;refine CE ?_;have JA:=FW.tO c.obj;obtain⟨t2,ah⟩: ∃t,Dq S2 c.obj=t:=⟨_,rfl⟩
  rw[ah] at hR JA⊢;refine CE ?_;refine Aj ?_;refine CA (Cu [3] 0 4) ?_;refine CE ?_;refine MX (q:=OM {t2 with ca:=0} ⟨JA.out⟩) ?_;intro S3 s3 L3 hS3 MW Lg Pu;refine CE ?_;refine Aj ?_;obtain⟨L4,hL4,hp⟩:=Hi (b:=b) (p:=p) (s:=s3) (S:=S3) (Lg.trans (FN.trans DO));exact Ep (S3,s3,L4) ⟨hS3.trans hR,MW,hL4⟩ ⟨rfl,rfl,rfl,trivial⟩ (.drop (.of_perm (.cons _ (.cons _ hp))))
 rintro⟨S1,s1,L1⟩ ⟨EG,EC,DO⟩;simp only at EG EC DO⊢;rw[<-EG];have I: ∀cq,∀{f:Nat} {vs:Ap} {v:Value} [QF prog f vs (Ax b p s1 S1 L1) v],QF prog f vs (cq++Ax b p s1 S1 L1) v:=λcq=>Z3 λc hc=>Aa _ hc;have I1:=λ{f:Nat} {vs:Ap} {v:Value}=> @I cs f vs v;refine Aj ?_;refine CA (Cu [8,9] 0 11) ?_;refine CE ?_;obtain⟨o,Gc⟩: ∃o,(Ar.getD' S1.A c.obj).1=o:=⟨_,rfl⟩
 unfold Mo;rw[Gc];refine Ij e_alloc (by rintro _ _ ⟨_,_,_,rfl⟩ c hc;exact .tail _ hc) ?_;rintro _ _ ⟨Tb,_,rfl,rfl⟩;refine CE ?_;refine Aj ?_;refine EM ?_;obtain⟨n0,n16⟩:=fC c.kind o.sz;obtain⟨n,hn⟩: ∃n:Nat,Ar.slotsD c.kind o.sz=n:=⟨(Ar.slotsD c.kind o.sz).toNat,Af⟩
 rw[hn] at n0 n16⊢;rw[A0];refine Aj ?_;refine CN (α:=Nat×Value×Ac) (λx=>[(0,pV b),(1,pV bl),(5,pV b5),(97,.int .i64 (n:Nat)),(98,.int .i64 x.1)]) (λx=>Bz b5 c::qi bl x.2.1::(x.2.2++Ax b p s1 S1 L1)) (λx=>x.1<=n/\OwnSl 61 2 x.2.1 (ys++Mn S1 c x.1).length (Tr.scs (ys++Mn S1 c x.1)) x.2.2) (λx=>n-x.1) (0,v,cs) ⟨Bp _,by simpa[Mn] using ho⟩ ⟨rfl,rfl,rfl,rfl,rfl,trivial⟩ (.drop .refl) ?_;rintro⟨i,w,cw⟩ ⟨hi,how⟩;simp only at hi how⊢;have I1:=λ{f:Nat} {vs:Ap} {v:Value}=> @I cw f vs v;by_cases C9:i<n
 case neg=>
  obtain rfl:i=n:=by omega
  refine Aj ?_;exact CT _ .refl (.drop .refl) ⟨rfl,w,cw,s1,L1,how,EC,DO,rfl⟩
 obtain⟨h,hh⟩: ∃h,(getD' S1.H.1 (c.obj,(i:Int))).1=h:=⟨_,rfl⟩
 obtain⟨e,he⟩: ∃e,(getD' S1.H.1 (c.obj,(i:Int))).2=e:=⟨_,rfl⟩
 have hs:i9 S1 (c.obj,(i:Int))=(decide (e=0)&&!decide (h.kind=0)):=by unfold i9;rw[he,show Ei S1 (c.obj,(i:Int))=h from hh]
 refine AQ λZY=>?_;refine CA (Cu [7,8] 0 10) ?_;refine CE ?_;rw[hh,he];refine Ij e_alloc (by rintro _ _ ⟨_,_,_,rfl⟩ c hc;exact .tail _ hc) ?_;rintro _ _ ⟨P4,_,rfl,rfl⟩;refine CE ?_;by_cases h0:e=0/\¬h.kind=0
 case neg=>
  have uk:i9 S1 (c.obj,(i:Int))=false:=by rw[hs];simpa using h0
  by_cases h1:e=0<;>by_cases h2:h.kind=0;all_goals first
   |(exfalso;exact h0 ⟨h1,h2⟩)
   |(refine Aj ?_
     exact BO (i+1,w,cw) ⟨by simp only;omega,by simp only;rw[RY,uk,Ab AX,Bj];exact how⟩ (by simp only;omega) ⟨rfl,rfl,rfl,rfl,rfl,trivial⟩ (.drop (.drop .refl)))
 obtain⟨h1,h2⟩:=h0;have uk:i9 S1 (c.obj,(i:Int))=true:=by rw[hs];simp[h1,h2]
 refine Aj ?_;refine CA (Cu [6,7,10] 0 11) ?_;refine CE ?_;refine Ij (FE (ws:=Cw (c.obj,(i:Int))) (k:=2) rfl rfl rfl AX AX) ?_ ?_ rfl rfl
 ·rintro _ _ ⟨_,_,_,rfl⟩ c hc;exact .tail _ hc
 rintro _ _ ⟨bx,_,rfl,rfl⟩;refine CE ?_;refine LJ (Hz (k:=2) (X:=[Bz P4 h,(ZY,Obj.cells (toArray (Cw (c.obj,(i:Int)))) 61 (0,0)),Bz b5 c,qi bl w]) (cs:=cw) (xs:=Tr.scs (ys++Mn S1 c i)) (n:=(ys++Mn S1 c i).length) (zs:=Cw (0,0)) (ws:=Cw (c.obj,(i:Int))) rfl rfl rfl how rfl (by simp[Value.oneCell']) (by have:=Wm S1 c i;rw[Ah];omega) AX) ?_ rfl rfl;rintro w2 _ ⟨cw2,how2,rfl⟩;have o2:=SU how2;simp only[Ae,Ag];refine CE ?_;refine Aj ?_;exact BO (i+1,w2,cw2) ⟨by simp only;omega,by simp only;rw[RY,uk,Ad rfl,<-Am];exact ow how2⟩ (by simp only;omega) ⟨rfl,rfl,rfl,rfl,rfl,trivial⟩ (.drop (.drop .refl))
end
abbrev MS(S:KT):Nat:=S.H.2.length
theorem Acf(S:KT)(id st:Int):(OK S id st).2.H=S.H:=by unfold OK;(repeat' split)<;>rfl
theorem Acg(S:KT)(id:Int):(yd S id).H=S.H:=by unfold yd;split<;>rfl
theorem SW(S:KT)(id:Int):(IY S id).2.H=S.H:=by
 unfold IY haltE
 split
 ·rfl
 ·rw[Acf];exact Acg _ _
theorem yH(S:KT)(id:Int):(PX S id).2.H=S.H:=by
 unfold PX RS Zr
 (repeat' split)<;>rfl
theorem ox(l:A4)(S:KT):(l.foldl (λS t=>(IY S t).2) S).H=S.H:=by
 induction l generalizing S with
 |nil=>rfl
 |cons a l ih=>rw[D6,ih,SW]
theorem yI(S:KT)(c:CapT):(KW S c).H=S.H:=by
 unfold KW
 split
 ·exact yH _ _
 split
 ·exact ox _ _
 split
 ·unfold endT yF
  split
  ·show(IY _ _).2.H=_;rw[SW,SW]
  ·exact SW _ _
 ·rfl
theorem tc(S:KT)(c:CapT):(NK S c).H=S.H:=by unfold NK nU;split<;>rfl
theorem T6(d:Int)(B:Tr.DT):(Tr.decW d B).length=B.length:=by unfold Tr.decW;have:=BI List.length (Cd (p:=λx:Cs×Int=>decide (d<x.2)) (l:=B));simp only[Ah,A7] at this⊢;exact this
theorem cH(hI:InvH H n)(h:(Eb H x).1.2=0):(Eb H x).2.2.length+1=H.2.length:=by
 unfold Eb at h⊢
 split at h
 ·cases h
 rename_i h1;rw[Ab h1]
 split at h
 ·cases h
 rename_i h2;rw[Ab h2];have h3:=(hI.link x).2 ⟨by simpa using h1,h2⟩;unfold Tr.hasD at h3;dsimp only;unfold Tr.removeD;cases hs:Tr.splitD x H.2 with
 |none=>rw[hs] at h3;cases h3
 |some y=>obtain⟨A,d,B⟩:=y;obtain⟨h4,_⟩:=Tr.splitD_some hs;dsimp only;rw[h4,Ah,Ah,T6,Bu];omega
theorem cI(h:¬(Eb H x).1.2=0):(Eb H x).2=H:=by
 unfold Eb at h⊢
 split
 ·rfl
 ·rename_i h1;rw[Ab h1] at h
  split
  ·rfl
  ·rename_i h2;rw[Ab h2] at h;exact absurd rfl h
def dropX(S:KT)(x:Cs):KT:=if(Eb S.H x).1.1.kind=3 then NK {S with H:=(Eb S.H x).2} (Eb S.H x).1.1 else{S with H:=(Eb S.H x).2}
def dropR:Nat->KT->List Cs->A4->Nat->KT×A4×Nat
 |0,S,_,es,n=>(S,es,n)
 |_+1,S,[],es,n=>(S,es,n)
 |m+1,S,x::ys,es,n=>
  if ¬(Eb S.H x).1.2=0 then dropR m {S with H:=(Eb S.H x).2} ys es n
  else if Ml S.H x=false\/(Eb S.H x).1.1.obj=0 then dropR m (dropX S x) ys es (n+1)
  else dropR m (KW (dropX S x) (Eb S.H x).1.1) (ys++Mo (KW (dropX S x) (Eb S.H x).1.1) (Eb S.H x).1.1) (es++[(Eb S.H x).1.1.obj]) (n+1)
theorem ja(m:Nat)(S:KT)(es:A4)(n:Nat):dropR m S [] es n=(S,es,n):=by cases m<;>rfl
def oy(S:KT)(l:A4):KT:=l.foldl (λS id=>(Vg S id).2) S
def QL(S:KT)(x:Cs):Nat×KT:=((dropR (17*MS S+1) S [x] [] 0).2.2,Js (oy (dropR (17*MS S+1) S [x] [] 0).1 (dropR (17*MS S+1) S [x] [] 0).2.1))
section
theorem yJ{lo B:Ac}{r:Nat}{o:Obj}:((lo++(A++(B++Ax b p s S L)))++(r,o)::T).Perm (lo++(r,o)::Ax b p s S (A++(B++(L++T)))):=by unfold Ax;exact BX
end
end Go.Proofs.YtlifcingifodfaaGreat
