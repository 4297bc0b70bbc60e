/- Laws. -/
import Derived.Test.YtlifcingifodfaaGreatGd16
import Derived.Lib.AppendZeros
set_option maxHeartbeats 4000000
set_option linter.all false
namespace Go.Proofs.YtlifcingifodfaaGreat
open Tryz
open List renaming toArray→τ
open Go.RowKit
set_option maxRecDepth 20000
variable{F C k b N:Nat}{S:KT}{p:RP}{s:RL}{G:Ac}{P:Program}{ro:Option Nat}{ty:TypeId}{pos:String}{g:Option (Nat×Bool)}{x:Operand}
section
def zt(w:Int):Ap:=zr w.toNat
def zu(w:Int):Int:=if 32768<=w.toNat then 3 else 0
instance{w:Int}[hu:U6 w]{l:Ac}:QF prog 255 [Bb w] l (.tuple #[.agg (τ (zt w)),iV (zu w)]):=⟨λl _=>by
 obtain⟨n,rfl⟩: ∃n:Nat,w=n:=⟨w.toNat,by have:=hu.out.1;omega⟩
 exact jK n (by have:=hu.out.2;omega) l⟩
def frA(x:M9)(va:Int):Int:=IntKind.u64.wrap (IntKind.i64.wrap (IntKind.i64.wrap (x.fr*64)+(DF va.toNat 0 6:Nat)))
def findA(S:KT)(core va:Int)(wr:Bool):(Int×Int)×KT:=
 if 32768<=va.toNat then((0,1),S) else if ¬va%8=0 then((0,2),S) else if ¬(PV S.K core).2.2=0\/(PV S.K core).1<0 then((0,3),S)
 else if ¬(DW S.K S.W core (Hl va).1).1.2.2=0 then((0,4),{S with K:=(DW S.K S.W core (Hl va).1).2})
 else if(wr=true/\(DW S.K S.W core (Hl va).1).1.1.wr=false)\/(wr=false/\(DW S.K S.W core (Hl va).1).1.1.rd=false) then((0,5),{S with K:=(DW S.K S.W core (Hl va).1).2})
 else((frA (DW S.K S.W core (Hl va).1).1.1 va,0),{S with K:=(DW S.K S.W core (Hl va).1).2})
theorem uf(hK:IsK F C k S p s)(core va:Int)[hu:U6 va](wr:Bool):Fn prog 200 [pV p.c,pV p.m,ι core,Bb va,.bool wr] (AA b p s S G) (KK F C b p k (.tuple #[Bb (findA S core va wr).1.1,iV (findA S core va wr).1.2]) (findA S core va wr).2 G):=by
 have mr:CH b p∈AA b p s S G:=mR λ_ h=>h;obtain⟨u0,u1⟩:=hu.out;obtain⟨R,hR⟩:=ξ (findA S core va wr)
 rw[hR];unfold findA at hR;refine AO func200 ntmps200 λE=>?_;refine Aj ?_;refine Io 1 ?_;refine Aj ?_;refine EO ?_;refine Aj ?_;by_cases h1:32768<=va.toNat
 ·rw[Ad h1] at hR;subst hR;rw[show zu va=3 from Ad h1,show zt va=dm 0 0 0 0 from Ad h1];refine AR λaT=>?_;exact Bd
 rw[Ab h1] at hR;rw[show zu va=0 from Ab h1,show zt va=dm (DF va.toNat 12 3) (DF va.toNat 9 3) (DF va.toNat 6 3) (DF va.toNat 0 6) from Ab h1];obtain⟨x1,kM⟩: ∃x,DF va.toNat 12 3=x:=⟨_,rfl⟩
 obtain⟨x2,Yn⟩: ∃x,DF va.toNat 9 3=x:=⟨_,rfl⟩
 obtain⟨x3,hx3⟩: ∃x,DF va.toNat 6 3=x:=⟨_,rfl⟩
 obtain⟨x4,hx4⟩: ∃x,DF va.toNat 0 6=x:=⟨_,rfl⟩
 rw[kM,Yn,hx3,hx4];refine AR λaT=>?_;by_cases h2:va%8=0
 case neg=>rw[Ad h2] at hR;subst hR;refine Aj ?_;exact Bd
 rw[Ab (by simpa using h2)] at hR;refine Aj ?_;refine EO ?_;obtain⟨r,hr⟩:=ξ (PV S.K core)
 rw[hr] at hR⊢;refine Aj ?_;by_cases h3:¬r.2.2=0\/r.1<0
 ·rw[Ad h3] at hR;subst hR;by_cases h4:r.2.2=0<;>by_cases h5:r.1<0;all_goals first
   |(exfalso;omega)
   |(refine Aj ?_
     exact Bd)
 rw[Ab h3] at hR;obtain⟨h4,h5⟩:r.2.2=0/\¬r.1<0:=by omega
 refine Aj ?_;refine EO ?_;refine Aj ?_;try simp only[AN,AL,AX]
 refine Gt ?_;intro S1 s1 L1 Er ED DO G6;obtain⟨t,ht⟩:=ξ (DW S.K S.W core (Hl va).1)
 rw[ht] at hR Er⊢;rw[<-Er] at hR;refine AR λb20=>?_;by_cases h6:t.1.2.2=0
 case neg=>rw[Ad h6] at hR;subst hR;refine Aj ?_;exact Bd
 rw[Ab (by simpa using h6)] at hR;by_cases h7:(wr=true/\t.1.1.wr=false)\/(wr=false/\t.1.1.rd=false)
 ·rw[Ad h7] at hR;subst hR;cases wr<;>cases h8:t.1.1.wr<;>cases h9:t.1.1.rd;all_goals first
   |(exfalso;simp[h8,h9] at h7;done)
   |(refine Aj ?_
     exact Bd)
 rw[Ab h7] at hR;subst hR;cases wr<;>cases h8:t.1.1.wr<;>cases h9:t.1.1.rd;all_goals first
  |(exfalso;simp[h8,h9] at h7;done)
  |(refine Aj ?_
    refine Be (sa rfl rfl) ?_;refine Aj ?_;refine Be (r8 rfl rfl) ?_;refine Aj ?_;refine Be (Ow rfl) ?_;refine Aj ?_;refine Fk ?_;refine Aj ?_;unfold frA;rw[hx4];exact Bd)
end
section
instance{core va:Int}[hu:U6 va]{wr:Bool}:EK prog F C b p 200 [pV p.c,pV p.m,ι core,Bb va,.bool wr] k S k (.tuple #[Bb (findA S core va wr).1.1,iV (findA S core va wr).1.2]) (findA S core va wr).2:=⟨λs G h=>uf h core va wr⟩
abbrev aH(kd va:Int)(wr:Bool):Ap:=[iV kd,Bb va,.bool wr]
theorem zw(x:Int):U6 (IntKind.u64.wrap x):=⟨by rw[Y6];exact⟨Af,Af⟩⟩
theorem oW(S:KT)(core va:Int)(wr:Bool):U6 (findA S core va wr).1.1:=by
 unfold findA
 repeat' split
 all_goals first
  |exact(⟨by decide,by decide⟩:U6 0)
  |exact zw _
def kY(kd va:Int)(wr:Bool):Ap:=if kd=0 then aH 0 0 false else aH kd va wr
def kZ(S:KT)(core va:Int):(Int×Int)×KT:=
 if ¬(findA S core va false).1.2=0 then((0,(findA S core va false).1.2),(findA S core va false).2)
 else if ¬(Pu (findA S core va false).2.W (findA S core va false).1.1).2=0 then((0,4),(findA S core va false).2)
 else(((Pu (findA S core va false).2.W (findA S core va false).1.1).1,0),(findA S core va false).2)
theorem ug(hK:IsK F C k S p s)(core va:Int)[hu:U6 va]:Fn prog 155 [pV p.c,pV p.m,ι core,Bb va] (AA b p s S G) (KK F C b p k (.tuple #[Bb (kZ S core va).1.1,.agg (τ (kY (kZ S core va).1.2 va false))]) (kZ S core va).2 G):=by
 have mr:CH b p∈AA b p s S G:=mR λ_ h=>h;have hU:=oW S core va false;obtain⟨R,hR⟩:=ξ (kZ S core va)
 rw[hR];unfold kZ at hR;refine AO func155 ntmps155 λE=>?_;refine AR λb9=>?_;refine Gt ?_;intro S1 s1 L1 Er ED DO G6;obtain⟨q,hq⟩:=ξ (findA S core va false)
 rw[hq] at hR Er hU⊢;rw[<-Er] at hR;refine Aj ?_;by_cases h1:q.1.2=0
 case neg=>rw[Ad h1] at hR;subst hR;rw[show kY q.1.2 va false=aH q.1.2 va false from Ab h1];refine Aj ?_;exact Bd (h:= .tmp rfl (B0 rfl (.head _) (As.LSub.of_all (n:=3) (aH q.1.2 va false) rfl) .nil))
 rw[Ab (by simpa using h1)] at hR;refine Aj ?_;try simp only[AN,AL,AX]
 refine EO ?_;obtain⟨w,hw⟩:=ξ (Pu S1.W q.1.1)
 rw[hw] at hR⊢;refine Aj ?_;by_cases h2:w.2=0
 case neg=>rw[Ad h2] at hR;subst hR;rw[show kY 4 va false=aH 4 va false from rfl];refine Aj ?_;exact Bd (h:= .tmp rfl (B0 rfl (.head _) (As.LSub.of_all (n:=3) (aH 4 va false) rfl) .nil))
 rw[Ab (by simpa using h2)] at hR;subst hR;refine Aj ?_;exact Bd (h:= .tmp rfl (B0 rfl (.head _) (As.LSub.of_all (n:=3) (aH 0 0 false) rfl) .nil))
instance{core va:Int}[hu:U6 va]:EK prog F C b p 155 [pV p.c,pV p.m,ι core,Bb va] k S k (.tuple #[Bb (kZ S core va).1.1,.agg (τ (kY (kZ S core va).1.2 va false))]) (kZ S core va).2:=⟨λs G h=>ug h core va⟩
end
section
def oX(S:KT)(core va v:Int):Int×KT:=
 if ¬(findA S core va true).1.2=0 then((findA S core va true).1.2,(findA S core va true).2)
 else(if(jp (findA S core va true).2.W (findA S core va true).1.1 v).1=0 then 0 else 4,{(findA S core va true).2 with W:=(jp (findA S core va true).2.W (findA S core va true).1.1 v).2})
theorem oY(hK:IsK F C k S p s)(core va v:Int)[hu:U6 va][hv:U6 v]:Fn prog 154 [pV p.c,pV p.m,ι core,Bb va,Bb v] (AA b p s S G) (KK F C b p k (.agg (τ (kY (oX S core va v).1 va true))) (oX S core va v).2 G):=by
 have mr:CH b p∈AA b p s S G:=mR λ_ h=>h;have hU:=oW S core va true;obtain⟨R,hR⟩:=ξ (oX S core va v)
 rw[hR];unfold oX at hR;refine AO func154 ntmps154 λE=>?_;refine AR λb9=>?_;refine Gt ?_;intro S1 s1 L1 Er ED DO G6;obtain⟨q,hq⟩:=ξ (findA S core va true)
 rw[hq] at hR Er hU⊢;rw[<-Er] at hR;refine Aj ?_;by_cases h1:q.1.2=0
 case neg=>rw[Ad h1] at hR;subst hR;rw[show kY q.1.2 va true=aH q.1.2 va true from Ab h1];refine Aj ?_;exact Bd (h:=B0 rfl (.head _) (As.LSub.of_all (n:=3) (aH q.1.2 va true) rfl) .nil)
 rw[Ab (by simpa using h1)] at hR;refine Aj ?_;try simp only[AN,AL,AX]
 refine Gt ?_;intro S2 s2 L2 hS2 Gd F4 Ig;obtain⟨w,hw⟩:=ξ (jp S1.W q.1.1 v)
 rw[hw] at hR hS2⊢;rw[<-hS2] at hR;by_cases h2:w.1=0
 case neg=>rw[Ab h2] at hR;subst hR;rw[show kY 4 va true=aH 4 va true from rfl];refine Aj ?_;exact Bd (h:=B0 rfl (.head _) (As.LSub.of_all (n:=3) (aH 4 va true) rfl) .nil)
 rw[Ad h2] at hR;subst hR;refine Aj ?_;exact Bd (h:=B0 rfl (.head _) (As.LSub.of_all (n:=3) (aH 0 0 false) rfl) .nil)
instance{core va v:Int}[hu:U6 va][hv:U6 v]:EK prog F C b p 154 [pV p.c,pV p.m,ι core,Bb va,Bb v] k S k (.agg (τ (kY (oX S core va v).1 va true))) (oX S core va v).2:=⟨λs G h=>oY h core va v⟩
end
abbrev lvV(x:Int×Int):Ap:=[iV x.1,Bb x.2]
theorem Z1(B3 B4 B5 b gb F:Nat)(p:RP)(W:A8)(h1:F<=64)(hW:W.length=F*8)(hu: ∀w,w∈W->Jj w)(root page:Int):
 FN prog 331 [pV B3,pV B4,pV B5] lvV (λxs=>xs=wS W root page) (λpre=>pre<+:wS W root page)
  (λ_ l=>BX B5 page∈l/\BX B4 root∈l/\rB B3 b∈l/\CH b p∈l/\PR p.m gb F∈l/\Uz gb W∈l):=by
 refine⟨λr I Ix G0 Cf hY l G hG h0=>?_⟩;have Q1: ∀l,CH b p∈l->QF prog 86 [pV b] l (pV p.m):=λl h=>⟨λl2 hl=>UF b p l2 (hl _ h)⟩
 have Q2: ∀l lv,PR p.m gb F∈l->Uz gb W∈l->QF prog 298 [pV p.m,ι root,ι page,ι lv] l (.tuple #[Bb (Rr W root page lv).1,iV (Rr W root page lv).2]):=λl lv m1 m2=>⟨λl2 hl=>XQ p.m gb F W h1 hW hu root page lv l2 (hl _ m1) (hl _ m2)⟩
 obtain⟨n1,n2,n3,n4,n5,n6⟩:=Cf _ _ G hG h0;have i1:=Q1 _ n4;have i2:=Q2 _ 1 n5 n6;obtain⟨a1,ha1⟩: ∃a,Rr W root page 1=a:=⟨_,rfl⟩
 obtain⟨a2,ha2⟩: ∃a,Rr W root page 2=a:=⟨_,rfl⟩
 rw[ha1] at i2;have hD:wS W root page=if ¬a1.2=0 then[] else(1,a1.1)::if ¬a2.2=0 then[] else[(2,a2.1)]:=by unfold wS;rw[ha1,ha2]
 rw[hD] at hY⊢;refine AO func331 ntmps331 λE=>?_;refine Aj ?_;refine Io 2 ?_;refine Aj ?_;refine IP ?_;refine qX ?_;refine Wb ?_;iterate 3 refine qX ?_
 refine Wb ?_;refine BJ ?_;by_cases e1:a1.2=0
 case neg=>refine Aj ?_;exact Bc .refl ⟨l,rfl,.inl ⟨[],(Ad e1).symm,h0⟩⟩
 rw[Ab (by simpa using e1)] at hY⊢;refine Aj ?_;have it:[((1:Int),a1.1)]<+:(1,a1.1)::(if ¬a2.2=0 then[] else[((2:Int),a2.1)]):=⟨_,rfl⟩
 have hy:=hY [] (1,a1.1) l G hG h0 it;refine IE (C8 rfl rfl hy) rfl rfl rfl ?_;rintro v _ ⟨l1,rfl,⟨rfl,hI⟩|⟨rfl,hx⟩⟩
 case' inr=>
  refine Aj ?_;exact Bc .refl ⟨l1,rfl,.inr ⟨_,it,hx⟩⟩
 obtain⟨n1,n2,n3,n4,n5,n6⟩:=Cf _ _ G hG hI;have i1:=Q1 _ n4;have i2:=Q2 _ 2 n5 n6;rw[ha2] at i2;refine Aj ?_;refine Fk ?_;refine Aj ?_;rw[show(1:Int)+1=2 from rfl];refine IP ?_;refine qX ?_;refine Wb ?_;iterate 3 refine qX ?_
 refine Wb ?_;refine BJ ?_;by_cases e2:a2.2=0
 case neg=>rw[Ad e2] at hY⊢;refine Aj ?_;exact Bc .refl ⟨l1,rfl,.inl ⟨[(1,a1.1)],rfl,hI⟩⟩
 rw[Ab (by simpa using e2)] at hY⊢;refine Aj ?_;have P1:[((1:Int),a1.1),(2,a2.1)]<+:[((1:Int),a1.1),(2,a2.1)]:=⟨[],rfl⟩
 have Tw:=hY [(1,a1.1)] (2,a2.1) l1 G hG hI P1;refine IE (C8 rfl rfl Tw) rfl rfl rfl ?_;rintro v _ ⟨l2,rfl,⟨rfl,N7⟩|⟨rfl,Yn⟩⟩
 case' inr=>
  refine Aj ?_;exact Bc .refl ⟨l2,rfl,.inr ⟨_,P1,Yn⟩⟩
 refine Aj ?_;refine Fk ?_;refine Aj ?_;exact Bc .refl ⟨l2,rfl,.inl ⟨[(1,a1.1),(2,a2.1)],rfl,N7⟩⟩
section
theorem oZ(N:As.ASt)(o:Int):(As.dropP N o).2.2.given=N.given:=by unfold As.dropP;(repeat' split)<;>rfl
theorem dq(hK:IsK F C k S p s)(o:Int):Fn prog 386 [pV p.n,ι o] (AA b p s S G) λv l'=> ∃sl cs,v= .tuple #[sl,iV (As.dropP S.N o).2.1]/\OwnSl 3 1 sl (As.dropP S.N o).1.length (As.dropP S.N o).1 cs/\IsK F C k {S with N:=(As.dropP S.N o).2.2} p s/\l'=cs++AA b p s {S with N:=(As.dropP S.N o).2.2} G:=
 Fn.re (.of_perm (by unfold AA;exact δ)) (As.dropPool_any p.n S.N o (CH b p::(s.M++(s.C++(s.A++(s.H++(s.T++(s.Q++(s.E++(s.V++G))))))))))
  λv l' ⟨sl,cs,h1,h2,h3⟩=>⟨cs++AA b p s {S with N:=(As.dropP S.N o).2.2} G,by rw[h3];unfold AA;exact γ [],sl,cs,h1,h2,{hK with giv:=λn hn=>by rw[show({S with N:=(As.dropP S.N o).2.2}:KT).N.given=S.N.given from oZ ..];exact hK.giv n hn},rfl⟩
end
section
def vI:Value->Int
 | .int _ i=>i
 |_=>0
def uh(N:As.ASt)(o:Int):A8:=(As.dropP N o).1.map vI
def Qk(S:KT)(id:Int):Bool×KT:=
 if(Ar.getD' S.A id).2=false then(false,S)
 else if(Ar.getD' S.A id).1.kd=4 then((Gg S id).2,Sk S id)
 else if(Ar.getD' S.A id).1.kd=5 then(decide ((As.unP S.N id).2.1=0),{S with N:=(As.unP S.N id).2.2,K:=if(As.unP S.N id).2.1=0 then IZ S.K (Rs (As.unP S.N id).1) else S.K})
 else if(Ar.getD' S.A id).1.kd=6 then(decide ((As.dropP S.N id).2.1=0),{S with N:=(As.dropP S.N id).2.2,K:=(uh S.N id).foldl (λK n=>IZ K (Rs n)) S.K})
 else(false,S)
theorem Ade(hK:IsK F C k S p s)(id:Int)(h6:¬(Ar.getD' S.A id).1.kd=6):Fn prog 364 [pV b,ι id] (AA b p s S G) (KK F C b p k (.bool (Qk S id).1) (Qk S id).2 G):=by
 have mr:CH b p∈AA b p s S G:=mR λ_ h=>h;obtain⟨R,hR⟩:=ξ (Qk S id)
 rw[hR];unfold Qk at hR;refine AO func364 ntmps364 λE=>?_;refine Aj ?_;refine EO ?_;refine Aj ?_;refine EO ?_;obtain⟨o,ho⟩:=ξ ((Ar.getD' S.A id).1)
 obtain⟨ok,Dh⟩:=ξ ((Ar.getD' S.A id).2)
 rw[ho,Dh] at hR;rw[ho] at h6;rw[ho,Dh];refine AR λb5=>?_;cases ok with
 |false=>rw[Ad rfl] at hR;subst hR;refine Aj ?_;exact Bd
 |true=>
 rw[Ab A0] at hR;refine Aj ?_;by_cases h4:o.kd=4
 ·rw[Ad h4] at hR;subst hR;refine Aj ?_;refine Gt ?_;intro S1 s1 L1 Er ED DO G6;refine Aj ?_;exact Bd
 rw[Ab h4] at hR;by_cases h5:o.kd=5
 ·rw[Ad h5] at hR;refine Aj ?_;refine EO ?_;refine Aj ?_;refine Gt ?_;intro S1 s1 L1 Er ED DO G6;obtain⟨u,hu⟩:=ξ (As.unP S.N id)
  rw[hu] at hR Er⊢;refine Aj ?_;by_cases h7:u.2.1=0
  ·rw[Ad h7,h7] at hR;subst hR;refine Aj ?_;refine EO ?_;refine Aj ?_;try simp only[AN,AL,AX]
   refine Gt ?_;intro S2 s2 L2 hS2 Gd F4 Ig;refine Aj ?_;have hS:S2={S with N:=u.2.2,K:=IZ S.K (Rs u.1)}:=by rw[hS2,Er]
   exact Bd
  rw[Ab h7,show decide (u.2.1=0)=false by simp[h7]] at hR;subst hR;refine Aj ?_;exact Bd
 rw[Ab h5,Ab h6] at hR;subst hR;refine Aj ?_;exact Bd
end
section
theorem ui(N:As.ASt)(o:Int):(As.dropP N o).1.length<=4:=by
 unfold As.dropP
 split
 ·simp
 ·exact B9 (As.dropL_len ..) (As.nums_len _)
theorem uj(N:As.ASt)(o:Int):(As.dropP N o).1=(uh N o).map iV:=by
 unfold uh;rw[CO];unfold As.dropP
 split
 ·rfl
 ·unfold As.dropL;simp only[CO];exact Bs λ_ _=>rfl
theorem zx(hK:IsK F C k S p s)(id:Int)(h6:(Ar.getD' S.A id).1.kd=6):Fn prog 364 [pV b,ι id] (AA b p s S G) (KK F C b p k (.bool (Qk S id).1) (Qk S id).2 G):=by
 have mr:CH b p∈AA b p s S G:=mR λ_ h=>h;obtain⟨R,hR⟩:=ξ (Qk S id)
 rw[hR];unfold Qk at hR;refine AO func364 ntmps364 λE=>?_;refine Aj ?_;refine EO ?_;refine Aj ?_;refine EO ?_;obtain⟨o,ho⟩:=ξ ((Ar.getD' S.A id).1)
 obtain⟨ok,Dh⟩:=ξ ((Ar.getD' S.A id).2)
 rw[ho,Dh] at hR;rw[ho] at h6;rw[ho,Dh];refine AR λb5=>?_;cases ok with
 |false=>rw[Ad rfl] at hR;subst hR;refine Aj ?_;exact Bd
 |true=>
 rw[Ab A0,Ab Af,Ab Af,Ad h6] at hR;refine Aj ?_;refine EO ?_;refine Aj ?_;refine Bt (.of_perm (Fv b p s S [_] G)) ?_;refine AP (Az rfl rfl (dq hK id)) ?_;rintro _ _ ⟨sl,cs,rfl,Gc,ED,rfl⟩;have hl:=ui S.N id;rw[uj] at Gc hl;obtain⟨dn,hdn⟩: ∃d,As.dropP S.N id=d:=⟨_,rfl⟩
 obtain⟨ds,hds⟩:=ξ (uh S.N id)
 rw[hds] at Gc hl hR;rw[hdn] at ED hR⊢;rw[A5] at Gc hl;refine Bt (.of_perm (Fv b p s _ cs _)) ?_;obtain⟨c5,hc5⟩: ∃c,(b5,Obj.cells (τ (Ar.obC o)) 100 (0,0))=c:=⟨_,rfl⟩
 obtain⟨pp,cap,ei⟩:=Gc.shape;have rR:Tail (cs++([(b5,Obj.cells (τ (Ar.obC o)) 100 (0,0))]++G)) G:=⟨cs++[_],by rw[Am]⟩
 rcases ds with _|⟨d1,_|⟨d2,_|⟨d3,_|⟨d4,_|⟨d5,ds⟩⟩⟩⟩⟩
 ·simp only[GJ] at hR;rw[ei];subst hR;refine Aj ?_;refine Io 0 ?_;refine Aj ?_;exact Bd (ht:=rR)
 ·obtain⟨gb,cap,sp,rfl,rfl⟩:=NO Gc (by simp);simp only[Ev,GJ] at hR;obtain⟨L0,iu⟩:=ξ ([(gb,Obj.cells (τ ([d1].map iV++sp)) 3 (0,0))]++([(b5,Obj.cells (τ (Ar.obC o)) 100 (0,0))]++G))
  have w0:(gb,Obj.cells (τ ([d1].map iV++sp)) 3 (0,0))∈L0:=by rw[<-iu];exact .head _
  rw[iu] at rR⊢;have m0:=mG (b:=b) (p:=p) (s:=s) (S:=({S with N:=dn.2.2}:KT)) (G:=L0) (l:=AA b p s {S with N:=dn.2.2} L0) (λ_ h=>h) _ w0;have mr:=mR (b:=b) (p:=p) (s:=s) (S:=({S with N:=dn.2.2}:KT)) (G:=L0) (l:=AA b p s {S with N:=dn.2.2} L0) λ_ h=>h;have z0:(τ ([d1].map iV++sp))[0+(0:Int).toNat*1]?=some (ι d1):=rfl;rw[show([d1]:A8).length=1 from rfl];refine Aj ?_;refine Io 1 ?_;refine Aj ?_;refine EO ?_;refine Aj ?_;refine Gt ?_;intro S1 s1 L1 Er Gd DO G6;have w1:(gb,Obj.cells (τ ([d1].map iV++sp)) 3 (0,0))∈L1:=by obtain⟨X,rfl⟩:=DO;exact Aa _ w0
  have m1:=mG (b:=b) (p:=p) (s:=s1) (S:=S1) (G:=L1) (l:=AA b p s1 S1 L1) (λ_ h=>h) _ w1;refine Aj ?_;refine Fk ?_;refine Aj ?_;subst hR;exact Bd (ht:=(DO.trans rR))
 ·obtain⟨gb,cap,sp,rfl,rfl⟩:=NO Gc (by simp);simp only[Ev,GJ] at hR;obtain⟨L0,iu⟩:=ξ ([(gb,Obj.cells (τ ([d1,d2].map iV++sp)) 3 (0,0))]++([(b5,Obj.cells (τ (Ar.obC o)) 100 (0,0))]++G))
  have w0:(gb,Obj.cells (τ ([d1,d2].map iV++sp)) 3 (0,0))∈L0:=by rw[<-iu];exact .head _
  rw[iu] at rR⊢;have m0:=mG (b:=b) (p:=p) (s:=s) (S:=({S with N:=dn.2.2}:KT)) (G:=L0) (l:=AA b p s {S with N:=dn.2.2} L0) (λ_ h=>h) _ w0;have mr:=mR (b:=b) (p:=p) (s:=s) (S:=({S with N:=dn.2.2}:KT)) (G:=L0) (l:=AA b p s {S with N:=dn.2.2} L0) λ_ h=>h;have z0:(τ ([d1,d2].map iV++sp))[0+(0:Int).toNat*1]?=some (ι d1):=rfl;have z1:(τ ([d1,d2].map iV++sp))[0+(1:Int).toNat*1]?=some (ι d2):=rfl;rw[show([d1,d2]:A8).length=2 from rfl];refine Aj ?_;refine Io 2 ?_;refine Aj ?_;refine EO ?_;refine Aj ?_;refine Gt ?_;intro S1 s1 L1 Er Gd DO G6;have w1:(gb,Obj.cells (τ ([d1,d2].map iV++sp)) 3 (0,0))∈L1:=by obtain⟨X,rfl⟩:=DO;exact Aa _ w0
  have m1:=mG (b:=b) (p:=p) (s:=s1) (S:=S1) (G:=L1) (l:=AA b p s1 S1 L1) (λ_ h=>h) _ w1;refine Aj ?_;refine Fk ?_;refine Aj ?_;rw[show(0:Int)+1=1 from rfl];refine Aj ?_;refine EO ?_;refine Aj ?_;refine Gt ?_;intro S2 s2 L2 hS2 M8 F4 Ig;have w2:(gb,Obj.cells (τ ([d1,d2].map iV++sp)) 3 (0,0))∈L2:=by obtain⟨X,rfl⟩:=F4;exact Aa _ w1
  have m2:=mG (b:=b) (p:=p) (s:=s2) (S:=S2) (G:=L2) (l:=AA b p s2 S2 L2) (λ_ h=>h) _ w2;refine Aj ?_;refine Fk ?_;refine Aj ?_;subst hR;exact Bd (ht:=(F4.trans (DO.trans rR)))
 ·obtain⟨gb,cap,sp,rfl,rfl⟩:=NO Gc (by simp);simp only[Ev,GJ] at hR;obtain⟨L0,iu⟩:=ξ ([(gb,Obj.cells (τ ([d1,d2,d3].map iV++sp)) 3 (0,0))]++([(b5,Obj.cells (τ (Ar.obC o)) 100 (0,0))]++G))
  have w0:(gb,Obj.cells (τ ([d1,d2,d3].map iV++sp)) 3 (0,0))∈L0:=by rw[<-iu];exact .head _
  rw[iu] at rR⊢;have m0:=mG (b:=b) (p:=p) (s:=s) (S:=({S with N:=dn.2.2}:KT)) (G:=L0) (l:=AA b p s {S with N:=dn.2.2} L0) (λ_ h=>h) _ w0;have mr:=mR (b:=b) (p:=p) (s:=s) (S:=({S with N:=dn.2.2}:KT)) (G:=L0) (l:=AA b p s {S with N:=dn.2.2} L0) λ_ h=>h;have z0:(τ ([d1,d2,d3].map iV++sp))[0+(0:Int).toNat*1]?=some (ι d1):=rfl;have z1:(τ ([d1,d2,d3].map iV++sp))[0+(1:Int).toNat*1]?=some (ι d2):=rfl;have z2:(τ ([d1,d2,d3].map iV++sp))[0+(2:Int).toNat*1]?=some (ι d3):=rfl;rw[show([d1,d2,d3]:A8).length=3 from rfl];refine Aj ?_;refine Io 3 ?_;refine Aj ?_;refine EO ?_;refine Aj ?_;refine Gt ?_;intro S1 s1 L1 Er Gd DO G6;have w1:(gb,Obj.cells (τ ([d1,d2,d3].map iV++sp)) 3 (0,0))∈L1:=by obtain⟨X,rfl⟩:=DO;exact Aa _ w0
  have m1:=mG (b:=b) (p:=p) (s:=s1) (S:=S1) (G:=L1) (l:=AA b p s1 S1 L1) (λ_ h=>h) _ w1;refine Aj ?_;refine Fk ?_;refine Aj ?_;rw[show(0:Int)+1=1 from rfl];refine Aj ?_;refine EO ?_;refine Aj ?_;refine Gt ?_;intro S2 s2 L2 hS2 M8 F4 Ig;have w2:(gb,Obj.cells (τ ([d1,d2,d3].map iV++sp)) 3 (0,0))∈L2:=by obtain⟨X,rfl⟩:=F4;exact Aa _ w1
  have m2:=mG (b:=b) (p:=p) (s:=s2) (S:=S2) (G:=L2) (l:=AA b p s2 S2 L2) (λ_ h=>h) _ w2;refine Aj ?_;refine Fk ?_;refine Aj ?_;rw[show(1:Int)+1=2 from rfl];refine Aj ?_;refine EO ?_;refine Aj ?_;refine Gt ?_;intro S3 s3 L3 hS3 hK4 Lo Qv;have w3:(gb,Obj.cells (τ ([d1,d2,d3].map iV++sp)) 3 (0,0))∈L3:=by obtain⟨X,rfl⟩:=Lo;exact Aa _ w2
  have m3:=mG (b:=b) (p:=p) (s:=s3) (S:=S3) (G:=L3) (l:=AA b p s3 S3 L3) (λ_ h=>h) _ w3;refine Aj ?_;refine Fk ?_;refine Aj ?_;subst hR;exact Bd (ht:=(Lo.trans (F4.trans (DO.trans rR))))
 ·obtain⟨gb,cap,sp,rfl,rfl⟩:=NO Gc (by simp);simp only[Ev,GJ] at hR;obtain⟨L0,iu⟩:=ξ ([(gb,Obj.cells (τ ([d1,d2,d3,d4].map iV++sp)) 3 (0,0))]++([(b5,Obj.cells (τ (Ar.obC o)) 100 (0,0))]++G))
  have w0:(gb,Obj.cells (τ ([d1,d2,d3,d4].map iV++sp)) 3 (0,0))∈L0:=by rw[<-iu];exact .head _
  rw[iu] at rR⊢;have m0:=mG (b:=b) (p:=p) (s:=s) (S:=({S with N:=dn.2.2}:KT)) (G:=L0) (l:=AA b p s {S with N:=dn.2.2} L0) (λ_ h=>h) _ w0;have mr:=mR (b:=b) (p:=p) (s:=s) (S:=({S with N:=dn.2.2}:KT)) (G:=L0) (l:=AA b p s {S with N:=dn.2.2} L0) λ_ h=>h;have z0:(τ ([d1,d2,d3,d4].map iV++sp))[0+(0:Int).toNat*1]?=some (ι d1):=rfl;have z1:(τ ([d1,d2,d3,d4].map iV++sp))[0+(1:Int).toNat*1]?=some (ι d2):=rfl;have z2:(τ ([d1,d2,d3,d4].map iV++sp))[0+(2:Int).toNat*1]?=some (ι d3):=rfl;have z3:(τ ([d1,d2,d3,d4].map iV++sp))[0+(3:Int).toNat*1]?=some (ι d4):=rfl;rw[show([d1,d2,d3,d4]:A8).length=4 from rfl];refine Aj ?_;refine Io 4 ?_;refine Aj ?_;refine EO ?_;refine Aj ?_;refine Gt ?_;intro S1 s1 L1 Er Gd DO G6;have w1:(gb,Obj.cells (τ ([d1,d2,d3,d4].map iV++sp)) 3 (0,0))∈L1:=by obtain⟨X,rfl⟩:=DO;exact Aa _ w0
  have m1:=mG (b:=b) (p:=p) (s:=s1) (S:=S1) (G:=L1) (l:=AA b p s1 S1 L1) (λ_ h=>h) _ w1;refine Aj ?_;refine Fk ?_;refine Aj ?_;rw[show(0:Int)+1=1 from rfl];refine Aj ?_;refine EO ?_;refine Aj ?_;refine Gt ?_;intro S2 s2 L2 hS2 M8 F4 Ig;have w2:(gb,Obj.cells (τ ([d1,d2,d3,d4].map iV++sp)) 3 (0,0))∈L2:=by obtain⟨X,rfl⟩:=F4;exact Aa _ w1
  have m2:=mG (b:=b) (p:=p) (s:=s2) (S:=S2) (G:=L2) (l:=AA b p s2 S2 L2) (λ_ h=>h) _ w2;refine Aj ?_;refine Fk ?_;refine Aj ?_;rw[show(1:Int)+1=2 from rfl];refine Aj ?_;refine EO ?_;refine Aj ?_;refine Gt ?_;intro S3 s3 L3 hS3 hK4 Lo Qv;have w3:(gb,Obj.cells (τ ([d1,d2,d3,d4].map iV++sp)) 3 (0,0))∈L3:=by obtain⟨X,rfl⟩:=Lo;exact Aa _ w2
  have m3:=mG (b:=b) (p:=p) (s:=s3) (S:=S3) (G:=L3) (l:=AA b p s3 S3 L3) (λ_ h=>h) _ w3;refine Aj ?_;refine Fk ?_;refine Aj ?_;rw[show(2:Int)+1=3 from rfl];refine Aj ?_;refine EO ?_;refine Aj ?_;refine Gt ?_;intro S4 s4 L4 hS4 hK5 kQ mr4;have w4:(gb,Obj.cells (τ ([d1,d2,d3,d4].map iV++sp)) 3 (0,0))∈L4:=by obtain⟨X,rfl⟩:=kQ;exact Aa _ w3
  have m4:=mG (b:=b) (p:=p) (s:=s4) (S:=S4) (G:=L4) (l:=AA b p s4 S4 L4) (λ_ h=>h) _ w4;refine Aj ?_;refine Fk ?_;refine Aj ?_;subst hR;exact Bd (ht:=(kQ.trans (Lo.trans (F4.trans (DO.trans rR)))))
 ·exfalso;simp at hl
instance{id:Int}:EK prog F C b p 364 [pV b,ι id] k S k (.bool (Qk S id).1) (Qk S id).2:=⟨λs G h=>by
 by_cases h6:(Ar.getD' S.A id).1.kd=6
 ·exact zx h id h6
 ·exact Ade h id h6⟩
end
section
variable{E:World}{Q:Exit->Act->World->Prop}{fr:Fr}{ds:List Deferred}{L:Ac}{α:Type}{g:Operand}{ps:List Tmp}{assign body:Code}{gf:Nat}{lb:Ap}{enc:α->Ap}
abbrev UU(r:Nat)(fn:FuncId)(tmps:Array Value)(ps:List Tmp)(assign body:Code)(D:Nat)(st:LoopState)(c:Option Code):Bh:=(r,.loop (DV fn tmps ps.toArray assign body D st c))
theorem Z2(hg:ev fr g=some (.func (.func gf) #[] lb.toArray))[en:EN P gf](A:Ac->Prop)(B:Code->Ac->Prop)
 (Afi: ∀(r:Nat) (fn:FuncId) (tmps:Array Value) (D:Nat),(∀a:Act,a.tmps=tmps->FSat N fr a)->
   Fn P gf (.func (.yield r) #[] #[]::lb) (UU r fn tmps ps assign body D .ready none::Cv D::L) λv l'=>(∃l1,A l1/\l'=UU r fn tmps ps assign body D .ready none::Cv D::l1)\/(∃c l1,B c l1/\l'=UU r fn tmps ps assign body D .done (some c)::Cv D::l1))
 (Oj: ∀(D:Nat) (l:Ac),A l->C3 N E Q .normal fr (HJ D::ds) (Cv D::l))
 (KS: ∀(D:Nat) (c:Code) (l:Ac),B c l->BS P none N E c Q fr (HJ D::ds) (Cv D::l)):
 BS P none N E (.rangeFunc g ps.toArray assign body) Q fr ds L:=by
 refine⟨λa W hf hds hs=>wpIn_rangeFunc ?_⟩;intro fn hfn;obtain⟨Gb,hrec⟩: ∃Gb,Gb=DV fn a.tmps ps.toArray assign body W.heap.size:=⟨_,rfl⟩
 obtain⟨W1,Qp⟩:=ξ ((W.alloc (.deferred (some []))).alloc (.loop (Gb .ready none)))
 have Nc:Sat E ((W.heap.size+1,.loop (Gb .ready none))::(W.heap.size,.deferred (some []))::L) W1:=by have:=(hs.alloc (.deferred (some []))).alloc (.loop (Gb .ready none));rw[World.size_alloc,Qp] at this;exact this
 have vD:=hf.agrees g _ hg;refine⟨W.heap.size+1,[HJ W.heap.size],W1,{target:= .fn (.func gf) lb.toArray,args:=#[.func (.yield (W.heap.size+1)) #[] #[]]},W1,gf,#[.func (.yield (W.heap.size+1)) #[] #[]]++lb.toArray,W1,?_,?_,λ_ _=>trivial,?_,λh=>(by cases h),?_⟩
 ·rw[<-Qp,hrec];exact run_enterLoop_outer _ _ _ _ _
 ·simp only[resolve,vD];simp[Deferred.ofValue,Act.eval]
 ·simp[invoke,en.out]
 ·have hc:=(Afi (W.heap.size+1) fn a.tmps W.heap.size λa' ha'=>⟨by rw[ha'];exact hf.size,λd v hd=>by rw[ha'];exact hf.at_ d v hd⟩).run E W1 (by rw[hrec] at Nc;exact Nc);have li:(Value.func (.yield (W.heap.size+1)) #[] #[]::lb).toArray=#[.func (.yield (W.heap.size+1)) #[] #[]]++lb.toArray:=by simp
  rw[li] at hc;refine Nh (hc.mono ?_);rintro e W2 ⟨v,l',rfl,⟨l1,hA,rfl⟩|⟨c,l1,hB,rfl⟩,R6⟩
  ·have hm:W2.heap[W.heap.size+1]?=some (.loop (DV fn a.tmps ps.toArray assign body W.heap.size .ready none)):=R6.has (W.heap.size+1,_) (.head _);refine⟨none,_,run_endLoop (P:=P) hm (by simp[DV]),?_⟩;refine(Oj W.heap.size l1 hA).run {a with defers:=[HJ W.heap.size]++a.defers} _ ⟨hf.size,hf.at_⟩ (by rw[<-hds];rfl) ?_;exact(R6.upd .here).tail
  ·have hm:W2.heap[W.heap.size+1]?=some (.loop (DV fn a.tmps ps.toArray assign body W.heap.size .done (some c))):=R6.has (W.heap.size+1,_) (.head _);refine⟨some c,_,run_endLoop (P:=P) hm (by simp[DV]),?_⟩;refine(KS W.heap.size c l1 hB).run {a with defers:=[HJ W.heap.size]++a.defers} _ ⟨hf.size,hf.at_⟩ (by rw[<-hds];rfl) ?_;exact(R6.upd .here).tail
structure Z3(P:Program)(gf:Nat)(lb:Ap)(enc:α->Ap)(C:Ac)(Out:List α->Ac->Prop):Prop where
 run: ∀(r:Nat) (I:List α->Ac->Prop),(∀pre x l X,pre.length<=3->I pre l->Ot P r (enc x) (l++X) (λv l'=> ∃l1,v= .bool true/\I (pre++[x]) l1/\l'=l1++X))->
  ∀l,I [] l->Fn P gf (.func (.yield r) #[] #[]::lb) (l++C) (λv l'=> ∃xs l1 C',I xs l1/\Out xs C'/\l'=l1++C')
theorem o5(hg:ev fr g=some (.func (.func gf) #[] lb.toArray))[en:EN P gf]{C:Ac}{Out:List α->Ac->Prop}(hit:Z3 P gf lb enc C Out)(N3: ∀x,(enc x).length=ps.length)(kJ:ps.all (λp=>Nat.blt p N)=true)
 (I:List α->Ac->Prop)(l0:Ac)(hL:Keep L (l0++C))(h0:I [] l0)
 (Nd: ∀(E:World) (r:Nat) (Gb:LoopState->Option Code->Loop) (pre:List α) (x:α) (l T:Ac),(∃fn tmps D,Gb=DV fn tmps ps.toArray assign body D)->pre.length<=3->I pre l->
   BS P (some r) N E assign (Exit.then (P3 P r body (roundPost P r (RK E (KH I (λ_ _ _=>False) (pre++[x]) r Gb T)))) (λ_ _ _=>False)) (DY ps (enc x) fr) [] (l++(r,.loop (Gb .ready none))::T))
 (Oj: ∀(D:Nat) (xs:List α) (l C':Ac),I xs l->Out xs C'->C3 N E Q .normal fr (HJ D::ds) (Cv D::(l++C'))):
 BS P none N E (.rangeFunc g ps.toArray assign body) Q fr ds L:=by
 refine Eh hL (Z2 hg (λl1=> ∃xs l C',I xs l/\Out xs C'/\l1=l++C') (λ_ _=>False) ?_ ?_ λD c l h=>h.elim)
 ·intro r fn tmps D hf;have hy:=hit.run r (λpre l=> ∃l1,I pre l1/\l=l1++[UU r fn tmps ps assign body D .ready none,Cv D]) (λpre x l X h3 ⟨l1,h1,h2⟩=>by
   subst h2;have hy:=TJ (P:=P) (N:=N) (fr:=fr) (assign:=assign) (body:=body) (ps:=ps) (enc:=enc) (r:=r) (fn:=fn) (tmps:=tmps) (D:=D) (T:=Cv D::X) (I:=I) (Ix:=λ_ _ _=>False) (pre:=pre) (x:=x) (l:=l1) (N3 x) kJ hf (λE'=>Nd E' r _ pre x l1 (Cv D::X) ⟨fn,tmps,D,rfl⟩ h3 h1);refine⟨λE' W' hs'=>?_⟩;have e:l1++[UU r fn tmps ps assign body D .ready none,Cv D]++X=l1++UU r fn tmps ps assign body D .ready none::Cv D::X:=by simp
   rw[e] at hs';obtain⟨fn',tm,asg,bo,k1,k2⟩:=hy.run E' W' hs';refine⟨fn',tm,asg,bo,k1,k2.mono ?_⟩;rintro e' W'' ⟨v,l',rfl,hk,hs''⟩;refine⟨v,l',rfl,?_,hs''⟩;rcases hk with⟨hv,l2,hI,rfl⟩|⟨hv,c,l2,hI,rfl⟩
   ·exact⟨l2++[UU r fn tmps ps assign body D .ready none,Cv D],hv,⟨l2,hI,rfl⟩,by simp⟩
   ·exact hI.elim) (l0++[UU r fn tmps ps assign body D .ready none,Cv D]) ⟨l0,h0,rfl⟩
  refine Fn.re (.of_perm ?_) hy λv l' ⟨xs,l1,C',⟨l2,h1,h2⟩,h3,h4⟩=>⟨UU r fn tmps ps assign body D .ready none::Cv D::(l2++C'),.of_perm ?_,.inl ⟨_,⟨xs,l2,C',h1,h3,rfl⟩,rfl⟩⟩
  ·exact(Jl C (E3 (l₁:=[UU r fn tmps ps assign body D .ready none,Cv D]) (l₂:=l0)))
  ·subst h4 h2;exact(Jl C' (E3 (l₁:=l2) (l₂:=[UU r fn tmps ps assign body D .ready none,Cv D])))
 ·rintro D l ⟨xs,l1,C',h1,h2,rfl⟩;exact Oj D xs l1 C' h1 h2
structure wT(P:Program)(gf:Nat)(lb:Ap)(enc:α->Ap)(Nx:List α->Option α->Ac->Prop):Prop where
 run: ∀(r:Nat) (I:Nat->List α->Option α->Ac->Prop) (Ix:List α->Ac->Prop),(∀m pre o l X,I m pre o l->Nx pre o (l++X))->
  (∀m pre x l X,I m pre (some x) l->Ot P r (enc x) (l++X) (λv l'=> ∃l1,l'=l1++X/\((v= .bool true/\ ∃m' o,m'<m/\I m' (pre++[x]) o l1)\/(v= .bool false/\Ix (pre++[x]) l1))))->
  ∀m o l X,I m [] o l->Fn P gf (.func (.yield r) #[] #[]::lb) (l++X) (λv l'=> ∃l1,l'=l1++X/\((∃m xs,I m xs none l1)\/ ∃pre,Ix pre l1))
theorem o6(hg:ev fr g=some (.func (.func gf) #[] lb.toArray))[en:EN P gf]{Nx:List α->Option α->Ac->Prop}(hit:wT P gf lb enc Nx)(N3: ∀x,(enc x).length=ps.length)(kJ:ps.all (λp=>Nat.blt p N)=true)
 (I:Nat->List α->Option α->Ac->Prop)(Ix:Code->List α->Ac->Prop)(l0:Ac){m0:Nat}{o0:Option α}(W8: ∀m pre o l X,I m pre o l->Nx pre o (l++X))(hL:Keep L l0)(h0:I m0 [] o0 l0)
 (Nd: ∀(E:World) (r:Nat) (Gb:LoopState->Option Code->Loop) (m:Nat) (pre:List α) (x:α) (l T:Ac),(∃fn tmps D,Gb=DV fn tmps ps.toArray assign body D)->I m pre (some x) l->
   BS P (some r) N E assign (Exit.then (P3 P r body (roundPost P r (RK E (KH (λxs l=> ∃m' o,m'<m/\I m' xs o l) Ix (pre++[x]) r Gb T)))) (λ_ _ _=>False)) (DY ps (enc x) fr) [] (l++(r,.loop (Gb .ready none))::T))
 (Oj: ∀(D:Nat) (m:Nat) (xs:List α) (l:Ac),I m xs none l->C3 N E Q .normal fr (HJ D::ds) (Cv D::l))
 (KS: ∀(D:Nat) (c:Code) (pre:List α) (l:Ac),Ix c pre l->BS P none N E c Q fr (HJ D::ds) (Cv D::l)):
 BS P none N E (.rangeFunc g ps.toArray assign body) Q fr ds L:=by
 refine Eh hL (Z2 hg (λl1=> ∃m xs,I m xs none l1) (λc l1=> ∃pre,Ix c pre l1) ?_ ?_ ?_)
 ·intro r fn tmps D hf;have hy:=hit.run r (λm pre o l=> ∃l1,I m pre o l1/\l=l1++[UU r fn tmps ps assign body D .ready none,Cv D]) (λpre l=> ∃c l1,Ix c pre l1/\l=l1++[UU r fn tmps ps assign body D .done (some c),Cv D]) (λm pre o l X ⟨l1,h1,h2⟩=>by rw[h2,Am];exact W8 _ _ _ _ _ h1) (λm pre x l X ⟨l1,h1,h2⟩=>by
   subst h2;have hy:=TJ (P:=P) (N:=N) (fr:=fr) (assign:=assign) (body:=body) (ps:=ps) (enc:=enc) (r:=r) (fn:=fn) (tmps:=tmps) (D:=D) (T:=Cv D::X) (I:=λxs l=> ∃m' o,m'<m/\I m' xs o l) (Ix:=Ix) (pre:=pre) (x:=x) (l:=l1) (N3 x) kJ hf (λE'=>Nd E' r _ m pre x l1 (Cv D::X) ⟨fn,tmps,D,rfl⟩ h1);refine⟨λE' W' hs'=>?_⟩;have e:l1++[UU r fn tmps ps assign body D .ready none,Cv D]++X=l1++UU r fn tmps ps assign body D .ready none::Cv D::X:=by simp
   rw[e] at hs';obtain⟨fn',tm,asg,bo,k1,k2⟩:=hy.run E' W' hs';refine⟨fn',tm,asg,bo,k1,k2.mono ?_⟩;rintro e' W'' ⟨v,l',rfl,hk,hs''⟩;refine⟨v,l',rfl,?_,hs''⟩;rcases hk with⟨hv,l2,⟨m',o,hm,hI⟩,rfl⟩|⟨hv,c,l2,hI,rfl⟩
   ·exact⟨l2++[UU r fn tmps ps assign body D .ready none,Cv D],by simp,.inl ⟨hv,m',o,hm,l2,hI,rfl⟩⟩
   ·exact⟨l2++[UU r fn tmps ps assign body D .done (some c),Cv D],by simp,.inr ⟨hv,c,l2,hI,rfl⟩⟩) m0 o0 (l0++[UU r fn tmps ps assign body D .ready none,Cv D]) [] ⟨l0,h0,rfl⟩
  refine Fn.re (.of_perm ?_) hy ?_
  ·rw[Bj];exact E3 (l₁:=[UU r fn tmps ps assign body D .ready none,Cv D]) (l₂:=l0)
  rintro v l' ⟨l1,rfl,⟨m,xs,l2,h1,rfl⟩|⟨pre,c,l2,h1,rfl⟩⟩
  ·refine⟨UU r fn tmps ps assign body D .ready none::Cv D::l2,.of_perm ?_,.inl ⟨l2,⟨m,xs,h1⟩,rfl⟩⟩;rw[Bj];exact E3 (l₁:=l2) (l₂:=[UU r fn tmps ps assign body D .ready none,Cv D])
  ·refine⟨UU r fn tmps ps assign body D .done (some c)::Cv D::l2,.of_perm ?_,.inr ⟨c,l2,⟨pre,h1⟩,rfl⟩⟩;rw[Bj];exact E3 (l₁:=l2) (l₂:=[UU r fn tmps ps assign body D .done (some c),Cv D])
 ·rintro D l ⟨m,xs,h1⟩;exact Oj D m xs l h1
 ·rintro D c l ⟨pre,h1⟩;exact KS D c pre l h1
end
section
variable{fr:Fr}{l:Ac}{K:Value->Ac->Prop}{d:Option Nat}{aft:Array Edge}
theorem uk{f:Nat}{xs:List Operand}{vs cs:Ap}{at_:Array TypeId}(hx:ev fr x=some (.func (.func f) #[] (τ cs)))(hy:SC fr xs=some vs)[c:EN P f](h:Fn P f (vs++cs) l K):OpE P ro N fr l ⟨d,.call {callee:= .value x,args:=xs.toArray,argTypes:=at_},ty,pos,aft,g⟩ K:=Dr hx hy (by simpa using h)
end
def Mn(i j:Int):Int:=IntKind.i64.wrap (((BitVec.ofInt 64 i)&&& (BitVec.ofInt 64 j)).toNat:Int)
theorem K7{fr:Fr}{R:Ac}{d:Option Nat}{t2 t:TypeId}{aft:Array Edge}{y:Operand}{i j:Int}(hx:ev fr x=some (ι i))(hy:ev fr y=some (ι j)):OpQ P ro N fr R ⟨d,.binOp .and t x y t2,ty,pos,aft,g⟩ (ι (Mn i j)):=
 I7 hx hy (λ_ _=>Dg _ _ _ _ _) (by simp only[binOp,Op.intBits];rfl)
end Go.Proofs.YtlifcingifodfaaGreat
namespace Go.Proofs.YtlifcingifodfaaGreat
open Tryz
open List renaming toArray→τ
open Go.RowKit Go.Lib
section
variable{P:Program}{ro:Option Nat}{N:Nat}{fr:Fr}{l:Ac}{d:Option Nat}{ty:TypeId}{pos:String}{aft:Array Edge}{g:Option (Nat×Bool)}
theorem jL{R:Ac}{s x:Operand}{p q:Option Addr}{T e kk yb n cap cp:Nat}(hs:ev fr s=some (.slice p n cap))(hx:ev fr x=some (.slice q 0 cp))[c:ST P T e kk yb](hn:n<=cap):
 OpQ P ro N fr R ⟨d,.call {callee:= .builtin .append,args:=#[s,x],argTypes:=#[T,T]},ty,pos,aft,g⟩ (.slice p n cap):=BO rfl λρ l hρ _=>by
 obtain⟨HH,u1,u2,_⟩:=Fj c.out;simp only[execOp,resolve,AE,Bq,invoke,builtin,Dm,AK,CZ,hρ s _ hs,hρ x _ hx];unfold Builtin.append_;simp only[AF,Df,De,AE];rw[E9 u1];simp only;rw[Fa u2];simp only[AE];rw[E9 u1];simp only[Bq,Bn,C0,Builtin.lenOf,Hy,CV,CM,Ad hn,AE,Builtin.firstCells];cases q with
 |none=>
  cases p with
  |none=>exact⟨rfl,rfl⟩
  |some a=>exact⟨rfl,rfl⟩
 |some a'=>
  simp only[G4,loadCells,loadCellsFrom,Bq];cases p with
  |none=>exact⟨rfl,rfl⟩
  |some a=>exact⟨rfl,rfl⟩
end
end Go.Proofs.YtlifcingifodfaaGreat
namespace Go.Proofs.YtlifcingifodfaaGreat
open Tryz
open List renaming toArray→τ
open Go.RowKit
variable{k N F C b e n i j gf:Nat}{cs G A T L:Ac}{a c:Bh}{P:Program}{ro:Option Nat}{S:KT}{p:RP}{s:RL}{v:Value}{E:World}{Q:Exit->Act->World->Prop}{ds:List Deferred}{x:Ch}{ty:TypeId}{pos:String}{xs lb:Ap}{Γ:Ac->Ac}{g:Option (Nat×Bool)}{ops:Array Oper}{Fm:Th.ThT->Th.ThT}{ys:List Ch}{H:HS}
theorem R3{fr:Fr}{F:Ac}{d:Option Nat}{aft:Array Edge}{s x:Operand}{vx:Value}{T yb m:Nat}{ys zs:Ap}{cw:Ac}(hs:ev fr s=some v)(hx:ev fr x=some vx)[c:ST P T e k yb][cz:ZV P e zs](Sv:zs.length=k)(ho:OwnSl e k v n xs cs)(F0:OwnSl e k vx m ys cw)(h1: ∀u∈ys,u.oneCell'=true)(hn:n<=1000000)(hm:m<=1000000)(ee:yb<=1000):
 OpE P ro N fr (cs++(cw++F)) ⟨d,.call {callee:= .builtin .append,args:=#[s,x],argTypes:=#[T,T]},ty,pos,aft,g⟩ (λv' l'=> ∃c2,OwnSl e k v' (n+m) (xs++ys) c2/\l'=c2++(cw++F)):=by
 have hb:(n+m)*yb<=140737488355328:=by have:=Jn (show n+m<=2000000 by omega) ee;omega
 by_cases h0:m=0
 ·subst h0;obtain⟨pp,cap,hv⟩:=ho.shape;obtain⟨p2,cap2,hv2⟩:=F0.shape;subst hv hv2;have LJ:n<=cap:=by
   rcases ho.2 with⟨e1,e2,_⟩|⟨b,c2,sp,e1,_,e2,_⟩
   ·omega
   ·cases e1;exact e2
  have hy:ys=[]:=Ej (by rw[F0.1,G4]);subst hy;have hq:=jL (P:=P) (ro:=ro) (N:=N) (R:=[]) (d:=d) (ty:=ty) (pos:=pos) (aft:=aft) (g:=g) (T:=T) hs hx LJ;refine(hq.run (cs++(cw++F)) λc hc=>by cases hc).mono ?_;rintro _ _ ⟨rfl,rfl⟩;exact⟨cs,by rw[Bj];exact ho,rfl⟩
 ·obtain⟨hl,⟨_,h2,_⟩|⟨b,cap,sp,rfl,rfl,h3,h4,h5⟩⟩:=F0
  ·exact absurd h2 h0
  exact GN (k:=k) (yb:=yb) (news:=ys) (zs:=zs) (m:=m) hs hx Sv ho (Aa _ (.head _)) (λj u hj=>by rw[BG,AF];rw[AH (Aw.1 hj).1];exact hj) hl h1 (by unfold maxLen;omega) hb
theorem UV{l:Ac}(ha:a∈l): ∀x,x∈[a]->x∈l:=by intro x hx;rw[Ay.1 hx];exact ha
theorem in2{b:Bh}{l:Ac}(ha:a∈l)(hb:b∈l): ∀x,x∈[a,b]->x∈l:=by
 intro x hx;simp only[Au,BR,EF] at hx;rcases hx with rfl|rfl
 ·exact ha
 ·exact hb
def zy:Code->Nat
 | .skip=>0
 | .region ..=>1
 | .seq ..=>3
 | .cond ..=>4
 | .block ..=>5
 | .loop ..=>6
 | .rangeFunc ..=>7
 | .exit ..=>8
 | .scope ..=>9
 | .label ..=>10
 |_=>11
def sqA:Code->Code
 | .seq a _=>a
 |c=>c
def sqB:Code->Code
 | .seq _ b=>b
 |c=>c
def cnT:Code->Code
 | .cond _ a _=>a
 |c=>c
def cnE:Code->Code
 | .cond _ _ b=>b
 |c=>c
def cnO:Code->Operand
 | .cond o _ _=>o
 |_=> .tmp 0
def cnM:Code->Nat
 | .cond (.tmp t) _ _=>t
 |_=>0
def bkC:Code->Code
 | .block _ x=>x
 | .loop x=>x
 | .scope x=>x
 |c=>c
def bkI:Code->Nat
 | .block k _=>k
 |_=>0
def rfG:Code->Operand
 | .rangeFunc g _ _ _=>g
 |_=> .tmp 0
def rfP:Code->List Tmp
 | .rangeFunc _ ps _ _=>ps.toList
 |_=>[]
def rfA:Code->Code
 | .rangeFunc _ _ a _=>a
 |c=>c
def rfB:Code->Code
 | .rangeFunc _ _ _ b=>b
 |c=>c
section
variable{c:Code}{fr:Fr}{l:Ac}
theorem zz(hc:zy c=3)(h:BS P ro N E (sqA c) (Exit.then ((sqB c).wpIn (Fw ro) 0 P Q) Q) fr ds l):BS P ro N E c Q fr ds l:=by cases c<;>first|exact ey h|cases hc
theorem o7(hc:zy c=5)(h:BS P ro N E (bkC c) (Exit.inBlock (bkI c) Q) fr ds l):BS P ro N E c Q fr ds l:=by cases c<;>first|exact Qz h|cases hc
theorem o8(hc:zy c=7)(h:BS P ro N E (.rangeFunc (rfG c) (rfP c).toArray (rfA c) (rfB c)) Q fr ds l):BS P ro N E c Q fr ds l:=by cases c<;>first|exact h|cases hc
theorem o9(hc:zy c=4)(hv:ev fr (cnO c)=some (.bool true))(h:BS P ro N E (cnT c) Q fr ds l):BS P ro N E c Q fr ds l:=by cases c<;>first|exact MM hv h|cases hc
theorem pc(hc:zy c=4)(hv:ev fr (cnO c)=some (.bool false))(h:BS P ro N E (cnE c) Q fr ds l):BS P ro N E c Q fr ds l:=by cases c<;>first|exact MN hv h|cases hc
theorem zA{p:Prop}{ip:Decidable p}(hc:zy c=4)(ho:cnO c= .tmp (cnM c))(hv:Cc fr (cnM c)=some (.bool (@decide p ip)))(hp:p)(h:BS P ro N E (cnT c) Q ((cnM c,.bool true)::fr) ds l):BS P ro N E c Q fr ds l:=by
 cases c with
 |cond o a b=>simp only[cnO] at ho;rw[ho];exact TH hv hp h
 |_=>cases hc
theorem zB{p:Prop}{ip:Decidable p}(hc:zy c=4)(ho:cnO c= .tmp (cnM c))(hv:Cc fr (cnM c)=some (.bool (@decide p ip)))(hp:¬p)(h:BS P ro N E (cnE c) Q ((cnM c,.bool false)::fr) ds l):BS P ro N E c Q fr ds l:=by
 cases c with
 |cond o a b=>simp only[cnO] at ho;rw[ho];exact TI hv hp h
 |_=>cases hc
theorem Z4{f:FuncId}{fn:Func}{args:Ap}{K:Value->Ac->Prop}(hf:P.funcs[f]?=some fn)(hb:fn.body.isSome=true)(hn:Nat.ble args.length fn.ntmps=true)
 (h: ∀E,BS P none fn.ntmps E (fn.body.getD .skip) (bodyPostM Fence.wide 0 P fn (RK E K)) (Xe 0 args) [] l):Fn P f args l K:=by
 cases W7:fn.body with
 |none=>rw[W7] at hb;cases hb
 |some c=>exact TE hf W7 hn (by rw[W7] at h;exact h)
end
theorem LR{H G:Prop}(k:H)(h:Bx H->G:=by(intro k;(repeat(first|(show DC _ _ _ _ _ _ (_::_) _ _ _;first|refine ozq ?_|refine ozs ?_|refine ozs0 ?_|refine ozt ?_|refine ozf ?_|refine yG rfl rfl rfl rfl rfl rfl ?_|refine ozn ?_)|refine zz rfl ?_|refine Ou ?_|refine QA ?_|refine VW ?_|refine o9 rfl rfl ?_|refine pc rfl rfl ?_|refine o7 rfl ?_|refine Xf ?_|refine TC ?_|refine QC ?_|refine LY ?_|refine Ju ?_|refine Nj rfl ?_|refine ez ?_|refine Ni ?_|refine LZ ?_|refine c_scopeP rfl ?_|refine SP ?_|refine SQ ?_|refine L6 ?_|refine p_scope_exit ?_|refine eD ?_|refine zA rfl rfl rfl Af ?_|refine zB rfl rfl rfl Af ?_));exact k.h)):G:=h ⟨k⟩
set_option maxRecDepth 20000
section
variable{Q':Exit->Act->World->Prop}{c:Code}{fr:Fr}{l:Ac}{e:Exit}
theorem zC(h: ∀Q',(∀e a W,Q e a W->Q' e a W)->BS P ro N E c Q' fr ds l):BS P ro N E c Q fr ds l:=h Q λ_ _ _ h=>h
theorem Adf(hQ: ∀e a W,Q e a W->Q' e a W)(h:C3 N E Q e fr ds l):C3 N E Q' e fr ds l:=⟨λa W h1 h2 h3=>hQ _ _ _ (h.run a W h1 h2 h3)⟩
end
theorem To(h:OwnSl e k v n xs cs):v.oneCell'=true:=by obtain⟨_,_,h⟩:=h.shape;rw[h];rfl
theorem WM{b:Bh}{l:Ac}(ha:a∈l)(hb:b∈l)(hc:c∈l): ∀x,x∈[a,b,c]->x∈l:=by
 intro x hx;simp only[Au,BR,EF] at hx;rcases hx with rfl|rfl|rfl
 ·exact ha
 ·exact hb
 ·exact hc
section
theorem Hr(hT:Tail L (cs++G)): ∃L',Tail L' G/\(AA b p s S L).Perm (cs++AA b p s S L'):=by obtain⟨X,rfl⟩:=hT;exact⟨X++G,⟨X,rfl⟩,by unfold AA;exact δ⟩
instance:QF prog 143 [pV b] [CH b p] (pV p.h):=⟨λl hl=>D4 b p l (hl _ (.head _))⟩
instance:EK prog F C b p 72 [pV b] k S k (.tuple #[]) (HW S):=⟨λs G h=>oR h⟩
instance:QF prog 262 [pV b] [CH b p] (pV p.e):=⟨λl hl=>WC b p l (hl _ (.head _))⟩
variable{fr:Fr}{l R:Ac}{x0:Value}{d f k':Nat}{x:Operand}{xs:List Operand}{vs:Ap}{at_:Array TypeId}{aft:Array Edge}{S':KT}{tbl:List (List Nat)}{pl:List BI}
theorem pek(hR: ∀S1 s' L,∀c,c∈R->c∈Γ (AA b p s' S1 L))(hk: ∀S1 s' L,S1=S'->IsK F C k' S1 p s'->Tail L G->CH b p∈AA b p s' S1 L->PlanS P ro N E ops Q R tbl none [] pl ((d,x0)::fr) ds (Γ (AA b p s' S1 L)))(hx:ev fr x=some (.func (.func f) #[] #[]):=by rfl)(hy:SC fr xs=some vs:=by rfl)(hF:Fr1 (AA b p s S G) l Γ:=by exact fL)(c:EN P f:=by infer_instance)(hK:IsK F C k S p s:=by infer_instance)(q:EK P F C b p f vs k S k' x0 S':=by infer_instance)(hb:Nat.blt d N=true:=by rfl):PlanS P ro N E ops Q R tbl none [] ((i,false,⟨some d,.call {callee:= .value x,args:=xs.toArray,argTypes:=at_},ty,pos,aft,none⟩)::pl) fr ds l:=
 CX (Az hx hy (q.on hK hF)) rfl rfl hb (λv l' ⟨h1,s',L,h2,h3,h4⟩ c hc=>by rw[h4];exact hR S' s' L c hc) λv l' ⟨h1,s',L,h2,h3,h4⟩=>by rw[h1,h4];exact hk S' s' L rfl h2 h3 (mR λ_ h=>h)
theorem Agn{dj:Nat}{oj:Oper}{w:Bool}(hR: ∀S1 s' L,∀c,c∈R->c∈Γ (AA b p s' S1 L))(hk: ∀S1 s' L,S1=S'->IsK F C k' S1 p s'->Tail L G->CH b p∈AA b p s' S1 L->PlanS P ro N E ops Q R tbl none [] pl ((d,x0)::fr) ds (Γ (AA b p s' S1 L)))(hx:ev fr x=some (.func (.func f) #[] #[]):=by rfl)(hy:SC fr xs=some vs:=by rfl)(hF:Fr1 (AA b p s S G) l Γ:=by exact fL)(c:EN P f:=by infer_instance)(hK:IsK F C k S p s:=by infer_instance)(q:EK P F C b p f vs k S k' x0 S':=by infer_instance)(hb:Nat.blt d N=true:=by rfl)(hj:ops[j]?=some oj:=by rfl)(Lm:oj.dst=some dj:=by rfl)(hbg:Cc fr dj=some (.bool w):=by rfl):PlanS P ro N E ops Q R tbl none [] ((i,false,⟨some d,.call {callee:= .value x,args:=xs.toArray,argTypes:=at_},ty,pos,aft,some (j,w)⟩)::pl) fr ds l:=
 Acs (Az hx hy (q.on hK hF)) rfl hj Lm hbg rfl hb (λv l' ⟨h1,s',L,h2,h3,h4⟩ c hc=>by rw[h4];exact hR S' s' L c hc) λv l' ⟨h1,s',L,h2,h3,h4⟩=>by rw[h1,h4];exact hk S' s' L rfl h2 h3 (mR λ_ h=>h)
end
theorem Adg{l:Ac}: ∀c,c∈([]:Ac)->c∈l:=λ_ h=>nomatch h
theorem zD{l:Ac}(h1:a∈l)(h2: ∀c,c∈A->c∈l): ∀c,c∈a::A->c∈l:=λc hc=>by
 rcases Au.1 hc with rfl|hc
 ·exact h1
 ·exact h2 c hc
theorem zIn{l:Ac}(h: ∀c,c∈A->c∈l:=by(repeat(first|exact Adg|(apply zD;·exact Ca)))): ∀c,c∈A->c∈l:=h
structure pd(P:Program)(g:Nat)(lb:Ap)(A:Ac)(Fm:Th.ThT->Th.ThT):Prop where
 run: ∀(x:Nat) (t:Th.ThT) (l:Ac),(∀c,c∈A->c∈l)->Fn P g (pV x::lb) (Th.thC x t::l) λv l'=>v= .tuple #[]/\l'=Th.thC x (Fm t)::l
section
theorem Adh(hK:IsK F C k S p s)(id:Int){g:Nat}[en:EN prog g](q:pd prog g lb A Fm)(hw:TW (Fm (DJ S id)))(hA: ∀c,c∈A->c∈G):Fn prog 265 [pV b,ι id,.func (.func g) #[] (τ lb)] (AA b p s S G) (KK F C b p k (Th.thV (Fm (DJ S id))) (DZ S (Fm (DJ S id))) G):=by
 have mr:CH b p∈AA b p s S G:=mR λ_ h=>h;refine AO func265 ntmps265 λE=>?_;refine AR λb6=>?_;refine EO ?_;refine Aj ?_;refine EO ?_;obtain⟨t,ht⟩:=ξ (DJ S id)
 rw[ht] at hw⊢;refine AR λb7=>?_;obtain⟨u,hu⟩:=ξ (Fm t)
 refine AP (uk (vs:=[pV b7]) (cs:=lb) rfl rfl (q.run b7 t _ λc hc=> .tail _ (mG (λ_ h=>h) c (hA c hc)))) ?_;rintro _ _ ⟨rfl,rfl⟩;rw[hu] at hw⊢;refine Aj ?_;refine CC (Cy [3] 0 4) ?_;refine CG ?_;refine Na (q:=O2 u hw) ?_;intro S1 s1 L1 Er ED DO G6;refine CG ?_;refine Aj ?_;exact Bd (h:=B0 rfl ν (As.LSub.of_all (n:=24) (Th.encH u) rfl) .nil)
variable{A6:List Oper}{fr:Fr}{l:Ac}{d:Nat}{x:Operand}{xs:List Operand}{at_:Array TypeId}{aft:Array Edge}
theorem VN{id:Int}[en:EN prog gf](q:pd prog gf lb A Fm)(hw:TW (Fm (DJ S id)))(hk: ∀S1 s' L,S1=DZ S (Fm (DJ S id))->IsK F C k S1 p s'->Tail L G->CH b p∈AA b p s' S1 L->DC prog ro N E ops Q A6 ((d,Th.thV (Fm (DJ S id)))::fr) ds (Γ (AA b p s' S1 L)))
 (hx:ev fr x=some (.func (.func 265) #[] #[]):=by rfl)(hy:SC fr xs=some [pV b,ι id,.func (.func gf) #[] (τ lb)]:=by rfl)(hF:Fr1 (AA b p s S G) l Γ:=by exact fL)(hA: ∀c,c∈A->c∈Γ []:=by exact zIn)(hK:IsK F C k S p s:=by infer_instance)(hw':RD ops fr g=some true:=by rfl)(hb:Nat.blt d N=true:=by rfl):
 DC prog ro N E ops Q (⟨some d,.call {callee:= .value x,args:=xs.toArray,argTypes:=at_},ty,pos,aft,g⟩::A6) fr ds l:=by
 obtain⟨B,rfl,hB⟩:=hF.eq;have hA2: ∀c,c∈A->c∈B++G:=λc hc=>Ai _ (by have:=hA c hc;rw[hB,Bj] at this;exact this);refine IE (Az hx hy (Fn.re (.of_perm (Fv b p s S B G)) (Adh (G:=B++G) hK id q hw hA2) (K':=λv l'=>v=Th.thV (Fm (DJ S id))/\ ∃s' L,IsK F C k (DZ S (Fm (DJ S id))) p s'/\Tail L G/\l'=Γ (AA b p s' (DZ S (Fm (DJ S id))) L)) λv l' ⟨h1,s',L,h2,⟨X,h3⟩,h4⟩=>⟨Γ (AA b p s' (DZ S (Fm (DJ S id))) (X++G)),?_,h1,s',_,h2,⟨X,rfl⟩,rfl⟩)) hw' rfl hb λv l' ⟨h1,s',L,h2,h3,h4⟩=>by rw[h1,h4];exact hk _ s' L rfl h2 h3 (mR λ_ h=>h)
 rw[h4,h3,hB];exact .of_perm (UA ..)
end
section
def HX(S:KT)(t Bv:Int):Th.ThT×Int:=if Mw S t=false\/¬(DJ S t).st=1\/Bv<0\/4096<Bv then(Th.thZ,2) else(DJ S t,0)
theorem um(hK:IsK F C k S p s)(t Bv:Int)(l:Ac)(hl: ∀c,c∈AA b p s S G->c∈l):Fn prog 261 [pV b,ι t,ι Bv] l λv l'=>v= .tuple #[Th.thV (HX S t Bv).1,iV (HX S t Bv).2]/\l'=l:=by
 have mr:CH b p∈l:=mR hl;have I: ∀{f:Nat} {vs:Ap} {v:Value} [QF prog f vs (AA b p s S G) v],QF prog f vs l v:=aG hl;unfold HX Mw;refine AO func261 ntmps261 λE=>?_;refine AR λb6=>?_;refine EO ?_;refine Aj ?_;refine EO ?_;obtain⟨u,hu⟩:=ξ (DJ S t)
 obtain⟨ok,Dh⟩: ∃q,(Th.findH S.T t).isSome=q:=⟨_,rfl⟩
 rw[hu,Dh];refine AR λb8=>?_;by_cases h0:ok=false\/¬u.st=1\/Bv<0\/4096<Bv
 ·rw[Ad h0];cases ok<;>by_cases h1:u.st=1<;>by_cases h2:Bv<0<;>by_cases h3:4096<Bv;all_goals first
   |(exfalso;simp[h1,h2,h3] at h0;done)
   |(exfalso;omega)
   |(refine Aj ?_
     exact AU [] _ rfl .refl (B0 rfl ν (As.LSub.of_all (n:=24) (Th.encH Th.thZ) rfl) Ba) θ ⟨rfl,rfl⟩)
 rw[Ab h0];obtain⟨h1,h2,h3,h4⟩:ok=true/\u.st=1/\¬Bv<0/\¬4096<Bv:=by simp at h0;exact⟨h0.1,h0.2.1,Af,Af⟩
 subst h1;refine Aj ?_;exact AU [] _ rfl .refl (B0 rfl ν (As.LSub.of_all (n:=24) (Th.encH u) rfl) Ba) θ ⟨rfl,rfl⟩
instance[h:IsK F C k S p s]{t Bv:Int}:QF prog 261 [pV b,ι t,ι Bv] (AA b p s S G) (.tuple #[Th.thV (HX S t Bv).1,iV (HX S t Bv).2]):=⟨λl hl=>um h t Bv l hl⟩
class AD(a:Int):Prop where
 out:a<18446744073709551616
instance[h:IsK F C k S p s]{id a:Int}[ha:AD a]:QF prog 159 [pV b,ι id,ι a] (AA b p s S G) (.tuple #[Fy (GB S id a).1,iV (GB S id a).2]):=⟨λl hl=>zd h id a ha.out l hl⟩
def Re(S:KT)(t u:Th.ThT):Bool×KT:=
 if t.gv=4096\/u.inn=4096 then(false,S)
 else if(GB S t.id t.gv).2=0/\(GB S u.id u.inn).2=0 then(decide ((F7 S.H (GB S t.id t.gv).1 (GB S u.id u.inn).1 (Ea (Dv S.H.1 (GB S t.id t.gv).1) 7)).1=0),{S with H:=(F7 S.H (GB S t.id t.gv).1 (GB S u.id u.inn).1 (Ea (Dv S.H.1 (GB S t.id t.gv).1) 7)).2})
 else(false,S)
theorem uo(hK:IsK F C (k+1) S p s)(t u:Th.ThT)(ht:AD t.gv)(hu:AD u.inn):Fn prog 318 [pV b,Th.thV t,Th.thV u] (AA b p s S G) (KK F C b p k (.bool (Re S t u).1) (Re S t u).2 G):=by
 have mr:CH b p∈AA b p s S G:=mR λ_ h=>h;obtain⟨R,hR⟩:=ξ (Re S t u)
 rw[hR];unfold Re at hR;refine AO func318 ntmps318 λE=>?_;refine AR λb4=>?_;refine AR λb5=>?_;by_cases h0:t.gv=4096\/u.inn=4096
 ·rw[Ad h0] at hR;subst hR;by_cases h1:t.gv=4096<;>by_cases h2:u.inn=4096;all_goals first
   |(exfalso;omega)
   |(refine Aj ?_
     exact Bd)
 rw[Ab h0] at hR;obtain⟨h1,h2⟩:¬t.gv=4096/\¬u.inn=4096:=by omega
 refine Aj ?_;refine EO ?_;obtain⟨q,hq⟩:=ξ (GB S t.id t.gv)
 rw[hq] at hR⊢;refine AR λb7=>?_;refine EO ?_;obtain⟨w,hw⟩: ∃q,GB S u.id u.inn=q:=⟨_,rfl⟩
 rw[hw] at hR⊢;refine AR λb9=>?_;by_cases h3:q.2=0/\w.2=0
 case neg=>
  rw[Ab h3] at hR;subst hR;by_cases h4:q.2=0<;>by_cases h5:w.2=0;all_goals first
   |(exfalso;exact h3 ⟨h4,h5⟩)
   |(refine IP ?_
     refine BJ ?_;refine Aj ?_;exact Bd)
 rw[Ad h3] at hR;subst hR;obtain⟨h4,h5⟩:=h3;refine Ct [11] 15 ([WI b9 w.1,WI b7 q.1,CH b p]) ?_ (hR:=(WM Ca Ca Ca));refine BJ ?_;refine Wb ?_;refine BJ ?_;refine Agn ?_ ?_
 ·intro S2 s2 L2;have Ig:CH b p∈AA b p s2 S2 L2:=mR λ_ h=>h;exact WM Ca Ca Ca
 intro S2 s2 L2 hS2 Gd F4 Ig;refine BJ ?_;refine Aj ?_;exact Bd
end
structure O5 where
 a:Int
 b:Int
 c:Int
 d:Int
deriving DecidableEq
abbrev msC(m:O5):Ap:=[Bb m.a,Bb m.b,Bb m.c,Bb m.d]
abbrev rm(m:O5):Value:= .agg (τ (msC m))
abbrev Vu(B:Nat)(m:O5):Bh:=(B,.cells (τ (msC m)) 55 (0,0))
abbrev u6B(B:Nat)(x:Int):Bh:=(B,.cells (τ [Bb x]) 34 (0,0))
structure NoT where
 th:Int
 co:Int
 va:Int
 ms:O5
 bd:Int
 got:Bool
 fk:Int
 fv:Int
 fw:Bool
deriving DecidableEq
abbrev R4(n:NoT):Ap:=[iV n.th,iV n.co,Bb n.va,Bb n.ms.a,Bb n.ms.b,Bb n.ms.c,Bb n.ms.d,Bb n.bd,.bool n.got,iV n.fk,Bb n.fv,.bool n.fw]
abbrev gB(n:NoT):Value:= .agg (τ (R4 n))
abbrev Vv(B:Nat)(n:NoT):Bh:=(B,.cells (τ (R4 n)) 69 (0,0))
abbrev nsC(B:Nat)(v:Value):Bh:=(B,.cells (τ [v]) 30 (0,0))
abbrev msZ:O5:=⟨0,0,0,0⟩
abbrev Kt(t:Int):NoT:=⟨t,0,0,msZ,0,false,0,0,false⟩
abbrev wU(m:O5)(bd:Int)(got:Bool)(t:Th.ThT):Th.ThT:={t with m0:=m.a,m1:=m.b,m2:=m.c,m3:=m.d,bd:=bd,got:=got,inn:=4096,wa:=0}
theorem pf(b1 b2 b3:Nat)(m:O5)(bd:Int)(got:Bool):pd prog 319 [pV b1,pV b2,pV b3] [Vu b1 m,u6B b2 bd,Yt b3 got] (wU m bd got):=by refine⟨λx t l hA=>?_⟩;have n1:Vu b1 m∈l:=hA _ (.head _);have n2:u6B b2 bd∈l:=hA _ ν;have n3:Yt b3 got∈l:=hA _ ω;refine AO func319 ntmps319 λE=>?_;refine Aj ?_;refine Ct [10,13,16,19,22] 23 (l) ?_ (hR:=(λc hc=> .tail _ hc));refine BJ ?_;exact Fd
theorem WN(b1:Nat)(u:Int):pd prog 320 [pV b1] [BX b1 u] (λt=>{t with ca:=u}):=by refine⟨λx t l hA=>?_⟩;have n1:BX b1 u∈l:=hA _ (.head _);refine AO func320 ntmps320 λE=>?_;exact Fd
abbrev gC(m:O5)(c:CapT)(gv:Int)(cl:Bool)(t:Th.ThT):Th.ThT:={t with o0:=m.a,o1:=m.b,o2:=m.c,o3:=m.d,ob:=c.badge,gv:=gv,cl:=cl,wa:=c.obj}
theorem ph(b1 b2 b3 b4:Nat)(m:O5)(c:CapT)(gv:Int)(cl:Bool):pd prog 266 [pV b1,pV b2,pV b3,pV b4] [Vu b1 m,Bw b2 c,BX b3 gv,Yt b4 cl] (gC m c gv cl):=by refine⟨λx t l hA=>?_⟩;have n1:Vu b1 m∈l:=hA _ (.head _);have n2:Bw b2 c∈l:=hA _ ν;have n3:BX b3 gv∈l:=hA _ ω;have n4:Yt b4 cl∈l:=hA _ η;refine AO func266 ntmps266 λE=>?_;refine Aj ?_;refine Ct [14,17,20,23,26] 27 (l) ?_ (hR:=(λc hc=> .tail _ hc));refine BJ ?_;exact Fd
theorem jM:pd prog 270 [] [] (λt=>{t with cl:=true}):=by refine⟨λx t l hA=>?_⟩;refine AO func270 ntmps270 λE=>?_;exact Fd
theorem pj(b1:Nat)(u:Int):pd prog 274 [pV b1] [BX b1 u] (λt=>{t with inn:=u}):=by refine⟨λx t l hA=>?_⟩;have n1:BX b1 u∈l:=hA _ (.head _);refine AO func274 ntmps274 λE=>?_;exact Fd
theorem pk(b1:Nat)(c:CapT):pd prog 275 [pV b1] [Bw b1 c] (λt=>{t with wa:=c.obj}):=by refine⟨λx t l hA=>?_⟩;have n1:Bw b1 c∈l:=hA _ (.head _);refine AO func275 ntmps275 λE=>?_;exact Fd
theorem jN:pd prog 277 [] [] (λt=>{t with wa:=0,o0:=0,o1:=0,o2:=0,o3:=0,ob:=0,gv:=4096}):=by refine⟨λx t l hA=>?_⟩;refine AO func277 ntmps277 λE=>?_;refine Aj ?_;refine Be (FR (zs:=[υ 0,υ 0,υ 0,υ 0]) (cs:=[υ 0,υ 0,υ 0,υ 0]) rfl rfl) ?_;exact Fd
theorem jO:pd prog 278 [] [] (λt=>{t with ca:=0}):=by refine⟨λx t l hA=>?_⟩;refine AO func278 ntmps278 λE=>?_;exact Fd
def O6(m:O5)(t:Th.ThT):Th.ThT:=if t.fa=true then{t with fa:=false} else{t with cl:=false,m0:=m.a,m1:=m.b,m2:=m.c,m3:=m.d,bd:=0,got:=false}
theorem dr(b1:Nat)(m:O5):pd prog 280 [pV b1] [Vu b1 m] (O6 m):=by
 refine⟨λx t l hA=>?_⟩;have n1:Vu b1 m∈l:=hA _ (.head _);unfold O6;refine AO func280 ntmps280 λE=>?_;refine Aj ?_;cases hf:t.fa with
 |true=>rw[Ad rfl];exact Fd
 |false=>rw[Ab A0];refine Aj ?_;refine Ct [7,10,13,16] 17 (l) ?_ (hR:=(λc hc=> .tail _ hc));refine BJ ?_;refine Aj ?_;exact BF [] rfl .refl Ba ⟨rfl,by rw[hf]⟩
theorem Ago:((a::cs)++c::T).Perm (a::c::(cs++T)):=List.Perm.cons _ AJ
theorem Agp{b:Bh}:(a::b::c::(cs++T)).Perm (a::b::(cs++c::T)):=List.Perm.cons _ (List.Perm.cons _ AJ.symm)
abbrev HY(xs:List NoT):Ap:=xs.flatMap R4
theorem jP(xs:List NoT)(x:NoT):HY (xs++[x])=HY xs++R4 x:=by simp[HY]
theorem R5{C:Ac}{Out:List NoT->Ac->Prop}[en:EN prog gf](hit:Z3 prog gf lb (λn:NoT=>[gB n]) C Out):Fn prog 267 [.func (.func gf) #[] (τ lb)] C λv l'=> ∃xs cs C',OwnSl 69 12 v xs.length (HY xs) cs/\Out xs C'/\l'=cs++C':=by
 refine AO func267 ntmps267 λE=>?_;refine AR λb3=>?_;refine o5 (α:=NoT) (ps:=[6]) (lb:=lb) rfl hit (λ_=>rfl) rfl (λpre l=> ∃v cs,OwnSl 69 12 v pre.length (HY pre) cs/\l=nsC b3 v::cs) [nsC b3 (.slice none 0 0)] .refl ⟨_,[],OwnSl.nil _ _,rfl⟩ ?_ ?_
 ·rintro E r0 Gb pre x l T ⟨fn,tmps,D,rfl⟩ h3 ⟨v,cs,ho,rfl⟩;refine Eh (.of_perm Ago) ?_;simp only[DY];refine AR λb4=>?_;refine CP D1 ?_;refine Eh (.of_perm Agp) ?_;refine Aj ?_;refine AP (FB (ws:=R4 x) (k:=12) rfl rfl rfl A0 A0) ?_;rintro _ _ ⟨bz,_,rfl,rfl⟩;refine Aj ?_;refine AP (HM (k:=12) (X:=[Vv b4 x,nsC b3 v]) (cs:=cs) (xs:=HY pre) (n:=pre.length) (zs:=R4 (Kt 0)) (ws:=R4 x) rfl rfl rfl ho rfl (by simp[Value.oneCell']) Af A0) ?_;rintro v2 _ ⟨N4,F0,rfl⟩;simp only[Ae,Ag];have o2:=To F0;refine Aj ?_;refine Cn (nsC b3 v2::N4) ζ ?_;exact⟨v2,N4,by rw[jP,Ah];exact F0,rfl⟩
 ·rintro D xs l C' ⟨v,cs,ho,rfl⟩ hO;simp only[Ae];refine Aj ?_;exact AU (vs:=[v]) [D] _ rfl .refl Ba ζ ⟨xs,cs,C',ho,hO,rfl⟩
abbrev rn(bl:Nat)(v:Value):Bh:=(bl,.cells (τ [v]) 491 (0,0))
abbrev lsC(gb:Nat)(ys:List Ch)(sp:Ap):Bh:=(gb,.cells (τ (Tr.scs ys++sp)) 61 (0,0))
abbrev lpB(B bl:Nat):Bh:=(B,.cells #[pV bl] 489 (0,0))
theorem gD(h:ys[i]?=some x)(sp:Ap):i*2+2<=(τ (Tr.scs ys++sp)).size/\(τ (Tr.scs ys++sp)).extract (i*2) (i*2+2)=τ (Cd x):=by obtain⟨h1,h2⟩:=Lr (enc:=Cd) (k:=2) (λ_=>rfl) sp ys i x h;refine⟨by rw[Bz];exact h2,?_⟩;rw[Fi,Co,CN];exact BM τ h1
theorem pn(bl:Nat)(l:Ac):Fn prog 325 [pV bl] l λv l'=> ∃B,v= .func (.func 361) #[] #[pV B]/\l'=lpB B bl::l:=by refine AO func325 ntmps325 λE=>?_;refine AR λB=>?_;exact Bc .refl ⟨B,rfl,rfl⟩
def NxL(B bl:Nat)(pre:List Ch)(o:Option Ch)(L:Ac):Prop:= ∃gb cap sp ys,lpB B bl∈L/\rn bl (.slice (some ⟨gb,0,none⟩) ys.length cap)∈L/\lsC gb ys sp∈L/\ys.length<=1000000/\o=ys[pre.length]?
theorem jQ(B bl:Nat):wT prog 361 [pV B] (λx:Ch=>[Fy x]) (NxL B bl):=by
 refine⟨λr I Ix W8 hY m o l X h0=>?_⟩;refine AO func361 ntmps361 λE=>?_;refine Aj ?_;refine CF (α:=Nat×Nat×List Ch×Option Ch×Ac) (λx=>[(0,.func (.yield r) #[] #[]),(1,pV B),(3,ι x.1)]) (λx=>x.2.2.2.2++X) (λx=>x.2.2.1.length=x.1/\I x.2.1 x.2.2.1 x.2.2.2.1 x.2.2.2.2) (λx=>x.2.1) (0,m,[],o,l) ⟨rfl,h0⟩ ⟨rfl,rfl,rfl,trivial⟩ .refl ?_;rintro⟨i,m,pre,o,l⟩ ⟨hi,hI⟩;simp only at hi hI⊢;obtain⟨gb,cap,sp,ys,n1,n2,n3,hl,ho⟩:=W8 _ _ _ _ X hI;rw[hi] at ho;by_cases C7:i<ys.length
 ·obtain⟨x,hx⟩: ∃x,ys[i]?=some x:=⟨_,Ak C7⟩
  rw[hx] at ho;subst ho;obtain⟨z1,z2⟩:=gD hx sp;refine Aj ?_;refine Be (Dp rfl n3 z1 z2) ?_;refine Aj ?_;have hy:=hY m pre x l X hI;refine AP (C8 rfl rfl hy) ?_;rintro v _ ⟨l1,rfl,⟨rfl,m',o',hm,Kz⟩|⟨rfl,hx⟩⟩
  ·refine Aj ?_;exact BZ (i+1,m',pre++[x],o',l1) ⟨by simp[hi],Kz⟩ hm ⟨rfl,rfl,rfl,trivial⟩ .refl
  ·refine Aj ?_;exact Bc .refl ⟨l1,rfl,.inr ⟨_,hx⟩⟩
 ·rw[Bi Af] at ho;subst ho;refine Aj ?_;exact Bc .refl ⟨l,rfl,.inl ⟨m,pre,hI⟩⟩
def zE(S:KT)(id:Int):KT:=DZ S {DJ S id with ca:=0}
def endT(S:KT)(id:Int):KT:=if Mw S id=true/\¬(DJ S id).ca=0 then zE (I9 S (DJ S id).ca).2 id else S
def K8(S:KT)(c:CapT):KT:=
 if c.kind=4\/c.kind=5\/c.kind=6 then(Qk S c.obj).2
 else if c.kind=8 then(En.listD S.E c.obj).1.foldl (λS t=>(I9 S t).2) S
 else if c.kind=9 then endT (I9 S c.obj).2 c.obj
 else S
def jR(S:KT)(x:Ch):Bool:=decide ((getD' S.H.1 x).2=0)&&!decide ((Ep S x).kind=0)
def Mx(S:KT)(c:CapT)(n:Nat):List Ch:=((List.range n).map λi=>(c.obj,((i:Nat):Int))).filter (jR S)
def My(S:KT)(c:CapT):List Ch:=Mx S c (Ar.slotsD c.kind (Ar.getD' S.A c.obj).1.sz).toNat
theorem gE(k z:Int):0<=Ar.slotsD k z/\Ar.slotsD k z<=16:=by unfold Ar.slotsD;(repeat' split)<;>omega
theorem WO(S:KT)(c:CapT)(n:Nat):(Mx S c n).length<=n:=B9 (Db _ _) (by simp)
theorem Sq(S:KT)(c:CapT)(n:Nat):Mx S c (n+1)=Mx S c n++(if jR S (c.obj,n)=true then[(c.obj,(n:Int))] else[]):=by unfold Mx;rw[Cx,At,DM,AK,CZ,FJ,List.filter_nil]
theorem po(h:OwnSl e 2 v (ys.length+1) (Tr.scs ys++Cd x) cs):OwnSl e 2 v (ys++[x]).length (Tr.scs (ys++[x])) cs:=by rw[Tr.scs_snoc,Ah];exact h
theorem WP{U:A8}(h:j<U.length):U.take (j+1)=U.take j++[U.getD j 0]:=by rw[BP,List.getD,Ak h];rfl
section
theorem gF(h:OwnSl e k v n xs cs):n<=9223372036854775807:=by
 have hm:maxLen<=9223372036854775807:=by decide
 rcases h.2 with⟨_,rfl,_⟩|⟨_,cap,_,_,_,h1,h2,_⟩<;>omega
theorem zF{X d:Bh}:([X]++(c::d::AA b p s S G)).Perm (c::d::AA b p s S (X::G)):=by unfold AA;exact δ
theorem Adi(hK:IsK F C k S p s)(c:CapT)(bl:Nat)(v:Value)(ys:List Ch)(cs:Ac)(aN:ys.length<=500000)(ho:OwnSl 61 2 v ys.length (Tr.scs ys) cs):
 Fn prog 328 [pV b,pV bl,Vs c] (rn bl v::(cs++AA b p s S G)) λv' l'=>v'= .tuple #[]/\ ∃v2 N4 s' L,OwnSl 61 2 v2 (ys++My (K8 S c) c).length (Tr.scs (ys++My (K8 S c) c)) N4/\IsK F C k (K8 S c) p s'/\Tail L G/\l'=rn bl v2::(N4++AA b p s' (K8 S c) L):=by
 refine Fn.keep (l':=rn bl v::AA b p s S (cs++G)) (.of_perm (List.Perm.cons _ (Fv ..))) ?_;have mr:CH b p∈AA b p s S (cs++G):=mR λ_ h=>h;obtain⟨R,hR⟩:=ξ (K8 S c)
 rw[hR];unfold K8 at hR;refine AO func328 ntmps328 λE=>?_;refine Aj ?_
 (first|refine AP (EA rfl rfl) ?_|refine AP (Cw rfl) ?_);rintro _ _ ⟨b5,_,rfl,rfl⟩
 refine VW ?_;refine Ou ?_;refine bE (α:=KT×RL×Ac) (λ_=>[(0,pV b),(1,pV bl),(5,pV b5)]) (λx=>Bw b5 c::rn bl v::(cs++AA b p x.2.1 x.1 x.2.2)) (λx=>x.1=R/\IsK F C k x.1 p x.2.1/\Tail x.2.2 G) ?_ ?_
 ·refine Aj ?_;by_cases h4:c.kind=4\/c.kind=5\/c.kind=6
  ·rw[Ad h4] at hR;rcases h4 with h|h|h;all_goals
    refine Aj ?_;refine Gt ?_;intro S1 s1 L1 Er ED DO G6;refine Aj ?_;obtain⟨L2,Qr,hp⟩:=Hr (b:=b) (p:=p) (s:=s1) (S:=S1) DO;exact EM (S1,s1,L2) ⟨Er.trans hR,ED,Qr⟩ ⟨rfl,rfl,rfl,trivial⟩ (.of_perm (.cons _ (.cons _ hp)))
  rw[Ab h4] at hR;by_cases h8:c.kind=8
  ·rw[Ad h8] at hR;refine Aj ?_;refine CC (Cy [4] 0 10) ?_;refine CG ?_;refine LP (Az rfl rfl (En.list_any p.e S.E s.E c.obj hK.en hK.el9 _ λx hx=> .tail _ (.tail _ (mE (λ_ h=>h) x hx)))) ?_ rfl rfl;rintro _ _ ⟨sl,cw,rfl,hw,rfl⟩;obtain⟨W,hW⟩:=ξ ((En.listD S.E c.obj).1)
   rw[hW] at hR hw;refine CG ?_;by_cases hW0:W.length=0
   ·obtain⟨pp,cap,ei⟩:=hw.shape;rw[hW0] at ei;rw[GG.1 hW0] at hR;rw[ei];refine Aj ?_;refine Io 0 ?_;refine Aj ?_;obtain⟨L2,Qr,hp⟩:=Hr (b:=b) (p:=p) (s:=s) (S:=S) (Tail.nil (G:=cs++G));exact EM (S,s,L2) ⟨hR,hK,Qr⟩ ⟨rfl,rfl,rfl,trivial⟩ (Keep.trans (Keep.dropL' cw .refl) (.of_perm (.cons _ (.cons _ hp))))
   obtain⟨gw,cap,sw,rfl,rfl⟩:=NO hw Af;have hwl:=gF hw;refine Aj ?_;refine CF (α:=Nat×KT×RL×Ac) (λx=>[(0,pV b),(1,pV bl),(5,pV b5),(38,.slice (some ⟨gw,0,none⟩) W.length cap),(39,ι (W.length:Nat)),(40,ι x.1)]) (λx=>Bw b5 c::rn bl v::AA b p x.2.2.1 x.2.1 x.2.2.2) (λx=>x.1<=W.length/\x.2.1=(W.take x.1).foldl (λS t=>(I9 S t).2) S/\IsK F C k x.2.1 p x.2.2.1/\Tail x.2.2.2 (Od gw W sw::(cs++G))) (λx=>W.length-x.1) (0,S,s,Od gw W sw::(cs++G)) ⟨Bm _,rfl,hK,.nil⟩ ⟨rfl,rfl,rfl,rfl,rfl,rfl,trivial⟩ (.of_perm zF) ?_;rintro⟨i,S1,s1,L1⟩ ⟨hi,Er,ED,DO⟩;simp only at hi Er ED DO⊢;have G6:CH b p∈AA b p s1 S1 L1:=mR λ_ h=>h;have mw:Od gw W sw∈AA b p s1 S1 L1:=mG (λ_ h=>h) _ (by obtain⟨X,rfl⟩:=DO;simp);by_cases C7:i<W.length
   ·obtain⟨t,ht⟩:=ξ (W.getD i 0)
    have c0:(τ (W.map CU++sw))[i*1]?=some (ι t):=by rw[Dw,<-ht];exact Sj C7
    refine Aj ?_;refine Gt ?_;intro S2 s2 L2 hS2 Gd F4 Ig;refine Aj ?_;exact BZ (i+1,S2,s2,L2) ⟨by simp only;omega,by simp only;rw[WP C7,El,<-Er,ht];exact hS2,Gd,F4.trans DO⟩ (by simp only;omega) ⟨rfl,rfl,rfl,rfl,rfl,rfl,trivial⟩ .refl
   ·rw[BD Af] at Er;refine Aj ?_;obtain⟨L2,Qr,hp⟩:=Hr (b:=b) (p:=p) (s:=s1) (S:=S1) (DO.trans (Tail.nil.cons));exact EM (S1,s1,L2) ⟨Er.trans hR,ED,Qr⟩ ⟨rfl,rfl,rfl,trivial⟩ (.of_perm (.cons _ (.cons _ hp)))
  rw[Ab h8] at hR;by_cases h9:c.kind=9
  case neg=>rw[Ab h9] at hR;refine Aj ?_;obtain⟨L2,Qr,hp⟩:=Hr (b:=b) (p:=p) (s:=s) (S:=S) (Tail.nil (G:=cs++G));exact EM (S,s,L2) ⟨hR,hK,Qr⟩ ⟨rfl,rfl,rfl,trivial⟩ (.of_perm (.cons _ (.cons _ hp)))
  rw[Ad h9] at hR;refine Aj ?_;refine Gt ?_;intro S1 s1 L1 Er ED DO G6;rw[<-Er] at hR;unfold endT Mw at hR;refine Aj ?_;refine CC (Cy [8,9] 0 11) ?_;refine CG ?_;obtain⟨t,ht⟩:=ξ (DJ S1 c.obj)
  obtain⟨ok,Dh⟩:=ξ ((Th.findH S1.T c.obj).isSome)
  rw[ht,Dh] at hR⊢;refine Is e_alloc (by rintro _ _ ⟨_,_,_,rfl⟩ c hc;exact .tail _ hc) ?_;rintro _ _ ⟨GW,_,rfl,rfl⟩;refine CG ?_;by_cases h2:ok=true/\¬t.ca=0
  case neg=>
   rw[Ab h2] at hR;obtain⟨L2,Qr,hp⟩:=Hr (b:=b) (p:=p) (s:=s1) (S:=S1) DO;cases ok<;>by_cases h3:t.ca=0;all_goals first
    |(exfalso;simp[h3] at h2;done)
    |(refine Aj ?_
      exact EM (S1,s1,L2) ⟨hR,ED,Qr⟩ ⟨rfl,rfl,rfl,trivial⟩ (.drop (.of_perm (.cons _ (.cons _ hp)))))
  rw[Ad h2] at hR;obtain⟨rfl,h3⟩:=h2;refine Aj ?_;refine Gt ?_;intro S2 s2 L2 hS2 Gd F4 Ig;rw[<-hS2] at hR;unfold zE at hR;refine Aj ?_;refine CC (Cy [8] 0 9) ?_;refine CG ?_;have JL:=Gd.tO c.obj;obtain⟨t2,aR⟩: ∃t,DJ S2 c.obj=t:=⟨_,rfl⟩
  rw[aR] at hR JL⊢;refine CG ?_;refine Aj ?_;refine CC (Cy [3] 0 4) ?_;refine CG ?_;refine Na (q:=O2 {t2 with ca:=0} ⟨JL.out⟩) ?_;intro S3 s3 L3 hS3 M8 Lo Qv;refine CG ?_;refine Aj ?_;obtain⟨L4,hL4,hp⟩:=Hr (b:=b) (p:=p) (s:=s3) (S:=S3) (Lo.trans (F4.trans DO));exact EM (S3,s3,L4) ⟨hS3.trans hR,M8,hL4⟩ ⟨rfl,rfl,rfl,trivial⟩ (.drop (.of_perm (.cons _ (.cons _ hp))))
 rintro⟨S1,s1,L1⟩ ⟨Er,ED,DO⟩;simp only at Er ED DO⊢;rw[<-Er];have I: ∀cq,∀{f:Nat} {vs:Ap} {v:Value} [QF prog f vs (AA b p s1 S1 L1) v],QF prog f vs (cq++AA b p s1 S1 L1) v:=λcq=>aG λc hc=>Aa _ hc;have I1:=λ{f:Nat} {vs:Ap} {v:Value}=> @I cs f vs v;refine Aj ?_;refine CC (Cy [8,9] 0 11) ?_;refine CG ?_;obtain⟨o,Gc⟩:=ξ ((Ar.getD' S1.A c.obj).1)
 unfold My;rw[Gc];refine Is e_alloc (by rintro _ _ ⟨_,_,_,rfl⟩ c hc;exact .tail _ hc) ?_;rintro _ _ ⟨Ty,_,rfl,rfl⟩;refine CG ?_;refine Aj ?_;refine EO ?_;obtain⟨n0,n16⟩:=gE c.kind o.sz;obtain⟨n,hn⟩: ∃n:Nat,Ar.slotsD c.kind o.sz=n:=⟨(Ar.slotsD c.kind o.sz).toNat,Af⟩
 rw[hn] at n0 n16⊢;rw[AV];refine Aj ?_;refine CF (α:=Nat×Value×Ac) (λx=>[(0,pV b),(1,pV bl),(5,pV b5),(97,ι (n:Nat)),(98,ι x.1)]) (λx=>Bw b5 c::rn bl x.2.1::(x.2.2++AA b p s1 S1 L1)) (λx=>x.1<=n/\OwnSl 61 2 x.2.1 (ys++Mx S1 c x.1).length (Tr.scs (ys++Mx S1 c x.1)) x.2.2) (λx=>n-x.1) (0,v,cs) ⟨Bm _,by simpa[Mx] using ho⟩ ⟨rfl,rfl,rfl,rfl,rfl,trivial⟩ ζ ?_;rintro⟨i,w,cw⟩ ⟨hi,how⟩;simp only at hi how⊢;have I1:=λ{f:Nat} {vs:Ap} {v:Value}=> @I cw f vs v;by_cases C7:i<n
 case neg=>
  obtain rfl:i=n:=by omega
  refine Aj ?_;exact CY _ .refl ζ ⟨rfl,w,cw,s1,L1,how,ED,DO,rfl⟩
 obtain⟨h,hh⟩:=ξ ((getD' S1.H.1 (c.obj,(i:Int))).1)
 obtain⟨e,he⟩:=ξ ((getD' S1.H.1 (c.obj,(i:Int))).2)
 have hs:jR S1 (c.obj,(i:Int))=(decide (e=0)&&!decide (h.kind=0)):=by unfold jR;rw[he,show Ep S1 (c.obj,(i:Int))=h from hh]
 refine AR λYD=>?_;refine CC (Cy [7,8] 0 10) ?_;refine CG ?_;rw[hh,he];refine Is e_alloc (by rintro _ _ ⟨_,_,_,rfl⟩ c hc;exact .tail _ hc) ?_;rintro _ _ ⟨Qt,_,rfl,rfl⟩;refine CG ?_;by_cases h0:e=0/\¬h.kind=0
 case neg=>
  have qS:jR S1 (c.obj,(i:Int))=false:=by rw[hs];simpa using h0
  by_cases h1:e=0<;>by_cases h2:h.kind=0;all_goals first
   |(exfalso;exact h0 ⟨h1,h2⟩)
   |(refine Aj ?_
     exact BZ (i+1,w,cw) ⟨by simp only;omega,by simp only;rw[Sq,qS,Ab A0,Bj];exact how⟩ (by simp only;omega) ⟨rfl,rfl,rfl,rfl,rfl,trivial⟩ θ)
 obtain⟨h1,h2⟩:=h0;have qS:jR S1 (c.obj,(i:Int))=true:=by rw[hs];simp[h1,h2]
 refine Aj ?_;refine CC (Cy [6,7,10] 0 11) ?_;refine CG ?_;refine Is (FB (ws:=Cd (c.obj,(i:Int))) (k:=2) rfl rfl rfl A0 A0) ?_ ?_ rfl rfl
 ·rintro _ _ ⟨_,_,_,rfl⟩ c hc;exact .tail _ hc
 rintro _ _ ⟨bx,_,rfl,rfl⟩;refine CG ?_;refine LP (HM (k:=2) (X:=[Bw Qt h,(YD,Obj.cells (τ (Cd (c.obj,(i:Int)))) 61 (0,0)),Bw b5 c,rn bl w]) (cs:=cw) (xs:=Tr.scs (ys++Mx S1 c i)) (n:=(ys++Mx S1 c i).length) (zs:=Cd (0,0)) (ws:=Cd (c.obj,(i:Int))) rfl rfl rfl how rfl (by simp[Value.oneCell']) (by have:=WO S1 c i;rw[Ah];omega) A0) ?_ rfl rfl;rintro w2 _ ⟨cw2,how2,rfl⟩;have o2:=To how2;simp only[Ae,Ag];refine CG ?_;refine Aj ?_;exact BZ (i+1,w2,cw2) ⟨by simp only;omega,by simp only;rw[Sq,qS,Ad rfl,<-Am];exact po how2⟩ (by simp only;omega) ⟨rfl,rfl,rfl,rfl,rfl,trivial⟩ θ
end
abbrev Mz(S:KT):Nat:=S.H.2.length
theorem Adk(S:KT)(id st:Int):(O1 S id st).2.H=S.H:=by unfold O1;(repeat' split)<;>rfl
theorem Adl(S:KT)(id:Int):(ze S id).H=S.H:=by unfold ze;split<;>rfl
theorem Tp(S:KT)(id:Int):(I9 S id).2.H=S.H:=by
 unfold I9 haltE
 split
 ·rfl
 ·rw[Adk];exact Adl _ _
theorem zG(S:KT)(id:Int):(Qk S id).2.H=S.H:=by
 unfold Qk Sk Z0
 (repeat' split)<;>rfl
theorem pu(l:A8)(S:KT):(l.foldl (λS t=>(I9 S t).2) S).H=S.H:=by
 induction l generalizing S with
 |nil=>rfl
 |cons a l ih=>rw[Ev,ih,Tp]
theorem zH(S:KT)(c:CapT):(K8 S c).H=S.H:=by
 unfold K8
 split
 ·exact zG _ _
 split
 ·exact pu _ _
 split
 ·unfold endT zE
  split
  ·show(I9 _ _).2.H=_;rw[Tp,Tp]
  ·exact Tp _ _
 ·rfl
theorem uq(S:KT)(c:CapT):(M5 S c).H=S.H:=by unfold M5 oT;split<;>rfl
theorem Ur(d:Int)(B:Tr.DT):(Tr.decW d B).length=B.length:=by unfold Tr.decW;have:=BM List.length (Ci (p:=λx:Ch×Int=>decide (d<x.2)) (l:=B));simp only[Ah,A5] at this⊢;exact this
theorem dt(hI:InvH H n)(h:(D3 H x).1.2=0):(D3 H x).2.2.length+1=H.2.length:=by
 unfold D3 at h⊢
 split at h
 ·cases h
 rename_i h1;rw[Ab h1]
 split at h
 ·cases h
 rename_i h2;rw[Ab h2];have h3:=(hI.link x).2 ⟨by simpa using h1,h2⟩;unfold Tr.hasD at h3;dsimp only;unfold Tr.removeD;cases hs:Tr.splitD x H.2 with
 |none=>rw[hs] at h3;cases h3
 |some y=>obtain⟨A,d,B⟩:=y;obtain⟨h4,_⟩:=Tr.splitD_some hs;dsimp only;rw[h4,Ah,Ah,Ur,By];omega
theorem du(h:¬(D3 H x).1.2=0):(D3 H x).2=H:=by
 unfold D3 at h⊢
 split
 ·rfl
 ·rename_i h1;rw[Ab h1] at h
  split
  ·rfl
  ·rename_i h2;rw[Ab h2] at h;exact absurd rfl h
def dropX(S:KT)(x:Ch):KT:=if(D3 S.H x).1.1.kind=3 then M5 {S with H:=(D3 S.H x).2} (D3 S.H x).1.1 else{S with H:=(D3 S.H x).2}
def dropR:Nat->KT->List Ch->A8->Nat->KT×A8×Nat
 |0,S,_,es,n=>(S,es,n)
 |_+1,S,[],es,n=>(S,es,n)
 |m+1,S,x::ys,es,n=>
  if ¬(D3 S.H x).1.2=0 then dropR m {S with H:=(D3 S.H x).2} ys es n
  else if J8 S.H x=false\/(D3 S.H x).1.1.obj=0 then dropR m (dropX S x) ys es (n+1)
  else dropR m (K8 (dropX S x) (D3 S.H x).1.1) (ys++My (K8 (dropX S x) (D3 S.H x).1.1) (D3 S.H x).1.1) (es++[(D3 S.H x).1.1.obj]) (n+1)
theorem WQ(m:Nat)(S:KT)(es:A8)(n:Nat):dropR m S [] es n=(S,es,n):=by cases m<;>rfl
def pw(S:KT)(l:A8):KT:=l.foldl (λS id=>(SG S id).2) S
def PW(S:KT)(x:Ch):Nat×KT:=((dropR (17*Mz S+1) S [x] [] 0).2.2,HW (pw (dropR (17*Mz S+1) S [x] [] 0).1 (dropR (17*Mz S+1) S [x] [] 0).2.1))
section
theorem zI{lo B:Ac}{r:Nat}{o:Obj}:((lo++(A++(B++AA b p s S L)))++(r,o)::T).Perm (lo++(r,o)::AA b p s S (A++(B++(L++T)))):=by unfold AA;exact δ
end
end Go.Proofs.YtlifcingifodfaaGreat
