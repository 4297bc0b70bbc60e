/- Laws that the statement's proof leans on (joined out of several texts). -/
import Derived.Test.YtlkgekpmileobaaGreatGb8
import Derived.Test.YtlkgekpmileobaaGreatGb38
import Derived.Test.YtlkgekpmileobaaGreatGb10
set_option linter.unusedVariables false
set_option linter.unusedSimpArgs false
namespace Go.Proofs.YtlkgekpmileobaaGreat
open Tryz
open List(toArray)
open Go.RowKit
set_option maxRecDepth 20000
variable{F C k b:Nat}{S:KT}{p:RP}{s:RL}{G:List Ab}
abbrev Ym(a b c d:Nat):List Value:=[.int .i64 (a:Nat),.int .i64 (b:Nat),.int .i64 (c:Nat),.int .i64 (d:Nat)]
def oO(w:Nat):List Value:=if 32768<=w then Ym 0 0 0 0 else Ym (DN w 12 3) (DN w 9 3) (DN w 6 3) (DN w 0 6)
theorem Nv(w a n:Nat):DN w a n<2^n:=Gy _ (Gb n)
theorem bY(w:Nat)(hw:w<18446744073709551616)(l:List Ab):Fn prog 256 [.int .u64 (w:Nat)] l λv l'=>v= .tuple #[.agg (toArray (oO w)),iV (if 32768<=w then 3 else 0)]/\l'=l:=by
 have f1:=Nv w 12 3;have f2:=Nv w 9 3;have f3:=Nv w 6 3;have f4:=Nv w 0 6;unfold oO;refine AO func256 ntmps256 λE=>?_;refine AQ λb2=>?_;by_cases h1:32768<=w
 ·rw[Ae h1,Ae h1];refine Aj ?_;exact AU [] _ rfl .refl (Cq rfl (.head _) (As.LSub.of_all (n:=4) (Ym 0 0 0 0) rfl) (by exact A7)) (.drop .refl) ⟨rfl,rfl⟩
 rw[Ac h1,Ac h1];refine AQ λb4=>?_;refine Hb 3 ?_;refine Aj ?_;refine Bc (AK rfl rfl λl2 _=>IK w 12 3 hw AW AW AW l2) ?_;obtain⟨x1,hx1⟩: ∃x,DN w 12 3=x:=⟨_,rfl⟩
 rw[hx1] at f1⊢;refine Aj ?_;refine LV (FP (cs:=Ym 0 0 0 0) (cs':=Ym x1 0 0 0) rfl rfl rfl (.head _) (by exact .zero) (by exact .here)) rfl rfl ?_;rintro _ _ ⟨rfl,rfl⟩;refine Aj ?_;refine Ew ?_;refine Aj ?_;refine Bc (AK rfl rfl λl2 _=>IK w 9 3 hw AW AW AW l2) ?_;obtain⟨x2,hx2⟩: ∃x,DN w 9 3=x:=⟨_,rfl⟩
 rw[hx2] at f2⊢;refine Aj ?_;refine LV (FP (cs:=Ym x1 0 0 0) (cs':=Ym x1 x2 0 0) rfl rfl rfl (.head _) (by exact .succ .zero) (by exact .here)) rfl rfl ?_;rintro _ _ ⟨rfl,rfl⟩;refine Aj ?_;refine Ew ?_;refine Aj ?_;refine Bc (AK rfl rfl λl2 _=>IK w 6 3 hw AW AW AW l2) ?_;obtain⟨x3,hx3⟩: ∃x,DN w 6 3=x:=⟨_,rfl⟩
 rw[hx3] at f3⊢;refine Aj ?_;refine LV (FP (cs:=Ym x1 x2 0 0) (cs':=Ym x1 x2 x3 0) rfl rfl rfl (.head _) (by exact .succ (.succ .zero)) (by exact .here)) rfl rfl ?_;rintro _ _ ⟨rfl,rfl⟩;refine Aj ?_;refine Ew ?_;refine Aj ?_;refine Bc (AK rfl rfl λl2 _=>IK w 0 6 hw AW AW AW l2) ?_;obtain⟨x4,hx4⟩: ∃x,DN w 0 6=x:=⟨_,rfl⟩
 rw[hx4] at f4⊢;have g0:(toArray (Ym x1 x2 x3 0))[0+(0:Int).toNat*1]?=some (.int .i64 (x1:Nat)):=rfl;have g1:(toArray (Ym x1 x2 x3 0))[0+(1:Int).toNat*1]?=some (.int .i64 (x2:Nat)):=rfl;have g2:(toArray (Ym x1 x2 x3 0))[0+(2:Int).toNat*1]?=some (.int .i64 (x3:Nat)):=rfl;refine Aj ?_;exact AU [] _ rfl .refl (Cq rfl (.tail _ (.head _)) (As.LSub.of_all (n:=4) (Ym x1 x2 x3 x4) rfl) (by exact A7)) (.drop (.drop .refl)) ⟨rfl,rfl⟩
section
def oP(w:Int):List Value:=oO w.toNat
def oQ(w:Int):Int:=if 32768<=w.toNat then 3 else 0
instance{w:Int}[hu:U6 w]{l:List Ab}:QF prog 256 [Ba w] l (.tuple #[.agg (toArray (oP w)),iV (oQ w)]):=⟨λl _=>by
 obtain⟨n,rfl⟩: ∃n:Nat,w=n:=⟨w.toNat,by have:=hu.out.1;omega⟩
 exact bY n (by have:=hu.out.2;omega) l⟩
def uT(x:Lt)(va:Int):Int:=IntKind.u64.wrap (IntKind.i64.wrap (IntKind.i64.wrap (x.fr*64)+(DN va.toNat 0 6:Nat)))
def ES(S:KT)(core va:Int)(wr:Bool):(Int×Int)×KT:=
 if 32768<=va.toNat then((0,1),S) else if ¬va%8=0 then((0,2),S) else if ¬(NN S.K core).2.2=0\/(NN S.K core).1<0 then((0,3),S)
 else if ¬(DD S.K S.W core (Gr va).1).1.2.2=0 then((0,4),{S with K:=(DD S.K S.W core (Gr va).1).2})
 else if(wr=true/\(DD S.K S.W core (Gr va).1).1.1.wr=false)\/(wr=false/\(DD S.K S.W core (Gr va).1).1.1.rd=false) then((0,5),{S with K:=(DD S.K S.W core (Gr va).1).2})
 else((uT (DD S.K S.W core (Gr va).1).1.1 va,0),{S with K:=(DD S.K S.W core (Gr va).1).2})
theorem kS(hK:IsK F C k S p s)(core va:Int)[hu:U6 va](wr:Bool):Fn prog 201 [pV p.c,pV p.m,.int .i64 core,Ba va,.bool wr] (Av b p s S G) (KK F C b p k (.tuple #[Ba (ES S core va wr).1.1,iV (ES S core va wr).1.2]) (ES S core va wr).2 G):=by
 have mr:Co b p∈Av b p s S G:=mR λ_ h=>h;obtain⟨u0,u1⟩:=hu.out;obtain⟨R,hR⟩: ∃R,ES S core va wr=R:=⟨_,rfl⟩
 rw[hR];unfold ES at hR;refine AO func201 ntmps201 λE=>?_;refine Aj ?_;refine Hb 1 ?_;refine Aj ?_;refine Ea ?_;refine Aj ?_;by_cases h1:32768<=va.toNat
 ·rw[Ae h1] at hR;subst hR;rw[show oQ va=3 from Ae h1,show oP va=Ym 0 0 0 0 from Ae h1];refine AQ λb14=>?_;exact A4
 rw[Ac h1] at hR;rw[show oQ va=0 from Ac h1,show oP va=Ym (DN va.toNat 12 3) (DN va.toNat 9 3) (DN va.toNat 6 3) (DN va.toNat 0 6) from Ac h1];obtain⟨x1,hx1⟩: ∃x,DN va.toNat 12 3=x:=⟨_,rfl⟩
 obtain⟨x2,hx2⟩: ∃x,DN va.toNat 9 3=x:=⟨_,rfl⟩
 obtain⟨x3,hx3⟩: ∃x,DN va.toNat 6 3=x:=⟨_,rfl⟩
 obtain⟨x4,hx4⟩: ∃x,DN va.toNat 0 6=x:=⟨_,rfl⟩
 rw[hx1,hx2,hx3,hx4];refine AQ λb14=>?_;by_cases h2:va%8=0
 case neg=>rw[Ae h2] at hR;subst hR;refine Aj ?_;exact A4
 rw[Ac (by simpa using h2)] at hR;refine Aj ?_;refine Ea ?_;obtain⟨r,hr⟩: ∃r,NN S.K core=r:=⟨_,rfl⟩
 rw[hr] at hR⊢;refine Aj ?_;by_cases h3:¬r.2.2=0\/r.1<0
 ·rw[Ae h3] at hR;subst hR;by_cases h4:r.2.2=0<;>by_cases h5:r.1<0;all_goals first
   |(exfalso;omega)
   |(refine Aj ?_
     exact A4)
 rw[Ac h3] at hR;obtain⟨h4,h5⟩:r.2.2=0/\¬r.1<0:=by omega
 refine Aj ?_;refine Ea ?_;refine Aj ?_;try simp only[AL,AI,AN]
 refine Fy ?_;intro S1 s1 L1 hS1 hK1 hT1 mr1;obtain⟨t,ht⟩: ∃t,DD S.K S.W core (Gr va).1=t:=⟨_,rfl⟩
 rw[ht] at hR hS1⊢;rw[<-hS1] at hR;refine AQ λb20=>?_;by_cases h6:t.1.2.2=0
 case neg=>rw[Ae h6] at hR;subst hR;refine Aj ?_;exact A4
 rw[Ac (by simpa using h6)] at hR;by_cases h7:(wr=true/\t.1.1.wr=false)\/(wr=false/\t.1.1.rd=false)
 ·rw[Ae h7] at hR;subst hR;cases wr<;>cases h8:t.1.1.wr<;>cases h9:t.1.1.rd;all_goals first
   |(exfalso;simp[h8,h9] at h7;done)
   |(refine Aj ?_
     exact A4)
 rw[Ac h7] at hR;subst hR;cases wr<;>cases h8:t.1.1.wr<;>cases h9:t.1.1.rd;all_goals first
  |(exfalso;simp[h8,h9] at h7;done)
  |(refine Aj ?_
    refine Bc (je rfl rfl) ?_;refine Aj ?_;refine Bc (jd rfl rfl) ?_;refine Aj ?_;refine Bc (Ol rfl) ?_;refine Aj ?_;refine Ew ?_;refine Aj ?_;unfold uT;rw[hx4];exact A4)
end
section
instance{core va:Int}[hu:U6 va]{wr:Bool}:EK prog F C b p 201 [pV p.c,pV p.m,.int .i64 core,Ba va,.bool wr] k S k (.tuple #[Ba (ES S core va wr).1.1,iV (ES S core va wr).1.2]) (ES S core va wr).2:=⟨λs G h=>kS h core va wr⟩
abbrev W6(kd va:Int)(wr:Bool):List Value:=[iV kd,Ba va,.bool wr]
theorem oR(x:Int):U6 (IntKind.u64.wrap x):=⟨by rw[dP];exact⟨Af,Af⟩⟩
theorem gn(S:KT)(core va:Int)(wr:Bool):U6 (ES S core va wr).1.1:=by
 unfold ES
 repeat' split
 all_goals first
  |exact(⟨by decide,by decide⟩:U6 0)
  |exact oR _
def dg(kd va:Int)(wr:Bool):List Value:=if kd=0 then W6 0 0 false else W6 kd va wr
def go(S:KT)(core va:Int):(Int×Int)×KT:=
 if ¬(ES S core va false).1.2=0 then((0,(ES S core va false).1.2),(ES S core va false).2)
 else if ¬(Np (ES S core va false).2.W (ES S core va false).1.1).2=0 then((0,4),(ES S core va false).2)
 else(((Np (ES S core va false).2.W (ES S core va false).1.1).1,0),(ES S core va false).2)
theorem kT(hK:IsK F C k S p s)(core va:Int)[hu:U6 va]:Fn prog 156 [pV p.c,pV p.m,.int .i64 core,Ba va] (Av b p s S G) (KK F C b p k (.tuple #[Ba (go S core va).1.1,.agg (toArray (dg (go S core va).1.2 va false))]) (go S core va).2 G):=by
 have mr:Co b p∈Av b p s S G:=mR λ_ h=>h;have hU:=gn S core va false;obtain⟨R,hR⟩: ∃R,go S core va=R:=⟨_,rfl⟩
 rw[hR];unfold go at hR;refine AO func156 ntmps156 λE=>?_;refine AQ λb9=>?_;refine Fy ?_;intro S1 s1 L1 hS1 hK1 hT1 mr1;obtain⟨q,hq⟩: ∃q,ES S core va false=q:=⟨_,rfl⟩
 rw[hq] at hR hS1 hU⊢;rw[<-hS1] at hR;refine Aj ?_;by_cases h1:q.1.2=0
 case neg=>rw[Ae h1] at hR;subst hR;rw[show dg q.1.2 va false=W6 q.1.2 va false from Ac h1];refine Aj ?_;exact A4 (h:= .tmp rfl (Cq rfl (.head _) (As.LSub.of_all (n:=3) (W6 q.1.2 va false) rfl) .nil))
 rw[Ac (by simpa using h1)] at hR;refine Aj ?_;try simp only[AL,AI,AN]
 refine Ea ?_;obtain⟨w,hw⟩: ∃w,Np S1.W q.1.1=w:=⟨_,rfl⟩
 rw[hw] at hR⊢;refine Aj ?_;by_cases h2:w.2=0
 case neg=>rw[Ae h2] at hR;subst hR;rw[show dg 4 va false=W6 4 va false from rfl];refine Aj ?_;exact A4 (h:= .tmp rfl (Cq rfl (.head _) (As.LSub.of_all (n:=3) (W6 4 va false) rfl) .nil))
 rw[Ac (by simpa using h2)] at hR;subst hR;refine Aj ?_;exact A4 (h:= .tmp rfl (Cq rfl (.head _) (As.LSub.of_all (n:=3) (W6 0 0 false) rfl) .nil))
instance{core va:Int}[hu:U6 va]:EK prog F C b p 156 [pV p.c,pV p.m,.int .i64 core,Ba va] k S k (.tuple #[Ba (go S core va).1.1,.agg (toArray (dg (go S core va).1.2 va false))]) (go S core va).2:=⟨λs G h=>kT h core va⟩
end
section
def iS(S:KT)(core va v:Int):Int×KT:=
 if ¬(ES S core va true).1.2=0 then((ES S core va true).1.2,(ES S core va true).2)
 else(if(bD (ES S core va true).2.W (ES S core va true).1.1 v).1=0 then 0 else 4,{(ES S core va true).2 with W:=(bD (ES S core va true).2.W (ES S core va true).1.1 v).2})
theorem gp(hK:IsK F C k S p s)(core va v:Int)[hu:U6 va][hv:U6 v]:Fn prog 155 [pV p.c,pV p.m,.int .i64 core,Ba va,Ba v] (Av b p s S G) (KK F C b p k (.agg (toArray (dg (iS S core va v).1 va true))) (iS S core va v).2 G):=by
 have mr:Co b p∈Av b p s S G:=mR λ_ h=>h;have hU:=gn S core va true;obtain⟨R,hR⟩: ∃R,iS S core va v=R:=⟨_,rfl⟩
 rw[hR];unfold iS at hR;refine AO func155 ntmps155 λE=>?_;refine AQ λb9=>?_;refine Fy ?_;intro S1 s1 L1 hS1 hK1 hT1 mr1;obtain⟨q,hq⟩: ∃q,ES S core va true=q:=⟨_,rfl⟩
 rw[hq] at hR hS1 hU⊢;rw[<-hS1] at hR;refine Aj ?_;by_cases h1:q.1.2=0
 case neg=>rw[Ae h1] at hR;subst hR;rw[show dg q.1.2 va true=W6 q.1.2 va true from Ac h1];refine Aj ?_;exact A4 (h:=Cq rfl (.head _) (As.LSub.of_all (n:=3) (W6 q.1.2 va true) rfl) .nil)
 rw[Ac (by simpa using h1)] at hR;refine Aj ?_;try simp only[AL,AI,AN]
 refine Fy ?_;intro S2 s2 L2 hS2 hK2 hT2 mr2;obtain⟨w,hw⟩: ∃w,bD S1.W q.1.1 v=w:=⟨_,rfl⟩
 rw[hw] at hR hS2⊢;rw[<-hS2] at hR;by_cases h2:w.1=0
 case neg=>rw[Ac h2] at hR;subst hR;rw[show dg 4 va true=W6 4 va true from rfl];refine Aj ?_;exact A4 (h:=Cq rfl (.head _) (As.LSub.of_all (n:=3) (W6 4 va true) rfl) .nil)
 rw[Ae h2] at hR;subst hR;refine Aj ?_;exact A4 (h:=Cq rfl (.head _) (As.LSub.of_all (n:=3) (W6 0 0 false) rfl) .nil)
instance{core va v:Int}[hu:U6 va][hv:U6 v]:EK prog F C b p 155 [pV p.c,pV p.m,.int .i64 core,Ba va,Ba v] k S k (.agg (toArray (dg (iS S core va v).1 va true))) (iS S core va v).2:=⟨λs G h=>gp h core va v⟩
end
abbrev vF(x:Int×Int):List Value:=[iV x.1,Ba x.2]
theorem Wz(B3 B4 B5 b gb F:Nat)(p:RP)(W:List Int)(h1:F<=64)(hW:W.length=F*8)(hu: ∀w,w∈W->JW w)(root page:Int):
 E2 prog 332 [pV B3,pV B4,pV B5] vF (λxs=>xs=mZ W root page) (λpre=>pre<+:mZ W root page)
  (λ_ l=>BG B5 page∈l/\BG B4 root∈l/\rB B3 b∈l/\Co b p∈l/\NW p.m gb F∈l/\So gb W∈l):=by
 refine⟨λr I Ix G0 hneed hY l G hG h0=>?_⟩;have Q1: ∀l,Co b p∈l->QF prog 87 [pV b] l (pV p.m):=λl h=>⟨λl2 hl=>Wg b p l2 (hl _ h)⟩
 have Q2: ∀l lv,NW p.m gb F∈l->So gb W∈l->QF prog 299 [pV p.m,.int .i64 root,.int .i64 page,.int .i64 lv] l (.tuple #[Ba (O5 W root page lv).1,iV (O5 W root page lv).2]):=λl lv m1 m2=>⟨λl2 hl=>UQ p.m gb F W h1 hW hu root page lv l2 (hl _ m1) (hl _ m2)⟩
 obtain⟨n1,n2,n3,n4,n5,n6⟩:=hneed _ _ G hG h0;have i1:=Q1 _ n4;have i2:=Q2 _ 1 n5 n6;obtain⟨a1,ha1⟩: ∃a,O5 W root page 1=a:=⟨_,rfl⟩
 obtain⟨a2,ha2⟩: ∃a,O5 W root page 2=a:=⟨_,rfl⟩
 rw[ha1] at i2;have hD:mZ W root page=if ¬a1.2=0 then[] else(1,a1.1)::if ¬a2.2=0 then[] else[(2,a2.1)]:=by unfold mZ;rw[ha1,ha2]
 rw[hD] at hY⊢;refine AO func332 ntmps332 λE=>?_;refine Aj ?_;refine Hb 2 ?_;refine Aj ?_;refine Hw ?_;refine iK ?_;refine Tf ?_;iterate 3 refine iK ?_
 refine Tf ?_;refine BI ?_;by_cases e1:a1.2=0
 case neg=>refine Aj ?_;exact A8 .refl ⟨l,rfl,.inl ⟨[],(Ae e1).symm,h0⟩⟩
 rw[Ac (by simpa using e1)] at hY⊢;refine Aj ?_;have hp1:[((1:Int),a1.1)]<+:(1,a1.1)::(if ¬a2.2=0 then[] else[((2:Int),a2.1)]):=⟨_,rfl⟩
 have hy:=hY [] (1,a1.1) l G hG h0 hp1;refine It (CK rfl rfl hy) rfl rfl rfl ?_;rintro v _ ⟨l1,rfl,⟨rfl,hI⟩|⟨rfl,hx⟩⟩
 case' inr=>
  refine Aj ?_;exact A8 .refl ⟨l1,rfl,.inr ⟨_,hp1,hx⟩⟩
 obtain⟨n1,n2,n3,n4,n5,n6⟩:=hneed _ _ G hG hI;have i1:=Q1 _ n4;have i2:=Q2 _ 2 n5 n6;rw[ha2] at i2;refine Aj ?_;refine Ew ?_;refine Aj ?_;rw[show(1:Int)+1=2 from rfl];refine Hw ?_;refine iK ?_;refine Tf ?_;iterate 3 refine iK ?_
 refine Tf ?_;refine BI ?_;by_cases e2:a2.2=0
 case neg=>rw[Ae e2] at hY⊢;refine Aj ?_;exact A8 .refl ⟨l1,rfl,.inl ⟨[(1,a1.1)],rfl,hI⟩⟩
 rw[Ac (by simpa using e2)] at hY⊢;refine Aj ?_;have hp2:[((1:Int),a1.1),(2,a2.1)]<+:[((1:Int),a1.1),(2,a2.1)]:=⟨[],rfl⟩
 have hy2:=hY [(1,a1.1)] (2,a2.1) l1 G hG hI hp2;refine It (CK rfl rfl hy2) rfl rfl rfl ?_;rintro v _ ⟨l2,rfl,⟨rfl,hI2⟩|⟨rfl,hx2⟩⟩
 case' inr=>
  refine Aj ?_;exact A8 .refl ⟨l2,rfl,.inr ⟨_,hp2,hx2⟩⟩
 refine Aj ?_;refine Ew ?_;refine Aj ?_;exact A8 .refl ⟨l2,rfl,.inl ⟨[(1,a1.1),(2,a2.1)],rfl,hI2⟩⟩
section
theorem gr(N:As.ASt)(o:Int):(As.dropP N o).2.2.given=N.given:=by unfold As.dropP;(repeat' split)<;>rfl
theorem Yn(hK:IsK F C k S p s)(o:Int):Fn prog 387 [pV p.n,.int .i64 o] (Av b p s S G) λv l'=> ∃sl cs,v= .tuple #[sl,iV (As.dropP S.N o).2.1]/\OwnSl 3 1 sl (As.dropP S.N o).1.length (As.dropP S.N o).1 cs/\IsK F C k {S with N:=(As.dropP S.N o).2.2} p s/\l'=cs++Av b p s {S with N:=(As.dropP S.N o).2.2} G:=
 Fn.re (.of_perm (by unfold Av;exact Cc)) (As.dropPool_any p.n S.N o (Co b p::(s.M++(s.C++(s.A++(s.H++(s.T++(s.Q++(s.E++(s.V++G))))))))))
  λv l' ⟨sl,cs,h1,h2,h3⟩=>⟨cs++Av b p s {S with N:=(As.dropP S.N o).2.2} G,by rw[h3];unfold Av;exact AY [],sl,cs,h1,h2,{hK with giv:=λn hn=>by rw[show({S with N:=(As.dropP S.N o).2.2}:KT).N.given=S.N.given from gr ..];exact hK.giv n hn},rfl⟩
end
section
def vI:Value->Int
 | .int _ i=>i
 |_=>0
def kU(N:As.ASt)(o:Int):List Int:=(As.dropP N o).1.map vI
def Pq(S:KT)(id:Int):Bool×KT:=
 if(Ar.getD' S.A id).2=false then(false,S)
 else if(Ar.getD' S.A id).1.kd=4 then((Fi S id).2,TX S id)
 else if(Ar.getD' S.A id).1.kd=5 then(decide ((As.unP S.N id).2.1=0),{S with N:=(As.unP S.N id).2.2,K:=if(As.unP S.N id).2.1=0 then IN S.K (PF (As.unP S.N id).1) else S.K})
 else if(Ar.getD' S.A id).1.kd=6 then(decide ((As.dropP S.N id).2.1=0),{S with N:=(As.dropP S.N id).2.2,K:=(kU S.N id).foldl (λK n=>IN K (PF n)) S.K})
 else(false,S)
theorem rR(hK:IsK F C k S p s)(id:Int)(h6:¬(Ar.getD' S.A id).1.kd=6):Fn prog 365 [pV b,.int .i64 id] (Av b p s S G) (KK F C b p k (.bool (Pq S id).1) (Pq S id).2 G):=by
 have mr:Co b p∈Av b p s S G:=mR λ_ h=>h;obtain⟨R,hR⟩: ∃R,Pq S id=R:=⟨_,rfl⟩
 rw[hR];unfold Pq at hR;refine AO func365 ntmps365 λE=>?_;refine Aj ?_;refine Ea ?_;refine Aj ?_;refine Ea ?_;obtain⟨o,ho⟩: ∃o,(Ar.getD' S.A id).1=o:=⟨_,rfl⟩
 obtain⟨ok,hok⟩: ∃ok,(Ar.getD' S.A id).2=ok:=⟨_,rfl⟩
 rw[ho,hok] at hR;rw[ho] at h6;rw[ho,hok];refine AQ λb5=>?_;cases ok with
 |false=>rw[Ae rfl] at hR;subst hR;refine Aj ?_;exact A4
 |true=>
 rw[Ac AW] at hR;refine Aj ?_;by_cases h4:o.kd=4
 ·rw[Ae h4] at hR;subst hR;refine Aj ?_;refine Fy ?_;intro S1 s1 L1 hS1 hK1 hT1 mr1;refine Aj ?_;exact A4
 rw[Ac h4] at hR;by_cases h5:o.kd=5
 ·rw[Ae h5] at hR;refine Aj ?_;refine Ea ?_;refine Aj ?_;refine Fy ?_;intro S1 s1 L1 hS1 hK1 hT1 mr1;obtain⟨u,hu⟩: ∃u,As.unP S.N id=u:=⟨_,rfl⟩
  rw[hu] at hR hS1⊢;refine Aj ?_;by_cases h7:u.2.1=0
  ·rw[Ae h7,h7] at hR;subst hR;refine Aj ?_;refine Ea ?_;refine Aj ?_;try simp only[AL,AI,AN]
   refine Fy ?_;intro S2 s2 L2 hS2 hK2 hT2 mr2;refine Aj ?_;have hS:S2={S with N:=u.2.2,K:=IN S.K (PF u.1)}:=by rw[hS2,hS1]
   exact A4
  rw[Ac h7,show decide (u.2.1=0)=false by simp[h7]] at hR;subst hR;refine Aj ?_;exact A4
 rw[Ac h5,Ac h6] at hR;subst hR;refine Aj ?_;exact A4
end
section
theorem kV(N:As.ASt)(o:Int):(As.dropP N o).1.length<=4:=by
 unfold As.dropP
 split
 ·simp
 ·exact BW (As.dropL_len ..) (As.nums_len _)
theorem kW(N:As.ASt)(o:Int):(As.dropP N o).1=(kU N o).map iV:=by
 unfold kU;rw[CD];unfold As.dropP
 split
 ·rfl
 ·unfold As.dropL;simp only[CD];exact Bt λ_ _=>rfl
theorem oS(hK:IsK F C k S p s)(id:Int)(h6:(Ar.getD' S.A id).1.kd=6):Fn prog 365 [pV b,.int .i64 id] (Av b p s S G) (KK F C b p k (.bool (Pq S id).1) (Pq S id).2 G):=by
 have mr:Co b p∈Av b p s S G:=mR λ_ h=>h;obtain⟨R,hR⟩: ∃R,Pq S id=R:=⟨_,rfl⟩
 rw[hR];unfold Pq at hR;refine AO func365 ntmps365 λE=>?_;refine Aj ?_;refine Ea ?_;refine Aj ?_;refine Ea ?_;obtain⟨o,ho⟩: ∃o,(Ar.getD' S.A id).1=o:=⟨_,rfl⟩
 obtain⟨ok,hok⟩: ∃ok,(Ar.getD' S.A id).2=ok:=⟨_,rfl⟩
 rw[ho,hok] at hR;rw[ho] at h6;rw[ho,hok];refine AQ λb5=>?_;cases ok with
 |false=>rw[Ae rfl] at hR;subst hR;refine Aj ?_;exact A4
 |true=>
 rw[Ac AW,Ac Af,Ac Af,Ae h6] at hR;refine Aj ?_;refine Ea ?_;refine Aj ?_;refine Bk (.of_perm (EF b p s S [_] G)) ?_;refine AS (Az rfl rfl (Yn hK id)) ?_;rintro _ _ ⟨sl,cs,rfl,ho1,hK1,rfl⟩;have hl:=kV S.N id;rw[kW] at ho1 hl;obtain⟨dn,hdn⟩: ∃d,As.dropP S.N id=d:=⟨_,rfl⟩
 obtain⟨ds,hds⟩: ∃ds,kU S.N id=ds:=⟨_,rfl⟩
 rw[hds] at ho1 hl hR;rw[hdn] at hK1 hR⊢;rw[AZ] at ho1 hl;refine Bk (.of_perm (EF b p s _ cs _)) ?_;obtain⟨c5,hc5⟩: ∃c,(b5,Obj.cells (toArray (Ar.obC o)) 100 (0,0))=c:=⟨_,rfl⟩
 obtain⟨pp,cap,hsh⟩:=ho1.shape;have htl:Tail (cs++([(b5,Obj.cells (toArray (Ar.obC o)) 100 (0,0))]++G)) G:=⟨cs++[_],by rw[Al]⟩
 rcases ds with _|⟨d1,_|⟨d2,_|⟨d3,_|⟨d4,_|⟨d5,ds⟩⟩⟩⟩⟩
 ·simp only[FM] at hR;rw[hsh];subst hR;refine Aj ?_;refine Hb 0 ?_;refine Aj ?_;exact A4 (ht:=htl)
 ·obtain⟨gb,cap,sp,rfl,rfl⟩:=Mg ho1 (by simp);simp only[Eg,FM] at hR;obtain⟨L0,hL0⟩: ∃L0,[(gb,Obj.cells (toArray ([d1].map iV++sp)) 3 (0,0))]++([(b5,Obj.cells (toArray (Ar.obC o)) 100 (0,0))]++G)=L0:=⟨_,rfl⟩
  have w0:(gb,Obj.cells (toArray ([d1].map iV++sp)) 3 (0,0))∈L0:=by rw[<-hL0];exact .head _
  rw[hL0] at htl⊢;have m0:=mG (b:=b) (p:=p) (s:=s) (S:=({S with N:=dn.2.2}:KT)) (G:=L0) (l:=Av b p s {S with N:=dn.2.2} L0) (λ_ h=>h) _ w0;have mr:=mR (b:=b) (p:=p) (s:=s) (S:=({S with N:=dn.2.2}:KT)) (G:=L0) (l:=Av b p s {S with N:=dn.2.2} L0) λ_ h=>h;have z0:(toArray ([d1].map iV++sp))[0+(0:Int).toNat*1]?=some (.int .i64 d1):=rfl;rw[show([d1]:List Int).length=1 from rfl];refine Aj ?_;refine Hb 1 ?_;refine Aj ?_;refine Ea ?_;refine Aj ?_;refine Fy ?_;intro S1 s1 L1 hS1 hK2 hT1 mr1;have w1:(gb,Obj.cells (toArray ([d1].map iV++sp)) 3 (0,0))∈L1:=by obtain⟨X,rfl⟩:=hT1;exact Aa _ w0
  have m1:=mG (b:=b) (p:=p) (s:=s1) (S:=S1) (G:=L1) (l:=Av b p s1 S1 L1) (λ_ h=>h) _ w1;refine Aj ?_;refine Ew ?_;refine Aj ?_;subst hR;exact A4 (ht:=(hT1.trans htl))
 ·obtain⟨gb,cap,sp,rfl,rfl⟩:=Mg ho1 (by simp);simp only[Eg,FM] at hR;obtain⟨L0,hL0⟩: ∃L0,[(gb,Obj.cells (toArray ([d1,d2].map iV++sp)) 3 (0,0))]++([(b5,Obj.cells (toArray (Ar.obC o)) 100 (0,0))]++G)=L0:=⟨_,rfl⟩
  have w0:(gb,Obj.cells (toArray ([d1,d2].map iV++sp)) 3 (0,0))∈L0:=by rw[<-hL0];exact .head _
  rw[hL0] at htl⊢;have m0:=mG (b:=b) (p:=p) (s:=s) (S:=({S with N:=dn.2.2}:KT)) (G:=L0) (l:=Av b p s {S with N:=dn.2.2} L0) (λ_ h=>h) _ w0;have mr:=mR (b:=b) (p:=p) (s:=s) (S:=({S with N:=dn.2.2}:KT)) (G:=L0) (l:=Av b p s {S with N:=dn.2.2} L0) λ_ h=>h;have z0:(toArray ([d1,d2].map iV++sp))[0+(0:Int).toNat*1]?=some (.int .i64 d1):=rfl;have z1:(toArray ([d1,d2].map iV++sp))[0+(1:Int).toNat*1]?=some (.int .i64 d2):=rfl;rw[show([d1,d2]:List Int).length=2 from rfl];refine Aj ?_;refine Hb 2 ?_;refine Aj ?_;refine Ea ?_;refine Aj ?_;refine Fy ?_;intro S1 s1 L1 hS1 hK2 hT1 mr1;have w1:(gb,Obj.cells (toArray ([d1,d2].map iV++sp)) 3 (0,0))∈L1:=by obtain⟨X,rfl⟩:=hT1;exact Aa _ w0
  have m1:=mG (b:=b) (p:=p) (s:=s1) (S:=S1) (G:=L1) (l:=Av b p s1 S1 L1) (λ_ h=>h) _ w1;refine Aj ?_;refine Ew ?_;refine Aj ?_;rw[show(0:Int)+1=1 from rfl];refine Aj ?_;refine Ea ?_;refine Aj ?_;refine Fy ?_;intro S2 s2 L2 hS2 hK3 hT2 mr2;have w2:(gb,Obj.cells (toArray ([d1,d2].map iV++sp)) 3 (0,0))∈L2:=by obtain⟨X,rfl⟩:=hT2;exact Aa _ w1
  have m2:=mG (b:=b) (p:=p) (s:=s2) (S:=S2) (G:=L2) (l:=Av b p s2 S2 L2) (λ_ h=>h) _ w2;refine Aj ?_;refine Ew ?_;refine Aj ?_;subst hR;exact A4 (ht:=(hT2.trans (hT1.trans htl)))
 ·obtain⟨gb,cap,sp,rfl,rfl⟩:=Mg ho1 (by simp);simp only[Eg,FM] at hR;obtain⟨L0,hL0⟩: ∃L0,[(gb,Obj.cells (toArray ([d1,d2,d3].map iV++sp)) 3 (0,0))]++([(b5,Obj.cells (toArray (Ar.obC o)) 100 (0,0))]++G)=L0:=⟨_,rfl⟩
  have w0:(gb,Obj.cells (toArray ([d1,d2,d3].map iV++sp)) 3 (0,0))∈L0:=by rw[<-hL0];exact .head _
  rw[hL0] at htl⊢;have m0:=mG (b:=b) (p:=p) (s:=s) (S:=({S with N:=dn.2.2}:KT)) (G:=L0) (l:=Av b p s {S with N:=dn.2.2} L0) (λ_ h=>h) _ w0;have mr:=mR (b:=b) (p:=p) (s:=s) (S:=({S with N:=dn.2.2}:KT)) (G:=L0) (l:=Av b p s {S with N:=dn.2.2} L0) λ_ h=>h;have z0:(toArray ([d1,d2,d3].map iV++sp))[0+(0:Int).toNat*1]?=some (.int .i64 d1):=rfl;have z1:(toArray ([d1,d2,d3].map iV++sp))[0+(1:Int).toNat*1]?=some (.int .i64 d2):=rfl;have z2:(toArray ([d1,d2,d3].map iV++sp))[0+(2:Int).toNat*1]?=some (.int .i64 d3):=rfl;rw[show([d1,d2,d3]:List Int).length=3 from rfl];refine Aj ?_;refine Hb 3 ?_;refine Aj ?_;refine Ea ?_;refine Aj ?_;refine Fy ?_;intro S1 s1 L1 hS1 hK2 hT1 mr1;have w1:(gb,Obj.cells (toArray ([d1,d2,d3].map iV++sp)) 3 (0,0))∈L1:=by obtain⟨X,rfl⟩:=hT1;exact Aa _ w0
  have m1:=mG (b:=b) (p:=p) (s:=s1) (S:=S1) (G:=L1) (l:=Av b p s1 S1 L1) (λ_ h=>h) _ w1;refine Aj ?_;refine Ew ?_;refine Aj ?_;rw[show(0:Int)+1=1 from rfl];refine Aj ?_;refine Ea ?_;refine Aj ?_;refine Fy ?_;intro S2 s2 L2 hS2 hK3 hT2 mr2;have w2:(gb,Obj.cells (toArray ([d1,d2,d3].map iV++sp)) 3 (0,0))∈L2:=by obtain⟨X,rfl⟩:=hT2;exact Aa _ w1
  have m2:=mG (b:=b) (p:=p) (s:=s2) (S:=S2) (G:=L2) (l:=Av b p s2 S2 L2) (λ_ h=>h) _ w2;refine Aj ?_;refine Ew ?_;refine Aj ?_;rw[show(1:Int)+1=2 from rfl];refine Aj ?_;refine Ea ?_;refine Aj ?_;refine Fy ?_;intro S3 s3 L3 hS3 hK4 hT3 mr3;have w3:(gb,Obj.cells (toArray ([d1,d2,d3].map iV++sp)) 3 (0,0))∈L3:=by obtain⟨X,rfl⟩:=hT3;exact Aa _ w2
  have m3:=mG (b:=b) (p:=p) (s:=s3) (S:=S3) (G:=L3) (l:=Av b p s3 S3 L3) (λ_ h=>h) _ w3;refine Aj ?_;refine Ew ?_;refine Aj ?_;subst hR;exact A4 (ht:=(hT3.trans (hT2.trans (hT1.trans htl))))
 ·obtain⟨gb,cap,sp,rfl,rfl⟩:=Mg ho1 (by simp);simp only[Eg,FM] at hR;obtain⟨L0,hL0⟩: ∃L0,[(gb,Obj.cells (toArray ([d1,d2,d3,d4].map iV++sp)) 3 (0,0))]++([(b5,Obj.cells (toArray (Ar.obC o)) 100 (0,0))]++G)=L0:=⟨_,rfl⟩
  have w0:(gb,Obj.cells (toArray ([d1,d2,d3,d4].map iV++sp)) 3 (0,0))∈L0:=by rw[<-hL0];exact .head _
  rw[hL0] at htl⊢;have m0:=mG (b:=b) (p:=p) (s:=s) (S:=({S with N:=dn.2.2}:KT)) (G:=L0) (l:=Av b p s {S with N:=dn.2.2} L0) (λ_ h=>h) _ w0;have mr:=mR (b:=b) (p:=p) (s:=s) (S:=({S with N:=dn.2.2}:KT)) (G:=L0) (l:=Av b p s {S with N:=dn.2.2} L0) λ_ h=>h;have z0:(toArray ([d1,d2,d3,d4].map iV++sp))[0+(0:Int).toNat*1]?=some (.int .i64 d1):=rfl;have z1:(toArray ([d1,d2,d3,d4].map iV++sp))[0+(1:Int).toNat*1]?=some (.int .i64 d2):=rfl;have z2:(toArray ([d1,d2,d3,d4].map iV++sp))[0+(2:Int).toNat*1]?=some (.int .i64 d3):=rfl;have z3:(toArray ([d1,d2,d3,d4].map iV++sp))[0+(3:Int).toNat*1]?=some (.int .i64 d4):=rfl;rw[show([d1,d2,d3,d4]:List Int).length=4 from rfl];refine Aj ?_;refine Hb 4 ?_;refine Aj ?_;refine Ea ?_;refine Aj ?_;refine Fy ?_;intro S1 s1 L1 hS1 hK2 hT1 mr1;have w1:(gb,Obj.cells (toArray ([d1,d2,d3,d4].map iV++sp)) 3 (0,0))∈L1:=by obtain⟨X,rfl⟩:=hT1;exact Aa _ w0
  have m1:=mG (b:=b) (p:=p) (s:=s1) (S:=S1) (G:=L1) (l:=Av b p s1 S1 L1) (λ_ h=>h) _ w1;refine Aj ?_;refine Ew ?_;refine Aj ?_;rw[show(0:Int)+1=1 from rfl];refine Aj ?_;refine Ea ?_;refine Aj ?_;refine Fy ?_;intro S2 s2 L2 hS2 hK3 hT2 mr2;have w2:(gb,Obj.cells (toArray ([d1,d2,d3,d4].map iV++sp)) 3 (0,0))∈L2:=by obtain⟨X,rfl⟩:=hT2;exact Aa _ w1
  have m2:=mG (b:=b) (p:=p) (s:=s2) (S:=S2) (G:=L2) (l:=Av b p s2 S2 L2) (λ_ h=>h) _ w2;refine Aj ?_;refine Ew ?_;refine Aj ?_;rw[show(1:Int)+1=2 from rfl];refine Aj ?_;refine Ea ?_;refine Aj ?_;refine Fy ?_;intro S3 s3 L3 hS3 hK4 hT3 mr3;have w3:(gb,Obj.cells (toArray ([d1,d2,d3,d4].map iV++sp)) 3 (0,0))∈L3:=by obtain⟨X,rfl⟩:=hT3;exact Aa _ w2
  have m3:=mG (b:=b) (p:=p) (s:=s3) (S:=S3) (G:=L3) (l:=Av b p s3 S3 L3) (λ_ h=>h) _ w3;refine Aj ?_;refine Ew ?_;refine Aj ?_;rw[show(2:Int)+1=3 from rfl];refine Aj ?_;refine Ea ?_;refine Aj ?_;refine Fy ?_;intro S4 s4 L4 hS4 hK5 hT4 mr4;have w4:(gb,Obj.cells (toArray ([d1,d2,d3,d4].map iV++sp)) 3 (0,0))∈L4:=by obtain⟨X,rfl⟩:=hT4;exact Aa _ w3
  have m4:=mG (b:=b) (p:=p) (s:=s4) (S:=S4) (G:=L4) (l:=Av b p s4 S4 L4) (λ_ h=>h) _ w4;refine Aj ?_;refine Ew ?_;refine Aj ?_;subst hR;exact A4 (ht:=(hT4.trans (hT3.trans (hT2.trans (hT1.trans htl)))))
 ·exfalso;simp at hl
instance{id:Int}:EK prog F C b p 365 [pV b,.int .i64 id] k S k (.bool (Pq S id).1) (Pq S id).2:=⟨λs G h=>by
 by_cases h6:(Ar.getD' S.A id).1.kd=6
 ·exact oS h id h6
 ·exact rR h id h6⟩
end
end Go.Proofs.YtlkgekpmileobaaGreat
