/- Laws that the statement's proof leans on (joined out of several texts). -/
import Derived.Test.YtlkgekpmileobaaGreatGb8
import Derived.Test.YtlkgekpmileobaaGreatGb34
import Derived.Test.YtlkgekpmileobaaGreatGb10
set_option linter.unusedVariables false
set_option linter.unusedSimpArgs false
namespace Go.Proofs.YtlkgekpmileobaaGreat
open Tryz
open List(toArray replicate)
open Go.RowKit
set_option maxRecDepth 20000
variable{k:Nat}
structure OwT where
 th:Int
 nd:Int
 rt:Int
 pl:Int
 un:Int
abbrev PI(o:OwT):List Value:=[.int .i64 o.th,.int .i64 o.nd,.int .i64 o.rt,.int .i64 o.pl,.int .i64 o.un]
abbrev HX(B:Nat)(o:OwT):Ab:=(B,.cells (toArray (PI o)) 203 (0,0))
abbrev Ip(k o b:Int):CapT:=⟨k,o,0,0,0,b,0,0⟩
theorem J0(k o b:Int):Ik (Ip k o b):=⟨Int.le_refl 0,by show(0:Int)<=9223372036854775807;decide⟩
def fX(H:HS)(o:OwT)(first:Bool):HS:=
 let H1:=(FH H (o.nd,1) (Ip 2 o.nd 8)).2
 let H2:=(FH H1 (o.nd,2) (Ip 9 o.th 0)).2
 let H3:=(FH H2 (o.nd,3) (Ip 1 o.un 0)).2
 let H4:=(FH H3 (o.nd,4) (Ip 5 o.rt 0)).2
 let H5:=if first then(FH H4 (o.nd,5) (Ip 7 0 0)).2 else H4
 let H6:=(FH H5 (o.nd,6) (Ip 6 o.pl 0)).2
 let H7:=(Gi H6 (o.nd,1) (o.th,0) (Ej (DH H6.1 (o.nd,1)) 7)).2
 (Gi H7 (o.nd,4) (o.th,1) (Ej (DH H7.1 (o.nd,4)) 7)).2
def R2(R:RT)(o:OwT)(first:Bool):RT:={R with H:=fX R.H o first,N:=(As.assignP (As.addP R.N o.pl).2.2 o.pl o.rt).2.2.2}
theorem F7(o:OwT)(B:Nat)(i:Int)(l:List Ab)(hm:HX B o∈l):Fn prog 143 [.int .i64 i,pV B] l λv l'=>v= .agg (toArray (Cj (o.nd,i)))/\l'=l:=by refine AO func143 ntmps143 λE=>?_;refine AQ λb3=>?_;exact AU [] ((b3,.cells (toArray (Cj (o.nd,i))) 61 (0,0))::l) rfl (l':=l) (by exact AR) (by exact A7) (by exact AR) ⟨rfl,rfl⟩
theorem Qs(s:As.ASt)(o:Int)(n:Nat):(As.addP s o).2.2.given n=s.given n:=by
 unfold As.addP
 repeat' split
 all_goals rfl
theorem ZH{s:As.ASt}(h: ∀n,n<32->0<=s.given n/\s.given n<=k)(o r:Int): ∀n,n<32->0<=(As.assignP s o r).2.2.2.given n/\(As.assignP s o r).2.2.2.given n<=(k+1:Nat):=by
 intro n hn;have h0:=h n hn;unfold As.assignP
 repeat' split
 all_goals first
  |(simp only;omega)
  |(simp only[As.ASt.give]
    unfold As.upd
    split<;>first|omega|(rename_i e;rw[<-e];omega))
set_option maxHeartbeats 4000000 in
theorem fY(F C n:Nat)(R:RT)(b:Nat)(p:RP)(s:RL)(hR:IsRl F C n R p s)(hn:n<=900)(o:OwT)(first:Bool)(G:List Ab):Fn prog 93 [pV b,.agg (toArray (PI o)),.bool first] (Cn b p s R G) λv l'=>
 v= .tuple #[]/\ ∃s' X,IsRl F C (n+8) (R2 R o first) p s'/\l'=Cn b p s' (R2 R o first) (X++G):=by
 refine AO func93 ntmps93 λE=>?_;unfold Cn;refine Aj ?_;refine AS (CR rfl) ?_;rintro _ _ ⟨b4,_,rfl,rfl⟩;refine Aj ?_;have hsubR: ∀(lq:List Ab) (c:Ab),c∈[Co b p,HX b4 o]->c∈lq++(HX b4 o::Co b p::As.asA p.n R.N::(s.M++(s.C++(s.A++(s.T++(s.Q++(s.E++(s.V++G)))))))):=λlq c hc=>by
  rcases Aq.1 hc with rfl|hc
  ·exact Aa _ (.tail _ (.head _))
  ·rw[AA.1 hc];exact Aa _ (.head _)
 cases first with
 |true=>
  refine DQ (l':=s.H++(HX b4 o::Co b p::As.asA p.n R.N::(s.M++(s.C++(s.A++(s.T++(s.Q++(s.E++(s.V++G))))))))) (by dsimp only[HX,PI];exact AY []) ?_;refine Ce [7] 8 ([Co b p,HX b4 o]) ?_ (hR:=(hsubR _));refine BI ?_;apply D7
  ·exact AK rfl rfl (λl hl=>Dx b p l (hl _ (.head _)))
  ·rfl
  ·rfl
  ·rfl
  refine BI ?_;apply D7
  ·exact Fb rfl rfl (λl hl=>F7 o b4 1 l (hl _ (.tail _ (.head _))))
  ·rfl
  ·rfl
  ·rfl
  refine BI ?_;apply CE
  ·exact Az rfl rfl (Fo p.h R.H (n) (hR.inv) s.H hR.ho (o.nd,1) (Ip 2 o.nd 8) _)
  ·rfl
  ·rfl
  ·rfl
  ·rintro _ _ ⟨_,_,_,rfl⟩;exact hsubR _
  rintro _ _ ⟨rfl,lH1,hq1,rfl⟩;refine BI ?_;refine Aj ?_;obtain⟨H1,hH1⟩: ∃x,x=(FH R.H (o.nd,1) (Ip 2 o.nd 8)).2:=⟨_,rfl⟩
  have hI1:InvH H1 (n+1):=by rw[hH1];exact InvH.root (hR.inv) _ _ (J0 _ _ _)
  rw[<-hH1] at hq1;refine Ce [7] 8 ([Co b p,HX b4 o]) ?_ (hR:=(hsubR _));refine BI ?_;apply D7
  ·exact AK rfl rfl (λl hl=>Dx b p l (hl _ (.head _)))
  ·rfl
  ·rfl
  ·rfl
  refine BI ?_;apply D7
  ·exact Fb rfl rfl (λl hl=>F7 o b4 2 l (hl _ (.tail _ (.head _))))
  ·rfl
  ·rfl
  ·rfl
  refine BI ?_;apply CE
  ·exact Az rfl rfl (Fo p.h H1 (n+1) (hI1) lH1 hq1 (o.nd,2) (Ip 9 o.th 0) _)
  ·rfl
  ·rfl
  ·rfl
  ·rintro _ _ ⟨_,_,_,rfl⟩;exact hsubR _
  rintro _ _ ⟨rfl,lH2,hq2,rfl⟩;refine BI ?_;refine Aj ?_;obtain⟨H2,hH2⟩: ∃x,x=(FH H1 (o.nd,2) (Ip 9 o.th 0)).2:=⟨_,rfl⟩
  have hI2:InvH H2 (n+1+1):=by rw[hH2];exact InvH.root (hI1) _ _ (J0 _ _ _)
  rw[<-hH2] at hq2;refine Ce [7] 8 ([Co b p,HX b4 o]) ?_ (hR:=(hsubR _));refine BI ?_;apply D7
  ·exact AK rfl rfl (λl hl=>Dx b p l (hl _ (.head _)))
  ·rfl
  ·rfl
  ·rfl
  refine BI ?_;apply D7
  ·exact Fb rfl rfl (λl hl=>F7 o b4 3 l (hl _ (.tail _ (.head _))))
  ·rfl
  ·rfl
  ·rfl
  refine BI ?_;apply CE
  ·exact Az rfl rfl (Fo p.h H2 (n+1+1) (hI2) lH2 hq2 (o.nd,3) (Ip 1 o.un 0) _)
  ·rfl
  ·rfl
  ·rfl
  ·rintro _ _ ⟨_,_,_,rfl⟩;exact hsubR _
  rintro _ _ ⟨rfl,lH3,hq3,rfl⟩;refine BI ?_;refine Aj ?_;obtain⟨H3,hH3⟩: ∃x,x=(FH H2 (o.nd,3) (Ip 1 o.un 0)).2:=⟨_,rfl⟩
  have hI3:InvH H3 (n+1+1+1):=by rw[hH3];exact InvH.root (hI2) _ _ (J0 _ _ _)
  rw[<-hH3] at hq3;refine Ce [7] 8 ([Co b p,HX b4 o]) ?_ (hR:=(hsubR _));refine BI ?_;apply D7
  ·exact AK rfl rfl (λl hl=>Dx b p l (hl _ (.head _)))
  ·rfl
  ·rfl
  ·rfl
  refine BI ?_;apply D7
  ·exact Fb rfl rfl (λl hl=>F7 o b4 4 l (hl _ (.tail _ (.head _))))
  ·rfl
  ·rfl
  ·rfl
  refine BI ?_;apply CE
  ·exact Az rfl rfl (Fo p.h H3 (n+1+1+1) (hI3) lH3 hq3 (o.nd,4) (Ip 5 o.rt 0) _)
  ·rfl
  ·rfl
  ·rfl
  ·rintro _ _ ⟨_,_,_,rfl⟩;exact hsubR _
  rintro _ _ ⟨rfl,lH4,hq4,rfl⟩;refine BI ?_;refine Aj ?_;obtain⟨H4,hH4⟩: ∃x,x=(FH H3 (o.nd,4) (Ip 5 o.rt 0)).2:=⟨_,rfl⟩
  have hI4:InvH H4 (n+1+1+1+1):=by rw[hH4];exact InvH.root (hI3) _ _ (J0 _ _ _)
  rw[<-hH4] at hq4;refine Bc (AK rfl rfl (λl hl=>Dx b p l (hl _ (hsubR _ _ (.head _))))) ?_;refine Aj ?_;refine Bc (Fb rfl rfl (λl hl=>F7 o b4 5 l (hl _ (hsubR _ _ (.tail _ (.head _)))))) ?_;refine Aj ?_;refine AS (Az rfl rfl (Fo p.h H4 (n+1+1+1+1) (hI4) lH4 hq4 (o.nd,5) (Ip 7 0 0) _)) ?_;rintro _ _ ⟨rfl,lH5,hq5,rfl⟩;obtain⟨H5,hH5⟩: ∃x,x=(FH H4 (o.nd,5) (Ip 7 0 0)).2:=⟨_,rfl⟩
  have hI5:InvH H5 (n+1+1+1+1+1):=by rw[hH5];exact InvH.root (hI4) _ _ (J0 _ _ _)
  rw[<-hH5] at hq5;refine Aj ?_;refine Ce [7] 8 ([Co b p,HX b4 o]) ?_ (hR:=(hsubR _));refine BI ?_;apply D7
  ·exact AK rfl rfl (λl hl=>Dx b p l (hl _ (.head _)))
  ·rfl
  ·rfl
  ·rfl
  refine BI ?_;apply D7
  ·exact Fb rfl rfl (λl hl=>F7 o b4 6 l (hl _ (.tail _ (.head _))))
  ·rfl
  ·rfl
  ·rfl
  refine BI ?_;apply CE
  ·exact Az rfl rfl (Fo p.h H5 (n+1+1+1+1+1) (hI5) lH5 hq5 (o.nd,6) (Ip 6 o.pl 0) _)
  ·rfl
  ·rfl
  ·rfl
  ·rintro _ _ ⟨_,_,_,rfl⟩;exact hsubR _
  rintro _ _ ⟨rfl,lH6,hq6,rfl⟩;refine BI ?_;refine Aj ?_;obtain⟨H6,hH6⟩: ∃x,x=(FH H5 (o.nd,6) (Ip 6 o.pl 0)).2:=⟨_,rfl⟩
  have hI6:InvH H6 (n+1+1+1+1+1+1):=by rw[hH6];exact InvH.root (hI5) _ _ (J0 _ _ _)
  rw[<-hH6] at hq6;refine Ce [7] 8 ([Co b p,HX b4 o]) ?_ (hR:=(hsubR _));refine BI ?_;apply D7
  ·exact AK rfl rfl (λl hl=>Dx b p l (hl _ (.head _)))
  ·rfl
  ·rfl
  ·rfl
  refine BI ?_;apply D7
  ·exact Fb rfl rfl (λl hl=>F7 o b4 1 l (hl _ (.tail _ (.head _))))
  ·rfl
  ·rfl
  ·rfl
  refine BI ?_;apply CE
  ·exact Az rfl rfl (Ld p.h H6 (n+1+1+1+1+1+1) (hI6) Af lH6 hq6 (o.nd,1) (o.th,0) 7 _)
  ·rfl
  ·rfl
  ·rfl
  ·rintro _ _ ⟨_,_,_,rfl⟩;exact hsubR _
  rintro _ _ ⟨rfl,lH7,hq7,rfl⟩;refine BI ?_;refine Aj ?_;obtain⟨H7,hH7⟩: ∃x,x=(Gi H6 (o.nd,1) (o.th,0) (Ej (DH H6.1 (o.nd,1)) 7)).2:=⟨_,rfl⟩
  have hI7:InvH H7 (n+1+1+1+1+1+1+1):=by rw[hH7];exact InvH.der (hI6) _ _ _ (MK (hI6.at _).2 _)
  rw[<-hH7] at hq7;refine Ce [7] 8 ([Co b p,HX b4 o]) ?_ (hR:=(hsubR _));refine BI ?_;apply D7
  ·exact AK rfl rfl (λl hl=>Dx b p l (hl _ (.head _)))
  ·rfl
  ·rfl
  ·rfl
  refine BI ?_;apply D7
  ·exact Fb rfl rfl (λl hl=>F7 o b4 4 l (hl _ (.tail _ (.head _))))
  ·rfl
  ·rfl
  ·rfl
  refine BI ?_;apply CE
  ·exact Az rfl rfl (Ld p.h H7 (n+1+1+1+1+1+1+1) (hI7) Af lH7 hq7 (o.nd,4) (o.th,1) 7 _)
  ·rfl
  ·rfl
  ·rfl
  ·rintro _ _ ⟨_,_,_,rfl⟩;exact hsubR _
  rintro _ _ ⟨rfl,lH8,hq8,rfl⟩;refine BI ?_;refine Aj ?_;obtain⟨H8,hH8⟩: ∃x,x=(Gi H7 (o.nd,4) (o.th,1) (Ej (DH H7.1 (o.nd,4)) 7)).2:=⟨_,rfl⟩
  have hI8:InvH H8 (n+1+1+1+1+1+1+1+1):=by rw[hH8];exact InvH.der (hI7) _ _ _ (MK (hI7.at _).2 _)
  rw[<-hH8] at hq8;have hsubA: ∀(N:As.ASt) (c:Ab),c∈[Co b p,HX b4 o]->c∈As.asA p.n N::(lH8++(HX b4 o::Co b p::(s.M++(s.C++(s.A++(s.T++(s.Q++(s.E++(s.V++G))))))))):=λN c hc=>by
   rcases Aq.1 hc with rfl|hc
   ·exact .tail _ (Aa _ (.tail _ (.head _)))
   ·rw[AA.1 hc];exact .tail _ (Aa _ (.head _))
  refine DQ (l':=As.asA p.n R.N::(lH8++(HX b4 o::Co b p::(s.M++(s.C++(s.A++(s.T++(s.Q++(s.E++(s.V++G)))))))))) (AY []) ?_;refine Ce [4] 5 ([Co b p,HX b4 o]) ?_ (hR:=(hsubA _));refine BI ?_;apply D7
  ·exact AK rfl rfl (λl hl=>JZ b p l (hl _ (.head _)))
  ·rfl
  ·rfl
  ·rfl
  refine BI ?_;apply CE
  ·exact Az rfl rfl (As.addPool_any p.n R.N o.pl _)
  ·rfl
  ·rfl
  ·rfl
  ·rintro _ _ ⟨_,rfl⟩;exact hsubA _
  rintro _ _ ⟨rfl,rfl⟩;refine BI ?_;refine Aj ?_;refine Ce [6] 7 ([Co b p,HX b4 o]) ?_ (hR:=(hsubA _));refine BI ?_;apply D7
  ·exact AK rfl rfl (λl hl=>JZ b p l (hl _ (.head _)))
  ·rfl
  ·rfl
  ·rfl
  refine BI ?_;apply CE
  ·exact Az rfl rfl (As.assign_any p.n (As.addP R.N o.pl).2.2 o.pl o.rt _ (λn hn=>by rw[Qs];have:=hR.giv n hn;omega))
  ·rfl
  ·rfl
  ·rfl
  ·rintro _ _ ⟨_,rfl⟩;exact hsubA _
  rintro _ _ ⟨rfl,rfl⟩;refine BI ?_;refine Aj ?_;refine A8 (l':=Cn b p ⟨s.M,s.C,s.A,lH8,s.T,s.Q,s.E,s.V⟩ (R2 R o true) ([HX b4 o]++G)) (by unfold Cn;dsimp only[R2];exact AY []) ⟨rfl,⟨s.M,s.C,s.A,lH8,s.T,s.Q,s.E,s.V⟩,[HX b4 o],?_,rfl⟩;have hL:fX R.H o true=H8:=by simp only[fX,CT];rw[<-hH1,<-hH2,<-hH3,<-hH4,<-hH5,<-hH6,<-hH7,<-hH8]
  unfold R2;rw[hL];clear hH1 hH2 hH3 hH4 hH5 hH6 hH7 hH8;exact⟨hR.mem,hR.co,hR.ar,hR.an,hq8,hI8.mono Af,λi hi=>by have:=ZH (s:=(As.addP R.N o.pl).2.2) (k:=n) (λn hn=>by rw[Qs];exact hR.giv n hn) o.pl o.rt i hi;simp only;omega,hR.th,hR.qu,λj hj=>BW (hR.ql j hj) Af,hR.en,hR.cu,hR.c1⟩
 |false=>
  refine DQ (l':=s.H++(HX b4 o::Co b p::As.asA p.n R.N::(s.M++(s.C++(s.A++(s.T++(s.Q++(s.E++(s.V++G))))))))) (by dsimp only[HX,PI];exact AY []) ?_;refine Ce [7] 8 ([Co b p,HX b4 o]) ?_ (hR:=(hsubR _));refine BI ?_;apply D7
  ·exact AK rfl rfl (λl hl=>Dx b p l (hl _ (.head _)))
  ·rfl
  ·rfl
  ·rfl
  refine BI ?_;apply D7
  ·exact Fb rfl rfl (λl hl=>F7 o b4 1 l (hl _ (.tail _ (.head _))))
  ·rfl
  ·rfl
  ·rfl
  refine BI ?_;apply CE
  ·exact Az rfl rfl (Fo p.h R.H (n) (hR.inv) s.H hR.ho (o.nd,1) (Ip 2 o.nd 8) _)
  ·rfl
  ·rfl
  ·rfl
  ·rintro _ _ ⟨_,_,_,rfl⟩;exact hsubR _
  rintro _ _ ⟨rfl,lH1,hq1,rfl⟩;refine BI ?_;refine Aj ?_;obtain⟨H1,hH1⟩: ∃x,x=(FH R.H (o.nd,1) (Ip 2 o.nd 8)).2:=⟨_,rfl⟩
  have hI1:InvH H1 (n+1):=by rw[hH1];exact InvH.root (hR.inv) _ _ (J0 _ _ _)
  rw[<-hH1] at hq1;refine Ce [7] 8 ([Co b p,HX b4 o]) ?_ (hR:=(hsubR _));refine BI ?_;apply D7
  ·exact AK rfl rfl (λl hl=>Dx b p l (hl _ (.head _)))
  ·rfl
  ·rfl
  ·rfl
  refine BI ?_;apply D7
  ·exact Fb rfl rfl (λl hl=>F7 o b4 2 l (hl _ (.tail _ (.head _))))
  ·rfl
  ·rfl
  ·rfl
  refine BI ?_;apply CE
  ·exact Az rfl rfl (Fo p.h H1 (n+1) (hI1) lH1 hq1 (o.nd,2) (Ip 9 o.th 0) _)
  ·rfl
  ·rfl
  ·rfl
  ·rintro _ _ ⟨_,_,_,rfl⟩;exact hsubR _
  rintro _ _ ⟨rfl,lH2,hq2,rfl⟩;refine BI ?_;refine Aj ?_;obtain⟨H2,hH2⟩: ∃x,x=(FH H1 (o.nd,2) (Ip 9 o.th 0)).2:=⟨_,rfl⟩
  have hI2:InvH H2 (n+1+1):=by rw[hH2];exact InvH.root (hI1) _ _ (J0 _ _ _)
  rw[<-hH2] at hq2;refine Ce [7] 8 ([Co b p,HX b4 o]) ?_ (hR:=(hsubR _));refine BI ?_;apply D7
  ·exact AK rfl rfl (λl hl=>Dx b p l (hl _ (.head _)))
  ·rfl
  ·rfl
  ·rfl
  refine BI ?_;apply D7
  ·exact Fb rfl rfl (λl hl=>F7 o b4 3 l (hl _ (.tail _ (.head _))))
  ·rfl
  ·rfl
  ·rfl
  refine BI ?_;apply CE
  ·exact Az rfl rfl (Fo p.h H2 (n+1+1) (hI2) lH2 hq2 (o.nd,3) (Ip 1 o.un 0) _)
  ·rfl
  ·rfl
  ·rfl
  ·rintro _ _ ⟨_,_,_,rfl⟩;exact hsubR _
  rintro _ _ ⟨rfl,lH3,hq3,rfl⟩;refine BI ?_;refine Aj ?_;obtain⟨H3,hH3⟩: ∃x,x=(FH H2 (o.nd,3) (Ip 1 o.un 0)).2:=⟨_,rfl⟩
  have hI3:InvH H3 (n+1+1+1):=by rw[hH3];exact InvH.root (hI2) _ _ (J0 _ _ _)
  rw[<-hH3] at hq3;refine Ce [7] 8 ([Co b p,HX b4 o]) ?_ (hR:=(hsubR _));refine BI ?_;apply D7
  ·exact AK rfl rfl (λl hl=>Dx b p l (hl _ (.head _)))
  ·rfl
  ·rfl
  ·rfl
  refine BI ?_;apply D7
  ·exact Fb rfl rfl (λl hl=>F7 o b4 4 l (hl _ (.tail _ (.head _))))
  ·rfl
  ·rfl
  ·rfl
  refine BI ?_;apply CE
  ·exact Az rfl rfl (Fo p.h H3 (n+1+1+1) (hI3) lH3 hq3 (o.nd,4) (Ip 5 o.rt 0) _)
  ·rfl
  ·rfl
  ·rfl
  ·rintro _ _ ⟨_,_,_,rfl⟩;exact hsubR _
  rintro _ _ ⟨rfl,lH4,hq4,rfl⟩;refine BI ?_;refine Aj ?_;obtain⟨H4,hH4⟩: ∃x,x=(FH H3 (o.nd,4) (Ip 5 o.rt 0)).2:=⟨_,rfl⟩
  have hI4:InvH H4 (n+1+1+1+1):=by rw[hH4];exact InvH.root (hI3) _ _ (J0 _ _ _)
  rw[<-hH4] at hq4;refine Ce [7] 8 ([Co b p,HX b4 o]) ?_ (hR:=(hsubR _));refine BI ?_;apply D7
  ·exact AK rfl rfl (λl hl=>Dx b p l (hl _ (.head _)))
  ·rfl
  ·rfl
  ·rfl
  refine BI ?_;apply D7
  ·exact Fb rfl rfl (λl hl=>F7 o b4 6 l (hl _ (.tail _ (.head _))))
  ·rfl
  ·rfl
  ·rfl
  refine BI ?_;apply CE
  ·exact Az rfl rfl (Fo p.h H4 (n+1+1+1+1) (hI4) lH4 hq4 (o.nd,6) (Ip 6 o.pl 0) _)
  ·rfl
  ·rfl
  ·rfl
  ·rintro _ _ ⟨_,_,_,rfl⟩;exact hsubR _
  rintro _ _ ⟨rfl,lH6,hq6,rfl⟩;refine BI ?_;refine Aj ?_;obtain⟨H6,hH6⟩: ∃x,x=(FH H4 (o.nd,6) (Ip 6 o.pl 0)).2:=⟨_,rfl⟩
  have hI6:InvH H6 (n+1+1+1+1+1):=by rw[hH6];exact InvH.root (hI4) _ _ (J0 _ _ _)
  rw[<-hH6] at hq6;refine Ce [7] 8 ([Co b p,HX b4 o]) ?_ (hR:=(hsubR _));refine BI ?_;apply D7
  ·exact AK rfl rfl (λl hl=>Dx b p l (hl _ (.head _)))
  ·rfl
  ·rfl
  ·rfl
  refine BI ?_;apply D7
  ·exact Fb rfl rfl (λl hl=>F7 o b4 1 l (hl _ (.tail _ (.head _))))
  ·rfl
  ·rfl
  ·rfl
  refine BI ?_;apply CE
  ·exact Az rfl rfl (Ld p.h H6 (n+1+1+1+1+1) (hI6) Af lH6 hq6 (o.nd,1) (o.th,0) 7 _)
  ·rfl
  ·rfl
  ·rfl
  ·rintro _ _ ⟨_,_,_,rfl⟩;exact hsubR _
  rintro _ _ ⟨rfl,lH7,hq7,rfl⟩;refine BI ?_;refine Aj ?_;obtain⟨H7,hH7⟩: ∃x,x=(Gi H6 (o.nd,1) (o.th,0) (Ej (DH H6.1 (o.nd,1)) 7)).2:=⟨_,rfl⟩
  have hI7:InvH H7 (n+1+1+1+1+1+1):=by rw[hH7];exact InvH.der (hI6) _ _ _ (MK (hI6.at _).2 _)
  rw[<-hH7] at hq7;refine Ce [7] 8 ([Co b p,HX b4 o]) ?_ (hR:=(hsubR _));refine BI ?_;apply D7
  ·exact AK rfl rfl (λl hl=>Dx b p l (hl _ (.head _)))
  ·rfl
  ·rfl
  ·rfl
  refine BI ?_;apply D7
  ·exact Fb rfl rfl (λl hl=>F7 o b4 4 l (hl _ (.tail _ (.head _))))
  ·rfl
  ·rfl
  ·rfl
  refine BI ?_;apply CE
  ·exact Az rfl rfl (Ld p.h H7 (n+1+1+1+1+1+1) (hI7) Af lH7 hq7 (o.nd,4) (o.th,1) 7 _)
  ·rfl
  ·rfl
  ·rfl
  ·rintro _ _ ⟨_,_,_,rfl⟩;exact hsubR _
  rintro _ _ ⟨rfl,lH8,hq8,rfl⟩;refine BI ?_;refine Aj ?_;obtain⟨H8,hH8⟩: ∃x,x=(Gi H7 (o.nd,4) (o.th,1) (Ej (DH H7.1 (o.nd,4)) 7)).2:=⟨_,rfl⟩
  have hI8:InvH H8 (n+1+1+1+1+1+1+1):=by rw[hH8];exact InvH.der (hI7) _ _ _ (MK (hI7.at _).2 _)
  rw[<-hH8] at hq8;have hsubA: ∀(N:As.ASt) (c:Ab),c∈[Co b p,HX b4 o]->c∈As.asA p.n N::(lH8++(HX b4 o::Co b p::(s.M++(s.C++(s.A++(s.T++(s.Q++(s.E++(s.V++G))))))))):=λN c hc=>by
   rcases Aq.1 hc with rfl|hc
   ·exact .tail _ (Aa _ (.tail _ (.head _)))
   ·rw[AA.1 hc];exact .tail _ (Aa _ (.head _))
  refine DQ (l':=As.asA p.n R.N::(lH8++(HX b4 o::Co b p::(s.M++(s.C++(s.A++(s.T++(s.Q++(s.E++(s.V++G)))))))))) (AY []) ?_;refine Ce [4] 5 ([Co b p,HX b4 o]) ?_ (hR:=(hsubA _));refine BI ?_;apply D7
  ·exact AK rfl rfl (λl hl=>JZ b p l (hl _ (.head _)))
  ·rfl
  ·rfl
  ·rfl
  refine BI ?_;apply CE
  ·exact Az rfl rfl (As.addPool_any p.n R.N o.pl _)
  ·rfl
  ·rfl
  ·rfl
  ·rintro _ _ ⟨_,rfl⟩;exact hsubA _
  rintro _ _ ⟨rfl,rfl⟩;refine BI ?_;refine Aj ?_;refine Ce [6] 7 ([Co b p,HX b4 o]) ?_ (hR:=(hsubA _));refine BI ?_;apply D7
  ·exact AK rfl rfl (λl hl=>JZ b p l (hl _ (.head _)))
  ·rfl
  ·rfl
  ·rfl
  refine BI ?_;apply CE
  ·exact Az rfl rfl (As.assign_any p.n (As.addP R.N o.pl).2.2 o.pl o.rt _ (λn hn=>by rw[Qs];have:=hR.giv n hn;omega))
  ·rfl
  ·rfl
  ·rfl
  ·rintro _ _ ⟨_,rfl⟩;exact hsubA _
  rintro _ _ ⟨rfl,rfl⟩;refine BI ?_;refine Aj ?_;refine A8 (l':=Cn b p ⟨s.M,s.C,s.A,lH8,s.T,s.Q,s.E,s.V⟩ (R2 R o false) ([HX b4 o]++G)) (by unfold Cn;dsimp only[R2];exact AY []) ⟨rfl,⟨s.M,s.C,s.A,lH8,s.T,s.Q,s.E,s.V⟩,[HX b4 o],?_,rfl⟩;have hL:fX R.H o false=H8:=by simp only[fX,Bg,CS];rw[<-hH1,<-hH2,<-hH3,<-hH4,<-hH6,<-hH7,<-hH8]
  unfold R2;rw[hL];clear hH1 hH2 hH3 hH4 hH6 hH7 hH8;exact⟨hR.mem,hR.co,hR.ar,hR.an,hq8,hI8.mono Af,λi hi=>by have:=ZH (s:=(As.addP R.N o.pl).2.2) (k:=n) (λn hn=>by rw[Qs];exact hR.giv n hn) o.pl o.rt i hi;simp only;omega,hR.th,hR.qu,λj hj=>BW (hR.ql j hj) Af,hR.en,hR.cu,hR.c1⟩
def Pn:List OwT->List Value
 |[]=>[]
 |o::os=>PI o++Pn os
theorem Qt: ∀{os:List OwT} {i:Nat} {o:OwT},os[i]?=some o->i*5+5<=(toArray (Pn os)).size/\(toArray (Pn os)).extract (i*5) (i*5+5)=toArray (PI o)
 |[],i,o,h=>by cases h
 |a::os,0,o,h=>by obtain rfl:a=o:=AV h;refine⟨by show 0*5+5<=(PI a++Pn os).length;simp[PI],?_⟩;show(toArray (PI a++Pn os)).extract (0*5) (0*5+5)=_;simp[PI,Cx]
 |a::os,i+1,o,h=>by
  obtain⟨h1,h2⟩:=Qt (os:=os) (i:=i) (o:=o) h;simp only[Bm] at h1;refine⟨by show(i+1)*5+5<=(PI a++Pn os).length;simp[PI];omega,?_⟩;show(toArray (PI a++Pn os)).extract ((i+1)*5) ((i+1)*5+5)=_;rw[<-h2];simp only[Fs,Cx];have e1:(i+1)*5=i*5+(PI a).length:=by show _=i*5+5;omega
  have e2:(i+1)*5+5-(i+1)*5=i*5+5-i*5:=by omega
  rw[e2];congr 1;rw[e1,Js,IC];simp
abbrev TR:OwT:=⟨0,0,0,0,0⟩
abbrev fZ(o:Int):CapT:=⟨8,o,7,0,0,0,0,0⟩
theorem oH(o:Int):Ik (fZ o):=⟨Int.le_refl 0,by show(0:Int)<=9223372036854775807;decide⟩
def shH(H:HS)(nd:Int)(i:Nat)(o:OwT):HS:=
 let H1:=(Gi H (nd,7) (o.nd,7) (Il (DH H.1 (nd,7)) 7 (i+1))).2
 (Gi H1 (nd,7) (o.th,2) (Il (DH H1.1 (nd,7)) 7 (101+i))).2
def shK(nd:Int)(os:List OwT)(H:HS):Nat->HS
 |0=>H
 |k+1=>if k=0 then shK nd os H k else shH (shK nd os H k) nd k (os.getD k TR)
def Po(H:HS)(os:List OwT)(sh:Int):HS:=shK (os.getD 0 TR).nd os (FH H ((os.getD 0 TR).nd,7) (fZ sh)).2 os.length
theorem InvH.shH{H:HS}{n:Nat}(h:InvH H n)(nd:Int)(i:Nat)(o:OwT):InvH (shH H nd i o) (n+2):=by have h1:=h.der (nd,7) (o.nd,7) (Il (DH H.1 (nd,7)) 7 (i+1)) (Ro (h.at _).2 _ _);exact h1.der (nd,7) (o.th,2) _ (Ro (h1.at _).2 _ _)
theorem InvH.shK{H:HS}{n:Nat}(h:InvH H n)(nd:Int)(os:List OwT): ∀k,InvH (shK nd os H k) (n+2*k)
 |0=>h
 |k+1=>by
  show InvH (if k=0 then _ else _) _
  split
  ·exact(InvH.shK h nd os k).mono Af
  ·exact((InvH.shK h nd os k).shH nd k _).mono Af
abbrev TS(B:Nat)(s:CB):Ab:=(B,.cells (toArray (Cj s)) 61 (0,0))
set_option maxHeartbeats 4000000 in
theorem bT(F C n:Nat)(R:RT)(b:Nat)(p:RP)(s:RL)(hR:IsRl F C n R p s)(hn:n<=900)(os:List OwT)(h0:1<=os.length)(h3:os.length<=3)(sh:Int)(bs cap:Nat)(T:TypeId)(fz:Nat×Nat)(G:List Ab)(hm:(bs,Obj.cells (toArray (Pn os)) T fz)∈G):
 Fn prog 94 [pV b,.slice (some ⟨bs,0,none⟩) os.length cap,.int .i64 sh] (Cn b p s R G) λv l'=>
 v= .tuple #[]/\ ∃s' X,IsRl F C (n+7) {R with H:=Po R.H os sh} p s'/\l'=Cn b p s' {R with H:=Po R.H os sh} (X++G):=by
 obtain⟨o0,ot,rfl⟩: ∃o ot,os=o::ot:=by
  cases os with
  |nil=>exact absurd h0 AW
  |cons o ot=>exact⟨o,ot,rfl⟩
 refine AO func94 ntmps94 λE=>?_;unfold Cn;refine Aj ?_;have hm1:(bs,Obj.cells (toArray (Pn (o0::ot))) T fz)∈Co b p::As.asA p.n R.N::(s.M++(s.C++(s.A++(s.H++(s.T++(s.Q++(s.E++(s.V++G)))))))):= .tail _ (.tail _ (Aa _ (Aa _ (Aa _ (Aa _ (Aa _ (Aa _ (Aa _ (Aa _ hm)))))))));refine Bc (Dv (v:= .int .i64 o0.nd) rfl hm1 rfl) ?_;refine AQ λb6=>?_;have hsub1: ∀(lq:List Ab) (c:Ab),c∈[Co b p,TS b6 (o0.nd,7)]->c∈lq++(TS b6 (o0.nd,7)::Co b p::As.asA p.n R.N::(s.M++(s.C++(s.A++(s.T++(s.Q++(s.E++(s.V++G)))))))):=λlq c hc=>by
  rcases Aq.1 hc with rfl|hc
  ·exact Aa _ (.tail _ (.head _))
  ·rw[AA.1 hc];exact Aa _ (.head _)
 refine DQ (l':=s.H++(TS b6 (o0.nd,7)::Co b p::As.asA p.n R.N::(s.M++(s.C++(s.A++(s.T++(s.Q++(s.E++(s.V++G))))))))) (by dsimp only[TS,Cj];exact AY []) ?_;refine Ce [5] 6 ([Co b p,TS b6 (o0.nd,7)]) ?_ (hR:=(hsub1 _));refine BI ?_;apply D7
 ·exact AK rfl rfl (λl hl=>Dx b p l (hl _ (.head _)))
 ·rfl
 ·rfl
 ·rfl
 refine BI ?_;apply CE
 ·exact Az rfl rfl (Fo p.h R.H n hR.inv s.H hR.ho (o0.nd,7) (fZ sh) _)
 ·rfl
 ·rfl
 ·rfl
 ·rintro _ _ ⟨_,_,_,rfl⟩;exact hsub1 _
 rintro _ _ ⟨rfl,lH1,hq1,rfl⟩;refine BI ?_;refine Aj ?_;obtain⟨H1,hH1⟩: ∃x,x=(FH R.H (o0.nd,7) (fZ sh)).2:=⟨_,rfl⟩
 have hI1:InvH H1 (n+1):=by rw[hH1];exact InvH.root hR.inv _ _ (oH _)
 rw[<-hH1] at hq1;refine Cu (α:=Nat×List Ab×List Ab) (λx=>[(0,pV b),(6,pV b6),(20,.slice (some ⟨bs,0,none⟩) (o0::ot).length cap),(21,.int .i64 ((o0::ot).length:Nat)),(22,.int .i64 x.1)]) (λx=>x.2.1++(TS b6 (o0.nd,7)::Co b p::As.asA p.n R.N::(s.M++(s.C++(s.A++(s.T++(s.Q++(s.E++(s.V++(x.2.2++G))))))))))
  (λx=>x.1<=(o0::ot).length/\IsH p.h (shK o0.nd (o0::ot) H1 x.1) x.2.1) (λx=>(o0::ot).length-x.1) (0,lH1,[]) ⟨Bf _,hq1⟩ ⟨rfl,rfl,rfl,rfl,rfl,trivial⟩ (by simp only[Ag];exact AY []) ?_
 rintro⟨k,lH,X⟩ ⟨hk,hq⟩;simp only at hk hq⊢;by_cases hkl:k<(o0::ot).length
 ·obtain⟨o,ho⟩: ∃o,(o0::ot)[k]?=some o:=⟨_,Am hkl⟩
  obtain⟨x1,x2⟩:=Qt ho;have hm2:(bs,Obj.cells (toArray (Pn (o0::ot))) T fz)∈lH++(TS b6 (o0.nd,7)::Co b p::As.asA p.n R.N::(s.M++(s.C++(s.A++(s.T++(s.Q++(s.E++(s.V++(X++G))))))))):=Aa _ (.tail _ (.tail _ (.tail _ (Aa _ (Aa _ (Aa _ (Aa _ (Aa _ (Aa _ (Aa _ (Aa _ hm)))))))))));refine Aj ?_;refine Bc (Dm rfl hm2 x1 x2) ?_;refine AQ λb8=>?_;by_cases hk0:k=0
  ·subst hk0;refine Aj ?_;refine BS (0+1,lH,HX b8 o::X) ⟨Af,?_⟩ (by simp only;omega) ⟨rfl,rfl,rfl,rfl,rfl,trivial⟩ (by dsimp only[HX,PI];exact AY []);exact hq
  refine Aj ?_;have hI:InvH (shK o0.nd (o0::ot) H1 k) (n+1+2*k):=hI1.shK _ _ _;have hsub2: ∀(lq:List Ab) (c:Ab),c∈[Co b p,TS b6 (o0.nd,7),HX b8 o]->c∈lq++(HX b8 o::TS b6 (o0.nd,7)::Co b p::As.asA p.n R.N::(s.M++(s.C++(s.A++(s.T++(s.Q++(s.E++(s.V++(X++G))))))))):=λlq c hc=>by
   rcases Aq.1 hc with rfl|hc
   ·exact Aa _ (.tail _ (.tail _ (.head _)))
   ·rcases Aq.1 hc with rfl|hc
    ·exact Aa _ (.tail _ (.head _))
    ·rw[AA.1 hc];exact Aa _ (.head _)
  refine DQ (l':=lH++(HX b8 o::TS b6 (o0.nd,7)::Co b p::As.asA p.n R.N::(s.M++(s.C++(s.A++(s.T++(s.Q++(s.E++(s.V++(X++G)))))))))) (by dsimp only[HX,PI];exact AY []) ?_;refine Ce [9] 10 ([Co b p,TS b6 (o0.nd,7),HX b8 o]) ?_ (hR:=(hsub2 _));refine BI ?_;apply D7
  ·exact AK rfl rfl (λl hl=>Dx b p l (hl _ (.head _)))
  ·rfl
  ·rfl
  ·rfl
  refine BI ?_;apply CE
  ·exact Az rfl rfl (Pi p.h (shK o0.nd (o0::ot) H1 k) _ (hI) Af lH hq (o0.nd,7) (o.nd,7) 7 (k+1) Af _)
  ·rfl
  ·rfl
  ·rfl
  ·rintro _ _ ⟨_,_,_,rfl⟩;exact hsub2 _
  rintro _ _ ⟨rfl,lM1,hm1',rfl⟩;refine BI ?_;refine Aj ?_;have hI':=hI.der (o0.nd,7) (o.nd,7) (Il (DH (shK o0.nd (o0::ot) H1 k).1 (o0.nd,7)) 7 (k+1)) (Ro (hI.at _).2 _ _);refine Ce [9] 10 ([Co b p,TS b6 (o0.nd,7),HX b8 o]) ?_ (hR:=(hsub2 _));refine BI ?_;apply D7
  ·exact AK rfl rfl (λl hl=>Dx b p l (hl _ (.head _)))
  ·rfl
  ·rfl
  ·rfl
  refine BI ?_;apply CE
  ·exact Az rfl rfl (Pi p.h _ _ (hI') Af lM1 hm1' (o0.nd,7) (o.th,2) 7 (101+k) Af _)
  ·rfl
  ·rfl
  ·rfl
  ·rintro _ _ ⟨_,_,_,rfl⟩;exact hsub2 _
  rintro _ _ ⟨rfl,lM2,hm2',rfl⟩;refine BI ?_;refine Aj ?_;refine BS (k+1,lM2,HX b8 o::X) ⟨Af,?_⟩ (by simp only;omega) ⟨rfl,rfl,rfl,rfl,rfl,trivial⟩ (AY []);have e1:shK o0.nd (o0::ot) H1 (k+1)=shH (shK o0.nd (o0::ot) H1 k) o0.nd k o:=by show(if k=0 then _ else _)=_;rw[Ac hk0,List.getD,ho,Dn]
  show IsH p.h (shK o0.nd (o0::ot) H1 (k+1)) lM2;rw[e1];exact hm2'
 ·refine Aj ?_;obtain rfl:k=(o0::ot).length:=by omega
  have hL:Po R.H (o0::ot) sh=shK o0.nd (o0::ot) H1 (o0::ot).length:=by show shK o0.nd (o0::ot) (FH R.H (o0.nd,7) (fZ sh)).2 _=_;rw[<-hH1]
  have hI:InvH (shK o0.nd (o0::ot) H1 (o0::ot).length) (n+1+2*(o0::ot).length):=hI1.shK _ _ _;refine A8 (l':=Cn b p ⟨s.M,s.C,s.A,lH,s.T,s.Q,s.E,s.V⟩ {R with H:=Po R.H (o0::ot) sh} ((TS b6 (o0.nd,7)::X)++G)) (by unfold Cn;dsimp only;exact AY []) ⟨rfl,⟨s.M,s.C,s.A,lH,s.T,s.Q,s.E,s.V⟩,TS b6 (o0.nd,7)::X,?_,rfl⟩;rw[hL];exact⟨hR.mem,hR.co,hR.ar,hR.an,hq,hI.mono Af,λi hi=>by have:=hR.giv i hi;simp only;omega,hR.th,hR.qu,λj hj=>BW (hR.ql j hj) Af,hR.en,hR.cu,hR.c1⟩
def LK(R:RT)(id:Int):RT:=match Th.findH R.T id with
 |none=>R
 |some t=>{R with T:=(Th.setD R.T {t with st:=1}).2,Q:=(Qu.addQ R.Q id t.pr).2}
theorem f6{X:Nat->List Int}(h: ∀n,n<8->(X n).length<=k)(id pr:Int): ∀n,n<8->((Qu.addQ X id pr).2 n).length<=k+1:=by
 intro n hn;have h0:=h n hn;unfold Qu.addQ
 split
 ·exact Ez h0
 split
 ·exact Ez h0
 ·simp only[Qu.upd]
  split
  ·rename_i e;subst e;simp only[Ah,Bi,Eh];omega
  ·exact Ez h0
set_option maxHeartbeats 2000000 in
theorem bU(F C n:Nat)(R:RT)(b:Nat)(p:RP)(s:RL)(hR:IsRl F C n R p s)(hn:n<=900)(id:Int)(G:List Ab):Fn prog 98 [pV b,.int .i64 id,.int .i64 1] (Cn b p s R G) λv l'=>
 (∃e,v= .int .i64 e)/\ ∃s' X,IsRl F C (n+1) (LK R id) p s'/\l'=Cn b p s' (LK R id) (X++G):=by
 refine AO func98 ntmps98 λE=>?_;unfold Cn;refine Aj ?_;refine Bc (AK rfl rfl (λl hl=>Th.get_any p.t R.T s.T hR.th id l (λc hc=>hl _ (.tail _ (.tail _ (Aa _ (Aa _ (Aa _ (Aa _ (Ai _ hc)))))))))) ?_;cases hf:Th.findH R.T id with
 |none=>
  have e:LK R id=R:=by unfold LK;rw[hf]
  simp only[Option.getD_none,E0];refine AQ λb7=>?_;refine By [] rfl (l':=Cn b p s R ([Th.thC b7 Th.thZ]++G)) (by unfold Cn;dsimp only[Th.thC,Th.encH,Th.thZ];exact AY []) (by exact A7) ⟨⟨_,rfl⟩,s,[Th.thC b7 Th.thZ],?_,by rw[e];rfl⟩;rw[e];exact hR.mono Af
 |some t=>
  have e:LK R id={R with T:=(Th.setD R.T {t with st:=1}).2,Q:=(Qu.addQ R.Q id t.pr).2}:=by unfold LK;rw[hf]
  simp only[Dn,Hy];refine AQ λb7=>?_;have hsub1: ∀(lq:List Ab) (c:Ab),c∈[Co b p,Th.thC b7 {t with st:=1}]->c∈lq++(Th.thC b7 {t with st:=1}::Co b p::As.asA p.n R.N::(s.M++(s.C++(s.A++(s.H++(s.Q++(s.E++(s.V++G)))))))):=λlq c hc=>by
   rcases Aq.1 hc with rfl|hc
   ·exact Aa _ (.tail _ (.head _))
   ·rw[AA.1 hc];exact Aa _ (.head _)
  refine DQ (l':=s.T++(Th.thC b7 {t with st:=1}::Co b p::As.asA p.n R.N::(s.M++(s.C++(s.A++(s.H++(s.Q++(s.E++(s.V++G))))))))) (by dsimp only[Th.thC,Th.encH];exact AY []) ?_;refine Ce [5] 6 ([Co b p,Th.thC b7 {t with st:=1}]) ?_ (hR:=(hsub1 _));refine BI ?_;apply CE
  ·exact Az rfl rfl (Th.set_any p.t R.T s.T hR.th {t with st:=1} _)
  ·rfl
  ·rfl
  ·rfl
  ·rintro _ _ ⟨_,_,_,rfl⟩;exact hsub1 _
  rintro _ _ ⟨rfl,lT,hT,rfl⟩;refine BI ?_;refine Aj ?_;have hsub2: ∀(lq:List Ab) (c:Ab),c∈[Co b p,Th.thC b7 {t with st:=1}]->c∈lq++(Th.thC b7 {t with st:=1}::Co b p::As.asA p.n R.N::(s.M++(s.C++(s.A++(s.H++(lT++(s.E++(s.V++G)))))))):=λlq c hc=>by
   rcases Aq.1 hc with rfl|hc
   ·exact Aa _ (.tail _ (.head _))
   ·rw[AA.1 hc];exact Aa _ (.head _)
  refine DQ (l':=s.Q++(Th.thC b7 {t with st:=1}::Co b p::As.asA p.n R.N::(s.M++(s.C++(s.A++(s.H++(lT++(s.E++(s.V++G))))))))) (AY []) ?_;refine Ce [7] 8 ([Co b p,Th.thC b7 {t with st:=1}]) ?_ (hR:=(hsub2 _));refine BI ?_;apply CE
  ·exact Az rfl rfl (Qu.add_any p.q R.Q s.Q id t.pr hR.qu (λj hj=>by have:=hR.ql j hj;omega) _)
  ·rfl
  ·rfl
  ·rfl
  ·rintro _ _ ⟨_,_,_,rfl⟩;exact hsub2 _
  rintro _ _ ⟨rfl,lQ,hQ,rfl⟩;refine BI ?_;refine Aj ?_;rw[e];refine A8 (l':=Cn b p ⟨s.M,s.C,s.A,s.H,lT,lQ,s.E,s.V⟩ {R with T:=(Th.setD R.T {t with st:=1}).2,Q:=(Qu.addQ R.Q id t.pr).2} ([Th.thC b7 {t with st:=1}]++G)) (by unfold Cn;dsimp only;exact AY []) ⟨⟨_,rfl⟩,⟨s.M,s.C,s.A,s.H,lT,lQ,s.E,s.V⟩,[Th.thC b7 {t with st:=1}],?_,rfl⟩;exact⟨hR.mem,hR.co,hR.ar,hR.an,hR.ho,hR.inv.mono Af,λi hi=>by have:=hR.giv i hi;simp only;omega,hT,hQ,f6 hR.ql id t.pr,hR.en,hR.cu,hR.c1⟩
abbrev uR(B b:Nat):Ab:=(B,.cells (toArray [pV b]) 153 (0,0))
theorem f9(b:Nat)(l:List Ab):Fn prog 99 [pV b] l λv l'=> ∃B,v= .tuple #[pV B,.int .i64 0]/\l'=uR B b::l:=by refine AO func99 ntmps99 λE=>?_;refine Aj ?_;refine AS (CR rfl) ?_;rintro _ _ ⟨B,_,rfl,rfl⟩;refine Aj ?_;exact A8 .refl ⟨B,rfl,rfl⟩
def M3(F C T:Int):Bool:=decide (1<=T)&&decide (T<=3)&&decide (1<=C)&&decide (C<=3)&&decide (11*T<=F)&&decide (F<=64)
set_option maxHeartbeats 1000000 in
theorem Wu(F C T:Int)(sh:Bool)(l:List Ab):Fn prog 89 [.agg (toArray [.int .i64 F,.int .i64 C,.int .i64 T,.bool sh])] l λv l'=>v= .bool (M3 F C T)/\l'=l:=by
 refine AO func89 ntmps89 λE=>?_;refine Aj ?_;refine AS (CR rfl) ?_;rintro _ _ ⟨b1,_,rfl,rfl⟩;refine Aj ?_;by_cases h0:1<=T
 case neg=>refine Aj ?_;exact By [] rfl (l':=l) (.drop .refl) (by exact A7) ⟨by simp[M3,Iw,h0],rfl⟩
 by_cases h1:T<=3
 case neg=>refine Aj ?_;exact By [] rfl (l':=l) (.drop .refl) (by exact A7) ⟨by simp[M3,Iw,h0,h1],rfl⟩
 by_cases h2:1<=C
 case neg=>refine Aj ?_;exact By [] rfl (l':=l) (.drop .refl) (by exact A7) ⟨by simp[M3,Iw,h0,h1,h2],rfl⟩
 by_cases h3:C<=3
 case neg=>refine Aj ?_;exact By [] rfl (l':=l) (.drop .refl) (by exact A7) ⟨by simp[M3,Iw,h0,h1,h2,h3],rfl⟩
 by_cases h4:11*T<=F
 case neg=>refine Aj ?_;exact By [] rfl (l':=l) (.drop .refl) (by exact A7) ⟨by simp[M3,Iw,h0,h1,h2,h3,h4],rfl⟩
 by_cases h5:F<=64
 case neg=>refine Aj ?_;exact By [] rfl (l':=l) (.drop .refl) (by exact A7) ⟨by simp[M3,Iw,h0,h1,h2,h3,h4,h5],rfl⟩
 refine Aj ?_;exact By [] rfl (l':=l) (.drop .refl) (by exact A7) ⟨by simp[M3,Iw,h0,h1,h2,h3,h4,h5],rfl⟩
def p9(S:RT×List Int)(x:Int×Int×Int):RT×List Int:=((IA S.1 x.1 x.2.1 x.2.2).2,S.2++[(IA S.1 x.1 x.2.1 x.2.2).1.1])
def Vh(F:Nat)(xs:List (Int×Int×Int)):RT×List Int:=xs.foldl p9 (In F,[])
theorem ga(F:Nat)(xs:List (Int×Int×Int))(x:Int×Int×Int):Vh F (xs++[x])=p9 (Vh F xs) x:=by unfold Vh;rw[ED];rfl
theorem ZI(F:Nat)(xs:List (Int×Int×Int)):(Vh F xs).2.length=xs.length:=by
 have h: ∀(xs:List (Int×Int×Int)) (S:RT×List Int),(xs.foldl p9 S).2.length=S.2.length+xs.length:=by
  intro xs
  induction xs with
  |nil=>intro S;rfl
  |cons x r ih=>intro S;show(List.foldl p9 (p9 S x) r).2.length=_;rw[ih];simp[p9];omega
 rw[Vh,h];simp
abbrev iP(B:Nat)(F C T:Int)(sh:Bool):Ab:=(B,.cells (toArray [.int .i64 F,.int .i64 C,.int .i64 T,.bool sh]) 23 (0,0))
theorem kE(F C T:Int)(sh:Bool)(h:M3 F C T=false)(l:List Ab):Fn prog 67 [.agg (toArray [.int .i64 F,.int .i64 C,.int .i64 T,.bool sh])] l λv l'=>v= .tuple #[.pointer none,.slice none 0 0,.int .i64 3]/\l'=l:=by refine AO func67 ntmps67 λE=>?_;refine Aj ?_;refine AS (CR rfl) ?_;rintro _ _ ⟨b1,_,rfl,rfl⟩;refine Aj ?_;refine Bc (AK rfl rfl (λl hl=>Wu F C T sh l)) ?_;rw[h];refine Aj ?_;exact A8 (l':=l) (.drop .refl) ⟨rfl,rfl⟩
abbrev N5(B b:Nat):Ab:=(B,.cells (toArray [pV b]) 125 (0,0))
abbrev L6(B:Nat)(v:Value):Ab:=(B,.cells (toArray [v]) 40 (0,0))
def vw(F C b:Nat)(p:RP)(b8:Nat)(pre:List (Int×Int×Int))(l:List Ab):Prop:= ∃s v cs X,IsRl F C pre.length (Vh F pre).1 p s/\OwnSl 3 1 v pre.length ((Vh F pre).2.map CA) cs/\l=Cn b p s (Vh F pre).1 (L6 b8 v::(cs++X))
def Yk(ids:List Int)(T i:Nat):OwT:=⟨ids.getD (4*i) 0,ids.getD (4*i+1) 0,ids.getD (4*i+2) 0,ids.getD (4*i+3) 0,ids.getD (ids.length-T+i) 0⟩
def N6(ids:List Int)(T i:Nat):List OwT:=(List.range i).map (Yk ids T)++replicate (T-i) TR
theorem gc(n:Nat):Pn (replicate n TR)=(replicate n (PI TR)).flatten:=by
 induction n with
 |zero=>rfl
 |succ n ih=>rw[BE,BE,Cl,<-ih];rfl
def aft:Nat->Code->Code
 |0,c=>c
 |n+1,.seq _ c=>aft n c
 |_,c=>c
def qb:Code->Code
 | .seq c _=>c
 |c=>c
theorem Yl{N:Nat}{E:World}{Q:Exit->Act->World->Prop}{e:Exit}{fr fr':Fr}{ds:List Deferred}{l l':List Ab}(hs:FSub fr' fr)(p:Keep l l')(h:CH N E Q e fr' ds l'):CH N E Q e fr ds l:=⟨λa W hf hds hw=>h.run a W (hf.sub hs.spec) hds (p.sat hw)⟩
theorem UX: ∀os:List OwT,(Pn os).length=os.length*5
 |[]=>rfl
 |o::os=>by show(PI o++Pn os).length=_;rw[Ah,UX os];simp;omega
theorem ZJ(xs bs:List OwT):Pn (xs++bs)=Pn xs++Pn bs:=by
 induction xs with
 |nil=>rfl
 |cons a r ih=>show PI a++Pn (r++bs)=_;rw[ih];rfl
theorem Wv(ids:List Int)(T i:Nat)(h:i<=T):(N6 ids T i).length=T:=by simp[N6];omega
theorem gd(ids:List Int)(T i:Nat)(h:i<T):CO (toArray (Pn (N6 ids T i))) (i*5) (PI (Yk ids T i))=toArray (Pn (N6 ids T (i+1))):=by
 have e1:N6 ids T i=(List.range i).map (Yk ids T)++(TR::replicate (T-(i+1)) TR):=by unfold N6;rw[show T-i=(T-(i+1))+1 by omega,BE]
 have e2:N6 ids T (i+1)=(List.range i).map (Yk ids T)++(Yk ids T i::replicate (T-(i+1)) TR):=by unfold N6;rw[Cs,Ap,Al];rfl
 rw[e1,e2,ZJ,ZJ];have:=setFrom_mid (PI TR) (PI (Yk ids T i)) (Pn ((List.range i).map (Yk ids T))) (Pn (replicate (T-(i+1)) TR)) rfl;rw[UX,AZ,EC] at this;exact this
end Go.Proofs.YtlkgekpmileobaaGreat
