/- Laws that the statement's proof leans on (joined out of several texts). -/
import Derived.Test.YtlifcingifodfaaGreatGc34
set_option maxHeartbeats 4000000
set_option linter.unusedVariables false
set_option linter.unusedSimpArgs false
namespace Go.Proofs.YtlifcingifodfaaGreat
open Tryz
open List(toArray replicate)
open Go.RowKit
set_option maxRecDepth 20000
variable{k:Nat}
structure OwT where
 th:Int
 nd:Int
 rt:Int
 pl:Int
 un:Int
abbrev Rz(o:OwT):Ap:=[.int .i64 o.th,.int .i64 o.nd,.int .i64 o.rt,.int .i64 o.pl,.int .i64 o.un]
abbrev IX(B:Nat)(o:OwT):Bg:=(B,.cells (toArray (Rz o)) 202 (0,0))
abbrev Jk(k o b:Int):CapT:=⟨k,o,0,0,0,b,0,0⟩
theorem K9(k o b:Int):Jg (Jk k o b):=⟨Int.le_refl 0,by show(0:Int)<=9223372036854775807;decide⟩
def mP(H:HS)(o:OwT)(first:Bool):HS:=
 let H1:=(Gm H (o.nd,1) (Jk 2 o.nd 8)).2
 let H2:=(Gm H1 (o.nd,2) (Jk 9 o.th 0)).2
 let H3:=(Gm H2 (o.nd,3) (Jk 1 o.un 0)).2
 let H4:=(Gm H3 (o.nd,4) (Jk 5 o.rt 0)).2
 let H5:=if first then(Gm H4 (o.nd,5) (Jk 7 0 0)).2 else H4
 let H6:=(Gm H5 (o.nd,6) (Jk 6 o.pl 0)).2
 let H7:=(Gp H6 (o.nd,1) (o.th,0) (Eo (D5 H6.1 (o.nd,1)) 7)).2
 (Gp H7 (o.nd,4) (o.th,1) (Eo (D5 H7.1 (o.nd,4)) 7)).2
def Uk(R:RT)(o:OwT)(first:Bool):RT:={R with H:=mP R.H o first,N:=(As.assignP (As.addP R.N o.pl).2.2 o.pl o.rt).2.2.2}
theorem GN(o:OwT)(B:Nat)(i:Int)(l:Ad)(hm:IX B o∈l):Fn prog 142 [.int .i64 i,pV B] l λv l'=>v= .agg (toArray (Ct (o.nd,i)))/\l'=l:=by refine AO func142 ntmps142 λE=>?_;refine AQ λb3=>?_;exact AV [] ((b3,.cells (toArray (Ct (o.nd,i))) 61 (0,0))::l) rfl (l':=l) (by exact AU) (by exact Ba) (by exact AU) ⟨rfl,rfl⟩
theorem Sy(s:As.ASt)(o:Int)(n:Nat):(As.addP s o).2.2.given n=s.given n:=by
 unfold As.addP
 repeat' split
 all_goals rfl
theorem dZ{s:As.ASt}(h: ∀n,n<32->0<=s.given n/\s.given n<=k)(o r:Int): ∀n,n<32->0<=(As.assignP s o r).2.2.2.given n/\(As.assignP s o r).2.2.2.given n<=(k+1:Nat):=by
 intro n hn;have h0:=h n hn;unfold As.assignP
 repeat' split
 all_goals first
  |(simp only;omega)
  |(simp only[As.ASt.give]
    unfold As.upd
    split<;>first|omega|(rename_i e;rw[<-e];omega))
theorem mS(F C n:Nat)(R:RT)(b:Nat)(p:RP)(s:RL)(hR:IsRl F C n R p s)(hn:n<=900)(o:OwT)(first:Bool)(G:Ad):Fn prog 92 [pV b,.agg (toArray (Rz o)),.bool first] (Cy b p s R G) λv l'=>
 v= .tuple #[]/\ ∃s' X,IsRl F C (n+8) (Uk R o first) p s'/\l'=Cy b p s' (Uk R o first) (X++G):=by
 refine AO func92 ntmps92 λE=>?_;unfold Cy;refine Aj ?_;refine AR (C4 rfl) ?_;rintro _ _ ⟨b4,_,rfl,rfl⟩;refine Aj ?_;have FP: ∀(lq:Ad) (c:Bg),c∈[CD b p,IX b4 o]->c∈lq++(IX b4 o::CD b p::As.asA p.n R.N::(s.M++(s.C++(s.A++(s.T++(s.Q++(s.E++(s.V++G)))))))):=λlq c hc=>by
  rcases At.1 hc with rfl|hc
  ·exact Aa _ (.tail _ (.head _))
  ·rw[AE.1 hc];exact Aa _ (.head _)
 cases first with
 |true=>
  refine Em (l':=s.H++(IX b4 o::CD b p::As.asA p.n R.N::(s.M++(s.C++(s.A++(s.T++(s.Q++(s.E++(s.V++G))))))))) (by dsimp only[IX,Rz];exact A8 []) ?_;refine Cn [7] 8 ([CD b p,IX b4 o]) ?_ (hR:=(FP _));refine BS ?_;apply EF
  ·exact AL rfl rfl (λl hl=>DZ b p l (hl _ (.head _)))
  ·rfl
  ·rfl
  ·rfl
  refine BS ?_;apply EF
  ·exact FI rfl rfl (λl hl=>GN o b4 1 l (hl _ (.tail _ (.head _))))
  ·rfl
  ·rfl
  ·rfl
  refine BS ?_;apply CS
  ·exact AA rfl rfl (F0 p.h R.H (n) (hR.inv) s.H hR.ho (o.nd,1) (Jk 2 o.nd 8) _)
  ·rfl
  ·rfl
  ·rfl
  ·rintro _ _ ⟨_,_,_,rfl⟩;exact FP _
  rintro _ _ ⟨rfl,lH1,hq1,rfl⟩;refine BS ?_;refine Aj ?_;obtain⟨H1,hH1⟩: ∃x,x=(Gm R.H (o.nd,1) (Jk 2 o.nd 8)).2:=⟨_,rfl⟩
  have jn:InvH H1 (n+1):=by rw[hH1];exact InvH.root (hR.inv) _ _ (K9 _ _ _)
  rw[<-hH1] at hq1;refine Cn [7] 8 ([CD b p,IX b4 o]) ?_ (hR:=(FP _));refine BS ?_;apply EF
  ·exact AL rfl rfl (λl hl=>DZ b p l (hl _ (.head _)))
  ·rfl
  ·rfl
  ·rfl
  refine BS ?_;apply EF
  ·exact FI rfl rfl (λl hl=>GN o b4 2 l (hl _ (.tail _ (.head _))))
  ·rfl
  ·rfl
  ·rfl
  refine BS ?_;apply CS
  ·exact AA rfl rfl (F0 p.h H1 (n+1) (jn) lH1 hq1 (o.nd,2) (Jk 9 o.th 0) _)
  ·rfl
  ·rfl
  ·rfl
  ·rintro _ _ ⟨_,_,_,rfl⟩;exact FP _
  rintro _ _ ⟨rfl,lH2,yv,rfl⟩;refine BS ?_;refine Aj ?_;obtain⟨H2,hH2⟩: ∃x,x=(Gm H1 (o.nd,2) (Jk 9 o.th 0)).2:=⟨_,rfl⟩
  have NP:InvH H2 (n+1+1):=by rw[hH2];exact InvH.root (jn) _ _ (K9 _ _ _)
  rw[<-hH2] at yv;refine Cn [7] 8 ([CD b p,IX b4 o]) ?_ (hR:=(FP _));refine BS ?_;apply EF
  ·exact AL rfl rfl (λl hl=>DZ b p l (hl _ (.head _)))
  ·rfl
  ·rfl
  ·rfl
  refine BS ?_;apply EF
  ·exact FI rfl rfl (λl hl=>GN o b4 3 l (hl _ (.tail _ (.head _))))
  ·rfl
  ·rfl
  ·rfl
  refine BS ?_;apply CS
  ·exact AA rfl rfl (F0 p.h H2 (n+1+1) (NP) lH2 yv (o.nd,3) (Jk 1 o.un 0) _)
  ·rfl
  ·rfl
  ·rfl
  ·rintro _ _ ⟨_,_,_,rfl⟩;exact FP _
  rintro _ _ ⟨rfl,lH3,hq3,rfl⟩;refine BS ?_;refine Aj ?_;obtain⟨H3,hH3⟩: ∃x,x=(Gm H2 (o.nd,3) (Jk 1 o.un 0)).2:=⟨_,rfl⟩
  have ZR:InvH H3 (n+1+1+1):=by rw[hH3];exact InvH.root (NP) _ _ (K9 _ _ _)
  rw[<-hH3] at hq3;refine Cn [7] 8 ([CD b p,IX b4 o]) ?_ (hR:=(FP _));refine BS ?_;apply EF
  ·exact AL rfl rfl (λl hl=>DZ b p l (hl _ (.head _)))
  ·rfl
  ·rfl
  ·rfl
  refine BS ?_;apply EF
  ·exact FI rfl rfl (λl hl=>GN o b4 4 l (hl _ (.tail _ (.head _))))
  ·rfl
  ·rfl
  ·rfl
  refine BS ?_;apply CS
  ·exact AA rfl rfl (F0 p.h H3 (n+1+1+1) (ZR) lH3 hq3 (o.nd,4) (Jk 5 o.rt 0) _)
  ·rfl
  ·rfl
  ·rfl
  ·rintro _ _ ⟨_,_,_,rfl⟩;exact FP _
  rintro _ _ ⟨rfl,lH4,hq4,rfl⟩;refine BS ?_;refine Aj ?_;obtain⟨H4,hH4⟩: ∃x,x=(Gm H3 (o.nd,4) (Jk 5 o.rt 0)).2:=⟨_,rfl⟩
  have vz:InvH H4 (n+1+1+1+1):=by rw[hH4];exact InvH.root (ZR) _ _ (K9 _ _ _)
  rw[<-hH4] at hq4;refine Be (AL rfl rfl (λl hl=>DZ b p l (hl _ (FP _ _ (.head _))))) ?_;refine Aj ?_;refine Be (FI rfl rfl (λl hl=>GN o b4 5 l (hl _ (FP _ _ (.tail _ (.head _)))))) ?_;refine Aj ?_;refine AR (AA rfl rfl (F0 p.h H4 (n+1+1+1+1) (vz) lH4 hq4 (o.nd,5) (Jk 7 0 0) _)) ?_;rintro _ _ ⟨rfl,lH5,hq5,rfl⟩;obtain⟨H5,hH5⟩: ∃x,x=(Gm H4 (o.nd,5) (Jk 7 0 0)).2:=⟨_,rfl⟩
  have hI5:InvH H5 (n+1+1+1+1+1):=by rw[hH5];exact InvH.root (vz) _ _ (K9 _ _ _)
  rw[<-hH5] at hq5;refine Aj ?_;refine Cn [7] 8 ([CD b p,IX b4 o]) ?_ (hR:=(FP _));refine BS ?_;apply EF
  ·exact AL rfl rfl (λl hl=>DZ b p l (hl _ (.head _)))
  ·rfl
  ·rfl
  ·rfl
  refine BS ?_;apply EF
  ·exact FI rfl rfl (λl hl=>GN o b4 6 l (hl _ (.tail _ (.head _))))
  ·rfl
  ·rfl
  ·rfl
  refine BS ?_;apply CS
  ·exact AA rfl rfl (F0 p.h H5 (n+1+1+1+1+1) (hI5) lH5 hq5 (o.nd,6) (Jk 6 o.pl 0) _)
  ·rfl
  ·rfl
  ·rfl
  ·rintro _ _ ⟨_,_,_,rfl⟩;exact FP _
  rintro _ _ ⟨rfl,lH6,hq6,rfl⟩;refine BS ?_;refine Aj ?_;obtain⟨H6,hH6⟩: ∃x,x=(Gm H5 (o.nd,6) (Jk 6 o.pl 0)).2:=⟨_,rfl⟩
  have vC:InvH H6 (n+1+1+1+1+1+1):=by rw[hH6];exact InvH.root (hI5) _ _ (K9 _ _ _)
  rw[<-hH6] at hq6;refine Cn [7] 8 ([CD b p,IX b4 o]) ?_ (hR:=(FP _));refine BS ?_;apply EF
  ·exact AL rfl rfl (λl hl=>DZ b p l (hl _ (.head _)))
  ·rfl
  ·rfl
  ·rfl
  refine BS ?_;apply EF
  ·exact FI rfl rfl (λl hl=>GN o b4 1 l (hl _ (.tail _ (.head _))))
  ·rfl
  ·rfl
  ·rfl
  refine BS ?_;apply CS
  ·exact AA rfl rfl (Mx p.h H6 (n+1+1+1+1+1+1) (vC) Af lH6 hq6 (o.nd,1) (o.th,0) 7 _)
  ·rfl
  ·rfl
  ·rfl
  ·rintro _ _ ⟨_,_,_,rfl⟩;exact FP _
  rintro _ _ ⟨rfl,lH7,hq7,rfl⟩;refine BS ?_;refine Aj ?_;obtain⟨H7,hH7⟩: ∃x,x=(Gp H6 (o.nd,1) (o.th,0) (Eo (D5 H6.1 (o.nd,1)) 7)).2:=⟨_,rfl⟩
  have XI:InvH H7 (n+1+1+1+1+1+1+1):=by rw[hH7];exact InvH.der (vC) _ _ _ (Oe (vC.at _).2 _)
  rw[<-hH7] at hq7;refine Cn [7] 8 ([CD b p,IX b4 o]) ?_ (hR:=(FP _));refine BS ?_;apply EF
  ·exact AL rfl rfl (λl hl=>DZ b p l (hl _ (.head _)))
  ·rfl
  ·rfl
  ·rfl
  refine BS ?_;apply EF
  ·exact FI rfl rfl (λl hl=>GN o b4 4 l (hl _ (.tail _ (.head _))))
  ·rfl
  ·rfl
  ·rfl
  refine BS ?_;apply CS
  ·exact AA rfl rfl (Mx p.h H7 (n+1+1+1+1+1+1+1) (XI) Af lH7 hq7 (o.nd,4) (o.th,1) 7 _)
  ·rfl
  ·rfl
  ·rfl
  ·rintro _ _ ⟨_,_,_,rfl⟩;exact FP _
  rintro _ _ ⟨rfl,lH8,hq8,rfl⟩;refine BS ?_;refine Aj ?_;obtain⟨H8,hH8⟩: ∃x,x=(Gp H7 (o.nd,4) (o.th,1) (Eo (D5 H7.1 (o.nd,4)) 7)).2:=⟨_,rfl⟩
  have vB:InvH H8 (n+1+1+1+1+1+1+1+1):=by rw[hH8];exact InvH.der (XI) _ _ _ (Oe (XI.at _).2 _)
  rw[<-hH8] at hq8;have NQ: ∀(N:As.ASt) (c:Bg),c∈[CD b p,IX b4 o]->c∈As.asA p.n N::(lH8++(IX b4 o::CD b p::(s.M++(s.C++(s.A++(s.T++(s.Q++(s.E++(s.V++G))))))))):=λN c hc=>by
   rcases At.1 hc with rfl|hc
   ·exact .tail _ (Aa _ (.tail _ (.head _)))
   ·rw[AE.1 hc];exact .tail _ (Aa _ (.head _))
  refine Em (l':=As.asA p.n R.N::(lH8++(IX b4 o::CD b p::(s.M++(s.C++(s.A++(s.T++(s.Q++(s.E++(s.V++G)))))))))) (A8 []) ?_;refine Cn [4] 5 ([CD b p,IX b4 o]) ?_ (hR:=(NQ _));refine BS ?_;apply EF
  ·exact AL rfl rfl (λl hl=>K8 b p l (hl _ (.head _)))
  ·rfl
  ·rfl
  ·rfl
  refine BS ?_;apply CS
  ·exact AA rfl rfl (As.addPool_any p.n R.N o.pl _)
  ·rfl
  ·rfl
  ·rfl
  ·rintro _ _ ⟨_,rfl⟩;exact NQ _
  rintro _ _ ⟨rfl,rfl⟩;refine BS ?_;refine Aj ?_;refine Cn [6] 7 ([CD b p,IX b4 o]) ?_ (hR:=(NQ _));refine BS ?_;apply EF
  ·exact AL rfl rfl (λl hl=>K8 b p l (hl _ (.head _)))
  ·rfl
  ·rfl
  ·rfl
  refine BS ?_;apply CS
  ·exact AA rfl rfl (As.assign_any p.n (As.addP R.N o.pl).2.2 o.pl o.rt _ (λn hn=>by rw[Sy];have:=hR.giv n hn;omega))
  ·rfl
  ·rfl
  ·rfl
  ·rintro _ _ ⟨_,rfl⟩;exact NQ _
  rintro _ _ ⟨rfl,rfl⟩;refine BS ?_;refine Aj ?_;refine Bb (l':=Cy b p ⟨s.M,s.C,s.A,lH8,s.T,s.Q,s.E,s.V⟩ (Uk R o true) ([IX b4 o]++G)) (by unfold Cy;dsimp only[Uk];exact A8 []) ⟨rfl,⟨s.M,s.C,s.A,lH8,s.T,s.Q,s.E,s.V⟩,[IX b4 o],?_,rfl⟩;have hL:mP R.H o true=H8:=by simp only[mP,C6];rw[<-hH1,<-hH2,<-hH3,<-hH4,<-hH5,<-hH6,<-hH7,<-hH8]
  unfold Uk;rw[hL];clear hH1 hH2 hH3 hH4 hH5 hH6 hH7 hH8;exact⟨hR.mem,hR.co,hR.ar,hR.an,hq8,vB.mono Af,λi hi=>by have:=dZ (s:=(As.addP R.N o.pl).2.2) (k:=n) (λn hn=>by rw[Sy];exact hR.giv n hn) o.pl o.rt i hi;simp only;omega,hR.th,hR.qu,λj hj=>BY (hR.ql j hj) Af,hR.en,hR.cu,hR.c1⟩
 |false=>
  refine Em (l':=s.H++(IX b4 o::CD b p::As.asA p.n R.N::(s.M++(s.C++(s.A++(s.T++(s.Q++(s.E++(s.V++G))))))))) (by dsimp only[IX,Rz];exact A8 []) ?_;refine Cn [7] 8 ([CD b p,IX b4 o]) ?_ (hR:=(FP _));refine BS ?_;apply EF
  ·exact AL rfl rfl (λl hl=>DZ b p l (hl _ (.head _)))
  ·rfl
  ·rfl
  ·rfl
  refine BS ?_;apply EF
  ·exact FI rfl rfl (λl hl=>GN o b4 1 l (hl _ (.tail _ (.head _))))
  ·rfl
  ·rfl
  ·rfl
  refine BS ?_;apply CS
  ·exact AA rfl rfl (F0 p.h R.H (n) (hR.inv) s.H hR.ho (o.nd,1) (Jk 2 o.nd 8) _)
  ·rfl
  ·rfl
  ·rfl
  ·rintro _ _ ⟨_,_,_,rfl⟩;exact FP _
  rintro _ _ ⟨rfl,lH1,hq1,rfl⟩;refine BS ?_;refine Aj ?_;obtain⟨H1,hH1⟩: ∃x,x=(Gm R.H (o.nd,1) (Jk 2 o.nd 8)).2:=⟨_,rfl⟩
  have jn:InvH H1 (n+1):=by rw[hH1];exact InvH.root (hR.inv) _ _ (K9 _ _ _)
  rw[<-hH1] at hq1;refine Cn [7] 8 ([CD b p,IX b4 o]) ?_ (hR:=(FP _));refine BS ?_;apply EF
  ·exact AL rfl rfl (λl hl=>DZ b p l (hl _ (.head _)))
  ·rfl
  ·rfl
  ·rfl
  refine BS ?_;apply EF
  ·exact FI rfl rfl (λl hl=>GN o b4 2 l (hl _ (.tail _ (.head _))))
  ·rfl
  ·rfl
  ·rfl
  refine BS ?_;apply CS
  ·exact AA rfl rfl (F0 p.h H1 (n+1) (jn) lH1 hq1 (o.nd,2) (Jk 9 o.th 0) _)
  ·rfl
  ·rfl
  ·rfl
  ·rintro _ _ ⟨_,_,_,rfl⟩;exact FP _
  rintro _ _ ⟨rfl,lH2,yv,rfl⟩;refine BS ?_;refine Aj ?_;obtain⟨H2,hH2⟩: ∃x,x=(Gm H1 (o.nd,2) (Jk 9 o.th 0)).2:=⟨_,rfl⟩
  have NP:InvH H2 (n+1+1):=by rw[hH2];exact InvH.root (jn) _ _ (K9 _ _ _)
  rw[<-hH2] at yv;refine Cn [7] 8 ([CD b p,IX b4 o]) ?_ (hR:=(FP _));refine BS ?_;apply EF
  ·exact AL rfl rfl (λl hl=>DZ b p l (hl _ (.head _)))
  ·rfl
  ·rfl
  ·rfl
  refine BS ?_;apply EF
  ·exact FI rfl rfl (λl hl=>GN o b4 3 l (hl _ (.tail _ (.head _))))
  ·rfl
  ·rfl
  ·rfl
  refine BS ?_;apply CS
  ·exact AA rfl rfl (F0 p.h H2 (n+1+1) (NP) lH2 yv (o.nd,3) (Jk 1 o.un 0) _)
  ·rfl
  ·rfl
  ·rfl
  ·rintro _ _ ⟨_,_,_,rfl⟩;exact FP _
  rintro _ _ ⟨rfl,lH3,hq3,rfl⟩;refine BS ?_;refine Aj ?_;obtain⟨H3,hH3⟩: ∃x,x=(Gm H2 (o.nd,3) (Jk 1 o.un 0)).2:=⟨_,rfl⟩
  have ZR:InvH H3 (n+1+1+1):=by rw[hH3];exact InvH.root (NP) _ _ (K9 _ _ _)
  rw[<-hH3] at hq3;refine Cn [7] 8 ([CD b p,IX b4 o]) ?_ (hR:=(FP _));refine BS ?_;apply EF
  ·exact AL rfl rfl (λl hl=>DZ b p l (hl _ (.head _)))
  ·rfl
  ·rfl
  ·rfl
  refine BS ?_;apply EF
  ·exact FI rfl rfl (λl hl=>GN o b4 4 l (hl _ (.tail _ (.head _))))
  ·rfl
  ·rfl
  ·rfl
  refine BS ?_;apply CS
  ·exact AA rfl rfl (F0 p.h H3 (n+1+1+1) (ZR) lH3 hq3 (o.nd,4) (Jk 5 o.rt 0) _)
  ·rfl
  ·rfl
  ·rfl
  ·rintro _ _ ⟨_,_,_,rfl⟩;exact FP _
  rintro _ _ ⟨rfl,lH4,hq4,rfl⟩;refine BS ?_;refine Aj ?_;obtain⟨H4,hH4⟩: ∃x,x=(Gm H3 (o.nd,4) (Jk 5 o.rt 0)).2:=⟨_,rfl⟩
  have vz:InvH H4 (n+1+1+1+1):=by rw[hH4];exact InvH.root (ZR) _ _ (K9 _ _ _)
  rw[<-hH4] at hq4;refine Cn [7] 8 ([CD b p,IX b4 o]) ?_ (hR:=(FP _));refine BS ?_;apply EF
  ·exact AL rfl rfl (λl hl=>DZ b p l (hl _ (.head _)))
  ·rfl
  ·rfl
  ·rfl
  refine BS ?_;apply EF
  ·exact FI rfl rfl (λl hl=>GN o b4 6 l (hl _ (.tail _ (.head _))))
  ·rfl
  ·rfl
  ·rfl
  refine BS ?_;apply CS
  ·exact AA rfl rfl (F0 p.h H4 (n+1+1+1+1) (vz) lH4 hq4 (o.nd,6) (Jk 6 o.pl 0) _)
  ·rfl
  ·rfl
  ·rfl
  ·rintro _ _ ⟨_,_,_,rfl⟩;exact FP _
  rintro _ _ ⟨rfl,lH6,hq6,rfl⟩;refine BS ?_;refine Aj ?_;obtain⟨H6,hH6⟩: ∃x,x=(Gm H4 (o.nd,6) (Jk 6 o.pl 0)).2:=⟨_,rfl⟩
  have vC:InvH H6 (n+1+1+1+1+1):=by rw[hH6];exact InvH.root (vz) _ _ (K9 _ _ _)
  rw[<-hH6] at hq6;refine Cn [7] 8 ([CD b p,IX b4 o]) ?_ (hR:=(FP _));refine BS ?_;apply EF
  ·exact AL rfl rfl (λl hl=>DZ b p l (hl _ (.head _)))
  ·rfl
  ·rfl
  ·rfl
  refine BS ?_;apply EF
  ·exact FI rfl rfl (λl hl=>GN o b4 1 l (hl _ (.tail _ (.head _))))
  ·rfl
  ·rfl
  ·rfl
  refine BS ?_;apply CS
  ·exact AA rfl rfl (Mx p.h H6 (n+1+1+1+1+1) (vC) Af lH6 hq6 (o.nd,1) (o.th,0) 7 _)
  ·rfl
  ·rfl
  ·rfl
  ·rintro _ _ ⟨_,_,_,rfl⟩;exact FP _
  rintro _ _ ⟨rfl,lH7,hq7,rfl⟩;refine BS ?_;refine Aj ?_;obtain⟨H7,hH7⟩: ∃x,x=(Gp H6 (o.nd,1) (o.th,0) (Eo (D5 H6.1 (o.nd,1)) 7)).2:=⟨_,rfl⟩
  have XI:InvH H7 (n+1+1+1+1+1+1):=by rw[hH7];exact InvH.der (vC) _ _ _ (Oe (vC.at _).2 _)
  rw[<-hH7] at hq7;refine Cn [7] 8 ([CD b p,IX b4 o]) ?_ (hR:=(FP _));refine BS ?_;apply EF
  ·exact AL rfl rfl (λl hl=>DZ b p l (hl _ (.head _)))
  ·rfl
  ·rfl
  ·rfl
  refine BS ?_;apply EF
  ·exact FI rfl rfl (λl hl=>GN o b4 4 l (hl _ (.tail _ (.head _))))
  ·rfl
  ·rfl
  ·rfl
  refine BS ?_;apply CS
  ·exact AA rfl rfl (Mx p.h H7 (n+1+1+1+1+1+1) (XI) Af lH7 hq7 (o.nd,4) (o.th,1) 7 _)
  ·rfl
  ·rfl
  ·rfl
  ·rintro _ _ ⟨_,_,_,rfl⟩;exact FP _
  rintro _ _ ⟨rfl,lH8,hq8,rfl⟩;refine BS ?_;refine Aj ?_;obtain⟨H8,hH8⟩: ∃x,x=(Gp H7 (o.nd,4) (o.th,1) (Eo (D5 H7.1 (o.nd,4)) 7)).2:=⟨_,rfl⟩
  have vB:InvH H8 (n+1+1+1+1+1+1+1):=by rw[hH8];exact InvH.der (XI) _ _ _ (Oe (XI.at _).2 _)
  rw[<-hH8] at hq8;have NQ: ∀(N:As.ASt) (c:Bg),c∈[CD b p,IX b4 o]->c∈As.asA p.n N::(lH8++(IX b4 o::CD b p::(s.M++(s.C++(s.A++(s.T++(s.Q++(s.E++(s.V++G))))))))):=λN c hc=>by
   rcases At.1 hc with rfl|hc
   ·exact .tail _ (Aa _ (.tail _ (.head _)))
   ·rw[AE.1 hc];exact .tail _ (Aa _ (.head _))
  refine Em (l':=As.asA p.n R.N::(lH8++(IX b4 o::CD b p::(s.M++(s.C++(s.A++(s.T++(s.Q++(s.E++(s.V++G)))))))))) (A8 []) ?_;refine Cn [4] 5 ([CD b p,IX b4 o]) ?_ (hR:=(NQ _));refine BS ?_;apply EF
  ·exact AL rfl rfl (λl hl=>K8 b p l (hl _ (.head _)))
  ·rfl
  ·rfl
  ·rfl
  refine BS ?_;apply CS
  ·exact AA rfl rfl (As.addPool_any p.n R.N o.pl _)
  ·rfl
  ·rfl
  ·rfl
  ·rintro _ _ ⟨_,rfl⟩;exact NQ _
  rintro _ _ ⟨rfl,rfl⟩;refine BS ?_;refine Aj ?_;refine Cn [6] 7 ([CD b p,IX b4 o]) ?_ (hR:=(NQ _));refine BS ?_;apply EF
  ·exact AL rfl rfl (λl hl=>K8 b p l (hl _ (.head _)))
  ·rfl
  ·rfl
  ·rfl
  refine BS ?_;apply CS
  ·exact AA rfl rfl (As.assign_any p.n (As.addP R.N o.pl).2.2 o.pl o.rt _ (λn hn=>by rw[Sy];have:=hR.giv n hn;omega))
  ·rfl
  ·rfl
  ·rfl
  ·rintro _ _ ⟨_,rfl⟩;exact NQ _
  rintro _ _ ⟨rfl,rfl⟩;refine BS ?_;refine Aj ?_;refine Bb (l':=Cy b p ⟨s.M,s.C,s.A,lH8,s.T,s.Q,s.E,s.V⟩ (Uk R o false) ([IX b4 o]++G)) (by unfold Cy;dsimp only[Uk];exact A8 []) ⟨rfl,⟨s.M,s.C,s.A,lH8,s.T,s.Q,s.E,s.V⟩,[IX b4 o],?_,rfl⟩;have hL:mP R.H o false=H8:=by simp only[mP,Bl,C3];rw[<-hH1,<-hH2,<-hH3,<-hH4,<-hH6,<-hH7,<-hH8]
  unfold Uk;rw[hL];clear hH1 hH2 hH3 hH4 hH6 hH7 hH8;exact⟨hR.mem,hR.co,hR.ar,hR.an,hq8,vB.mono Af,λi hi=>by have:=dZ (s:=(As.addP R.N o.pl).2.2) (k:=n) (λn hn=>by rw[Sy];exact hR.giv n hn) o.pl o.rt i hi;simp only;omega,hR.th,hR.qu,λj hj=>BY (hR.ql j hj) Af,hR.en,hR.cu,hR.c1⟩
def Rh:List OwT->Ap
 |[]=>[]
 |o::os=>Rz o++Rh os
theorem Sz: ∀{os:List OwT} {i:Nat} {o:OwT},os[i]?=some o->i*5+5<=(toArray (Rh os)).size/\(toArray (Rh os)).extract (i*5) (i*5+5)=toArray (Rz o)
 |[],i,o,h=>by cases h
 |a::os,0,o,h=>by obtain rfl:a=o:=AX h;refine⟨by show 0*5+5<=(Rz a++Rh os).length;simp[Rz],?_⟩;show(toArray (Rz a++Rh os)).extract (0*5) (0*5+5)=_;simp[Rz,Cp]
 |a::os,i+1,o,h=>by
  obtain⟨h1,h2⟩:=Sz (os:=os) (i:=i) (o:=o) h;simp only[Bt] at h1;refine⟨by show(i+1)*5+5<=(Rz a++Rh os).length;simp[Rz];omega,?_⟩;show(toArray (Rz a++Rh os)).extract ((i+1)*5) ((i+1)*5+5)=_;rw[<-h2];simp only[E5,Cp];have e1:(i+1)*5=i*5+(Rz a).length:=by show _=i*5+5;omega
  have e2:(i+1)*5+5-(i+1)*5=i*5+5-i*5:=by omega
  rw[e2];congr 1;rw[e1,Kr,JA];simp
abbrev VZ:OwT:=⟨0,0,0,0,0⟩
abbrev mU(o:Int):CapT:=⟨8,o,7,0,0,0,0,0⟩
theorem wP(o:Int):Jg (mU o):=⟨Int.le_refl 0,by show(0:Int)<=9223372036854775807;decide⟩
def shH(H:HS)(nd:Int)(i:Nat)(o:OwT):HS:=
 let H1:=(Gp H (nd,7) (o.nd,7) (Hy (D5 H.1 (nd,7)) 7 (i+1))).2
 (Gp H1 (nd,7) (o.th,2) (Hy (D5 H1.1 (nd,7)) 7 (101+i))).2
def shK(nd:Int)(os:List OwT)(H:HS):Nat->HS
 |0=>H
 |k+1=>if k=0 then shK nd os H k else shH (shK nd os H k) nd k (os.getD k VZ)
def Ri(H:HS)(os:List OwT)(sh:Int):HS:=shK (os.getD 0 VZ).nd os (Gm H ((os.getD 0 VZ).nd,7) (mU sh)).2 os.length
theorem InvH.shH{H:HS}{n:Nat}(h:InvH H n)(nd:Int)(i:Nat)(o:OwT):InvH (shH H nd i o) (n+2):=by have h1:=h.der (nd,7) (o.nd,7) (Hy (D5 H.1 (nd,7)) 7 (i+1)) (TG (h.at _).2 _ _);exact h1.der (nd,7) (o.th,2) _ (TG (h1.at _).2 _ _)
theorem InvH.shK{H:HS}{n:Nat}(h:InvH H n)(nd:Int)(os:List OwT): ∀k,InvH (shK nd os H k) (n+2*k)
 |0=>h
 |k+1=>by
  show InvH (if k=0 then _ else _) _
  split
  ·exact(InvH.shK h nd os k).mono Af
  ·exact((InvH.shK h nd os k).shH nd k _).mono Af
abbrev V0(B:Nat)(s:Ck):Bg:=(B,.cells (toArray (Ct s)) 61 (0,0))
theorem it(F C n:Nat)(R:RT)(b:Nat)(p:RP)(s:RL)(hR:IsRl F C n R p s)(hn:n<=900)(os:List OwT)(h0:1<=os.length)(h3:os.length<=3)(sh:Int)(bs cap:Nat)(T:TypeId)(fz:Nat×Nat)(G:Ad)(hm:(bs,Obj.cells (toArray (Rh os)) T fz)∈G):
 Fn prog 93 [pV b,.slice (some ⟨bs,0,none⟩) os.length cap,.int .i64 sh] (Cy b p s R G) λv l'=>
 v= .tuple #[]/\ ∃s' X,IsRl F C (n+7) {R with H:=Ri R.H os sh} p s'/\l'=Cy b p s' {R with H:=Ri R.H os sh} (X++G):=by
 obtain⟨o0,ot,rfl⟩: ∃o ot,os=o::ot:=by
  cases os with
  |nil=>exact absurd h0 AZ
  |cons o ot=>exact⟨o,ot,rfl⟩
 refine AO func93 ntmps93 λE=>?_;unfold Cy;refine Aj ?_;have Xr:(bs,Obj.cells (toArray (Rh (o0::ot))) T fz)∈CD b p::As.asA p.n R.N::(s.M++(s.C++(s.A++(s.H++(s.T++(s.Q++(s.E++(s.V++G)))))))):= .tail _ (.tail _ (Aa _ (Aa _ (Aa _ (Aa _ (Aa _ (Aa _ (Aa _ (Aa _ hm)))))))));refine Be (DP (v:= .int .i64 o0.nd) rfl Xr rfl) ?_;refine AQ λb6=>?_;have PW: ∀(lq:Ad) (c:Bg),c∈[CD b p,V0 b6 (o0.nd,7)]->c∈lq++(V0 b6 (o0.nd,7)::CD b p::As.asA p.n R.N::(s.M++(s.C++(s.A++(s.T++(s.Q++(s.E++(s.V++G)))))))):=λlq c hc=>by
  rcases At.1 hc with rfl|hc
  ·exact Aa _ (.tail _ (.head _))
  ·rw[AE.1 hc];exact Aa _ (.head _)
 refine Em (l':=s.H++(V0 b6 (o0.nd,7)::CD b p::As.asA p.n R.N::(s.M++(s.C++(s.A++(s.T++(s.Q++(s.E++(s.V++G))))))))) (by dsimp only[V0,Ct];exact A8 []) ?_;refine Cn [5] 6 ([CD b p,V0 b6 (o0.nd,7)]) ?_ (hR:=(PW _));refine BS ?_;apply EF
 ·exact AL rfl rfl (λl hl=>DZ b p l (hl _ (.head _)))
 ·rfl
 ·rfl
 ·rfl
 refine BS ?_;apply CS
 ·exact AA rfl rfl (F0 p.h R.H n hR.inv s.H hR.ho (o0.nd,7) (mU sh) _)
 ·rfl
 ·rfl
 ·rfl
 ·rintro _ _ ⟨_,_,_,rfl⟩;exact PW _
 rintro _ _ ⟨rfl,lH1,hq1,rfl⟩;refine BS ?_;refine Aj ?_;obtain⟨H1,hH1⟩: ∃x,x=(Gm R.H (o0.nd,7) (mU sh)).2:=⟨_,rfl⟩
 have jn:InvH H1 (n+1):=by rw[hH1];exact InvH.root hR.inv _ _ (wP _)
 rw[<-hH1] at hq1;refine CF (α:=Nat×Ad×Ad) (λx=>[(0,pV b),(6,pV b6),(20,.slice (some ⟨bs,0,none⟩) (o0::ot).length cap),(21,.int .i64 ((o0::ot).length:Nat)),(22,.int .i64 x.1)]) (λx=>x.2.1++(V0 b6 (o0.nd,7)::CD b p::As.asA p.n R.N::(s.M++(s.C++(s.A++(s.T++(s.Q++(s.E++(s.V++(x.2.2++G))))))))))
  (λx=>x.1<=(o0::ot).length/\IsH p.h (shK o0.nd (o0::ot) H1 x.1) x.2.1) (λx=>(o0::ot).length-x.1) (0,lH1,[]) ⟨Bm _,hq1⟩ ⟨rfl,rfl,rfl,rfl,rfl,trivial⟩ (by simp only[Ag];exact A8 []) ?_
 rintro⟨k,lH,X⟩ ⟨hk,hq⟩;simp only at hk hq⊢;by_cases Xn:k<(o0::ot).length
 ·obtain⟨o,ho⟩: ∃o,(o0::ot)[k]?=some o:=⟨_,Al Xn⟩
  obtain⟨x1,x2⟩:=Sz ho;have UL:(bs,Obj.cells (toArray (Rh (o0::ot))) T fz)∈lH++(V0 b6 (o0.nd,7)::CD b p::As.asA p.n R.N::(s.M++(s.C++(s.A++(s.T++(s.Q++(s.E++(s.V++(X++G))))))))):=Aa _ (.tail _ (.tail _ (.tail _ (Aa _ (Aa _ (Aa _ (Aa _ (Aa _ (Aa _ (Aa _ (Aa _ hm)))))))))));refine Aj ?_;refine Be (Dt rfl UL x1 x2) ?_;refine AQ λb8=>?_;by_cases hk0:k=0
  ·subst hk0;refine Aj ?_;refine BR (0+1,lH,IX b8 o::X) ⟨Af,?_⟩ (by simp only;omega) ⟨rfl,rfl,rfl,rfl,rfl,trivial⟩ (by dsimp only[IX,Rz];exact A8 []);exact hq
  refine Aj ?_;have hI:InvH (shK o0.nd (o0::ot) H1 k) (n+1+2*k):=jn.shK _ _ _;have Ko: ∀(lq:Ad) (c:Bg),c∈[CD b p,V0 b6 (o0.nd,7),IX b8 o]->c∈lq++(IX b8 o::V0 b6 (o0.nd,7)::CD b p::As.asA p.n R.N::(s.M++(s.C++(s.A++(s.T++(s.Q++(s.E++(s.V++(X++G))))))))):=λlq c hc=>by
   rcases At.1 hc with rfl|hc
   ·exact Aa _ (.tail _ (.tail _ (.head _)))
   ·rcases At.1 hc with rfl|hc
    ·exact Aa _ (.tail _ (.head _))
    ·rw[AE.1 hc];exact Aa _ (.head _)
  refine Em (l':=lH++(IX b8 o::V0 b6 (o0.nd,7)::CD b p::As.asA p.n R.N::(s.M++(s.C++(s.A++(s.T++(s.Q++(s.E++(s.V++(X++G)))))))))) (by dsimp only[IX,Rz];exact A8 []) ?_;refine Cn [9] 10 ([CD b p,V0 b6 (o0.nd,7),IX b8 o]) ?_ (hR:=(Ko _));refine BS ?_;apply EF
  ·exact AL rfl rfl (λl hl=>DZ b p l (hl _ (.head _)))
  ·rfl
  ·rfl
  ·rfl
  refine BS ?_;apply CS
  ·exact AA rfl rfl (Rd p.h (shK o0.nd (o0::ot) H1 k) _ (hI) Af lH hq (o0.nd,7) (o.nd,7) 7 (k+1) Af _)
  ·rfl
  ·rfl
  ·rfl
  ·rintro _ _ ⟨_,_,_,rfl⟩;exact Ko _
  rintro _ _ ⟨rfl,lM1,hm1',rfl⟩;refine BS ?_;refine Aj ?_;have Lg:=hI.der (o0.nd,7) (o.nd,7) (Hy (D5 (shK o0.nd (o0::ot) H1 k).1 (o0.nd,7)) 7 (k+1)) (TG (hI.at _).2 _ _);refine Cn [9] 10 ([CD b p,V0 b6 (o0.nd,7),IX b8 o]) ?_ (hR:=(Ko _));refine BS ?_;apply EF
  ·exact AL rfl rfl (λl hl=>DZ b p l (hl _ (.head _)))
  ·rfl
  ·rfl
  ·rfl
  refine BS ?_;apply CS
  ·exact AA rfl rfl (Rd p.h _ _ (Lg) Af lM1 hm1' (o0.nd,7) (o.th,2) 7 (101+k) Af _)
  ·rfl
  ·rfl
  ·rfl
  ·rintro _ _ ⟨_,_,_,rfl⟩;exact Ko _
  rintro _ _ ⟨rfl,lM2,hm2',rfl⟩;refine BS ?_;refine Aj ?_;refine BR (k+1,lM2,IX b8 o::X) ⟨Af,?_⟩ (by simp only;omega) ⟨rfl,rfl,rfl,rfl,rfl,trivial⟩ (A8 []);have e1:shK o0.nd (o0::ot) H1 (k+1)=shH (shK o0.nd (o0::ot) H1 k) o0.nd k o:=by show(if k=0 then _ else _)=_;rw[Ab hk0,List.getD,ho,Di]
  show IsH p.h (shK o0.nd (o0::ot) H1 (k+1)) lM2;rw[e1];exact hm2'
 ·refine Aj ?_;obtain rfl:k=(o0::ot).length:=by omega
  have hL:Ri R.H (o0::ot) sh=shK o0.nd (o0::ot) H1 (o0::ot).length:=by show shK o0.nd (o0::ot) (Gm R.H (o0.nd,7) (mU sh)).2 _=_;rw[<-hH1]
  have hI:InvH (shK o0.nd (o0::ot) H1 (o0::ot).length) (n+1+2*(o0::ot).length):=jn.shK _ _ _;refine Bb (l':=Cy b p ⟨s.M,s.C,s.A,lH,s.T,s.Q,s.E,s.V⟩ {R with H:=Ri R.H (o0::ot) sh} ((V0 b6 (o0.nd,7)::X)++G)) (by unfold Cy;dsimp only;exact A8 []) ⟨rfl,⟨s.M,s.C,s.A,lH,s.T,s.Q,s.E,s.V⟩,V0 b6 (o0.nd,7)::X,?_,rfl⟩;rw[hL];exact⟨hR.mem,hR.co,hR.ar,hR.an,hq,hI.mono Af,λi hi=>by have:=hR.giv i hi;simp only;omega,hR.th,hR.qu,λj hj=>BY (hR.ql j hj) Af,hR.en,hR.cu,hR.c1⟩
def Nb(R:RT)(id:Int):RT:=match Th.findH R.T id with
 |none=>R
 |some t=>{R with T:=(Th.setD R.T {t with st:=1}).2,Q:=(Qu.addQ R.Q id t.pr).2}
theorem mW{X:Nat->A4}(h: ∀n,n<8->(X n).length<=k)(id pr:Int): ∀n,n<8->((Qu.addQ X id pr).2 n).length<=k+1:=by
 intro n hn;have h0:=h n hn;unfold Qu.addQ
 split
 ·exact E9 h0
 split
 ·exact E9 h0
 ·simp only[Qu.upd]
  split
  ·rename_i e;subst e;simp only[Ah,BC,Ff];omega
  ·exact E9 h0
theorem iu(F C n:Nat)(R:RT)(b:Nat)(p:RP)(s:RL)(hR:IsRl F C n R p s)(hn:n<=900)(id:Int)(G:Ad):Fn prog 97 [pV b,.int .i64 id,.int .i64 1] (Cy b p s R G) λv l'=>
 (∃e,v= .int .i64 e)/\ ∃s' X,IsRl F C (n+1) (Nb R id) p s'/\l'=Cy b p s' (Nb R id) (X++G):=by
 refine AO func97 ntmps97 λE=>?_;unfold Cy;refine Aj ?_;refine Be (AL rfl rfl (λl hl=>Th.get_any p.t R.T s.T hR.th id l (λc hc=>hl _ (.tail _ (.tail _ (Aa _ (Aa _ (Aa _ (Aa _ (Ai _ hc)))))))))) ?_;cases hf:Th.findH R.T id with
 |none=>
  have e:Nb R id=R:=by unfold Nb;rw[hf]
  simp only[Option.getD_none,Fy];refine AQ λb7=>?_;refine BD [] rfl (l':=Cy b p s R ([Th.thC b7 Th.thZ]++G)) (by unfold Cy;dsimp only[Th.thC,Th.encH,Th.thZ];exact A8 []) (by exact Ba) ⟨⟨_,rfl⟩,s,[Th.thC b7 Th.thZ],?_,by rw[e];rfl⟩;rw[e];exact hR.mono Af
 |some t=>
  have e:Nb R id={R with T:=(Th.setD R.T {t with st:=1}).2,Q:=(Qu.addQ R.Q id t.pr).2}:=by unfold Nb;rw[hf]
  simp only[Di,Iw];refine AQ λb7=>?_;have PW: ∀(lq:Ad) (c:Bg),c∈[CD b p,Th.thC b7 {t with st:=1}]->c∈lq++(Th.thC b7 {t with st:=1}::CD b p::As.asA p.n R.N::(s.M++(s.C++(s.A++(s.H++(s.Q++(s.E++(s.V++G)))))))):=λlq c hc=>by
   rcases At.1 hc with rfl|hc
   ·exact Aa _ (.tail _ (.head _))
   ·rw[AE.1 hc];exact Aa _ (.head _)
  refine Em (l':=s.T++(Th.thC b7 {t with st:=1}::CD b p::As.asA p.n R.N::(s.M++(s.C++(s.A++(s.H++(s.Q++(s.E++(s.V++G))))))))) (by dsimp only[Th.thC,Th.encH];exact A8 []) ?_;refine Cn [5] 6 ([CD b p,Th.thC b7 {t with st:=1}]) ?_ (hR:=(PW _));refine BS ?_;apply CS
  ·exact AA rfl rfl (Th.set_any p.t R.T s.T hR.th {t with st:=1} _)
  ·rfl
  ·rfl
  ·rfl
  ·rintro _ _ ⟨_,_,_,rfl⟩;exact PW _
  rintro _ _ ⟨rfl,lT,hT,rfl⟩;refine BS ?_;refine Aj ?_;have Ko: ∀(lq:Ad) (c:Bg),c∈[CD b p,Th.thC b7 {t with st:=1}]->c∈lq++(Th.thC b7 {t with st:=1}::CD b p::As.asA p.n R.N::(s.M++(s.C++(s.A++(s.H++(lT++(s.E++(s.V++G)))))))):=λlq c hc=>by
   rcases At.1 hc with rfl|hc
   ·exact Aa _ (.tail _ (.head _))
   ·rw[AE.1 hc];exact Aa _ (.head _)
  refine Em (l':=s.Q++(Th.thC b7 {t with st:=1}::CD b p::As.asA p.n R.N::(s.M++(s.C++(s.A++(s.H++(lT++(s.E++(s.V++G))))))))) (A8 []) ?_;refine Cn [7] 8 ([CD b p,Th.thC b7 {t with st:=1}]) ?_ (hR:=(Ko _));refine BS ?_;apply CS
  ·exact AA rfl rfl (Qu.add_any p.q R.Q s.Q id t.pr hR.qu (λj hj=>by have:=hR.ql j hj;omega) _)
  ·rfl
  ·rfl
  ·rfl
  ·rintro _ _ ⟨_,_,_,rfl⟩;exact Ko _
  rintro _ _ ⟨rfl,lQ,hQ,rfl⟩;refine BS ?_;refine Aj ?_;rw[e];refine Bb (l':=Cy b p ⟨s.M,s.C,s.A,s.H,lT,lQ,s.E,s.V⟩ {R with T:=(Th.setD R.T {t with st:=1}).2,Q:=(Qu.addQ R.Q id t.pr).2} ([Th.thC b7 {t with st:=1}]++G)) (by unfold Cy;dsimp only;exact A8 []) ⟨⟨_,rfl⟩,⟨s.M,s.C,s.A,s.H,lT,lQ,s.E,s.V⟩,[Th.thC b7 {t with st:=1}],?_,rfl⟩;exact⟨hR.mem,hR.co,hR.ar,hR.an,hR.ho,hR.inv.mono Af,λi hi=>by have:=hR.giv i hi;simp only;omega,hT,hQ,mW hR.ql id t.pr,hR.en,hR.cu,hR.c1⟩
abbrev knC(B b:Nat):Bg:=(B,.cells (toArray [pV b]) 152 (0,0))
theorem mY(b:Nat)(l:Ad):Fn prog 98 [pV b] l λv l'=> ∃B,v= .tuple #[pV B,.int .i64 0]/\l'=knC B b::l:=by refine AO func98 ntmps98 λE=>?_;refine Aj ?_;refine AR (C4 rfl) ?_;rintro _ _ ⟨B,_,rfl,rfl⟩;refine Aj ?_;exact Bb .refl ⟨B,rfl,rfl⟩
def Nz(F C T:Int):Bool:=decide (1<=T)&&decide (T<=3)&&decide (1<=C)&&decide (C<=3)&&decide (11*T<=F)&&decide (F<=64)
theorem Y0(F C T:Int)(sh:Bool)(l:Ad):Fn prog 88 [.agg (toArray [.int .i64 F,.int .i64 C,.int .i64 T,.bool sh])] l λv l'=>v= .bool (Nz F C T)/\l'=l:=by
 refine AO func88 ntmps88 λE=>?_;refine Aj ?_;refine AR (C4 rfl) ?_;rintro _ _ ⟨b1,_,rfl,rfl⟩;refine Aj ?_;by_cases h0:1<=T
 case neg=>refine Aj ?_;exact BD [] rfl (l':=l) (.drop .refl) (by exact Ba) ⟨by simp[Nz,Jv,h0],rfl⟩
 by_cases h1:T<=3
 case neg=>refine Aj ?_;exact BD [] rfl (l':=l) (.drop .refl) (by exact Ba) ⟨by simp[Nz,Jv,h0,h1],rfl⟩
 by_cases h2:1<=C
 case neg=>refine Aj ?_;exact BD [] rfl (l':=l) (.drop .refl) (by exact Ba) ⟨by simp[Nz,Jv,h0,h1,h2],rfl⟩
 by_cases h3:C<=3
 case neg=>refine Aj ?_;exact BD [] rfl (l':=l) (.drop .refl) (by exact Ba) ⟨by simp[Nz,Jv,h0,h1,h2,h3],rfl⟩
 by_cases h4:11*T<=F
 case neg=>refine Aj ?_;exact BD [] rfl (l':=l) (.drop .refl) (by exact Ba) ⟨by simp[Nz,Jv,h0,h1,h2,h3,h4],rfl⟩
 by_cases h5:F<=64
 case neg=>refine Aj ?_;exact BD [] rfl (l':=l) (.drop .refl) (by exact Ba) ⟨by simp[Nz,Jv,h0,h1,h2,h3,h4,h5],rfl⟩
 refine Aj ?_;exact BD [] rfl (l':=l) (.drop .refl) (by exact Ba) ⟨by simp[Nz,Jv,h0,h1,h2,h3,h4,h5],rfl⟩
def yN(S:RT×A4)(x:Int×Int×Int):RT×A4:=((Jy S.1 x.1 x.2.1 x.2.2).2,S.2++[(Jy S.1 x.1 x.2.1 x.2.2).1.1])
def Xx(F:Nat)(xs:List (Int×Int×Int)):RT×A4:=xs.foldl yN (Ji F,[])
theorem mZ(F:Nat)(xs:List (Int×Int×Int))(x:Int×Int×Int):Xx F (xs++[x])=yN (Xx F xs) x:=by unfold Xx;rw[Fd];rfl
theorem ea(F:Nat)(xs:List (Int×Int×Int)):(Xx F xs).2.length=xs.length:=by
 have h: ∀(xs:List (Int×Int×Int)) (S:RT×A4),(xs.foldl yN S).2.length=S.2.length+xs.length:=by
  intro xs
  induction xs with
  |nil=>intro S;rfl
  |cons x r ih=>intro S;show(List.foldl yN (yN S x) r).2.length=_;rw[ih];simp[yN];omega
 rw[Xx,h];simp
abbrev pm(B:Nat)(F C T:Int)(sh:Bool):Bg:=(B,.cells (toArray [.int .i64 F,.int .i64 C,.int .i64 T,.bool sh]) 23 (0,0))
theorem rJ(F C T:Int)(sh:Bool)(h:Nz F C T=false)(l:Ad):Fn prog 66 [.agg (toArray [.int .i64 F,.int .i64 C,.int .i64 T,.bool sh])] l λv l'=>v= .tuple #[.pointer none,.slice none 0 0,.int .i64 3]/\l'=l:=by refine AO func66 ntmps66 λE=>?_;refine Aj ?_;refine AR (C4 rfl) ?_;rintro _ _ ⟨b1,_,rfl,rfl⟩;refine Aj ?_;refine Be (AL rfl rfl (λl hl=>Y0 F C T sh l)) ?_;rw[h];refine Aj ?_;exact Bb (l':=l) (.drop .refl) ⟨rfl,rfl⟩
abbrev PI(B b:Nat):Bg:=(B,.cells (toArray [pV b]) 124 (0,0))
abbrev Nm(B:Nat)(v:Value):Bg:=(B,.cells (toArray [v]) 40 (0,0))
def InL(F C b:Nat)(p:RP)(b8:Nat)(pre:List (Int×Int×Int))(l:Ad):Prop:= ∃s v cs X,IsRl F C pre.length (Xx F pre).1 p s/\OwnSl 3 1 v pre.length ((Xx F pre).2.map CN) cs/\l=Cy b p s (Xx F pre).1 (Nm b8 v::(cs++X))
def bD(ids:A4)(T i:Nat):OwT:=⟨ids.getD (4*i) 0,ids.getD (4*i+1) 0,ids.getD (4*i+2) 0,ids.getD (4*i+3) 0,ids.getD (ids.length-T+i) 0⟩
def PJ(ids:A4)(T i:Nat):List OwT:=(List.range i).map (bD ids T)++replicate (T-i) VZ
theorem na(n:Nat):Rh (replicate n VZ)=(replicate n (Rz VZ)).flatten:=by
 induction n with
 |zero=>rfl
 |succ n ih=>rw[BJ,BJ,Cv,<-ih];rfl
def aft:Nat->Code->Code
 |0,c=>c
 |n+1,.seq _ c=>aft n c
 |_,c=>c
def yO:Code->Code
 | .seq c _=>c
 |c=>c
theorem bE{N:Nat}{E:World}{Q:Exit->Act->World->Prop}{e:Exit}{fr fr':Fr}{ds:List Deferred}{l l':Ad}(hs:FSub fr' fr)(p:Keep l l')(h:CU N E Q e fr' ds l'):CU N E Q e fr ds l:=⟨λa W hf hds hw=>h.run a W (hf.sub hs.spec) hds (p.sat hw)⟩
theorem W9: ∀os:List OwT,(Rh os).length=os.length*5
 |[]=>rfl
 |o::os=>by show(Rz o++Rh os).length=_;rw[Ah,W9 os];simp;omega
theorem eb(xs bs:List OwT):Rh (xs++bs)=Rh xs++Rh bs:=by
 induction xs with
 |nil=>rfl
 |cons a r ih=>show Rz a++Rh (r++bs)=_;rw[ih];rfl
theorem Y1(ids:A4)(T i:Nat)(h:i<=T):(PJ ids T i).length=T:=by simp[PJ];omega
theorem nc(ids:A4)(T i:Nat)(h:i<T):C8 (toArray (Rh (PJ ids T i))) (i*5) (Rz (bD ids T i))=toArray (Rh (PJ ids T (i+1))):=by
 have e1:PJ ids T i=(List.range i).map (bD ids T)++(VZ::replicate (T-(i+1)) VZ):=by unfold PJ;rw[show T-i=(T-(i+1))+1 by omega,BJ]
 have e2:PJ ids T (i+1)=(List.range i).map (bD ids T)++(bD ids T i::replicate (T-(i+1)) VZ):=by unfold PJ;rw[CA,Aq,Am];rfl
 rw[e1,e2,eb,eb];have:=setFrom_mid (Rz VZ) (Rz (bD ids T i)) (Rh ((List.range i).map (bD ids T))) (Rh (replicate (T-(i+1)) VZ)) rfl;rw[W9,A7,Fc] at this;exact this
end Go.Proofs.YtlifcingifodfaaGreat
