/- Laws that the statement's proof leans on (joined out of several texts). -/
import Derived.Test.YtlkgekpmileobaaGreatGb8
import Derived.Test.YtlkgekpmileobaaGreatGb10
import Derived.Test.YtlkgekpmileobaaGreatGb13
import Derived.Test.YtlkgekpmileobaaGreatGb14
import Derived.Test.YtlkgekpmileobaaGreatGb15
import Derived.Test.YtlkgekpmileobaaGreatGb21
import Derived.Test.YtlkgekpmileobaaGreatGb22
set_option linter.unusedVariables false
set_option linter.unusedSimpArgs false
namespace Go.Proofs.YtlkgekpmileobaaGreat
open Tryz
open List(toArray replicate)
open Go.RowKit
set_option maxRecDepth 20000
structure RT where
 A:Ar.ArT
 H:HS
 N:As.ASt
 T:Th.TL
 Q:Nat->List Int
 E:En.DE
structure RP where
 m:Nat
 c:Nat
 a:Nat
 h:Nat
 n:Nat
 t:Nat
 q:Nat
 e:Nat
 v:Value
structure RL where
 M:List Ab
 C:List Ab
 A:List Ab
 H:List Ab
 T:List Ab
 Q:List Ab
 E:List Ab
 V:List Ab
abbrev Co(b:Nat)(p:RP):Ab:=(b,.cells (toArray [pV p.m,pV p.c,pV p.a,pV p.h,pV p.n,pV p.t,pV p.q,pV p.e,p.v]) 163 (0,0))
def Cn(b:Nat)(p:RP)(s:RL)(R:RT)(G:List Ab):List Ab:=Co b p::As.asA p.n R.N::(s.M++(s.C++(s.A++(s.H++(s.T++(s.Q++(s.E++(s.V++G))))))))
structure IsRl(F C k:Nat)(R:RT)(p:RP)(s:RL):Prop where
 mem:tA p.m F s.M
 co:qS p.c C s.C
 ar:Ar.IsA p.a R.A s.A
 an:R.A.n=F
 ho:IsH p.h R.H s.H
 inv:InvH R.H k
 giv: ∀n,n<32->0<=R.N.given n/\R.N.given n<=k
 th:Th.IsX p.t R.T s.T
 qu:Qu.IsQ p.q R.Q s.Q
 ql: ∀n,n<8->(R.Q n).length<=k
 en:En.IsE p.e R.E s.E
 cu:OwnSl 3 1 p.v C (replicate C (.int .i64 0)) s.V
 c1:1<=C/\C<=3
def In(F:Nat):RT:=⟨⟨F,λ_=>0,[]⟩,([],[]),As.ASt.zero,[],Qu.noX,[]⟩
theorem Le(z:Value)(n:Nat):replicate n z=(replicate n [z]).flatten:=by
 induction n with
 |zero=>rfl
 |succ n ih=>rw[BE,BE,Cl,<-ih];rfl
theorem n7(s:CB):Fc [] s=false:=by
 unfold Fc Iy;rw[show DG Prod.fst ([]:SD) s.1=none from rfl];by_cases h:0<=s.2
 ·rw[At h,Aw (by simp only;omega)];rfl
 ·rw[Aw h];rfl
theorem aX:InvH ([],[]) 0:=
 ⟨.none,List.Pairwise.nil,λx hx=>absurd hx (by simp),λs=>⟨λh=>absurd h (by rw[Tr.hasD_no.2 λx hx=>absurd hx (by simp)];decide),λh=>absurd h.1 (by rw[n7];decide)⟩,by simp⟩
set_option maxHeartbeats 4000000 in
theorem ff(F C:Nat)(hF:1<=F/\F<=64)(hC:1<=C/\C<=3)(G:List Ab):Fn prog 90 [.int .i64 (F:Nat),.int .i64 (C:Nat)] G λv l'=> ∃b p s X,v= .tuple #[pV b,.int .i64 0]/\IsRl F C 0 (In F) p s/\l'=Cn b p s (In F) (X++G):=by
 refine AO func90 ntmps90 λE=>?_;refine Aj ?_;refine AS (Az rfl rfl (dL F hF.1 hF.2 _)) ?_;rintro _ _ ⟨bm,rfl,lm,hM,rfl⟩;refine Aj ?_;refine AS (Az rfl rfl (dN C hC.1 hC.2 _)) ?_;rintro _ _ ⟨bc,rfl,lc,X,hCo,rfl⟩;refine Aj ?_;refine AS (Az rfl rfl (Ar.new_any F _)) ?_;rintro _ _ (⟨h,_⟩|⟨_,ba,la,rfl,hA,rfl⟩)
 ·exact absurd ⟨Af,Af⟩ h
 refine Aj ?_;refine Qc [(0,true),(1,true),(2,true),(8,true),(3,false),(4,false),(5,false),(6,false),(7,false),(9,false),(10,true),(11,false),(12,true),(13,true)] [[],[],[],[],[3],[3,4],[3,4,5],[3,4,5,6],[],[8],[0,1,2,3,4,5,6,7,8,9],[0,1,2,3,4,5,6,7,8,9,10],[0,1,2,3,4,5,6,7,8,9,10,11],[0,1,2,3,4,5,6,7,8,9,10,11,12]] (some [(3,9),(4,9),(5,9),(6,9),(7,9)]) ([]) Bv Bv Gh Sn ?_;refine BI ?_;apply Q6 [(3,false),(4,false),(5,false),(6,false),(7,false),(9,false),(10,true),(11,false),(12,true),(13,true)] [(9,false),(3,false),(4,false),(5,false),(6,false),(7,false),(10,true),(11,false),(12,true),(13,true)] 3 9 (some [(4,9),(5,9),(6,9),(7,9)]) none
 ·exact Gh
 ·exact Gh
 ·exact((List.Perm.swap _ _ _).trans (List.Perm.cons _ ((List.Perm.swap _ _ _).trans (List.Perm.cons _ ((List.Perm.swap _ _ _).trans (List.Perm.cons _ ((List.Perm.swap _ _ _).trans (List.Perm.cons _ (List.Perm.swap _ _ _)))))))))
 ·kernel_rfl
 ·exact Az rfl rfl (V8 _)
 ·rfl
 ·rfl
 ·intro _ _ _ c hc;cases hc
 ·intro _ _ _ x hx;cases hx
 ·exact Fv (n:=C) (kk:=1) (zs:=[.int .i64 0]) (xs:=replicate C (.int .i64 0)) rfl rfl Af Af AW (Le _ _)
 ·rfl
 ·rfl
 ·intro _ _ _ c hc;cases hc
 ·intro _ _ _ x hx;cases hx
 ·rintro _ _ ⟨bh,rfl,lh,hH,rfl⟩;apply Q6 [(4,false),(5,false),(6,false),(7,false),(9,false),(10,true),(11,false),(12,true),(13,true)] [(9,false),(4,false),(5,false),(6,false),(7,false),(10,true),(11,false),(12,true),(13,true)] 4 9 (some [(5,9),(6,9),(7,9)]) none
  ·exact Gh
  ·exact Gh
  ·exact((List.Perm.swap _ _ _).trans (List.Perm.cons _ ((List.Perm.swap _ _ _).trans (List.Perm.cons _ ((List.Perm.swap _ _ _).trans (List.Perm.cons _ (List.Perm.swap _ _ _)))))))
  ·kernel_rfl
  ·exact Az rfl rfl (As.new_any _)
  ·rfl
  ·rfl
  ·intro _ _ _ c hc;cases hc
  ·intro _ _ _ x hx;cases hx
  ·exact Fv (n:=C) (kk:=1) (zs:=[.int .i64 0]) (xs:=replicate C (.int .i64 0)) rfl rfl Af Af AW (Le _ _)
  ·rfl
  ·rfl
  ·intro _ _ _ c hc;cases hc
  ·intro _ _ _ x hx;cases hx
  ·rintro _ _ ⟨bn,_,rfl,rfl⟩;apply Q6 [(5,false),(6,false),(7,false),(9,false),(10,true),(11,false),(12,true),(13,true)] [(9,false),(5,false),(6,false),(7,false),(10,true),(11,false),(12,true),(13,true)] 5 9 (some [(6,9),(7,9)]) none
   ·exact Gh
   ·exact Gh
   ·exact((List.Perm.swap _ _ _).trans (List.Perm.cons _ ((List.Perm.swap _ _ _).trans (List.Perm.cons _ (List.Perm.swap _ _ _)))))
   ·kernel_rfl
   ·exact Az rfl rfl (Th.new_any _)
   ·rfl
   ·rfl
   ·intro _ _ _ c hc;cases hc
   ·intro _ _ _ x hx;cases hx
   ·exact Fv (n:=C) (kk:=1) (zs:=[.int .i64 0]) (xs:=replicate C (.int .i64 0)) rfl rfl Af Af AW (Le _ _)
   ·rfl
   ·rfl
   ·intro _ _ _ c hc;cases hc
   ·intro _ _ _ x hx;cases hx
   ·rintro _ _ ⟨bt,rfl,lt,hT,rfl⟩;apply Q6 [(6,false),(7,false),(9,false),(10,true),(11,false),(12,true),(13,true)] [(9,false),(6,false),(7,false),(10,true),(11,false),(12,true),(13,true)] 6 9 (some [(7,9)]) none
    ·exact Gh
    ·exact Gh
    ·exact((List.Perm.swap _ _ _).trans (List.Perm.cons _ (List.Perm.swap _ _ _)))
    ·kernel_rfl
    ·exact Az rfl rfl (Qu.new_any _)
    ·rfl
    ·rfl
    ·intro _ _ _ c hc;cases hc
    ·intro _ _ _ x hx;cases hx
    ·exact Fv (n:=C) (kk:=1) (zs:=[.int .i64 0]) (xs:=replicate C (.int .i64 0)) rfl rfl Af Af AW (Le _ _)
    ·rfl
    ·rfl
    ·intro _ _ _ c hc;cases hc
    ·intro _ _ _ x hx;cases hx
    ·rintro _ _ ⟨bq,rfl,lq,hQ,rfl⟩;apply Q6 [(7,false),(9,false),(10,true),(11,false),(12,true),(13,true)] [(9,false),(7,false),(10,true),(11,false),(12,true),(13,true)] 7 9 none none
     ·exact Gh
     ·exact Gh
     ·exact(List.Perm.swap _ _ _)
     ·kernel_rfl
     ·exact Az rfl rfl (En.new_any _)
     ·rfl
     ·rfl
     ·intro _ _ _ c hc;cases hc
     ·intro _ _ _ x hx;cases hx
     ·exact Fv (n:=C) (kk:=1) (zs:=[.int .i64 0]) (xs:=replicate C (.int .i64 0)) rfl rfl Af Af AW (Le _ _)
     ·rfl
     ·rfl
     ·intro _ _ _ c hc;cases hc
     ·intro _ _ _ x hx;cases hx
     ·rintro _ _ ⟨be,rfl,le,hE,rfl⟩;apply CE
      ·exact Fv (n:=C) (kk:=1) (zs:=[.int .i64 0]) (xs:=replicate C (.int .i64 0)) rfl rfl Af Af AW (Le _ _)
      ·rfl
      ·rfl
      ·rfl
      ·intro _ _ _ c hc;cases hc
      rintro _ _ ⟨bv,hbv,rfl,rfl⟩;refine BI ?_;apply CE
      ·exact CR rfl
      ·rfl
      ·rfl
      ·rfl
      ·intro _ _ _ c hc;cases hc
      rintro _ _ ⟨b,hb,rfl,rfl⟩;refine BI ?_;refine Aj ?_;exact By [] rfl (l':=Cn b ⟨bm,bc,ba,bh,bn,bt,bq,be,.slice (some ⟨bv,0,none⟩) C C⟩ ⟨lm,lc,la,lh,lt,lq,le,[(bv,.cells (toArray (replicate C (.int .i64 0))) 3 (0,0))]⟩ (In F) (X++G)) (by unfold Cn;dsimp only[Co,In,As.asA,pV];simp only[AL,AI];exact AY []) (by exact A7) ⟨b,_,_,X,rfl,⟨hM,hCo,hA,rfl,hH,aX,λn _=>by simp[In,As.ASt.zero],hT,hQ,λn _=>by simp[In,Qu.noX],hE,OwnSl.lit Af (by simp) Af,hC⟩,rfl⟩
     ·rintro _ _ ⟨bv,hbv,rfl,rfl⟩;apply CE
      ·exact Az rfl rfl (En.new_any _)
      ·rfl
      ·rfl
      ·rfl
      ·intro _ _ _ c hc;cases hc
      rintro _ _ ⟨be,rfl,le,hE,rfl⟩;refine BI ?_;apply CE
      ·exact CR rfl
      ·rfl
      ·rfl
      ·rfl
      ·intro _ _ _ c hc;cases hc
      rintro _ _ ⟨b,hb,rfl,rfl⟩;refine BI ?_;refine Aj ?_;exact By [] rfl (l':=Cn b ⟨bm,bc,ba,bh,bn,bt,bq,be,.slice (some ⟨bv,0,none⟩) C C⟩ ⟨lm,lc,la,lh,lt,lq,le,[(bv,.cells (toArray (replicate C (.int .i64 0))) 3 (0,0))]⟩ (In F) (X++G)) (by unfold Cn;dsimp only[Co,In,As.asA,pV];simp only[AL,AI];exact AY []) (by exact A7) ⟨b,_,_,X,rfl,⟨hM,hCo,hA,rfl,hH,aX,λn _=>by simp[In,As.ASt.zero],hT,hQ,λn _=>by simp[In,Qu.noX],hE,OwnSl.lit Af (by simp) Af,hC⟩,rfl⟩
    ·rintro _ _ ⟨bv,hbv,rfl,rfl⟩;apply CE
     ·exact Az rfl rfl (Qu.new_any _)
     ·rfl
     ·rfl
     ·rfl
     ·intro _ _ _ c hc;cases hc
     rintro _ _ ⟨bq,rfl,lq,hQ,rfl⟩;refine BI ?_;apply CE
     ·exact Az rfl rfl (En.new_any _)
     ·rfl
     ·rfl
     ·rfl
     ·intro _ _ _ c hc;cases hc
     rintro _ _ ⟨be,rfl,le,hE,rfl⟩;refine BI ?_;apply CE
     ·exact CR rfl
     ·rfl
     ·rfl
     ·rfl
     ·intro _ _ _ c hc;cases hc
     rintro _ _ ⟨b,hb,rfl,rfl⟩;refine BI ?_;refine Aj ?_;exact By [] rfl (l':=Cn b ⟨bm,bc,ba,bh,bn,bt,bq,be,.slice (some ⟨bv,0,none⟩) C C⟩ ⟨lm,lc,la,lh,lt,lq,le,[(bv,.cells (toArray (replicate C (.int .i64 0))) 3 (0,0))]⟩ (In F) (X++G)) (by unfold Cn;dsimp only[Co,In,As.asA,pV];simp only[AL,AI];exact AY []) (by exact A7) ⟨b,_,_,X,rfl,⟨hM,hCo,hA,rfl,hH,aX,λn _=>by simp[In,As.ASt.zero],hT,hQ,λn _=>by simp[In,Qu.noX],hE,OwnSl.lit Af (by simp) Af,hC⟩,rfl⟩
   ·rintro _ _ ⟨bv,hbv,rfl,rfl⟩;apply CE
    ·exact Az rfl rfl (Th.new_any _)
    ·rfl
    ·rfl
    ·rfl
    ·intro _ _ _ c hc;cases hc
    rintro _ _ ⟨bt,rfl,lt,hT,rfl⟩;refine BI ?_;apply CE
    ·exact Az rfl rfl (Qu.new_any _)
    ·rfl
    ·rfl
    ·rfl
    ·intro _ _ _ c hc;cases hc
    rintro _ _ ⟨bq,rfl,lq,hQ,rfl⟩;refine BI ?_;apply CE
    ·exact Az rfl rfl (En.new_any _)
    ·rfl
    ·rfl
    ·rfl
    ·intro _ _ _ c hc;cases hc
    rintro _ _ ⟨be,rfl,le,hE,rfl⟩;refine BI ?_;apply CE
    ·exact CR rfl
    ·rfl
    ·rfl
    ·rfl
    ·intro _ _ _ c hc;cases hc
    rintro _ _ ⟨b,hb,rfl,rfl⟩;refine BI ?_;refine Aj ?_;exact By [] rfl (l':=Cn b ⟨bm,bc,ba,bh,bn,bt,bq,be,.slice (some ⟨bv,0,none⟩) C C⟩ ⟨lm,lc,la,lh,lt,lq,le,[(bv,.cells (toArray (replicate C (.int .i64 0))) 3 (0,0))]⟩ (In F) (X++G)) (by unfold Cn;dsimp only[Co,In,As.asA,pV];simp only[AL,AI];exact AY []) (by exact A7) ⟨b,_,_,X,rfl,⟨hM,hCo,hA,rfl,hH,aX,λn _=>by simp[In,As.ASt.zero],hT,hQ,λn _=>by simp[In,Qu.noX],hE,OwnSl.lit Af (by simp) Af,hC⟩,rfl⟩
  ·rintro _ _ ⟨bv,hbv,rfl,rfl⟩;apply CE
   ·exact Az rfl rfl (As.new_any _)
   ·rfl
   ·rfl
   ·rfl
   ·intro _ _ _ c hc;cases hc
   rintro _ _ ⟨bn,_,rfl,rfl⟩;refine BI ?_;apply CE
   ·exact Az rfl rfl (Th.new_any _)
   ·rfl
   ·rfl
   ·rfl
   ·intro _ _ _ c hc;cases hc
   rintro _ _ ⟨bt,rfl,lt,hT,rfl⟩;refine BI ?_;apply CE
   ·exact Az rfl rfl (Qu.new_any _)
   ·rfl
   ·rfl
   ·rfl
   ·intro _ _ _ c hc;cases hc
   rintro _ _ ⟨bq,rfl,lq,hQ,rfl⟩;refine BI ?_;apply CE
   ·exact Az rfl rfl (En.new_any _)
   ·rfl
   ·rfl
   ·rfl
   ·intro _ _ _ c hc;cases hc
   rintro _ _ ⟨be,rfl,le,hE,rfl⟩;refine BI ?_;apply CE
   ·exact CR rfl
   ·rfl
   ·rfl
   ·rfl
   ·intro _ _ _ c hc;cases hc
   rintro _ _ ⟨b,hb,rfl,rfl⟩;refine BI ?_;refine Aj ?_;exact By [] rfl (l':=Cn b ⟨bm,bc,ba,bh,bn,bt,bq,be,.slice (some ⟨bv,0,none⟩) C C⟩ ⟨lm,lc,la,lh,lt,lq,le,[(bv,.cells (toArray (replicate C (.int .i64 0))) 3 (0,0))]⟩ (In F) (X++G)) (by unfold Cn;dsimp only[Co,In,As.asA,pV];simp only[AL,AI];exact AY []) (by exact A7) ⟨b,_,_,X,rfl,⟨hM,hCo,hA,rfl,hH,aX,λn _=>by simp[In,As.ASt.zero],hT,hQ,λn _=>by simp[In,Qu.noX],hE,OwnSl.lit Af (by simp) Af,hC⟩,rfl⟩
 ·rintro _ _ ⟨bv,hbv,rfl,rfl⟩;apply CE
  ·exact Az rfl rfl (V8 _)
  ·rfl
  ·rfl
  ·rfl
  ·intro _ _ _ c hc;cases hc
  rintro _ _ ⟨bh,rfl,lh,hH,rfl⟩;refine BI ?_;apply CE
  ·exact Az rfl rfl (As.new_any _)
  ·rfl
  ·rfl
  ·rfl
  ·intro _ _ _ c hc;cases hc
  rintro _ _ ⟨bn,_,rfl,rfl⟩;refine BI ?_;apply CE
  ·exact Az rfl rfl (Th.new_any _)
  ·rfl
  ·rfl
  ·rfl
  ·intro _ _ _ c hc;cases hc
  rintro _ _ ⟨bt,rfl,lt,hT,rfl⟩;refine BI ?_;apply CE
  ·exact Az rfl rfl (Qu.new_any _)
  ·rfl
  ·rfl
  ·rfl
  ·intro _ _ _ c hc;cases hc
  rintro _ _ ⟨bq,rfl,lq,hQ,rfl⟩;refine BI ?_;apply CE
  ·exact Az rfl rfl (En.new_any _)
  ·rfl
  ·rfl
  ·rfl
  ·intro _ _ _ c hc;cases hc
  rintro _ _ ⟨be,rfl,le,hE,rfl⟩;refine BI ?_;apply CE
  ·exact CR rfl
  ·rfl
  ·rfl
  ·rfl
  ·intro _ _ _ c hc;cases hc
  rintro _ _ ⟨b,hb,rfl,rfl⟩;refine BI ?_;refine Aj ?_;exact By [] rfl (l':=Cn b ⟨bm,bc,ba,bh,bn,bt,bq,be,.slice (some ⟨bv,0,none⟩) C C⟩ ⟨lm,lc,la,lh,lt,lq,le,[(bv,.cells (toArray (replicate C (.int .i64 0))) 3 (0,0))]⟩ (In F) (X++G)) (by unfold Cn;dsimp only[Co,In,As.asA,pV];simp only[AL,AI];exact AY []) (by exact A7) ⟨b,_,_,X,rfl,⟨hM,hCo,hA,rfl,hH,aX,λn _=>by simp[In,As.ASt.zero],hT,hQ,λn _=>by simp[In,Qu.noX],hE,OwnSl.lit Af (by simp) Af,hC⟩,rfl⟩
end Go.Proofs.YtlkgekpmileobaaGreat
namespace Go.Proofs.YtlkgekpmileobaaGreat.En
open Tryz
open List(toArray replicate)
open Go.RowKit
set_option maxRecDepth 20000
set_option maxHeartbeats 400000
variable{A B:List Row}{r:Row}
theorem Ij(pv:Option Addr)(t:Int)(l:List Ab):Fn prog 317 [.pointer pv,.int .i64 t] l λv l'=> ∃B1 B2,v= .func (.func 359) #[] #[.pointer (some ⟨B1,0,none⟩),.pointer (some ⟨B2,0,none⟩)]/\l'=(B2,.cells #[.int .i64 t] 3 (0,0))::(B1,.cells #[.pointer pv] 161 (0,0))::l:=by refine AO func317 ntmps317 λE=>?_;refine gz ?_;refine AS (DZ rfl rfl) ?_;rintro _ _ ⟨B1,hB1,rfl,rfl⟩;refine AS (DZ rfl rfl) ?_;rintro _ _ ⟨B2,hB2,rfl,rfl⟩;refine gz ?_;exact A8 .refl ⟨B1,B2,rfl,rfl⟩
theorem G1(B1 B2 b m clock:Nat)(t:Int)(rows:List Row)(lq:List Ab)(hE:EB b rows m clock lq)(hn: ∀r,r∈rows->r.th.length<=1000000):
 E2 prog 359 [.pointer (some ⟨B1,0,none⟩),.pointer (some ⟨B2,0,none⟩)] (λr:Row=>[.pointer (some ⟨r.pb,0,none⟩),.int .i64 (r.th.idxOf t:Nat)]) (λxs=> ∀r,r∈rows->t∈r.th->r∈xs) (λpre=> ∀r,r∈pre->r∈rows/\t∈r.th)
 (λ_ l=>(B1,.cells #[.pointer (some ⟨b,0,none⟩)] 161 (0,0))∈l/\(B2,.cells #[.int .i64 t] 3 (0,0))∈l/\ ∀c,c∈lq->c∈l):=by
 refine⟨λq I Ix G0 hneed hY l G hG h0=>?_⟩;refine AO func359 ntmps359 λE=>?_;obtain⟨hm1,hm2,hm3⟩:=hneed _ _ G hG h0;have hm4:=hm3 _ hE.m1;have hm5:=hm3 _ hE.m2;refine gz ?_;refine AS (Y0 rfl hm5) ?_;rintro _ _ ⟨b0,hb0,rfl,rfl⟩;refine gz ?_;refine Cu (α:=Array Nat×List Row×List Ab) (λx=>[(0,.func (.yield q) #[] #[]),(1,.pointer (some ⟨B1,0,none⟩)),(2,.pointer (some ⟨B2,0,none⟩)),(13,.pointer (some ⟨b0,0,none⟩))]) (λx=>(b0,.mapIter (some m) clock x.1 clock)::(x.2.2++G)) (λx=>I x.2.1 x.2.2/\(∀r,r∈rows->r.st∈x.1.toList->t∈r.th->r∈x.2.1)/\ ∀r,r∈x.2.1->r∈rows/\t∈r.th) (λx=>(rows.filter λr=>!x.1.contains r.st).length) (#[],[],l) ⟨h0,by simp,by simp⟩ ⟨rfl,rfl,rfl,rfl,trivial⟩ .refl ?_;clear hm1 hm2 hm3 hm4 hm5;rintro⟨seen,pre,l⟩ ⟨hI,hse,hpre⟩;simp only at hI hse hpre⊢;obtain⟨hm1,hm2,hm3⟩:=hneed _ _ G hG hI;have hm5:=hm3 _ hE.m2;refine gz ?_;refine AS (dD rfl hm5 (λe he=>by rw[Au] at he;obtain⟨r,hr,rfl⟩:=he;exact hE.st r hr) (A5 _)) ?_;rintro _ _ (⟨rfl,rfl,hall⟩|⟨e,he,hns,rfl,rfl⟩)
 ·refine gz ?_;refine A8 (.drop .refl) ⟨l,rfl,.inl ⟨pre,λr hr ht=>hse r hr (hall _ (Au.2 ⟨r,hr,rfl⟩)) ht,hI⟩⟩
 ·rw[Au] at he;obtain⟨r,hr,rfl⟩:=he;have hnd:((rows.map Row.ent).map (·.2.2)).Nodup:=by rw[CD];exact hE.nd
  have hrow:r.ent∈rows.map Row.ent:=Au.2 ⟨r,hr,rfl⟩;have hbl:r.bl∈l++G:=hm3 _ (hE.m3 hr (.head _));have hmeas:(rows.filter λr'=>!(seen.push r.ent.2.2).contains r'.st).length<(rows.filter λr'=>!seen.contains r'.st).length:=by
   refine Tn (λx hx=>?_) hr ?_ ?_
   ·simp only[Ex,Array.contains_push,Bool.or_eq_false_iff] at hx⊢;simp at hx⊢;exact hx.1
   ·have hns':r.st∉seen.toList:=hns;simpa using hns'
   ·simp[Row.ent]
  have hse2: ∀(ps:List Row),(∀x,x∈pre->x∈ps)->(t∈r.th->r∈ps)-> ∀r',r'∈rows->r'.st∈(seen.push r.ent.2.2).toList->t∈r'.th->r'∈ps:=λps h1 h2 r' hr' hs' ht'=>by
   rw[Ka,AF] at hs';rcases hs' with hs'|hs'
   ·exact h1 _ (hse r' hr' hs' ht')
   ·have e1:r'.st=r.st:=by simpa[Row.ent] using hs'
    have:r'=r:=Re hE.nd hr' hr e1;subst this;exact h2 ht'
  refine gz ?_;refine Bc (Y1 rfl (.head _) (.tail _ hm5) hrow hnd) ?_;refine gz ?_;refine Ce [] 7 _ ?_ (hR:=(λ_ h=>h));refine pz ?_;refine Vz (AK rfl rfl (λl2 hl=>Qu.index_any r.v r.th t l2 (hE.ints hr λc hc=>hl c (.tail _ (hm3 c hc))) (hn r hr))) rfl rfl rfl ?_;by_cases hin:t∈r.th
  ·rw[show Qu.indexI r.th t=((r.th.idxOf t:Nat):Int) from Ae hin];have hy:=hY pre r l ((b0,.mapIter (some m) clock (seen.push r.ent.2.2) clock)::G) (λc hc=> .tail _ (hG c hc)) hI (λr' hr'=>by
    rcases AF.1 hr' with h|h
    ·exact hpre r' h
    ·rw[AA.1 h];exact⟨hr,hin⟩)
   refine pz ?_;refine gz ?_;refine Bk (Keep.of_perm AH.symm) ?_;refine AS (CK rfl rfl hy) ?_;rintro v l' ⟨l1,rfl,⟨rfl,hI'⟩|⟨rfl,hx⟩⟩
   ·refine gz ?_;refine BS (seen.push r.ent.2.2,pre++[r],l1) ⟨hI',hse2 _ (λx hx=>Ai _ hx) λ_=>Aa _ Ak,λr' hr'=>?_⟩ hmeas ⟨rfl,rfl,rfl,rfl,trivial⟩ (.of_perm AH);rcases AF.1 hr' with h|h
    ·exact hpre r' h
    ·rw[AA.1 h];exact⟨hr,hin⟩
   ·refine gz ?_;refine A8 (Keep.trans (.of_perm AH) (.drop .refl)) ⟨l1,rfl,.inr ⟨_,λr' hr'=>?_,hx⟩⟩;rcases AF.1 hr' with h|h
    ·exact hpre r' h
    ·rw[AA.1 h];exact⟨hr,hin⟩
  ·rw[show Qu.indexI r.th t= -1 from Ac hin];refine pz ?_;refine gz ?_;exact BS (seen.push r.ent.2.2,pre,l) ⟨hI,hse2 _ (λx hx=>hx) λh=>absurd h hin,hpre⟩ hmeas ⟨rfl,rfl,rfl,rfl,trivial⟩ .refl
theorem clone_any(v:Value)(xs:List Int)(cs l:List Ab)(ho:OwnSl 3 1 v xs.length (xs.map CA) cs)(hs: ∀c,c∈cs->c∈l)(hx:xs.length<=1000000):
 Fn prog 54 [v] l λr l'=> ∃c2,OwnSl 3 1 r xs.length (xs.map CA) c2/\l'=c2++l:=by
 obtain⟨hlen,h⟩:=ho;refine AO func54 ntmps54 λE=>?_;rcases h with⟨rfl,h0,rfl⟩|⟨gb,cap,sp,rfl,rfl,hnc,hcm,hcl⟩
 ·refine gz ?_;refine A8 .refl ?_;exact⟨[],⟨hlen,.inl ⟨rfl,h0,rfl⟩⟩,rfl⟩
 ·have hg:=hs _ Ak;refine gz ?_;refine AS dE ?_;rintro _ _ ⟨bl,hbl,rfl,rfl⟩;refine gz ?_;apply db
  ·apply Gk (e:=3) (k:=1) (xs:=[]) (cs:=[(bl,.cells #[] 3 (0,0))]) (F:=l) (news:=xs.map CA) (zs:=[.int .i64 0]) (cl:=toArray (xs.map CA++sp))
   ·rfl
   ·rfl
   ·rfl
   ·exact OwnSl.empty
   ·exact .tail _ hg
   ·intro j u hj;have hlt:=(Ax.1 hj).1;rw[Bw,AE,AC hlt];exact hj
   ·simp
   ·intro u hu;rw[Au] at hu;obtain⟨a,_,rfl⟩:=hu;rfl
   ·unfold maxLen;omega
   ·omega
  ·rfl
  ·rfl
  ·rfl
  rintro v' _ ⟨c2,ho2,rfl⟩;rw[Ag,Bw] at ho2;refine gz ?_;refine A8 .refl ?_;exact⟨c2,ho2,rfl⟩
theorem XJ{rows:List Row}(e:rows=A++r::B)(hA: ∀x,x∈A->x.id≠r.id):(rows.map Row.d).eraseP (λx=>x.1==r.id)=(A++B).map Row.d:=by
 rw[e,Ap,Ap,AJ,List.eraseP_append_right _ λx hx=>by rw[Au] at hx;obtain⟨y,hy,rfl⟩:=hx;simpa[Row.d] using hA y hy]
 rw[List.eraseP_cons_of_pos (by simp[Row.d])]
theorem EB.erase{b:Nat}{m clock:Nat}{lq:List Ab}(h:EB b (A++r::B) m clock lq):EB b (A++B) m clock (Pd b m::(m,Fh .i64 ((A++B).map Row.ent) clock)::(A++B).flatMap Row.ch):=by have hs:(A++B).Sublist (A++r::B):=FB (DI _ _) _;exact⟨rfl,λx hx=>h.own x (hs.subset hx),λx hx=>h.st x (hs.subset hx),h.nd.sublist (hs.map _),h.ids.sublist (hs.map _)⟩
theorem drop_any(b:Nat)(D:DE)(lq:List Ab)(id:Int)(hq:IsE b D lq)(F:List Ab):
 Fn prog 369 [.pointer (some ⟨b,0,none⟩),.int .i64 id] (lq++F) λv l'=> ∃sl cs,v= .tuple #[sl,.int .i64 (dropD D id).2.1]/\OwnSl 3 1 sl (dropD D id).1.length ((dropD D id).1.map CA) cs/\ ∃lq',IsE b (dropD D id).2.2 lq'/\l'=cs++(lq'++F):=by
 obtain⟨rows,m,clock,rfl,hE⟩:=hq;refine AO func369 ntmps369 λE=>?_;have hEq:=hE.eq;by_cases h1: ∃r,r∈rows/\r.id=id
 ·obtain⟨r,hr,rfl⟩:=h1;have hg:=Nc hE.ids hr;obtain⟨A,B,rfl,hA,hB⟩:=hE.split hr;rw[show dropD ((A++r::B).map Row.d) r.id=(r.th,0,(A++B).map Row.d) by unfold dropD;rw[JO hE.ids hr];simp only;rw[XJ rfl hA]];have ho:=hE.own r hr;have hv1:=ho.one;have hdel:NT r.id ((A++r::B).map Row.ent)=(A++B).map Row.ent:=by
   rw[Ap,Ap,AJ];exact dZ _ _ λx hx=>by rw[Au] at hx;obtain⟨y,hy,rfl⟩:=hx;exact hA y hy
  have hbl: ∀o:Obj,r.bl∈Pd b m::(m,o)::((A++r::B).flatMap Row.ch++F):=λo=> .tail _ (.tail _ (Ai _ (ID.2 ⟨r,hr,.head _⟩)));rw[hEq];simp only[Ad];refine gz ?_;rw[hg];refine gz ?_;refine LV (QZ rfl rfl (by exact Dw)) rfl rfl ?_;rintro _ _ ⟨rfl,rfl⟩;rw[hdel];have hbl2:=hbl (Fh .i64 ((A++B).map Row.ent) clock);refine gz ?_;refine Bc (Dv rfl hbl2 rfl) ?_;refine gz ?_;refine A8 (l':=r.cs++((Pd b m::(m,Fh .i64 ((A++B).map Row.ent) clock)::(A++B).flatMap Row.ch)++F)) ?_ ⟨r.v,r.cs,rfl,ho,_,⟨A++B,m,clock,rfl,hE.erase⟩,rfl⟩;rw[DL,Cm,DL];refine⟨[r.bl],?_⟩;show List.Perm (Pd b m::(m,_)::((A.flatMap Row.ch++((r.bl::r.cs)++B.flatMap Row.ch))++F)) (r.bl::(r.cs++(Pd b m::(m,_)::((A.flatMap Row.ch++B.flatMap Row.ch)++F))));have p1:(A.flatMap Row.ch++((r.bl::r.cs)++B.flatMap Row.ch)).Perm (r.bl::(r.cs++(A.flatMap Row.ch++B.flatMap Row.ch))):=by have:=Ay (A.flatMap Row.ch) (r.bl::r.cs) (B.flatMap Row.ch);simpa using this
  refine(((p1.append_right F).cons _).cons _).trans ?_;refine((Ay [Pd b m,(m,Fh .i64 ((A++B).map Row.ent) clock)] [r.bl] (r.cs++(A.flatMap Row.ch++B.flatMap Row.ch)++F))).trans ?_;refine List.Perm.cons _ ?_;rw[Al];exact Ay [Pd b m,(m,Fh .i64 ((A++B).map Row.ent) clock)] r.cs _
 ·have hno: ∀r,r∈rows->r.id≠id:=λr hr e=>h1 ⟨r,hr,e⟩;have hg:=Nb hno;rw[show dropD (rows.map Row.d) id=([],2,rows.map Row.d) by unfold dropD;rw[Lx hno]];rw[hEq];simp only[Ad];refine gz ?_;rw[hg];refine gz ?_;refine By [] rfl .refl (by exact A7) ⟨_,[],rfl,OwnSl.nil _ _,_,⟨rows,m,clock,rfl,hE⟩,by rw[hEq];rfl⟩
theorem list_any(b:Nat)(D:DE)(lq:List Ab)(id:Int)(hq:IsE b D lq)(hn: ∀x,x∈D->x.2.1.length<=1000000)(l:List Ab)(hsub: ∀c,c∈lq->c∈l):
 Fn prog 318 [.pointer (some ⟨b,0,none⟩),.int .i64 id] l λv l'=> ∃sl cs,v= .tuple #[sl,.bool (listD D id).2]/\OwnSl 3 1 sl (listD D id).1.length ((listD D id).1.map CA) cs/\l'=cs++l:=by
 obtain⟨rows,m,clock,rfl,hE⟩:=hq;have hm1:=hsub _ hE.m1;have hm2:=hsub _ hE.m2;refine AO func318 ntmps318 λE=>?_;by_cases h1: ∃r,r∈rows/\r.id=id
 ·obtain⟨r,hr,rfl⟩:=h1;have hg:=Nc hE.ids hr;have ho:=hE.own r hr;have hbl:=hsub _ (hE.m3 hr (.head _));have hlen:=hn r.d (Au.2 ⟨r,hr,rfl⟩);simp only[Row.d] at hlen;have hcl:=clone_any r.v r.th r.cs l ho (λc hc=>hsub c (hE.m3 hr (.tail _ hc))) hlen;obtain⟨pv,cap,hv⟩:=ho.shape;rw[hv] at hcl;have hbl':(r.pb,Obj.cells (toArray [.slice pv r.th.length cap,.bool r.sd]) 354 (0,0))∈l:=by rw[<-hv];exact hbl
  clear hbl;by_cases h0:r.th.length=0
  ·rw[show listD (rows.map Row.d) r.id=([],false) by unfold listD;rw[JO hE.ids hr];simp only;rw[Ae h0]];refine gz ?_;rw[hg];refine gz ?_;rw[hg];refine gz ?_;refine A8 .refl ⟨_,[],rfl,OwnSl.nil _ _,rfl⟩
  ·rw[show listD (rows.map Row.d) r.id=(r.th,r.sd) by unfold listD;rw[JO hE.ids hr];simp only;rw[Ac h0]];refine gz ?_;rw[hg];refine gz ?_;rw[hg];refine gz ?_;refine KH [(0,true),(1,true),(2,true),(3,true),(4,true),(5,true),(6,true),(7,true),(8,true),(10,true),(11,true),(12,true),(13,true),(14,true),(15,true),(16,true),(17,true),(18,true),(9,false),(19,true),(20,true)] [[],[0],[0,1],[0,1,2],[],[0,1,2,3,4],[0,1,2,3,4,5],[0,1,2,3,4,5,6],[0,1,2,3,4,5,6,7],[0,1,2,3,4,5,6,7,8],[],[10],[10,11],[10,11,12],[],[10,11,12,13,14],[10,11,12,13,14,15],[10,11,12,13,14,15,16],[10,11,12,13,14,15,16,17],[0,1,2,3,4,5,6,7,8,9],[0,1,2,3,4,5,6,7,8,9,10,11,12,13,14,15,16,17,18,19]] _ Bv Bv Gh (λ_ h=>h) ?_;refine pz ?_;rw[hg];refine pz ?_;rw[hg];refine pz ?_;apply CE
   ·exact CZ rfl rfl hcl
   ·rfl
   ·rfl
   ·rfl
   ·rintro _ _ ⟨c2,_,rfl⟩ c hc;exact Aa _ hc
   rintro v _ ⟨c2,ho2,rfl⟩;refine pz ?_;refine gz ?_;refine A8 .refl ⟨v,c2,rfl,ho2,rfl⟩
 ·have hno: ∀r,r∈rows->r.id≠id:=λr hr e=>h1 ⟨r,hr,e⟩;have hg:=Nb hno;rw[show listD (rows.map Row.d) id=([],false) by unfold listD;rw[Lx hno]];refine gz ?_;rw[hg];refine gz ?_;refine A8 .refl ⟨_,[],rfl,OwnSl.nil _ _,rfl⟩
def firstD(D:DE)(id:Int):Int×Bool×Bool:=match(listD D id).1 with
 |x::_=>(x,(listD D id).2,true)
 |[]=>(0,false,false)
theorem first_any(b:Nat)(D:DE)(lq:List Ab)(id:Int)(hq:IsE b D lq)(hn: ∀x,x∈D->x.2.1.length<=1000000)(l:List Ab)(hsub: ∀c,c∈lq->c∈l):
 Fn prog 264 [.pointer (some ⟨b,0,none⟩),.int .i64 id] l λv l'=>v= .tuple #[.int .i64 (firstD D id).1,.bool (firstD D id).2.1,.bool (firstD D id).2.2]/\ ∃cs,l'=cs++l:=by
 have H:=list_any b D lq id hq hn l hsub;unfold firstD;obtain⟨⟨xs,s⟩,hx⟩: ∃x,listD D id=x:=⟨_,rfl⟩
 rw[hx] at H⊢;dsimp only at H⊢;refine AO func264 ntmps264 λE=>?_;refine gz ?_;refine AS (CZ rfl rfl H) ?_;rintro _ _ ⟨sl,cs,rfl,ho,rfl⟩;cases xs with
 |nil=>obtain⟨pv,cap,rfl⟩:=ho.shape;simp only[Eh];refine gz ?_;exact A8 .refl ⟨rfl,cs,rfl⟩
 |cons x r=>obtain⟨pv,cap,rfl,hI⟩:=ho.intsQ (l:=cs++l) λc hc=>Ai _ hc;obtain⟨gb,off,cc,t,fz,rfl,hmc,hcc⟩:=hI (by simp);have g0:=hcc 0 x rfl;have hlen:(x::r).length=r.length+1:=rfl;refine gz ?_;refine Bc (Dv (cs:=cc) rfl hmc (by simpa using g0)) ?_;refine gz ?_;exact A8 .refl ⟨rfl,cs,rfl⟩
end Go.Proofs.YtlkgekpmileobaaGreat.En
