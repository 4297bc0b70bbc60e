/- Laws that the statement's proof leans on (joined out of several texts). -/
import Derived.Test.YtlifcingifodfaaGreatGc22
set_option maxHeartbeats 4000000
set_option linter.unusedVariables false
set_option linter.unusedSimpArgs false
namespace Go.Proofs.YtlifcingifodfaaGreat
open Tryz
open List(toArray replicate)
open Go.RowKit
set_option maxRecDepth 20000
structure RT where
 A:Ar.ArT
 H:HS
 N:As.ASt
 T:Th.TL
 Q:Nat->A4
 E:En.DE
structure RP where
 m:Nat
 c:Nat
 a:Nat
 h:Nat
 n:Nat
 t:Nat
 q:Nat
 e:Nat
 v:Value
structure RL where
 M:Ad
 C:Ad
 A:Ad
 H:Ad
 T:Ad
 Q:Ad
 E:Ad
 V:Ad
abbrev CD(b:Nat)(p:RP):Bg:=(b,.cells (toArray [pV p.m,pV p.c,pV p.a,pV p.h,pV p.n,pV p.t,pV p.q,pV p.e,p.v]) 162 (0,0))
def Cy(b:Nat)(p:RP)(s:RL)(R:RT)(G:Ad):Ad:=CD b p::As.asA p.n R.N::(s.M++(s.C++(s.A++(s.H++(s.T++(s.Q++(s.E++(s.V++G))))))))
structure IsRl(F C k:Nat)(R:RT)(p:RP)(s:RL):Prop where
 mem:IsM p.m F s.M
 co:Aap p.c C s.C
 ar:Ar.IsA p.a R.A s.A
 an:R.A.n=F
 ho:IsH p.h R.H s.H
 inv:InvH R.H k
 giv: ∀n,n<32->0<=R.N.given n/\R.N.given n<=k
 th:Th.IsX p.t R.T s.T
 qu:Qu.IsQ p.q R.Q s.Q
 ql: ∀n,n<8->(R.Q n).length<=k
 en:En.IsE p.e R.E s.E
 cu:OwnSl 3 1 p.v C (replicate C (.int .i64 0)) s.V
 c1:1<=C/\C<=3
def Ji(F:Nat):RT:=⟨⟨F,λ_=>0,[]⟩,([],[]),As.ASt.zero,[],Qu.noX,[]⟩
theorem My(z:Value)(n:Nat):replicate n z=(replicate n [z]).flatten:=by
 induction n with
 |zero=>rfl
 |succ n ih=>rw[BJ,BJ,Cv,<-ih];rfl
theorem wo(s:Ck):FJ [] s=false:=by
 unfold FJ Jw;rw[show D6 Prod.fst ([]:SD) s.1=none from rfl];by_cases h:0<=s.2
 ·rw[Av h,Ax (by simp only;omega)];rfl
 ·rw[Ax h];rfl
theorem gN:InvH ([],[]) 0:=
 ⟨.none,List.Pairwise.nil,λx hx=>absurd hx (by simp),λs=>⟨λh=>absurd h (by rw[Tr.hasD_no.2 λx hx=>absurd hx (by simp)];decide),λh=>absurd h.1 (by rw[wo];decide)⟩,by simp⟩
theorem lN(F C:Nat)(hF:1<=F/\F<=64)(hC:1<=C/\C<=3)(G:Ad):Fn prog 89 [.int .i64 (F:Nat),.int .i64 (C:Nat)] G λv l'=> ∃b p s X,v= .tuple #[pV b,.int .i64 0]/\IsRl F C 0 (Ji F) p s/\l'=Cy b p s (Ji F) (X++G):=by
 refine AO func89 ntmps89 λE=>?_;refine Aj ?_;refine AR (AA rfl rfl (kC F hF.1 hF.2 _)) ?_;rintro _ _ ⟨bm,rfl,lm,hM,rfl⟩;refine Aj ?_;refine AR (AA rfl rfl (kE C hC.1 hC.2 _)) ?_;rintro _ _ ⟨bc,rfl,lc,X,hCo,rfl⟩;refine Aj ?_;refine AR (AA rfl rfl (Ar.new_any F _)) ?_;rintro _ _ (⟨h,_⟩|⟨_,ba,la,rfl,hA,rfl⟩)
 ·exact absurd ⟨Af,Af⟩ h
 refine Aj ?_;refine Sf [(0,true),(1,true),(2,true),(8,true),(3,false),(4,false),(5,false),(6,false),(7,false),(9,false),(10,true),(11,false),(12,true),(13,true)] [[],[],[],[],[3],[3,4],[3,4,5],[3,4,5,6],[],[8],[0,1,2,3,4,5,6,7,8,9],[0,1,2,3,4,5,6,7,8,9,10],[0,1,2,3,4,5,6,7,8,9,10,11],[0,1,2,3,4,5,6,7,8,9,10,11,12]] (some [(3,9),(4,9),(5,9),(6,9),(7,9)]) ([]) BB BB GZ UM ?_;refine BS ?_;apply Tl [(3,false),(4,false),(5,false),(6,false),(7,false),(9,false),(10,true),(11,false),(12,true),(13,true)] [(9,false),(3,false),(4,false),(5,false),(6,false),(7,false),(10,true),(11,false),(12,true),(13,true)] 3 9 (some [(4,9),(5,9),(6,9),(7,9)]) none
 ·exact GZ
 ·exact GZ
 ·exact((List.Perm.swap _ _ _).trans (List.Perm.cons _ ((List.Perm.swap _ _ _).trans (List.Perm.cons _ ((List.Perm.swap _ _ _).trans (List.Perm.cons _ ((List.Perm.swap _ _ _).trans (List.Perm.cons _ (List.Perm.swap _ _ _)))))))))
 ·kernel_rfl
 ·exact AA rfl rfl (YE _)
 ·rfl
 ·rfl
 ·intro _ _ _ c hc;cases hc
 ·intro _ _ _ x hx;cases hx
 ·exact Ga (n:=C) (kk:=1) (zs:=[.int .i64 0]) (xs:=replicate C (.int .i64 0)) rfl rfl Af Af AZ (My _ _)
 ·rfl
 ·rfl
 ·intro _ _ _ c hc;cases hc
 ·intro _ _ _ x hx;cases hx
 ·rintro _ _ ⟨bh,rfl,lh,hH,rfl⟩;apply Tl [(4,false),(5,false),(6,false),(7,false),(9,false),(10,true),(11,false),(12,true),(13,true)] [(9,false),(4,false),(5,false),(6,false),(7,false),(10,true),(11,false),(12,true),(13,true)] 4 9 (some [(5,9),(6,9),(7,9)]) none
  ·exact GZ
  ·exact GZ
  ·exact((List.Perm.swap _ _ _).trans (List.Perm.cons _ ((List.Perm.swap _ _ _).trans (List.Perm.cons _ ((List.Perm.swap _ _ _).trans (List.Perm.cons _ (List.Perm.swap _ _ _)))))))
  ·kernel_rfl
  ·exact AA rfl rfl (As.new_any _)
  ·rfl
  ·rfl
  ·intro _ _ _ c hc;cases hc
  ·intro _ _ _ x hx;cases hx
  ·exact Ga (n:=C) (kk:=1) (zs:=[.int .i64 0]) (xs:=replicate C (.int .i64 0)) rfl rfl Af Af AZ (My _ _)
  ·rfl
  ·rfl
  ·intro _ _ _ c hc;cases hc
  ·intro _ _ _ x hx;cases hx
  ·rintro _ _ ⟨bn,_,rfl,rfl⟩;apply Tl [(5,false),(6,false),(7,false),(9,false),(10,true),(11,false),(12,true),(13,true)] [(9,false),(5,false),(6,false),(7,false),(10,true),(11,false),(12,true),(13,true)] 5 9 (some [(6,9),(7,9)]) none
   ·exact GZ
   ·exact GZ
   ·exact((List.Perm.swap _ _ _).trans (List.Perm.cons _ ((List.Perm.swap _ _ _).trans (List.Perm.cons _ (List.Perm.swap _ _ _)))))
   ·kernel_rfl
   ·exact AA rfl rfl (Th.new_any _)
   ·rfl
   ·rfl
   ·intro _ _ _ c hc;cases hc
   ·intro _ _ _ x hx;cases hx
   ·exact Ga (n:=C) (kk:=1) (zs:=[.int .i64 0]) (xs:=replicate C (.int .i64 0)) rfl rfl Af Af AZ (My _ _)
   ·rfl
   ·rfl
   ·intro _ _ _ c hc;cases hc
   ·intro _ _ _ x hx;cases hx
   ·rintro _ _ ⟨bt,rfl,lt,hT,rfl⟩;apply Tl [(6,false),(7,false),(9,false),(10,true),(11,false),(12,true),(13,true)] [(9,false),(6,false),(7,false),(10,true),(11,false),(12,true),(13,true)] 6 9 (some [(7,9)]) none
    ·exact GZ
    ·exact GZ
    ·exact((List.Perm.swap _ _ _).trans (List.Perm.cons _ (List.Perm.swap _ _ _)))
    ·kernel_rfl
    ·exact AA rfl rfl (Qu.new_any _)
    ·rfl
    ·rfl
    ·intro _ _ _ c hc;cases hc
    ·intro _ _ _ x hx;cases hx
    ·exact Ga (n:=C) (kk:=1) (zs:=[.int .i64 0]) (xs:=replicate C (.int .i64 0)) rfl rfl Af Af AZ (My _ _)
    ·rfl
    ·rfl
    ·intro _ _ _ c hc;cases hc
    ·intro _ _ _ x hx;cases hx
    ·rintro _ _ ⟨bq,rfl,lq,hQ,rfl⟩;apply Tl [(7,false),(9,false),(10,true),(11,false),(12,true),(13,true)] [(9,false),(7,false),(10,true),(11,false),(12,true),(13,true)] 7 9 none none
     ·exact GZ
     ·exact GZ
     ·exact(List.Perm.swap _ _ _)
     ·kernel_rfl
     ·exact AA rfl rfl (En.new_any _)
     ·rfl
     ·rfl
     ·intro _ _ _ c hc;cases hc
     ·intro _ _ _ x hx;cases hx
     ·exact Ga (n:=C) (kk:=1) (zs:=[.int .i64 0]) (xs:=replicate C (.int .i64 0)) rfl rfl Af Af AZ (My _ _)
     ·rfl
     ·rfl
     ·intro _ _ _ c hc;cases hc
     ·intro _ _ _ x hx;cases hx
     ·rintro _ _ ⟨be,rfl,le,hE,rfl⟩;apply CS
      ·exact Ga (n:=C) (kk:=1) (zs:=[.int .i64 0]) (xs:=replicate C (.int .i64 0)) rfl rfl Af Af AZ (My _ _)
      ·rfl
      ·rfl
      ·rfl
      ·intro _ _ _ c hc;cases hc
      rintro _ _ ⟨bv,hbv,rfl,rfl⟩;refine BS ?_;apply CS
      ·exact C4 rfl
      ·rfl
      ·rfl
      ·rfl
      ·intro _ _ _ c hc;cases hc
      rintro _ _ ⟨b,hb,rfl,rfl⟩;refine BS ?_;refine Aj ?_;exact BD [] rfl (l':=Cy b ⟨bm,bc,ba,bh,bn,bt,bq,be,.slice (some ⟨bv,0,none⟩) C C⟩ ⟨lm,lc,la,lh,lt,lq,le,[(bv,.cells (toArray (replicate C (.int .i64 0))) 3 (0,0))]⟩ (Ji F) (X++G)) (by unfold Cy;dsimp only[CD,Ji,As.asA,pV];simp only[AM,AK];exact A8 []) (by exact Ba) ⟨b,_,_,X,rfl,⟨hM,hCo,hA,rfl,hH,gN,λn _=>by simp[Ji,As.ASt.zero],hT,hQ,λn _=>by simp[Ji,Qu.noX],hE,OwnSl.lit Af (by simp) Af,hC⟩,rfl⟩
     ·rintro _ _ ⟨bv,hbv,rfl,rfl⟩;apply CS
      ·exact AA rfl rfl (En.new_any _)
      ·rfl
      ·rfl
      ·rfl
      ·intro _ _ _ c hc;cases hc
      rintro _ _ ⟨be,rfl,le,hE,rfl⟩;refine BS ?_;apply CS
      ·exact C4 rfl
      ·rfl
      ·rfl
      ·rfl
      ·intro _ _ _ c hc;cases hc
      rintro _ _ ⟨b,hb,rfl,rfl⟩;refine BS ?_;refine Aj ?_;exact BD [] rfl (l':=Cy b ⟨bm,bc,ba,bh,bn,bt,bq,be,.slice (some ⟨bv,0,none⟩) C C⟩ ⟨lm,lc,la,lh,lt,lq,le,[(bv,.cells (toArray (replicate C (.int .i64 0))) 3 (0,0))]⟩ (Ji F) (X++G)) (by unfold Cy;dsimp only[CD,Ji,As.asA,pV];simp only[AM,AK];exact A8 []) (by exact Ba) ⟨b,_,_,X,rfl,⟨hM,hCo,hA,rfl,hH,gN,λn _=>by simp[Ji,As.ASt.zero],hT,hQ,λn _=>by simp[Ji,Qu.noX],hE,OwnSl.lit Af (by simp) Af,hC⟩,rfl⟩
    ·rintro _ _ ⟨bv,hbv,rfl,rfl⟩;apply CS
     ·exact AA rfl rfl (Qu.new_any _)
     ·rfl
     ·rfl
     ·rfl
     ·intro _ _ _ c hc;cases hc
     rintro _ _ ⟨bq,rfl,lq,hQ,rfl⟩;refine BS ?_;apply CS
     ·exact AA rfl rfl (En.new_any _)
     ·rfl
     ·rfl
     ·rfl
     ·intro _ _ _ c hc;cases hc
     rintro _ _ ⟨be,rfl,le,hE,rfl⟩;refine BS ?_;apply CS
     ·exact C4 rfl
     ·rfl
     ·rfl
     ·rfl
     ·intro _ _ _ c hc;cases hc
     rintro _ _ ⟨b,hb,rfl,rfl⟩;refine BS ?_;refine Aj ?_;exact BD [] rfl (l':=Cy b ⟨bm,bc,ba,bh,bn,bt,bq,be,.slice (some ⟨bv,0,none⟩) C C⟩ ⟨lm,lc,la,lh,lt,lq,le,[(bv,.cells (toArray (replicate C (.int .i64 0))) 3 (0,0))]⟩ (Ji F) (X++G)) (by unfold Cy;dsimp only[CD,Ji,As.asA,pV];simp only[AM,AK];exact A8 []) (by exact Ba) ⟨b,_,_,X,rfl,⟨hM,hCo,hA,rfl,hH,gN,λn _=>by simp[Ji,As.ASt.zero],hT,hQ,λn _=>by simp[Ji,Qu.noX],hE,OwnSl.lit Af (by simp) Af,hC⟩,rfl⟩
   ·rintro _ _ ⟨bv,hbv,rfl,rfl⟩;apply CS
    ·exact AA rfl rfl (Th.new_any _)
    ·rfl
    ·rfl
    ·rfl
    ·intro _ _ _ c hc;cases hc
    rintro _ _ ⟨bt,rfl,lt,hT,rfl⟩;refine BS ?_;apply CS
    ·exact AA rfl rfl (Qu.new_any _)
    ·rfl
    ·rfl
    ·rfl
    ·intro _ _ _ c hc;cases hc
    rintro _ _ ⟨bq,rfl,lq,hQ,rfl⟩;refine BS ?_;apply CS
    ·exact AA rfl rfl (En.new_any _)
    ·rfl
    ·rfl
    ·rfl
    ·intro _ _ _ c hc;cases hc
    rintro _ _ ⟨be,rfl,le,hE,rfl⟩;refine BS ?_;apply CS
    ·exact C4 rfl
    ·rfl
    ·rfl
    ·rfl
    ·intro _ _ _ c hc;cases hc
    rintro _ _ ⟨b,hb,rfl,rfl⟩;refine BS ?_;refine Aj ?_;exact BD [] rfl (l':=Cy b ⟨bm,bc,ba,bh,bn,bt,bq,be,.slice (some ⟨bv,0,none⟩) C C⟩ ⟨lm,lc,la,lh,lt,lq,le,[(bv,.cells (toArray (replicate C (.int .i64 0))) 3 (0,0))]⟩ (Ji F) (X++G)) (by unfold Cy;dsimp only[CD,Ji,As.asA,pV];simp only[AM,AK];exact A8 []) (by exact Ba) ⟨b,_,_,X,rfl,⟨hM,hCo,hA,rfl,hH,gN,λn _=>by simp[Ji,As.ASt.zero],hT,hQ,λn _=>by simp[Ji,Qu.noX],hE,OwnSl.lit Af (by simp) Af,hC⟩,rfl⟩
  ·rintro _ _ ⟨bv,hbv,rfl,rfl⟩;apply CS
   ·exact AA rfl rfl (As.new_any _)
   ·rfl
   ·rfl
   ·rfl
   ·intro _ _ _ c hc;cases hc
   rintro _ _ ⟨bn,_,rfl,rfl⟩;refine BS ?_;apply CS
   ·exact AA rfl rfl (Th.new_any _)
   ·rfl
   ·rfl
   ·rfl
   ·intro _ _ _ c hc;cases hc
   rintro _ _ ⟨bt,rfl,lt,hT,rfl⟩;refine BS ?_;apply CS
   ·exact AA rfl rfl (Qu.new_any _)
   ·rfl
   ·rfl
   ·rfl
   ·intro _ _ _ c hc;cases hc
   rintro _ _ ⟨bq,rfl,lq,hQ,rfl⟩;refine BS ?_;apply CS
   ·exact AA rfl rfl (En.new_any _)
   ·rfl
   ·rfl
   ·rfl
   ·intro _ _ _ c hc;cases hc
   rintro _ _ ⟨be,rfl,le,hE,rfl⟩;refine BS ?_;apply CS
   ·exact C4 rfl
   ·rfl
   ·rfl
   ·rfl
   ·intro _ _ _ c hc;cases hc
   rintro _ _ ⟨b,hb,rfl,rfl⟩;refine BS ?_;refine Aj ?_;exact BD [] rfl (l':=Cy b ⟨bm,bc,ba,bh,bn,bt,bq,be,.slice (some ⟨bv,0,none⟩) C C⟩ ⟨lm,lc,la,lh,lt,lq,le,[(bv,.cells (toArray (replicate C (.int .i64 0))) 3 (0,0))]⟩ (Ji F) (X++G)) (by unfold Cy;dsimp only[CD,Ji,As.asA,pV];simp only[AM,AK];exact A8 []) (by exact Ba) ⟨b,_,_,X,rfl,⟨hM,hCo,hA,rfl,hH,gN,λn _=>by simp[Ji,As.ASt.zero],hT,hQ,λn _=>by simp[Ji,Qu.noX],hE,OwnSl.lit Af (by simp) Af,hC⟩,rfl⟩
 ·rintro _ _ ⟨bv,hbv,rfl,rfl⟩;apply CS
  ·exact AA rfl rfl (YE _)
  ·rfl
  ·rfl
  ·rfl
  ·intro _ _ _ c hc;cases hc
  rintro _ _ ⟨bh,rfl,lh,hH,rfl⟩;refine BS ?_;apply CS
  ·exact AA rfl rfl (As.new_any _)
  ·rfl
  ·rfl
  ·rfl
  ·intro _ _ _ c hc;cases hc
  rintro _ _ ⟨bn,_,rfl,rfl⟩;refine BS ?_;apply CS
  ·exact AA rfl rfl (Th.new_any _)
  ·rfl
  ·rfl
  ·rfl
  ·intro _ _ _ c hc;cases hc
  rintro _ _ ⟨bt,rfl,lt,hT,rfl⟩;refine BS ?_;apply CS
  ·exact AA rfl rfl (Qu.new_any _)
  ·rfl
  ·rfl
  ·rfl
  ·intro _ _ _ c hc;cases hc
  rintro _ _ ⟨bq,rfl,lq,hQ,rfl⟩;refine BS ?_;apply CS
  ·exact AA rfl rfl (En.new_any _)
  ·rfl
  ·rfl
  ·rfl
  ·intro _ _ _ c hc;cases hc
  rintro _ _ ⟨be,rfl,le,hE,rfl⟩;refine BS ?_;apply CS
  ·exact C4 rfl
  ·rfl
  ·rfl
  ·rfl
  ·intro _ _ _ c hc;cases hc
  rintro _ _ ⟨b,hb,rfl,rfl⟩;refine BS ?_;refine Aj ?_;exact BD [] rfl (l':=Cy b ⟨bm,bc,ba,bh,bn,bt,bq,be,.slice (some ⟨bv,0,none⟩) C C⟩ ⟨lm,lc,la,lh,lt,lq,le,[(bv,.cells (toArray (replicate C (.int .i64 0))) 3 (0,0))]⟩ (Ji F) (X++G)) (by unfold Cy;dsimp only[CD,Ji,As.asA,pV];simp only[AM,AK];exact A8 []) (by exact Ba) ⟨b,_,_,X,rfl,⟨hM,hCo,hA,rfl,hH,gN,λn _=>by simp[Ji,As.ASt.zero],hT,hQ,λn _=>by simp[Ji,Qu.noX],hE,OwnSl.lit Af (by simp) Af,hC⟩,rfl⟩
namespace En
variable{A B:List Row}{r:Row}
theorem Jf(pv:Option Addr)(t:Int)(l:Ad):Fn prog 316 [.pointer pv,.int .i64 t] l λv l'=> ∃B1 B2,v= .func (.func 358) #[] #[.pointer (some ⟨B1,0,none⟩),.pointer (some ⟨B2,0,none⟩)]/\l'=(B2,.cells #[.int .i64 t] 3 (0,0))::(B1,.cells #[.pointer pv] 160 (0,0))::l:=by refine AO func316 ntmps316 λE=>?_;refine gz ?_;refine AR (Ex rfl rfl) ?_;rintro _ _ ⟨B1,uY,rfl,rfl⟩;refine AR (Ex rfl rfl) ?_;rintro _ _ ⟨B2,hB2,rfl,rfl⟩;refine gz ?_;exact Bb .refl ⟨B1,B2,rfl,rfl⟩
theorem HR(B1 B2 b m clock:Nat)(t:Int)(rows:List Row)(lq:Ad)(hE:EB b rows m clock lq)(hn: ∀r,r∈rows->r.th.length<=1000000):
 FA prog 358 [.pointer (some ⟨B1,0,none⟩),.pointer (some ⟨B2,0,none⟩)] (λr:Row=>[.pointer (some ⟨r.pb,0,none⟩),.int .i64 (r.th.idxOf t:Nat)]) (λxs=> ∀r,r∈rows->t∈r.th->r∈xs) (λpre=> ∀r,r∈pre->r∈rows/\t∈r.th)
 (λ_ l=>(B1,.cells #[.pointer (some ⟨b,0,none⟩)] 160 (0,0))∈l/\(B2,.cells #[.int .i64 t] 3 (0,0))∈l/\ ∀c,c∈lq->c∈l):=by
 refine⟨λq I Ix G0 Ca hY l G hG h0=>?_⟩;refine AO func358 ntmps358 λE=>?_;obtain⟨Xr,UL,jL⟩:=Ca _ _ G hG h0;have zl:=jL _ hE.m1;have jJ:=jL _ hE.m2;refine gz ?_;refine AR (dd rfl jJ) ?_;rintro _ _ ⟨b0,hb0,rfl,rfl⟩;refine gz ?_;refine CF (α:=Array Nat×List Row×Ad) (λx=>[(0,.func (.yield q) #[] #[]),(1,.pointer (some ⟨B1,0,none⟩)),(2,.pointer (some ⟨B2,0,none⟩)),(13,.pointer (some ⟨b0,0,none⟩))]) (λx=>(b0,.mapIter (some m) clock x.1 clock)::(x.2.2++G)) (λx=>I x.2.1 x.2.2/\(∀r,r∈rows->r.st∈x.1.toList->t∈r.th->r∈x.2.1)/\ ∀r,r∈x.2.1->r∈rows/\t∈r.th) (λx=>(rows.filter λr=>!x.1.contains r.st).length) (#[],[],l) ⟨h0,by simp,by simp⟩ ⟨rfl,rfl,rfl,rfl,trivial⟩ .refl ?_;clear Xr UL jL zl jJ;rintro⟨seen,pre,l⟩ ⟨hI,hse,Gg⟩;simp only at hI hse Gg⊢;obtain⟨Xr,UL,jL⟩:=Ca _ _ G hG hI;have jJ:=jL _ hE.m2;refine gz ?_;refine AR (ko rfl jJ (λe he=>by rw[Au] at he;obtain⟨r,hr,rfl⟩:=he;exact hE.st r hr) (Bd _)) ?_;rintro _ _ (⟨rfl,rfl,Gv⟩|⟨e,he,uX,rfl,rfl⟩)
 ·refine gz ?_;refine Bb (.drop .refl) ⟨l,rfl,.inl ⟨pre,λr hr ht=>hse r hr (Gv _ (Au.2 ⟨r,hr,rfl⟩)) ht,hI⟩⟩
 ·rw[Au] at he;obtain⟨r,hr,rfl⟩:=he;have KP:((rows.map Row.ent).map (·.2.2)).Nodup:=by rw[CR];exact hE.nd
  have Mk:r.ent∈rows.map Row.ent:=Au.2 ⟨r,hr,rfl⟩;have R9:r.bl∈l++G:=jL _ (hE.m3 hr (.head _));have tk:(rows.filter λr'=>!(seen.push r.ent.2.2).contains r'.st).length<(rows.filter λr'=>!seen.contains r'.st).length:=by
   refine Vz (λx hx=>?_) hr ?_ ?_
   ·simp only[Ef,Array.contains_push,Bool.or_eq_false_iff] at hx⊢;simp at hx⊢;exact hx.1
   ·have AcL:r.st∉seen.toList:=uX;simpa using AcL
   ·simp[Row.ent]
  have zm: ∀(ps:List Row),(∀x,x∈pre->x∈ps)->(t∈r.th->r∈ps)-> ∀r',r'∈rows->r'.st∈(seen.push r.ent.2.2).toList->t∈r'.th->r'∈ps:=λps h1 h2 r' UH hs' ht'=>by
   rw[Ln,AH] at hs';rcases hs' with hs'|hs'
   ·exact h1 _ (hse r' UH hs' ht')
   ·have e1:r'.st=r.st:=by simpa[Row.ent] using hs'
    have:r'=r:=Tu hE.nd UH hr e1;subst this;exact h2 ht'
  refine gz ?_;refine Be (de rfl (.head _) (.tail _ jJ) Mk KP) ?_;refine gz ?_;refine Cn [] 7 _ ?_ (hR:=(λ_ h=>h));refine pz ?_;refine Z3 (AL rfl rfl (λl2 hl=>Qu.index_any r.v r.th t l2 (hE.ints hr λc hc=>hl c (.tail _ (jL c hc))) (hn r hr))) rfl rfl rfl ?_;by_cases NO:t∈r.th
  ·rw[show Qu.indexI r.th t=((r.th.idxOf t:Nat):Int) from Ac NO];have hy:=hY pre r l ((b0,.mapIter (some m) clock (seen.push r.ent.2.2) clock)::G) (λc hc=> .tail _ (hG c hc)) hI (λr' UH=>by
    rcases AH.1 UH with h|h
    ·exact Gg r' h
    ·rw[AE.1 h];exact⟨hr,NO⟩)
   refine pz ?_;refine gz ?_;refine Bq (Keep.of_perm AI.symm) ?_;refine AR (C0 rfl rfl hy) ?_;rintro v l' ⟨l1,rfl,⟨rfl,Lg⟩|⟨rfl,hx⟩⟩
   ·refine gz ?_;refine BR (seen.push r.ent.2.2,pre++[r],l1) ⟨Lg,zm _ (λx hx=>Ai _ hx) λ_=>Aa _ Ak,λr' UH=>?_⟩ tk ⟨rfl,rfl,rfl,rfl,trivial⟩ (.of_perm AI);rcases AH.1 UH with h|h
    ·exact Gg r' h
    ·rw[AE.1 h];exact⟨hr,NO⟩
   ·refine gz ?_;refine Bb (Keep.trans (.of_perm AI) (.drop .refl)) ⟨l1,rfl,.inr ⟨_,λr' UH=>?_,hx⟩⟩;rcases AH.1 UH with h|h
    ·exact Gg r' h
    ·rw[AE.1 h];exact⟨hr,NO⟩
  ·rw[show Qu.indexI r.th t= -1 from Ab NO];refine pz ?_;refine gz ?_;exact BR (seen.push r.ent.2.2,pre,l) ⟨hI,zm _ (λx hx=>hx) λh=>absurd h NO,Gg⟩ tk ⟨rfl,rfl,rfl,rfl,trivial⟩ .refl
theorem clone_any(v:Value)(xs:A4)(cs l:Ad)(ho:OwnSl 3 1 v xs.length (xs.map CN) cs)(hs: ∀c,c∈cs->c∈l)(hx:xs.length<=1000000):
 Fn prog 53 [v] l λr l'=> ∃c2,OwnSl 3 1 r xs.length (xs.map CN) c2/\l'=c2++l:=by
 obtain⟨Ei,h⟩:=ho;refine AO func53 ntmps53 λE=>?_;rcases h with⟨rfl,h0,rfl⟩|⟨gb,cap,sp,rfl,rfl,fD,UK,Nu⟩
 ·refine gz ?_;refine Bb .refl ?_;exact⟨[],⟨Ei,.inl ⟨rfl,h0,rfl⟩⟩,rfl⟩
 ·have hg:=hs _ Ak;refine gz ?_;refine AR kq ?_;rintro _ _ ⟨bl,R9,rfl,rfl⟩;refine gz ?_;apply jp
  ·apply Gy (e:=3) (k:=1) (xs:=[]) (cs:=[(bl,.cells #[] 3 (0,0))]) (F:=l) (news:=xs.map CN) (zs:=[.int .i64 0]) (cl:=toArray (xs.map CN++sp))
   ·rfl
   ·rfl
   ·rfl
   ·exact OwnSl.empty
   ·exact .tail _ hg
   ·intro j u hj;have Dc:=(Ay.1 hj).1;rw[BE,AF,AB Dc];exact hj
   ·simp
   ·intro u hu;rw[Au] at hu;obtain⟨a,_,rfl⟩:=hu;rfl
   ·unfold maxLen;omega
   ·omega
  ·rfl
  ·rfl
  ·rfl
  rintro v' _ ⟨c2,FK,rfl⟩;rw[Ag,BE] at FK;refine gz ?_;refine Bb .refl ?_;exact⟨c2,FK,rfl⟩
theorem aC{rows:List Row}(e:rows=A++r::B)(hA: ∀x,x∈A->x.id≠r.id):(rows.map Row.d).eraseP (λx=>x.1==r.id)=(A++B).map Row.d:=by
 rw[e,Aq,Aq,AJ,List.eraseP_append_right _ λx hx=>by rw[Au] at hx;obtain⟨y,hy,rfl⟩:=hx;simpa[Row.d] using hA y hy]
 rw[List.eraseP_cons_of_pos (by simp[Row.d])]
theorem EB.erase{b:Nat}{m clock:Nat}{lq:Ad}(h:EB b (A++r::B) m clock lq):EB b (A++B) m clock (Q8 b m::(m,FU .i64 ((A++B).map Row.ent) clock)::(A++B).flatMap Row.ch):=by have hs:(A++B).Sublist (A++r::B):=Ge (D8 _ _) _;exact⟨rfl,λx hx=>h.own x (hs.subset hx),λx hx=>h.st x (hs.subset hx),h.nd.sublist (hs.map _),h.ids.sublist (hs.map _)⟩
theorem drop_any(b:Nat)(D:DE)(lq:Ad)(id:Int)(hq:IsE b D lq)(F:Ad):
 Fn prog 368 [.pointer (some ⟨b,0,none⟩),.int .i64 id] (lq++F) λv l'=> ∃sl cs,v= .tuple #[sl,.int .i64 (dropD D id).2.1]/\OwnSl 3 1 sl (dropD D id).1.length ((dropD D id).1.map CN) cs/\ ∃DD,IsE b (dropD D id).2.2 DD/\l'=cs++(DD++F):=by
 obtain⟨rows,m,clock,rfl,hE⟩:=hq;refine AO func368 ntmps368 λE=>?_;have pJ:=hE.eq;by_cases h1: ∃r,r∈rows/\r.id=id
 ·obtain⟨r,hr,rfl⟩:=h1;have hg:=OO hE.ids hr;obtain⟨A,B,rfl,hA,hB⟩:=hE.split hr;rw[show dropD ((A++r::B).map Row.d) r.id=(r.th,0,(A++B).map Row.d) by unfold dropD;rw[KW hE.ids hr];simp only;rw[aC rfl hA]];have ho:=hE.own r hr;have Ju:=ho.one;have AcM:Py r.id ((A++r::B).map Row.ent)=(A++B).map Row.ent:=by
   rw[Aq,Aq,AJ];exact kP _ _ λx hx=>by rw[Au] at hx;obtain⟨y,hy,rfl⟩:=hx;exact hA y hy
  have R9: ∀o:Obj,r.bl∈Q8 b m::(m,o)::((A++r::B).flatMap Row.ch++F):=λo=> .tail _ (.tail _ (Ai _ (JB.2 ⟨r,hr,.head _⟩)));rw[pJ];simp only[Ae];refine gz ?_;rw[hg];refine gz ?_;refine ME (Tf rfl rfl (by exact DX)) rfl rfl ?_;rintro _ _ ⟨rfl,rfl⟩;rw[AcM];have u5:=R9 (FU .i64 ((A++B).map Row.ent) clock);refine gz ?_;refine Be (DP rfl u5 rfl) ?_;refine gz ?_;refine Bb (l':=r.cs++((Q8 b m::(m,FU .i64 ((A++B).map Row.ent) clock)::(A++B).flatMap Row.ch)++F)) ?_ ⟨r.v,r.cs,rfl,ho,_,⟨A++B,m,clock,rfl,hE.erase⟩,rfl⟩;rw[Ed,Cw,Ed];refine⟨[r.bl],?_⟩;show List.Perm (Q8 b m::(m,_)::((A.flatMap Row.ch++((r.bl::r.cs)++B.flatMap Row.ch))++F)) (r.bl::(r.cs++(Q8 b m::(m,_)::((A.flatMap Row.ch++B.flatMap Row.ch)++F))));have p1:(A.flatMap Row.ch++((r.bl::r.cs)++B.flatMap Row.ch)).Perm (r.bl::(r.cs++(A.flatMap Row.ch++B.flatMap Row.ch))):=by have:=Az (A.flatMap Row.ch) (r.bl::r.cs) (B.flatMap Row.ch);simpa using this
  refine(((p1.append_right F).cons _).cons _).trans ?_;refine((Az [Q8 b m,(m,FU .i64 ((A++B).map Row.ent) clock)] [r.bl] (r.cs++(A.flatMap Row.ch++B.flatMap Row.ch)++F))).trans ?_;refine List.Perm.cons _ ?_;rw[Am];exact Az [Q8 b m,(m,FU .i64 ((A++B).map Row.ent) clock)] r.cs _
 ·have I8: ∀r,r∈rows->r.id≠id:=λr hr e=>h1 ⟨r,hr,e⟩;have hg:=ON I8;rw[show dropD (rows.map Row.d) id=([],2,rows.map Row.d) by unfold dropD;rw[MY I8]];rw[pJ];simp only[Ae];refine gz ?_;rw[hg];refine gz ?_;refine BD [] rfl .refl (by exact Ba) ⟨_,[],rfl,OwnSl.nil _ _,_,⟨rows,m,clock,rfl,hE⟩,by rw[pJ];rfl⟩
theorem list_any(b:Nat)(D:DE)(lq:Ad)(id:Int)(hq:IsE b D lq)(hn: ∀x,x∈D->x.2.1.length<=1000000)(l:Ad)(CE: ∀c,c∈lq->c∈l):
 Fn prog 317 [.pointer (some ⟨b,0,none⟩),.int .i64 id] l λv l'=> ∃sl cs,v= .tuple #[sl,.bool (listD D id).2]/\OwnSl 3 1 sl (listD D id).1.length ((listD D id).1.map CN) cs/\l'=cs++l:=by
 obtain⟨rows,m,clock,rfl,hE⟩:=hq;have Xr:=CE _ hE.m1;have UL:=CE _ hE.m2;refine AO func317 ntmps317 λE=>?_;by_cases h1: ∃r,r∈rows/\r.id=id
 ·obtain⟨r,hr,rfl⟩:=h1;have hg:=OO hE.ids hr;have ho:=hE.own r hr;have R9:=CE _ (hE.m3 hr (.head _));have Ei:=hn r.d (Au.2 ⟨r,hr,rfl⟩);simp only[Row.d] at Ei;have Nu:=clone_any r.v r.th r.cs l ho (λc hc=>CE c (hE.m3 hr (.tail _ hc))) Ei;obtain⟨pv,cap,hv⟩:=ho.shape;rw[hv] at Nu;have Af5:(r.pb,Obj.cells (toArray [.slice pv r.th.length cap,.bool r.sd]) 353 (0,0))∈l:=by rw[<-hv];exact R9
  clear R9;by_cases h0:r.th.length=0
  ·rw[show listD (rows.map Row.d) r.id=([],false) by unfold listD;rw[KW hE.ids hr];simp only;rw[Ac h0]];refine gz ?_;rw[hg];refine gz ?_;rw[hg];refine gz ?_;refine Bb .refl ⟨_,[],rfl,OwnSl.nil _ _,rfl⟩
  ·rw[show listD (rows.map Row.d) r.id=(r.th,r.sd) by unfold listD;rw[KW hE.ids hr];simp only;rw[Ab h0]];refine gz ?_;rw[hg];refine gz ?_;rw[hg];refine gz ?_;refine LV [(0,true),(1,true),(2,true),(3,true),(4,true),(5,true),(6,true),(7,true),(8,true),(10,true),(11,true),(12,true),(13,true),(14,true),(15,true),(16,true),(17,true),(18,true),(9,false),(19,true),(20,true)] [[],[0],[0,1],[0,1,2],[],[0,1,2,3,4],[0,1,2,3,4,5],[0,1,2,3,4,5,6],[0,1,2,3,4,5,6,7],[0,1,2,3,4,5,6,7,8],[],[10],[10,11],[10,11,12],[],[10,11,12,13,14],[10,11,12,13,14,15],[10,11,12,13,14,15,16],[10,11,12,13,14,15,16,17],[0,1,2,3,4,5,6,7,8,9],[0,1,2,3,4,5,6,7,8,9,10,11,12,13,14,15,16,17,18,19]] _ BB BB GZ (λ_ h=>h) ?_;refine pz ?_;rw[hg];refine pz ?_;rw[hg];refine pz ?_;apply CS
   ·exact Dn rfl rfl Nu
   ·rfl
   ·rfl
   ·rfl
   ·rintro _ _ ⟨c2,_,rfl⟩ c hc;exact Aa _ hc
   rintro v _ ⟨c2,FK,rfl⟩;refine pz ?_;refine gz ?_;refine Bb .refl ⟨v,c2,rfl,FK,rfl⟩
 ·have I8: ∀r,r∈rows->r.id≠id:=λr hr e=>h1 ⟨r,hr,e⟩;have hg:=ON I8;rw[show listD (rows.map Row.d) id=([],false) by unfold listD;rw[MY I8]];refine gz ?_;rw[hg];refine gz ?_;refine Bb .refl ⟨_,[],rfl,OwnSl.nil _ _,rfl⟩
def firstD(D:DE)(id:Int):Int×Bool×Bool:=match(listD D id).1 with
 |x::_=>(x,(listD D id).2,true)
 |[]=>(0,false,false)
theorem first_any(b:Nat)(D:DE)(lq:Ad)(id:Int)(hq:IsE b D lq)(hn: ∀x,x∈D->x.2.1.length<=1000000)(l:Ad)(CE: ∀c,c∈lq->c∈l):
 Fn prog 263 [.pointer (some ⟨b,0,none⟩),.int .i64 id] l λv l'=>v= .tuple #[.int .i64 (firstD D id).1,.bool (firstD D id).2.1,.bool (firstD D id).2.2]/\ ∃cs,l'=cs++l:=by
 have H:=list_any b D lq id hq hn l CE;unfold firstD;obtain⟨⟨xs,s⟩,hx⟩: ∃x,listD D id=x:=⟨_,rfl⟩
 rw[hx] at H⊢;dsimp only at H⊢;refine AO func263 ntmps263 λE=>?_;refine gz ?_;refine AR (Dn rfl rfl H) ?_;rintro _ _ ⟨sl,cs,rfl,ho,rfl⟩;cases xs with
 |nil=>obtain⟨pv,cap,rfl⟩:=ho.shape;simp only[Ff];refine gz ?_;exact Bb .refl ⟨rfl,cs,rfl⟩
 |cons x r=>obtain⟨pv,cap,rfl,hI⟩:=ho.intsQ (l:=cs++l) λc hc=>Ai _ hc;obtain⟨gb,off,cc,t,fz,rfl,pL,hcc⟩:=hI (by simp);have g0:=hcc 0 x rfl;have Ei:(x::r).length=r.length+1:=rfl;refine gz ?_;refine Be (DP (cs:=cc) rfl pL (by simpa using g0)) ?_;refine gz ?_;exact Bb .refl ⟨rfl,cs,rfl⟩
end En
end Go.Proofs.YtlifcingifodfaaGreat
