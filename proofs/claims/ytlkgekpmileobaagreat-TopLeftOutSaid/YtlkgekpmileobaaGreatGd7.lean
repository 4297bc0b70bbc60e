/- Laws that the statement's proof leans on (joined out of several texts). -/
import Derived.Test.YtlkgekpmileobaaGreatGd6
set_option maxHeartbeats 4000000
set_option linter.unusedVariables false
set_option linter.unusedSimpArgs false
namespace Go.Proofs.YtlkgekpmileobaaGreat
open Tryz
open List(toArray replicate)
namespace Th
open Go.RowKit
set_option maxRecDepth 20000
variable{L:TL}{xs:List Int}{id:Int}
theorem XB.sorted{es:List KB}{clock:Nat}(h:XB L es clock)(hx:xs.Perm (es.map (·.1))):Ti xs=L.map ThT.id:=by
 have h1:(Ti xs).Perm (L.map ThT.id):=(List.mergeSort_perm ..).trans (hx.trans h.keys);have h2:(Ti xs).Pairwise (λx y=>x<=y):=by have:=List.pairwise_mergeSort (le:=λx y:Int=>decide (x<=y)) (λa b c h1 h2=>by simp at*;omega) (λa b=>by simp;omega) xs;exact this.imp λh=>by simpa using h
 have h3:(L.map ThT.id).Pairwise (λx y=>x<=y):=Cp.2 (h.asc.imp λhxy=>by omega);exact h1.eq_of_pairwise (λa b _ _ h1 h2=>by omega) h2 h3
theorem OwnSl.ints{e:Nat}{v:Value}{cs l:List Ab}(h:OwnSl e 1 v xs.length (xs.map LZ) cs)(hs: ∀c,c∈cs->c∈l): ∃p cap,v= .slice p xs.length cap/\(0<xs.length-> ∃b cl t fz,p=some ⟨b,0,none⟩/\(b,Obj.cells cl t fz)∈l/\ ∀i x,xs[i]?=some x->cl[i*1]?=some (.int .i64 x)):=by
 rcases h.2 with⟨rfl,h0,rfl⟩|⟨b,cap,sp,rfl,rfl,_⟩
 ·exact⟨none,0,by rw[h0],λh=>by omega⟩
 ·refine⟨_,cap,rfl,λh0=>⟨b,_,e,(0,0),rfl,hs _ Ak,λi x hx=>?_⟩⟩;have hlt:=(Ay.1 hx).1;rw[Df,AC,AF (by simpa using hlt),A0,hx];rfl
theorem Hn(B b:Nat)(L:TL)(lq:List Ab)(hq:IsX b L lq)(hn:L.length<=900000):
 Fa prog 174 [.pointer (some ⟨B,0,none⟩)] (λt:ThT=>[thV t]) (λxs=>xs=L) (λpre=>pre<+:L)
  (λ_ l=>xB B (.pointer (some ⟨b,0,none⟩))∈l/\ ∀c,c∈lq->c∈l):=by
 refine⟨λr I Ix G0 hneed hY l G hG h0=>?_⟩;obtain⟨m,es,clock,rfl,hX⟩:=hq;obtain⟨n1,n2⟩:=hneed _ _ G hG h0;have n3:=n2 _ (.head _);have n4:=n2 _ (.tail _ (.head _));refine AM func174 ntmps174 λE=>?_;refine gz ?_;refine AP (Az rfl rfl (RS (some m) _)) ?_;rintro _ _ ⟨B',rfl,rfl⟩;refine gz ?_;refine AP (Az rfl rfl (Nm B' m clock es hX.ok.stamps hX.ok.below (by rw[hX.len];exact hn) _ (.head _) (.tail _ n4))) ?_;rintro v _ ⟨xs,cs,hxs,ho,rfl⟩;rw[hX.sorted hxs] at ho;have hv1:v.oneCell'=true:=ho.one;obtain⟨p,cap,rfl,hR⟩:=OwnSl.ints ho (l:=cs) λc hc=>hc;have hlen:(L.map ThT.id).length=L.length:=A3 ..;refine gz ?_;refine CE (α:=Nat×List Ab) (λx=>[(0,.func (.yield r) #[] #[]),(1,.pointer (some ⟨B,0,none⟩)),(12,.slice p (L.map ThT.id).length cap),(13,.int .i64 (L.map ThT.id).length),(14,.int .i64 x.1)]) (λx=>x.2++(cs++G)) (λx=>x.1<=L.length/\I (L.take x.1) x.2) (λx=>L.length-x.1) (0,l) ⟨Bl _,h0⟩ ⟨rfl,rfl,rfl,rfl,rfl,trivial⟩ ?_ ?_
 ·exact Keep.trans (Keep.in_mid cs [_] (l++G)) (.drop (Keep.in_mid cs l G))
 clear n1 n2 n3 n4;rintro⟨k,l⟩ ⟨hk,hI⟩;simp only at hk hI⊢;obtain⟨n1,n2⟩:=hneed _ _ (cs++G) (λc hc=>Aa _ (hG c hc)) hI;have n3:=n2 _ (.head _);have n4:=n2 _ (.tail _ (.head _));by_cases hlt:k<L.length
 ·obtain⟨b9,cl,t9,fz,rfl,hmc,hcl⟩:=hR Af;have hm':(b9,Obj.cells cl t9 fz)∈l++(cs++G):=Aa _ (Ah _ hmc);obtain⟨t,ht⟩: ∃t,L[k]?=some t:=⟨_,Al hlt⟩
  have hc:=hcl k t.id (by rw[A0,ht];rfl);have htk:L.take (k+1)=L.take k++[t]:=by rw[Cg,ht];rfl
  have hlk:(KC t.id es).getD (thV thZ)=thV t:=by rw[hX.look,hX.at_ (A6 ht)];rfl
  refine gz ?_;rw[hlk];have hy:=hY (L.take k) t l (cs++G) (λc hc=>Aa _ (hG c hc)) hI (by rw[<-htk];exact BE _ _);refine AP (CQ rfl rfl hy) ?_;rintro v l' ⟨l1,rfl,⟨rfl,hI'⟩|⟨rfl,hx⟩⟩
  ·refine gz ?_;exact BV (k+1,l1) ⟨by simp only;omega,by simp only;rw[htk];exact hI'⟩ (by simp only;omega) ⟨rfl,rfl,rfl,rfl,rfl,trivial⟩ .refl
  ·refine gz ?_;exact BA [] rfl (Keep.trans (Keep.in_mid l1 cs G) (Keep.dropL cs .refl)) (by exact A8) ⟨l1,rfl,.inr ⟨_,by rw[<-htk];exact BE _ _,hx⟩⟩
 ·obtain rfl:k=L.length:=by omega
  rw[Ed] at hI;refine gz ?_;exact A9 (Keep.trans (Keep.in_mid l cs G) (Keep.dropL cs .refl)) ⟨l,rfl,.inl ⟨_,rfl,hI⟩⟩
theorem all_any(b:Nat)(L:TL)(lq:List Ab)(hq:IsX b L lq)(hn:L.length<=900000)(l:List Ab)(hsub: ∀c,c∈lq->c∈l):
 Fn prog 77 [.pointer (some ⟨b,0,none⟩)] l λv l'=> ∃cs,OwnSl 79 24 v L.length (thcs L) cs/\l'=cs++l:=by
 refine AM func77 ntmps77 λE=>?_;refine gz ?_;refine AP (Az rfl rfl (IL _ rfl _)) ?_;rintro _ _ ⟨B,rfl,rfl⟩;refine gz ?_;refine AP (Az rfl rfl (U5 174 [.pointer (some ⟨B,0,none⟩)] _ _ _ (Hn B b L lq hq hn) L.length (λpre h=>h.length_le) hn _ λ_ l2 hl=>⟨hl _ (.head _),λc hc=>hl _ (.tail _ (hsub c hc))⟩)) ?_;rintro v _ ⟨_,cs,rfl,ho,rfl⟩;have hv1:v.oneCell'=true:=ho.one;refine gz ?_;refine A9 (l':=cs++l) (Keep.trans (.of_perm AH) (.drop .refl)) ?_;exact⟨cs,ho,rfl⟩
theorem ij{pre:TL}{t:ThT}(hL:pre++[t]<+:L)(h0:id≠0)(hp: ∀x,x∈pre->¬x.ca=id)(ht:t.ca=id):serverD L id=t.id:=by unfold serverD;rw[Ac h0];obtain⟨r,rfl⟩:=hL;rw[Am,E2,By.2 λx hx=>by simpa using hp x hx];rw[Option.none_or,Cb,BB,At ht]
theorem cL(hp: ∀x,x∈L->¬(id≠0/\x.ca=id)):serverD L id=0:=by
 unfold serverD;by_cases h0:id=0
 ·rw[Ad h0]
 ·rw[Ac h0,By.2 λx hx=>by simpa using λh=>hp x hx ⟨h0,h⟩]
end Th
open Go.RowKit
set_option maxRecDepth 20000
structure RT where
 A:Ar.ArT
 H:HS
 N:As.ASt
 T:Th.TL
 Q:Nat->List Int
 E:En.DE
structure RP where
 m:Nat
 c:Nat
 a:Nat
 h:Nat
 n:Nat
 t:Nat
 q:Nat
 e:Nat
 v:Value
structure RL where
 M:List Ab
 C:List Ab
 A:List Ab
 H:List Ab
 T:List Ab
 Q:List Ab
 E:List Ab
 V:List Ab
abbrev Cw(b:Nat)(p:RP):Ab:=(b,.cells (toArray [pV p.m,pV p.c,pV p.a,pV p.h,pV p.n,pV p.t,pV p.q,pV p.e,p.v]) 163 (0,0))
def Ct(b:Nat)(p:RP)(s:RL)(R:RT)(G:List Ab):List Ab:=Cw b p::As.asA p.n R.N::(s.M++(s.C++(s.A++(s.H++(s.T++(s.Q++(s.E++(s.V++G))))))))
structure IsRl(F C k:Nat)(R:RT)(p:RP)(s:RL):Prop where
 mem:wA p.m F s.M
 co:tS p.c C s.C
 ar:Ar.IsA p.a R.A s.A
 an:R.A.n=F
 ho:IsH p.h R.H s.H
 inv:InvH R.H k
 giv: ∀n,n<32->0<=R.N.given n/\R.N.given n<=k
 th:Th.IsX p.t R.T s.T
 qu:Qu.IsQ p.q R.Q s.Q
 ql: ∀n,n<8->(R.Q n).length<=k
 en:En.IsE p.e R.E s.E
 cu:OwnSl 3 1 p.v C (replicate C (.int .i64 0)) s.V
 c1:1<=C/\C<=3
def IO(F:Nat):RT:=⟨⟨F,λ_=>0,[]⟩,([],[]),As.ASt.zero,[],Qu.noX,[]⟩
theorem LH(z:Value)(n:Nat):replicate n z=(replicate n [z]).flatten:=by
 induction n with
 |zero=>rfl
 |succ n ih=>rw[BG,BG,Cq,<-ih];rfl
theorem qD(s:Ce):Fi [] s=false:=by
 unfold Fi IY;rw[show DP Prod.fst ([]:SD) s.1=none from rfl];by_cases h:0<=s.2
 ·rw[At h,Av (by simp only;omega)];rfl
 ·rw[Av h];rfl
theorem cM:InvH ([],[]) 0:=
 ⟨.none,List.Pairwise.nil,λx hx=>absurd hx (by simp),λs=>⟨λh=>absurd h (by rw[Tr.hasD_no.2 λx hx=>absurd hx (by simp)];decide),λh=>absurd h.1 (by rw[qD];decide)⟩,by simp⟩
theorem ik(F C:Nat)(hF:1<=F/\F<=64)(hC:1<=C/\C<=3)(G:List Ab):Fn prog 90 [.int .i64 (F:Nat),.int .i64 (C:Nat)] G λv l'=> ∃b p s X,v= .tuple #[pV b,.int .i64 0]/\IsRl F C 0 (IO F) p s/\l'=Ct b p s (IO F) (X++G):=by
 refine AM func90 ntmps90 λE=>?_;refine Aj ?_;refine AP (Az rfl rfl (f9 F hF.1 hF.2 _)) ?_;rintro _ _ ⟨bm,rfl,lm,hM,rfl⟩;refine Aj ?_;refine AP (Az rfl rfl (gc C hC.1 hC.2 _)) ?_;rintro _ _ ⟨bc,rfl,lc,X,hCo,rfl⟩;refine Aj ?_;refine AP (Az rfl rfl (Ar.new_any F _)) ?_;rintro _ _ (⟨h,_⟩|⟨_,ba,la,rfl,hA,rfl⟩)
 ·exact absurd ⟨Af,Af⟩ h
 refine Aj ?_;refine QC [(0,true),(1,true),(2,true),(8,true),(3,false),(4,false),(5,false),(6,false),(7,false),(9,false),(10,true),(11,false),(12,true),(13,true)] [[],[],[],[],[3],[3,4],[3,4,5],[3,4,5,6],[],[8],[0,1,2,3,4,5,6,7,8,9],[0,1,2,3,4,5,6,7,8,9,10],[0,1,2,3,4,5,6,7,8,9,10,11],[0,1,2,3,4,5,6,7,8,9,10,11,12]] (some [(3,9),(4,9),(5,9),(6,9),(7,9)]) ([]) Bs Bs Gt SY ?_;refine BM ?_;apply Ru [(3,false),(4,false),(5,false),(6,false),(7,false),(9,false),(10,true),(11,false),(12,true),(13,true)] [(9,false),(3,false),(4,false),(5,false),(6,false),(7,false),(10,true),(11,false),(12,true),(13,true)] 3 9 (some [(4,9),(5,9),(6,9),(7,9)]) none
 ·exact Gt
 ·exact Gt
 ·exact((List.Perm.swap _ _ _).trans (List.Perm.cons _ ((List.Perm.swap _ _ _).trans (List.Perm.cons _ ((List.Perm.swap _ _ _).trans (List.Perm.cons _ ((List.Perm.swap _ _ _).trans (List.Perm.cons _ (List.Perm.swap _ _ _)))))))))
 ·kernel_rfl
 ·exact Az rfl rfl (WD _)
 ·rfl
 ·rfl
 ·intro _ _ _ c hc;cases hc
 ·intro _ _ _ x hx;cases hx
 ·exact FG (n:=C) (kk:=1) (zs:=[.int .i64 0]) (xs:=replicate C (.int .i64 0)) rfl rfl Af Af AX (LH _ _)
 ·rfl
 ·rfl
 ·intro _ _ _ c hc;cases hc
 ·intro _ _ _ x hx;cases hx
 ·rintro _ _ ⟨bh,rfl,lh,hH,rfl⟩;apply Ru [(4,false),(5,false),(6,false),(7,false),(9,false),(10,true),(11,false),(12,true),(13,true)] [(9,false),(4,false),(5,false),(6,false),(7,false),(10,true),(11,false),(12,true),(13,true)] 4 9 (some [(5,9),(6,9),(7,9)]) none
  ·exact Gt
  ·exact Gt
  ·exact((List.Perm.swap _ _ _).trans (List.Perm.cons _ ((List.Perm.swap _ _ _).trans (List.Perm.cons _ ((List.Perm.swap _ _ _).trans (List.Perm.cons _ (List.Perm.swap _ _ _)))))))
  ·kernel_rfl
  ·exact Az rfl rfl (As.new_any _)
  ·rfl
  ·rfl
  ·intro _ _ _ c hc;cases hc
  ·intro _ _ _ x hx;cases hx
  ·exact FG (n:=C) (kk:=1) (zs:=[.int .i64 0]) (xs:=replicate C (.int .i64 0)) rfl rfl Af Af AX (LH _ _)
  ·rfl
  ·rfl
  ·intro _ _ _ c hc;cases hc
  ·intro _ _ _ x hx;cases hx
  ·rintro _ _ ⟨bn,_,rfl,rfl⟩;apply Ru [(5,false),(6,false),(7,false),(9,false),(10,true),(11,false),(12,true),(13,true)] [(9,false),(5,false),(6,false),(7,false),(10,true),(11,false),(12,true),(13,true)] 5 9 (some [(6,9),(7,9)]) none
   ·exact Gt
   ·exact Gt
   ·exact((List.Perm.swap _ _ _).trans (List.Perm.cons _ ((List.Perm.swap _ _ _).trans (List.Perm.cons _ (List.Perm.swap _ _ _)))))
   ·kernel_rfl
   ·exact Az rfl rfl (Th.new_any _)
   ·rfl
   ·rfl
   ·intro _ _ _ c hc;cases hc
   ·intro _ _ _ x hx;cases hx
   ·exact FG (n:=C) (kk:=1) (zs:=[.int .i64 0]) (xs:=replicate C (.int .i64 0)) rfl rfl Af Af AX (LH _ _)
   ·rfl
   ·rfl
   ·intro _ _ _ c hc;cases hc
   ·intro _ _ _ x hx;cases hx
   ·rintro _ _ ⟨bt,rfl,lt,hT,rfl⟩;apply Ru [(6,false),(7,false),(9,false),(10,true),(11,false),(12,true),(13,true)] [(9,false),(6,false),(7,false),(10,true),(11,false),(12,true),(13,true)] 6 9 (some [(7,9)]) none
    ·exact Gt
    ·exact Gt
    ·exact((List.Perm.swap _ _ _).trans (List.Perm.cons _ (List.Perm.swap _ _ _)))
    ·kernel_rfl
    ·exact Az rfl rfl (Qu.new_any _)
    ·rfl
    ·rfl
    ·intro _ _ _ c hc;cases hc
    ·intro _ _ _ x hx;cases hx
    ·exact FG (n:=C) (kk:=1) (zs:=[.int .i64 0]) (xs:=replicate C (.int .i64 0)) rfl rfl Af Af AX (LH _ _)
    ·rfl
    ·rfl
    ·intro _ _ _ c hc;cases hc
    ·intro _ _ _ x hx;cases hx
    ·rintro _ _ ⟨bq,rfl,lq,hQ,rfl⟩;apply Ru [(7,false),(9,false),(10,true),(11,false),(12,true),(13,true)] [(9,false),(7,false),(10,true),(11,false),(12,true),(13,true)] 7 9 none none
     ·exact Gt
     ·exact Gt
     ·exact(List.Perm.swap _ _ _)
     ·kernel_rfl
     ·exact Az rfl rfl (En.new_any _)
     ·rfl
     ·rfl
     ·intro _ _ _ c hc;cases hc
     ·intro _ _ _ x hx;cases hx
     ·exact FG (n:=C) (kk:=1) (zs:=[.int .i64 0]) (xs:=replicate C (.int .i64 0)) rfl rfl Af Af AX (LH _ _)
     ·rfl
     ·rfl
     ·intro _ _ _ c hc;cases hc
     ·intro _ _ _ x hx;cases hx
     ·rintro _ _ ⟨be,rfl,le,hE,rfl⟩;apply CM
      ·exact FG (n:=C) (kk:=1) (zs:=[.int .i64 0]) (xs:=replicate C (.int .i64 0)) rfl rfl Af Af AX (LH _ _)
      ·rfl
      ·rfl
      ·rfl
      ·intro _ _ _ c hc;cases hc
      rintro _ _ ⟨bv,hbv,rfl,rfl⟩;refine BM ?_;apply CM
      ·exact CK rfl
      ·rfl
      ·rfl
      ·rfl
      ·intro _ _ _ c hc;cases hc
      rintro _ _ ⟨b,hb,rfl,rfl⟩;refine BM ?_;refine Aj ?_;exact BA [] rfl (l':=Ct b ⟨bm,bc,ba,bh,bn,bt,bq,be,.slice (some ⟨bv,0,none⟩) C C⟩ ⟨lm,lc,la,lh,lt,lq,le,[(bv,.cells (toArray (replicate C (.int .i64 0))) 3 (0,0))]⟩ (IO F) (X++G)) (by unfold Ct;dsimp only[Cw,IO,As.asA,pV];simp only[AL,AK];exact A4 []) (by exact A8) ⟨b,_,_,X,rfl,⟨hM,hCo,hA,rfl,hH,cM,λn _=>by simp[IO,As.ASt.zero],hT,hQ,λn _=>by simp[IO,Qu.noX],hE,OwnSl.lit Af (by simp) Af,hC⟩,rfl⟩
     ·rintro _ _ ⟨bv,hbv,rfl,rfl⟩;apply CM
      ·exact Az rfl rfl (En.new_any _)
      ·rfl
      ·rfl
      ·rfl
      ·intro _ _ _ c hc;cases hc
      rintro _ _ ⟨be,rfl,le,hE,rfl⟩;refine BM ?_;apply CM
      ·exact CK rfl
      ·rfl
      ·rfl
      ·rfl
      ·intro _ _ _ c hc;cases hc
      rintro _ _ ⟨b,hb,rfl,rfl⟩;refine BM ?_;refine Aj ?_;exact BA [] rfl (l':=Ct b ⟨bm,bc,ba,bh,bn,bt,bq,be,.slice (some ⟨bv,0,none⟩) C C⟩ ⟨lm,lc,la,lh,lt,lq,le,[(bv,.cells (toArray (replicate C (.int .i64 0))) 3 (0,0))]⟩ (IO F) (X++G)) (by unfold Ct;dsimp only[Cw,IO,As.asA,pV];simp only[AL,AK];exact A4 []) (by exact A8) ⟨b,_,_,X,rfl,⟨hM,hCo,hA,rfl,hH,cM,λn _=>by simp[IO,As.ASt.zero],hT,hQ,λn _=>by simp[IO,Qu.noX],hE,OwnSl.lit Af (by simp) Af,hC⟩,rfl⟩
    ·rintro _ _ ⟨bv,hbv,rfl,rfl⟩;apply CM
     ·exact Az rfl rfl (Qu.new_any _)
     ·rfl
     ·rfl
     ·rfl
     ·intro _ _ _ c hc;cases hc
     rintro _ _ ⟨bq,rfl,lq,hQ,rfl⟩;refine BM ?_;apply CM
     ·exact Az rfl rfl (En.new_any _)
     ·rfl
     ·rfl
     ·rfl
     ·intro _ _ _ c hc;cases hc
     rintro _ _ ⟨be,rfl,le,hE,rfl⟩;refine BM ?_;apply CM
     ·exact CK rfl
     ·rfl
     ·rfl
     ·rfl
     ·intro _ _ _ c hc;cases hc
     rintro _ _ ⟨b,hb,rfl,rfl⟩;refine BM ?_;refine Aj ?_;exact BA [] rfl (l':=Ct b ⟨bm,bc,ba,bh,bn,bt,bq,be,.slice (some ⟨bv,0,none⟩) C C⟩ ⟨lm,lc,la,lh,lt,lq,le,[(bv,.cells (toArray (replicate C (.int .i64 0))) 3 (0,0))]⟩ (IO F) (X++G)) (by unfold Ct;dsimp only[Cw,IO,As.asA,pV];simp only[AL,AK];exact A4 []) (by exact A8) ⟨b,_,_,X,rfl,⟨hM,hCo,hA,rfl,hH,cM,λn _=>by simp[IO,As.ASt.zero],hT,hQ,λn _=>by simp[IO,Qu.noX],hE,OwnSl.lit Af (by simp) Af,hC⟩,rfl⟩
   ·rintro _ _ ⟨bv,hbv,rfl,rfl⟩;apply CM
    ·exact Az rfl rfl (Th.new_any _)
    ·rfl
    ·rfl
    ·rfl
    ·intro _ _ _ c hc;cases hc
    rintro _ _ ⟨bt,rfl,lt,hT,rfl⟩;refine BM ?_;apply CM
    ·exact Az rfl rfl (Qu.new_any _)
    ·rfl
    ·rfl
    ·rfl
    ·intro _ _ _ c hc;cases hc
    rintro _ _ ⟨bq,rfl,lq,hQ,rfl⟩;refine BM ?_;apply CM
    ·exact Az rfl rfl (En.new_any _)
    ·rfl
    ·rfl
    ·rfl
    ·intro _ _ _ c hc;cases hc
    rintro _ _ ⟨be,rfl,le,hE,rfl⟩;refine BM ?_;apply CM
    ·exact CK rfl
    ·rfl
    ·rfl
    ·rfl
    ·intro _ _ _ c hc;cases hc
    rintro _ _ ⟨b,hb,rfl,rfl⟩;refine BM ?_;refine Aj ?_;exact BA [] rfl (l':=Ct b ⟨bm,bc,ba,bh,bn,bt,bq,be,.slice (some ⟨bv,0,none⟩) C C⟩ ⟨lm,lc,la,lh,lt,lq,le,[(bv,.cells (toArray (replicate C (.int .i64 0))) 3 (0,0))]⟩ (IO F) (X++G)) (by unfold Ct;dsimp only[Cw,IO,As.asA,pV];simp only[AL,AK];exact A4 []) (by exact A8) ⟨b,_,_,X,rfl,⟨hM,hCo,hA,rfl,hH,cM,λn _=>by simp[IO,As.ASt.zero],hT,hQ,λn _=>by simp[IO,Qu.noX],hE,OwnSl.lit Af (by simp) Af,hC⟩,rfl⟩
  ·rintro _ _ ⟨bv,hbv,rfl,rfl⟩;apply CM
   ·exact Az rfl rfl (As.new_any _)
   ·rfl
   ·rfl
   ·rfl
   ·intro _ _ _ c hc;cases hc
   rintro _ _ ⟨bn,_,rfl,rfl⟩;refine BM ?_;apply CM
   ·exact Az rfl rfl (Th.new_any _)
   ·rfl
   ·rfl
   ·rfl
   ·intro _ _ _ c hc;cases hc
   rintro _ _ ⟨bt,rfl,lt,hT,rfl⟩;refine BM ?_;apply CM
   ·exact Az rfl rfl (Qu.new_any _)
   ·rfl
   ·rfl
   ·rfl
   ·intro _ _ _ c hc;cases hc
   rintro _ _ ⟨bq,rfl,lq,hQ,rfl⟩;refine BM ?_;apply CM
   ·exact Az rfl rfl (En.new_any _)
   ·rfl
   ·rfl
   ·rfl
   ·intro _ _ _ c hc;cases hc
   rintro _ _ ⟨be,rfl,le,hE,rfl⟩;refine BM ?_;apply CM
   ·exact CK rfl
   ·rfl
   ·rfl
   ·rfl
   ·intro _ _ _ c hc;cases hc
   rintro _ _ ⟨b,hb,rfl,rfl⟩;refine BM ?_;refine Aj ?_;exact BA [] rfl (l':=Ct b ⟨bm,bc,ba,bh,bn,bt,bq,be,.slice (some ⟨bv,0,none⟩) C C⟩ ⟨lm,lc,la,lh,lt,lq,le,[(bv,.cells (toArray (replicate C (.int .i64 0))) 3 (0,0))]⟩ (IO F) (X++G)) (by unfold Ct;dsimp only[Cw,IO,As.asA,pV];simp only[AL,AK];exact A4 []) (by exact A8) ⟨b,_,_,X,rfl,⟨hM,hCo,hA,rfl,hH,cM,λn _=>by simp[IO,As.ASt.zero],hT,hQ,λn _=>by simp[IO,Qu.noX],hE,OwnSl.lit Af (by simp) Af,hC⟩,rfl⟩
 ·rintro _ _ ⟨bv,hbv,rfl,rfl⟩;apply CM
  ·exact Az rfl rfl (WD _)
  ·rfl
  ·rfl
  ·rfl
  ·intro _ _ _ c hc;cases hc
  rintro _ _ ⟨bh,rfl,lh,hH,rfl⟩;refine BM ?_;apply CM
  ·exact Az rfl rfl (As.new_any _)
  ·rfl
  ·rfl
  ·rfl
  ·intro _ _ _ c hc;cases hc
  rintro _ _ ⟨bn,_,rfl,rfl⟩;refine BM ?_;apply CM
  ·exact Az rfl rfl (Th.new_any _)
  ·rfl
  ·rfl
  ·rfl
  ·intro _ _ _ c hc;cases hc
  rintro _ _ ⟨bt,rfl,lt,hT,rfl⟩;refine BM ?_;apply CM
  ·exact Az rfl rfl (Qu.new_any _)
  ·rfl
  ·rfl
  ·rfl
  ·intro _ _ _ c hc;cases hc
  rintro _ _ ⟨bq,rfl,lq,hQ,rfl⟩;refine BM ?_;apply CM
  ·exact Az rfl rfl (En.new_any _)
  ·rfl
  ·rfl
  ·rfl
  ·intro _ _ _ c hc;cases hc
  rintro _ _ ⟨be,rfl,le,hE,rfl⟩;refine BM ?_;apply CM
  ·exact CK rfl
  ·rfl
  ·rfl
  ·rfl
  ·intro _ _ _ c hc;cases hc
  rintro _ _ ⟨b,hb,rfl,rfl⟩;refine BM ?_;refine Aj ?_;exact BA [] rfl (l':=Ct b ⟨bm,bc,ba,bh,bn,bt,bq,be,.slice (some ⟨bv,0,none⟩) C C⟩ ⟨lm,lc,la,lh,lt,lq,le,[(bv,.cells (toArray (replicate C (.int .i64 0))) 3 (0,0))]⟩ (IO F) (X++G)) (by unfold Ct;dsimp only[Cw,IO,As.asA,pV];simp only[AL,AK];exact A4 []) (by exact A8) ⟨b,_,_,X,rfl,⟨hM,hCo,hA,rfl,hH,cM,λn _=>by simp[IO,As.ASt.zero],hT,hQ,λn _=>by simp[IO,Qu.noX],hE,OwnSl.lit Af (by simp) Af,hC⟩,rfl⟩
namespace En
variable{r:Row}{A B rows:List Row}{b m clock:Nat}{lq:List Ab}{t:Int}
theorem IL(pv:Option Addr)(t:Int)(l:List Ab):Fn prog 317 [.pointer pv,.int .i64 t] l λv l'=> ∃B1 B2,v= .func (.func 359) #[] #[.pointer (some ⟨B1,0,none⟩),.pointer (some ⟨B2,0,none⟩)]/\l'=(B2,.cells #[.int .i64 t] 3 (0,0))::(B1,.cells #[.pointer pv] 161 (0,0))::l:=by refine AM func317 ntmps317 λE=>?_;refine gz ?_;refine AP (Eb rfl rfl) ?_;rintro _ _ ⟨B1,hB1,rfl,rfl⟩;refine AP (Eb rfl rfl) ?_;rintro _ _ ⟨B2,hB2,rfl,rfl⟩;refine gz ?_;exact A9 .refl ⟨B1,B2,rfl,rfl⟩
theorem Hn(B1 B2 b m clock:Nat)(t:Int)(rows:List Row)(lq:List Ab)(hE:EB b rows m clock lq)(hn: ∀r,r∈rows->r.th.length<=1000000):
 Fa prog 359 [.pointer (some ⟨B1,0,none⟩),.pointer (some ⟨B2,0,none⟩)] (λr:Row=>[.pointer (some ⟨r.pb,0,none⟩),.int .i64 (r.th.idxOf t:Nat)]) (λxs=> ∀r,r∈rows->t∈r.th->r∈xs) (λpre=> ∀r,r∈pre->r∈rows/\t∈r.th)
 (λ_ l=>(B1,.cells #[.pointer (some ⟨b,0,none⟩)] 161 (0,0))∈l/\(B2,.cells #[.int .i64 t] 3 (0,0))∈l/\ ∀c,c∈lq->c∈l):=by
 refine⟨λq I Ix G0 hneed hY l G hG h0=>?_⟩;refine AM func359 ntmps359 λE=>?_;obtain⟨hm1,hm2,hm3⟩:=hneed _ _ G hG h0;have hm4:=hm3 _ hE.m1;have hm5:=hm3 _ hE.m2;refine gz ?_;refine AP (ZJ rfl hm5) ?_;rintro _ _ ⟨b0,hb0,rfl,rfl⟩;refine gz ?_;refine CE (α:=Array Nat×List Row×List Ab) (λx=>[(0,.func (.yield q) #[] #[]),(1,.pointer (some ⟨B1,0,none⟩)),(2,.pointer (some ⟨B2,0,none⟩)),(13,.pointer (some ⟨b0,0,none⟩))]) (λx=>(b0,.mapIter (some m) clock x.1 clock)::(x.2.2++G)) (λx=>I x.2.1 x.2.2/\(∀r,r∈rows->r.st∈x.1.toList->t∈r.th->r∈x.2.1)/\ ∀r,r∈x.2.1->r∈rows/\t∈r.th) (λx=>(rows.filter λr=>!x.1.contains r.st).length) (#[],[],l) ⟨h0,by simp,by simp⟩ ⟨rfl,rfl,rfl,rfl,trivial⟩ .refl ?_;clear hm1 hm2 hm3 hm4 hm5;rintro⟨seen,pre,l⟩ ⟨hI,hse,hpre⟩;simp only at hI hse hpre⊢;obtain⟨hm1,hm2,hm3⟩:=hneed _ _ G hG hI;have hm5:=hm3 _ hE.m2;refine gz ?_;refine AP (fS rfl hm5 (λe he=>by rw[Au] at he;obtain⟨r,hr,rfl⟩:=he;exact hE.st r hr) (A7 _)) ?_;rintro _ _ (⟨rfl,rfl,hall⟩|⟨e,he,hns,rfl,rfl⟩)
 ·refine gz ?_;refine A9 (.drop .refl) ⟨l,rfl,.inl ⟨pre,λr hr ht=>hse r hr (hall _ (Au.2 ⟨r,hr,rfl⟩)) ht,hI⟩⟩
 ·rw[Au] at he;obtain⟨r,hr,rfl⟩:=he;have hnd:((rows.map Row.ent).map (·.2.2)).Nodup:=by rw[CJ];exact hE.nd
  have hrow:r.ent∈rows.map Row.ent:=Au.2 ⟨r,hr,rfl⟩;have hbl:r.bl∈l++G:=hm3 _ (hE.m3 hr (.head _));have hmeas:(rows.filter λr'=>!(seen.push r.ent.2.2).contains r'.st).length<(rows.filter λr'=>!seen.contains r'.st).length:=by
   refine TR (λx hx=>?_) hr ?_ ?_
   ·simp only[DC,Array.contains_push,Bool.or_eq_false_iff] at hx⊢;simp at hx⊢;exact hx.1
   ·have hns':r.st∉seen.toList:=hns;simpa using hns'
   ·simp[Row.ent]
  have hse2: ∀(ps:List Row),(∀x,x∈pre->x∈ps)->(t∈r.th->r∈ps)-> ∀r',r'∈rows->r'.st∈(seen.push r.ent.2.2).toList->t∈r'.th->r'∈ps:=λps h1 h2 r' hr' hs' ht'=>by
   rw[KG,AE] at hs';rcases hs' with hs'|hs'
   ·exact h1 _ (hse r' hr' hs' ht')
   ·have e1:r'.st=r.st:=by simpa[Row.ent] using hs'
    have:r'=r:=RD hE.nd hr' hr e1;subst this;exact h2 ht'
  refine gz ?_;refine Bb (ZK rfl (.head _) (.tail _ hm5) hrow hnd) ?_;refine gz ?_;refine Ch [] 7 _ ?_ (hR:=(λ_ h=>h));refine pz ?_;refine XQ (AJ rfl rfl (λl2 hl=>Qu.index_any r.v r.th t l2 (hE.ints hr λc hc=>hl c (.tail _ (hm3 c hc))) (hn r hr))) rfl rfl rfl ?_;by_cases hin:t∈r.th
  ·rw[show Qu.indexI r.th t=((r.th.idxOf t:Nat):Int) from Ad hin];have hy:=hY pre r l ((b0,.mapIter (some m) clock (seen.push r.ent.2.2) clock)::G) (λc hc=> .tail _ (hG c hc)) hI (λr' hr'=>by
    rcases AE.1 hr' with h|h
    ·exact hpre r' h
    ·rw[Ax.1 h];exact⟨hr,hin⟩)
   refine pz ?_;refine gz ?_;refine Bk (Keep.of_perm AH.symm) ?_;refine AP (CQ rfl rfl hy) ?_;rintro v l' ⟨l1,rfl,⟨rfl,hI'⟩|⟨rfl,hx⟩⟩
   ·refine gz ?_;refine BV (seen.push r.ent.2.2,pre++[r],l1) ⟨hI',hse2 _ (λx hx=>Ah _ hx) λ_=>Aa _ Ak,λr' hr'=>?_⟩ hmeas ⟨rfl,rfl,rfl,rfl,trivial⟩ (.of_perm AH);rcases AE.1 hr' with h|h
    ·exact hpre r' h
    ·rw[Ax.1 h];exact⟨hr,hin⟩
   ·refine gz ?_;refine A9 (Keep.trans (.of_perm AH) (.drop .refl)) ⟨l1,rfl,.inr ⟨_,λr' hr'=>?_,hx⟩⟩;rcases AE.1 hr' with h|h
    ·exact hpre r' h
    ·rw[Ax.1 h];exact⟨hr,hin⟩
  ·rw[show Qu.indexI r.th t= -1 from Ac hin];refine pz ?_;refine gz ?_;exact BV (seen.push r.ent.2.2,pre,l) ⟨hI,hse2 _ (λx hx=>hx) λh=>absurd h hin,hpre⟩ hmeas ⟨rfl,rfl,rfl,rfl,trivial⟩ .refl
theorem clone_any(v:Value)(xs:List Int)(cs l:List Ab)(ho:OwnSl 3 1 v xs.length (xs.map CG) cs)(hs: ∀c,c∈cs->c∈l)(hx:xs.length<=1000000):
 Fn prog 54 [v] l λr l'=> ∃c2,OwnSl 3 1 r xs.length (xs.map CG) c2/\l'=c2++l:=by
 obtain⟨hlen,h⟩:=ho;refine AM func54 ntmps54 λE=>?_;rcases h with⟨rfl,h0,rfl⟩|⟨gb,cap,sp,rfl,rfl,hnc,hcm,hcl⟩
 ·refine gz ?_;refine A9 .refl ?_;exact⟨[],⟨hlen,.inl ⟨rfl,h0,rfl⟩⟩,rfl⟩
 ·have hg:=hs _ Ak;refine gz ?_;refine AP fT ?_;rintro _ _ ⟨bl,hbl,rfl,rfl⟩;refine gz ?_;apply fe
  ·apply F4 (e:=3) (k:=1) (xs:=[]) (cs:=[(bl,.cells #[] 3 (0,0))]) (F:=l) (news:=xs.map CG) (zs:=[.int .i64 0]) (cl:=toArray (xs.map CG++sp))
   ·rfl
   ·rfl
   ·rfl
   ·exact OwnSl.empty
   ·exact .tail _ hg
   ·intro j u hj;have hlt:=(Ay.1 hj).1;rw[BC,AC,AF hlt];exact hj
   ·simp
   ·intro u hu;rw[Au] at hu;obtain⟨a,_,rfl⟩:=hu;rfl
   ·unfold maxLen;omega
   ·omega
  ·rfl
  ·rfl
  ·rfl
  rintro v' _ ⟨c2,ho2,rfl⟩;rw[Ag,BC] at ho2;refine gz ?_;refine A9 .refl ?_;exact⟨c2,ho2,rfl⟩
theorem Yq(e:rows=A++r::B)(hA: ∀x,x∈A->x.id≠r.id):(rows.map Row.d).eraseP (λx=>x.1==r.id)=(A++B).map Row.d:=by
 rw[e,Aq,Aq,AI,List.eraseP_append_right _ λx hx=>by rw[Au] at hx;obtain⟨y,hy,rfl⟩:=hx;simpa[Row.d] using hA y hy]
 rw[List.eraseP_cons_of_pos (by simp[Row.d])]
theorem EB.erase(h:EB b (A++r::B) m clock lq):EB b (A++B) m clock (PK b m::(m,Fq .i64 ((A++B).map Row.ent) clock)::(A++B).flatMap Row.ch):=by have hs:(A++B).Sublist (A++r::B):=FJ (DQ _ _) _;exact⟨rfl,λx hx=>h.own x (hs.subset hx),λx hx=>h.st x (hs.subset hx),h.nd.sublist (hs.map _),h.ids.sublist (hs.map _)⟩
theorem drop_any(b:Nat)(D:DE)(lq:List Ab)(id:Int)(hq:IsE b D lq)(F:List Ab):
 Fn prog 369 [.pointer (some ⟨b,0,none⟩),.int .i64 id] (lq++F) λv l'=> ∃sl cs,v= .tuple #[sl,.int .i64 (dropD D id).2.1]/\OwnSl 3 1 sl (dropD D id).1.length ((dropD D id).1.map CG) cs/\ ∃lq',IsE b (dropD D id).2.2 lq'/\l'=cs++(lq'++F):=by
 obtain⟨rows,m,clock,rfl,hE⟩:=hq;refine AM func369 ntmps369 λE=>?_;have hEq:=hE.eq;by_cases h1: ∃r,r∈rows/\r.id=id
 ·obtain⟨r,hr,rfl⟩:=h1;have hg:=NM hE.ids hr;obtain⟨A,B,rfl,hA,hB⟩:=hE.split hr;rw[show dropD ((A++r::B).map Row.d) r.id=(r.th,0,(A++B).map Row.d) by unfold dropD;rw[Ki hE.ids hr];simp only;rw[Yq rfl hA]];have ho:=hE.own r hr;have hv1:=ho.one;have hdel:Ox r.id ((A++r::B).map Row.ent)=(A++B).map Row.ent:=by
   rw[Aq,Aq,AI];exact gA _ _ λx hx=>by rw[Au] at hx;obtain⟨y,hy,rfl⟩:=hx;exact hA y hy
  have hbl: ∀o:Obj,r.bl∈PK b m::(m,o)::((A++r::B).flatMap Row.ch++F):=λo=> .tail _ (.tail _ (Ah _ (I7.2 ⟨r,hr,.head _⟩)));rw[hEq];simp only[Ae];refine gz ?_;rw[hg];refine gz ?_;refine Mu (Rp rfl rfl (by exact DI)) rfl rfl ?_;rintro _ _ ⟨rfl,rfl⟩;rw[hdel];have hbl2:=hbl (Fq .i64 ((A++B).map Row.ent) clock);refine gz ?_;refine Bb (DH rfl hbl2 rfl) ?_;refine gz ?_;refine A9 (l':=r.cs++((PK b m::(m,Fq .i64 ((A++B).map Row.ent) clock)::(A++B).flatMap Row.ch)++F)) ?_ ⟨r.v,r.cs,rfl,ho,_,⟨A++B,m,clock,rfl,hE.erase⟩,rfl⟩;rw[DV,Cr,DV];refine⟨[r.bl],?_⟩;show List.Perm (PK b m::(m,_)::((A.flatMap Row.ch++((r.bl::r.cs)++B.flatMap Row.ch))++F)) (r.bl::(r.cs++(PK b m::(m,_)::((A.flatMap Row.ch++B.flatMap Row.ch)++F))));have p1:(A.flatMap Row.ch++((r.bl::r.cs)++B.flatMap Row.ch)).Perm (r.bl::(r.cs++(A.flatMap Row.ch++B.flatMap Row.ch))):=by have:=AA (A.flatMap Row.ch) (r.bl::r.cs) (B.flatMap Row.ch);simpa using this
  refine(((p1.append_right F).cons _).cons _).trans ?_;refine((AA [PK b m,(m,Fq .i64 ((A++B).map Row.ent) clock)] [r.bl] (r.cs++(A.flatMap Row.ch++B.flatMap Row.ch)++F))).trans ?_;refine List.Perm.cons _ ?_;rw[Am];exact AA [PK b m,(m,Fq .i64 ((A++B).map Row.ent) clock)] r.cs _
 ·have hno: ∀r,r∈rows->r.id≠id:=λr hr e=>h1 ⟨r,hr,e⟩;have hg:=NL hno;rw[show dropD (rows.map Row.d) id=([],2,rows.map Row.d) by unfold dropD;rw[Ma hno]];rw[hEq];simp only[Ae];refine gz ?_;rw[hg];refine gz ?_;refine BA [] rfl .refl (by exact A8) ⟨_,[],rfl,OwnSl.nil _ _,_,⟨rows,m,clock,rfl,hE⟩,by rw[hEq];rfl⟩
theorem list_any(b:Nat)(D:DE)(lq:List Ab)(id:Int)(hq:IsE b D lq)(hn: ∀x,x∈D->x.2.1.length<=1000000)(l:List Ab)(hsub: ∀c,c∈lq->c∈l):
 Fn prog 318 [.pointer (some ⟨b,0,none⟩),.int .i64 id] l λv l'=> ∃sl cs,v= .tuple #[sl,.bool (listD D id).2]/\OwnSl 3 1 sl (listD D id).1.length ((listD D id).1.map CG) cs/\l'=cs++l:=by
 obtain⟨rows,m,clock,rfl,hE⟩:=hq;have hm1:=hsub _ hE.m1;have hm2:=hsub _ hE.m2;refine AM func318 ntmps318 λE=>?_;by_cases h1: ∃r,r∈rows/\r.id=id
 ·obtain⟨r,hr,rfl⟩:=h1;have hg:=NM hE.ids hr;have ho:=hE.own r hr;have hbl:=hsub _ (hE.m3 hr (.head _));have hlen:=hn r.d (Au.2 ⟨r,hr,rfl⟩);simp only[Row.d] at hlen;have hcl:=clone_any r.v r.th r.cs l ho (λc hc=>hsub c (hE.m3 hr (.tail _ hc))) hlen;obtain⟨pv,cap,hv⟩:=ho.shape;rw[hv] at hcl;have hbl':(r.pb,Obj.cells (toArray [.slice pv r.th.length cap,.bool r.sd]) 354 (0,0))∈l:=by rw[<-hv];exact hbl
  clear hbl;by_cases h0:r.th.length=0
  ·rw[show listD (rows.map Row.d) r.id=([],false) by unfold listD;rw[Ki hE.ids hr];simp only;rw[Ad h0]];refine gz ?_;rw[hg];refine gz ?_;rw[hg];refine gz ?_;refine A9 .refl ⟨_,[],rfl,OwnSl.nil _ _,rfl⟩
  ·rw[show listD (rows.map Row.d) r.id=(r.th,r.sd) by unfold listD;rw[Ki hE.ids hr];simp only;rw[Ac h0]];refine gz ?_;rw[hg];refine gz ?_;rw[hg];refine gz ?_;refine Ld [(0,true),(1,true),(2,true),(3,true),(4,true),(5,true),(6,true),(7,true),(8,true),(10,true),(11,true),(12,true),(13,true),(14,true),(15,true),(16,true),(17,true),(18,true),(9,false),(19,true),(20,true)] [[],[0],[0,1],[0,1,2],[],[0,1,2,3,4],[0,1,2,3,4,5],[0,1,2,3,4,5,6],[0,1,2,3,4,5,6,7],[0,1,2,3,4,5,6,7,8],[],[10],[10,11],[10,11,12],[],[10,11,12,13,14],[10,11,12,13,14,15],[10,11,12,13,14,15,16],[10,11,12,13,14,15,16,17],[0,1,2,3,4,5,6,7,8,9],[0,1,2,3,4,5,6,7,8,9,10,11,12,13,14,15,16,17,18,19]] _ Bs Bs Gt (λ_ h=>h) ?_;refine pz ?_;rw[hg];refine pz ?_;rw[hg];refine pz ?_;apply CM
   ·exact Da rfl rfl hcl
   ·rfl
   ·rfl
   ·rfl
   ·rintro _ _ ⟨c2,_,rfl⟩ c hc;exact Aa _ hc
   rintro v _ ⟨c2,ho2,rfl⟩;refine pz ?_;refine gz ?_;refine A9 .refl ⟨v,c2,rfl,ho2,rfl⟩
 ·have hno: ∀r,r∈rows->r.id≠id:=λr hr e=>h1 ⟨r,hr,e⟩;have hg:=NL hno;rw[show listD (rows.map Row.d) id=([],false) by unfold listD;rw[Ma hno]];refine gz ?_;rw[hg];refine gz ?_;refine A9 .refl ⟨_,[],rfl,OwnSl.nil _ _,rfl⟩
def firstD(D:DE)(id:Int):Int×Bool×Bool:=match(listD D id).1 with
 |x::_=>(x,(listD D id).2,true)
 |[]=>(0,false,false)
theorem first_any(b:Nat)(D:DE)(lq:List Ab)(id:Int)(hq:IsE b D lq)(hn: ∀x,x∈D->x.2.1.length<=1000000)(l:List Ab)(hsub: ∀c,c∈lq->c∈l):
 Fn prog 264 [.pointer (some ⟨b,0,none⟩),.int .i64 id] l λv l'=>v= .tuple #[.int .i64 (firstD D id).1,.bool (firstD D id).2.1,.bool (firstD D id).2.2]/\ ∃cs,l'=cs++l:=by
 have H:=list_any b D lq id hq hn l hsub;unfold firstD;obtain⟨⟨xs,s⟩,hx⟩: ∃x,listD D id=x:=⟨_,rfl⟩
 rw[hx] at H⊢;dsimp only at H⊢;refine AM func264 ntmps264 λE=>?_;refine gz ?_;refine AP (Da rfl rfl H) ?_;rintro _ _ ⟨sl,cs,rfl,ho,rfl⟩;cases xs with
 |nil=>obtain⟨pv,cap,rfl⟩:=ho.shape;simp only[ER];refine gz ?_;exact A9 .refl ⟨rfl,cs,rfl⟩
 |cons x r=>obtain⟨pv,cap,rfl,hI⟩:=ho.intsQ (l:=cs++l) λc hc=>Ah _ hc;obtain⟨gb,off,cc,t,fz,rfl,hmc,hcc⟩:=hI (by simp);have g0:=hcc 0 x rfl;have hlen:(x::r).length=r.length+1:=rfl;refine gz ?_;refine Bb (DH (cs:=cc) rfl hmc (by simpa using g0)) ?_;refine gz ?_;exact A9 .refl ⟨rfl,cs,rfl⟩
section
variable{ro:Option Nat}{N:Nat}{fr:Fr}{d:Option Nat}{ty:TypeId}{pos:String}{aft:Array Edge}{g:Option (Nat×Bool)}
theorem il{s x:Operand}{v:Value}{xs:List Int}{id:Int}{X cs F:List Ab}{bl:Nat}(hx:ev fr s=some v)(hy:ev fr x=some (.slice (some ⟨bl,0,none⟩) 1 1))(hown:OwnSl 3 1 v xs.length (xs.map CG) cs)(hlen:xs.length<=1000000):
 OpE prog ro N fr ((bl,.cells (toArray [.int .i64 id]) 3 (0,0))::(X++(cs++F))) ⟨d,.call {callee:= .builtin .append,args:=#[s,x],argTypes:=#[40,40]},ty,pos,aft,g⟩
  (λv' l'=> ∃c2,OwnSl 3 1 v' (xs++[id]).length ((xs++[id]).map CG) c2/\l'=X++(c2++F)):=by
 have hpm:((bl,Obj.cells (toArray [.int .i64 id]) 3 (0,0))::(X++(cs++F))).Perm (cs++(((bl,Obj.cells (toArray [.int .i64 id]) 3 (0,0))::X)++F)):=
  AA ((bl,Obj.cells (toArray [.int .i64 id]) 3 (0,0))::X) cs F
 refine OpE.re (Keep.of_perm hpm) (F4 (k:=1) (yb:=8) (m:=1) (xs:=xs.map CG) (news:=[.int .i64 id]) (zs:=[.int .i64 0]) hx hy rfl hown (Aa _ Ak) (λj u hj=>by simpa using hj) rfl (by simp[Value.oneCell']) (by unfold maxLen;omega) Af) ?_;rintro v' _ ⟨c2,ho,rfl⟩;exact⟨_,Keep.trans (Keep.of_perm (AA c2 ((bl,Obj.cells (toArray [.int .i64 id]) 3 (0,0))::X) F)) (.drop .refl),c2,by rw[Ai,Aq];exact ho,rfl⟩
end
theorem Mh(A B:List Row)(r:Row)(x y:Ab):(x::y::(A++r::B).flatMap Row.ch).Perm (r.bl::(r.cs++(x::y::(A.flatMap Row.ch++B.flatMap Row.ch)))):=by rw[DV,Cr];have p1:(A.flatMap Row.ch++(r.ch++B.flatMap Row.ch)).Perm (r.bl::(r.cs++(A.flatMap Row.ch++B.flatMap Row.ch))):=AA (A.flatMap Row.ch) r.ch (B.flatMap Row.ch);refine((p1.cons _).cons _).trans ?_;refine(AA [x,y] [r.bl] (r.cs++(A.flatMap Row.ch++B.flatMap Row.ch))).trans (List.Perm.cons _ ?_);exact AA [x,y] r.cs _
abbrev R6(b m clock:Nat)(es:List KB)(A B:List Row):List Ab:=PK b m::(m,Fq .i64 es clock)::(A.flatMap Row.ch++B.flatMap Row.ch)
theorem EB.focus(h:EB b (A++r::B) m clock lq):lq.Perm (r.bl::(r.cs++R6 b m clock ((A++r::B).map Row.ent) A B)):=by rw[h.eq];exact Mh A B r _ _
theorem EB.put(h:EB b (A++r::B) m clock lq)(xs:List Int)(s:Bool)(v:Value)(c2:List Ab)(ho:OwnSl 3 1 v xs.length (xs.map CG) c2):
 EB b (A++⟨r.id,xs,s,r.pb,v,c2,r.st⟩::B) m clock (PK b m::(m,Fq .i64 ((A++r::B).map Row.ent) clock)::(A++⟨r.id,xs,s,r.pb,v,c2,r.st⟩::B).flatMap Row.ch):=by
 have e1:(A++⟨r.id,xs,s,r.pb,v,c2,r.st⟩::B).map Row.ent=(A++r::B).map Row.ent:=by simp[Row.ent]
 have e2:(A++⟨r.id,xs,s,r.pb,v,c2,r.st⟩::B).map Row.st=(A++r::B).map Row.st:=by simp
 have e3:(A++⟨r.id,xs,s,r.pb,v,c2,r.st⟩::B).map Row.id=(A++r::B).map Row.id:=by simp
 refine⟨by rw[e1],λx hx=>?_,λx hx=>?_,by rw[e2];exact h.nd,by rw[e3];exact h.ids⟩
 ·rcases AE.1 hx with hx|hx
  ·exact h.own x (Ah _ hx)
  ·rcases Ap.1 hx with rfl|hx
   ·exact ho
   ·exact h.own x (Aa _ (.tail _ hx))
 ·rcases AE.1 hx with hx|hx
  ·exact h.st x (Ah _ hx)
  ·rcases Ap.1 hx with rfl|hx
   ·exact h.st r (Aa _ (.head _))
   ·exact h.st x (Aa _ (.tail _ hx))
def updD(D:DE)(id:Int)(y:List Int×Bool):DE:=D.map λx=>if x.1=id then(x.1,y) else x
theorem R7(hA: ∀x,x∈A->x.id≠r.id)(hB: ∀x,x∈B->x.id≠r.id)(xs:List Int)(s:Bool)(v:Value)(c2:List Ab):updD ((A++r::B).map Row.d) r.id (xs,s)=(A++⟨r.id,xs,s,r.pb,v,c2,r.st⟩::B).map Row.d:=by
 have key: ∀(L:List Row),(∀x,x∈L->x.id≠r.id)->(L.map Row.d).map (λx=>if x.1=r.id then(x.1,(xs,s)) else x)=L.map Row.d:=λL hL=>by rw[CJ];apply Bw;intro x hx;simp[Row.d,hL x hx]
 unfold updD;rw[Aq,Aq,AI,AI,key A hA,key B hB,Aq,AI];simp[Row.d]
def mz(D:DE)(t:Int):Bool:=D.any λx=>decide (t∈x.2.1)
def waitD(D:DE)(id t:Int)(s:Bool):Int×DE:=match findD D id with
 |none=>(2,D)
 |some x=>if t<1 then(2,D) else if mz D t=true then(16,D) else if 0<x.1.length/\(!(x.2==s))=true then(16,D) else(0,updD D id (x.1++[t],s))
def removeD(D:DE)(t:Int):Bool×DE:=match D.find? λx=>decide (t∈x.2.1) with
 |none=>(false,D)
 |some x=>(true,updD D x.1 (x.2.1.eraseIdx (x.2.1.idxOf t),x.2.2))
theorem T8:mz (rows.map Row.d) t=true<-> ∃r,r∈rows/\t∈r.th:=by
 unfold mz;rw[Hf];constructor
 ·rintro⟨x,hx,h⟩;rw[Au] at hx;obtain⟨r,hr,rfl⟩:=hx;exact⟨r,hr,Ep h⟩
 ·rintro⟨r,hr,h⟩;exact⟨r.d,Au.2 ⟨r,hr,rfl⟩,At h⟩
theorem wait_any(b:Nat)(D:DE)(lq:List Ab)(id t:Int)(s:Bool)(hq:IsE b D lq)(hn: ∀x,x∈D->x.2.1.length<=1000000)(F:List Ab):
 Fn prog 265 [.pointer (some ⟨b,0,none⟩),.int .i64 id,.int .i64 t,.bool s] (lq++F) λv l'=>v= .int .i64 (waitD D id t s).1/\ ∃lq',IsE b (waitD D id t s).2 lq'/\l'=lq'++F:=by
 obtain⟨rows,m,clock,rfl,hE⟩:=hq;have hm1:PK b m∈lq++F:=Ah _ hE.m1;have hm2:(m,Fq .i64 (rows.map Row.ent) clock)∈lq++F:=Ah _ hE.m2;have hth: ∀r,r∈rows->r.th.length<=1000000:=λr hr=>hn r.d (Au.2 ⟨r,hr,rfl⟩);refine AM func265 ntmps265 λE=>?_;refine HC λb8=>?_;by_cases h1: ∃r,r∈rows/\r.id=id
 ·obtain⟨r,hr,rfl⟩:=h1;have hg:=NM hE.ids hr;have hfd:=Ki hE.ids hr;rw[hg];by_cases ht1:t<1
  ·rw[show waitD (rows.map Row.d) r.id t s=(2,rows.map Row.d) by unfold waitD;rw[hfd];simp only;rw[Ad ht1]];refine gz ?_;exact AW [] ((b8,.cells #[.int .i64 2] 29 (0,0))::(lq++F)) rfl (l':=lq++F) (by exact AS) (by exact A8) (by exact AS) ⟨rfl,_,⟨rows,m,clock,rfl,hE⟩,rfl⟩
  refine gz ?_;refine AP (Da rfl rfl (IL _ _ _)) ?_;rintro v l' ⟨B1,B2,rfl,rfl⟩;refine gz ?_;refine C0 (α:=Row) (ps:=[27,28]) (lb:=[.pointer (some ⟨B1,0,none⟩),.pointer (some ⟨B2,0,none⟩)]) rfl (Hn B1 B2 b m clock t rows lq hE hth) (λ_=>rfl) rfl
   (λpre l=>l=[(B2,.cells #[.int .i64 t] 3 (0,0)),(B1,.cells #[.pointer (some ⟨b,0,none⟩)] 161 (0,0)),(b8,.cells #[.int .i64 0] 29 (0,0))]/\pre=[])
   (λc pre l=>c= .ret/\pre≠[]/\l=[(b8,.cells #[.int .i64 16] 29 (0,0))])
   _ (lq++F) (λpre l2 X2 hX h=>by rw[h.1];exact⟨.tail _ (.head _),.head _,λc hc=>Aa _ (hX _ (Ah _ hc))⟩) (by exact AS) ⟨rfl,rfl⟩ ?_ ?_ ?_
  ·rintro E r0 rec pre y l' T ⟨fn,tmps,D,rfl⟩ hT ⟨rfl,rfl⟩ hsp;simp only[DG,Ae,Ag];refine gz ?_;refine Cy (by exact DI) ?_;refine gz ?_;refine Eg [(b8,.cells #[.int .i64 16] 29 (0,0))] (by exact AS) ⟨rfl,by simp,rfl⟩
  ·rintro D xs l' hall ⟨rfl,rfl⟩;have hno:¬mz (rows.map Row.d) t=true:=λh=>by
    obtain⟨r',hr',ht'⟩:=T8.1 h;cases hall r' hr' ht'
   obtain⟨A,B,rfl,hA,hB⟩:=hE.split hr;have ho:=hE.own r hr;obtain⟨pv,cap,hv⟩:=ho.shape;have hlen:=hth r hr;obtain⟨rest,hrest⟩: ∃rest,R6 b m clock ((A++r::B).map Row.ent) A B=rest:=⟨_,rfl⟩
   have hfp:lq.Perm ((r.pb,.cells (toArray [.slice pv r.th.length cap,.bool r.sd]) 354 (0,0))::(r.cs++rest)):=by rw[<-hv,<-hrest];exact hE.focus
   rw[hv] at ho;simp only[Ae,Ag];refine JF (l':=Cf D::(b8,.cells #[.int .i64 0] 29 (0,0))::(lq++F)) (by exact AS) ?_;refine JF (Keep.of_perm (((hfp.append_right F).cons _).cons _)) ?_;simp only[Ae,Am];by_cases h0:0<r.th.length/\(!(r.sd==s))=true
   ·rw[show waitD ((A++r::B).map Row.d) r.id t s=(16,(A++r::B).map Row.d) by unfold waitD;rw[hfd];simp only;rw[Ac ht1,Ac hno,Ad h0]];obtain⟨h0a,h0b⟩:=h0;refine gz ?_;rw[h0b];refine gz ?_;exact AW [D] ((b8,.cells #[.int .i64 16] 29 (0,0))::(r.pb,.cells (toArray [.slice pv r.th.length cap,.bool r.sd]) 354 (0,0))::(r.cs++(rest++F))) rfl (l':=lq++F) (by exact AS) (by exact A8) (.drop (.of_perm (by have:=(hfp.append_right F).symm;simpa using this))) ⟨rfl,_,⟨A++r::B,m,clock,rfl,hE⟩,rfl⟩
   ·rw[show waitD ((A++r::B).map Row.d) r.id t s=(0,updD ((A++r::B).map Row.d) r.id (r.th++[t],s)) by unfold waitD;rw[hfd];simp only;rw[Ac ht1,Ac hno,Ac h0]];by_cases h0a:0<r.th.length
    ·have h0b:(!(r.sd==s))=false:=by cases h:(!(r.sd==s)) with|false=>rfl|true=>exact absurd ⟨h0a,h⟩ h0
     refine gz ?_;rw[h0b];refine gz ?_;refine AP (Kg rfl rfl) ?_;rintro _ _ ⟨bl,_,rfl,rfl⟩;refine AP (il (X:=[Cf D,(b8,.cells #[.int .i64 0] 29 (0,0)),(r.pb,.cells (toArray [.slice pv r.th.length cap,.bool r.sd]) 354 (0,0))]) rfl rfl ho hlen) ?_;rintro v' _ ⟨c2,ho2,rfl⟩;have hv1:v'.oneCell'=true:=ho2.one;simp only[Ae,Ag];refine gz ?_;refine AW [D] ((b8,.cells #[.int .i64 0] 29 (0,0))::(r.pb,.cells (toArray [v',.bool s]) 354 (0,0))::(c2++(rest++F))) rfl (l':=(PK b m::(m,Fq .i64 ((A++r::B).map Row.ent) clock)::(A++⟨r.id,r.th++[t],s,r.pb,v',c2,r.st⟩::B).flatMap Row.ch)++F) (by exact AS) (by exact A8) (.drop (.of_perm ?_)) ⟨rfl,_,⟨_,m,clock,(R7 hA hB _ _ v' c2).symm,hE.put _ s v' c2 ho2⟩,rfl⟩;rw[<-hrest];have:=((Mh A B ⟨r.id,r.th++[t],s,r.pb,v',c2,r.st⟩ (PK b m) (m,Fq .i64 ((A++r::B).map Row.ent) clock)).append_right F).symm;rw[Ae,Am] at this;exact this
    ·refine gz ?_;refine AP (Kg rfl rfl) ?_;rintro _ _ ⟨bl,_,rfl,rfl⟩;refine AP (il (X:=[Cf D,(b8,.cells #[.int .i64 0] 29 (0,0)),(r.pb,.cells (toArray [.slice pv r.th.length cap,.bool r.sd]) 354 (0,0))]) rfl rfl ho hlen) ?_;rintro v' _ ⟨c2,ho2,rfl⟩;have hv1:v'.oneCell'=true:=ho2.one;simp only[Ae,Ag];refine gz ?_;refine AW [D] ((b8,.cells #[.int .i64 0] 29 (0,0))::(r.pb,.cells (toArray [v',.bool s]) 354 (0,0))::(c2++(rest++F))) rfl (l':=(PK b m::(m,Fq .i64 ((A++r::B).map Row.ent) clock)::(A++⟨r.id,r.th++[t],s,r.pb,v',c2,r.st⟩::B).flatMap Row.ch)++F) (by exact AS) (by exact A8) (.drop (.of_perm ?_)) ⟨rfl,_,⟨_,m,clock,(R7 hA hB _ _ v' c2).symm,hE.put _ s v' c2 ho2⟩,rfl⟩;rw[<-hrest];have:=((Mh A B ⟨r.id,r.th++[t],s,r.pb,v',c2,r.st⟩ (PK b m) (m,Fq .i64 ((A++r::B).map Row.ent) clock)).append_right F).symm;rw[Ae,Am] at this;exact this
  ·rintro D c pre l' hsp ⟨rfl,hne,rfl⟩;obtain⟨r',hr'⟩:=List.exists_mem_of_ne_nil _ hne;have hyes:=T8.2 ⟨r',hsp r' hr'⟩;rw[show waitD (rows.map Row.d) r.id t s=(16,rows.map Row.d) by unfold waitD;rw[hfd];simp only;rw[Ac ht1,Ad hyes]];simp only[Ae,Ag];refine gz ?_;exact AW [D] ((b8,.cells #[.int .i64 16] 29 (0,0))::(lq++F)) rfl (l':=lq++F) (by exact AS) (by exact A8) (by exact AS) ⟨rfl,_,⟨rows,m,clock,rfl,hE⟩,rfl⟩
 ·have hno: ∀r,r∈rows->r.id≠id:=λr hr e=>h1 ⟨r,hr,e⟩;have hg:=NL hno;rw[show waitD (rows.map Row.d) id t s=(2,rows.map Row.d) by unfold waitD;rw[Ma hno]];rw[hg];refine gz ?_;exact AW [] ((b8,.cells #[.int .i64 2] 29 (0,0))::(lq++F)) rfl (l':=lq++F) (by exact AS) (by exact A8) (by exact AS) ⟨rfl,_,⟨rows,m,clock,rfl,hE⟩,rfl⟩
theorem mB(v:Value)(xs:List Int)(i:Nat)(hi:i<xs.length)(X cs Y:List Ab)(h:OwnSl 3 1 v xs.length (xs.map CG) cs)(hn:xs.length<=1000000):
 Fn prog 200 [v,.int .i64 (i:Nat),.int .i64 ((i:Int)+1)] (X++(cs++Y)) λr l'=> ∃c2,OwnSl 3 1 r (xs.eraseIdx i).length ((xs.eraseIdx i).map CG) c2/\l'=X++(c2++Y):=by
 refine Fn.re (Keep.of_perm (AA X cs Y)) (Qu.delete_any v xs i hi cs _ h hn) ?_;rintro v l' ⟨c2,h1,h2⟩;exact⟨_,by rw[h2];exact Keep.of_perm (AA c2 X Y),c2,h1,rfl⟩
def OneAt(D:DE)(t:Int):Prop:= ∀x y,x∈D->y∈D->t∈x.2.1->t∈y.2.1->x.1=y.1
theorem qE(hn:(rows.map Row.id).Nodup)(hU:OneAt (rows.map Row.d) t)(hr:r∈rows)(ht:t∈r.th):(rows.map Row.d).find? (λx=>decide (t∈x.2.1))=some r.d:=by
 have hs:((rows.map Row.d).find? λx=>decide (t∈x.2.1)).isSome=true:=List.find?_isSome.2 ⟨r.d,Au.2 ⟨r,hr,rfl⟩,At ht⟩;obtain⟨x,hx⟩:=HH.1 hs;have h1:t∈x.2.1:=by have:=DO hx;simpa using this
 have hm:=Bz hx;have hid:=hU x r.d hm (Au.2 ⟨r,hr,rfl⟩) h1 ht;rw[hx];rw[Au] at hm;obtain⟨r',hr',rfl⟩:=hm;have:r'=r:=RD hn hr' hr hid;rw[this]
theorem remove_any(b:Nat)(D:DE)(lq:List Ab)(t:Int)(hq:IsE b D lq)(hn: ∀x,x∈D->x.2.1.length<=1000000)(hU:OneAt D t)(F:List Ab):
 Fn prog 260 [.pointer (some ⟨b,0,none⟩),.int .i64 t] (lq++F) λv l'=>v= .bool (removeD D t).1/\ ∃lq',IsE b (removeD D t).2 lq'/\l'=lq'++F:=by
 obtain⟨rows,m,clock,rfl,hE⟩:=hq;have hth: ∀r,r∈rows->r.th.length<=1000000:=λr hr=>hn r.d (Au.2 ⟨r,hr,rfl⟩);refine AM func260 ntmps260 λE=>?_;refine HC λb4=>?_;refine AP (Da rfl rfl (IL _ _ _)) ?_;rintro v l' ⟨B1,B2,rfl,rfl⟩;refine gz ?_;refine C0 (α:=Row) (ps:=[10,11]) (lb:=[.pointer (some ⟨B1,0,none⟩),.pointer (some ⟨B2,0,none⟩)]) rfl (Hn B1 B2 b m clock t rows lq hE hth) (λ_=>rfl) rfl
  (λpre l=>l=[(B2,.cells #[.int .i64 t] 3 (0,0)),(B1,.cells #[.pointer (some ⟨b,0,none⟩)] 161 (0,0)),(b4,.cells #[.bool false] 4 (0,0))]++lq/\pre=[])
  (λc pre l=>c= .ret/\ ∃A r B v' c2,rows=A++r::B/\(∀x,x∈A->x.id≠r.id)/\(∀x,x∈B->x.id≠r.id)/\t∈r.th/\OwnSl 3 1 v' (r.th.eraseIdx (r.th.idxOf t)).length ((r.th.eraseIdx (r.th.idxOf t)).map CG) c2/\l=(b4,.cells #[.bool true] 4 (0,0))::(r.pb,.cells (toArray [v',.bool r.sd]) 354 (0,0))::(c2++R6 b m clock (rows.map Row.ent) A B))
  _ F (λpre l2 X2 hX h=>by rw[h.1];exact⟨.tail _ (.head _),.head _,λc hc=>Ah _ (Aa _ hc)⟩) (by exact AS) ⟨rfl,rfl⟩ ?_ ?_ ?_
 ·rintro E r0 rec pre r l' T ⟨fn,tmps,D,rfl⟩ hT ⟨rfl,rfl⟩ hsp;obtain⟨hr,ht⟩:=hsp r (by simp);obtain⟨A,B,rfl,hA,hB⟩:=hE.split hr;have ho:=hE.own r hr;obtain⟨pv,cap,hv⟩:=ho.shape;have hlen:=hth r hr;obtain⟨rest,hrest⟩: ∃rest,R6 b m clock ((A++r::B).map Row.ent) A B=rest:=⟨_,rfl⟩
  have hfp:lq.Perm ((r.pb,.cells (toArray [.slice pv r.th.length cap,.bool r.sd]) 354 (0,0))::(r.cs++rest)):=by rw[<-hv,<-hrest];exact hE.focus
  rw[hv] at ho;have hlt:=GB ht;simp only[DG,Ae,Ag];refine gz ?_;refine Cy (.there (.there (.there (Fg _ _ _ _ _)))) ?_;refine D3 (.drop (.drop (.of_perm ((hfp.append_right _).cons _)))) ?_;simp only[Ae,Am];refine gz ?_;refine AP (Da rfl rfl (mB _ r.th (r.th.idxOf t) hlt [(b4,.cells #[.bool false] 4 (0,0)),(r.pb,.cells (toArray [.slice pv r.th.length cap,.bool r.sd]) 354 (0,0))] r.cs _ ho hlen)) ?_;rintro v' _ ⟨c2,ho2,rfl⟩;have hv1:v'.oneCell'=true:=ho2.one;simp only[Ae,Ag];refine gz ?_;refine Eg _ ?_ ⟨rfl,A,r,B,v',c2,rfl,hA,hB,ht,ho2,rfl⟩;rw[hrest];simp only[Ae,Am];exact .refl
 ·rintro D xs l' hall ⟨rfl,rfl⟩;have hno:(rows.map Row.d).find? (λx=>decide (t∈x.2.1))=none:=By.2 λx hx=>by
   rw[Au] at hx;obtain⟨r,hr,rfl⟩:=hx;intro h;cases hall r hr (Ep h)
  rw[show removeD (rows.map Row.d) t=(false,rows.map Row.d) by unfold removeD;rw[hno]];simp only[Ae,Ag];refine gz ?_;exact AW [D] ((b4,.cells #[.bool false] 4 (0,0))::(lq++F)) rfl (l':=lq++F) (by exact AS) (by exact A8) (by exact AS) ⟨rfl,_,⟨rows,m,clock,rfl,hE⟩,rfl⟩
 ·rintro D c pre l' hsp ⟨rfl,A,r,B,v',c2,rfl,hA,hB,ht,ho2,rfl⟩;rw[show removeD ((A++r::B).map Row.d) t=(true,updD ((A++r::B).map Row.d) r.id (r.th.eraseIdx (r.th.idxOf t),r.sd)) by unfold removeD;rw[qE hE.ids hU (Aa _ (.head _)) ht];rfl];obtain⟨rest,hrest⟩: ∃rest,R6 b m clock ((A++r::B).map Row.ent) A B=rest:=⟨_,rfl⟩
  rw[hrest];simp only[Ae,Am];refine gz ?_;refine AW [D] ((b4,.cells #[.bool true] 4 (0,0))::(r.pb,.cells (toArray [v',.bool r.sd]) 354 (0,0))::(c2++(rest++F))) rfl (l':=(PK b m::(m,Fq .i64 ((A++r::B).map Row.ent) clock)::(A++⟨r.id,r.th.eraseIdx (r.th.idxOf t),r.sd,r.pb,v',c2,r.st⟩::B).flatMap Row.ch)++F) (by exact AS) (by exact A8) (.drop (.of_perm ?_)) ⟨rfl,_,⟨_,m,clock,(R7 hA hB _ _ v' c2).symm,hE.put _ r.sd v' c2 ho2⟩,rfl⟩;rw[<-hrest];have:=((Mh A B ⟨r.id,r.th.eraseIdx (r.th.idxOf t),r.sd,r.pb,v',c2,r.st⟩ (PK b m) (m,Fq .i64 ((A++r::B).map Row.ent) clock)).append_right F).symm;rw[Ae,Am] at this;exact this
end En
namespace Tr
variable{P:Program}{ro:Option Nat}{N:Nat}{R:List Ab}
section
variable{E:World}{ops:Array Oper}{Q:Exit->Act->World->Prop}{tbl:List (List Nat)}{sw:Sw}{sp:Fj}{pl:List BF}{o:Oper}{fr fr':Fr}{ds:List Deferred}{l l':List Ab}{K:Value->List Ab->Prop}{v:Value}{i:Nat}{k:Bool}
end
theorem T9(b p:Nat)(l:List Ab):Fn prog 360 [.pointer (some ⟨b,0,none⟩),.pointer (some ⟨p,0,none⟩)] l λv l'=> ∃B1 B2,v= .func (.func 384) #[] #[.pointer (some ⟨B2,0,none⟩),.pointer (some ⟨B1,0,none⟩)]/\l'=Wy B1 p::XC B2 b::l:=by refine AM func360 ntmps360 λE=>?_;refine HC λb2=>?_;refine HC λb3=>?_;exact A9 .refl ⟨b3,b2,rfl,rfl⟩
theorem R8(B1 B2 b rb m p:Nat)(F:Nat->NdT)(all os:List Nat)(es:List (GY SlotT))(clock:Nat)(lq:List Ab)(hT:TB b rb m F all os es clock lq)(X Y:List Nat)(hX:rb::os=X++p::Y):
 Fa prog 384 [.pointer (some ⟨B2,0,none⟩),.pointer (some ⟨B1,0,none⟩)] (λq:Nat=>[.pointer (some ⟨q,0,none⟩)]) (λxs=>xs=Y.takeWhile λq=>decide ((F p).dp<(F q).dp)) (λpre=>pre<+:Y.takeWhile λq=>decide ((F p).dp<(F q).dp))
  (λpre l=>Wy B1 p∈l/\XC B2 b∈l/\Kn b rb m∈l/\yB F (rb::os) pre l):=by
 refine⟨λr I Ix G0 hneed hY l G hG h0=>?_⟩;have hnd:(p::Y).Nodup:=by have:=hT.ond;rw[hX] at this;exact(Bu.1 this).2.1
 have hpc:p∈rb::os:=by rw[hX];simp
 obtain⟨tw,htw⟩: ∃tw,tw=Y.takeWhile λq=>decide ((F p).dp<(F q).dp):=⟨_,rfl⟩
 rw[<-htw] at hY⊢;obtain⟨n1,n2,n3,n4⟩:=hneed _ _ G hG h0;refine AM func384 ntmps384 λE=>?_;refine HC λb3=>?_;refine AP (Da rfl rfl (RY _ _ _)) ?_;rintro v l' ⟨C1,C2,rfl,rfl⟩;refine gz ?_;refine C0 (α:=Nat) (ps:=[8]) (lb:=[.pointer (some ⟨C1,0,none⟩),.pointer (some ⟨C2,0,none⟩)]) rfl (Qa C1 C2 b rb m p F all os es clock lq hT X Y hX) (λ_=>rfl) rfl
  (λpre l=> ∃l1,I pre l1/\pre<+:tw/\l=[Wy C1 p,XC C2 b,(b3,.cells #[.func (.yield r) #[] #[]] 408 (0,0))]++l1)
  (λc pre l=>c= .exit 0/\ ∃l1,((pre<+:tw/\Ix pre l1)\/I tw l1)/\l=[Wy C1 p,XC C2 b,(b3,.cells #[.func (.yield r) #[] #[]] 408 (0,0))]++l1)
  _ G (λpre l2 X2 hX2 h=>by obtain⟨l1,hI,_,rfl⟩:=h;obtain⟨k1,k2,k3,k4⟩:=hneed _ _ X2 (λc hc=>hX2 c (hG c hc)) hI;refine⟨.head _,.tail _ (.head _),.tail _ (.tail _ (.tail _ k3)),λq hq=>?_⟩;obtain⟨x,h1,h2,h3⟩:=k4 q hq;exact⟨x,.tail _ (.tail _ (.tail _ h1)),h2⟩) (by exact AS) ⟨l,h0,List.nil_prefix,rfl⟩ ?_ ?_ ?_
 ·rintro E r0 rec pre y l' T ⟨fn,tmps,D,rfl⟩ hT0 ⟨l1,hI,hpt,rfl⟩ hsp;simp only[DG,Ae,Ag];refine gz ?_;refine Cy (.there (.there (.there (Fg _ _ _ _ _)))) ?_;generalize hX1:(r0,Obj.loop (Dz fn tmps _ _ _ D .busy none))::T=X1;have hG1: ∀c,c∈G0->c∈X1:=λc hc=>by rw[<-hX1];exact .tail _ (hT0 c (hG c hc))
  have hyp:y∉pre/\p∉pre/\y∈rb::os:=by
   obtain⟨r9,h9⟩:=hsp;rw[<-h9] at hnd hX;refine⟨λh=>?_,λh=>?_,by rw[hX];simp⟩
   ·have:=(Bu.1 (Bu.1 (AN.1 hnd).2).1).2.2 y h y (by simp);exact this rfl
   ·exact(AN.1 hnd).1 (by simp[h])
  obtain⟨k1,k2,k3,k4⟩:=hneed _ _ X1 hG1 hI;obtain⟨xy,hxy,_,hyd⟩:=k4 y hyp.2.2;obtain⟨xp,hxp,_,hpd⟩:=k4 p hpc;have hyd:=hyd hyp.1;have hpd:=hpd hyp.2.1;by_cases hlt:(F p).dp<(F y).dp
  ·have hpt2:pre++[y]<+:tw:=by rw[htw] at hpt⊢;exact mq hsp hpt (At hlt)
   refine gz ?_;refine Ch [12] 15 ([(b3,.cells #[.func (.yield r) #[] #[]] 408 (0,0))]) ?_;refine pz ?_;apply FM (S:=[No y xy])
   ·exact DH rfl (.head _) rfl
   ·intro c hc;cases hc with
    |head=>exact .tail _ (.tail _ (.tail _ hxy))
    |tail _ h=>cases h
   ·rfl
   ·rfl
   ·rfl
   refine pz ?_;apply FM (S:=[Wy B1 p])
   ·exact DH rfl (.head _) rfl
   ·intro c hc;cases hc with
    |head=>exact .tail _ (.tail _ (.tail _ k1))
    |tail _ h=>cases h
   ·rfl
   ·rfl
   ·rfl
   refine pz ?_;apply FM (S:=[No p xp])
   ·exact DH rfl (.head _) rfl
   ·intro c hc;cases hc with
    |head=>exact .tail _ (.tail _ (.tail _ hxp))
    |tail _ h=>cases h
   ·rfl
   ·rfl
   ·rfl
   refine pz ?_;apply qz
   ·apply OpE.re (K':=λv l3=> ∃l2,l3=Wy C1 p::XC C2 b::(b3,.cells #[.func (.yield r) #[] #[]] 408 (0,0))::(l2++X1)/\((v= .bool true/\I (pre++[y]) l2)\/(v= .bool false/\Ix (pre++[y]) l2))) (Keep.in_mid [Wy C1 p,XC C2 b,(b3,.cells #[.func (.yield r) #[] #[]] 408 (0,0))] l1 X1)
    ·exact CQ rfl rfl (hY pre y l1 _ (λc hc=> .tail _ (.tail _ (.tail _ (hG1 c hc)))) hI hpt2)
    ·rintro v _ ⟨l2,rfl,hor⟩;exact⟨_,Keep.in_mid l2 [Wy C1 p,XC C2 b,(b3,.cells #[.func (.yield r) #[] #[]] 408 (0,0))] X1,l2,rfl,hor⟩
   ·rfl
   ·rfl
   ·rfl
   ·rintro _ _ ⟨l2,rfl,_⟩ c hc;cases hc with
    |head=>exact .tail _ (.tail _ (.head _))
    |tail _ h=>cases h
   ·exact λ_ _ _ x hx ha=>C3 Bs hx ha
   rintro v _ ⟨l2,rfl,⟨rfl,hI2⟩|⟨rfl,hI2⟩⟩
   ·refine pz ?_;refine gz ?_;rw[<-hX1];exact B0 _ (.refl) ⟨l2,hI2,hpt2,rfl⟩
   ·refine pz ?_;refine gz ?_;rw[<-hX1];exact EE _ (.refl) ⟨rfl,l2,.inl ⟨hpt2,hI2⟩,rfl⟩
  ·have hpt2:pre=tw:=by rw[htw] at hpt⊢;exact mu hsp hpt (Av hlt)
   refine gz ?_;refine Ch [12] 15 _ ?_ (hR:=(λ_ h=>h));refine pz ?_;refine gz ?_;rw[<-hX1];exact EE _ (.refl) ⟨rfl,l1,.inr (hpt2▸hI),rfl⟩
 ·rintro D xs l' rfl ⟨l1,hI,hpt,rfl⟩;simp only[Ae,Ag];have hall:xs=tw:=by rw[htw] at hpt⊢;exact qA hpt
  refine gz ?_;exact AW [D] (l1++G) rfl (l':=l1++G) (by exact AS) (by exact A8) .refl ⟨l1,rfl,.inl ⟨_,rfl,hall▸hI⟩⟩
 ·rintro D c pre l' hsp ⟨rfl,l1,hor,rfl⟩;simp only[Ae,Ag];refine gz ?_;refine AW [D] (l1++G) rfl (l':=l1++G) (by exact AS) (by exact A8) .refl ⟨l1,rfl,?_⟩;rcases hor with⟨h1,h2⟩|h
  ·exact .inr ⟨_,h1,h2⟩
  ·exact .inl ⟨_,rfl,h⟩
theorem belowOf_any(b:Nat)(D:DT)(lq:List Ab)(hq:IsT b D lq)(hn:D.length<=1000000)(s:SlotT)(l:List Ab)(hsub: ∀c,c∈lq->c∈l):
 Fn prog 323 [.pointer (some ⟨b,0,none⟩),.agg (toArray (Co s))] l λv l'=> ∃cs,OwnSl 61 2 v (belowD D s).length (scs (belowD D s)) cs/\l'=cs++l:=by
 obtain⟨rb,m,F,all,os,es,clock,rfl,hT⟩:=hq;have hnl:os.length<=1000000:=by simpa[E3] using hn
 have h1:=hsub _ hT.m1;have hnod: ∀q,q∈rb::os->No q (F q)∈l:=λq hq=>by
  rcases Ap.1 hq with rfl|hq
  ·exact hsub _ (hT.m3 hT.rin)
  ·exact hsub _ (hT.m3 (hT.sub q hq))
 refine AM func323 ntmps323 λE=>?_;refine gz ?_;refine AP (CK rfl) ?_;rintro _ _ ⟨b0,hb0,rfl,rfl⟩;refine gz ?_;refine Bb (AJ (R:=(b0,Obj.cells (toArray (Co s)) 61 (0,0))::l) rfl rfl λl2 hl2=>of_any b rb m F all os es clock lq s hT l2 λc hc=>hl2 c (.tail _ (hsub c hc))) ?_;cases hbk:blk F os s with
 |none=>
  have e:belowD (E3 F os) s=[]:=by unfold belowD;rw[Jf hbk]
  rw[e];refine gz ?_;exact A9 (.drop .refl) ⟨[],OwnSl.nil _ _,rfl⟩
 |some p=>
  obtain⟨Ao,Bo,rfl,hsd⟩:=Gy hbk;have e:belowD (E3 F (Ao++p::Bo)) s=(Bo.takeWhile λq=>decide ((F p).dp<(F q).dp)).map λq=>(F q).sl:=by unfold belowD;rw[hsd];exact RZ Bo
  rw[e];simp only[Md];refine HC λb6=>?_;refine AP (Da rfl rfl (T9 _ _ _)) ?_;rintro v l' ⟨C1,C2,rfl,rfl⟩;refine gz ?_;refine C0 (α:=Nat) (ps:=[16]) (lb:=[.pointer (some ⟨C2,0,none⟩),.pointer (some ⟨C1,0,none⟩)]) rfl (R8 C1 C2 b rb m p F all (Ao++p::Bo) es clock lq hT (rb::Ao) Bo rfl) (λ_=>rfl) rfl
   (λpre l=> ∃v cs,OwnSl 61 2 v pre.length (scs (pre.map λq=>(F q).sl)) cs/\l=[Wy C1 p,XC C2 b,(b6,.cells #[v] 64 (0,0))]++cs)
   (λc pre l=>False)
   _ l (λpre l2 X2 hX h=>by obtain⟨v,cs,_,rfl⟩:=h;exact⟨.head _,.tail _ (.head _),Aa _ (hX _ h1),λq hq=>⟨F q,Aa _ (hX _ (hnod q hq)),rfl,λ_=>rfl⟩⟩) (by exact AS) ⟨_,[],OwnSl.nil _ _,rfl⟩ ?_ ?_ ?_
  ·rintro E r0 rec pre y l' T ⟨fn,tmps,Dd,rfl⟩ hT0 ⟨v,cs',hown,rfl⟩ hsp;have hy:y∈rb::(Ao++p::Bo):=An _ (Aa _ (An _ ((DZ _).subset (hsp.subset (by simp)))));have hyT:=hT0 _ (hnod y hy);have hpl:pre.length<=1000000:=by have h1:=hsp.length_le;have h2:=(DZ (l:=Bo) λq=>decide ((F p).dp<(F q).dp)).length_le;simp at h1 hnl;omega
   simp only[DG,Ae,Ag];refine gz ?_;refine Cy (.there (.there (.there (Fg _ _ _ _ _)))) ?_;generalize hX1:(r0,Obj.loop (Dz fn tmps _ _ _ Dd .busy none))::T=X1;have hyX:No y (F y)∈X1:=by rw[<-hX1];exact .tail _ hyT
   refine gz ?_;refine Ch [5,6,7] 8 ([]) ?_;refine pz ?_;apply FM (S:=[(b6,.cells #[v] 64 (0,0))])
   ·exact DH rfl (.head _) rfl
   ·intro c hc;cases hc with
    |head=>exact .tail _ (.tail _ (.head _))
    |tail _ h=>cases h
   ·rfl
   ·rfl
   ·rfl
   refine pz ?_;apply FM (S:=[No y (F y)])
   ·exact HQ rfl (.head _) (by(repeat(first|with_reducible apply LSub.done|with_reducible apply LSub.take|with_reducible apply LSub.drop)))
   ·intro c hc;cases hc with
    |head=>exact .tail _ (.tail _ (.tail _ (Aa _ hyX)))
    |tail _ h=>cases h
   ·rfl
   ·rfl
   ·rfl
   refine pz ?_;apply GC
   ·apply Fb (ws:=Co (F y).sl) (k:=2)
    ·rfl
    ·rfl
    ·rfl
    ·decide
    ·decide
   ·rfl
   ·rfl
   ·rfl
   ·intro _ _ _ c hc;cases hc
   ·rintro _ _ ⟨bl,_,rfl,rfl⟩ x hx _ c hc;have h3: ∀o:Obj,(b6,o)∈(bl,Obj.cells (toArray (Co (F y).sl)) 61 (0,0))::Wy C1 p::XC C2 b::(b6,o)::(cs'++X1):=λo=> .tail _ (.tail _ (.tail _ (.head _)));simp only[Ap,BQ,Eo] at hx;rcases hx with rfl|rfl<;>simp only[Ap,BQ,Eo] at hc<;>subst hc
    ·exact .tail _ (.tail _ (.tail _ (.tail _ (Aa _ hyX))))
    ·exact h3 _
   rintro _ _ ⟨bl,_,rfl,rfl⟩;refine pz ?_;apply GC
   ·apply GX (k:=2) (X:=[Wy C1 p,XC C2 b,(b6,.cells #[v] 64 (0,0))]) (cs:=cs') (xs:=scs (pre.map λq=>(F q).sl)) (n:=pre.length) (zs:=[.int .i64 0,.int .i64 0]) (ws:=Co (F y).sl)
    ·rfl
    ·rfl
    ·rfl
    ·exact hown
    ·rfl
    ·simp[Value.oneCell']
    ·omega
    ·decide
   ·rfl
   ·rfl
   ·rfl
   ·intro _ _ _ c hc;cases hc
   ·exact λ_ _ _ x hx ha=>C3 Bs hx ha
   rintro v' _ ⟨c2,ho2,rfl⟩;have hv1:v'.oneCell'=true:=ho2.one;simp only[Ae,Ag];apply GW
   ·apply F0 (cs:=[v])
    ·rfl
    ·rfl
    ·exact hv1
    ·exact BS
    ·exact .zero
    ·exact DI
   ·rfl
   ·rfl
   ·intro _ _ _ c hc;cases hc
   ·exact λ_ _ _ x hx ha=>C3 Bs hx ha
   rintro _ _ ⟨rfl,rfl⟩;refine pz ?_;refine gz ?_;rw[<-hX1];refine B0 _ (.refl) ⟨v',c2,?_,rfl⟩;rw[Aq,AI,CI,scs_snoc,Ai];exact ho2
  ·rintro Dd xs l' rfl ⟨v,cs',hown,rfl⟩;have hv1:v.oneCell'=true:=hown.one;simp only[Ae,Ag];refine gz ?_;refine AW [Dd] (cs'++l) rfl (l':=cs'++l) (by exact AS) (by exact A8) .refl ?_;exact⟨cs',by rw[A3];exact hown,rfl⟩
  ·rintro Dd c pre l' hsp h;exact h.elim
theorem move_any(b:Nat)(D:DT)(lq:List Ab)(hq:IsT b D lq)(a c:SlotT)(G:List Ab):
 Fn prog 287 [.pointer (some ⟨b,0,none⟩),.agg (toArray (Co a)),.agg (toArray (Co c))] (lq++G) λv l'=>v= .int .i64 (moveD D a c).1/\ ∃lq',IsT b (moveD D a c).2 lq'/\l'=lq'++G:=by
 obtain⟨rb,m,F,all,os,es,clock,rfl,hT⟩:=hq;refine AM func287 ntmps287 λE=>?_;refine gz ?_;refine AP (CK rfl) ?_;rintro _ _ ⟨b4,hb4,rfl,rfl⟩;refine gz ?_;refine AP (CK rfl) ?_;rintro _ _ ⟨b5,hb5,rfl,rfl⟩;have hk2: ∀lq:List Ab,Keep (lq++(Dh b5 c::Dh b4 a::G)) (lq++G):=λlq=>Keep.trans (.of_perm (AA lq [Dh b5 c,Dh b4 a] G)) (.drop (.drop .refl));refine Bk (Keep.of_perm (l':=lq++(Dh b5 c::Dh b4 a::G)) (AA [Dh b5 c,Dh b4 a] lq G)) ?_;have hsub: ∀x,x∈lq->x∈lq++(Dh b5 c::Dh b4 a::G):=λx hx=>Ah _ hx;have hm4:Dh b4 a∈lq++(Dh b5 c::Dh b4 a::G):=Aa _ (.tail _ (.head _));have hm5:Dh b5 c∈lq++(Dh b5 c::Dh b4 a::G):=Aa _ (.head _);refine gz ?_;refine Bb (AJ rfl rfl λl2 hl2=>of_any b rb m F all os es clock lq a hT l2 λx hx=>hl2 x (hsub x hx)) ?_;cases hbp:blk F os a with
 |none=>rw[show moveD (E3 F os) a c=(10,E3 F os) by unfold moveD;rw[Jf hbp]];simp only[Md];refine gz ?_;exact A9 (l':=lq++G) (hk2 lq) ⟨rfl,lq,⟨rb,m,F,all,os,es,clock,rfl,hT⟩,rfl⟩
 |some p=>
  simp only[Md];refine gz ?_;refine Bb (AJ rfl rfl λl2 hl2=>of_any b rb m F all os es clock lq c hT l2 λx hx=>hl2 x (hsub x hx)) ?_;cases hbk:blk F os c with
  |some q=>rw[show moveD (E3 F os) a c=(11,E3 F os) by unfold moveD;obtain⟨A,B,_,h2⟩:=Gy hbp;rw[h2];simp only;rw[Mf,hbk];rfl];simp only[Md];refine gz ?_;exact A9 (l':=lq++G) (hk2 lq) ⟨rfl,lq,⟨rb,m,F,all,os,es,clock,rfl,hT⟩,rfl⟩
  |none=>
   rw[show moveD (E3 F os) a c=(0,(splitD a (E3 F os)).elim [] λy=>y.1++(c,y.2.1)::y.2.2) by unfold moveD;obtain⟨A,B,_,h2⟩:=Gy hbp;rw[h2];simp only;rw[Mf,hbk];rfl];obtain⟨A,B,rfl,h2⟩:=Gy hbp;rw[h2];have hps:=(HM hbp).2;have hpa:p∈all:=hT.sub p (by simp);have hno:=Jx hbk;obtain⟨uA,uB⟩:=hT.uniq;rw[hps] at uA uB;simp only[Md];rw[hT.eq];simp only[Ae];have hb4: ∀F':Nat->NdT,Dh b4 a∈Np F' all++(Dh b5 c::Dh b4 a::G):=λF'=>Aa _ (.tail _ (.head _));have hb5: ∀F':Nat->NdT,Dh b5 c∈Np F' all++(Dh b5 c::Dh b4 a::G):=λF'=>Aa _ (.head _);refine gz ?_;refine Ch [5] 6 ([]) ?_;refine pz ?_;apply FM (S:=[Kn b rb m]);(·exact Tf);(·exact CS (.head _));(·rfl);(·rfl);(·rfl);refine pz ?_;apply FM (S:=[Dh b4 a]);(·exact Tf);(·exact CS (.tail _ (.tail _ (hb4 F))));(·rfl);(·rfl);(·rfl);refine pz ?_;apply GW
   ·apply TH (enc:=Co) (a:=a) (es:=es) (clock:=clock) (ks:=[some .i64,some .i64])
    ·rfl
    ·rfl
    ·exact Mc
    ·exact DI
   (·rfl);(·rfl);(·intro _ _ _ c hc;cases hc);(·exact λ_ _ _ x hx ha=>C3 Bs hx ha)
   rintro _ _ ⟨rfl,rfl⟩;refine pz ?_;have hm5':=hb5 F;refine gz ?_;refine Mu (l:=Kn b rb m::(m,Hx Co (N9 a es) clock)::(Np F all++(Dh b5 c::Dh b4 a::G))) (Et (b:=p) (off:=0) (cs:=toArray (F p).cells) (n:=2) rfl rfl rfl (by simp[Value.oneCell']) (.there (.there (Jw (KZ {F p with sl:=c} hT.nd hpa) _))) (by simp)) rfl rfl ?_;rintro _ _ ⟨rfl,rfl⟩;obtain⟨F1,hF1⟩: ∃F1,F1=upd F p {F p with sl:=c}:=⟨_,rfl⟩
   rw[<-hF1];have hm51:=hb5 F1;refine gz ?_;refine Ch [6] 7 ([]) ?_;refine pz ?_;apply FM (S:=[Kn b rb m]);(·exact Tf);(·exact CS (.head _));(·rfl);(·rfl);(·rfl);refine pz ?_;apply FM (S:=[Dh b5 c]);(·exact Tf);(·exact CS (.tail _ (.tail _ (hb5 F1))));(·rfl);(·rfl);(·rfl);refine pz ?_;apply GW
   ·apply O2 (enc:=Co) (a:=c) (es:=N9 a es) (clock:=clock) (ks:=[some .i64,some .i64])
    ·rfl
    ·rfl
    ·rfl
    ·exact Mc
    ·exact DI
   (·rfl);(·rfl);(·intro _ _ _ c hc;cases hc);(·exact λ_ _ _ x hx ha=>C3 Bs hx ha)
   rintro _ _ ⟨rfl,rfl⟩;refine pz ?_;refine gz ?_;have ep:F1 p={F p with sl:=c}:=by rw[hF1,Du]
   have eo: ∀q,q≠p->F1 q=F q:=λq hq=>by rw[hF1,C7 _ _ _ _ hq]
   have el: ∀q,(F1 q).nx=(F q).nx/\(F1 q).pv=(F q).pv/\(F1 q).dp=(F q).dp:=λq=>by
    by_cases e:q=p
    ·rw[e,ep];exact⟨rfl,rfl,rfl⟩
    ·rw[eo q e];exact⟨rfl,rfl,rfl⟩
   have oA: ∀q,q∈A->q≠p:=λq hq e=>hT.out.1 (e▸hq);have oB: ∀q,q∈B->q≠p:=λq hq e=>hT.out.2.1 (e▸hq);obtain⟨lq',hlq'⟩: ∃lq',lq'=Kn b rb m::(m,Hx Co (KE c (.pointer (some ⟨p,0,none⟩)) clock (N9 a es)).1 (KE c (.pointer (some ⟨p,0,none⟩)) clock (N9 a es)).2)::Np F1 all:=⟨_,rfl⟩
   have hdA:E3 F1 A=E3 F A:=NT λq hq=>by rw[eo q (oA q hq)];exact⟨rfl,rfl⟩
   have yp:E3 F1 B=E3 F B:=NT λq hq=>by rw[eo q (oB q hq)];exact⟨rfl,rfl⟩
   refine A9 (l':=lq'++G) ?_ ⟨rfl,lq',⟨rb,m,F1,all,A++p::B,_,_,?_,⟨hlq',hT.nd,hT.rin,hT.sub,hT.ond,Nq hT.adj (λu _=>(el u).1) (λv _=>(el v).2.1),?_,(hT.keys.del a).set _ _,λs'=>?_⟩⟩,rfl⟩
   ·have h9:=hk2 lq';rw[hlq'] at h9;rw[hlq'];exact h9
   ·show E3 F1 (A++p::B)=E3 F A++(c,(F p).dp)::E3 F B;rw[<-hdA,<-yp];unfold E3;rw[Aq,AI,ep]
   ·have h1:A.map (λq=>(F1 q).sl)=A.map (λq=>(F q).sl):=Bw λq hq=>by rw[eo q (oA q hq)]
    have h2:B.map (λq=>(F1 q).sl)=B.map (λq=>(F q).sl):=Bw λq hq=>by rw[eo q (oB q hq)]
    have hn:=hT.snd;rw[Aq,AI] at hn⊢;rw[h1,h2,ep];have hn2:=(AH.nodup_iff.1 hn)
    refine AH.nodup_iff.2 (AN.2 ⟨λh=>?_,(AN.1 hn2).2⟩);rcases AE.1 h with h|h
    ·obtain⟨q,hq,e⟩:=Au.1 h;exact hno q (Ah _ hq) e
    ·obtain⟨q,hq,e⟩:=Au.1 h;exact hno q (Aa _ (.tail _ hq)) e
   ·show _=(blk F1 (A++p::B) s').map _;rw[Jv,O0 hT.keys,hT.get];show(if s'=c then _ else if s'=a then none else(blk F (A++p::B) s').map _)=_;have ec:(F1 p).sl=c:=by rw[ep]
    rw[UZ,UZ,ec,NS (F:=F) (F':=F1) (os:=A) λq hq=>by rw[eo q (oA q hq)],NS (F:=F) (F':=F1) (os:=B) λq hq=>by rw[eo q (oB q hq)],hps];by_cases hc:s'=c
    ·subst hc;rw[Ad rfl,Ad rfl,Hp.2 λq hq=>hno q (Ah _ hq)];rfl
    ·rw[Ac hc,Ac (show ¬c=s' from λe=>hc e.symm)];by_cases ha:s'=a
     ·subst ha;rw[Ad rfl,Hp.2 uA,Hp.2 uB];rfl
     ·rw[Ac ha,Ac (show ¬a=s' from λe=>ha e.symm)]
theorem remove_any(b:Nat)(D:DT)(lq:List Ab)(hq:IsT b D lq)(hd:SmallD D)(s:SlotT)(G:List Ab):
 Fn prog 364 [.pointer (some ⟨b,0,none⟩),.agg (toArray (Co s))] (lq++G) λv l'=>v= .int .i64 (removeD D s).1/\ ∃lq',IsT b (removeD D s).2 lq'/\l'=lq'++G:=by
 obtain⟨rb,m,F,all,os,es,clock,rfl,hT⟩:=hq;refine AM func364 ntmps364 λE=>?_;refine gz ?_;refine AP (CK rfl) ?_;rintro _ _ ⟨b3,hb3,rfl,rfl⟩;have hk2: ∀lq:List Ab,Keep (lq++(Dh b3 s::G)) (lq++G):=λlq=>Keep.trans (.of_perm AH) (.drop .refl);refine Bk (Keep.of_perm (l':=lq++(Dh b3 s::G)) AH.symm) ?_;have hsub: ∀c,c∈lq->c∈lq++(Dh b3 s::G):=λc hc=>Ah _ hc;have hbm:Dh b3 s∈lq++(Dh b3 s::G):=Aa _ (.head _);refine gz ?_;refine Bb (AJ rfl rfl λl2 hl2=>of_any b rb m F all os es clock lq s hT l2 λc hc=>hl2 c (hsub c hc)) ?_;cases hbk:blk F os s with
 |none=>rw[show removeD (E3 F os) s=(10,E3 F os) by unfold removeD;rw[Jf hbk]];simp only[Md];refine gz ?_;exact A9 (l':=lq++G) (hk2 lq) ⟨rfl,lq,⟨rb,m,F,all,os,es,clock,rfl,hT⟩,rfl⟩
 |some p=>
  obtain⟨A,B,rfl,h2⟩:=Gy hbk;have hps:=(HM hbk).2;obtain⟨oA,oB,rA,rB,prb⟩:=hT.out;obtain⟨uA,uB⟩:=hT.uniq;have hBn:B.Nodup:=(AN.1 (Bu.1 (AN.1 hT.ond).2).2.1).2;obtain⟨tw,htw⟩: ∃tw,tw=B.takeWhile λq=>decide ((F p).dp<(F q).dp):=⟨_,rfl⟩
  have htwB: ∀q,q∈tw->q∈B:=λq hq=>by rw[htw] at hq;exact(DZ _).subset hq
  have hpa:p∈all:=hT.sub p (by simp);rw[show removeD (E3 F (A++p::B)) s=(0,E3 F A++E3 (Mg F tw) B) by unfold removeD;rw[h2];simp only;rw[htw,my hBn]];simp only[Md];refine gz ?_;refine AP (Da rfl rfl (T9 _ _ _)) ?_;rintro v l' ⟨C1,C2,rfl,rfl⟩;refine gz ?_;refine C0 (α:=Nat) (ps:=[19]) (lb:=[.pointer (some ⟨C2,0,none⟩),.pointer (some ⟨C1,0,none⟩)]) rfl (R8 C1 C2 b rb m p F all (A++p::B) es clock lq hT (rb::A) B rfl) (λ_=>rfl) rfl
   (λpre l=>l=Wy C1 p::XC C2 b::Kn b rb m::(m,Hx Co es clock)::Np (Mg F pre) all)
   (λc pre l=>False)
   _ (Dh b3 s::G) (λpre l2 X2 hX h=>by
     subst h;refine⟨.head _,.tail _ (.head _),.tail _ (.tail _ (.head _)),λq hq=>?_⟩;have hqa:q∈all:=by
      rcases Ap.1 hq with rfl|hq
      ·exact hT.rin
      ·exact hT.sub q hq
     exact⟨Mg F pre q,.tail _ (.tail _ (.tail _ (.tail _ (Ah _ (Pf hqa))))),(R2 F pre q).2.1,λhn=>by rw[LC hn]⟩)
   (by rw[hT.eq,PO (F:=F) (F':=Mg F []) λq _=>(LC (by simp)).symm];exact .refl) rfl ?_ ?_ ?_
  ·rintro E r0 rec pre y l' T ⟨fn,tmps,Dd,rfl⟩ hT0 rfl hsp;have hyB:y∈B:=htwB y (by rw[htw];exact hsp.subset (by simp));have hya:y∈all:=hT.sub y (Aa _ (.tail _ hyB));have hyp:y∉pre:=λh=>by
    have h1:(pre++[y]).Nodup:=(hsp.trans (DZ _)).sublist.nodup hBn;exact(Bu.1 h1).2.2 y h y (by simp) rfl
   have hr:=hd _ (Au.2 ⟨y,Aa _ (.tail _ hyB),rfl⟩);simp only at hr;simp only[DG,Ae,Ag];refine gz ?_;refine Cy (.there (.there (.there (.there (Fg _ _ _ _ _))))) ?_;generalize hX1:(r0,Obj.loop (Dz fn tmps _ _ _ Dd .busy none))::T=X1;have hmy:No y (F y)∈Np (Mg F pre) all++X1:=Ah _ (by have:=Pf (F:=Mg F pre) hya;rw[LC hyp] at this;exact this);refine gz ?_;have hu:=KZ (F:=Mg F pre) {F y with dp:=(F y).dp-1} hT.nd hya;rw[LC hyp,cF hyp] at hu;refine Mu (Dg (b:=y) (off:=2) (cs:=toArray (F y).cells) rfl rfl rfl (.there (.there (.there (.there (Jw hu _))))) (by simp)) rfl rfl ?_;rintro _ _ ⟨rfl,rfl⟩;refine gz ?_;rw[<-hX1];exact B0 (_::_::_::_::Np (Mg F (pre++[y])) all) .refl rfl
  ·rintro Dd xs l' rfl rfl;rw[<-htw];simp only[Ae,Ag];obtain⟨F1,hF1⟩: ∃F1,F1=Mg F tw:=⟨_,rfl⟩
   have e1: ∀q,(F1 q).sl=(F q).sl/\(F1 q).nx=(F q).nx/\(F1 q).pv=(F q).pv:=λq=>by rw[hF1];exact R2 F tw q
   have e1o: ∀q,q∉tw->F1 q=F q:=λq hq=>by rw[hF1];exact LC hq
   rw[<-hF1];refine JF (l':=Cf Dd::Kn b rb m::(m,Hx Co es clock)::(Np F1 all++(Dh b3 s::G))) (by exact AS) ?_;obtain⟨X,pp,hXp⟩: ∃X pp,rb::A=X++[pp]:=⟨_,_,(Gq (Lr rb A)).symm⟩
   obtain⟨nn,Z,hnZ⟩: ∃nn Z,B++[rb]=nn::Z:=by cases B with|nil=>exact⟨_,_,rfl⟩|cons y Y=>exact⟨_,_,rfl⟩
   have hL:rb::(A++p::B++[rb])=X++pp::p::nn::Z:=by
    have:rb::(A++p::B++[rb])=(rb::A)++(p::(B++[rb])):=by simp
    rw[this,hXp,hnZ];simp
   have hadj:=hT.adj;rw[hL] at hadj;have hpp:=(Me hadj).2;have hnn:(F p).nx=nn:=(Me (X:=X++[pp]) (p:=p) (n:=nn) (Z:=Z) (by simpa using hadj)).1;have hcyc: ∀q,q∈X++pp::p::nn::Z->q∈all:=λq hq=>by
    rw[<-hL] at hq;rcases Ap.1 hq with rfl|hq
    ·exact hT.rin
    ·rcases AE.1 hq with hq|hq
     ·exact hT.sub q hq
     ·rw[Ax.1 hq];exact hT.rin
   have hppa:pp∈all:=hcyc pp (by simp);have hnna:nn∈all:=hcyc nn (by simp);have hp1:F1 p=F p:=e1o p λh=>oB (htwB p h);have hmp: ∀d:Ab,No p (F p)∈d::Kn b rb m::(m,Hx Co es clock)::(Np F1 all++(Dh b3 s::G)):=λd=> .tail _ (.tail _ (.tail _ (Ah _ (by have:=Pf (F:=F1) hpa;rw[hp1] at this;exact this))));refine gz ?_;refine Ch [18,21] 22 ([]) ?_;refine pz ?_;apply FM (S:=[No p (F p)]);(·exact Tf);(·exact CS (hmp _));(·rfl);(·rfl);(·rfl);refine pz ?_;apply FM (S:=[No p (F p)]);(·exact Tf);(·exact CS (hmp _));(·rfl);(·rfl);(·rfl);refine pz ?_;apply FM (S:=[No p (F p)]);(·exact Tf);(·exact CS (hmp _));(·rfl);(·rfl);(·rfl);refine pz ?_;apply FM (S:=[No p (F p)]);(·exact Tf);(·exact CS (hmp _));(·rfl);(·rfl);(·rfl);rw[hpp,hnn];refine pz ?_;obtain⟨F2,hF2⟩: ∃F2,F2=upd F1 pp {F1 pp with nx:=nn}:=⟨_,rfl⟩
   obtain⟨F3,hF3⟩: ∃F3,F3=upd F2 nn {F2 nn with pv:=pp}:=⟨_,rfl⟩
   apply GW
   ·exact Dg (b:=pp) (off:=4) (cs:=toArray (F1 pp).cells) rfl rfl rfl (.there (.there (.there (Jw (KZ {F1 pp with nx:=nn} hT.nd hppa) _)))) (by simp)
   (·rfl);(·rfl);(·intro _ _ _ c hc;cases hc);(·exact λ_ _ _ x hx ha=>C3 Bs hx ha)
   rintro _ _ ⟨rfl,rfl⟩;rw[<-hF2];refine pz ?_;apply GW
   ·exact Dg (b:=nn) (off:=3) (cs:=toArray (F2 nn).cells) rfl rfl rfl (.there (.there (.there (Jw (KZ {F2 nn with pv:=pp} hT.nd hnna) _)))) (by simp)
   (·rfl);(·rfl);(·intro _ _ _ c hc;cases hc);(·exact λ_ _ _ x hx ha=>C3 Bs hx ha)
   rintro _ _ ⟨rfl,rfl⟩;rw[<-hF3];refine pz ?_;refine gz ?_;refine Ch [5] 6 ([]) ?_;refine pz ?_;apply FM (S:=[Kn b rb m]);(·exact Tf);(·exact CS (.tail _ (.head _)));(·rfl);(·rfl);(·rfl);refine pz ?_;apply FM (S:=[Dh b3 s]);(·exact Tf);(·exact CS (.tail _ (.tail _ (.tail _ (Aa _ (.head _))))));(·rfl);(·rfl);(·rfl);refine pz ?_;apply GW
   ·apply TH (enc:=Co) (a:=s) (es:=es) (clock:=clock) (ks:=[some .i64,some .i64])
    ·rfl
    ·rfl
    ·exact Mc
    ·exact DI
   (·rfl);(·rfl);(·intro _ _ _ c hc;cases hc);(·exact λ_ _ _ x hx ha=>C3 Bs hx ha)
   rintro _ _ ⟨rfl,rfl⟩;refine pz ?_;refine gz ?_;have e3: ∀q,(F3 q).sl=(F q).sl/\(F3 q).dp=(F1 q).dp:=λq=>by
    rw[<-(e1 q).1,hF3,hF2];unfold upd
    split<;>split<;>simp_all
   have e3n: ∀q,(F3 q).nx=if q=pp then nn else(F q).nx:=λq=>by
    rw[<-(e1 q).2.1,hF3,hF2];unfold upd
    split<;>split<;>simp_all
   have e3p: ∀q,(F3 q).pv=if q=nn then pp else(F q).pv:=λq=>by
    rw[<-(e1 q).2.2,hF3,hF2];unfold upd
    split<;>split<;>simp_all
   have eA: ∀q,q∈A->(F3 q).sl=(F q).sl/\(F3 q).dp=(F q).dp:=λq hq=>by refine⟨(e3 q).1,?_⟩;rw[(e3 q).2,e1o q λh=>?_];have hn:=(AN.1 hT.ond).2;exact(Bu.1 hn).2.2 q hq q (.tail _ (htwB q h)) rfl
   obtain⟨lq',hlq'⟩: ∃lq',lq'=Kn b rb m::(m,Hx Co (N9 s es) clock)::Np F3 all:=⟨_,rfl⟩
   refine AW [Dd] (Kn b rb m::(m,Hx Co (N9 s es) clock)::(Np F3 all++(Dh b3 s::G))) rfl (l':=lq'++G) .refl (by exact A8) ?_ ⟨rfl,lq',⟨rb,m,F3,all,A++B,_,_,?_,⟨hlq',hT.nd,hT.rin,λq hq=>hT.sub q ?_,?_,?_,?_,hT.keys.del s,λs'=>?_⟩⟩,rfl⟩
   ·have h9:=hk2 lq';rw[hlq'] at h9;rw[hlq'];exact h9
   ·show E3 F3 (A++B)=E3 F A++E3 F1 B;have:E3 F3 (A++B)=E3 F3 A++E3 F3 B:=by unfold E3;rw[Aq]
    rw[this,NT (F:=F) (F':=F3) (os:=A) eA,NT (F:=F1) (F':=F3) (os:=B) λq hq=>⟨by rw[(e3 q).1,(e1 q).1],(e3 q).2⟩]
   ·rcases AE.1 hq with hq|hq
    ·exact Ah _ hq
    ·exact Aa _ (.tail _ hq)
   ·exact hT.ond.sublist (List.Sublist.cons_cons _ (FJ (DQ _ _) _))
   ·have hL2:rb::(A++B++[rb])=X++pp::nn::Z:=by
     have:rb::(A++B++[rb])=(rb::A)++(B++[rb]):=by simp
     rw[this,hXp,hnZ];simp
    rw[hL2];refine OF hadj ?_ ?_ (λu h1=>?_) (λv h1=>?_) ?_ ?_
    ·rw[<-hL,<-Ae,List.dropLast_concat];exact hT.ond
    ·rw[<-hL,IC,Bu];have:=AN.1 hT.ond;exact⟨this.2,by simp,λa ha c hc e=>this.1 (by rw[Ax.1 hc] at e;rw[<-e];exact ha)⟩
    ·rw[e3n,Ac h1]
    ·rw[e3p,Ac h1]
    ·rw[e3n,Ad rfl]
    ·rw[e3p,Ad rfl]
   ·rw[show(A++B).map (λq=>(F3 q).sl)=(A++B).map (λq=>(F q).sl) from Bw λq _=>(e3 q).1];exact hT.snd.sublist ((FJ (DQ _ _) _).map _)
   ·show _=(blk F3 (A++B) s').map _;rw[O0 hT.keys,hT.get];show(if s'=s then none else(blk F (A++p::B) s').map _)=_;rw[NS (F:=F) (F':=F3) λq _=>(e3 q).1,UZ,hps];have hAB:blk F (A++B) s'=(blk F A s').or (blk F B s'):=by unfold blk;rw[Dm]
    rw[hAB];by_cases hss:s'=s
    ·subst hss;rw[hps] at uA uB;rw[Ad rfl,Hp.2 uA,Hp.2 uB];rfl
    ·rw[Ac hss,Ac (show ¬s=s' from λe=>hss e.symm)]
  ·rintro Dd c pre l' hsp h;exact h.elim
section
variable{fr:Fr}{d:Option Nat}{ty t t2:TypeId}{pos:String}{aft:Array Edge}{g:Option (Nat×Bool)}{x y:Operand}
end
theorem swap_any(b:Nat)(D:DT)(lq:List Ab)(hq:IsT b D lq)(a c:SlotT)(G:List Ab):
 Fn prog 288 [.pointer (some ⟨b,0,none⟩),.agg (toArray (Co a)),.agg (toArray (Co c))] (lq++G) λv l'=>v= .int .i64 0/\ ∃lq',IsT b (swapD D a c) lq'/\l'=lq'++G:=by
 have hq0:=hq;obtain⟨rb,m,F,all,os,es,clock,rfl,hT⟩:=hq;refine AM func288 ntmps288 λE=>?_;refine gz ?_;refine AP (CK rfl) ?_;rintro _ _ ⟨b4,hb4,rfl,rfl⟩;refine gz ?_;refine AP (CK rfl) ?_;rintro _ _ ⟨b5,hb5,rfl,rfl⟩;have hk2: ∀lq:List Ab,Keep (lq++(Dh b5 c::Dh b4 a::G)) (lq++G):=λlq=>Keep.trans (.of_perm (AA lq [Dh b5 c,Dh b4 a] G)) (.drop (.drop .refl));refine Bk (Keep.of_perm (l':=lq++(Dh b5 c::Dh b4 a::G)) (AA [Dh b5 c,Dh b4 a] lq G)) ?_;have hsub: ∀x,x∈lq->x∈lq++(Dh b5 c::Dh b4 a::G):=λx hx=>Ah _ hx;have hm4:Dh b4 a∈lq++(Dh b5 c::Dh b4 a::G):=Aa _ (.tail _ (.head _));have hm5:Dh b5 c∈lq++(Dh b5 c::Dh b4 a::G):=Aa _ (.head _);refine gz ?_;refine Ch [] 8 _ ?_ (hR:=(λ_ h=>h));refine pz ?_;apply Ej
 ·exact AJ rfl rfl λl2 hl2=>of_any b rb m F all os es clock lq a hT l2 λx hx=>hl2 x (hsub x hx)
 ·rfl
 ·rfl
 ·rfl
 refine pz ?_;apply Ej
 ·exact AJ rfl rfl λl2 hl2=>of_any b rb m F all os es clock lq c hT l2 λx hx=>hl2 x (hsub x hx)
 ·rfl
 ·rfl
 ·rfl
 refine pz ?_;cases hba:blk F os a with
 |none=>
  cases hbc:blk F os c with
  |none=>rw[R3 (Jx hba) (Jx hbc)];simp only[Md];refine gz ?_;exact A9 (l':=lq++G) (hk2 lq) ⟨rfl,lq,hq0,rfl⟩
  |some y=>simp only[Md];refine gz ?_;refine Bb (gY rfl rfl) ?_;refine gz ?_;have hmv:=move_any b (E3 F os) lq hq0 c a (Dh b5 c::Dh b4 a::G);rw[T3 hT hbc hba,Ym] at hmv;refine AP (Az rfl rfl hmv) ?_;rintro _ _ ⟨rfl,lq',hq',rfl⟩;refine gz ?_;exact A9 (l':=lq'++G) (hk2 lq') ⟨rfl,lq',hq',rfl⟩
 |some x=>
  cases hbc:blk F os c with
  |none=>simp only[Md];refine gz ?_;have hmv:=move_any b (E3 F os) lq hq0 a c (Dh b5 c::Dh b4 a::G);rw[T3 hT hba hbc] at hmv;refine AP (Az rfl rfl hmv) ?_;rintro _ _ ⟨rfl,lq',hq',rfl⟩;refine gz ?_;exact A9 (l':=lq'++G) (hk2 lq') ⟨rfl,lq',hq',rfl⟩
  |some y=>
   have hxs:=HM hba;have hys:=HM hbc;have hxa:x∈all:=hT.sub x hxs.1;have hya:y∈all:=hT.sub y hys.1;simp only[Md];refine gz ?_;refine Bb (lU rfl rfl AX (hsub _ (hT.m3 hxa)) (hsub _ (hT.m3 hya))) ?_;by_cases hac:a=c
   ·subst hac;rw[hba] at hbc;obtain rfl:x=y:=AV hbc;rw[ua,show swapD (E3 F os) a a=E3 F os by unfold swapD;rw[Bw λz _=>cG a z,List.map_id']];refine gz ?_;exact A9 (l':=lq++G) (hk2 lq) ⟨rfl,lq,hq0,rfl⟩
   ·have hxy:x≠y:=λe=>hac (by rw[<-hxs.2,<-hys.2,e]);rw[ub hxy];refine gz ?_;refine D3 (l':=Kn b rb m::Dh b5 c::Dh b4 a::(m,Hx Co es clock)::(Np F all++G)) ?_ ?_
    ·rw[hT.eq];refine Keep.of_perm (List.Perm.cons _ ?_);exact AA ((m,Hx Co es clock)::Np F all) [Dh b5 c,Dh b4 a] G
    obtain⟨F1,hF1⟩: ∃F1,F1=upd F x {F x with sl:=c}:=⟨_,rfl⟩
    obtain⟨F2,hF2⟩: ∃F2,F2=upd F1 y {F1 y with sl:=a}:=⟨_,rfl⟩
    refine gz ?_;refine Ch [6,9] 10 ([Dh b5 c,Dh b4 a]) ?_;refine pz ?_;apply M2
    ·exact Et (b:=x) (off:=0) (cs:=toArray (F x).cells) (n:=2) rfl rfl rfl (by simp[Value.oneCell']) (.there (.there (.there (.there (Jw (KZ {F x with sl:=c} hT.nd hxa) _))))) (by simp)
    ·rfl
    ·rfl
    ·rintro _ _ ⟨rfl,rfl⟩;exact(BZ (by exact Ly))
    rintro _ _ ⟨rfl,rfl⟩;rw[<-hF1];refine pz ?_;apply M2
    ·exact Et (b:=y) (off:=0) (cs:=toArray (F1 y).cells) (n:=2) rfl rfl rfl (by simp[Value.oneCell']) (.there (.there (.there (.there (Jw (KZ {F1 y with sl:=a} hT.nd hya) _))))) (by simp)
    ·rfl
    ·rfl
    ·rintro _ _ ⟨rfl,rfl⟩;exact(BZ (by exact Ly))
    rintro _ _ ⟨rfl,rfl⟩;rw[<-hF2];refine pz ?_;obtain⟨A1,e1,B1,k1,k2,k3,k4,k5,k6⟩:=Z4 (v:= .pointer (some ⟨y,0,none⟩)) hT.keys (a:=a) (u:= .pointer (some ⟨x,0,none⟩)) (by rw[hT.get];show(blk F os a).map _=_;rw[hba];rfl);have hkeys1:=hT.keys.set a (.pointer (some ⟨y,0,none⟩));rw[k6] at hkeys1;obtain⟨A2,e2,B2,j1,j2,j3,j4,j5,j6⟩:=Z4 (v:= .pointer (some ⟨x,0,none⟩)) hkeys1 (a:=c) (u:= .pointer (some ⟨y,0,none⟩)) (by rw[Jv,Ac (λe=>hac e.symm),hT.get];show(blk F os c).map _=_;rw[hbc];rfl);have hkeys2:=hkeys1.set c (.pointer (some ⟨x,0,none⟩));rw[j6] at hkeys2;obtain⟨es1,hes1⟩: ∃es1,es1=(KE a (.pointer (some ⟨y,0,none⟩)) clock es).1:=⟨_,rfl⟩
    obtain⟨es2,hes2⟩: ∃es2,es2=(KE c (.pointer (some ⟨x,0,none⟩)) clock es1).1:=⟨_,rfl⟩
    rw[<-hes1] at k5 hkeys1 j1 j5 hkeys2;rw[<-hes2] at j5 hkeys2;refine gz ?_;refine Ch [12,14,15,17] 18 ([Kn b rb m,Dh b5 c,Dh b4 a]) ?_;refine pz ?_;apply CM
    ·apply P7 (enc:=Co) (a:=a) (es:=es) (clock:=clock) (ks:=[some .i64,some .i64]) (A:=A1) (e:=e1) (B:=B1) (m:=m) (l':=[])
     ·rfl
     ·rfl
     ·exact Mc
     ·exact k1
     ·exact k2
     ·exact k3
     ·exact BS
    ·rfl
    ·rfl
    ·rfl
    ·rintro _ _ ⟨rfl,rfl⟩;exact(BZ (by exact Ly))
    rintro _ _ ⟨rfl,rfl⟩;refine pz ?_;apply M2
    ·apply Oi (enc:=Co) (es:=es) (clock:=clock) (A:=A1) (e:=e1) (B:=B1) (m:=m) (v:= .pointer (some ⟨y,0,none⟩))
     ·rfl
     ·rfl
     ·rfl
     ·exact k1
     ·exact k4
     ·rw[k5];exact DI
    ·rfl
    ·rfl
    ·rintro _ _ ⟨rfl,rfl⟩;exact(BZ (by exact Ly))
    rintro _ _ ⟨rfl,rfl⟩;refine pz ?_;apply CM
    ·apply P7 (enc:=Co) (a:=c) (es:=es1) (clock:=clock) (ks:=[some .i64,some .i64]) (A:=A2) (e:=e2) (B:=B2) (m:=m) (l':=[])
     ·rfl
     ·rfl
     ·exact Mc
     ·exact j1
     ·exact j2
     ·exact j3
     ·exact BS
    ·rfl
    ·rfl
    ·rfl
    ·rintro _ _ ⟨rfl,rfl⟩;exact(BZ (by exact Ly))
    rintro _ _ ⟨rfl,rfl⟩;refine pz ?_;apply M2
    ·apply Oi (enc:=Co) (es:=es1) (clock:=clock) (A:=A2) (e:=e2) (B:=B2) (m:=m) (v:= .pointer (some ⟨x,0,none⟩))
     ·rfl
     ·rfl
     ·rfl
     ·exact j1
     ·exact j4
     ·rw[j5];exact DI
    ·rfl
    ·rfl
    ·rintro _ _ ⟨rfl,rfl⟩;exact(BZ (by exact Ly))
    rintro _ _ ⟨rfl,rfl⟩;refine pz ?_;refine gz ?_;have elx:(F2 x).sl=c:=by rw[hF2,C7 _ _ _ _ hxy,hF1,Du]
    have ely:(F2 y).sl=a:=by rw[hF2,Du]
    have elo: ∀q,q≠x->q≠y->(F2 q).sl=(F q).sl:=λq h1 h2=>by rw[hF2,C7 _ _ _ _ h2,hF1,C7 _ _ _ _ h1]
    have el: ∀q,(F2 q).nx=(F q).nx/\(F2 q).pv=(F q).pv/\(F2 q).dp=(F q).dp:=λq=>by rw[hF2,hF1];unfold upd;split<;>split<;>simp_all
    have hun: ∀q r,q∈os->r∈os->(F q).sl=(F r).sl->q=r:=λq r hq hr e=>by
     obtain⟨A,B,rfl⟩:=Ga hr;obtain⟨uA,uB⟩:=hT.uniq;rcases AE.1 hq with hq|hq
     ·exact absurd e (uA q hq)
     ·rcases Ap.1 hq with rfl|hq
      ·rfl
      ·exact absurd e (uB q hq)
    have hsw: ∀q,q∈os->((F2 q).sl,(F2 q).dp)=LD a c ((F q).sl,(F q).dp):=λq hq=>by
     unfold LD;by_cases h1:q=x
     ·rw[h1,elx,(el x).2.2];simp only;rw[Ad hxs.2]
     ·by_cases h2:q=y
      ·rw[h2,ely,(el y).2.2];simp only;rw[Ac (by rw[hys.2];exact λe=>hac e.symm),Ad hys.2]
      ·rw[elo q h1 h2,(el q).2.2];simp only;rw[Ac (λe=>h1 (hun q x hq hxs.1 (by rw[e,hxs.2]))),Ac (λe=>h2 (hun q y hq hys.1 (by rw[e,hys.2])))]
    have hgt: ∀s',Hl s' es2=(blk F2 os s').map λp=> .pointer (some ⟨p,0,none⟩):=λs'=>by
     rw[hes2,Jv,hes1,Jv,hT.get];show(if s'=c then _ else if s'=a then _ else(blk F os s').map _)=_;have huf: ∀p,p∈os->(F2 p).sl=s'->(∀q,q∈os->(F2 q).sl=s'->q=p)->blk F2 os s'=some p:=λp hp hps hu=>by
      cases hb:blk F2 os s' with
      |none=>exact absurd hps (Jx hb p hp)
      |some q=>rw[hu q (HM hb).1 (HM hb).2]
     by_cases h1:s'=c
     ·rw[Ad h1,huf x hxs.1 (by rw[elx,h1]) λq hq e=>?_]
      ·rfl
      ·by_cases hqx:q=x
       ·exact hqx
       ·by_cases hqy:q=y
        ·rw[hqy,ely,h1] at e;exact absurd e hac
        ·rw[elo q hqx hqy,h1,<-hys.2] at e;exact absurd (hun q y hq hys.1 e) hqy
     ·rw[Ac h1];by_cases h2:s'=a
      ·rw[Ad h2,huf y hys.1 (by rw[ely,h2]) λq hq e=>?_]
       ·rfl
       ·by_cases hqy:q=y
        ·exact hqy
        ·by_cases hqx:q=x
         ·rw[hqx,elx,h2] at e;exact absurd e.symm hac
         ·rw[elo q hqx hqy,h2,<-hxs.2] at e;exact absurd (hun q x hq hxs.1 e) hqx
      ·rw[Ac h2];cases hb:blk F os s' with
       |none=>
        rw[Hp.2 λq hq e=>?_];by_cases hqx:q=x
        ·rw[hqx,elx] at e;exact h1 e.symm
        ·by_cases hqy:q=y
         ·rw[hqy,ely] at e;exact h2 e.symm
         ·rw[elo q hqx hqy] at e;exact Jx hb q hq e
       |some p=>
        have hp:=HM hb;have hpx:p≠x:=λe=>h2 (by rw[<-hp.2,e,hxs.2]);have hpy:p≠y:=λe=>h1 (by rw[<-hp.2,e,hys.2]);rw[huf p hp.1 (by rw[elo p hpx hpy];exact hp.2) λq hq e=>?_];by_cases hqx:q=x
        ·rw[hqx,elx] at e;exact absurd e.symm h1
        ·by_cases hqy:q=y
         ·rw[hqy,ely] at e;exact absurd e.symm h2
         ·rw[elo q hqx hqy,<-hp.2] at e;exact hun q p hq hp.1 e
    have hD2:E3 F2 os=swapD (E3 F os) a c:=by unfold swapD E3;rw[CJ];exact Bw λq hq=>hsw q hq
    have hsn:(os.map λq=>(F2 q).sl).Nodup:=by
     rw[DM,Cp];have hn:=hT.snd;rw[DM,Cp] at hn;refine hn.imp_of_mem λ{q r} hq hr hne e=>hne ?_;have h1:=hsw q hq;have h2:=hsw r hr;have e1:(LD a c ((F q).sl,(F q).dp)).1=(LD a c ((F r).sl,(F r).dp)).1:=by rw[<-h1,<-h2];exact e
     exact Wz e1
    obtain⟨lq',hlq'⟩: ∃lq',lq'=Kn b rb m::(m,Hx Co es2 clock)::Np F2 all:=⟨_,rfl⟩
    refine A9 (l':=lq'++G) ?_ ⟨rfl,lq',⟨rb,m,F2,all,os,es2,clock,hD2,⟨hlq',hT.nd,hT.rin,hT.sub,hT.ond,Nq hT.adj (λu _=>(el u).1) (λv _=>(el v).2.1),hsn,hkeys2,hgt⟩⟩,rfl⟩;rw[hlq'];simp only[Ae];exact AS
end Tr
set_option maxRecDepth 20000 in
theorem drop_any(b:Nat)(D:SD)(lq:List Ab)(hq:IsS b D lq)(a:Int)(G:List Ab):
 Fn prog 388 [.pointer (some ⟨b,0,none⟩),.int .i64 a] (lq++G) λv l'=>v= .int .i64 (G4 D a).1/\ ∃lq',IsS b (G4 D a).2 lq'/\l'=lq'++G:=by
 have hq0:=hq;obtain⟨S,m,es,clock,rfl,hS⟩:=hq;have hm1:xC b m∈lq++G:=Ah _ hS.m1;have hm2:(m,Fq .i64 es clock)∈lq++G:=Ah _ hS.m2;refine AM func388 ntmps388 λE=>?_;obtain⟨p,n0,cap,hlk,hn0⟩:=hS.look1 a;cases hf:DP NdS.id S a with
 |none=>
  rw[show G4 (S.map NdS.d) a=(2,S.map NdS.d) by unfold G4;rw[JH,hf];rfl];have hz:n0=0:=by unfold IY at hn0;rw[JH,hf] at hn0;simp at hn0;omega
  refine gz ?_;rw[hlk];refine gz ?_;exact A9 .refl ⟨rfl,_,hq0,rfl⟩
 |some nd=>
  obtain⟨hmem,hid⟩:=ED hf;have hsz:=hS.sz nd hmem;have hz:n0=nd.C.length:=by unfold IY at hn0;rw[JH,hf] at hn0;simp at hn0;omega
  obtain⟨nd',hf',_,hnd⟩:=hS.look2 a hn0 Af;rw[hf] at hf';obtain rfl:nd=nd':=AV hf';have hmb:nd.blk∈lq++G:=Ah _ (hS.m3 hmem);refine gz ?_;rw[hnd];refine gz ?_;rw[hnd];refine gz ?_;refine CE (α:=Nat) (λk=>[(0,.pointer (some ⟨b,0,none⟩)),(1,.int .i64 a),(24,nd.val),(25,.int .i64 (nd.C.length:Nat)),(26,.int .i64 k)]) (λ_=>lq++G) (λk=>k<=nd.C.length/\ ∀c,c∈nd.C.take k->c=CA) (λk=>nd.C.length-k) 0 ⟨Bl _,by simp⟩ ⟨rfl,rfl,rfl,rfl,rfl,trivial⟩ .refl ?_;rintro k ⟨hk,hz⟩;by_cases hlt:k<nd.C.length
  ·obtain⟨c,hc⟩: ∃c,nd.C[k]?=some c:=⟨_,Al hlt⟩
   obtain⟨g1,g2⟩:=UV hc;refine gz ?_;refine Bb (Dn (n:=8) rfl hmb g2 g1) ?_;refine HC λb6=>?_;refine Bb (QE (ys:=BW CA) rfl rfl (Ec c) (Ec _)) ?_;rw[show BX (BW c) (BW CA)=Ln c CA from rfl];cases he:Ln c CA with
   |false=>
    rw[show G4 (S.map NdS.d) a=(16,S.map NdS.d) by
     unfold G4;rw[JH,hf];simp only[BL];rw[Ac λh=>by have:=AZ.1 h c (A6 hc);rw[he] at this;cases this]]
    refine gz ?_;exact A9 (.drop .refl) ⟨rfl,_,hq0,rfl⟩
   |true=>
    refine gz ?_;refine BV (k+1) ⟨Af,λx hx=>?_⟩ Af ⟨rfl,rfl,rfl,rfl,rfl,trivial⟩ (.drop .refl);rw[Cg,hc] at hx;rcases AE.1 hx with hx|hx
    ·exact hz x hx
    ·have:x=c:=by simpa using hx
     rw[this];exact UT.1 he
  ·obtain rfl:k=nd.C.length:=by omega
   rw[Ed] at hz;have hall:nd.C.all (λc=>Ln c CA)=true:=AZ.2 λc hc=>UT.2 (hz c hc);rw[show G4 (S.map NdS.d) a=(0,(S.map NdS.d).filter λx=>decide (x.1≠a)) by unfold G4;rw[JH,hf];simp only[BL];rw[Ad hall]]
   obtain⟨A,B,hAB,_,_⟩:=RM hf;have hfil:S.filter (λx=>decide (x.id≠a))=A++B:=by rw[hAB];exact Yi (by rw[<-hAB];exact hS.mb.asc) hid
   refine gz ?_;rw[hS.eq];simp only[Ae];refine Mu (Rp (a:=a) (es:=es) (clock:=clock) rfl rfl (.there .here)) rfl rfl ?_;rintro _ _ ⟨rfl,rfl⟩;refine gz ?_;have hMB:=hS.mb.drop a;rw[hfil] at hMB;refine BA [] rfl (l':=(xC b m::(m,Fq .i64 (Ox a es) clock)::(A++B).map NdS.blk)++G) ?_ (by exact A8) ⟨rfl,_,⟨A++B,m,_,_,by rw[<-gI,hfil],rfl,hMB,?_⟩,rfl⟩
   ·rw[hAB,Aq,AI,Aq];obtain⟨X,hX⟩:=gH (A.map NdS.blk) (B.map NdS.blk) G nd.blk;exact⟨X,(((hX.cons _).cons _).trans (by show(xC b m::(m,Fq .i64 (Ox a es) clock)::(X++_)).Perm (X++(xC b m::(m,Fq .i64 (Ox a es) clock)::_));exact(AA X [xC b m,(m,Fq .i64 (Ox a es) clock)] _).symm))⟩
   ·intro x hx;refine hS.sz x ?_;rw[hAB];rcases AE.1 hx with hx|hx
    ·exact Ah _ hx
    ·exact Aa _ (.tail _ hx)
section
variable{P:Program}{ro:Option Nat}{N:Nat}{fr:Fr}{R l:List Ab}{d:Option Nat}{ty t t2:TypeId}{pos:String}{aft:Array Edge}{g:Option (Nat×Bool)}{x y:Operand}{a b:Nat}
end
theorem Yr(b:Nat)(H:HS)(lq:List Ab)(hq:IsH b H lq)(id:Int)(G:List Ab):
 Fn prog 366 [.pointer (some ⟨b,0,none⟩),.int .i64 id] (lq++G) λv l'=>v= .int .i64 (G4 H.1 id).1/\ ∃lq',IsH b ((G4 H.1 id).2,H.2) lq'/\l'=lq'++G:=by
 obtain⟨bs,bt,ls,lt,rfl,hs,ht⟩:=hq;refine AM func366 ntmps366 λE=>?_;simp only[Ae,Am];refine Aj ?_;refine Bb (AJ rfl rfl λl2 hl=>Kp b bs bt l2 (hl _ (.head _))) ?_;refine Aj ?_;refine AP (Da rfl rfl (Fn.mvP (λA=>LE b bs bt::(A++(lt++G))) (drop_any bs H.1 ls hs id (LE b bs bt::(lt++G))))) ?_;rintro _ _ ⟨rfl,ls',hs',rfl⟩;refine Aj ?_;exact A9 (l':=(LE b bs bt::(ls'++lt))++G) (.of_perm (.of_eq (by simp))) ⟨rfl,_,⟨bs,bt,ls',lt,rfl,hs',ht⟩,rfl⟩
theorem R9(b:Nat)(H:HS)(lq:List Ab)(hq:IsH b H lq)(hn:H.2.length<=1000)(s:Ce)(l:List Ab)(hsub: ∀c,c∈lq->c∈l):
 Fn prog 283 [.pointer (some ⟨b,0,none⟩),.agg (toArray (Co s))] l λv l'=> ∃cs,OwnSl 61 2 v (Tr.belowD H.2 s).length (Tr.scs (Tr.belowD H.2 s)) cs/\l'=cs++l:=by
 obtain⟨bs,bt,ls,lt,hb⟩:=hq;have hm:=hsub _ hb.h;refine AM func283 ntmps283 λE=>?_;refine AO λb3=>?_;refine Ch [5] 7 (Dh b3 s::l) ?_;refine BM ?_;apply CM
 ·exact Az rfl rfl (Tr.belowOf_any bt H.2 lt hb.t Af s _ λc hc=> .tail _ (hsub _ (hb.m2 c hc)))
 ·rfl
 ·rfl
 ·rfl
 ·rintro _ _ ⟨cs,_,rfl⟩ x hx;exact Aa _ hx
 rintro v _ ⟨cs,ho,rfl⟩;refine BM ?_;refine Aj ?_;refine A9 (l':=cs++l) (A4 (A:=cs++(Dh b3 s::l)) [Dh b3 s]) ?_;exact⟨cs,ho,rfl⟩
theorem Ua(a b:CapT)(l:List Ab):Fn prog 340 [.agg (toArray (BW a)),.agg (toArray (BW b))] l λv l'=>v= .bool (Ie a b)/\l'=l:=by
 refine AM func340 ntmps340 λE=>?_;refine AO λb2=>?_;refine AO λb3=>?_;refine Bb (AJ rfl rfl λl2 _=>HL a l2) ?_;unfold Ie;cases hA:Fd a with
 |false=>exact EA
 |true=>
  refine Aj ?_;refine VW (AJ rfl rfl λl2 _=>HL b l2) rfl rfl rfl rfl rfl rfl ?_;cases hB:Fd b with
  |false=>exact EA
  |true=>
   by_cases k0:a.kind=0
   ·rw[At k0];exact EA
   rw[Av k0];by_cases k1:a.kind=b.kind
   ·rw[At k1];exact EA
   ·rw[Av k1];exact EA
theorem im(b:Nat)(H:HS)(n:Nat)(hI:InvH H n)(lq:List Ab)(hq:IsH b H lq)(s:Ce)(c:CapT)(G:List Ab):
 Fn prog 300 [.pointer (some ⟨b,0,none⟩),.agg (toArray (Co s)),.agg (toArray (BW c))] (lq++G) λv l'=>v= .int .i64 (Oa H s c).1/\ ∃lq',IsH b (Oa H s c).2 lq'/\l'=lq'++G:=by
 have hq0:=hq;refine AM func300 ntmps300 λE=>?_;refine AO λb4=>?_;refine AO λb5=>?_;refine Bb (AJ rfl rfl λl2 hl=>IN b H lq hq s l2 λc hc=>hl c (.tail _ (.tail _ (Ah _ hc)))) ?_;have hret: ∀(d:CapT) (B:Nat),Keep (Bq B d::Bq b5 c::Dh b4 s::(lq++G)) (lq++G):=λ_ _=> .drop (.drop (.drop .refl));cases hok:Fi H.1 s with
 |false=>rw[T7 hok,show Oa H s c=(3,H) by unfold Oa;rw[Ad hok]];refine AO λb7=>?_;exact A9 (hret _ _) ⟨rfl,_,hq0,rfl⟩
 |true=>
 rw[K4 hok];have e0:Oa H s c=if(DJ H.1 s).kind=0 then(10,H) else if Ie (DJ H.1 s) c=false then(5,H) else(0,(FS H.1 s c,H.2)):=by unfold Oa;rw[Ac (by rw[hok];decide)]
 rw[e0];refine AO λb7=>?_;by_cases hw:(DJ H.1 s).kind=0
 ·rw[Ad hw];refine Aj ?_;exact A9 (hret _ _) ⟨rfl,_,hq0,rfl⟩
 rw[Ac hw];refine Aj ?_;refine Bb (AJ rfl rfl λl2 hl=>Ua (DJ H.1 s) c l2) ?_;cases ha:Ie (DJ H.1 s) c with
 |false=>rw[Ad rfl];refine Aj ?_;exact A9 (hret _ _) ⟨rfl,_,hq0,rfl⟩
 |true=>
 rw[Ac AX];obtain⟨bs,bt,ls,lt,rfl,hs,ht⟩:=hq;obtain⟨X,hX⟩: ∃X,X=[Bq b7 (DJ H.1 s),Bq b5 c,Dh b4 s,LE b bs bt]:=⟨_,rfl⟩
 have H1:=Fn.mvP (λA=>X++(A++(lt++G))) (set_any bs H.1 ls hs s c (X++(lt++G)));rw[Ko hok (cJ ha)] at H1;rw[hX] at H1;simp only[Ae,Am,Ag] at H1⊢;refine Aj ?_;refine Ch [6] 8 ([Bq b5 c,Dh b4 s,LE b bs bt]) ?_;refine BM ?_;apply CM
 ·exact Da rfl rfl H1
 ·rfl
 ·rfl
 ·rfl
 ·rintro _ _ ⟨_,ls',_,rfl⟩;exact SY
 rintro _ _ ⟨rfl,ls',hs',rfl⟩;refine BM ?_;refine Aj ?_;exact A9 (l':=(LE b bs bt::(ls'++lt))++G) (.drop (.drop (.drop (.of_perm (.of_eq (by simp)))))) ⟨rfl,_,⟨bs,bt,ls',lt,rfl,hs',ht⟩,rfl⟩
theorem cO(b:Nat)(H:HS)(n:Nat)(hI:InvH H n)(lq:List Ab)(hq:IsH b H lq)(a c:Ce)(G:List Ab):
 Fn prog 211 [.pointer (some ⟨b,0,none⟩),.agg (toArray (Co a)),.agg (toArray (Co c))] (lq++G) λv l'=>v= .int .i64 (HN H a c).1/\ ∃lq',IsH b (HN H a c).2 lq'/\l'=lq'++G:=by
 refine AM func211 ntmps211 λE=>?_;refine AO λb5=>?_;refine AO λb6=>?_;refine Bb (AJ rfl rfl λl2 hl=>NW b H lq hq a c l2 λc hc=>hl c (.tail _ (.tail _ (Ah _ hc)))) ?_;have hret: ∀(d e:CapT) (B C:Nat),Keep (Bq B d::Bq C e::Dh b6 c::Dh b5 a::(lq++G)) (lq++G):=λ_ _ _ _=> .drop (.drop (.drop (.drop .refl)));by_cases hok:Fi H.1 a=false\/Fi H.1 c=false
 ·rw[U4 hok];have e1:G7 H a c=3:=by unfold G7;rw[Ad hok]
  rw[show HN H a c=(3,H) by unfold HN;rw[Ad (by rw[e1];decide),e1]];refine Aj ?_;refine AP e_alloc ?_;rintro _ _ ⟨b9,_,rfl,rfl⟩;refine AO λb10=>?_;exact A9 (hret _ _ _ _) ⟨rfl,_,hq,rfl⟩
 obtain⟨oka,okc⟩:=Z5 hok;rw[U3 oka okc,K4 oka,K4 okc];refine Aj ?_;refine AP e_alloc ?_;rintro _ _ ⟨b9,_,rfl,rfl⟩;refine AO λb10=>?_;by_cases hp:(DJ H.1 a).kind=0
 ·have e1:G7 H a c=10:=by unfold G7;rw[Ac hok,Ad hp]
  rw[show HN H a c=(10,H) by unfold HN;rw[Ad (by rw[e1];decide),e1]];refine Aj ?_;exact A9 (hret _ _ _ _) ⟨rfl,_,hq,rfl⟩
 by_cases hw:(DJ H.1 c).kind≠0
 ·have e1:G7 H a c=11:=by unfold G7;rw[Ac hok,Ac hp,Ad hw]
  rw[show HN H a c=(11,H) by unfold HN;rw[Ad (by rw[e1];decide),e1]];refine Aj ?_;exact A9 (hret _ _ _ _) ⟨rfl,_,hq,rfl⟩
 have e1:G7 H a c=0:=by unfold G7;rw[Ac hok,Ac hp,Ac hw]
 rw[show HN H a c=(0,(FS (FS H.1 a CA) c (DJ H.1 a),(Tr.moveD H.2 a c).2)) by unfold HN;rw[Ac (by rw[e1];decide)]];obtain⟨bs,bt,ls,lt,rfl,hs,ht⟩:=hq;have hr0:=(WC (t:=c) hI.tree ((hI.link a).2 ⟨oka,hp⟩) (hI.no (by simpa using hw))).1;obtain⟨X,hX⟩: ∃X,X=[Bq b10 (DJ H.1 c),Bq b9 (DJ H.1 a),Dh b6 c,Dh b5 a,LE b bs bt]:=⟨_,rfl⟩
 have H1:=Fn.mvP (λA=>X++(A++(lt++G))) (set_any bs H.1 ls hs a CA (X++(lt++G)));have H2:=λls (hs:IsS bs (FS H.1 a CA) ls)=>Fn.mvP (λA=>X++(A++(lt++G))) (set_any bs _ ls hs c (DJ H.1 a) (X++(lt++G)));have H3:=λls=>Fn.mvP (λA=>X++(ls++(A++G))) (Tr.move_any bt H.2 lt ht a c (X++(ls++G)));rw[Ko oka K3.1] at H1;rw[Ko (by rw[Nn];exact okc) (hI.at a).1] at H2;rw[hr0] at H3;rw[hX] at H1 H2 H3;simp only[Ae,Am,Ag] at H1 H2 H3⊢;refine Aj ?_;refine Ch [6] 7 ([Dh b5 a,LE b bs bt]) ?_;refine BM ?_;apply CM
 ·exact Da rfl rfl H1
 ·rfl
 ·rfl
 ·rfl
 ·rintro _ _ ⟨_,ls',_,rfl⟩;exact SY
 rintro _ _ ⟨rfl,ls',hs',rfl⟩;refine BM ?_;refine Aj ?_;refine Ch [6] 7 ([Bq b9 (DJ H.1 a),Dh b6 c,LE b bs bt]) ?_;refine BM ?_;apply CM
 ·exact Da rfl rfl (H2 ls' hs')
 ·rfl
 ·rfl
 ·rfl
 ·rintro _ _ ⟨_,ls2,_,rfl⟩;exact SY
 rintro _ _ ⟨rfl,ls2,hs2,rfl⟩;refine BM ?_;refine Aj ?_;refine Ch [6] 8 ([Dh b6 c,Dh b5 a,LE b bs bt]) ?_;refine BM ?_;apply CM
 ·exact Da rfl rfl (H3 ls2)
 ·rfl
 ·rfl
 ·rfl
 ·rintro _ _ ⟨_,lt',_,rfl⟩;exact SY
 rintro _ _ ⟨rfl,lt',ht',rfl⟩;refine BM ?_;refine Aj ?_;exact A9 (l':=(LE b bs bt::(ls2++lt'))++G) (.drop (.drop (.drop (.drop (.of_perm (.of_eq (by simp))))))) ⟨rfl,_,⟨bs,bt,ls2,lt',rfl,hs2,ht'⟩,rfl⟩
theorem cP(b:Nat)(H:HS)(n:Nat)(hI:InvH H n)(lq:List Ab)(hq:IsH b H lq)(a c:Ce)(G:List Ab):
 Fn prog 212 [.pointer (some ⟨b,0,none⟩),.agg (toArray (Co a)),.agg (toArray (Co c))] (lq++G) λv l'=>v= .int .i64 (Jy H a c).1/\ ∃lq',IsH b (Jy H a c).2 lq'/\l'=lq'++G:=by
 refine AM func212 ntmps212 λE=>?_;refine AO λb5=>?_;refine AO λb6=>?_;refine Bb (AJ rfl rfl λl2 hl=>NW b H lq hq a c l2 λc hc=>hl c (.tail _ (.tail _ (Ah _ hc)))) ?_;have hret: ∀(d e:CapT) (B C:Nat),Keep (Bq B d::Bq C e::Dh b6 c::Dh b5 a::(lq++G)) (lq++G):=λ_ _ _ _=> .drop (.drop (.drop (.drop .refl)));by_cases hok:Fi H.1 a=false\/Fi H.1 c=false
 ·rw[U4 hok,show Jy H a c=(3,H) by unfold Jy;rw[Ad hok]];refine Aj ?_;refine AP e_alloc ?_;rintro _ _ ⟨b9,_,rfl,rfl⟩;refine AO λb10=>?_;exact A9 (hret _ _ _ _) ⟨rfl,_,hq,rfl⟩
 obtain⟨oka,okc⟩:=Z5 hok;rw[U3 oka okc,K4 oka,K4 okc,show Jy H a c=(0,(FS (FS H.1 a (DJ H.1 c)) c (DJ H.1 a),Tr.swapD H.2 a c)) by unfold Jy;rw[Ac hok]];refine Aj ?_;refine AP e_alloc ?_;rintro _ _ ⟨b9,_,rfl,rfl⟩;refine AO λb10=>?_;obtain⟨bs,bt,ls,lt,rfl,hs,ht⟩:=hq;obtain⟨X,hX⟩: ∃X,X=[Bq b10 (DJ H.1 c),Bq b9 (DJ H.1 a),Dh b6 c,Dh b5 a,LE b bs bt]:=⟨_,rfl⟩
 have H1:=Fn.mvP (λA=>X++(A++(lt++G))) (set_any bs H.1 ls hs a (DJ H.1 c) (X++(lt++G)));have H2:=λls (hs:IsS bs (FS H.1 a (DJ H.1 c)) ls)=>Fn.mvP (λA=>X++(A++(lt++G))) (set_any bs _ ls hs c (DJ H.1 a) (X++(lt++G)));have H3:=λls=>Fn.mvP (λA=>X++(ls++(A++G))) (Tr.swap_any bt H.2 lt ht a c (X++(ls++G)));rw[Ko oka (hI.at c).1] at H1;rw[Ko (by rw[Nn];exact okc) (hI.at a).1] at H2;rw[hX] at H1 H2 H3;simp only[Ae,Am,Ag] at H1 H2 H3⊢;refine Aj ?_;refine Ch [6] 7 ([Bq b10 (DJ H.1 c),Dh b5 a,LE b bs bt]) ?_;refine BM ?_;apply CM
 ·exact Da rfl rfl H1
 ·rfl
 ·rfl
 ·rfl
 ·rintro _ _ ⟨_,ls',_,rfl⟩;exact SY
 rintro _ _ ⟨rfl,ls',hs',rfl⟩;refine BM ?_;refine Aj ?_;refine Ch [6] 7 ([Bq b9 (DJ H.1 a),Dh b6 c,LE b bs bt]) ?_;refine BM ?_;apply CM
 ·exact Da rfl rfl (H2 ls' hs')
 ·rfl
 ·rfl
 ·rfl
 ·rintro _ _ ⟨_,ls2,_,rfl⟩;exact SY
 rintro _ _ ⟨rfl,ls2,hs2,rfl⟩;refine BM ?_;refine Aj ?_;refine Ch [6] 8 ([Dh b6 c,Dh b5 a,LE b bs bt]) ?_;refine BM ?_;apply CM
 ·exact Da rfl rfl (H3 ls2)
 ·rfl
 ·rfl
 ·rfl
 ·rintro _ _ ⟨_,lt',_,rfl⟩;exact SY
 rintro _ _ ⟨rfl,lt',ht',rfl⟩;refine BM ?_;refine Aj ?_;exact A9 (l':=(LE b bs bt::(ls2++lt'))++G) (.drop (.drop (.drop (.drop (.of_perm (.of_eq (by simp))))))) ⟨rfl,_,⟨bs,bt,ls2,lt',rfl,hs2,ht'⟩,rfl⟩
theorem Ys(b:Nat)(H:HS)(n:Nat)(hI:InvH H n)(hn:n<=1000)(lq:List Ab)(hq:IsH b H lq)(s:Ce)(G:List Ab):
 Fn prog 328 [.pointer (some ⟨b,0,none⟩),.agg (toArray (Co s))] (lq++G) λv l'=>v= .tuple #[.agg (toArray (BW (DS H s).1.1)),.int .i64 (DS H s).1.2]/\ ∃lq',IsH b (DS H s).2 lq'/\l'=lq'++G:=by
 refine AM func328 ntmps328 λE=>?_;refine AO λb3=>?_;refine AO λb4=>?_;refine Bb (AJ rfl rfl λl2 hl=>IN b H lq hq s l2 λc hc=>hl c (.tail _ (.tail _ (Ah _ hc)))) ?_;have hK: ∀(d2 c6:CapT) (B:Nat),Keep (Bq B d2::Bq b4 c6::Dh b3 s::(lq++G)) (Bq b4 c6::(lq++G)):=λ_ _ _=> .drop (.pick .here (.drop .refl));cases hok:Fi H.1 s with
 |false=>rw[T7 hok,show DS H s=((CA,3),H) by unfold DS;rw[Ad hok]];refine AO λb6=>?_;exact CF (l':=lq++G) (Bq b4 CA::(lq++G)) (hK CA CA b6) (.drop .refl) ⟨rfl,_,hq,rfl⟩
 |true=>
 rw[K4 hok];refine AO λb6=>?_;by_cases hw:(DJ H.1 s).kind=0
 ·rw[show DS H s=((CA,10),H) by unfold DS;rw[Ac (by rw[hok];decide),Ad hw]];refine Aj ?_;exact CF (l':=lq++G) (Bq b4 CA::(lq++G)) (hK (DJ H.1 s) CA b6) (.drop .refl) ⟨rfl,_,hq,rfl⟩
 rw[show DS H s=((DJ H.1 s,0),(FS H.1 s CA,(Tr.removeD H.2 s).2)) by unfold DS;rw[Ac (by rw[hok];decide),Ac hw]];obtain⟨bs,bt,ls,lt,rfl,hs,ht⟩:=hq;obtain⟨X,hX⟩: ∃X,X=[Bq b6 (DJ H.1 s),Bq b4 CA,Dh b3 s,LE b bs bt]:=⟨_,rfl⟩
 have H1:=Fn.mvP (λA=>X++(A++(lt++G))) (set_any bs H.1 ls hs s CA (X++(lt++G)));have H2:=λls=>Fn.mvP (λA=>X++(ls++(A++G))) (Tr.remove_any bt H.2 lt ht (hI.small hn).2.2 s (X++(ls++G)));rw[Ko hok K3.1] at H1;rw[hX] at H1 H2;simp only[Ae,Am,Ag] at H1 H2⊢;refine Aj ?_;refine Ch [6] 7 ([Dh b3 s,LE b bs bt]) ?_;refine BM ?_;apply CM
 ·exact Da rfl rfl H1
 ·rfl
 ·rfl
 ·rfl
 ·rintro _ _ ⟨_,ls',_,rfl⟩;exact SY
 rintro _ _ ⟨rfl,ls',hs',rfl⟩;refine BM ?_;refine Aj ?_;refine Ch [5] 6 ([Dh b3 s,LE b bs bt]) ?_;refine BM ?_;apply CM
 ·exact Da rfl rfl (H2 ls')
 ·rfl
 ·rfl
 ·rfl
 ·rintro _ _ ⟨_,lt',_,rfl⟩;exact SY
 rintro _ _ ⟨rfl,lt',ht',rfl⟩;refine BM ?_;refine Aj ?_;exact CF (l':=(LE b bs bt::(ls'++lt'))++G) (Bq b4 (DJ H.1 s)::((LE b bs bt::(ls'++lt'))++G)) (.drop (.pick .here (.drop (.of_perm (.of_eq (by simp)))))) (.drop .refl) ⟨rfl,_,⟨bs,bt,ls',lt',rfl,hs',ht'⟩,rfl⟩
end Go.Proofs.YtlkgekpmileobaaGreat
