/- Laws. -/
import Derived.Test.YtlifcingifodfaaGreatGd9
set_option maxHeartbeats 4000000
set_option linter.all false
namespace Go.Proofs.YtlifcingifodfaaGreat
open Tryz
open List(replicate)
open List renaming toArray→τ
namespace Th
open Go.RowKit
set_option maxRecDepth 20000
variable{L:TL}{xs:A8}{id:Int}
abbrev xB(B:Nat)(v:Value):Bh:=(B,.cells #[v] 158 (0,0))
abbrev GT(B:Nat)(x:Int):Bh:=(B,.cells #[ι x] 3 (0,0))
theorem Jy(v:Value)(h1:v.oneCell'=true)(l:Ac):Fn prog 118 [v] l λr l'=> ∃B,r= .func (.func 173) #[] #[π B]/\l'=xB B v::l:=by refine AO func118 ntmps118 λE=>?_;refine gz ?_;refine AP (EA rfl h1) ?_;rintro _ _ ⟨B,hB,rfl,rfl⟩;refine gz ?_;exact Bc .refl ⟨B,rfl,rfl⟩
def thcs(L:TL):Ap:=L.flatMap encH
theorem jd(L:TL)(t:ThT):thcs (L++[t])=thcs L++encH t:=by simp[thcs]
theorem ZB(gf:Nat)[EN prog gf](lb:Ap)(S Sp:TL->Prop)(Need:TL->Ac->Prop)(hit:FN prog gf lb (λt:ThT=>[thV t]) S Sp Need)(n:Nat)(DG: ∀pre,Sp pre->pre.length<=n)(hn:n<=900000)(l:Ac)(Cf: ∀pre l2,(∀c,c∈l->c∈l2)->Need pre l2):
 Fn prog 172 [.slice none 0 0,.func (.func gf) #[] lb.toArray] l λv l'=> ∃xs cs,S xs/\OwnSl 79 24 v xs.length (thcs xs) cs/\l'=cs++l:=by
 refine AO func172 ntmps172 λE=>?_;refine gz ?_;refine AP (EA rfl rfl) ?_;rintro _ _ ⟨b2,W7,rfl,rfl⟩;refine gz ?_;refine Dj (α:=ThT) (ps:=[7]) (lb:=lb) rfl hit (λ_=>rfl) rfl
  (λpre l=> ∃v cs,OwnSl 79 24 v pre.length (thcs pre) cs/\l=[(b2,.cells #[v] 46 (0,0))]++cs)
  (λc pre l=>False)
  _ l (λpre l2 X2 hX h=>by obtain⟨v,cs,_,rfl⟩:=h;exact Cf _ _ λc hc=>Aa _ (hX _ hc)) AY ⟨_,[],OwnSl.nil _ _,rfl⟩ ?_ ?_ ?_
 ·rintro E r0 Gb pre y l' T ⟨fn,tmps,Dd,rfl⟩ Ry ⟨v,cs',EY,rfl⟩ hsp0;have Yj:=DG _ hsp0;rw[Ah] at Yj;simp only[DY,Ae,Ag];refine Iy λb5=>?_;refine CP (.there (.there (FX _ _ _ _ _))) ?_;generalize hX1:(r0,Obj.loop (DV fn tmps _ _ _ Dd .busy none))::T=X1;refine gz ?_;refine AP (FB (k:=24) rfl rfl rfl A0 A0) ?_;rintro _ _ ⟨bl,_,rfl,rfl⟩;refine AP (HM (k:=24) (X:=[thC b5 y,(b2,.cells #[v] 46 (0,0))]) (cs:=cs') (F:=X1) (xs:=thcs pre) (n:=pre.length) (ws:=encH y) rfl rfl rfl EY rfl (by simp[Value.oneCell']) Af A0) ?_;rintro v' _ ⟨c2,F0,rfl⟩;have Js:v'.oneCell'=true:=F0.one;simp only[Ae,Ag];refine gz ?_;rw[<-hX1];refine Cn _ ζ ⟨v',c2,?_,rfl⟩;rw[Ah,jd];exact F0
 ·rintro Dd xs l' hS ⟨v,cs',EY,rfl⟩;have Js:v.oneCell'=true:=EY.one;simp only[Ae,Ag];refine gz ?_;refine AU [Dd] (cs'++l) rfl (l':=cs'++l) AY Ba .refl ?_;exact⟨xs,cs',hS,EY,rfl⟩
 ·rintro Dd c pre l' DG h;exact h.elim
theorem XH(gf:Nat)[EN prog gf](lb:Ap)(S Sp:TL->Prop)(Need:TL->Ac->Prop)(hit:FN prog gf lb (λt:ThT=>[thV t]) S Sp Need)(n:Nat)(DG: ∀pre,Sp pre->pre.length<=n)(hn:n<=900000)(l:Ac)(Cf: ∀pre l2,(∀c,c∈l->c∈l2)->Need pre l2):
 Fn prog 117 [.func (.func gf) #[] lb.toArray] l λv l'=> ∃xs cs,S xs/\OwnSl 79 24 v xs.length (thcs xs) cs/\l'=cs++l:=by
 refine AO func117 ntmps117 λE=>?_;refine gz ?_;refine AP (Az rfl rfl (ZB gf lb S Sp Need hit n DG hn l Cf)) ?_;rintro v _ ⟨xs,cs,hS,ho,rfl⟩;have Js:v.oneCell'=true:=ho.one;refine gz ?_;refine Bc .refl ?_;exact⟨xs,cs,hS,ho,rfl⟩
open Go.RowKit
set_option maxRecDepth 20000
theorem Ug(mb:Option Nat)(l:Ac):Fn prog 175 [.map mb] l λv l'=> ∃B,v= .func (.func 237) #[] #[π B]/\l'=(B,.cells #[.map mb] 275 (0,0))::l:=by refine AO func175 ntmps175 λE=>?_;refine gz ?_;refine AP (EA rfl rfl) ?_;rintro _ _ ⟨B,hB,rfl,rfl⟩;refine gz ?_;exact Bc .refl ⟨B,rfl,rfl⟩
theorem RN(B m clock:Nat)(es:List LK)(Ln:(es.map (·.2.2)).Nodup)(LF: ∀e,e∈es->e.2.2<clock):
 FN prog 237 [π B] (λk:Int=>[ι k]) (λxs=>xs.Perm (es.map (·.1))) (λpre=>pre.length<=es.length)
  (λ_ l=>(B,.cells #[.map (some m)] 275 (0,0))∈l/\(m,Ge .i64 es clock)∈l):=by
 refine⟨λq I Ix G0 Cf hY l G hG h0=>?_⟩;refine AO func237 ntmps237 λE=>?_;exact zKI
theorem OS(B m clock:Nat)(es:List LK)(Ln:(es.map (·.2.2)).Nodup)(LF: ∀e,e∈es->e.2.2<clock)(hn:es.length<=900000)(l:Ac)(h1:(B,Obj.cells #[.map (some m)] 275 (0,0))∈l)(h2:(m,Ge .i64 es clock)∈l):
 Fn prog 174 [.func (.func 237) #[] #[π B]] l λv l'=> ∃xs cs,xs.Perm (es.map (·.1))/\OwnSl 3 1 v (VG xs).length ((VG xs).map Nq) cs/\l'=cs++l:=
 Uh 237 [π B] _ es.length _ (RN B m clock es Ln LF) hn (λxs h=>by rw[h.length_eq];simp) l λ_ l2 hl=>⟨hl _ h1,hl _ h2⟩
open Go.RowKit
set_option maxRecDepth 20000
theorem XB.sorted{es:List LK}{clock:Nat}(h:XB L es clock)(hx:xs.Perm (es.map (·.1))):VG xs=L.map ThT.id:=by
 have h1:(VG xs).Perm (L.map ThT.id):=(List.mergeSort_perm ..).trans (hx.trans h.keys);have h2:(VG xs).Pairwise (λx y=>x<=y):=by have:=List.pairwise_mergeSort (le:=λx y:Int=>decide (x<=y)) (λa b c h1 h2=>by simp at*;omega) (λa b=>by simp;omega) xs;exact this.imp λh=>by simpa using h
 have h3:(L.map ThT.id).Pairwise (λx y=>x<=y):=Cz.2 (h.asc.imp λVm=>by omega);exact h1.eq_of_pairwise (λa b _ _ h1 h2=>by omega) h2 h3
theorem OwnSl.ints{e:Nat}{v:Value}{cs l:Ac}(h:OwnSl e 1 v xs.length (xs.map Nq) cs)(hs: ∀c,c∈cs->c∈l): ∃p cap,v= .slice p xs.length cap/\(0<xs.length-> ∃b cl t fz,p=some ⟨b,0,none⟩/\(b,Obj.cells cl t fz)∈l/\ ∀i x,xs[i]?=some x->cl[i*1]?=some (ι x)):=by
 rcases h.2 with⟨rfl,h0,rfl⟩|⟨b,cap,sp,rfl,rfl,_⟩
 ·exact⟨none,0,by rw[h0],λh=>by omega⟩
 ·refine⟨_,cap,rfl,λh0=>⟨b,_,e,(0,0),rfl,hs _ Al,λi x hx=>?_⟩⟩;have C7:=(Aw.1 hx).1;rw[Dw,AF,AH (by simpa using C7),A7,hx];rfl
theorem Ii(B b:Nat)(L:TL)(lq:Ac)(hq:IsX b L lq)(hn:L.length<=900000):
 FN prog 173 [π B] (λt:ThT=>[thV t]) (λxs=>xs=L) (λpre=>pre<+:L)
  (λ_ l=>xB B (π b)∈l/\ ∀c,c∈lq->c∈l):=by
 refine⟨λr I Ix G0 Cf hY l G hG h0=>?_⟩;obtain⟨m,es,clock,rfl,hX⟩:=hq;obtain⟨n1,n2⟩:=Cf _ _ G hG h0;have n3:=n2 _ (.head _);have n4:=n2 _ ν;refine AO func173 ntmps173 λE=>?_;refine gz ?_;refine AP (Az rfl rfl (Ug (some m) _)) ?_;rintro _ _ ⟨B',rfl,rfl⟩;refine gz ?_;refine AP (Az rfl rfl (OS B' m clock es hX.ok.stamps hX.ok.below (by rw[hX.len];exact hn) _ (.head _) (.tail _ n4))) ?_;rintro v _ ⟨xs,cs,Rx,ho,rfl⟩;rw[hX.sorted Rx] at ho;have Js:v.oneCell'=true:=ho.one;obtain⟨p,cap,rfl,hR⟩:=OwnSl.ints ho (l:=cs) λc hc=>hc;have Ef:(L.map ThT.id).length=L.length:=A5 ..;refine gz ?_;refine CF (α:=Nat×Ac) (λx=>[(0,.func (.yield r) #[] #[]),(1,π B),(12,.slice p (L.map ThT.id).length cap),(13,ι (L.map ThT.id).length),(14,ι x.1)]) (λx=>x.2++(cs++G)) (λx=>x.1<=L.length/\I (L.take x.1) x.2) (λx=>L.length-x.1) (0,l) ⟨Bm _,h0⟩ ⟨rfl,rfl,rfl,rfl,rfl,trivial⟩ ?_ ?_
 ·exact Keep.trans (Keep.in_mid cs [_] (l++G)) (.drop (Keep.in_mid cs l G))
 clear n1 n2 n3 n4;rintro⟨k,l⟩ ⟨hk,hI⟩;simp only at hk hI⊢;obtain⟨n1,n2⟩:=Cf _ _ (cs++G) (λc hc=>Aa _ (hG c hc)) hI;have n3:=n2 _ (.head _);have n4:=n2 _ ν;by_cases C7:k<L.length
 ·obtain⟨b9,cl,t9,fz,rfl,rJ,N5⟩:=hR Af;have W9:(b9,Obj.cells cl t9 fz)∈l++(cs++G):=Aa _ (Ai _ rJ);obtain⟨t,ht⟩: ∃t,L[k]?=some t:=⟨_,Ak C7⟩
  have hc:=N5 k t.id (by rw[A7,ht];rfl);have rM:L.take (k+1)=L.take k++[t]:=by rw[BP,ht];rfl
  have aP:(LL t.id es).getD (thV thZ)=thV t:=by rw[hX.look,hX.at_ (Bg ht)];rfl
  refine gz ?_;rw[aP];have hy:=hY (L.take k) t l (cs++G) (λc hc=>Aa _ (hG c hc)) hI (by rw[<-rM];exact BL _ _);refine AP (C8 rfl rfl hy) ?_;rintro v l' ⟨l1,rfl,⟨rfl,Kz⟩|⟨rfl,hx⟩⟩
  ·refine gz ?_;exact BZ (k+1,l1) ⟨by simp only;omega,by simp only;rw[rM];exact Kz⟩ (by simp only;omega) ⟨rfl,rfl,rfl,rfl,rfl,trivial⟩ .refl
  ·refine gz ?_;exact BF [] rfl (Keep.trans (Keep.in_mid l1 cs G) (Keep.dropL cs .refl)) Ba ⟨l1,rfl,.inr ⟨_,by rw[<-rM];exact BL _ _,hx⟩⟩
 ·obtain rfl:k=L.length:=by omega
  rw[CK] at hI;refine gz ?_;exact Bc (Keep.trans (Keep.in_mid l cs G) (Keep.dropL cs .refl)) ⟨l,rfl,.inl ⟨_,rfl,hI⟩⟩
theorem all_any(b:Nat)(L:TL)(lq:Ac)(hq:IsX b L lq)(hn:L.length<=900000)(l:Ac)(CJ: ∀c,c∈lq->c∈l):
 Fn prog 76 [π b] l λv l'=> ∃cs,OwnSl 79 24 v L.length (thcs L) cs/\l'=cs++l:=by
 refine AO func76 ntmps76 λE=>?_;refine gz ?_;refine AP (Az rfl rfl (Jy _ rfl _)) ?_;rintro _ _ ⟨B,rfl,rfl⟩;refine gz ?_;refine AP (Az rfl rfl (XH 173 [π B] _ _ _ (Ii B b L lq hq hn) L.length (λpre h=>h.length_le) hn _ λ_ l2 hl=>⟨hl _ (.head _),λc hc=>hl _ (.tail _ (CJ c hc))⟩)) ?_;rintro v _ ⟨_,cs,rfl,ho,rfl⟩;have Js:v.oneCell'=true:=ho.one;refine gz ?_;refine Bc (l':=cs++l) (Keep.trans (.of_perm AJ) ζ) ?_;exact⟨cs,ho,rfl⟩
theorem nO{pre:TL}{t:ThT}(hL:pre++[t]<+:L)(h0:id≠0)(hp: ∀x,x∈pre->¬x.ca=id)(ht:t.ca=id):serverD L id=t.id:=by unfold serverD;rw[Ab h0];obtain⟨r,rfl⟩:=hL;rw[Am,FG,Bp.2 λx hx=>by simpa using hp x hx];rw[Option.none_or,Ce,BH,Aq ht]
theorem je(hp: ∀x,x∈L->¬(id≠0/\x.ca=id)):serverD L id=0:=by
 unfold serverD;by_cases h0:id=0
 ·rw[Ad h0]
 ·rw[Ab h0,Bp.2 λx hx=>by simpa using λh=>hp x hx ⟨h0,h⟩]
end Th
open Go.RowKit
set_option maxRecDepth 20000
structure RT where
 A:Ar.ArT
 H:HS
 N:As.ASt
 T:Th.TL
 Q:Nat->A8
 E:En.DE
structure RP where
 m:Nat
 c:Nat
 a:Nat
 h:Nat
 n:Nat
 t:Nat
 q:Nat
 e:Nat
 v:Value
structure RL where
 M:Ac
 C:Ac
 A:Ac
 H:Ac
 T:Ac
 Q:Ac
 E:Ac
 V:Ac
abbrev CH(b:Nat)(p:RP):Bh:=(b,.cells (τ [pV p.m,pV p.c,pV p.a,pV p.h,pV p.n,pV p.t,pV p.q,pV p.e,p.v]) 162 (0,0))
def CD(b:Nat)(p:RP)(s:RL)(R:RT)(G:Ac):Ac:=CH b p::As.asA p.n R.N::(s.M++(s.C++(s.A++(s.H++(s.T++(s.Q++(s.E++(s.V++G))))))))
structure IsRl(F C k:Nat)(R:RT)(p:RP)(s:RL):Prop where
 mem:IsM p.m F s.M
 co:AcC p.c C s.C
 ar:Ar.IsA p.a R.A s.A
 an:R.A.n=F
 ho:IsH p.h R.H s.H
 inv:InvH R.H k
 giv: ∀n,n<32->0<=R.N.given n/\R.N.given n<=k
 th:Th.IsX p.t R.T s.T
 qu:Qu.IsQ p.q R.Q s.Q
 ql: ∀n,n<8->(R.Q n).length<=k
 en:En.IsE p.e R.E s.E
 cu:OwnSl 3 1 p.v C (replicate C (ι 0)) s.V
 c1:1<=C/\C<=3
def JC(F:Nat):RT:=⟨⟨F,λ_=>0,[]⟩,([],[]),As.ASt.zero,[],Qu.noX,[]⟩
theorem M3(z:Value)(n:Nat):replicate n z=(replicate n [z]).flatten:=by
 induction n with
 |zero=>rfl
 |succ n ih=>rw[BN,BN,CA,<-ih];rfl
theorem yT(s:Ch):E0 [] s=false:=by
 unfold E0 II;rw[show D9 Prod.fst ([]:SD) s.1=none from rfl];by_cases h:0<=s.2
 ·rw[Aq h,Av (by simp only;omega)];rfl
 ·rw[Av h];rfl
theorem jf:InvH ([],[]) 0:=
 ⟨.none,List.Pairwise.nil,λx hx=>absurd hx (by simp),λs=>⟨λh=>absurd h (by rw[Tr.hasD_no.2 λx hx=>absurd hx (by simp)];decide),λh=>absurd h.1 (by rw[yT];decide)⟩,by simp⟩
theorem nP(F C:Nat)(hF:1<=F/\F<=64)(hC:1<=C/\C<=3)(G:Ac):Fn prog 89 [ι (F:Nat),ι (C:Nat)] G λv l'=> ∃b p s X,v= .tuple #[pV b,ι 0]/\IsRl F C 0 (JC F) p s/\l'=CD b p s (JC F) (X++G):=by
 refine AO func89 ntmps89 λE=>?_;refine Aj ?_;refine AP (Az rfl rfl (mB F hF.1 hF.2 _)) ?_;rintro _ _ ⟨bm,rfl,lm,hM,rfl⟩;refine Aj ?_;refine AP (Az rfl rfl (mF C hC.1 hC.2 _)) ?_;rintro _ _ ⟨bc,rfl,lc,X,hCo,rfl⟩;refine Aj ?_;refine AP (Az rfl rfl (Ar.new_any F _)) ?_;rintro _ _ (⟨h,_⟩|⟨_,ba,la,rfl,hA,rfl⟩)
 ·exact absurd ⟨Af,Af⟩ h
 refine Aj ?_;refine SU [(0,true),(1,true),(2,true),(8,true),(3,false),(4,false),(5,false),(6,false),(7,false),(9,false),(10,true),(11,false),(12,true),(13,true)] [[],[],[],[],[3],[3,4],[3,4,5],[3,4,5,6],[],[8],[0,1,2,3,4,5,6,7,8,9],[0,1,2,3,4,5,6,7,8,9,10],[0,1,2,3,4,5,6,7,8,9,10,11],[0,1,2,3,4,5,6,7,8,9,10,11,12]] (some [(3,9),(4,9),(5,9),(6,9),(7,9)]) ([]) Bu Bu GO Vq ?_;refine BJ ?_;apply TV [(3,false),(4,false),(5,false),(6,false),(7,false),(9,false),(10,true),(11,false),(12,true),(13,true)] [(9,false),(3,false),(4,false),(5,false),(6,false),(7,false),(10,true),(11,false),(12,true),(13,true)] 3 9 (some [(4,9),(5,9),(6,9),(7,9)]) none
 ·exact GO
 ·exact GO
 ·exact((List.Perm.swap _ _ _).trans (List.Perm.cons _ ((List.Perm.swap _ _ _).trans (List.Perm.cons _ ((List.Perm.swap _ _ _).trans (List.Perm.cons _ ((List.Perm.swap _ _ _).trans (List.Perm.cons _ (List.Perm.swap _ _ _)))))))))
 ·kernel_rfl
 ·exact Az rfl rfl (ZA _)
 ·rfl
 ·rfl
 ·intro _ _ _ c hc;cases hc
 ·intro _ _ _ x hx;cases hx
 ·exact Gs (n:=C) (kk:=1) (zs:=[ι 0]) (xs:=replicate C (ι 0)) rfl rfl Af Af A0 (M3 _ _)
 ·rfl
 ·rfl
 ·intro _ _ _ c hc;cases hc
 ·intro _ _ _ x hx;cases hx
 ·rintro _ _ ⟨bh,rfl,lh,hH,rfl⟩;apply TV [(4,false),(5,false),(6,false),(7,false),(9,false),(10,true),(11,false),(12,true),(13,true)] [(9,false),(4,false),(5,false),(6,false),(7,false),(10,true),(11,false),(12,true),(13,true)] 4 9 (some [(5,9),(6,9),(7,9)]) none
  ·exact GO
  ·exact GO
  ·exact((List.Perm.swap _ _ _).trans (List.Perm.cons _ ((List.Perm.swap _ _ _).trans (List.Perm.cons _ ((List.Perm.swap _ _ _).trans (List.Perm.cons _ (List.Perm.swap _ _ _)))))))
  ·kernel_rfl
  ·exact Az rfl rfl (As.new_any _)
  ·rfl
  ·rfl
  ·intro _ _ _ c hc;cases hc
  ·intro _ _ _ x hx;cases hx
  ·exact Gs (n:=C) (kk:=1) (zs:=[ι 0]) (xs:=replicate C (ι 0)) rfl rfl Af Af A0 (M3 _ _)
  ·rfl
  ·rfl
  ·intro _ _ _ c hc;cases hc
  ·intro _ _ _ x hx;cases hx
  ·rintro _ _ ⟨bn,_,rfl,rfl⟩;apply TV [(5,false),(6,false),(7,false),(9,false),(10,true),(11,false),(12,true),(13,true)] [(9,false),(5,false),(6,false),(7,false),(10,true),(11,false),(12,true),(13,true)] 5 9 (some [(6,9),(7,9)]) none
   ·exact GO
   ·exact GO
   ·exact((List.Perm.swap _ _ _).trans (List.Perm.cons _ ((List.Perm.swap _ _ _).trans (List.Perm.cons _ (List.Perm.swap _ _ _)))))
   ·kernel_rfl
   ·exact Az rfl rfl (Th.new_any _)
   ·rfl
   ·rfl
   ·intro _ _ _ c hc;cases hc
   ·intro _ _ _ x hx;cases hx
   ·exact Gs (n:=C) (kk:=1) (zs:=[ι 0]) (xs:=replicate C (ι 0)) rfl rfl Af Af A0 (M3 _ _)
   ·rfl
   ·rfl
   ·intro _ _ _ c hc;cases hc
   ·intro _ _ _ x hx;cases hx
   ·rintro _ _ ⟨bt,rfl,lt,hT,rfl⟩;apply TV [(6,false),(7,false),(9,false),(10,true),(11,false),(12,true),(13,true)] [(9,false),(6,false),(7,false),(10,true),(11,false),(12,true),(13,true)] 6 9 (some [(7,9)]) none
    ·exact GO
    ·exact GO
    ·exact((List.Perm.swap _ _ _).trans (List.Perm.cons _ (List.Perm.swap _ _ _)))
    ·kernel_rfl
    ·exact Az rfl rfl (Qu.new_any _)
    ·rfl
    ·rfl
    ·intro _ _ _ c hc;cases hc
    ·intro _ _ _ x hx;cases hx
    ·exact Gs (n:=C) (kk:=1) (zs:=[ι 0]) (xs:=replicate C (ι 0)) rfl rfl Af Af A0 (M3 _ _)
    ·rfl
    ·rfl
    ·intro _ _ _ c hc;cases hc
    ·intro _ _ _ x hx;cases hx
    ·rintro _ _ ⟨bq,rfl,lq,hQ,rfl⟩;apply TV [(7,false),(9,false),(10,true),(11,false),(12,true),(13,true)] [(9,false),(7,false),(10,true),(11,false),(12,true),(13,true)] 7 9 none none
     ·exact GO
     ·exact GO
     ·exact(List.Perm.swap _ _ _)
     ·kernel_rfl
     ·exact Az rfl rfl (En.new_any _)
     ·rfl
     ·rfl
     ·intro _ _ _ c hc;cases hc
     ·intro _ _ _ x hx;cases hx
     ·exact Gs (n:=C) (kk:=1) (zs:=[ι 0]) (xs:=replicate C (ι 0)) rfl rfl Af Af A0 (M3 _ _)
     ·rfl
     ·rfl
     ·intro _ _ _ c hc;cases hc
     ·intro _ _ _ x hx;cases hx
     ·rintro _ _ ⟨be,rfl,le,hE,rfl⟩;apply CX
      ·exact Gs (n:=C) (kk:=1) (zs:=[ι 0]) (xs:=replicate C (ι 0)) rfl rfl Af Af A0 (M3 _ _)
      ·rfl
      ·rfl
      ·rfl
      ·intro _ _ _ c hc;cases hc
      rintro _ _ ⟨bv,hbv,rfl,rfl⟩;refine BJ ?_;apply CX
      ·exact Cw rfl
      ·rfl
      ·rfl
      ·rfl
      ·intro _ _ _ c hc;cases hc
      rintro _ _ ⟨b,hb,rfl,rfl⟩;refine BJ ?_;refine Aj ?_;exact BF [] rfl (l':=CD b ⟨bm,bc,ba,bh,bn,bt,bq,be,.slice (some ⟨bv,0,none⟩) C C⟩ ⟨lm,lc,la,lh,lt,lq,le,[(bv,.cells (τ (replicate C (ι 0))) 3 (0,0))]⟩ (JC F) (X++G)) (by unfold CD;dsimp only[CH,JC,As.asA,pV];simp only[AN,AL];exact A9 []) Ba ⟨b,_,_,X,rfl,⟨hM,hCo,hA,rfl,hH,jf,λn _=>by simp[JC,As.ASt.zero],hT,hQ,λn _=>by simp[JC,Qu.noX],hE,OwnSl.lit Af (by simp) Af,hC⟩,rfl⟩
     ·rintro _ _ ⟨bv,hbv,rfl,rfl⟩;apply CX
      ·exact Az rfl rfl (En.new_any _)
      ·rfl
      ·rfl
      ·rfl
      ·intro _ _ _ c hc;cases hc
      rintro _ _ ⟨be,rfl,le,hE,rfl⟩;refine BJ ?_;apply CX
      ·exact Cw rfl
      ·rfl
      ·rfl
      ·rfl
      ·intro _ _ _ c hc;cases hc
      rintro _ _ ⟨b,hb,rfl,rfl⟩;refine BJ ?_;refine Aj ?_;exact BF [] rfl (l':=CD b ⟨bm,bc,ba,bh,bn,bt,bq,be,.slice (some ⟨bv,0,none⟩) C C⟩ ⟨lm,lc,la,lh,lt,lq,le,[(bv,.cells (τ (replicate C (ι 0))) 3 (0,0))]⟩ (JC F) (X++G)) (by unfold CD;dsimp only[CH,JC,As.asA,pV];simp only[AN,AL];exact A9 []) Ba ⟨b,_,_,X,rfl,⟨hM,hCo,hA,rfl,hH,jf,λn _=>by simp[JC,As.ASt.zero],hT,hQ,λn _=>by simp[JC,Qu.noX],hE,OwnSl.lit Af (by simp) Af,hC⟩,rfl⟩
    ·rintro _ _ ⟨bv,hbv,rfl,rfl⟩;apply CX
     ·exact Az rfl rfl (Qu.new_any _)
     ·rfl
     ·rfl
     ·rfl
     ·intro _ _ _ c hc;cases hc
     rintro _ _ ⟨bq,rfl,lq,hQ,rfl⟩;refine BJ ?_;apply CX
     ·exact Az rfl rfl (En.new_any _)
     ·rfl
     ·rfl
     ·rfl
     ·intro _ _ _ c hc;cases hc
     rintro _ _ ⟨be,rfl,le,hE,rfl⟩;refine BJ ?_;apply CX
     ·exact Cw rfl
     ·rfl
     ·rfl
     ·rfl
     ·intro _ _ _ c hc;cases hc
     rintro _ _ ⟨b,hb,rfl,rfl⟩;refine BJ ?_;refine Aj ?_;exact BF [] rfl (l':=CD b ⟨bm,bc,ba,bh,bn,bt,bq,be,.slice (some ⟨bv,0,none⟩) C C⟩ ⟨lm,lc,la,lh,lt,lq,le,[(bv,.cells (τ (replicate C (ι 0))) 3 (0,0))]⟩ (JC F) (X++G)) (by unfold CD;dsimp only[CH,JC,As.asA,pV];simp only[AN,AL];exact A9 []) Ba ⟨b,_,_,X,rfl,⟨hM,hCo,hA,rfl,hH,jf,λn _=>by simp[JC,As.ASt.zero],hT,hQ,λn _=>by simp[JC,Qu.noX],hE,OwnSl.lit Af (by simp) Af,hC⟩,rfl⟩
   ·rintro _ _ ⟨bv,hbv,rfl,rfl⟩;apply CX
    ·exact Az rfl rfl (Th.new_any _)
    ·rfl
    ·rfl
    ·rfl
    ·intro _ _ _ c hc;cases hc
    rintro _ _ ⟨bt,rfl,lt,hT,rfl⟩;refine BJ ?_;apply CX
    ·exact Az rfl rfl (Qu.new_any _)
    ·rfl
    ·rfl
    ·rfl
    ·intro _ _ _ c hc;cases hc
    rintro _ _ ⟨bq,rfl,lq,hQ,rfl⟩;refine BJ ?_;apply CX
    ·exact Az rfl rfl (En.new_any _)
    ·rfl
    ·rfl
    ·rfl
    ·intro _ _ _ c hc;cases hc
    rintro _ _ ⟨be,rfl,le,hE,rfl⟩;refine BJ ?_;apply CX
    ·exact Cw rfl
    ·rfl
    ·rfl
    ·rfl
    ·intro _ _ _ c hc;cases hc
    rintro _ _ ⟨b,hb,rfl,rfl⟩;refine BJ ?_;refine Aj ?_;exact BF [] rfl (l':=CD b ⟨bm,bc,ba,bh,bn,bt,bq,be,.slice (some ⟨bv,0,none⟩) C C⟩ ⟨lm,lc,la,lh,lt,lq,le,[(bv,.cells (τ (replicate C (ι 0))) 3 (0,0))]⟩ (JC F) (X++G)) (by unfold CD;dsimp only[CH,JC,As.asA,pV];simp only[AN,AL];exact A9 []) Ba ⟨b,_,_,X,rfl,⟨hM,hCo,hA,rfl,hH,jf,λn _=>by simp[JC,As.ASt.zero],hT,hQ,λn _=>by simp[JC,Qu.noX],hE,OwnSl.lit Af (by simp) Af,hC⟩,rfl⟩
  ·rintro _ _ ⟨bv,hbv,rfl,rfl⟩;apply CX
   ·exact Az rfl rfl (As.new_any _)
   ·rfl
   ·rfl
   ·rfl
   ·intro _ _ _ c hc;cases hc
   rintro _ _ ⟨bn,_,rfl,rfl⟩;refine BJ ?_;apply CX
   ·exact Az rfl rfl (Th.new_any _)
   ·rfl
   ·rfl
   ·rfl
   ·intro _ _ _ c hc;cases hc
   rintro _ _ ⟨bt,rfl,lt,hT,rfl⟩;refine BJ ?_;apply CX
   ·exact Az rfl rfl (Qu.new_any _)
   ·rfl
   ·rfl
   ·rfl
   ·intro _ _ _ c hc;cases hc
   rintro _ _ ⟨bq,rfl,lq,hQ,rfl⟩;refine BJ ?_;apply CX
   ·exact Az rfl rfl (En.new_any _)
   ·rfl
   ·rfl
   ·rfl
   ·intro _ _ _ c hc;cases hc
   rintro _ _ ⟨be,rfl,le,hE,rfl⟩;refine BJ ?_;apply CX
   ·exact Cw rfl
   ·rfl
   ·rfl
   ·rfl
   ·intro _ _ _ c hc;cases hc
   rintro _ _ ⟨b,hb,rfl,rfl⟩;refine BJ ?_;refine Aj ?_;exact BF [] rfl (l':=CD b ⟨bm,bc,ba,bh,bn,bt,bq,be,.slice (some ⟨bv,0,none⟩) C C⟩ ⟨lm,lc,la,lh,lt,lq,le,[(bv,.cells (τ (replicate C (ι 0))) 3 (0,0))]⟩ (JC F) (X++G)) (by unfold CD;dsimp only[CH,JC,As.asA,pV];simp only[AN,AL];exact A9 []) Ba ⟨b,_,_,X,rfl,⟨hM,hCo,hA,rfl,hH,jf,λn _=>by simp[JC,As.ASt.zero],hT,hQ,λn _=>by simp[JC,Qu.noX],hE,OwnSl.lit Af (by simp) Af,hC⟩,rfl⟩
 ·rintro _ _ ⟨bv,hbv,rfl,rfl⟩;apply CX
  ·exact Az rfl rfl (ZA _)
  ·rfl
  ·rfl
  ·rfl
  ·intro _ _ _ c hc;cases hc
  rintro _ _ ⟨bh,rfl,lh,hH,rfl⟩;refine BJ ?_;apply CX
  ·exact Az rfl rfl (As.new_any _)
  ·rfl
  ·rfl
  ·rfl
  ·intro _ _ _ c hc;cases hc
  rintro _ _ ⟨bn,_,rfl,rfl⟩;refine BJ ?_;apply CX
  ·exact Az rfl rfl (Th.new_any _)
  ·rfl
  ·rfl
  ·rfl
  ·intro _ _ _ c hc;cases hc
  rintro _ _ ⟨bt,rfl,lt,hT,rfl⟩;refine BJ ?_;apply CX
  ·exact Az rfl rfl (Qu.new_any _)
  ·rfl
  ·rfl
  ·rfl
  ·intro _ _ _ c hc;cases hc
  rintro _ _ ⟨bq,rfl,lq,hQ,rfl⟩;refine BJ ?_;apply CX
  ·exact Az rfl rfl (En.new_any _)
  ·rfl
  ·rfl
  ·rfl
  ·intro _ _ _ c hc;cases hc
  rintro _ _ ⟨be,rfl,le,hE,rfl⟩;refine BJ ?_;apply CX
  ·exact Cw rfl
  ·rfl
  ·rfl
  ·rfl
  ·intro _ _ _ c hc;cases hc
  rintro _ _ ⟨b,hb,rfl,rfl⟩;refine BJ ?_;refine Aj ?_;exact BF [] rfl (l':=CD b ⟨bm,bc,ba,bh,bn,bt,bq,be,.slice (some ⟨bv,0,none⟩) C C⟩ ⟨lm,lc,la,lh,lt,lq,le,[(bv,.cells (τ (replicate C (ι 0))) 3 (0,0))]⟩ (JC F) (X++G)) (by unfold CD;dsimp only[CH,JC,As.asA,pV];simp only[AN,AL];exact A9 []) Ba ⟨b,_,_,X,rfl,⟨hM,hCo,hA,rfl,hH,jf,λn _=>by simp[JC,As.ASt.zero],hT,hQ,λn _=>by simp[JC,Qu.noX],hE,OwnSl.lit Af (by simp) Af,hC⟩,rfl⟩
namespace En
variable{r:Row}{A B rows:List Row}{b m clock:Nat}{lq:Ac}{t:Int}
theorem Jy(pv:Option Addr)(t:Int)(l:Ac):Fn prog 316 [.pointer pv,ι t] l λv l'=> ∃B1 B2,v= .func (.func 358) #[] #[π B1,π B2]/\l'=(B2,.cells #[ι t] 3 (0,0))::(B1,.cells #[.pointer pv] 160 (0,0))::l:=by refine AO func316 ntmps316 λE=>?_;refine gz ?_;refine AP (EA rfl rfl) ?_;rintro _ _ ⟨B1,xS,rfl,rfl⟩;refine AP (EA rfl rfl) ?_;rintro _ _ ⟨B2,hB2,rfl,rfl⟩;refine gz ?_;exact Bc .refl ⟨B1,B2,rfl,rfl⟩
theorem Ii(B1 B2 b m clock:Nat)(t:Int)(rows:List Row)(lq:Ac)(hE:EB b rows m clock lq)(hn: ∀r,r∈rows->r.th.length<=1000000):
 FN prog 358 [π B1,π B2] (λr:Row=>[π r.pb,ι (r.th.idxOf t:Nat)]) (λxs=> ∀r,r∈rows->t∈r.th->r∈xs) (λpre=> ∀r,r∈pre->r∈rows/\t∈r.th)
 (λ_ l=>(B1,.cells #[π b] 160 (0,0))∈l/\(B2,.cells #[ι t] 3 (0,0))∈l/\ ∀c,c∈lq->c∈l):=by
 refine⟨λq I Ix G0 Cf hY l G hG h0=>?_⟩;refine AO func358 ntmps358 λE=>?_;obtain⟨Ym,Vo,rL⟩:=Cf _ _ G hG h0;have hm4:=rL _ hE.m1;have lG:=rL _ hE.m2;refine gz ?_;refine AP (eV rfl lG) ?_;rintro _ _ ⟨b0,hb0,rfl,rfl⟩;refine gz ?_;refine CF (α:=Array Nat×List Row×Ac) (λx=>[(0,.func (.yield q) #[] #[]),(1,π B1),(2,π B2),(13,π b0)]) (λx=>(b0,.mapIter (some m) clock x.1 clock)::(x.2.2++G)) (λx=>I x.2.1 x.2.2/\(∀r,r∈rows->r.st∈x.1.toList->t∈r.th->r∈x.2.1)/\ ∀r,r∈x.2.1->r∈rows/\t∈r.th) (λx=>(rows.filter λr=>!x.1.contains r.st).length) (#[],[],l) ⟨h0,by simp,by simp⟩ ⟨rfl,rfl,rfl,rfl,trivial⟩ .refl ?_;clear Ym Vo rL hm4 lG;rintro⟨seen,pre,l⟩ ⟨hI,hse,Gx⟩;simp only at hI hse Gx⊢;obtain⟨Ym,Vo,rL⟩:=Cf _ _ G hG hI;have lG:=rL _ hE.m2;refine gz ?_;refine AP (ml rfl lG (λe he=>by rw[Ax] at he;obtain⟨r,hr,rfl⟩:=he;exact hE.st r hr) (Bf _)) ?_;rintro _ _ (⟨rfl,rfl,GK⟩|⟨e,he,xR,rfl,rfl⟩)
 ·refine gz ?_;refine Bc ζ ⟨l,rfl,.inl ⟨pre,λr hr ht=>hse r hr (GK _ (Ax.2 ⟨r,hr,rfl⟩)) ht,hI⟩⟩
 ·rw[Ax] at he;obtain⟨r,hr,rfl⟩:=he;have Ln:((rows.map Row.ent).map (·.2.2)).Nodup:=by rw[CO];exact hE.nd
  have KZ:r.ent∈rows.map Row.ent:=Ax.2 ⟨r,hr,rfl⟩;have SO:r.bl∈l++G:=rL _ (hE.m3 hr (.head _));have vQ:(rows.filter λr'=>!(seen.push r.ent.2.2).contains r'.st).length<(rows.filter λr'=>!seen.contains r'.st).length:=by
   refine Wh (λx hx=>?_) hr ?_ ?_
   ·simp only[Ei,Array.contains_push,Bool.or_eq_false_iff] at hx⊢;simp at hx⊢;exact hx.1
   ·have Ae2:r.st∉seen.toList:=xR;simpa using Ae2
   ·simp[Row.ent]
  have AbH: ∀(ps:List Row),(∀x,x∈pre->x∈ps)->(t∈r.th->r∈ps)-> ∀r',r'∈rows->r'.st∈(seen.push r.ent.2.2).toList->t∈r'.th->r'∈ps:=λps h1 h2 r' Vi hs' PJ=>by
   rw[LT,AB] at hs';rcases hs' with hs'|hs'
   ·exact h1 _ (hse r' Vi hs' PJ)
   ·have e1:r'.st=r.st:=by simpa[Row.ent] using hs'
    have:r'=r:=T6 hE.nd Vi hr e1;subst this;exact h2 PJ
  refine gz ?_;refine Be (eW rfl (.head _) (.tail _ lG) KZ Ln) ?_;refine gz ?_;refine Ct [] 7 _ ?_ (hR:=(λ_ h=>h));refine pz ?_;refine N9 (AI rfl rfl (λl2 hl=>Qu.index_any r.v r.th t l2 (hE.ints hr λc hc=>hl c (.tail _ (rL c hc))) (hn r hr))) rfl rfl rfl ?_;by_cases MK:t∈r.th
  ·rw[show Qu.indexI r.th t=((r.th.idxOf t:Nat):Int) from Ad MK];have hy:=hY pre r l ((b0,.mapIter (some m) clock (seen.push r.ent.2.2) clock)::G) (λc hc=> .tail _ (hG c hc)) hI (λr' Vi=>by
    rcases AB.1 Vi with h|h
    ·exact Gx r' h
    ·rw[Ay.1 h];exact⟨hr,MK⟩)
   refine pz ?_;refine gz ?_;refine Bt (Keep.of_perm AJ.symm) ?_;refine AP (C8 rfl rfl hy) ?_;rintro v l' ⟨l1,rfl,⟨rfl,Kz⟩|⟨rfl,hx⟩⟩
   ·refine gz ?_;refine BZ (seen.push r.ent.2.2,pre++[r],l1) ⟨Kz,AbH _ (λx hx=>Ai _ hx) λ_=>Aa _ Al,λr' Vi=>?_⟩ vQ ⟨rfl,rfl,rfl,rfl,trivial⟩ (.of_perm AJ);rcases AB.1 Vi with h|h
    ·exact Gx r' h
    ·rw[Ay.1 h];exact⟨hr,MK⟩
   ·refine gz ?_;refine Bc (Keep.trans (.of_perm AJ) ζ) ⟨l1,rfl,.inr ⟨_,λr' Vi=>?_,hx⟩⟩;rcases AB.1 Vi with h|h
    ·exact Gx r' h
    ·rw[Ay.1 h];exact⟨hr,MK⟩
  ·rw[show Qu.indexI r.th t= -1 from Ab MK];refine pz ?_;refine gz ?_;exact BZ (seen.push r.ent.2.2,pre,l) ⟨hI,AbH _ (λx hx=>hx) λh=>absurd h MK,Gx⟩ vQ ⟨rfl,rfl,rfl,rfl,trivial⟩ .refl
theorem clone_any(v:Value)(xs:A8)(cs l:Ac)(ho:OwnSl 3 1 v xs.length (xs.map CU) cs)(hs: ∀c,c∈cs->c∈l)(hx:xs.length<=1000000):
 Fn prog 53 [v] l λr l'=> ∃c2,OwnSl 3 1 r xs.length (xs.map CU) c2/\l'=c2++l:=by
 obtain⟨Ef,h⟩:=ho;refine AO func53 ntmps53 λE=>?_;rcases h with⟨rfl,h0,rfl⟩|⟨gb,cap,sp,rfl,rfl,im,Vn,N5⟩
 ·refine gz ?_;refine Bc .refl ?_;exact⟨[],⟨Ef,.inl ⟨rfl,h0,rfl⟩⟩,rfl⟩
 ·have hg:=hs _ Al;refine gz ?_;refine AP mm ?_;rintro _ _ ⟨bl,SO,rfl,rfl⟩;refine gz ?_;apply kT
  ·apply GN (e:=3) (k:=1) (xs:=[]) (cs:=[(bl,.cells #[] 3 (0,0))]) (F:=l) (news:=xs.map CU) (zs:=[ι 0]) (cl:=τ (xs.map CU++sp))
   ·rfl
   ·rfl
   ·rfl
   ·exact OwnSl.empty
   ·exact .tail _ hg
   ·intro j u hj;have C7:=(Aw.1 hj).1;rw[BG,AF,AH C7];exact hj
   ·simp
   ·intro u hu;rw[Ax] at hu;obtain⟨a,_,rfl⟩:=hu;rfl
   ·unfold maxLen;omega
   ·omega
  ·rfl
  ·rfl
  ·rfl
  rintro v' _ ⟨c2,F0,rfl⟩;rw[Ag,BG] at F0;refine gz ?_;refine Bc .refl ?_;exact⟨c2,F0,rfl⟩
theorem cA(e:rows=A++r::B)(hA: ∀x,x∈A->x.id≠r.id):(rows.map Row.d).eraseP (λx=>x.1==r.id)=(A++B).map Row.d:=by
 rw[e,At,At,AK,List.eraseP_append_right _ λx hx=>by rw[Ax] at hx;obtain⟨y,hy,rfl⟩:=hx;simpa[Row.d] using hA y hy]
 rw[List.eraseP_cons_of_pos (by simp[Row.d])]
theorem EB.erase(h:EB b (A++r::B) m clock lq):EB b (A++B) m clock (RJ b m::(m,Ge .i64 ((A++B).map Row.ent) clock)::(A++B).flatMap Row.ch):=by have hs:(A++B).Sublist (A++r::B):=Gu (Ec _ _) _;exact⟨rfl,λx hx=>h.own x (hs.subset hx),λx hx=>h.st x (hs.subset hx),h.nd.sublist (hs.map _),h.ids.sublist (hs.map _)⟩
theorem drop_any(b:Nat)(D:DE)(lq:Ac)(id:Int)(hq:IsE b D lq)(F:Ac):
 Fn prog 368 [π b,ι id] (lq++F) λv l'=> ∃sl cs,v= .tuple #[sl,ι (dropD D id).2.1]/\OwnSl 3 1 sl (dropD D id).1.length ((dropD D id).1.map CU) cs/\ ∃DI,IsE b (dropD D id).2.2 DI/\l'=cs++(DI++F):=by
 obtain⟨rows,m,clock,rfl,hE⟩:=hq;refine AO func368 ntmps368 λE=>?_;have rH:=hE.eq;by_cases h1: ∃r,r∈rows/\r.id=id
 ·obtain⟨r,hr,rfl⟩:=h1;have hg:=Pf hE.ids hr;obtain⟨A,B,rfl,hA,hB⟩:=hE.split hr;rw[show dropD ((A++r::B).map Row.d) r.id=(r.th,0,(A++B).map Row.d) by unfold dropD;rw[Ls hE.ids hr];simp only;rw[cA rfl hA]];have ho:=hE.own r hr;have Js:=ho.one;have rN:P4 r.id ((A++r::B).map Row.ent)=(A++B).map Row.ent:=by
   rw[At,At,AK];exact mY _ _ λx hx=>by rw[Ax] at hx;obtain⟨y,hy,rfl⟩:=hx;exact hA y hy
  have SO: ∀o:Obj,r.bl∈RJ b m::(m,o)::((A++r::B).flatMap Row.ch++F):=λo=> .tail _ (.tail _ (Ai _ (FI.2 ⟨r,hr,.head _⟩)));rw[rH];simp only[Ae];refine gz ?_;rw[hg];refine gz ?_;refine Nk (TR rfl rfl D1) rfl rfl ?_;rintro _ _ ⟨rfl,rfl⟩;rw[rN];have xU:=SO (Ge .i64 ((A++B).map Row.ent) clock);refine gz ?_;refine Be (DQ rfl xU rfl) ?_;refine gz ?_;refine Bc (l':=r.cs++((RJ b m::(m,Ge .i64 ((A++B).map Row.ent) clock)::(A++B).flatMap Row.ch)++F)) ?_ ⟨r.v,r.cs,rfl,ho,_,⟨A++B,m,clock,rfl,hE.erase⟩,rfl⟩;rw[Eg,CB,Eg];refine⟨[r.bl],?_⟩;show List.Perm (RJ b m::(m,_)::((A.flatMap Row.ch++((r.bl::r.cs)++B.flatMap Row.ch))++F)) (r.bl::(r.cs++(RJ b m::(m,_)::((A.flatMap Row.ch++B.flatMap Row.ch)++F))));have p1:(A.flatMap Row.ch++((r.bl::r.cs)++B.flatMap Row.ch)).Perm (r.bl::(r.cs++(A.flatMap Row.ch++B.flatMap Row.ch))):=by have:=AC (A.flatMap Row.ch) (r.bl::r.cs) (B.flatMap Row.ch);simpa using this
  refine(((p1.append_right F).cons _).cons _).trans ?_;refine((AC [RJ b m,(m,Ge .i64 ((A++B).map Row.ent) clock)] [r.bl] (r.cs++(A.flatMap Row.ch++B.flatMap Row.ch)++F))).trans ?_;refine List.Perm.cons _ ?_;rw[Am];exact AC [RJ b m,(m,Ge .i64 ((A++B).map Row.ent) clock)] r.cs _
 ·have HI: ∀r,r∈rows->r.id≠id:=λr hr e=>h1 ⟨r,hr,e⟩;have hg:=Pe HI;rw[show dropD (rows.map Row.d) id=([],2,rows.map Row.d) by unfold dropD;rw[Nu HI]];rw[rH];simp only[Ae];refine gz ?_;rw[hg];refine gz ?_;refine BF [] rfl .refl Ba ⟨_,[],rfl,OwnSl.nil _ _,_,⟨rows,m,clock,rfl,hE⟩,by rw[rH];rfl⟩
theorem list_any(b:Nat)(D:DE)(lq:Ac)(id:Int)(hq:IsE b D lq)(hn: ∀x,x∈D->x.2.1.length<=1000000)(l:Ac)(CJ: ∀c,c∈lq->c∈l):
 Fn prog 317 [π b,ι id] l λv l'=> ∃sl cs,v= .tuple #[sl,.bool (listD D id).2]/\OwnSl 3 1 sl (listD D id).1.length ((listD D id).1.map CU) cs/\l'=cs++l:=by
 obtain⟨rows,m,clock,rfl,hE⟩:=hq;have Ym:=CJ _ hE.m1;have Vo:=CJ _ hE.m2;refine AO func317 ntmps317 λE=>?_;by_cases h1: ∃r,r∈rows/\r.id=id
 ·obtain⟨r,hr,rfl⟩:=h1;have hg:=Pf hE.ids hr;have ho:=hE.own r hr;have SO:=CJ _ (hE.m3 hr (.head _));have Ef:=hn r.d (Ax.2 ⟨r,hr,rfl⟩);simp only[Row.d] at Ef;have N5:=clone_any r.v r.th r.cs l ho (λc hc=>CJ c (hE.m3 hr (.tail _ hc))) Ef;obtain⟨pv,cap,hv⟩:=ho.shape;rw[hv] at N5;have Aiv:(r.pb,Obj.cells (τ [.slice pv r.th.length cap,.bool r.sd]) 353 (0,0))∈l:=by rw[<-hv];exact SO
  clear SO;by_cases h0:r.th.length=0
  ·rw[show listD (rows.map Row.d) r.id=([],false) by unfold listD;rw[Ls hE.ids hr];simp only;rw[Ad h0]];refine gz ?_;rw[hg];refine gz ?_;rw[hg];refine gz ?_;refine Bc .refl ⟨_,[],rfl,OwnSl.nil _ _,rfl⟩
  ·rw[show listD (rows.map Row.d) r.id=(r.th,r.sd) by unfold listD;rw[Ls hE.ids hr];simp only;rw[Ab h0]];refine gz ?_;rw[hg];refine gz ?_;rw[hg];refine gz ?_;refine J0 [(0,true),(1,true),(2,true),(3,true),(4,true),(5,true),(6,true),(7,true),(8,true),(10,true),(11,true),(12,true),(13,true),(14,true),(15,true),(16,true),(17,true),(18,true),(9,false),(19,true),(20,true)] [[],[0],[0,1],[0,1,2],[],[0,1,2,3,4],[0,1,2,3,4,5],[0,1,2,3,4,5,6],[0,1,2,3,4,5,6,7],[0,1,2,3,4,5,6,7,8],[],[10],[10,11],[10,11,12],[],[10,11,12,13,14],[10,11,12,13,14,15],[10,11,12,13,14,15,16],[10,11,12,13,14,15,16,17],[0,1,2,3,4,5,6,7,8,9],[0,1,2,3,4,5,6,7,8,9,10,11,12,13,14,15,16,17,18,19]] _ Bu Bu GO (λ_ h=>h) ?_;refine pz ?_;rw[hg];refine pz ?_;rw[hg];refine pz ?_;apply CX
   ·exact Dr rfl rfl N5
   ·rfl
   ·rfl
   ·rfl
   ·rintro _ _ ⟨c2,_,rfl⟩ c hc;exact Aa _ hc
   rintro v _ ⟨c2,F0,rfl⟩;refine pz ?_;refine gz ?_;refine Bc .refl ⟨v,c2,rfl,F0,rfl⟩
 ·have HI: ∀r,r∈rows->r.id≠id:=λr hr e=>h1 ⟨r,hr,e⟩;have hg:=Pe HI;rw[show listD (rows.map Row.d) id=([],false) by unfold listD;rw[Nu HI]];refine gz ?_;rw[hg];refine gz ?_;refine Bc .refl ⟨_,[],rfl,OwnSl.nil _ _,rfl⟩
def firstD(D:DE)(id:Int):Int×Bool×Bool:=match(listD D id).1 with
 |x::_=>(x,(listD D id).2,true)
 |[]=>(0,false,false)
theorem first_any(b:Nat)(D:DE)(lq:Ac)(id:Int)(hq:IsE b D lq)(hn: ∀x,x∈D->x.2.1.length<=1000000)(l:Ac)(CJ: ∀c,c∈lq->c∈l):
 Fn prog 263 [π b,ι id] l λv l'=>v= .tuple #[ι (firstD D id).1,.bool (firstD D id).2.1,.bool (firstD D id).2.2]/\ ∃cs,l'=cs++l:=by
 have H:=list_any b D lq id hq hn l CJ;unfold firstD;obtain⟨⟨xs,s⟩,hx⟩: ∃x,listD D id=x:=⟨_,rfl⟩
 rw[hx] at H⊢;dsimp only at H⊢;refine AO func263 ntmps263 λE=>?_;refine gz ?_;refine AP (Dr rfl rfl H) ?_;rintro _ _ ⟨sl,cs,rfl,ho,rfl⟩;cases xs with
 |nil=>obtain⟨pv,cap,rfl⟩:=ho.shape;simp only[EW];refine gz ?_;exact Bc .refl ⟨rfl,cs,rfl⟩
 |cons x r=>obtain⟨pv,cap,rfl,hI⟩:=ho.intsQ (l:=cs++l) λc hc=>Ai _ hc;obtain⟨gb,off,cc,t,fz,rfl,rJ,hcc⟩:=hI (by simp);have g0:=hcc 0 x rfl;have Ef:(x::r).length=r.length+1:=rfl;refine gz ?_;refine Be (DQ (cs:=cc) rfl rJ (by simpa using g0)) ?_;refine gz ?_;exact Bc .refl ⟨rfl,cs,rfl⟩
section
variable{ro:Option Nat}{N:Nat}{fr:Fr}{d:Option Nat}{ty:TypeId}{pos:String}{aft:Array Edge}{g:Option (Nat×Bool)}
theorem nQ{s x:Operand}{v:Value}{xs:A8}{id:Int}{X cs F:Ac}{bl:Nat}(hx:ev fr s=some v)(hy:ev fr x=some (.slice (some ⟨bl,0,none⟩) 1 1))(EY:OwnSl 3 1 v xs.length (xs.map CU) cs)(Ef:xs.length<=1000000):
 OpE prog ro N fr ((bl,.cells (τ [ι id]) 3 (0,0))::(X++(cs++F))) ⟨d,.call {callee:= .builtin .append,args:=#[s,x],argTypes:=#[40,40]},ty,pos,aft,g⟩
  (λv' l'=> ∃c2,OwnSl 3 1 v' (xs++[id]).length ((xs++[id]).map CU) c2/\l'=X++(c2++F)):=by
 have qR:((bl,Obj.cells (τ [ι id]) 3 (0,0))::(X++(cs++F))).Perm (cs++(((bl,Obj.cells (τ [ι id]) 3 (0,0))::X)++F)):=
  AC ((bl,Obj.cells (τ [ι id]) 3 (0,0))::X) cs F
 refine OpE.re (Keep.of_perm qR) (GN (k:=1) (yb:=8) (m:=1) (xs:=xs.map CU) (news:=[ι id]) (zs:=[ι 0]) hx hy rfl EY (Aa _ Al) (λj u hj=>by simpa using hj) rfl (by simp[Value.oneCell']) (by unfold maxLen;omega) Af) ?_;rintro v' _ ⟨c2,ho,rfl⟩;exact⟨_,Keep.trans (Keep.of_perm (AC c2 ((bl,Obj.cells (τ [ι id]) 3 (0,0))::X) F)) ζ,c2,by rw[Ah,At];exact ho,rfl⟩
end
theorem NF(A B:List Row)(r:Row)(x y:Bh):(x::y::(A++r::B).flatMap Row.ch).Perm (r.bl::(r.cs++(x::y::(A.flatMap Row.ch++B.flatMap Row.ch)))):=by rw[Eg,CB];have p1:(A.flatMap Row.ch++(r.ch++B.flatMap Row.ch)).Perm (r.bl::(r.cs++(A.flatMap Row.ch++B.flatMap Row.ch))):=AC (A.flatMap Row.ch) r.ch (B.flatMap Row.ch);refine((p1.cons _).cons _).trans ?_;refine(AC [x,y] [r.bl] (r.cs++(A.flatMap Row.ch++B.flatMap Row.ch))).trans (List.Perm.cons _ ?_);exact AC [x,y] r.cs _
abbrev Ut(b m clock:Nat)(es:List LK)(A B:List Row):Ac:=RJ b m::(m,Ge .i64 es clock)::(A.flatMap Row.ch++B.flatMap Row.ch)
theorem EB.focus(h:EB b (A++r::B) m clock lq):lq.Perm (r.bl::(r.cs++Ut b m clock ((A++r::B).map Row.ent) A B)):=by rw[h.eq];exact NF A B r _ _
theorem EB.put(h:EB b (A++r::B) m clock lq)(xs:A8)(s:Bool)(v:Value)(c2:Ac)(ho:OwnSl 3 1 v xs.length (xs.map CU) c2):
 EB b (A++⟨r.id,xs,s,r.pb,v,c2,r.st⟩::B) m clock (RJ b m::(m,Ge .i64 ((A++r::B).map Row.ent) clock)::(A++⟨r.id,xs,s,r.pb,v,c2,r.st⟩::B).flatMap Row.ch):=by
 have e1:(A++⟨r.id,xs,s,r.pb,v,c2,r.st⟩::B).map Row.ent=(A++r::B).map Row.ent:=by simp[Row.ent]
 have e2:(A++⟨r.id,xs,s,r.pb,v,c2,r.st⟩::B).map Row.st=(A++r::B).map Row.st:=by simp
 have e3:(A++⟨r.id,xs,s,r.pb,v,c2,r.st⟩::B).map Row.id=(A++r::B).map Row.id:=by simp
 refine⟨by rw[e1],λx hx=>?_,λx hx=>?_,by rw[e2];exact h.nd,by rw[e3];exact h.ids⟩
 ·rcases AB.1 hx with hx|hx
  ·exact h.own x (Ai _ hx)
  ·rcases Au.1 hx with rfl|hx
   ·exact ho
   ·exact h.own x (Aa _ (.tail _ hx))
 ·rcases AB.1 hx with hx|hx
  ·exact h.st x (Ai _ hx)
  ·rcases Au.1 hx with rfl|hx
   ·exact h.st r (Aa _ (.head _))
   ·exact h.st x (Aa _ (.tail _ hx))
def updD(D:DE)(id:Int)(y:A8×Bool):DE:=D.map λx=>if x.1=id then(x.1,y) else x
theorem Uu(hA: ∀x,x∈A->x.id≠r.id)(hB: ∀x,x∈B->x.id≠r.id)(xs:A8)(s:Bool)(v:Value)(c2:Ac):updD ((A++r::B).map Row.d) r.id (xs,s)=(A++⟨r.id,xs,s,r.pb,v,c2,r.st⟩::B).map Row.d:=by
 have key: ∀(L:List Row),(∀x,x∈L->x.id≠r.id)->(L.map Row.d).map (λx=>if x.1=r.id then(x.1,(xs,s)) else x)=L.map Row.d:=λL hL=>by rw[CO];apply Bs;intro x hx;simp[Row.d,hL x hx]
 unfold updD;rw[At,At,AK,AK,key A hA,key B hB,At,AK];simp[Row.d]
def s6(D:DE)(t:Int):Bool:=D.any λx=>decide (t∈x.2.1)
def waitD(D:DE)(id t:Int)(s:Bool):Int×DE:=match findD D id with
 |none=>(2,D)
 |some x=>if t<1 then(2,D) else if s6 D t=true then(16,D) else if 0<x.1.length/\(!(x.2==s))=true then(16,D) else(0,updD D id (x.1++[t],s))
def removeD(D:DE)(t:Int):Bool×DE:=match D.find? λx=>decide (t∈x.2.1) with
 |none=>(false,D)
 |some x=>(true,updD D x.1 (x.2.1.eraseIdx (x.2.1.idxOf t),x.2.2))
theorem Wx:s6 (rows.map Row.d) t=true<-> ∃r,r∈rows/\t∈r.th:=by
 unfold s6;rw[Ia];constructor
 ·rintro⟨x,hx,h⟩;rw[Ax] at hx;obtain⟨r,hr,rfl⟩:=hx;exact⟨r,hr,Do h⟩
 ·rintro⟨r,hr,h⟩;exact⟨r.d,Ax.2 ⟨r,hr,rfl⟩,Aq h⟩
theorem wait_any(b:Nat)(D:DE)(lq:Ac)(id t:Int)(s:Bool)(hq:IsE b D lq)(hn: ∀x,x∈D->x.2.1.length<=1000000)(F:Ac):
 Fn prog 264 [π b,ι id,ι t,.bool s] (lq++F) λv l'=>v= ι (waitD D id t s).1/\ ∃DI,IsE b (waitD D id t s).2 DI/\l'=DI++F:=by
 obtain⟨rows,m,clock,rfl,hE⟩:=hq;have Ym:RJ b m∈lq++F:=Ai _ hE.m1;have Vo:(m,Ge .i64 (rows.map Row.ent) clock)∈lq++F:=Ai _ hE.m2;have lJ: ∀r,r∈rows->r.th.length<=1000000:=λr hr=>hn r.d (Ax.2 ⟨r,hr,rfl⟩);refine AO func264 ntmps264 λE=>?_;refine Iy λb8=>?_;by_cases h1: ∃r,r∈rows/\r.id=id
 ·obtain⟨r,hr,rfl⟩:=h1;have hg:=Pf hE.ids hr;have aO:=Ls hE.ids hr;rw[hg];by_cases aQ:t<1
  ·rw[show waitD (rows.map Row.d) r.id t s=(2,rows.map Row.d) by unfold waitD;rw[aO];simp only;rw[Ad aQ]];refine gz ?_;exact AU [] ((b8,.cells #[ι 2] 29 (0,0))::(lq++F)) rfl (l':=lq++F) AY Ba AY ⟨rfl,_,⟨rows,m,clock,rfl,hE⟩,rfl⟩
  refine gz ?_;refine AP (Dr rfl rfl (Jy _ _ _)) ?_;rintro v l' ⟨B1,B2,rfl,rfl⟩;refine gz ?_;refine Dj (α:=Row) (ps:=[27,28]) (lb:=[π B1,π B2]) rfl (Ii B1 B2 b m clock t rows lq hE lJ) (λ_=>rfl) rfl
   (λpre l=>l=[(B2,.cells #[ι t] 3 (0,0)),(B1,.cells #[π b] 160 (0,0)),(b8,.cells #[ι 0] 29 (0,0))]/\pre=[])
   (λc pre l=>c= .ret/\pre≠[]/\l=[(b8,.cells #[ι 16] 29 (0,0))])
   _ (lq++F) (λpre l2 X2 hX h=>by rw[h.1];exact⟨.tail _ (.head _),.head _,λc hc=>Aa _ (hX _ (Ai _ hc))⟩) AY ⟨rfl,rfl⟩ ?_ ?_ ?_
  ·rintro E r0 Gb pre y l' T ⟨fn,tmps,D,rfl⟩ hT ⟨rfl,rfl⟩ DG;simp only[DY,Ae,Ag];refine gz ?_;refine CP D1 ?_;refine gz ?_;refine EH [(b8,.cells #[ι 16] 29 (0,0))] AY ⟨rfl,by simp,rfl⟩
  ·rintro D xs l' GK ⟨rfl,rfl⟩;have HI:¬s6 (rows.map Row.d) t=true:=λh=>by
    obtain⟨r',Vi,PJ⟩:=Wx.1 h;cases GK r' Vi PJ
   obtain⟨A,B,rfl,hA,hB⟩:=hE.split hr;have ho:=hE.own r hr;obtain⟨pv,cap,hv⟩:=ho.shape;have Ef:=lJ r hr;obtain⟨A6,hrest⟩:=ξ (Ut b m clock ((A++r::B).map Row.ent) A B)
   have hfp:lq.Perm ((r.pb,.cells (τ [.slice pv r.th.length cap,.bool r.sd]) 353 (0,0))::(r.cs++A6)):=by rw[<-hv,<-hrest];exact hE.focus
   rw[hv] at ho;simp only[Ae,Ag];refine KG (l':=Cv D::(b8,.cells #[ι 0] 29 (0,0))::(lq++F)) AY ?_;refine KG (Keep.of_perm (((hfp.append_right F).cons _).cons _)) ?_;simp only[Ae,Am];by_cases h0:0<r.th.length/\(!(r.sd==s))=true
   ·rw[show waitD ((A++r::B).map Row.d) r.id t s=(16,(A++r::B).map Row.d) by unfold waitD;rw[aO];simp only;rw[Ab aQ,Ab HI,Ad h0]];obtain⟨h0a,h0b⟩:=h0;refine gz ?_;rw[h0b];refine gz ?_;exact AU [D] ((b8,.cells #[ι 16] 29 (0,0))::(r.pb,.cells (τ [.slice pv r.th.length cap,.bool r.sd]) 353 (0,0))::(r.cs++(A6++F))) rfl (l':=lq++F) AY Ba (.drop (.of_perm (by have:=(hfp.append_right F).symm;simpa using this))) ⟨rfl,_,⟨A++r::B,m,clock,rfl,hE⟩,rfl⟩
   ·rw[show waitD ((A++r::B).map Row.d) r.id t s=(0,updD ((A++r::B).map Row.d) r.id (r.th++[t],s)) by unfold waitD;rw[aO];simp only;rw[Ab aQ,Ab HI,Ab h0]];by_cases h0a:0<r.th.length
    ·have h0b:(!(r.sd==s))=false:=by cases h:(!(r.sd==s)) with|false=>rfl|true=>exact absurd ⟨h0a,h⟩ h0
     refine gz ?_;rw[h0b];refine gz ?_;refine AP (Lq rfl rfl) ?_;rintro _ _ ⟨bl,_,rfl,rfl⟩;refine AP (nQ (X:=[Cv D,(b8,.cells #[ι 0] 29 (0,0)),(r.pb,.cells (τ [.slice pv r.th.length cap,.bool r.sd]) 353 (0,0))]) rfl rfl ho Ef) ?_;rintro v' _ ⟨c2,F0,rfl⟩;have Js:v'.oneCell'=true:=F0.one;simp only[Ae,Ag];refine gz ?_;refine AU [D] ((b8,.cells #[ι 0] 29 (0,0))::(r.pb,.cells (τ [v',.bool s]) 353 (0,0))::(c2++(A6++F))) rfl (l':=(RJ b m::(m,Ge .i64 ((A++r::B).map Row.ent) clock)::(A++⟨r.id,r.th++[t],s,r.pb,v',c2,r.st⟩::B).flatMap Row.ch)++F) AY Ba (.drop (.of_perm ?_)) ⟨rfl,_,⟨_,m,clock,(Uu hA hB _ _ v' c2).symm,hE.put _ s v' c2 F0⟩,rfl⟩;rw[<-hrest];have:=((NF A B ⟨r.id,r.th++[t],s,r.pb,v',c2,r.st⟩ (RJ b m) (m,Ge .i64 ((A++r::B).map Row.ent) clock)).append_right F).symm;rw[Ae,Am] at this;exact this
    ·refine gz ?_;refine AP (Lq rfl rfl) ?_;rintro _ _ ⟨bl,_,rfl,rfl⟩;refine AP (nQ (X:=[Cv D,(b8,.cells #[ι 0] 29 (0,0)),(r.pb,.cells (τ [.slice pv r.th.length cap,.bool r.sd]) 353 (0,0))]) rfl rfl ho Ef) ?_;rintro v' _ ⟨c2,F0,rfl⟩;have Js:v'.oneCell'=true:=F0.one;simp only[Ae,Ag];refine gz ?_;refine AU [D] ((b8,.cells #[ι 0] 29 (0,0))::(r.pb,.cells (τ [v',.bool s]) 353 (0,0))::(c2++(A6++F))) rfl (l':=(RJ b m::(m,Ge .i64 ((A++r::B).map Row.ent) clock)::(A++⟨r.id,r.th++[t],s,r.pb,v',c2,r.st⟩::B).flatMap Row.ch)++F) AY Ba (.drop (.of_perm ?_)) ⟨rfl,_,⟨_,m,clock,(Uu hA hB _ _ v' c2).symm,hE.put _ s v' c2 F0⟩,rfl⟩;rw[<-hrest];have:=((NF A B ⟨r.id,r.th++[t],s,r.pb,v',c2,r.st⟩ (RJ b m) (m,Ge .i64 ((A++r::B).map Row.ent) clock)).append_right F).symm;rw[Ae,Am] at this;exact this
  ·rintro D c pre l' DG ⟨rfl,GS,rfl⟩;obtain⟨r',Vi⟩:=List.exists_mem_of_ne_nil _ GS;have Ae4:=Wx.2 ⟨r',DG r' Vi⟩;rw[show waitD (rows.map Row.d) r.id t s=(16,rows.map Row.d) by unfold waitD;rw[aO];simp only;rw[Ab aQ,Ad Ae4]];simp only[Ae,Ag];refine gz ?_;exact AU [D] ((b8,.cells #[ι 16] 29 (0,0))::(lq++F)) rfl (l':=lq++F) AY Ba AY ⟨rfl,_,⟨rows,m,clock,rfl,hE⟩,rfl⟩
 ·have HI: ∀r,r∈rows->r.id≠id:=λr hr e=>h1 ⟨r,hr,e⟩;have hg:=Pe HI;rw[show waitD (rows.map Row.d) id t s=(2,rows.map Row.d) by unfold waitD;rw[Nu HI]];rw[hg];refine gz ?_;exact AU [] ((b8,.cells #[ι 2] 29 (0,0))::(lq++F)) rfl (l':=lq++F) AY Ba AY ⟨rfl,_,⟨rows,m,clock,rfl,hE⟩,rfl⟩
theorem s7(v:Value)(xs:A8)(i:Nat)(hi:i<xs.length)(X cs Y:Ac)(h:OwnSl 3 1 v xs.length (xs.map CU) cs)(hn:xs.length<=1000000):
 Fn prog 199 [v,ι (i:Nat),ι ((i:Int)+1)] (X++(cs++Y)) λr l'=> ∃c2,OwnSl 3 1 r (xs.eraseIdx i).length ((xs.eraseIdx i).map CU) c2/\l'=X++(c2++Y):=by
 refine Fn.re (Keep.of_perm (AC X cs Y)) (Qu.delete_any v xs i hi cs _ h hn) ?_;rintro v l' ⟨c2,h1,h2⟩;exact⟨_,by rw[h2];exact Keep.of_perm (AC c2 X Y),c2,h1,rfl⟩
def OneAt(D:DE)(t:Int):Prop:= ∀x y,x∈D->y∈D->t∈x.2.1->t∈y.2.1->x.1=y.1
theorem yU(hn:(rows.map Row.id).Nodup)(hU:OneAt (rows.map Row.d) t)(hr:r∈rows)(ht:t∈r.th):(rows.map Row.d).find? (λx=>decide (t∈x.2.1))=some r.d:=by
 have hs:((rows.map Row.d).find? λx=>decide (t∈x.2.1)).isSome=true:=List.find?_isSome.2 ⟨r.d,Ax.2 ⟨r,hr,rfl⟩,Aq ht⟩;obtain⟨x,hx⟩:=IB.1 hs;have h1:t∈x.2.1:=by have:=Eb hx;simpa using this
 have hm:=BE hx;have Vp:=hU x r.d hm (Ax.2 ⟨r,hr,rfl⟩) h1 ht;rw[hx];rw[Ax] at hm;obtain⟨r',Vi,rfl⟩:=hm;have:r'=r:=T6 hn Vi hr Vp;rw[this]
theorem remove_any(b:Nat)(D:DE)(lq:Ac)(t:Int)(hq:IsE b D lq)(hn: ∀x,x∈D->x.2.1.length<=1000000)(hU:OneAt D t)(F:Ac):
 Fn prog 259 [π b,ι t] (lq++F) λv l'=>v= .bool (removeD D t).1/\ ∃DI,IsE b (removeD D t).2 DI/\l'=DI++F:=by
 obtain⟨rows,m,clock,rfl,hE⟩:=hq;have lJ: ∀r,r∈rows->r.th.length<=1000000:=λr hr=>hn r.d (Ax.2 ⟨r,hr,rfl⟩);refine AO func259 ntmps259 λE=>?_;refine Iy λb4=>?_;refine AP (Dr rfl rfl (Jy _ _ _)) ?_;rintro v l' ⟨B1,B2,rfl,rfl⟩;refine gz ?_;refine Dj (α:=Row) (ps:=[10,11]) (lb:=[π B1,π B2]) rfl (Ii B1 B2 b m clock t rows lq hE lJ) (λ_=>rfl) rfl
  (λpre l=>l=[(B2,.cells #[ι t] 3 (0,0)),(B1,.cells #[π b] 160 (0,0)),(b4,.cells #[.bool false] 4 (0,0))]++lq/\pre=[])
  (λc pre l=>c= .ret/\ ∃A r B v' c2,rows=A++r::B/\(∀x,x∈A->x.id≠r.id)/\(∀x,x∈B->x.id≠r.id)/\t∈r.th/\OwnSl 3 1 v' (r.th.eraseIdx (r.th.idxOf t)).length ((r.th.eraseIdx (r.th.idxOf t)).map CU) c2/\l=(b4,.cells #[.bool true] 4 (0,0))::(r.pb,.cells (τ [v',.bool r.sd]) 353 (0,0))::(c2++Ut b m clock (rows.map Row.ent) A B))
  _ F (λpre l2 X2 hX h=>by rw[h.1];exact⟨.tail _ (.head _),.head _,λc hc=>Ai _ (Aa _ hc)⟩) AY ⟨rfl,rfl⟩ ?_ ?_ ?_
 ·rintro E r0 Gb pre r l' T ⟨fn,tmps,D,rfl⟩ hT ⟨rfl,rfl⟩ DG;obtain⟨hr,ht⟩:=DG r (by simp);obtain⟨A,B,rfl,hA,hB⟩:=hE.split hr;have ho:=hE.own r hr;obtain⟨pv,cap,hv⟩:=ho.shape;have Ef:=lJ r hr;obtain⟨A6,hrest⟩:=ξ (Ut b m clock ((A++r::B).map Row.ent) A B)
  have hfp:lq.Perm ((r.pb,.cells (τ [.slice pv r.th.length cap,.bool r.sd]) 353 (0,0))::(r.cs++A6)):=by rw[<-hv,<-hrest];exact hE.focus
  rw[hv] at ho;have C7:=Hq ht;simp only[DY,Ae,Ag];refine gz ?_;refine CP (.there (.there (.there (FX _ _ _ _ _)))) ?_;refine Eh (.drop (.drop (.of_perm ((hfp.append_right _).cons _)))) ?_;simp only[Ae,Am];refine gz ?_;refine AP (Dr rfl rfl (s7 _ r.th (r.th.idxOf t) C7 [(b4,.cells #[.bool false] 4 (0,0)),(r.pb,.cells (τ [.slice pv r.th.length cap,.bool r.sd]) 353 (0,0))] r.cs _ ho Ef)) ?_;rintro v' _ ⟨c2,F0,rfl⟩;have Js:v'.oneCell'=true:=F0.one;simp only[Ae,Ag];refine gz ?_;refine EH _ ?_ ⟨rfl,A,r,B,v',c2,rfl,hA,hB,ht,F0,rfl⟩;rw[hrest];simp only[Ae,Am];exact .refl
 ·rintro D xs l' GK ⟨rfl,rfl⟩;have HI:(rows.map Row.d).find? (λx=>decide (t∈x.2.1))=none:=Bp.2 λx hx=>by
   rw[Ax] at hx;obtain⟨r,hr,rfl⟩:=hx;intro h;cases GK r hr (Do h)
  rw[show removeD (rows.map Row.d) t=(false,rows.map Row.d) by unfold removeD;rw[HI]];simp only[Ae,Ag];refine gz ?_;exact AU [D] ((b4,.cells #[.bool false] 4 (0,0))::(lq++F)) rfl (l':=lq++F) AY Ba AY ⟨rfl,_,⟨rows,m,clock,rfl,hE⟩,rfl⟩
 ·rintro D c pre l' DG ⟨rfl,A,r,B,v',c2,rfl,hA,hB,ht,F0,rfl⟩;rw[show removeD ((A++r::B).map Row.d) t=(true,updD ((A++r::B).map Row.d) r.id (r.th.eraseIdx (r.th.idxOf t),r.sd)) by unfold removeD;rw[yU hE.ids hU (Aa _ (.head _)) ht];rfl];obtain⟨A6,hrest⟩:=ξ (Ut b m clock ((A++r::B).map Row.ent) A B)
  rw[hrest];simp only[Ae,Am];refine gz ?_;refine AU [D] ((b4,.cells #[.bool true] 4 (0,0))::(r.pb,.cells (τ [v',.bool r.sd]) 353 (0,0))::(c2++(A6++F))) rfl (l':=(RJ b m::(m,Ge .i64 ((A++r::B).map Row.ent) clock)::(A++⟨r.id,r.th.eraseIdx (r.th.idxOf t),r.sd,r.pb,v',c2,r.st⟩::B).flatMap Row.ch)++F) AY Ba (.drop (.of_perm ?_)) ⟨rfl,_,⟨_,m,clock,(Uu hA hB _ _ v' c2).symm,hE.put _ r.sd v' c2 F0⟩,rfl⟩;rw[<-hrest];have:=((NF A B ⟨r.id,r.th.eraseIdx (r.th.idxOf t),r.sd,r.pb,v',c2,r.st⟩ (RJ b m) (m,Ge .i64 ((A++r::B).map Row.ent) clock)).append_right F).symm;rw[Ae,Am] at this;exact this
end En
namespace Tr
section
variable{P:Program}{ro:Option Nat}{N:Nat}{E:World}{ops:Array Oper}{Q:Exit->Act->World->Prop}{R:Ac}{tbl:List (List Nat)}{sw:Sw}{sp:F5}{pl:List BI}{o:Oper}{fr fr':Fr}{ds:List Deferred}{l l':Ac}{K:Value->Ac->Prop}{v:Value}{i:Nat}{k:Bool}
end
theorem Wy(b p:Nat)(l:Ac):Fn prog 359 [π b,π p] l λv l'=> ∃B1 B2,v= .func (.func 383) #[] #[π B2,π B1]/\l'=Zv B1 p::aF B2 b::l:=by refine AO func359 ntmps359 λE=>?_;refine Iy λb2=>?_;refine Iy λb3=>?_;exact Bc .refl ⟨b3,b2,rfl,rfl⟩
theorem Uv(B1 B2 b rb m p:Nat)(F:Nat->NdT)(all os:List Nat)(es:List (Hu SlotT))(clock:Nat)(lq:Ac)(hT:TB b rb m F all os es clock lq)(X Y:List Nat)(hX:rb::os=X++p::Y):
 FN prog 383 [π B2,π B1] (λq:Nat=>[π q]) (λxs=>xs=Y.takeWhile λq=>decide ((F p).dp<(F q).dp)) (λpre=>pre<+:Y.takeWhile λq=>decide ((F p).dp<(F q).dp))
  (λpre l=>Zv B1 p∈l/\aF B2 b∈l/\Lu b rb m∈l/\Dps F (rb::os) pre l):=by
 refine⟨λr I Ix G0 Cf hY l G hG h0=>?_⟩;have Ln:(p::Y).Nodup:=by have:=hT.ond;rw[hX] at this;exact(BC.1 this).2.1
 have hpc:p∈rb::os:=by rw[hX];simp
 obtain⟨tw,JL⟩: ∃tw,tw=Y.takeWhile λq=>decide ((F p).dp<(F q).dp):=⟨_,rfl⟩
 rw[<-JL] at hY⊢;obtain⟨n1,n2,n3,n4⟩:=Cf _ _ G hG h0;refine AO func383 ntmps383 λE=>?_;refine Iy λb3=>?_;refine AP (Dr rfl rfl (Un _ _ _)) ?_;rintro v l' ⟨C1,C2,rfl,rfl⟩;refine gz ?_;refine Dj (α:=Nat) (ps:=[8]) (lb:=[π C1,π C2]) rfl (Sd C1 C2 b rb m p F all os es clock lq hT X Y hX) (λ_=>rfl) rfl
  (λpre l=> ∃l1,I pre l1/\pre<+:tw/\l=[Zv C1 p,aF C2 b,(b3,.cells #[.func (.yield r) #[] #[]] 407 (0,0))]++l1)
  (λc pre l=>c= .exit 0/\ ∃l1,((pre<+:tw/\Ix pre l1)\/I tw l1)/\l=[Zv C1 p,aF C2 b,(b3,.cells #[.func (.yield r) #[] #[]] 407 (0,0))]++l1)
  _ G (λpre l2 X2 hX2 h=>by obtain⟨l1,hI,_,rfl⟩:=h;obtain⟨k1,k2,k3,k4⟩:=Cf _ _ X2 (λc hc=>hX2 c (hG c hc)) hI;refine⟨.head _,.tail _ (.head _),.tail _ (.tail _ (.tail _ k3)),λq hq=>?_⟩;obtain⟨x,h1,h2,h3⟩:=k4 q hq;exact⟨x,.tail _ (.tail _ (.tail _ h1)),h2⟩) AY ⟨l,h0,List.nil_prefix,rfl⟩ ?_ ?_ ?_
 ·rintro E r0 Gb pre y l' T ⟨fn,tmps,D,rfl⟩ Ry ⟨l1,hI,hpt,rfl⟩ DG;simp only[DY,Ae,Ag];refine gz ?_;refine CP (.there (.there (.there (FX _ _ _ _ _)))) ?_;generalize hX1:(r0,Obj.loop (DV fn tmps _ _ _ D .busy none))::T=X1;have hG1: ∀c,c∈G0->c∈X1:=λc hc=>by rw[<-hX1];exact .tail _ (Ry c (hG c hc))
  have x8:y∉pre/\p∉pre/\y∈rb::os:=by
   obtain⟨r9,h9⟩:=DG;rw[<-h9] at Ln hX;refine⟨λh=>?_,λh=>?_,by rw[hX];simp⟩
   ·have:=(BC.1 (BC.1 (AQ.1 Ln).2).1).2.2 y h y (by simp);exact this rfl
   ·exact(AQ.1 Ln).1 (by simp[h])
  obtain⟨k1,k2,k3,k4⟩:=Cf _ _ X1 hG1 hI;obtain⟨xy,Vm,_,hyd⟩:=k4 y x8.2.2;obtain⟨xp,hxp,_,hpd⟩:=k4 p hpc;have hyd:=hyd x8.1;have hpd:=hpd x8.2.1;by_cases C7:(F p).dp<(F y).dp
  ·have lK:pre++[y]<+:tw:=by rw[JL] at hpt⊢;exact sX DG hpt (Aq C7)
   refine gz ?_;refine Ct [12] 15 ([(b3,.cells #[.func (.yield r) #[] #[]] 407 (0,0))]) ?_;refine pz ?_;apply Gy (S:=[OU y xy])
   ·exact DQ rfl (.head _) rfl
   ·intro c hc;cases hc with
    |head=>exact .tail _ (.tail _ (.tail _ Vm))
    |tail _ h=>cases h
   ·rfl
   ·rfl
   ·rfl
   refine pz ?_;apply Gy (S:=[Zv B1 p])
   ·exact DQ rfl (.head _) rfl
   ·intro c hc;cases hc with
    |head=>exact .tail _ (.tail _ (.tail _ k1))
    |tail _ h=>cases h
   ·rfl
   ·rfl
   ·rfl
   refine pz ?_;apply Gy (S:=[OU p xp])
   ·exact DQ rfl (.head _) rfl
   ·intro c hc;cases hc with
    |head=>exact .tail _ (.tail _ (.tail _ hxp))
    |tail _ h=>cases h
   ·rfl
   ·rfl
   ·rfl
   refine pz ?_;apply P7
   ·apply OpE.re (K':=λv l3=> ∃l2,l3=Zv C1 p::aF C2 b::(b3,.cells #[.func (.yield r) #[] #[]] 407 (0,0))::(l2++X1)/\((v= .bool true/\I (pre++[y]) l2)\/(v= .bool false/\Ix (pre++[y]) l2))) (Keep.in_mid [Zv C1 p,aF C2 b,(b3,.cells #[.func (.yield r) #[] #[]] 407 (0,0))] l1 X1)
    ·exact C8 rfl rfl (hY pre y l1 _ (λc hc=> .tail _ (.tail _ (.tail _ (hG1 c hc)))) hI lK)
    ·rintro v _ ⟨l2,rfl,hor⟩;exact⟨_,Keep.in_mid l2 [Zv C1 p,aF C2 b,(b3,.cells #[.func (.yield r) #[] #[]] 407 (0,0))] X1,l2,rfl,hor⟩
   ·rfl
   ·rfl
   ·rfl
   ·rintro _ _ ⟨l2,rfl,_⟩ c hc;cases hc with
    |head=>exact .tail _ ν
    |tail _ h=>cases h
   ·exact λ_ _ _ x hx ha=>Dk Bu hx ha
   rintro v _ ⟨l2,rfl,⟨rfl,N7⟩|⟨rfl,N7⟩⟩
   ·refine pz ?_;refine gz ?_;rw[<-hX1];exact Cn _ (.refl) ⟨l2,N7,lK,rfl⟩
   ·refine pz ?_;refine gz ?_;rw[<-hX1];exact Fe _ (.refl) ⟨rfl,l2,.inl ⟨lK,N7⟩,rfl⟩
  ·have lK:pre=tw:=by rw[JL] at hpt⊢;exact sY DG hpt (Av C7)
   refine gz ?_;refine Ct [12] 15 _ ?_ (hR:=(λ_ h=>h));refine pz ?_;refine gz ?_;rw[<-hX1];exact Fe _ (.refl) ⟨rfl,l1,.inr (lK▸hI),rfl⟩
 ·rintro D xs l' rfl ⟨l1,hI,hpt,rfl⟩;simp only[Ae,Ag];have GK:xs=tw:=by rw[JL] at hpt⊢;exact yS hpt
  refine gz ?_;exact AU [D] (l1++G) rfl (l':=l1++G) AY Ba .refl ⟨l1,rfl,.inl ⟨_,rfl,GK▸hI⟩⟩
 ·rintro D c pre l' DG ⟨rfl,l1,hor,rfl⟩;simp only[Ae,Ag];refine gz ?_;refine AU [D] (l1++G) rfl (l':=l1++G) AY Ba .refl ⟨l1,rfl,?_⟩;rcases hor with⟨h1,h2⟩|h
  ·exact .inr ⟨_,h1,h2⟩
  ·exact .inl ⟨_,rfl,h⟩
theorem belowOf_any(b:Nat)(D:DT)(lq:Ac)(hq:IsT b D lq)(hn:D.length<=1000000)(s:SlotT)(l:Ac)(CJ: ∀c,c∈lq->c∈l):
 Fn prog 322 [π b,.agg (τ (Cd s))] l λv l'=> ∃cs,OwnSl 61 2 v (belowD D s).length (scs (belowD D s)) cs/\l'=cs++l:=by
 obtain⟨rb,m,F,all,os,es,clock,rfl,hT⟩:=hq;have lr:os.length<=1000000:=by simpa[FH] using hn
 have h1:=CJ _ hT.m1;have lF: ∀q,q∈rb::os->OU q (F q)∈l:=λq hq=>by
  rcases Au.1 hq with rfl|hq
  ·exact CJ _ (hT.m3 hT.rin)
  ·exact CJ _ (hT.m3 (hT.sub q hq))
 refine AO func322 ntmps322 λE=>?_;refine gz ?_;refine AP (Cw rfl) ?_;rintro _ _ ⟨b0,hb0,rfl,rfl⟩;refine gz ?_;refine Be (AI (R:=(b0,Obj.cells (τ (Cd s)) 61 (0,0))::l) rfl rfl λl2 JP=>of_any b rb m F all os es clock lq s hT l2 λc hc=>JP c (.tail _ (CJ c hc))) ?_;cases hbk:blk F os s with
 |none=>
  have e:belowD (FH F os) s=[]:=by unfold belowD;rw[J7 hbk]
  rw[e];refine gz ?_;exact Bc ζ ⟨[],OwnSl.nil _ _,rfl⟩
 |some p=>
  obtain⟨Ao,Bo,rfl,hsd⟩:=Hn hbk;have e:belowD (FH F (Ao++p::Bo)) s=(Bo.takeWhile λq=>decide ((F p).dp<(F q).dp)).map λq=>(F q).sl:=by unfold belowD;rw[hsd];exact Uo Bo
  rw[e];simp only[NB];refine Iy λb6=>?_;refine AP (Dr rfl rfl (Wy _ _ _)) ?_;rintro v l' ⟨C1,C2,rfl,rfl⟩;refine gz ?_;refine Dj (α:=Nat) (ps:=[16]) (lb:=[π C2,π C1]) rfl (Uv C1 C2 b rb m p F all (Ao++p::Bo) es clock lq hT (rb::Ao) Bo rfl) (λ_=>rfl) rfl
   (λpre l=> ∃v cs,OwnSl 61 2 v pre.length (scs (pre.map λq=>(F q).sl)) cs/\l=[Zv C1 p,aF C2 b,(b6,.cells #[v] 64 (0,0))]++cs)
   (λc pre l=>False)
   _ l (λpre l2 X2 hX h=>by obtain⟨v,cs,_,rfl⟩:=h;exact⟨.head _,.tail _ (.head _),Aa _ (hX _ h1),λq hq=>⟨F q,Aa _ (hX _ (lF q hq)),rfl,λ_=>rfl⟩⟩) AY ⟨_,[],OwnSl.nil _ _,rfl⟩ ?_ ?_ ?_
  ·rintro E r0 Gb pre y l' T ⟨fn,tmps,Dd,rfl⟩ Ry ⟨v,cs',EY,rfl⟩ DG;have hy:y∈rb::(Ao++p::Bo):=An _ (Aa _ (An _ ((Es _).subset (DG.subset (by simp)))));have hyT:=Ry _ (lF y hy);have Yj:pre.length<=1000000:=by have h1:=DG.length_le;have h2:=(Es (l:=Bo) λq=>decide ((F p).dp<(F q).dp)).length_le;simp at h1 lr;omega
   simp only[DY,Ae,Ag];refine gz ?_;refine CP (.there (.there (.there (FX _ _ _ _ _)))) ?_;generalize hX1:(r0,Obj.loop (DV fn tmps _ _ _ Dd .busy none))::T=X1;have x7:OU y (F y)∈X1:=by rw[<-hX1];exact .tail _ hyT
   refine gz ?_;refine Ct [5,6,7] 8 ([]) ?_;refine pz ?_;apply Gy (S:=[(b6,.cells #[v] 64 (0,0))])
   ·exact DQ rfl (.head _) rfl
   ·intro c hc;cases hc with
    |head=>exact .tail _ ν
    |tail _ h=>cases h
   ·rfl
   ·rfl
   ·rfl
   refine pz ?_;apply Gy (S:=[OU y (F y)])
   ·exact E1 rfl (.head _) (by(repeat(first|with_reducible apply LSub.done|with_reducible apply LSub.take|with_reducible apply LSub.drop)))
   ·intro c hc;cases hc with
    |head=>exact .tail _ (.tail _ (.tail _ (Aa _ x7)))
    |tail _ h=>cases h
   ·rfl
   ·rfl
   ·rfl
   refine pz ?_;apply Hi
   ·apply FB (ws:=Cd (F y).sl) (k:=2)
    ·rfl
    ·rfl
    ·rfl
    ·decide
    ·decide
   ·rfl
   ·rfl
   ·rfl
   ·intro _ _ _ c hc;cases hc
   ·rintro _ _ ⟨bl,_,rfl,rfl⟩ x hx _ c hc;have h3: ∀o:Obj,(b6,o)∈(bl,Obj.cells (τ (Cd (F y).sl)) 61 (0,0))::Zv C1 p::aF C2 b::(b6,o)::(cs'++X1):=λo=> .tail _ ω;simp only[Au,BR,EF] at hx;rcases hx with rfl|rfl<;>simp only[Au,BR,EF] at hc<;>subst hc
    ·exact .tail _ (.tail _ (.tail _ (.tail _ (Aa _ x7))))
    ·exact h3 _
   rintro _ _ ⟨bl,_,rfl,rfl⟩;refine pz ?_;apply Hi
   ·apply HM (k:=2) (X:=[Zv C1 p,aF C2 b,(b6,.cells #[v] 64 (0,0))]) (cs:=cs') (xs:=scs (pre.map λq=>(F q).sl)) (n:=pre.length) (zs:=[ι 0,ι 0]) (ws:=Cd (F y).sl)
    ·rfl
    ·rfl
    ·rfl
    ·exact EY
    ·rfl
    ·simp[Value.oneCell']
    ·omega
    ·decide
   ·rfl
   ·rfl
   ·rfl
   ·intro _ _ _ c hc;cases hc
   ·exact λ_ _ _ x hx ha=>Dk Bu hx ha
   rintro v' _ ⟨c2,F0,rfl⟩;have Js:v'.oneCell'=true:=F0.one;simp only[Ae,Ag];apply HL
   ·apply GM (cs:=[v])
    ·rfl
    ·rfl
    ·exact Js
    ·exact Ca
    ·exact .zero
    ·exact D1
   ·rfl
   ·rfl
   ·intro _ _ _ c hc;cases hc
   ·exact λ_ _ _ x hx ha=>Dk Bu hx ha
   rintro _ _ ⟨rfl,rfl⟩;refine pz ?_;refine gz ?_;rw[<-hX1];refine Cn _ (.refl) ⟨v',c2,?_,rfl⟩;rw[At,AK,CZ,scs_snoc,Ah];exact F0
  ·rintro Dd xs l' rfl ⟨v,cs',EY,rfl⟩;have Js:v.oneCell'=true:=EY.one;simp only[Ae,Ag];refine gz ?_;refine AU [Dd] (cs'++l) rfl (l':=cs'++l) AY Ba .refl ?_;exact⟨cs',by rw[A5];exact EY,rfl⟩
  ·rintro Dd c pre l' DG h;exact h.elim
theorem move_any(b:Nat)(D:DT)(lq:Ac)(hq:IsT b D lq)(a c:SlotT)(G:Ac):
 Fn prog 286 [π b,.agg (τ (Cd a)),.agg (τ (Cd c))] (lq++G) λv l'=>v= ι (moveD D a c).1/\ ∃DI,IsT b (moveD D a c).2 DI/\l'=DI++G:=by
 obtain⟨rb,m,F,all,os,es,clock,rfl,hT⟩:=hq;refine AO func286 ntmps286 λE=>?_;refine gz ?_;refine AP (Cw rfl) ?_;rintro _ _ ⟨b4,hb4,rfl,rfl⟩;refine gz ?_;refine AP (Cw rfl) ?_;rintro _ _ ⟨b5,hb5,rfl,rfl⟩;have LH: ∀lq:Ac,Keep (lq++(Dz b5 c::Dz b4 a::G)) (lq++G):=λlq=>Keep.trans (.of_perm (AC lq [Dz b5 c,Dz b4 a] G)) θ;refine Bt (Keep.of_perm (l':=lq++(Dz b5 c::Dz b4 a::G)) (AC [Dz b5 c,Dz b4 a] lq G)) ?_;have CJ: ∀x,x∈lq->x∈lq++(Dz b5 c::Dz b4 a::G):=λx hx=>Ai _ hx;have hm4:Dz b4 a∈lq++(Dz b5 c::Dz b4 a::G):=Aa _ ν;have lG:Dz b5 c∈lq++(Dz b5 c::Dz b4 a::G):=Aa _ (.head _);refine gz ?_;refine Be (AI rfl rfl λl2 JP=>of_any b rb m F all os es clock lq a hT l2 λx hx=>JP x (CJ x hx)) ?_;cases ej:blk F os a with
 |none=>rw[show moveD (FH F os) a c=(10,FH F os) by unfold moveD;rw[J7 ej]];simp only[NB];refine gz ?_;exact Bc (l':=lq++G) (LH lq) ⟨rfl,lq,⟨rb,m,F,all,os,es,clock,rfl,hT⟩,rfl⟩
 |some p=>
  simp only[NB];refine gz ?_;refine Be (AI rfl rfl λl2 JP=>of_any b rb m F all os es clock lq c hT l2 λx hx=>JP x (CJ x hx)) ?_;cases hbk:blk F os c with
  |some q=>rw[show moveD (FH F os) a c=(11,FH F os) by unfold moveD;obtain⟨A,B,_,h2⟩:=Hn ej;rw[h2];simp only;rw[ND,hbk];rfl];simp only[NB];refine gz ?_;exact Bc (l':=lq++G) (LH lq) ⟨rfl,lq,⟨rb,m,F,all,os,es,clock,rfl,hT⟩,rfl⟩
  |none=>
   rw[show moveD (FH F os) a c=(0,(splitD a (FH F os)).elim [] λy=>y.1++(c,y.2.1)::y.2.2) by unfold moveD;obtain⟨A,B,_,h2⟩:=Hn ej;rw[h2];simp only;rw[ND,hbk];rfl];obtain⟨A,B,rfl,h2⟩:=Hn ej;rw[h2];have N3:=(IJ ej).2;have xY:p∈all:=hT.sub p (by simp);have HI:=Kq hbk;obtain⟨uA,uB⟩:=hT.uniq;rw[N3] at uA uB;simp only[NB];rw[hT.eq];simp only[Ae];have hb4: ∀F':Nat->NdT,Dz b4 a∈OV F' all++(Dz b5 c::Dz b4 a::G):=λF'=>Aa _ ν;have hb5: ∀F':Nat->NdT,Dz b5 c∈OV F' all++(Dz b5 c::Dz b4 a::G):=λF'=>Aa _ (.head _);refine gz ?_;refine Ct [5] 6 ([]) ?_;refine pz ?_;apply Gy (S:=[Lu b rb m]);(·exact VE);(·exact Da (.head _));(·rfl);(·rfl);(·rfl);refine pz ?_;apply Gy (S:=[Dz b4 a]);(·exact VE);(·exact Da (.tail _ (.tail _ (hb4 F))));(·rfl);(·rfl);(·rfl);refine pz ?_;apply HL
   ·apply V8 (enc:=Cd) (a:=a) (es:=es) (clock:=clock) (ks:=[some .i64,some .i64])
    ·rfl
    ·rfl
    ·exact NA
    ·exact D1
   (·rfl);(·rfl);(·intro _ _ _ c hc;cases hc);(·exact λ_ _ _ x hx ha=>Dk Bu hx ha)
   rintro _ _ ⟨rfl,rfl⟩;refine pz ?_;have Aiw:=hb5 F;refine gz ?_;refine Nk (l:=Lu b rb m::(m,Ir Cd (PF a es) clock)::(OV F all++(Dz b5 c::Dz b4 a::G))) (EG (b:=p) (off:=0) (cs:=τ (F p).cells) (n:=2) rfl rfl rfl (by simp[Value.oneCell']) (.there (.there (Kp (Mg {F p with sl:=c} hT.nd xY) _))) (by simp)) rfl rfl ?_;rintro _ _ ⟨rfl,rfl⟩;obtain⟨F1,hF1⟩: ∃F1,F1=upd F p {F p with sl:=c}:=⟨_,rfl⟩
   rw[<-hF1];have Aix:=hb5 F1;refine gz ?_;refine Ct [6] 7 ([]) ?_;refine pz ?_;apply Gy (S:=[Lu b rb m]);(·exact VE);(·exact Da (.head _));(·rfl);(·rfl);(·rfl);refine pz ?_;apply Gy (S:=[Dz b5 c]);(·exact VE);(·exact Da (.tail _ (.tail _ (hb5 F1))));(·rfl);(·rfl);(·rfl);refine pz ?_;apply HL
   ·apply QM (enc:=Cd) (a:=c) (es:=PF a es) (clock:=clock) (ks:=[some .i64,some .i64])
    ·rfl
    ·rfl
    ·rfl
    ·exact NA
    ·exact D1
   (·rfl);(·rfl);(·intro _ _ _ c hc;cases hc);(·exact λ_ _ _ x hx ha=>Dk Bu hx ha)
   rintro _ _ ⟨rfl,rfl⟩;refine pz ?_;refine gz ?_;have ep:F1 p={F p with sl:=c}:=by rw[hF1,upd_same]
   have eo: ∀q,q≠p->F1 q=F q:=λq hq=>by rw[hF1,upd_other _ _ _ _ hq]
   have el: ∀q,(F1 q).nx=(F q).nx/\(F1 q).pv=(F q).pv/\(F1 q).dp=(F q).dp:=λq=>by
    by_cases e:q=p
    ·rw[e,ep];exact⟨rfl,rfl,rfl⟩
    ·rw[eo q e];exact⟨rfl,rfl,rfl⟩
   have oA: ∀q,q∈A->q≠p:=λq hq e=>hT.out.1 (e▸hq);have oB: ∀q,q∈B->q≠p:=λq hq e=>hT.out.2.1 (e▸hq);obtain⟨DI,RA⟩: ∃DI,DI=Lu b rb m::(m,Ir Cd (LN c (π p) clock (PF a es)).1 (LN c (π p) clock (PF a es)).2)::OV F1 all:=⟨_,rfl⟩
   have hdA:FH F1 A=FH F A:=Po λq hq=>by rw[eo q (oA q hq)];exact⟨rfl,rfl⟩
   have hdB:FH F1 B=FH F B:=Po λq hq=>by rw[eo q (oB q hq)];exact⟨rfl,rfl⟩
   refine Bc (l':=DI++G) ?_ ⟨rfl,DI,⟨rb,m,F1,all,A++p::B,_,_,?_,⟨RA,hT.nd,hT.rin,hT.sub,hT.ond,OW hT.adj (λu _=>(el u).1) (λv _=>(el v).2.1),?_,(hT.keys.del a).set _ _,λs'=>?_⟩⟩,rfl⟩
   ·have h9:=LH DI;rw[RA] at h9;rw[RA];exact h9
   ·show FH F1 (A++p::B)=FH F A++(c,(F p).dp)::FH F B;rw[<-hdA,<-hdB];unfold FH;rw[At,AK,ep]
   ·have h1:A.map (λq=>(F1 q).sl)=A.map (λq=>(F q).sl):=Bs λq hq=>by rw[eo q (oA q hq)]
    have h2:B.map (λq=>(F1 q).sl)=B.map (λq=>(F q).sl):=Bs λq hq=>by rw[eo q (oB q hq)]
    have hn:=hT.snd;rw[At,AK] at hn⊢;rw[h1,h2,ep];have kI:=(AJ.nodup_iff.1 hn)
    refine AJ.nodup_iff.2 (AQ.2 ⟨λh=>?_,(AQ.1 kI).2⟩);rcases AB.1 h with h|h
    ·obtain⟨q,hq,e⟩:=Ax.1 h;exact HI q (Ai _ hq) e
    ·obtain⟨q,hq,e⟩:=Ax.1 h;exact HI q (Aa _ (.tail _ hq)) e
   ·show _=(blk F1 (A++p::B) s').map _;rw[Ko,QJ hT.keys,hT.get];show(if s'=c then _ else if s'=a then none else(blk F (A++p::B) s').map _)=_;have ec:(F1 p).sl=c:=by rw[ep]
    rw[XA,XA,ec,Pn (F:=F) (F':=F1) (os:=A) λq hq=>by rw[eo q (oA q hq)],Pn (F:=F) (F':=F1) (os:=B) λq hq=>by rw[eo q (oB q hq)],N3];by_cases hc:s'=c
    ·subst hc;rw[Ad rfl,Ad rfl,Ik.2 λq hq=>HI q (Ai _ hq)];rfl
    ·rw[Ab hc,Ab (show ¬c=s' from λe=>hc e.symm)];by_cases ha:s'=a
     ·subst ha;rw[Ad rfl,Ik.2 uA,Ik.2 uB];rfl
     ·rw[Ab ha,Ab (show ¬a=s' from λe=>ha e.symm)]
end Tr
end Go.Proofs.YtlifcingifodfaaGreat
