/- Laws that the statement's proof leans on (joined out of several texts). -/
import Derived.Test.YtlifcingifodfaaGreatGg9
set_option maxHeartbeats 4000000
set_option linter.unusedVariables false
set_option linter.unusedSimpArgs false
namespace Go.Proofs.YtlifcingifodfaaGreat
open Tryz
open List(toArray replicate)
namespace Th
open Go.RowKit
set_option maxRecDepth 20000
variable{L:TL}{xs:A4}{id:Int}
abbrev xB(B:Nat)(v:Value):Bd:=(B,.cells #[v] 158 (0,0))
abbrev GJ(B:Nat)(x:Int):Bd:=(B,.cells #[.int .i64 x] 3 (0,0))
theorem Jm(v:Value)(h1:v.oneCell'=true)(l:Ac):Fn prog 118 [v] l λr l'=> ∃B,r= .func (.func 173) #[] #[.pointer (some ⟨B,0,none⟩)]/\l'=xB B v::l:=by refine AN func118 ntmps118 λE=>?_;refine gz ?_;refine AS (Ez rfl h1) ?_;rintro _ _ ⟨B,hB,rfl,rfl⟩;refine gz ?_;exact Bb .refl ⟨B,rfl,rfl⟩
def thcs(L:TL):Ap:=L.flatMap encH
theorem iq(L:TL)(t:ThT):thcs (L++[t])=thcs L++encH t:=by simp[thcs]
theorem Y1(gf:Nat)[EN prog gf](lb:Ap)(S Sp:TL->Prop)(Need:TL->Ac->Prop)(hit:FC prog gf lb (λt:ThT=>[thV t]) S Sp Need)(n:Nat)(Dw: ∀pre,Sp pre->pre.length<=n)(hn:n<=900000)(l:Ac)(Cb: ∀pre l2,(∀c,c∈l->c∈l2)->Need pre l2):
 Fn prog 172 [.slice none 0 0,.func (.func gf) #[] lb.toArray] l λv l'=> ∃xs cs,S xs/\OwnSl 79 24 v xs.length (thcs xs) cs/\l'=cs++l:=by
 refine AN func172 ntmps172 λE=>?_;refine gz ?_;refine AS (Ez rfl rfl) ?_;rintro _ _ ⟨b2,Ww,rfl,rfl⟩;refine gz ?_;refine Dg (α:=ThT) (ps:=[7]) (lb:=lb) rfl hit (λ_=>rfl) rfl
  (λpre l=> ∃v cs,OwnSl 79 24 v pre.length (thcs pre) cs/\l=[(b2,.cells #[v] 46 (0,0))]++cs)
  (λc pre l=>False)
  _ l (λpre l2 X2 hX h=>by obtain⟨v,cs,_,rfl⟩:=h;exact Cb _ _ λc hc=>Aa _ (hX _ hc)) (by exact AW) ⟨_,[],OwnSl.nil _ _,rfl⟩ ?_ ?_ ?_
 ·rintro E r0 FU pre y l' T ⟨fn,tmps,Dd,rfl⟩ Q8 ⟨v,cs',EX,rfl⟩ hsp0;have XI:=Dw _ hsp0;rw[Ah] at XI;simp only[DX,Ae,Ag];refine Im λb5=>?_;refine CK (.there (.there (FK _ _ _ _ _))) ?_;generalize hX1:(r0,Obj.loop (DR fn tmps _ _ _ Dd .busy none))::T=X1;refine gz ?_;refine AS (FE (k:=24) rfl rfl rfl AX AX) ?_;rintro _ _ ⟨bl,_,rfl,rfl⟩;refine AS (Hz (k:=24) (X:=[thC b5 y,(b2,.cells #[v] 46 (0,0))]) (cs:=cs') (F:=X1) (xs:=thcs pre) (n:=pre.length) (ws:=encH y) rfl rfl rfl EX rfl (by simp[Value.oneCell']) Af AX) ?_;rintro v' _ ⟨c2,Fg,rfl⟩;have Jz:v'.oneCell'=true:=Fg.one;simp only[Ae,Ag];refine gz ?_;rw[<-hX1];refine Ci _ (.drop .refl) ⟨v',c2,?_,rfl⟩;rw[Ah,iq];exact Fg
 ·rintro Dd xs l' hS ⟨v,cs',EX,rfl⟩;have Jz:v.oneCell'=true:=EX.one;simp only[Ae,Ag];refine gz ?_;refine AU [Dd] (cs'++l) rfl (l':=cs'++l) (by exact AW) (by exact Ba) .refl ?_;exact⟨xs,cs',hS,EX,rfl⟩
 ·rintro Dd c pre l' Dw h;exact h.elim
theorem W9(gf:Nat)[EN prog gf](lb:Ap)(S Sp:TL->Prop)(Need:TL->Ac->Prop)(hit:FC prog gf lb (λt:ThT=>[thV t]) S Sp Need)(n:Nat)(Dw: ∀pre,Sp pre->pre.length<=n)(hn:n<=900000)(l:Ac)(Cb: ∀pre l2,(∀c,c∈l->c∈l2)->Need pre l2):
 Fn prog 117 [.func (.func gf) #[] lb.toArray] l λv l'=> ∃xs cs,S xs/\OwnSl 79 24 v xs.length (thcs xs) cs/\l'=cs++l:=by
 refine AN func117 ntmps117 λE=>?_;refine gz ?_;refine AS (Az rfl rfl (Y1 gf lb S Sp Need hit n Dw hn l Cb)) ?_;rintro v _ ⟨xs,cs,hS,ho,rfl⟩;have Jz:v.oneCell'=true:=ho.one;refine gz ?_;refine Bb .refl ?_;exact⟨xs,cs,hS,ho,rfl⟩
open Go.RowKit
set_option maxRecDepth 20000
theorem TV(mb:Option Nat)(l:Ac):Fn prog 175 [.map mb] l λv l'=> ∃B,v= .func (.func 237) #[] #[.pointer (some ⟨B,0,none⟩)]/\l'=(B,.cells #[.map mb] 275 (0,0))::l:=by refine AN func175 ntmps175 λE=>?_;refine gz ?_;refine AS (Ez rfl rfl) ?_;rintro _ _ ⟨B,hB,rfl,rfl⟩;refine gz ?_;exact Bb .refl ⟨B,rfl,rfl⟩
theorem Rk(B m clock:Nat)(es:List LE)(Le:(es.map (·.2.2)).Nodup)(K3: ∀e,e∈es->e.2.2<clock):
 FC prog 237 [.pointer (some ⟨B,0,none⟩)] (λk:Int=>[.int .i64 k]) (λxs=>xs.Perm (es.map (·.1))) (λpre=>pre.length<=es.length)
  (λ_ l=>(B,.cells #[.map (some m)] 275 (0,0))∈l/\(m,FX .i64 es clock)∈l):=by
 refine⟨λq I Ix G0 Cb hY l G hG h0=>?_⟩;refine AN func237 ntmps237 λE=>?_;exact zKI
theorem OA(B m clock:Nat)(es:List LE)(Le:(es.map (·.2.2)).Nodup)(K3: ∀e,e∈es->e.2.2<clock)(hn:es.length<=900000)(l:Ac)(h1:(B,Obj.cells #[.map (some m)] 275 (0,0))∈l)(h2:(m,FX .i64 es clock)∈l):
 Fn prog 174 [.func (.func 237) #[] #[.pointer (some ⟨B,0,none⟩)]] l λv l'=> ∃xs cs,xs.Perm (es.map (·.1))/\OwnSl 3 1 v (Vd xs).length ((Vd xs).map Nh) cs/\l'=cs++l:=
 TX 237 [.pointer (some ⟨B,0,none⟩)] _ es.length _ (Rk B m clock es Le K3) hn (λxs h=>by rw[h.length_eq];simp) l λ_ l2 hl=>⟨hl _ h1,hl _ h2⟩
open Go.RowKit
set_option maxRecDepth 20000
theorem XB.sorted{es:List LE}{clock:Nat}(h:XB L es clock)(hx:xs.Perm (es.map (·.1))):Vd xs=L.map ThT.id:=by
 have h1:(Vd xs).Perm (L.map ThT.id):=(List.mergeSort_perm ..).trans (hx.trans h.keys);have h2:(Vd xs).Pairwise (λx y=>x<=y):=by have:=List.pairwise_mergeSort (le:=λx y:Int=>decide (x<=y)) (λa b c h1 h2=>by simp at*;omega) (λa b=>by simp;omega) xs;exact this.imp λh=>by simpa using h
 have h3:(L.map ThT.id).Pairwise (λx y=>x<=y):=Cx.2 (h.asc.imp λUT=>by omega);exact h1.eq_of_pairwise (λa b _ _ h1 h2=>by omega) h2 h3
theorem OwnSl.ints{e:Nat}{v:Value}{cs l:Ac}(h:OwnSl e 1 v xs.length (xs.map Nh) cs)(hs: ∀c,c∈cs->c∈l): ∃p cap,v= .slice p xs.length cap/\(0<xs.length-> ∃b cl t fz,p=some ⟨b,0,none⟩/\(b,Obj.cells cl t fz)∈l/\ ∀i x,xs[i]?=some x->cl[i*1]?=some (.int .i64 x)):=by
 rcases h.2 with⟨rfl,h0,rfl⟩|⟨b,cap,sp,rfl,rfl,_⟩
 ·exact⟨none,0,by rw[h0],λh=>by omega⟩
 ·refine⟨_,cap,rfl,λh0=>⟨b,_,e,(0,0),rfl,hs _ Ak,λi x hx=>?_⟩⟩;have C9:=(Ay.1 hx).1;rw[Dr,AE,AH (by simpa using C9),A6,hx];rfl
theorem HY(B b:Nat)(L:TL)(lq:Ac)(hq:IsX b L lq)(hn:L.length<=900000):
 FC prog 173 [.pointer (some ⟨B,0,none⟩)] (λt:ThT=>[thV t]) (λxs=>xs=L) (λpre=>pre<+:L)
  (λ_ l=>xB B (.pointer (some ⟨b,0,none⟩))∈l/\ ∀c,c∈lq->c∈l):=by
 refine⟨λr I Ix G0 Cb hY l G hG h0=>?_⟩;obtain⟨m,es,clock,rfl,hX⟩:=hq;obtain⟨n1,n2⟩:=Cb _ _ G hG h0;have n3:=n2 _ (.head _);have n4:=n2 _ (.tail _ (.head _));refine AN func173 ntmps173 λE=>?_;refine gz ?_;refine AS (Az rfl rfl (TV (some m) _)) ?_;rintro _ _ ⟨B',rfl,rfl⟩;refine gz ?_;refine AS (Az rfl rfl (OA B' m clock es hX.ok.stamps hX.ok.below (by rw[hX.len];exact hn) _ (.head _) (.tail _ n4))) ?_;rintro v _ ⟨xs,cs,PG,ho,rfl⟩;rw[hX.sorted PG] at ho;have Jz:v.oneCell'=true:=ho.one;obtain⟨p,cap,rfl,hR⟩:=OwnSl.ints ho (l:=cs) λc hc=>hc;have Eh:(L.map ThT.id).length=L.length:=A7 ..;refine gz ?_;refine CN (α:=Nat×Ac) (λx=>[(0,.func (.yield r) #[] #[]),(1,.pointer (some ⟨B,0,none⟩)),(12,.slice p (L.map ThT.id).length cap),(13,.int .i64 (L.map ThT.id).length),(14,.int .i64 x.1)]) (λx=>x.2++(cs++G)) (λx=>x.1<=L.length/\I (L.take x.1) x.2) (λx=>L.length-x.1) (0,l) ⟨Bp _,h0⟩ ⟨rfl,rfl,rfl,rfl,rfl,trivial⟩ ?_ ?_
 ·exact Keep.trans (Keep.in_mid cs [_] (l++G)) (.drop (Keep.in_mid cs l G))
 clear n1 n2 n3 n4;rintro⟨k,l⟩ ⟨hk,hI⟩;simp only at hk hI⊢;obtain⟨n1,n2⟩:=Cb _ _ (cs++G) (λc hc=>Aa _ (hG c hc)) hI;have n3:=n2 _ (.head _);have n4:=n2 _ (.tail _ (.head _));by_cases C9:k<L.length
 ·obtain⟨b9,cl,t9,fz,rfl,qB,NP⟩:=hR Af;have dy:(b9,Obj.cells cl t9 fz)∈l++(cs++G):=Aa _ (Ai _ qB);obtain⟨t,ht⟩: ∃t,L[k]?=some t:=⟨_,Al C9⟩
  have hc:=NP k t.id (by rw[A6,ht];rfl);have qF:L.take (k+1)=L.take k++[t]:=by rw[Ch,ht];rfl
  have af:(LF t.id es).getD (thV thZ)=thV t:=by rw[hX.look,hX.at_ (Bc ht)];rfl
  refine gz ?_;rw[af];have hy:=hY (L.take k) t l (cs++G) (λc hc=>Aa _ (hG c hc)) hI (by rw[<-qF];exact BK _ _);refine AS (C5 rfl rfl hy) ?_;rintro v l' ⟨l1,rfl,⟨rfl,LB⟩|⟨rfl,hx⟩⟩
  ·refine gz ?_;exact BO (k+1,l1) ⟨by simp only;omega,by simp only;rw[qF];exact LB⟩ (by simp only;omega) ⟨rfl,rfl,rfl,rfl,rfl,trivial⟩ .refl
  ·refine gz ?_;exact BE [] rfl (Keep.trans (Keep.in_mid l1 cs G) (Keep.dropL cs .refl)) (by exact Ba) ⟨l1,rfl,.inr ⟨_,by rw[<-qF];exact BK _ _,hx⟩⟩
 ·obtain rfl:k=L.length:=by omega
  rw[D8] at hI;refine gz ?_;exact Bb (Keep.trans (Keep.in_mid l cs G) (Keep.dropL cs .refl)) ⟨l,rfl,.inl ⟨_,rfl,hI⟩⟩
theorem all_any(b:Nat)(L:TL)(lq:Ac)(hq:IsX b L lq)(hn:L.length<=900000)(l:Ac)(CG: ∀c,c∈lq->c∈l):
 Fn prog 76 [.pointer (some ⟨b,0,none⟩)] l λv l'=> ∃cs,OwnSl 79 24 v L.length (thcs L) cs/\l'=cs++l:=by
 refine AN func76 ntmps76 λE=>?_;refine gz ?_;refine AS (Az rfl rfl (Jm _ rfl _)) ?_;rintro _ _ ⟨B,rfl,rfl⟩;refine gz ?_;refine AS (Az rfl rfl (W9 173 [.pointer (some ⟨B,0,none⟩)] _ _ _ (HY B b L lq hq hn) L.length (λpre h=>h.length_le) hn _ λ_ l2 hl=>⟨hl _ (.head _),λc hc=>hl _ (.tail _ (CG c hc))⟩)) ?_;rintro v _ ⟨_,cs,rfl,ho,rfl⟩;have Jz:v.oneCell'=true:=ho.one;refine gz ?_;refine Bb (l':=cs++l) (Keep.trans (.of_perm AI) (.drop .refl)) ?_;exact⟨cs,ho,rfl⟩
theorem mK{pre:TL}{t:ThT}(hL:pre++[t]<+:L)(h0:id≠0)(hp: ∀x,x∈pre->¬x.ca=id)(ht:t.ca=id):serverD L id=t.id:=by unfold serverD;rw[Ab h0];obtain⟨r,rfl⟩:=hL;rw[Am,Fs,Bq.2 λx hx=>by simpa using hp x hx];rw[Option.none_or,Cn,BJ,Au ht]
theorem it(hp: ∀x,x∈L->¬(id≠0/\x.ca=id)):serverD L id=0:=by
 unfold serverD;by_cases h0:id=0
 ·rw[Ad h0]
 ·rw[Ab h0,Bq.2 λx hx=>by simpa using λh=>hp x hx ⟨h0,h⟩]
end Th
open Go.RowKit
set_option maxRecDepth 20000
structure RT where
 A:Ar.ArT
 H:HS
 N:As.ASt
 T:Th.TL
 Q:Nat->A4
 E:En.DE
structure RP where
 m:Nat
 c:Nat
 a:Nat
 h:Nat
 n:Nat
 t:Nat
 q:Nat
 e:Nat
 v:Value
structure RL where
 M:Ac
 C:Ac
 A:Ac
 H:Ac
 T:Ac
 Q:Ac
 E:Ac
 V:Ac
abbrev CF(b:Nat)(p:RP):Bd:=(b,.cells (toArray [pV p.m,pV p.c,pV p.a,pV p.h,pV p.n,pV p.t,pV p.q,pV p.e,p.v]) 162 (0,0))
def CB(b:Nat)(p:RP)(s:RL)(R:RT)(G:Ac):Ac:=CF b p::As.asA p.n R.N::(s.M++(s.C++(s.A++(s.H++(s.T++(s.Q++(s.E++(s.V++G))))))))
structure IsRl(F C k:Nat)(R:RT)(p:RP)(s:RL):Prop where
 mem:IsM p.m F s.M
 co:Aby p.c C s.C
 ar:Ar.IsA p.a R.A s.A
 an:R.A.n=F
 ho:IsH p.h R.H s.H
 inv:InvH R.H k
 giv: ∀n,n<32->0<=R.N.given n/\R.N.given n<=k
 th:Th.IsX p.t R.T s.T
 qu:Qu.IsQ p.q R.Q s.Q
 ql: ∀n,n<8->(R.Q n).length<=k
 en:En.IsE p.e R.E s.E
 cu:OwnSl 3 1 p.v C (replicate C (.int .i64 0)) s.V
 c1:1<=C/\C<=3
def Jp(F:Nat):RT:=⟨⟨F,λ_=>0,[]⟩,([],[]),As.ASt.zero,[],Qu.noX,[]⟩
theorem MQ(z:Value)(n:Nat):replicate n z=(replicate n [z]).flatten:=by
 induction n with
 |zero=>rfl
 |succ n ih=>rw[BL,BL,Cy,<-ih];rfl
theorem xL(s:Cs):FM [] s=false:=by
 unfold FM JI;rw[show D7 Prod.fst ([]:SD) s.1=none from rfl];by_cases h:0<=s.2
 ·rw[Au h,Aw (by simp only;omega)];rfl
 ·rw[Aw h];rfl
theorem iu:InvH ([],[]) 0:=
 ⟨.none,List.Pairwise.nil,λx hx=>absurd hx (by simp),λs=>⟨λh=>absurd h (by rw[Tr.hasD_no.2 λx hx=>absurd hx (by simp)];decide),λh=>absurd h.1 (by rw[xL];decide)⟩,by simp⟩
theorem mL(F C:Nat)(hF:1<=F/\F<=64)(hC:1<=C/\C<=3)(G:Ac):Fn prog 89 [.int .i64 (F:Nat),.int .i64 (C:Nat)] G λv l'=> ∃b p s X,v= .tuple #[pV b,.int .i64 0]/\IsRl F C 0 (Jp F) p s/\l'=CB b p s (Jp F) (X++G):=by
 refine AN func89 ntmps89 λE=>?_;refine Aj ?_;refine AS (Az rfl rfl (ly F hF.1 hF.2 _)) ?_;rintro _ _ ⟨bm,rfl,lm,hM,rfl⟩;refine Aj ?_;refine AS (Az rfl rfl (lB C hC.1 hC.2 _)) ?_;rintro _ _ ⟨bc,rfl,lc,X,hCo,rfl⟩;refine Aj ?_;refine AS (Az rfl rfl (Ar.new_any F _)) ?_;rintro _ _ (⟨h,_⟩|⟨_,ba,la,rfl,hA,rfl⟩)
 ·exact absurd ⟨Af,Af⟩ h
 refine Aj ?_;refine Su [(0,true),(1,true),(2,true),(8,true),(3,false),(4,false),(5,false),(6,false),(7,false),(9,false),(10,true),(11,false),(12,true),(13,true)] [[],[],[],[],[3],[3,4],[3,4,5],[3,4,5,6],[],[8],[0,1,2,3,4,5,6,7,8,9],[0,1,2,3,4,5,6,7,8,9,10],[0,1,2,3,4,5,6,7,8,9,10,11],[0,1,2,3,4,5,6,7,8,9,10,11,12]] (some [(3,9),(4,9),(5,9),(6,9),(7,9)]) ([]) BA BA GH UX ?_;refine BM ?_;apply Tz [(3,false),(4,false),(5,false),(6,false),(7,false),(9,false),(10,true),(11,false),(12,true),(13,true)] [(9,false),(3,false),(4,false),(5,false),(6,false),(7,false),(10,true),(11,false),(12,true),(13,true)] 3 9 (some [(4,9),(5,9),(6,9),(7,9)]) none
 ·exact GH
 ·exact GH
 ·exact((List.Perm.swap _ _ _).trans (List.Perm.cons _ ((List.Perm.swap _ _ _).trans (List.Perm.cons _ ((List.Perm.swap _ _ _).trans (List.Perm.cons _ ((List.Perm.swap _ _ _).trans (List.Perm.cons _ (List.Perm.swap _ _ _)))))))))
 ·kernel_rfl
 ·exact Az rfl rfl (YZ _)
 ·rfl
 ·rfl
 ·intro _ _ _ c hc;cases hc
 ·intro _ _ _ x hx;cases hx
 ·exact Gg (n:=C) (kk:=1) (zs:=[.int .i64 0]) (xs:=replicate C (.int .i64 0)) rfl rfl Af Af AX (MQ _ _)
 ·rfl
 ·rfl
 ·intro _ _ _ c hc;cases hc
 ·intro _ _ _ x hx;cases hx
 ·rintro _ _ ⟨bh,rfl,lh,hH,rfl⟩;apply Tz [(4,false),(5,false),(6,false),(7,false),(9,false),(10,true),(11,false),(12,true),(13,true)] [(9,false),(4,false),(5,false),(6,false),(7,false),(10,true),(11,false),(12,true),(13,true)] 4 9 (some [(5,9),(6,9),(7,9)]) none
  ·exact GH
  ·exact GH
  ·exact((List.Perm.swap _ _ _).trans (List.Perm.cons _ ((List.Perm.swap _ _ _).trans (List.Perm.cons _ ((List.Perm.swap _ _ _).trans (List.Perm.cons _ (List.Perm.swap _ _ _)))))))
  ·kernel_rfl
  ·exact Az rfl rfl (As.new_any _)
  ·rfl
  ·rfl
  ·intro _ _ _ c hc;cases hc
  ·intro _ _ _ x hx;cases hx
  ·exact Gg (n:=C) (kk:=1) (zs:=[.int .i64 0]) (xs:=replicate C (.int .i64 0)) rfl rfl Af Af AX (MQ _ _)
  ·rfl
  ·rfl
  ·intro _ _ _ c hc;cases hc
  ·intro _ _ _ x hx;cases hx
  ·rintro _ _ ⟨bn,_,rfl,rfl⟩;apply Tz [(5,false),(6,false),(7,false),(9,false),(10,true),(11,false),(12,true),(13,true)] [(9,false),(5,false),(6,false),(7,false),(10,true),(11,false),(12,true),(13,true)] 5 9 (some [(6,9),(7,9)]) none
   ·exact GH
   ·exact GH
   ·exact((List.Perm.swap _ _ _).trans (List.Perm.cons _ ((List.Perm.swap _ _ _).trans (List.Perm.cons _ (List.Perm.swap _ _ _)))))
   ·kernel_rfl
   ·exact Az rfl rfl (Th.new_any _)
   ·rfl
   ·rfl
   ·intro _ _ _ c hc;cases hc
   ·intro _ _ _ x hx;cases hx
   ·exact Gg (n:=C) (kk:=1) (zs:=[.int .i64 0]) (xs:=replicate C (.int .i64 0)) rfl rfl Af Af AX (MQ _ _)
   ·rfl
   ·rfl
   ·intro _ _ _ c hc;cases hc
   ·intro _ _ _ x hx;cases hx
   ·rintro _ _ ⟨bt,rfl,lt,hT,rfl⟩;apply Tz [(6,false),(7,false),(9,false),(10,true),(11,false),(12,true),(13,true)] [(9,false),(6,false),(7,false),(10,true),(11,false),(12,true),(13,true)] 6 9 (some [(7,9)]) none
    ·exact GH
    ·exact GH
    ·exact((List.Perm.swap _ _ _).trans (List.Perm.cons _ (List.Perm.swap _ _ _)))
    ·kernel_rfl
    ·exact Az rfl rfl (Qu.new_any _)
    ·rfl
    ·rfl
    ·intro _ _ _ c hc;cases hc
    ·intro _ _ _ x hx;cases hx
    ·exact Gg (n:=C) (kk:=1) (zs:=[.int .i64 0]) (xs:=replicate C (.int .i64 0)) rfl rfl Af Af AX (MQ _ _)
    ·rfl
    ·rfl
    ·intro _ _ _ c hc;cases hc
    ·intro _ _ _ x hx;cases hx
    ·rintro _ _ ⟨bq,rfl,lq,hQ,rfl⟩;apply Tz [(7,false),(9,false),(10,true),(11,false),(12,true),(13,true)] [(9,false),(7,false),(10,true),(11,false),(12,true),(13,true)] 7 9 none none
     ·exact GH
     ·exact GH
     ·exact(List.Perm.swap _ _ _)
     ·kernel_rfl
     ·exact Az rfl rfl (En.new_any _)
     ·rfl
     ·rfl
     ·intro _ _ _ c hc;cases hc
     ·intro _ _ _ x hx;cases hx
     ·exact Gg (n:=C) (kk:=1) (zs:=[.int .i64 0]) (xs:=replicate C (.int .i64 0)) rfl rfl Af Af AX (MQ _ _)
     ·rfl
     ·rfl
     ·intro _ _ _ c hc;cases hc
     ·intro _ _ _ x hx;cases hx
     ·rintro _ _ ⟨be,rfl,le,hE,rfl⟩;apply CM
      ·exact Gg (n:=C) (kk:=1) (zs:=[.int .i64 0]) (xs:=replicate C (.int .i64 0)) rfl rfl Af Af AX (MQ _ _)
      ·rfl
      ·rfl
      ·rfl
      ·intro _ _ _ c hc;cases hc
      rintro _ _ ⟨bv,hbv,rfl,rfl⟩;refine BM ?_;apply CM
      ·exact CH rfl
      ·rfl
      ·rfl
      ·rfl
      ·intro _ _ _ c hc;cases hc
      rintro _ _ ⟨b,hb,rfl,rfl⟩;refine BM ?_;refine Aj ?_;exact BE [] rfl (l':=CB b ⟨bm,bc,ba,bh,bn,bt,bq,be,.slice (some ⟨bv,0,none⟩) C C⟩ ⟨lm,lc,la,lh,lt,lq,le,[(bv,.cells (toArray (replicate C (.int .i64 0))) 3 (0,0))]⟩ (Jp F) (X++G)) (by unfold CB;dsimp only[CF,Jp,As.asA,pV];simp only[AM,AK];exact A8 []) (by exact Ba) ⟨b,_,_,X,rfl,⟨hM,hCo,hA,rfl,hH,iu,λn _=>by simp[Jp,As.ASt.zero],hT,hQ,λn _=>by simp[Jp,Qu.noX],hE,OwnSl.lit Af (by simp) Af,hC⟩,rfl⟩
     ·rintro _ _ ⟨bv,hbv,rfl,rfl⟩;apply CM
      ·exact Az rfl rfl (En.new_any _)
      ·rfl
      ·rfl
      ·rfl
      ·intro _ _ _ c hc;cases hc
      rintro _ _ ⟨be,rfl,le,hE,rfl⟩;refine BM ?_;apply CM
      ·exact CH rfl
      ·rfl
      ·rfl
      ·rfl
      ·intro _ _ _ c hc;cases hc
      rintro _ _ ⟨b,hb,rfl,rfl⟩;refine BM ?_;refine Aj ?_;exact BE [] rfl (l':=CB b ⟨bm,bc,ba,bh,bn,bt,bq,be,.slice (some ⟨bv,0,none⟩) C C⟩ ⟨lm,lc,la,lh,lt,lq,le,[(bv,.cells (toArray (replicate C (.int .i64 0))) 3 (0,0))]⟩ (Jp F) (X++G)) (by unfold CB;dsimp only[CF,Jp,As.asA,pV];simp only[AM,AK];exact A8 []) (by exact Ba) ⟨b,_,_,X,rfl,⟨hM,hCo,hA,rfl,hH,iu,λn _=>by simp[Jp,As.ASt.zero],hT,hQ,λn _=>by simp[Jp,Qu.noX],hE,OwnSl.lit Af (by simp) Af,hC⟩,rfl⟩
    ·rintro _ _ ⟨bv,hbv,rfl,rfl⟩;apply CM
     ·exact Az rfl rfl (Qu.new_any _)
     ·rfl
     ·rfl
     ·rfl
     ·intro _ _ _ c hc;cases hc
     rintro _ _ ⟨bq,rfl,lq,hQ,rfl⟩;refine BM ?_;apply CM
     ·exact Az rfl rfl (En.new_any _)
     ·rfl
     ·rfl
     ·rfl
     ·intro _ _ _ c hc;cases hc
     rintro _ _ ⟨be,rfl,le,hE,rfl⟩;refine BM ?_;apply CM
     ·exact CH rfl
     ·rfl
     ·rfl
     ·rfl
     ·intro _ _ _ c hc;cases hc
     rintro _ _ ⟨b,hb,rfl,rfl⟩;refine BM ?_;refine Aj ?_;exact BE [] rfl (l':=CB b ⟨bm,bc,ba,bh,bn,bt,bq,be,.slice (some ⟨bv,0,none⟩) C C⟩ ⟨lm,lc,la,lh,lt,lq,le,[(bv,.cells (toArray (replicate C (.int .i64 0))) 3 (0,0))]⟩ (Jp F) (X++G)) (by unfold CB;dsimp only[CF,Jp,As.asA,pV];simp only[AM,AK];exact A8 []) (by exact Ba) ⟨b,_,_,X,rfl,⟨hM,hCo,hA,rfl,hH,iu,λn _=>by simp[Jp,As.ASt.zero],hT,hQ,λn _=>by simp[Jp,Qu.noX],hE,OwnSl.lit Af (by simp) Af,hC⟩,rfl⟩
   ·rintro _ _ ⟨bv,hbv,rfl,rfl⟩;apply CM
    ·exact Az rfl rfl (Th.new_any _)
    ·rfl
    ·rfl
    ·rfl
    ·intro _ _ _ c hc;cases hc
    rintro _ _ ⟨bt,rfl,lt,hT,rfl⟩;refine BM ?_;apply CM
    ·exact Az rfl rfl (Qu.new_any _)
    ·rfl
    ·rfl
    ·rfl
    ·intro _ _ _ c hc;cases hc
    rintro _ _ ⟨bq,rfl,lq,hQ,rfl⟩;refine BM ?_;apply CM
    ·exact Az rfl rfl (En.new_any _)
    ·rfl
    ·rfl
    ·rfl
    ·intro _ _ _ c hc;cases hc
    rintro _ _ ⟨be,rfl,le,hE,rfl⟩;refine BM ?_;apply CM
    ·exact CH rfl
    ·rfl
    ·rfl
    ·rfl
    ·intro _ _ _ c hc;cases hc
    rintro _ _ ⟨b,hb,rfl,rfl⟩;refine BM ?_;refine Aj ?_;exact BE [] rfl (l':=CB b ⟨bm,bc,ba,bh,bn,bt,bq,be,.slice (some ⟨bv,0,none⟩) C C⟩ ⟨lm,lc,la,lh,lt,lq,le,[(bv,.cells (toArray (replicate C (.int .i64 0))) 3 (0,0))]⟩ (Jp F) (X++G)) (by unfold CB;dsimp only[CF,Jp,As.asA,pV];simp only[AM,AK];exact A8 []) (by exact Ba) ⟨b,_,_,X,rfl,⟨hM,hCo,hA,rfl,hH,iu,λn _=>by simp[Jp,As.ASt.zero],hT,hQ,λn _=>by simp[Jp,Qu.noX],hE,OwnSl.lit Af (by simp) Af,hC⟩,rfl⟩
  ·rintro _ _ ⟨bv,hbv,rfl,rfl⟩;apply CM
   ·exact Az rfl rfl (As.new_any _)
   ·rfl
   ·rfl
   ·rfl
   ·intro _ _ _ c hc;cases hc
   rintro _ _ ⟨bn,_,rfl,rfl⟩;refine BM ?_;apply CM
   ·exact Az rfl rfl (Th.new_any _)
   ·rfl
   ·rfl
   ·rfl
   ·intro _ _ _ c hc;cases hc
   rintro _ _ ⟨bt,rfl,lt,hT,rfl⟩;refine BM ?_;apply CM
   ·exact Az rfl rfl (Qu.new_any _)
   ·rfl
   ·rfl
   ·rfl
   ·intro _ _ _ c hc;cases hc
   rintro _ _ ⟨bq,rfl,lq,hQ,rfl⟩;refine BM ?_;apply CM
   ·exact Az rfl rfl (En.new_any _)
   ·rfl
   ·rfl
   ·rfl
   ·intro _ _ _ c hc;cases hc
   rintro _ _ ⟨be,rfl,le,hE,rfl⟩;refine BM ?_;apply CM
   ·exact CH rfl
   ·rfl
   ·rfl
   ·rfl
   ·intro _ _ _ c hc;cases hc
   rintro _ _ ⟨b,hb,rfl,rfl⟩;refine BM ?_;refine Aj ?_;exact BE [] rfl (l':=CB b ⟨bm,bc,ba,bh,bn,bt,bq,be,.slice (some ⟨bv,0,none⟩) C C⟩ ⟨lm,lc,la,lh,lt,lq,le,[(bv,.cells (toArray (replicate C (.int .i64 0))) 3 (0,0))]⟩ (Jp F) (X++G)) (by unfold CB;dsimp only[CF,Jp,As.asA,pV];simp only[AM,AK];exact A8 []) (by exact Ba) ⟨b,_,_,X,rfl,⟨hM,hCo,hA,rfl,hH,iu,λn _=>by simp[Jp,As.ASt.zero],hT,hQ,λn _=>by simp[Jp,Qu.noX],hE,OwnSl.lit Af (by simp) Af,hC⟩,rfl⟩
 ·rintro _ _ ⟨bv,hbv,rfl,rfl⟩;apply CM
  ·exact Az rfl rfl (YZ _)
  ·rfl
  ·rfl
  ·rfl
  ·intro _ _ _ c hc;cases hc
  rintro _ _ ⟨bh,rfl,lh,hH,rfl⟩;refine BM ?_;apply CM
  ·exact Az rfl rfl (As.new_any _)
  ·rfl
  ·rfl
  ·rfl
  ·intro _ _ _ c hc;cases hc
  rintro _ _ ⟨bn,_,rfl,rfl⟩;refine BM ?_;apply CM
  ·exact Az rfl rfl (Th.new_any _)
  ·rfl
  ·rfl
  ·rfl
  ·intro _ _ _ c hc;cases hc
  rintro _ _ ⟨bt,rfl,lt,hT,rfl⟩;refine BM ?_;apply CM
  ·exact Az rfl rfl (Qu.new_any _)
  ·rfl
  ·rfl
  ·rfl
  ·intro _ _ _ c hc;cases hc
  rintro _ _ ⟨bq,rfl,lq,hQ,rfl⟩;refine BM ?_;apply CM
  ·exact Az rfl rfl (En.new_any _)
  ·rfl
  ·rfl
  ·rfl
  ·intro _ _ _ c hc;cases hc
  rintro _ _ ⟨be,rfl,le,hE,rfl⟩;refine BM ?_;apply CM
  ·exact CH rfl
  ·rfl
  ·rfl
  ·rfl
  ·intro _ _ _ c hc;cases hc
  rintro _ _ ⟨b,hb,rfl,rfl⟩;refine BM ?_;refine Aj ?_;exact BE [] rfl (l':=CB b ⟨bm,bc,ba,bh,bn,bt,bq,be,.slice (some ⟨bv,0,none⟩) C C⟩ ⟨lm,lc,la,lh,lt,lq,le,[(bv,.cells (toArray (replicate C (.int .i64 0))) 3 (0,0))]⟩ (Jp F) (X++G)) (by unfold CB;dsimp only[CF,Jp,As.asA,pV];simp only[AM,AK];exact A8 []) (by exact Ba) ⟨b,_,_,X,rfl,⟨hM,hCo,hA,rfl,hH,iu,λn _=>by simp[Jp,As.ASt.zero],hT,hQ,λn _=>by simp[Jp,Qu.noX],hE,OwnSl.lit Af (by simp) Af,hC⟩,rfl⟩
namespace En
variable{r:Row}{A B rows:List Row}{b m clock:Nat}{lq:Ac}{t:Int}
theorem Jm(pv:Option Addr)(t:Int)(l:Ac):Fn prog 316 [.pointer pv,.int .i64 t] l λv l'=> ∃B1 B2,v= .func (.func 358) #[] #[.pointer (some ⟨B1,0,none⟩),.pointer (some ⟨B2,0,none⟩)]/\l'=(B2,.cells #[.int .i64 t] 3 (0,0))::(B1,.cells #[.pointer pv] 160 (0,0))::l:=by refine AN func316 ntmps316 λE=>?_;refine gz ?_;refine AS (Ez rfl rfl) ?_;rintro _ _ ⟨B1,wn,rfl,rfl⟩;refine AS (Ez rfl rfl) ?_;rintro _ _ ⟨B2,hB2,rfl,rfl⟩;refine gz ?_;exact Bb .refl ⟨B1,B2,rfl,rfl⟩
theorem HY(B1 B2 b m clock:Nat)(t:Int)(rows:List Row)(lq:Ac)(hE:EB b rows m clock lq)(hn: ∀r,r∈rows->r.th.length<=1000000):
 FC prog 358 [.pointer (some ⟨B1,0,none⟩),.pointer (some ⟨B2,0,none⟩)] (λr:Row=>[.pointer (some ⟨r.pb,0,none⟩),.int .i64 (r.th.idxOf t:Nat)]) (λxs=> ∀r,r∈rows->t∈r.th->r∈xs) (λpre=> ∀r,r∈pre->r∈rows/\t∈r.th)
 (λ_ l=>(B1,.cells #[.pointer (some ⟨b,0,none⟩)] 160 (0,0))∈l/\(B2,.cells #[.int .i64 t] 3 (0,0))∈l/\ ∀c,c∈lq->c∈l):=by
 refine⟨λq I Ix G0 Cb hY l G hG h0=>?_⟩;refine AN func358 ntmps358 λE=>?_;obtain⟨XK,UW,qE⟩:=Cb _ _ G hG h0;have hm4:=qE _ hE.m1;have kD:=qE _ hE.m2;refine gz ?_;refine AS (dP rfl kD) ?_;rintro _ _ ⟨b0,hb0,rfl,rfl⟩;refine gz ?_;refine CN (α:=Array Nat×List Row×Ac) (λx=>[(0,.func (.yield q) #[] #[]),(1,.pointer (some ⟨B1,0,none⟩)),(2,.pointer (some ⟨B2,0,none⟩)),(13,.pointer (some ⟨b0,0,none⟩))]) (λx=>(b0,.mapIter (some m) clock x.1 clock)::(x.2.2++G)) (λx=>I x.2.1 x.2.2/\(∀r,r∈rows->r.st∈x.1.toList->t∈r.th->r∈x.2.1)/\ ∀r,r∈x.2.1->r∈rows/\t∈r.th) (λx=>(rows.filter λr=>!x.1.contains r.st).length) (#[],[],l) ⟨h0,by simp,by simp⟩ ⟨rfl,rfl,rfl,rfl,trivial⟩ .refl ?_;clear XK UW qE hm4 kD;rintro⟨seen,pre,l⟩ ⟨hI,hse,Gn⟩;simp only at hI hse Gn⊢;obtain⟨XK,UW,qE⟩:=Cb _ _ G hG hI;have kD:=qE _ hE.m2;refine gz ?_;refine AS (lg rfl kD (λe he=>by rw[Av] at he;obtain⟨r,hr,rfl⟩:=he;exact hE.st r hr) (Bf _)) ?_;rintro _ _ (⟨rfl,rfl,GD⟩|⟨e,he,pS,rfl,rfl⟩)
 ·refine gz ?_;refine Bb (.drop .refl) ⟨l,rfl,.inl ⟨pre,λr hr ht=>hse r hr (GD _ (Av.2 ⟨r,hr,rfl⟩)) ht,hI⟩⟩
 ·rw[Av] at he;obtain⟨r,hr,rfl⟩:=he;have Le:((rows.map Row.ent).map (·.2.2)).Nodup:=by rw[CY];exact hE.nd
  have LD:r.ent∈rows.map Row.ent:=Av.2 ⟨r,hr,rfl⟩;have So:r.bl∈l++G:=qE _ (hE.m3 hr (.head _));have ux:(rows.filter λr'=>!(seen.push r.ent.2.2).contains r'.st).length<(rows.filter λr'=>!seen.contains r'.st).length:=by
   refine VO (λx hx=>?_) hr ?_ ?_
   ·simp only[DU,Array.contains_push,Bool.or_eq_false_iff] at hx⊢;simp at hx⊢;exact hx.1
   ·have AdZ:r.st∉seen.toList:=pS;simpa using AdZ
   ·simp[Row.ent]
  have AaE: ∀(ps:List Row),(∀x,x∈pre->x∈ps)->(t∈r.th->r∈ps)-> ∀r',r'∈rows->r'.st∈(seen.push r.ent.2.2).toList->t∈r'.th->r'∈ps:=λps h1 h2 r' UR hs' ht'=>by
   rw[LL,AF] at hs';rcases hs' with hs'|hs'
   ·exact h1 _ (hse r' UR hs' ht')
   ·have e1:r'.st=r.st:=by simpa[Row.ent] using hs'
    have:r'=r:=TI hE.nd UR hr e1;subst this;exact h2 ht'
  refine gz ?_;refine Bh (dQ rfl (.head _) (.tail _ kD) LD Le) ?_;refine gz ?_;refine Cm [] 7 _ ?_ (hR:=(λ_ h=>h));refine pz ?_;refine aB (AL rfl rfl (λl2 hl=>Qu.index_any r.v r.th t l2 (hE.ints hr λc hc=>hl c (.tail _ (qE c hc))) (hn r hr))) rfl rfl rfl ?_;by_cases M2:t∈r.th
  ·rw[show Qu.indexI r.th t=((r.th.idxOf t:Nat):Int) from Ad M2];have hy:=hY pre r l ((b0,.mapIter (some m) clock (seen.push r.ent.2.2) clock)::G) (λc hc=> .tail _ (hG c hc)) hI (λr' UR=>by
    rcases AF.1 UR with h|h
    ·exact Gn r' h
    ·rw[AC.1 h];exact⟨hr,M2⟩)
   refine pz ?_;refine gz ?_;refine Bs (Keep.of_perm AI.symm) ?_;refine AS (C5 rfl rfl hy) ?_;rintro v l' ⟨l1,rfl,⟨rfl,LB⟩|⟨rfl,hx⟩⟩
   ·refine gz ?_;refine BO (seen.push r.ent.2.2,pre++[r],l1) ⟨LB,AaE _ (λx hx=>Ai _ hx) λ_=>Aa _ Ak,λr' UR=>?_⟩ ux ⟨rfl,rfl,rfl,rfl,trivial⟩ (.of_perm AI);rcases AF.1 UR with h|h
    ·exact Gn r' h
    ·rw[AC.1 h];exact⟨hr,M2⟩
   ·refine gz ?_;refine Bb (Keep.trans (.of_perm AI) (.drop .refl)) ⟨l1,rfl,.inr ⟨_,λr' UR=>?_,hx⟩⟩;rcases AF.1 UR with h|h
    ·exact Gn r' h
    ·rw[AC.1 h];exact⟨hr,M2⟩
  ·rw[show Qu.indexI r.th t= -1 from Ab M2];refine pz ?_;refine gz ?_;exact BO (seen.push r.ent.2.2,pre,l) ⟨hI,AaE _ (λx hx=>hx) λh=>absurd h M2,Gn⟩ ux ⟨rfl,rfl,rfl,rfl,trivial⟩ .refl
theorem clone_any(v:Value)(xs:A4)(cs l:Ac)(ho:OwnSl 3 1 v xs.length (xs.map CU) cs)(hs: ∀c,c∈cs->c∈l)(hx:xs.length<=1000000):
 Fn prog 53 [v] l λr l'=> ∃c2,OwnSl 3 1 r xs.length (xs.map CU) c2/\l'=c2++l:=by
 obtain⟨Eh,h⟩:=ho;refine AN func53 ntmps53 λE=>?_;rcases h with⟨rfl,h0,rfl⟩|⟨gb,cap,sp,rfl,rfl,ZW,UV,NP⟩
 ·refine gz ?_;refine Bb .refl ?_;exact⟨[],⟨Eh,.inl ⟨rfl,h0,rfl⟩⟩,rfl⟩
 ·have hg:=hs _ Ak;refine gz ?_;refine AS li ?_;rintro _ _ ⟨bl,So,rfl,rfl⟩;refine gz ?_;apply jS
  ·apply GG (e:=3) (k:=1) (xs:=[]) (cs:=[(bl,.cells #[] 3 (0,0))]) (F:=l) (news:=xs.map CU) (zs:=[.int .i64 0]) (cl:=toArray (xs.map CU++sp))
   ·rfl
   ·rfl
   ·rfl
   ·exact OwnSl.empty
   ·exact .tail _ hg
   ·intro j u hj;have C9:=(Ay.1 hj).1;rw[BF,AE,AH C9];exact hj
   ·simp
   ·intro u hu;rw[Av] at hu;obtain⟨a,_,rfl⟩:=hu;rfl
   ·unfold maxLen;omega
   ·omega
  ·rfl
  ·rfl
  ·rfl
  rintro v' _ ⟨c2,Fg,rfl⟩;rw[Ag,BF] at Fg;refine gz ?_;refine Bb .refl ?_;exact⟨c2,Fg,rfl⟩
theorem bk(e:rows=A++r::B)(hA: ∀x,x∈A->x.id≠r.id):(rows.map Row.d).eraseP (λx=>x.1==r.id)=(A++B).map Row.d:=by
 rw[e,Aq,Aq,AJ,List.eraseP_append_right _ λx hx=>by rw[Av] at hx;obtain⟨y,hy,rfl⟩:=hx;simpa[Row.d] using hA y hy]
 rw[List.eraseP_cons_of_pos (by simp[Row.d])]
theorem EB.erase(h:EB b (A++r::B) m clock lq):EB b (A++B) m clock (Ri b m::(m,FX .i64 ((A++B).map Row.ent) clock)::(A++B).flatMap Row.ch):=by have hs:(A++B).Sublist (A++r::B):=Gk (D9 _ _) _;exact⟨rfl,λx hx=>h.own x (hs.subset hx),λx hx=>h.st x (hs.subset hx),h.nd.sublist (hs.map _),h.ids.sublist (hs.map _)⟩
theorem drop_any(b:Nat)(D:DE)(lq:Ac)(id:Int)(hq:IsE b D lq)(F:Ac):
 Fn prog 368 [.pointer (some ⟨b,0,none⟩),.int .i64 id] (lq++F) λv l'=> ∃sl cs,v= .tuple #[sl,.int .i64 (dropD D id).2.1]/\OwnSl 3 1 sl (dropD D id).1.length ((dropD D id).1.map CU) cs/\ ∃DF,IsE b (dropD D id).2.2 DF/\l'=cs++(DF++F):=by
 obtain⟨rows,m,clock,rfl,hE⟩:=hq;refine AN func368 ntmps368 λE=>?_;have qz:=hE.eq;by_cases h1: ∃r,r∈rows/\r.id=id
 ·obtain⟨r,hr,rfl⟩:=h1;have hg:=O0 hE.ids hr;obtain⟨A,B,rfl,hA,hB⟩:=hE.split hr;rw[show dropD ((A++r::B).map Row.d) r.id=(r.th,0,(A++B).map Row.d) by unfold dropD;rw[Ll hE.ids hr];simp only;rw[bk rfl hA]];have ho:=hE.own r hr;have Jz:=ho.one;have Ad0:PJ r.id ((A++r::B).map Row.ent)=(A++B).map Row.ent:=by
   rw[Aq,Aq,AJ];exact lO _ _ λx hx=>by rw[Av] at hx;obtain⟨y,hy,rfl⟩:=hx;exact hA y hy
  have So: ∀o:Obj,r.bl∈Ri b m::(m,o)::((A++r::B).flatMap Row.ch++F):=λo=> .tail _ (.tail _ (Ai _ (JN.2 ⟨r,hr,.head _⟩)));rw[qz];simp only[Ae];refine gz ?_;rw[hg];refine gz ?_;refine M9 (Tu rfl rfl (by exact DY)) rfl rfl ?_;rintro _ _ ⟨rfl,rfl⟩;rw[Ad0];have wq:=So (FX .i64 ((A++B).map Row.ent) clock);refine gz ?_;refine Bh (DS rfl wq rfl) ?_;refine gz ?_;refine Bb (l':=r.cs++((Ri b m::(m,FX .i64 ((A++B).map Row.ent) clock)::(A++B).flatMap Row.ch)++F)) ?_ ⟨r.v,r.cs,rfl,ho,_,⟨A++B,m,clock,rfl,hE.erase⟩,rfl⟩;rw[Ec,Cz,Ec];refine⟨[r.bl],?_⟩;show List.Perm (Ri b m::(m,_)::((A.flatMap Row.ch++((r.bl::r.cs)++B.flatMap Row.ch))++F)) (r.bl::(r.cs++(Ri b m::(m,_)::((A.flatMap Row.ch++B.flatMap Row.ch)++F))));have p1:(A.flatMap Row.ch++((r.bl::r.cs)++B.flatMap Row.ch)).Perm (r.bl::(r.cs++(A.flatMap Row.ch++B.flatMap Row.ch))):=by have:=AA (A.flatMap Row.ch) (r.bl::r.cs) (B.flatMap Row.ch);simpa using this
  refine(((p1.append_right F).cons _).cons _).trans ?_;refine((AA [Ri b m,(m,FX .i64 ((A++B).map Row.ent) clock)] [r.bl] (r.cs++(A.flatMap Row.ch++B.flatMap Row.ch)++F))).trans ?_;refine List.Perm.cons _ ?_;rw[Am];exact AA [Ri b m,(m,FX .i64 ((A++B).map Row.ent) clock)] r.cs _
 ·have IU: ∀r,r∈rows->r.id≠id:=λr hr e=>h1 ⟨r,hr,e⟩;have hg:=OZ IU;rw[show dropD (rows.map Row.d) id=([],2,rows.map Row.d) by unfold dropD;rw[Nl IU]];rw[qz];simp only[Ae];refine gz ?_;rw[hg];refine gz ?_;refine BE [] rfl .refl (by exact Ba) ⟨_,[],rfl,OwnSl.nil _ _,_,⟨rows,m,clock,rfl,hE⟩,by rw[qz];rfl⟩
theorem list_any(b:Nat)(D:DE)(lq:Ac)(id:Int)(hq:IsE b D lq)(hn: ∀x,x∈D->x.2.1.length<=1000000)(l:Ac)(CG: ∀c,c∈lq->c∈l):
 Fn prog 317 [.pointer (some ⟨b,0,none⟩),.int .i64 id] l λv l'=> ∃sl cs,v= .tuple #[sl,.bool (listD D id).2]/\OwnSl 3 1 sl (listD D id).1.length ((listD D id).1.map CU) cs/\l'=cs++l:=by
 obtain⟨rows,m,clock,rfl,hE⟩:=hq;have XK:=CG _ hE.m1;have UW:=CG _ hE.m2;refine AN func317 ntmps317 λE=>?_;by_cases h1: ∃r,r∈rows/\r.id=id
 ·obtain⟨r,hr,rfl⟩:=h1;have hg:=O0 hE.ids hr;have ho:=hE.own r hr;have So:=CG _ (hE.m3 hr (.head _));have Eh:=hn r.d (Av.2 ⟨r,hr,rfl⟩);simp only[Row.d] at Eh;have NP:=clone_any r.v r.th r.cs l ho (λc hc=>CG c (hE.m3 hr (.tail _ hc))) Eh;obtain⟨pv,cap,hv⟩:=ho.shape;rw[hv] at NP;have Ahs:(r.pb,Obj.cells (toArray [.slice pv r.th.length cap,.bool r.sd]) 353 (0,0))∈l:=by rw[<-hv];exact So
  clear So;by_cases h0:r.th.length=0
  ·rw[show listD (rows.map Row.d) r.id=([],false) by unfold listD;rw[Ll hE.ids hr];simp only;rw[Ad h0]];refine gz ?_;rw[hg];refine gz ?_;rw[hg];refine gz ?_;refine Bb .refl ⟨_,[],rfl,OwnSl.nil _ _,rfl⟩
  ·rw[show listD (rows.map Row.d) r.id=(r.th,r.sd) by unfold listD;rw[Ll hE.ids hr];simp only;rw[Ab h0]];refine gz ?_;rw[hg];refine gz ?_;rw[hg];refine gz ?_;refine Li [(0,true),(1,true),(2,true),(3,true),(4,true),(5,true),(6,true),(7,true),(8,true),(10,true),(11,true),(12,true),(13,true),(14,true),(15,true),(16,true),(17,true),(18,true),(9,false),(19,true),(20,true)] [[],[0],[0,1],[0,1,2],[],[0,1,2,3,4],[0,1,2,3,4,5],[0,1,2,3,4,5,6],[0,1,2,3,4,5,6,7],[0,1,2,3,4,5,6,7,8],[],[10],[10,11],[10,11,12],[],[10,11,12,13,14],[10,11,12,13,14,15],[10,11,12,13,14,15,16],[10,11,12,13,14,15,16,17],[0,1,2,3,4,5,6,7,8,9],[0,1,2,3,4,5,6,7,8,9,10,11,12,13,14,15,16,17,18,19]] _ BA BA GH (λ_ h=>h) ?_;refine pz ?_;rw[hg];refine pz ?_;rw[hg];refine pz ?_;apply CM
   ·exact Dn rfl rfl NP
   ·rfl
   ·rfl
   ·rfl
   ·rintro _ _ ⟨c2,_,rfl⟩ c hc;exact Aa _ hc
   rintro v _ ⟨c2,Fg,rfl⟩;refine pz ?_;refine gz ?_;refine Bb .refl ⟨v,c2,rfl,Fg,rfl⟩
 ·have IU: ∀r,r∈rows->r.id≠id:=λr hr e=>h1 ⟨r,hr,e⟩;have hg:=OZ IU;rw[show listD (rows.map Row.d) id=([],false) by unfold listD;rw[Nl IU]];refine gz ?_;rw[hg];refine gz ?_;refine Bb .refl ⟨_,[],rfl,OwnSl.nil _ _,rfl⟩
def firstD(D:DE)(id:Int):Int×Bool×Bool:=match(listD D id).1 with
 |x::_=>(x,(listD D id).2,true)
 |[]=>(0,false,false)
theorem first_any(b:Nat)(D:DE)(lq:Ac)(id:Int)(hq:IsE b D lq)(hn: ∀x,x∈D->x.2.1.length<=1000000)(l:Ac)(CG: ∀c,c∈lq->c∈l):
 Fn prog 263 [.pointer (some ⟨b,0,none⟩),.int .i64 id] l λv l'=>v= .tuple #[.int .i64 (firstD D id).1,.bool (firstD D id).2.1,.bool (firstD D id).2.2]/\ ∃cs,l'=cs++l:=by
 have H:=list_any b D lq id hq hn l CG;unfold firstD;obtain⟨⟨xs,s⟩,hx⟩: ∃x,listD D id=x:=⟨_,rfl⟩
 rw[hx] at H⊢;dsimp only at H⊢;refine AN func263 ntmps263 λE=>?_;refine gz ?_;refine AS (Dn rfl rfl H) ?_;rintro _ _ ⟨sl,cs,rfl,ho,rfl⟩;cases xs with
 |nil=>obtain⟨pv,cap,rfl⟩:=ho.shape;simp only[Fe];refine gz ?_;exact Bb .refl ⟨rfl,cs,rfl⟩
 |cons x r=>obtain⟨pv,cap,rfl,hI⟩:=ho.intsQ (l:=cs++l) λc hc=>Ai _ hc;obtain⟨gb,off,cc,t,fz,rfl,qB,hcc⟩:=hI (by simp);have g0:=hcc 0 x rfl;have Eh:(x::r).length=r.length+1:=rfl;refine gz ?_;refine Bh (DS (cs:=cc) rfl qB (by simpa using g0)) ?_;refine gz ?_;exact Bb .refl ⟨rfl,cs,rfl⟩
section
variable{ro:Option Nat}{N:Nat}{fr:Fr}{d:Option Nat}{ty:TypeId}{pos:String}{aft:Array Edge}{g:Option (Nat×Bool)}
theorem mO{s x:Operand}{v:Value}{xs:A4}{id:Int}{X cs F:Ac}{bl:Nat}(hx:ev fr s=some v)(hy:ev fr x=some (.slice (some ⟨bl,0,none⟩) 1 1))(EX:OwnSl 3 1 v xs.length (xs.map CU) cs)(Eh:xs.length<=1000000):
 OpE prog ro N fr ((bl,.cells (toArray [.int .i64 id]) 3 (0,0))::(X++(cs++F))) ⟨d,.call {callee:= .builtin .append,args:=#[s,x],argTypes:=#[40,40]},ty,pos,aft,g⟩
  (λv' l'=> ∃c2,OwnSl 3 1 v' (xs++[id]).length ((xs++[id]).map CU) c2/\l'=X++(c2++F)):=by
 have pQ:((bl,Obj.cells (toArray [.int .i64 id]) 3 (0,0))::(X++(cs++F))).Perm (cs++(((bl,Obj.cells (toArray [.int .i64 id]) 3 (0,0))::X)++F)):=
  AA ((bl,Obj.cells (toArray [.int .i64 id]) 3 (0,0))::X) cs F
 refine OpE.re (Keep.of_perm pQ) (GG (k:=1) (yb:=8) (m:=1) (xs:=xs.map CU) (news:=[.int .i64 id]) (zs:=[.int .i64 0]) hx hy rfl EX (Aa _ Ak) (λj u hj=>by simpa using hj) rfl (by simp[Value.oneCell']) (by unfold maxLen;omega) Af) ?_;rintro v' _ ⟨c2,ho,rfl⟩;exact⟨_,Keep.trans (Keep.of_perm (AA c2 ((bl,Obj.cells (toArray [.int .i64 id]) 3 (0,0))::X) F)) (.drop .refl),c2,by rw[Ah,Aq];exact ho,rfl⟩
end
theorem Ns(A B:List Row)(r:Row)(x y:Bd):(x::y::(A++r::B).flatMap Row.ch).Perm (r.bl::(r.cs++(x::y::(A.flatMap Row.ch++B.flatMap Row.ch)))):=by rw[Ec,Cz];have p1:(A.flatMap Row.ch++(r.ch++B.flatMap Row.ch)).Perm (r.bl::(r.cs++(A.flatMap Row.ch++B.flatMap Row.ch))):=AA (A.flatMap Row.ch) r.ch (B.flatMap Row.ch);refine((p1.cons _).cons _).trans ?_;refine(AA [x,y] [r.bl] (r.cs++(A.flatMap Row.ch++B.flatMap Row.ch))).trans (List.Perm.cons _ ?_);exact AA [x,y] r.cs _
abbrev T8(b m clock:Nat)(es:List LE)(A B:List Row):Ac:=Ri b m::(m,FX .i64 es clock)::(A.flatMap Row.ch++B.flatMap Row.ch)
theorem EB.focus(h:EB b (A++r::B) m clock lq):lq.Perm (r.bl::(r.cs++T8 b m clock ((A++r::B).map Row.ent) A B)):=by rw[h.eq];exact Ns A B r _ _
theorem EB.put(h:EB b (A++r::B) m clock lq)(xs:A4)(s:Bool)(v:Value)(c2:Ac)(ho:OwnSl 3 1 v xs.length (xs.map CU) c2):
 EB b (A++⟨r.id,xs,s,r.pb,v,c2,r.st⟩::B) m clock (Ri b m::(m,FX .i64 ((A++r::B).map Row.ent) clock)::(A++⟨r.id,xs,s,r.pb,v,c2,r.st⟩::B).flatMap Row.ch):=by
 have e1:(A++⟨r.id,xs,s,r.pb,v,c2,r.st⟩::B).map Row.ent=(A++r::B).map Row.ent:=by simp[Row.ent]
 have e2:(A++⟨r.id,xs,s,r.pb,v,c2,r.st⟩::B).map Row.st=(A++r::B).map Row.st:=by simp
 have e3:(A++⟨r.id,xs,s,r.pb,v,c2,r.st⟩::B).map Row.id=(A++r::B).map Row.id:=by simp
 refine⟨by rw[e1],λx hx=>?_,λx hx=>?_,by rw[e2];exact h.nd,by rw[e3];exact h.ids⟩
 ·rcases AF.1 hx with hx|hx
  ·exact h.own x (Ai _ hx)
  ·rcases At.1 hx with rfl|hx
   ·exact ho
   ·exact h.own x (Aa _ (.tail _ hx))
 ·rcases AF.1 hx with hx|hx
  ·exact h.st x (Ai _ hx)
  ·rcases At.1 hx with rfl|hx
   ·exact h.st r (Aa _ (.head _))
   ·exact h.st x (Aa _ (.tail _ hx))
def updD(D:DE)(id:Int)(y:A4×Bool):DE:=D.map λx=>if x.1=id then(x.1,y) else x
theorem T9(hA: ∀x,x∈A->x.id≠r.id)(hB: ∀x,x∈B->x.id≠r.id)(xs:A4)(s:Bool)(v:Value)(c2:Ac):updD ((A++r::B).map Row.d) r.id (xs,s)=(A++⟨r.id,xs,s,r.pb,v,c2,r.st⟩::B).map Row.d:=by
 have key: ∀(L:List Row),(∀x,x∈L->x.id≠r.id)->(L.map Row.d).map (λx=>if x.1=r.id then(x.1,(xs,s)) else x)=L.map Row.d:=λL hL=>by rw[CY];apply By;intro x hx;simp[Row.d,hL x hx]
 unfold updD;rw[Aq,Aq,AJ,AJ,key A hA,key B hB,Aq,AJ];simp[Row.d]
def rP(D:DE)(t:Int):Bool:=D.any λx=>decide (t∈x.2.1)
def waitD(D:DE)(id t:Int)(s:Bool):Int×DE:=match findD D id with
 |none=>(2,D)
 |some x=>if t<1 then(2,D) else if rP D t=true then(16,D) else if 0<x.1.length/\(!(x.2==s))=true then(16,D) else(0,updD D id (x.1++[t],s))
def removeD(D:DE)(t:Int):Bool×DE:=match D.find? λx=>decide (t∈x.2.1) with
 |none=>(false,D)
 |some x=>(true,updD D x.1 (x.2.1.eraseIdx (x.2.1.idxOf t),x.2.2))
theorem V3:rP (rows.map Row.d) t=true<-> ∃r,r∈rows/\t∈r.th:=by
 unfold rP;rw[HP];constructor
 ·rintro⟨x,hx,h⟩;rw[Av] at hx;obtain⟨r,hr,rfl⟩:=hx;exact⟨r,hr,ER h⟩
 ·rintro⟨r,hr,h⟩;exact⟨r.d,Av.2 ⟨r,hr,rfl⟩,Au h⟩
theorem wait_any(b:Nat)(D:DE)(lq:Ac)(id t:Int)(s:Bool)(hq:IsE b D lq)(hn: ∀x,x∈D->x.2.1.length<=1000000)(F:Ac):
 Fn prog 264 [.pointer (some ⟨b,0,none⟩),.int .i64 id,.int .i64 t,.bool s] (lq++F) λv l'=>v= .int .i64 (waitD D id t s).1/\ ∃DF,IsE b (waitD D id t s).2 DF/\l'=DF++F:=by
 obtain⟨rows,m,clock,rfl,hE⟩:=hq;have XK:Ri b m∈lq++F:=Ai _ hE.m1;have UW:(m,FX .i64 (rows.map Row.ent) clock)∈lq++F:=Ai _ hE.m2;have jL: ∀r,r∈rows->r.th.length<=1000000:=λr hr=>hn r.d (Av.2 ⟨r,hr,rfl⟩);refine AN func264 ntmps264 λE=>?_;refine Im λb8=>?_;by_cases h1: ∃r,r∈rows/\r.id=id
 ·obtain⟨r,hr,rfl⟩:=h1;have hg:=O0 hE.ids hr;have ae:=Ll hE.ids hr;rw[hg];by_cases ag:t<1
  ·rw[show waitD (rows.map Row.d) r.id t s=(2,rows.map Row.d) by unfold waitD;rw[ae];simp only;rw[Ad ag]];refine gz ?_;exact AU [] ((b8,.cells #[.int .i64 2] 29 (0,0))::(lq++F)) rfl (l':=lq++F) (by exact AW) (by exact Ba) (by exact AW) ⟨rfl,_,⟨rows,m,clock,rfl,hE⟩,rfl⟩
  refine gz ?_;refine AS (Dn rfl rfl (Jm _ _ _)) ?_;rintro v l' ⟨B1,B2,rfl,rfl⟩;refine gz ?_;refine Dg (α:=Row) (ps:=[27,28]) (lb:=[.pointer (some ⟨B1,0,none⟩),.pointer (some ⟨B2,0,none⟩)]) rfl (HY B1 B2 b m clock t rows lq hE jL) (λ_=>rfl) rfl
   (λpre l=>l=[(B2,.cells #[.int .i64 t] 3 (0,0)),(B1,.cells #[.pointer (some ⟨b,0,none⟩)] 160 (0,0)),(b8,.cells #[.int .i64 0] 29 (0,0))]/\pre=[])
   (λc pre l=>c= .ret/\pre≠[]/\l=[(b8,.cells #[.int .i64 16] 29 (0,0))])
   _ (lq++F) (λpre l2 X2 hX h=>by rw[h.1];exact⟨.tail _ (.head _),.head _,λc hc=>Aa _ (hX _ (Ai _ hc))⟩) (by exact AW) ⟨rfl,rfl⟩ ?_ ?_ ?_
  ·rintro E r0 FU pre y l' T ⟨fn,tmps,D,rfl⟩ hT ⟨rfl,rfl⟩ Dw;simp only[DX,Ae,Ag];refine gz ?_;refine CK (by exact DY) ?_;refine gz ?_;refine EI [(b8,.cells #[.int .i64 16] 29 (0,0))] (by exact AW) ⟨rfl,by simp,rfl⟩
  ·rintro D xs l' GD ⟨rfl,rfl⟩;have IU:¬rP (rows.map Row.d) t=true:=λh=>by
    obtain⟨r',UR,ht'⟩:=V3.1 h;cases GD r' UR ht'
   obtain⟨A,B,rfl,hA,hB⟩:=hE.split hr;have ho:=hE.own r hr;obtain⟨pv,cap,hv⟩:=ho.shape;have Eh:=jL r hr;obtain⟨A3,hrest⟩: ∃A3,T8 b m clock ((A++r::B).map Row.ent) A B=A3:=⟨_,rfl⟩
   have zH:lq.Perm ((r.pb,.cells (toArray [.slice pv r.th.length cap,.bool r.sd]) 353 (0,0))::(r.cs++A3)):=by rw[<-hv,<-hrest];exact hE.focus
   rw[hv] at ho;simp only[Ae,Ag];refine Ky (l':=Cr D::(b8,.cells #[.int .i64 0] 29 (0,0))::(lq++F)) (by exact AW) ?_;refine Ky (Keep.of_perm (((zH.append_right F).cons _).cons _)) ?_;simp only[Ae,Am];by_cases h0:0<r.th.length/\(!(r.sd==s))=true
   ·rw[show waitD ((A++r::B).map Row.d) r.id t s=(16,(A++r::B).map Row.d) by unfold waitD;rw[ae];simp only;rw[Ab ag,Ab IU,Ad h0]];obtain⟨h0a,h0b⟩:=h0;refine gz ?_;rw[h0b];refine gz ?_;exact AU [D] ((b8,.cells #[.int .i64 16] 29 (0,0))::(r.pb,.cells (toArray [.slice pv r.th.length cap,.bool r.sd]) 353 (0,0))::(r.cs++(A3++F))) rfl (l':=lq++F) (by exact AW) (by exact Ba) (.drop (.of_perm (by have:=(zH.append_right F).symm;simpa using this))) ⟨rfl,_,⟨A++r::B,m,clock,rfl,hE⟩,rfl⟩
   ·rw[show waitD ((A++r::B).map Row.d) r.id t s=(0,updD ((A++r::B).map Row.d) r.id (r.th++[t],s)) by unfold waitD;rw[ae];simp only;rw[Ab ag,Ab IU,Ab h0]];by_cases h0a:0<r.th.length
    ·have h0b:(!(r.sd==s))=false:=by cases h:(!(r.sd==s)) with|false=>rfl|true=>exact absurd ⟨h0a,h⟩ h0
     refine gz ?_;rw[h0b];refine gz ?_;refine AS (Lj rfl rfl) ?_;rintro _ _ ⟨bl,_,rfl,rfl⟩;refine AS (mO (X:=[Cr D,(b8,.cells #[.int .i64 0] 29 (0,0)),(r.pb,.cells (toArray [.slice pv r.th.length cap,.bool r.sd]) 353 (0,0))]) rfl rfl ho Eh) ?_;rintro v' _ ⟨c2,Fg,rfl⟩;have Jz:v'.oneCell'=true:=Fg.one;simp only[Ae,Ag];refine gz ?_;refine AU [D] ((b8,.cells #[.int .i64 0] 29 (0,0))::(r.pb,.cells (toArray [v',.bool s]) 353 (0,0))::(c2++(A3++F))) rfl (l':=(Ri b m::(m,FX .i64 ((A++r::B).map Row.ent) clock)::(A++⟨r.id,r.th++[t],s,r.pb,v',c2,r.st⟩::B).flatMap Row.ch)++F) (by exact AW) (by exact Ba) (.drop (.of_perm ?_)) ⟨rfl,_,⟨_,m,clock,(T9 hA hB _ _ v' c2).symm,hE.put _ s v' c2 Fg⟩,rfl⟩;rw[<-hrest];have:=((Ns A B ⟨r.id,r.th++[t],s,r.pb,v',c2,r.st⟩ (Ri b m) (m,FX .i64 ((A++r::B).map Row.ent) clock)).append_right F).symm;rw[Ae,Am] at this;exact this
    ·refine gz ?_;refine AS (Lj rfl rfl) ?_;rintro _ _ ⟨bl,_,rfl,rfl⟩;refine AS (mO (X:=[Cr D,(b8,.cells #[.int .i64 0] 29 (0,0)),(r.pb,.cells (toArray [.slice pv r.th.length cap,.bool r.sd]) 353 (0,0))]) rfl rfl ho Eh) ?_;rintro v' _ ⟨c2,Fg,rfl⟩;have Jz:v'.oneCell'=true:=Fg.one;simp only[Ae,Ag];refine gz ?_;refine AU [D] ((b8,.cells #[.int .i64 0] 29 (0,0))::(r.pb,.cells (toArray [v',.bool s]) 353 (0,0))::(c2++(A3++F))) rfl (l':=(Ri b m::(m,FX .i64 ((A++r::B).map Row.ent) clock)::(A++⟨r.id,r.th++[t],s,r.pb,v',c2,r.st⟩::B).flatMap Row.ch)++F) (by exact AW) (by exact Ba) (.drop (.of_perm ?_)) ⟨rfl,_,⟨_,m,clock,(T9 hA hB _ _ v' c2).symm,hE.put _ s v' c2 Fg⟩,rfl⟩;rw[<-hrest];have:=((Ns A B ⟨r.id,r.th++[t],s,r.pb,v',c2,r.st⟩ (Ri b m) (m,FX .i64 ((A++r::B).map Row.ent) clock)).append_right F).symm;rw[Ae,Am] at this;exact this
  ·rintro D c pre l' Dw ⟨rfl,He,rfl⟩;obtain⟨r',UR⟩:=List.exists_mem_of_ne_nil _ He;have Ad2:=V3.2 ⟨r',Dw r' UR⟩;rw[show waitD (rows.map Row.d) r.id t s=(16,rows.map Row.d) by unfold waitD;rw[ae];simp only;rw[Ab ag,Ad Ad2]];simp only[Ae,Ag];refine gz ?_;exact AU [D] ((b8,.cells #[.int .i64 16] 29 (0,0))::(lq++F)) rfl (l':=lq++F) (by exact AW) (by exact Ba) (by exact AW) ⟨rfl,_,⟨rows,m,clock,rfl,hE⟩,rfl⟩
 ·have IU: ∀r,r∈rows->r.id≠id:=λr hr e=>h1 ⟨r,hr,e⟩;have hg:=OZ IU;rw[show waitD (rows.map Row.d) id t s=(2,rows.map Row.d) by unfold waitD;rw[Nl IU]];rw[hg];refine gz ?_;exact AU [] ((b8,.cells #[.int .i64 2] 29 (0,0))::(lq++F)) rfl (l':=lq++F) (by exact AW) (by exact Ba) (by exact AW) ⟨rfl,_,⟨rows,m,clock,rfl,hE⟩,rfl⟩
theorem rQ(v:Value)(xs:A4)(i:Nat)(hi:i<xs.length)(X cs Y:Ac)(h:OwnSl 3 1 v xs.length (xs.map CU) cs)(hn:xs.length<=1000000):
 Fn prog 199 [v,.int .i64 (i:Nat),.int .i64 ((i:Int)+1)] (X++(cs++Y)) λr l'=> ∃c2,OwnSl 3 1 r (xs.eraseIdx i).length ((xs.eraseIdx i).map CU) c2/\l'=X++(c2++Y):=by
 refine Fn.re (Keep.of_perm (AA X cs Y)) (Qu.delete_any v xs i hi cs _ h hn) ?_;rintro v l' ⟨c2,h1,h2⟩;exact⟨_,by rw[h2];exact Keep.of_perm (AA c2 X Y),c2,h1,rfl⟩
def OneAt(D:DE)(t:Int):Prop:= ∀x y,x∈D->y∈D->t∈x.2.1->t∈y.2.1->x.1=y.1
theorem xM(hn:(rows.map Row.id).Nodup)(hU:OneAt (rows.map Row.d) t)(hr:r∈rows)(ht:t∈r.th):(rows.map Row.d).find? (λx=>decide (t∈x.2.1))=some r.d:=by
 have hs:((rows.map Row.d).find? λx=>decide (t∈x.2.1)).isSome=true:=List.find?_isSome.2 ⟨r.d,Av.2 ⟨r,hr,rfl⟩,Au ht⟩;obtain⟨x,hx⟩:=Ip.1 hs;have h1:t∈x.2.1:=by have:=Et hx;simpa using this
 have hm:=Bt hx;have Vr:=hU x r.d hm (Av.2 ⟨r,hr,rfl⟩) h1 ht;rw[hx];rw[Av] at hm;obtain⟨r',UR,rfl⟩:=hm;have:r'=r:=TI hn UR hr Vr;rw[this]
theorem remove_any(b:Nat)(D:DE)(lq:Ac)(t:Int)(hq:IsE b D lq)(hn: ∀x,x∈D->x.2.1.length<=1000000)(hU:OneAt D t)(F:Ac):
 Fn prog 259 [.pointer (some ⟨b,0,none⟩),.int .i64 t] (lq++F) λv l'=>v= .bool (removeD D t).1/\ ∃DF,IsE b (removeD D t).2 DF/\l'=DF++F:=by
 obtain⟨rows,m,clock,rfl,hE⟩:=hq;have jL: ∀r,r∈rows->r.th.length<=1000000:=λr hr=>hn r.d (Av.2 ⟨r,hr,rfl⟩);refine AN func259 ntmps259 λE=>?_;refine Im λb4=>?_;refine AS (Dn rfl rfl (Jm _ _ _)) ?_;rintro v l' ⟨B1,B2,rfl,rfl⟩;refine gz ?_;refine Dg (α:=Row) (ps:=[10,11]) (lb:=[.pointer (some ⟨B1,0,none⟩),.pointer (some ⟨B2,0,none⟩)]) rfl (HY B1 B2 b m clock t rows lq hE jL) (λ_=>rfl) rfl
  (λpre l=>l=[(B2,.cells #[.int .i64 t] 3 (0,0)),(B1,.cells #[.pointer (some ⟨b,0,none⟩)] 160 (0,0)),(b4,.cells #[.bool false] 4 (0,0))]++lq/\pre=[])
  (λc pre l=>c= .ret/\ ∃A r B v' c2,rows=A++r::B/\(∀x,x∈A->x.id≠r.id)/\(∀x,x∈B->x.id≠r.id)/\t∈r.th/\OwnSl 3 1 v' (r.th.eraseIdx (r.th.idxOf t)).length ((r.th.eraseIdx (r.th.idxOf t)).map CU) c2/\l=(b4,.cells #[.bool true] 4 (0,0))::(r.pb,.cells (toArray [v',.bool r.sd]) 353 (0,0))::(c2++T8 b m clock (rows.map Row.ent) A B))
  _ F (λpre l2 X2 hX h=>by rw[h.1];exact⟨.tail _ (.head _),.head _,λc hc=>Ai _ (Aa _ hc)⟩) (by exact AW) ⟨rfl,rfl⟩ ?_ ?_ ?_
 ·rintro E r0 FU pre r l' T ⟨fn,tmps,D,rfl⟩ hT ⟨rfl,rfl⟩ Dw;obtain⟨hr,ht⟩:=Dw r (by simp);obtain⟨A,B,rfl,hA,hB⟩:=hE.split hr;have ho:=hE.own r hr;obtain⟨pv,cap,hv⟩:=ho.shape;have Eh:=jL r hr;obtain⟨A3,hrest⟩: ∃A3,T8 b m clock ((A++r::B).map Row.ent) A B=A3:=⟨_,rfl⟩
  have zH:lq.Perm ((r.pb,.cells (toArray [.slice pv r.th.length cap,.bool r.sd]) 353 (0,0))::(r.cs++A3)):=by rw[<-hv,<-hrest];exact hE.focus
  rw[hv] at ho;have C9:=Hg ht;simp only[DX,Ae,Ag];refine gz ?_;refine CK (.there (.there (.there (FK _ _ _ _ _)))) ?_;refine Em (.drop (.drop (.of_perm ((zH.append_right _).cons _)))) ?_;simp only[Ae,Am];refine gz ?_;refine AS (Dn rfl rfl (rQ _ r.th (r.th.idxOf t) C9 [(b4,.cells #[.bool false] 4 (0,0)),(r.pb,.cells (toArray [.slice pv r.th.length cap,.bool r.sd]) 353 (0,0))] r.cs _ ho Eh)) ?_;rintro v' _ ⟨c2,Fg,rfl⟩;have Jz:v'.oneCell'=true:=Fg.one;simp only[Ae,Ag];refine gz ?_;refine EI _ ?_ ⟨rfl,A,r,B,v',c2,rfl,hA,hB,ht,Fg,rfl⟩;rw[hrest];simp only[Ae,Am];exact .refl
 ·rintro D xs l' GD ⟨rfl,rfl⟩;have IU:(rows.map Row.d).find? (λx=>decide (t∈x.2.1))=none:=Bq.2 λx hx=>by
   rw[Av] at hx;obtain⟨r,hr,rfl⟩:=hx;intro h;cases GD r hr (ER h)
  rw[show removeD (rows.map Row.d) t=(false,rows.map Row.d) by unfold removeD;rw[IU]];simp only[Ae,Ag];refine gz ?_;exact AU [D] ((b4,.cells #[.bool false] 4 (0,0))::(lq++F)) rfl (l':=lq++F) (by exact AW) (by exact Ba) (by exact AW) ⟨rfl,_,⟨rows,m,clock,rfl,hE⟩,rfl⟩
 ·rintro D c pre l' Dw ⟨rfl,A,r,B,v',c2,rfl,hA,hB,ht,Fg,rfl⟩;rw[show removeD ((A++r::B).map Row.d) t=(true,updD ((A++r::B).map Row.d) r.id (r.th.eraseIdx (r.th.idxOf t),r.sd)) by unfold removeD;rw[xM hE.ids hU (Aa _ (.head _)) ht];rfl];obtain⟨A3,hrest⟩: ∃A3,T8 b m clock ((A++r::B).map Row.ent) A B=A3:=⟨_,rfl⟩
  rw[hrest];simp only[Ae,Am];refine gz ?_;refine AU [D] ((b4,.cells #[.bool true] 4 (0,0))::(r.pb,.cells (toArray [v',.bool r.sd]) 353 (0,0))::(c2++(A3++F))) rfl (l':=(Ri b m::(m,FX .i64 ((A++r::B).map Row.ent) clock)::(A++⟨r.id,r.th.eraseIdx (r.th.idxOf t),r.sd,r.pb,v',c2,r.st⟩::B).flatMap Row.ch)++F) (by exact AW) (by exact Ba) (.drop (.of_perm ?_)) ⟨rfl,_,⟨_,m,clock,(T9 hA hB _ _ v' c2).symm,hE.put _ r.sd v' c2 Fg⟩,rfl⟩;rw[<-hrest];have:=((Ns A B ⟨r.id,r.th.eraseIdx (r.th.idxOf t),r.sd,r.pb,v',c2,r.st⟩ (Ri b m) (m,FX .i64 ((A++r::B).map Row.ent) clock)).append_right F).symm;rw[Ae,Am] at this;exact this
end En
namespace Tr
section
variable{P:Program}{ro:Option Nat}{N:Nat}{E:World}{ops:Array Oper}{Q:Exit->Act->World->Prop}{R:Ac}{tbl:List (List Nat)}{sw:Sw}{sp:FP}{pl:List BG}{o:Oper}{fr fr':Fr}{ds:List Deferred}{l l':Ac}{K:Value->Ac->Prop}{v:Value}{i:Nat}{k:Bool}
end
theorem V4(b p:Nat)(l:Ac):Fn prog 359 [.pointer (some ⟨b,0,none⟩),.pointer (some ⟨p,0,none⟩)] l λv l'=> ∃B1 B2,v= .func (.func 383) #[] #[.pointer (some ⟨B2,0,none⟩),.pointer (some ⟨B1,0,none⟩)]/\l'=YU B1 p::Z1 B2 b::l:=by refine AN func359 ntmps359 λE=>?_;refine Im λb2=>?_;refine Im λb3=>?_;exact Bb .refl ⟨b3,b2,rfl,rfl⟩
theorem Ua(B1 B2 b rb m p:Nat)(F:Nat->NdT)(all os:List Nat)(es:List (Hm SlotT))(clock:Nat)(lq:Ac)(hT:TB b rb m F all os es clock lq)(X Y:List Nat)(hX:rb::os=X++p::Y):
 FC prog 383 [.pointer (some ⟨B2,0,none⟩),.pointer (some ⟨B1,0,none⟩)] (λq:Nat=>[.pointer (some ⟨q,0,none⟩)]) (λxs=>xs=Y.takeWhile λq=>decide ((F p).dp<(F q).dp)) (λpre=>pre<+:Y.takeWhile λq=>decide ((F p).dp<(F q).dp))
  (λpre l=>YU B1 p∈l/\Z1 B2 b∈l/\Lp b rb m∈l/\Dps F (rb::os) pre l):=by
 refine⟨λr I Ix G0 Cb hY l G hG h0=>?_⟩;have Le:(p::Y).Nodup:=by have:=hT.ond;rw[hX] at this;exact(BC.1 this).2.1
 have hpc:p∈rb::os:=by rw[hX];simp
 obtain⟨tw,JA⟩: ∃tw,tw=Y.takeWhile λq=>decide ((F p).dp<(F q).dp):=⟨_,rfl⟩
 rw[<-JA] at hY⊢;obtain⟨n1,n2,n3,n4⟩:=Cb _ _ G hG h0;refine AN func383 ntmps383 λE=>?_;refine Im λb3=>?_;refine AS (Dn rfl rfl (T1 _ _ _)) ?_;rintro v l' ⟨C1,C2,rfl,rfl⟩;refine gz ?_;refine Dg (α:=Nat) (ps:=[8]) (lb:=[.pointer (some ⟨C1,0,none⟩),.pointer (some ⟨C2,0,none⟩)]) rfl (RI C1 C2 b rb m p F all os es clock lq hT X Y hX) (λ_=>rfl) rfl
  (λpre l=> ∃l1,I pre l1/\pre<+:tw/\l=[YU C1 p,Z1 C2 b,(b3,.cells #[.func (.yield r) #[] #[]] 407 (0,0))]++l1)
  (λc pre l=>c= .exit 0/\ ∃l1,((pre<+:tw/\Ix pre l1)\/I tw l1)/\l=[YU C1 p,Z1 C2 b,(b3,.cells #[.func (.yield r) #[] #[]] 407 (0,0))]++l1)
  _ G (λpre l2 X2 hX2 h=>by obtain⟨l1,hI,_,rfl⟩:=h;obtain⟨k1,k2,k3,k4⟩:=Cb _ _ X2 (λc hc=>hX2 c (hG c hc)) hI;refine⟨.head _,.tail _ (.head _),.tail _ (.tail _ (.tail _ k3)),λq hq=>?_⟩;obtain⟨x,h1,h2,h3⟩:=k4 q hq;exact⟨x,.tail _ (.tail _ (.tail _ h1)),h2⟩) (by exact AW) ⟨l,h0,List.nil_prefix,rfl⟩ ?_ ?_ ?_
 ·rintro E r0 FU pre y l' T ⟨fn,tmps,D,rfl⟩ Q8 ⟨l1,hI,hpt,rfl⟩ Dw;simp only[DX,Ae,Ag];refine gz ?_;refine CK (.there (.there (.there (FK _ _ _ _ _)))) ?_;generalize hX1:(r0,Obj.loop (DR fn tmps _ _ _ D .busy none))::T=X1;have hG1: ∀c,c∈G0->c∈X1:=λc hc=>by rw[<-hX1];exact .tail _ (Q8 c (hG c hc))
  have wE:y∉pre/\p∉pre/\y∈rb::os:=by
   obtain⟨r9,h9⟩:=Dw;rw[<-h9] at Le hX;refine⟨λh=>?_,λh=>?_,by rw[hX];simp⟩
   ·have:=(BC.1 (BC.1 (AP.1 Le).2).1).2.2 y h y (by simp);exact this rfl
   ·exact(AP.1 Le).1 (by simp[h])
  obtain⟨k1,k2,k3,k4⟩:=Cb _ _ X1 hG1 hI;obtain⟨xy,UT,_,hyd⟩:=k4 y wE.2.2;obtain⟨xp,ug,_,zD⟩:=k4 p hpc;have hyd:=hyd wE.1;have zD:=zD wE.2.1;by_cases C9:(F p).dp<(F y).dp
  ·have kF:pre++[y]<+:tw:=by rw[JA] at hpt⊢;exact rM Dw hpt (Au C9)
   refine gz ?_;refine Cm [12] 15 ([(b3,.cells #[.func (.yield r) #[] #[]] 407 (0,0))]) ?_;refine pz ?_;apply Gp (S:=[OF y xy])
   ·exact DS rfl (.head _) rfl
   ·intro c hc;cases hc with
    |head=>exact .tail _ (.tail _ (.tail _ UT))
    |tail _ h=>cases h
   ·rfl
   ·rfl
   ·rfl
   refine pz ?_;apply Gp (S:=[YU B1 p])
   ·exact DS rfl (.head _) rfl
   ·intro c hc;cases hc with
    |head=>exact .tail _ (.tail _ (.tail _ k1))
    |tail _ h=>cases h
   ·rfl
   ·rfl
   ·rfl
   refine pz ?_;apply Gp (S:=[OF p xp])
   ·exact DS rfl (.head _) rfl
   ·intro c hc;cases hc with
    |head=>exact .tail _ (.tail _ (.tail _ ug))
    |tail _ h=>cases h
   ·rfl
   ·rfl
   ·rfl
   refine pz ?_;apply Rc
   ·apply OpE.re (K':=λv l3=> ∃l2,l3=YU C1 p::Z1 C2 b::(b3,.cells #[.func (.yield r) #[] #[]] 407 (0,0))::(l2++X1)/\((v= .bool true/\I (pre++[y]) l2)\/(v= .bool false/\Ix (pre++[y]) l2))) (Keep.in_mid [YU C1 p,Z1 C2 b,(b3,.cells #[.func (.yield r) #[] #[]] 407 (0,0))] l1 X1)
    ·exact C5 rfl rfl (hY pre y l1 _ (λc hc=> .tail _ (.tail _ (.tail _ (hG1 c hc)))) hI kF)
    ·rintro v _ ⟨l2,rfl,hor⟩;exact⟨_,Keep.in_mid l2 [YU C1 p,Z1 C2 b,(b3,.cells #[.func (.yield r) #[] #[]] 407 (0,0))] X1,l2,rfl,hor⟩
   ·rfl
   ·rfl
   ·rfl
   ·rintro _ _ ⟨l2,rfl,_⟩ c hc;cases hc with
    |head=>exact .tail _ (.tail _ (.head _))
    |tail _ h=>cases h
   ·exact λ_ _ _ x hx ha=>Dh BA hx ha
   rintro v _ ⟨l2,rfl,⟨rfl,N6⟩|⟨rfl,N6⟩⟩
   ·refine pz ?_;refine gz ?_;rw[<-hX1];exact Ci _ (.refl) ⟨l2,N6,kF,rfl⟩
   ·refine pz ?_;refine gz ?_;rw[<-hX1];exact E5 _ (.refl) ⟨rfl,l2,.inl ⟨kF,N6⟩,rfl⟩
  ·have kF:pre=tw:=by rw[JA] at hpt⊢;exact rN Dw hpt (Aw C9)
   refine gz ?_;refine Cm [12] 15 _ ?_ (hR:=(λ_ h=>h));refine pz ?_;refine gz ?_;rw[<-hX1];exact E5 _ (.refl) ⟨rfl,l1,.inr (kF▸hI),rfl⟩
 ·rintro D xs l' rfl ⟨l1,hI,hpt,rfl⟩;simp only[Ae,Ag];have GD:xs=tw:=by rw[JA] at hpt⊢;exact xJ hpt
  refine gz ?_;exact AU [D] (l1++G) rfl (l':=l1++G) (by exact AW) (by exact Ba) .refl ⟨l1,rfl,.inl ⟨_,rfl,GD▸hI⟩⟩
 ·rintro D c pre l' Dw ⟨rfl,l1,hor,rfl⟩;simp only[Ae,Ag];refine gz ?_;refine AU [D] (l1++G) rfl (l':=l1++G) (by exact AW) (by exact Ba) .refl ⟨l1,rfl,?_⟩;rcases hor with⟨h1,h2⟩|h
  ·exact .inr ⟨_,h1,h2⟩
  ·exact .inl ⟨_,rfl,h⟩
theorem belowOf_any(b:Nat)(D:DT)(lq:Ac)(hq:IsT b D lq)(hn:D.length<=1000000)(s:SlotT)(l:Ac)(CG: ∀c,c∈lq->c∈l):
 Fn prog 322 [.pointer (some ⟨b,0,none⟩),.agg (toArray (Cw s))] l λv l'=> ∃cs,OwnSl 61 2 v (belowD D s).length (scs (belowD D s)) cs/\l'=cs++l:=by
 obtain⟨rb,m,F,all,os,es,clock,rfl,hT⟩:=hq;have ku:os.length<=1000000:=by simpa[Ft] using hn
 have h1:=CG _ hT.m1;have kC: ∀q,q∈rb::os->OF q (F q)∈l:=λq hq=>by
  rcases At.1 hq with rfl|hq
  ·exact CG _ (hT.m3 hT.rin)
  ·exact CG _ (hT.m3 (hT.sub q hq))
 refine AN func322 ntmps322 λE=>?_;refine gz ?_;refine AS (CH rfl) ?_;rintro _ _ ⟨b0,hb0,rfl,rfl⟩;refine gz ?_;refine Bh (AL (R:=(b0,Obj.cells (toArray (Cw s)) 61 (0,0))::l) rfl rfl λl2 Lf=>of_any b rb m F all os es clock lq s hT l2 λc hc=>Lf c (.tail _ (CG c hc))) ?_;cases hbk:blk F os s with
 |none=>
  have e:belowD (Ft F os) s=[]:=by unfold belowD;rw[JY hbk]
  rw[e];refine gz ?_;exact Bb (.drop .refl) ⟨[],OwnSl.nil _ _,rfl⟩
 |some p=>
  obtain⟨Ao,Bo,rfl,hsd⟩:=Hf hbk;have e:belowD (Ft F (Ao++p::Bo)) s=(Bo.takeWhile λq=>decide ((F p).dp<(F q).dp)).map λq=>(F q).sl:=by unfold belowD;rw[hsd];exact T3 Bo
  rw[e];simp only[No];refine Im λb6=>?_;refine AS (Dn rfl rfl (V4 _ _ _)) ?_;rintro v l' ⟨C1,C2,rfl,rfl⟩;refine gz ?_;refine Dg (α:=Nat) (ps:=[16]) (lb:=[.pointer (some ⟨C2,0,none⟩),.pointer (some ⟨C1,0,none⟩)]) rfl (Ua C1 C2 b rb m p F all (Ao++p::Bo) es clock lq hT (rb::Ao) Bo rfl) (λ_=>rfl) rfl
   (λpre l=> ∃v cs,OwnSl 61 2 v pre.length (scs (pre.map λq=>(F q).sl)) cs/\l=[YU C1 p,Z1 C2 b,(b6,.cells #[v] 64 (0,0))]++cs)
   (λc pre l=>False)
   _ l (λpre l2 X2 hX h=>by obtain⟨v,cs,_,rfl⟩:=h;exact⟨.head _,.tail _ (.head _),Aa _ (hX _ h1),λq hq=>⟨F q,Aa _ (hX _ (kC q hq)),rfl,λ_=>rfl⟩⟩) (by exact AW) ⟨_,[],OwnSl.nil _ _,rfl⟩ ?_ ?_ ?_
  ·rintro E r0 FU pre y l' T ⟨fn,tmps,Dd,rfl⟩ Q8 ⟨v,cs',EX,rfl⟩ Dw;have hy:y∈rb::(Ao++p::Bo):=An _ (Aa _ (An _ ((Ek _).subset (Dw.subset (by simp)))));have hyT:=Q8 _ (kC y hy);have XI:pre.length<=1000000:=by have h1:=Dw.length_le;have h2:=(Ek (l:=Bo) λq=>decide ((F p).dp<(F q).dp)).length_le;simp at h1 ku;omega
   simp only[DX,Ae,Ag];refine gz ?_;refine CK (.there (.there (.there (FK _ _ _ _ _)))) ?_;generalize hX1:(r0,Obj.loop (DR fn tmps _ _ _ Dd .busy none))::T=X1;have wD:OF y (F y)∈X1:=by rw[<-hX1];exact .tail _ hyT
   refine gz ?_;refine Cm [5,6,7] 8 ([]) ?_;refine pz ?_;apply Gp (S:=[(b6,.cells #[v] 64 (0,0))])
   ·exact DS rfl (.head _) rfl
   ·intro c hc;cases hc with
    |head=>exact .tail _ (.tail _ (.head _))
    |tail _ h=>cases h
   ·rfl
   ·rfl
   ·rfl
   refine pz ?_;apply Gp (S:=[OF y (F y)])
   ·exact Ge rfl (.head _) (by(repeat(first|with_reducible apply LSub.done|with_reducible apply LSub.take|with_reducible apply LSub.drop)))
   ·intro c hc;cases hc with
    |head=>exact .tail _ (.tail _ (.tail _ (Aa _ wD)))
    |tail _ h=>cases h
   ·rfl
   ·rfl
   ·rfl
   refine pz ?_;apply G9
   ·apply FE (ws:=Cw (F y).sl) (k:=2)
    ·rfl
    ·rfl
    ·rfl
    ·decide
    ·decide
   ·rfl
   ·rfl
   ·rfl
   ·intro _ _ _ c hc;cases hc
   ·rintro _ _ ⟨bl,_,rfl,rfl⟩ x hx _ c hc;have h3: ∀o:Obj,(b6,o)∈(bl,Obj.cells (toArray (Cw (F y).sl)) 61 (0,0))::YU C1 p::Z1 C2 b::(b6,o)::(cs'++X1):=λo=> .tail _ (.tail _ (.tail _ (.head _)));simp only[At,BQ,EE] at hx;rcases hx with rfl|rfl<;>simp only[At,BQ,EE] at hc<;>subst hc
    ·exact .tail _ (.tail _ (.tail _ (.tail _ (Aa _ wD))))
    ·exact h3 _
   rintro _ _ ⟨bl,_,rfl,rfl⟩;refine pz ?_;apply G9
   ·apply Hz (k:=2) (X:=[YU C1 p,Z1 C2 b,(b6,.cells #[v] 64 (0,0))]) (cs:=cs') (xs:=scs (pre.map λq=>(F q).sl)) (n:=pre.length) (zs:=[.int .i64 0,.int .i64 0]) (ws:=Cw (F y).sl)
    ·rfl
    ·rfl
    ·rfl
    ·exact EX
    ·rfl
    ·simp[Value.oneCell']
    ·omega
    ·decide
   ·rfl
   ·rfl
   ·rfl
   ·intro _ _ _ c hc;cases hc
   ·exact λ_ _ _ x hx ha=>Dh BA hx ha
   rintro v' _ ⟨c2,Fg,rfl⟩;have Jz:v'.oneCell'=true:=Fg.one;simp only[Ae,Ag];apply Hy
   ·apply GF (cs:=[v])
    ·rfl
    ·rfl
    ·exact Jz
    ·exact BW
    ·exact .zero
    ·exact DY
   ·rfl
   ·rfl
   ·intro _ _ _ c hc;cases hc
   ·exact λ_ _ _ x hx ha=>Dh BA hx ha
   rintro _ _ ⟨rfl,rfl⟩;refine pz ?_;refine gz ?_;rw[<-hX1];refine Ci _ (.refl) ⟨v',c2,?_,rfl⟩;rw[Aq,AJ,CX,scs_snoc,Ah];exact Fg
  ·rintro Dd xs l' rfl ⟨v,cs',EX,rfl⟩;have Jz:v.oneCell'=true:=EX.one;simp only[Ae,Ag];refine gz ?_;refine AU [Dd] (cs'++l) rfl (l':=cs'++l) (by exact AW) (by exact Ba) .refl ?_;exact⟨cs',by rw[A7];exact EX,rfl⟩
  ·rintro Dd c pre l' Dw h;exact h.elim
theorem move_any(b:Nat)(D:DT)(lq:Ac)(hq:IsT b D lq)(a c:SlotT)(G:Ac):
 Fn prog 286 [.pointer (some ⟨b,0,none⟩),.agg (toArray (Cw a)),.agg (toArray (Cw c))] (lq++G) λv l'=>v= .int .i64 (moveD D a c).1/\ ∃DF,IsT b (moveD D a c).2 DF/\l'=DF++G:=by
 obtain⟨rb,m,F,all,os,es,clock,rfl,hT⟩:=hq;refine AN func286 ntmps286 λE=>?_;refine gz ?_;refine AS (CH rfl) ?_;rintro _ _ ⟨b4,hb4,rfl,rfl⟩;refine gz ?_;refine AS (CH rfl) ?_;rintro _ _ ⟨b5,zG,rfl,rfl⟩;have LA: ∀lq:Ac,Keep (lq++(Dv b5 c::Dv b4 a::G)) (lq++G):=λlq=>Keep.trans (.of_perm (AA lq [Dv b5 c,Dv b4 a] G)) (.drop (.drop .refl));refine Bs (Keep.of_perm (l':=lq++(Dv b5 c::Dv b4 a::G)) (AA [Dv b5 c,Dv b4 a] lq G)) ?_;have CG: ∀x,x∈lq->x∈lq++(Dv b5 c::Dv b4 a::G):=λx hx=>Ai _ hx;have hm4:Dv b4 a∈lq++(Dv b5 c::Dv b4 a::G):=Aa _ (.tail _ (.head _));have kD:Dv b5 c∈lq++(Dv b5 c::Dv b4 a::G):=Aa _ (.head _);refine gz ?_;refine Bh (AL rfl rfl λl2 Lf=>of_any b rb m F all os es clock lq a hT l2 λx hx=>Lf x (CG x hx)) ?_;cases dB:blk F os a with
 |none=>rw[show moveD (Ft F os) a c=(10,Ft F os) by unfold moveD;rw[JY dB]];simp only[No];refine gz ?_;exact Bb (l':=lq++G) (LA lq) ⟨rfl,lq,⟨rb,m,F,all,os,es,clock,rfl,hT⟩,rfl⟩
 |some p=>
  simp only[No];refine gz ?_;refine Bh (AL rfl rfl λl2 Lf=>of_any b rb m F all os es clock lq c hT l2 λx hx=>Lf x (CG x hx)) ?_;cases hbk:blk F os c with
  |some q=>rw[show moveD (Ft F os) a c=(11,Ft F os) by unfold moveD;obtain⟨A,B,_,h2⟩:=Hf dB;rw[h2];simp only;rw[Nq,hbk];rfl];simp only[No];refine gz ?_;exact Bb (l':=lq++G) (LA lq) ⟨rfl,lq,⟨rb,m,F,all,os,es,clock,rfl,hT⟩,rfl⟩
  |none=>
   rw[show moveD (Ft F os) a c=(0,(splitD a (Ft F os)).elim [] λy=>y.1++(c,y.2.1)::y.2.2) by unfold moveD;obtain⟨A,B,_,h2⟩:=Hf dB;rw[h2];simp only;rw[Nq,hbk];rfl];obtain⟨A,B,rfl,h2⟩:=Hf dB;rw[h2];have NO:=(Iu dB).2;have wz:p∈all:=hT.sub p (by simp);have IU:=Kk hbk;obtain⟨uA,uB⟩:=hT.uniq;rw[NO] at uA uB;simp only[No];rw[hT.eq];simp only[Ae];have hb4: ∀F':Nat->NdT,Dv b4 a∈OG F' all++(Dv b5 c::Dv b4 a::G):=λF'=>Aa _ (.tail _ (.head _));have zG: ∀F':Nat->NdT,Dv b5 c∈OG F' all++(Dv b5 c::Dv b4 a::G):=λF'=>Aa _ (.head _);refine gz ?_;refine Cm [5] 6 ([]) ?_;refine pz ?_;apply Gp (S:=[Lp b rb m]);(·exact Vb);(·exact C7 (.head _));(·rfl);(·rfl);(·rfl);refine pz ?_;apply Gp (S:=[Dv b4 a]);(·exact Vb);(·exact C7 (.tail _ (.tail _ (hb4 F))));(·rfl);(·rfl);(·rfl);refine pz ?_;apply Hy
   ·apply VF (enc:=Cw) (a:=a) (es:=es) (clock:=clock) (ks:=[some .i64,some .i64])
    ·rfl
    ·rfl
    ·exact Nn
    ·exact DY
   (·rfl);(·rfl);(·intro _ _ _ c hc;cases hc);(·exact λ_ _ _ x hx ha=>Dh BA hx ha)
   rintro _ _ ⟨rfl,rfl⟩;refine pz ?_;have Aht:=zG F;refine gz ?_;refine M9 (l:=Lp b rb m::(m,Ii Cw (Po a es) clock)::(OG F all++(Dv b5 c::Dv b4 a::G))) (EH (b:=p) (off:=0) (cs:=toArray (F p).cells) (n:=2) rfl rfl rfl (by simp[Value.oneCell']) (.there (.there (Ki (L8 {F p with sl:=c} hT.nd wz) _))) (by simp)) rfl rfl ?_;rintro _ _ ⟨rfl,rfl⟩;obtain⟨F1,hF1⟩: ∃F1,F1=upd F p {F p with sl:=c}:=⟨_,rfl⟩
   rw[<-hF1];have Ahu:=zG F1;refine gz ?_;refine Cm [6] 7 ([]) ?_;refine pz ?_;apply Gp (S:=[Lp b rb m]);(·exact Vb);(·exact C7 (.head _));(·rfl);(·rfl);(·rfl);refine pz ?_;apply Gp (S:=[Dv b5 c]);(·exact Vb);(·exact C7 (.tail _ (.tail _ (zG F1))));(·rfl);(·rfl);(·rfl);refine pz ?_;apply Hy
   ·apply Qi (enc:=Cw) (a:=c) (es:=Po a es) (clock:=clock) (ks:=[some .i64,some .i64])
    ·rfl
    ·rfl
    ·rfl
    ·exact Nn
    ·exact DY
   (·rfl);(·rfl);(·intro _ _ _ c hc;cases hc);(·exact λ_ _ _ x hx ha=>Dh BA hx ha)
   rintro _ _ ⟨rfl,rfl⟩;refine pz ?_;refine gz ?_;have ep:F1 p={F p with sl:=c}:=by rw[hF1,DL]
   have eo: ∀q,q≠p->F1 q=F q:=λq hq=>by rw[hF1,Dl _ _ _ _ hq]
   have el: ∀q,(F1 q).nx=(F q).nx/\(F1 q).pv=(F q).pv/\(F1 q).dp=(F q).dp:=λq=>by
    by_cases e:q=p
    ·rw[e,ep];exact⟨rfl,rfl,rfl⟩
    ·rw[eo q e];exact⟨rfl,rfl,rfl⟩
   have oA: ∀q,q∈A->q≠p:=λq hq e=>hT.out.1 (e▸hq);have oB: ∀q,q∈B->q≠p:=λq hq e=>hT.out.2.1 (e▸hq);obtain⟨DF,Q9⟩: ∃DF,DF=Lp b rb m::(m,Ii Cw (LI c (.pointer (some ⟨p,0,none⟩)) clock (Po a es)).1 (LI c (.pointer (some ⟨p,0,none⟩)) clock (Po a es)).2)::OG F1 all:=⟨_,rfl⟩
   have hdA:Ft F1 A=Ft F A:=O7 λq hq=>by rw[eo q (oA q hq)];exact⟨rfl,rfl⟩
   have hdB:Ft F1 B=Ft F B:=O7 λq hq=>by rw[eo q (oB q hq)];exact⟨rfl,rfl⟩
   refine Bb (l':=DF++G) ?_ ⟨rfl,DF,⟨rb,m,F1,all,A++p::B,_,_,?_,⟨Q9,hT.nd,hT.rin,hT.sub,hT.ond,OH hT.adj (λu _=>(el u).1) (λv _=>(el v).2.1),?_,(hT.keys.del a).set _ _,λs'=>?_⟩⟩,rfl⟩
   ·have h9:=LA DF;rw[Q9] at h9;rw[Q9];exact h9
   ·show Ft F1 (A++p::B)=Ft F A++(c,(F p).dp)::Ft F B;rw[<-hdA,<-hdB];unfold Ft;rw[Aq,AJ,ep]
   ·have h1:A.map (λq=>(F1 q).sl)=A.map (λq=>(F q).sl):=By λq hq=>by rw[eo q (oA q hq)]
    have h2:B.map (λq=>(F1 q).sl)=B.map (λq=>(F q).sl):=By λq hq=>by rw[eo q (oB q hq)]
    have hn:=hT.snd;rw[Aq,AJ] at hn⊢;rw[h1,h2,ep];have kh:=(AI.nodup_iff.1 hn)
    refine AI.nodup_iff.2 (AP.2 ⟨λh=>?_,(AP.1 kh).2⟩);rcases AF.1 h with h|h
    ·obtain⟨q,hq,e⟩:=Av.1 h;exact IU q (Ai _ hq) e
    ·obtain⟨q,hq,e⟩:=Av.1 h;exact IU q (Aa _ (.tail _ hq)) e
   ·show _=(blk F1 (A++p::B) s').map _;rw[Kh,Qg hT.keys,hT.get];show(if s'=c then _ else if s'=a then none else(blk F (A++p::B) s').map _)=_;have ec:(F1 p).sl=c:=by rw[ep]
    rw[W3,W3,ec,O6 (F:=F) (F':=F1) (os:=A) λq hq=>by rw[eo q (oA q hq)],O6 (F:=F) (F':=F1) (os:=B) λq hq=>by rw[eo q (oB q hq)],NO];by_cases hc:s'=c
    ·subst hc;rw[Ad rfl,Ad rfl,H0.2 λq hq=>IU q (Ai _ hq)];rfl
    ·rw[Ab hc,Ab (show ¬c=s' from λe=>hc e.symm)];by_cases ha:s'=a
     ·subst ha;rw[Ad rfl,H0.2 uA,H0.2 uB];rfl
     ·rw[Ab ha,Ab (show ¬a=s' from λe=>ha e.symm)]
end Tr
end Go.Proofs.YtlifcingifodfaaGreat
