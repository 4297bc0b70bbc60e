/- Laws that the statement's proof leans on (joined out of several texts). -/
import Derived.Test.YtlifcingifodfaaGreatGg20
set_option maxHeartbeats 4000000
set_option linter.unusedVariables false
set_option linter.unusedSimpArgs false
namespace Go.Proofs.YtlifcingifodfaaGreat
open Tryz
open List(toArray replicate)
open Go.RowKit
set_option maxRecDepth 20000
variable{C F k b wb T n cap:Nat}{S:KT}{p:RP}{s:RL}{α:Type}{th:A4}{e:ND}
def doA(S:KT)(e:ND):(List Ia×Int)×KT:=
 if e.kd=1 then(([],(MU S e.co e.th).1),(MU S e.co e.th).2)
 else if e.kd=2\/e.kd=3\/e.kd=4 then HN S e
 else if e.kd=5\/e.kd=6 then(([],(JZ S e).1),(JZ S e).2)
 else(([],2),S)
def Jw(S:KT)(e:ND):(List Ia×Int)×KT:=((doA S e).1,if(doA S e).1.2=0 then Js (doA S e).2 else(doA S e).2)
abbrev NE(co:Int)(sl:Value):Ap:=[iV co,sl]
section
variable{G:Ac}
def KSt(F C b:Nat)(p:RP)(k:Nat)(xs:List Ia)(co:Int)(S:KT)(G:Ac):Value->Ac->Prop:=λv l'=> ∃sl cs s L,v= .agg (toArray (NE co sl))/\OwnSl 69 12 sl xs.length (Fx xs) cs/\IsK F C k S p s/\Tail L G/\l'=cs++Ax b p s S L
theorem zc{P:Program}{ro:Option Nat}{N:Nat}{E:World}{Q1:Act->World->Prop}{Q2:Exit->Act->World->Prop}{c:Code}{fr:Fr}{ds:List Deferred}{l:Ac}{j:Nat}(fx:α->Fr)(lx:α->Ac)(pre:α->Prop)(h1:BR P ro N E c (Exit.inBlock j (Exit.then (dN N E fx ds lx pre) Q2)) fr ds l)(h2: ∀x,pre x->C0 N E (Exit.then Q1 Q2) .normal (fx x) ds (lx x)):BR P ro N E c (Exit.inBlock j (Exit.then Q1 Q2)) fr ds l:=
 ⟨λa W hf hds hs=>wpIn_mono (h1.run a W hf hds hs) λe a' W' h=>by
   cases e with
   |normal=>obtain⟨y,h3,h4,h5,h6⟩:=h;exact(h2 y h3).run a' W' h4 h5 h6
   |exit i=>
    simp only[Exit.inBlock] at h⊢;by_cases hi:i=j
    ·rw[Ad hi] at h⊢;obtain⟨y,h3,h4,h5,h6⟩:=h;exact(h2 y h3).run a' W' h4 h5 h6
    ·rw[Ab hi] at h⊢;exact h
   |_=>exact h⟩
abbrev Hc(B:Nat)(co:Int)(sl:Value):Bd:=(B,.cells (toArray (NE co sl)) 32 (0,0))
abbrev Kp:Value:= .slice none 0 0
theorem Aft(e:ND)(hK:IsK F C (k+jq e) S p s)(kb:Nat)(hk:PE kb b∈G)(he:jp e):Fn prog 51 [pV kb,NW e] (Ax b p s S G) (KSt F C b p k (Jw S e).1.1 (Jw S e).1.2 (Jw S e).2 G):=by
 have mr:CF b p∈Ax b p s S G:=mR λ_ h=>h;have mk:PE kb b∈Ax b p s S G:=mG (λ_ h=>h) _ hk;have K3:=λ(G:Ac) (hk:PE kb b∈G)=>zb (G:=G) e hK kb hk he;have hpi:=λ(G:Ac) (hk:PE kb b∈G)=>y3 (G:=G) hK kb hk e.co e.th;have hca:=λ(G:Ac) (hk:PE kb b∈G)=>tA (G:=G) hK kb hk e;unfold Jw;obtain⟨R,hR⟩: ∃R,doA S e=R:=⟨_,rfl⟩
 rw[hR];unfold doA at hR;refine AN func51 ntmps51 λE=>?_;refine AQ λb3=>?_;refine AQ λb4=>?_;refine AQ λb5=>?_;refine zc (α:=RL×Ac×Value×Ac) (λ_=>[(0,pV kb),(4,pV b4),(5,pV b5)]) (λz=>Hc b5 R.1.2 z.2.2.1::Hc b4 0 Kp::Ax b p z.1 R.2 (z.2.2.2++z.2.1)) (λz=>IsK F C k R.2 p z.1/\Tail z.2.1 G/\OwnSl 69 12 z.2.2.1 R.1.1.length (Fx R.1.1) z.2.2.2) ?_ ?_
 ·by_cases h1:e.kd=1
  ·rw[Ad h1] at hR;subst hR;refine Aj ?_;refine Bs (.of_perm (Fi b p s S [Hc b5 2 Kp,Hc b4 0 Kp,P0 b3 e] G)) ?_;refine AS (Az (vs:=[pV kb,.int .i64 e.co,.int .i64 e.th]) rfl rfl (hpi _ (Aa _ hk))) ?_;rintro _ _ ⟨rfl,s1,L1,EC,DO,rfl⟩;obtain⟨L2,P3,Q0⟩:=Hi (b:=b) (p:=p) (s:=s1) (S:=(MU S e.co e.th).2) DO;refine Bs (.of_perm (l':=Hc b5 2 Kp::Hc b4 0 Kp::P0 b3 e::Ax b p s1 (MU S e.co e.th).2 L2) Q0) ?_;refine Aj ?_;exact Ep (s1,L2,Kp,[]) ⟨EC.mono Af,P3,OwnSl.nil _ _⟩ ⟨rfl,rfl,rfl,trivial⟩ (by exact AW)
  rw[Ab h1] at hR;by_cases h2:e.kd=2\/e.kd=3\/e.kd=4
  ·rw[Ad h2] at hR;rw[hR] at K3;rcases h2 with h2|h2|h2;all_goals
    refine Aj ?_;refine Bs (.of_perm (Fi b p s S [Hc b5 2 Kp,Hc b4 0 Kp,P0 b3 e] G)) ?_;refine AS (Az (vs:=[pV kb,NW e]) rfl rfl (K3 _ (Aa _ hk))) ?_;rintro _ _ ⟨sl,cs,s1,L1,rfl,Gc,EC,DO,rfl⟩;obtain⟨L2,P3,Q0⟩:=Hi (b:=b) (p:=p) (s:=s1) (S:=R.2) DO;obtain⟨pp,cap,rfl⟩:=Gc.shape;refine Bs (.of_perm (l':=Hc b5 2 Kp::Hc b4 0 Kp::P0 b3 e::Ax b p s1 R.2 (cs++L2)) ((Q0.append_left cs).trans (by unfold Ax;exact BX))) ?_;refine Aj ?_;exact Ep (s1,L2,_,cs) ⟨EC,P3,Gc⟩ ⟨rfl,rfl,rfl,trivial⟩ (by exact AW)
  rw[Ab h2] at hR;by_cases h3:e.kd=5\/e.kd=6
  ·rw[Ad h3] at hR;subst hR;rcases h3 with h3|h3;all_goals
    refine Aj ?_;refine Bs (.of_perm (Fi b p s S [Hc b5 2 Kp,Hc b4 0 Kp,P0 b3 e] G)) ?_;refine AS (Az (vs:=[pV kb,NW e]) rfl rfl (hca _ (Aa _ hk))) ?_;rintro _ _ ⟨rfl,s1,L1,EC,DO,rfl⟩;obtain⟨L2,P3,Q0⟩:=Hi (b:=b) (p:=p) (s:=s1) (S:=(JZ S e).2) DO;refine Bs (.of_perm (l':=Hc b5 2 Kp::Hc b4 0 Kp::P0 b3 e::Ax b p s1 (JZ S e).2 L2) Q0) ?_;refine Aj ?_;exact Ep (s1,L2,Kp,[]) ⟨EC.mono Af,P3,OwnSl.nil _ _⟩ ⟨rfl,rfl,rfl,trivial⟩ (by exact AW)
  rw[Ab h3] at hR;subst hR;refine Aj ?_;exact Ep (s,G,Kp,[]) ⟨hK.mono Af,.nil,OwnSl.nil _ _⟩ ⟨rfl,rfl,rfl,trivial⟩ (by exact AW)
 rintro⟨s1,L1,sl,cs⟩ ⟨EC,DO,Gc⟩;obtain⟨pp,cap,rfl⟩:=Gc.shape;dsimp only;have GQ:CF b p∈Ax b p s1 R.2 (cs++L1):=mR λ_ h=>h;have mk1:PE kb b∈Ax b p s1 R.2 (cs++L1):=mG (λ_ h=>h) _ (Aa _ (by obtain⟨X,rfl⟩:=DO;exact Aa _ hk));by_cases h0:R.1.2=0
 case neg=>rw[Ab h0];refine Aj ?_;exact AU (vs:=[.agg (toArray (NE R.1.2 (.slice pp R.1.1.length cap)))]) [] _ rfl .refl (Cq rfl (.tail _ (.head _)) (As.LSub.of_all (n:=2) (NE R.1.2 (.slice pp R.1.1.length cap)) rfl) .nil) (.drop (.drop (.of_perm (Fi b p s1 R.2 cs L1).symm))) ⟨_,cs,s1,L1,rfl,Gc,EC,DO,rfl⟩
 rw[Ad h0];refine Aj ?_;refine Gi ?_;intro S2 s2 L2 hS2 FW FN HV;obtain⟨L3,hL3,XY⟩:=Hi (b:=b) (p:=p) (s:=s2) (S:=S2) FN;refine Aj ?_;exact AU (vs:=[.agg (toArray (NE R.1.2 (.slice pp R.1.1.length cap)))]) [] _ rfl .refl (Cq rfl (.tail _ (.head _)) (As.LSub.of_all (n:=2) (NE R.1.2 (.slice pp R.1.1.length cap)) rfl) .nil) (.drop (.drop (.of_perm XY))) ⟨_,cs,s2,L3,rfl,Gc,by rw[<-hS2];exact FW,hL3.trans DO,by rw[<-hS2]⟩
end
abbrev ntZ:Ia:=⟨0,0,0,msZ,0,false,0,0,false⟩
theorem dd(v:Value)(xs:List Ia)(cs l:Ac)(ho:OwnSl 69 12 v xs.length (Fx xs) cs)(hs: ∀c,c∈cs->c∈l)(hx:xs.length<=1000000):
 Fn prog 52 [v] l λr l'=> ∃c2,OwnSl 69 12 r xs.length (Fx xs) c2/\l'=c2++l:=by
 obtain⟨Eh,h⟩:=ho;refine AN func52 ntmps52 λE=>?_;rcases h with⟨rfl,h0,rfl⟩|⟨gb,cap,sp,rfl,rfl,ZW,UV,NP⟩
 ·refine Aj ?_;refine Bb .refl ?_;exact⟨[],⟨Eh,.inl ⟨rfl,h0,rfl⟩⟩,rfl⟩
 ·have hg:=hs _ Ak;refine Aj ?_;refine AS li ?_;rintro _ _ ⟨bl,So,rfl,rfl⟩;refine Aj ?_;apply jS
  ·apply GG (e:=69) (k:=12) (xs:=[]) (cs:=[(bl,.cells #[] 69 (0,0))]) (F:=l) (news:=Fx xs) (zs:=Si ntZ) (cl:=toArray (Fx xs++sp))
   ·rfl
   ·rfl
   ·rfl
   ·exact OwnSl.empty
   ·exact .tail _ hg
   ·intro j u hj;have C9:=(Ay.1 hj).1;rw[BF,AE,AH C9];exact hj
   ·exact Eh
   ·exact ZC xs
   ·unfold maxLen;omega
   ·omega
  ·rfl
  ·rfl
  ·rfl
  rintro v' _ ⟨c2,Fg,rfl⟩;rw[Ag,BF] at Fg;have Jz:v'.oneCell'=true:=Fg.one;refine Aj ?_;refine Bb .refl ?_;exact⟨c2,Fg,rfl⟩
def StOwn:List (Int×List Ia)->Ap->Ac->Prop
 |[],rows,cs=>rows=[]/\cs=[]
 |x::r,rows,cs=> ∃v c rows' cs',OwnSl 69 12 v x.2.length (Fx x.2) c/\rows=NE x.1 v++rows'/\cs=c++cs'/\StOwn r rows' cs'
theorem StOwn.snoc: ∀{st:List (Int×List Ia)} {rows:Ap} {cs:Ac} {co:Int} {ns:List Ia} {v:Value} {c:Ac},StOwn st rows cs->OwnSl 69 12 v ns.length (Fx ns) c->StOwn (st++[(co,ns)]) (rows++NE co v) (cs++c)
 |[],_,_,co,ns,v,c,⟨h1,h2⟩,ho=>by subst h1 h2;exact⟨v,c,[],[],ho,by simp,by simp,rfl,rfl⟩
 |x::r,_,_,co,ns,v,c,⟨w,d,rows',cs',h1,h2,h3,h4⟩,ho=>⟨w,d,_,_,h1,by rw[h2,Am],by rw[h3,Am],h4.snoc ho⟩
abbrev de(wb kb:Nat)(vt vs:Value):Bd:=(wb,.cells (toArray [pV kb,vt,vs]) 120 (0,0))
structure IsWo(F C k:Nat)(S:KT)(th:A4)(st:List (Int×List Ia))(wb:Nat)(l:Ac):Prop where
 ex: ∃b kb p s vt vs ct cs rows cn,IsK F C k S p s/\OwnSl 3 1 vt th.length (th.map CU) ct/\OwnSl 32 2 vs st.length rows cs/\StOwn st rows cn/\st.length<=100000/\l=de wb kb vt vs::PE kb b::(ct++(cs++(cn++Ax b p s S [])))
theorem zd(b:Nat)(p:RP)(s:RL)(S:KT)(A G:Ac):(A++(Ax b p s S []++G)).Perm (Ax b p s S (A++G)):=by unfold Ax;exact BX
theorem Afu(b:Nat)(p:RP)(s:RL)(S:KT)(c2 A X G:Ac):Keep (c2++Ax b p s S (X++(A++G))) (A++(c2++(Ax b p s S []++G))):=by unfold Ax;exact A8 X
theorem Acu(hK:IsK F C (k+jq e) S p s)(kb:Nat)(he:jp e)(A G:Ac)(hk:PE kb b∈A):
 Fn prog 51 [pV kb,NW e] (A++(Ax b p s S []++G)) λv l'=> ∃sl c2 s1,v= .agg (toArray (NE (Jw S e).1.2 sl))/\OwnSl 69 12 sl (Jw S e).1.1.length (Fx (Jw S e).1.1) c2/\IsK F C k (Jw S e).2 p s1/\l'=A++(c2++(Ax b p s1 (Jw S e).2 []++G)):=
 Fn.re (.of_perm (zd ..)) (Aft e hK kb (Ai _ hk) he) λv l' ⟨sl,c2,s1,L,h1,h2,h3,⟨X,h4⟩,h5⟩=>⟨_,by rw[h5,h4];exact Afu ..,sl,c2,s1,h1,h2,h3,rfl⟩
theorem Afv(hK:IsK F C (k+jq e) S p s)(kb:Nat)(he:jp e)(X:Ac)(w:Bd)(ct cs cn G:Ac):
 Fn prog 51 [pV kb,NW e] (X++(w::PE kb b::(ct++(cs++(cn++(Ax b p s S []++G)))))) λv l'=> ∃sl c2 s1,v= .agg (toArray (NE (Jw S e).1.2 sl))/\OwnSl 69 12 sl (Jw S e).1.1.length (Fx (Jw S e).1.1) c2/\IsK F C k (Jw S e).2 p s1/\l'=X++(w::PE kb b::(ct++(cs++(cn++(c2++(Ax b p s1 (Jw S e).2 []++G)))))):=by
 have h:=Acu (b:=b) hK kb he (X++w::PE kb b::(ct++(cs++cn))) G (by simp);simp only[Am,Ae] at h;exact h
abbrev ntK:List (Option IntKind):=[some .i64,some .i64,some .u64,some .u64,some .u64,some .u64,some .u64,some .u64,none,some .i64,some .u64,none]
instance:EQ prog 69 ntK:=⟨BA⟩
theorem Acv(x:Ia):AllK ntK (Si x):=IA (by rfl)
theorem tK(x y:Ia)(h:Si x=Si y):x=y:=by obtain⟨a1,a2,a3,⟨a4,a5,a6,a7⟩,a8,a9,b1,b2,b3⟩:=x;obtain⟨c1,c2,c3,⟨c4,c5,c6,c7⟩,c8,c9,d1,d2,d3⟩:=y;simp only[Si,Co,Value.int.injEq,Value.bool.injEq,Io,Jg] at h;obtain⟨h1,h2,h3,h4,h5,h6,h7,h8,h9,U7,jR,kK⟩:=h;subst h1 h2 h3 h4 h5 h6 h7 h8 h9 U7 jR kK;rfl
theorem Vk[DecidableEq α](enc:α->Ap)(M2: ∀x y,enc x=enc y->x=y)(hk: ∀x,AllK ntK (enc x))(v u:Value)(xs ys:List α)(l:Ac)(h1:RowSl l v 12 enc xs)(h2:RowSl l u 12 enc ys)(hx:xs.length<=1000000):
 Fn prog 34 [v,u] l λr l'=>r= .bool (decide (xs=ys))/\l'=l:=by
 obtain⟨a,ca,rfl,h1⟩:=h1;obtain⟨a',ca',rfl,h2⟩:=h2;refine AN func34 ntmps34 λE=>?_;exact YT
theorem Afx(c5 c4 c3 w k:Bd)(cN ct cs cn cS A G:Ac)(bl:Bd):(bl::(cN++(c5::c4::c3::w::k::(ct++(cs++(cn++(cS++(A++G)))))))).Perm (bl::((cN++[c5,c4,c3,w,k])++(cs++(ct++(cn++(cS++(A++G))))))):=BX
theorem Afy(c5 c4 c3 w k:Bd)(cN ct cs cn cS A G:Ac):((cN++[c5,c4,c3,w,k])++(cs++(ct++(cn++(cS++(A++G)))))).Perm (c5::c4::c3::w::k::(ct++(cs++((cn++cN)++(cS++(A++G)))))):=BX
theorem Afz(c5 c4 c3 w k:Bd)(ct cs cn cS A G:Ac):Keep (c5::c4::c3::w::k::(ct++(cs++(cn++(cS++(A++G)))))) (cS++((w::k::(ct++(cs++(cn++A))))++G)):=A8 [c5,c4,c3]
theorem QY{st:List (Int×List Ia)}{l:Ac}(e:ND)(he:jp e)(hW:IsWo F C (k+jq e) S th st wb l)(hn:st.length+1<=100000)(G:Ac)(hx:(Jw S e).1.1.length<=1000000):
 Fn prog 18 [pV wb,NW e] (l++G) λv l'=> ∃sl cs lw,v= .agg (toArray (NE (Jw S e).1.2 sl))/\OwnSl 69 12 sl (Jw S e).1.1.length (Fx (Jw S e).1.1) cs/\IsWo F C k (Jw S e).2 th (st++[((Jw S e).1.2,(Jw S e).1.1)]) wb lw/\l'=cs++(lw++G):=by
 obtain⟨b,kb,p,s,vt,vs,ct,cs,rows,cn,hK,ht,hs,K3,_,rfl⟩:=hW.ex;have hvt:=ht.one;have hvs:=hs.one;obtain⟨⟨⟨ns,co⟩,S'⟩,hR⟩: ∃R,Jw S e=R:=⟨_,rfl⟩
 have qL:=λX=>Afv (b:=b) hK kb he X (de wb kb vt vs) ct cs cn G;rw[hR] at qL hx⊢;dsimp only at qL hx⊢;rw[show(de wb kb vt vs::PE kb b::(ct++(cs++(cn++Ax b p s S []))))++G=de wb kb vt vs::PE kb b::(ct++(cs++(cn++(Ax b p s S []++G)))) by simp];refine AN func18 ntmps18 λE=>?_;refine AQ λb3=>?_;refine AQ λb4=>?_;refine QP (α:=Value×Ac×RL×Nat) (λz=>[(0,pV wb),(4,pV b4),(5,pV z.2.2.2)]) (λz=>Hc z.2.2.2 co z.1::Hc b4 0 Kp::P0 b3 e::de wb kb vt vs::PE kb b::(ct++(cs++(cn++(z.2.1++(Ax b p z.2.2.1 S' []++G)))))) (λz=>OwnSl 69 12 z.1 ns.length (Fx ns) z.2.1/\IsK F C k S' p z.2.2.1) ?_ ?_
 ·refine KP [(0,true),(1,true),(2,true),(3,true),(4,true),(5,false),(6,false),(7,false)] [[],[0],[0,1],[0,1,2],[],[0,1,2,3,4],[],[0,1,2,3,4,5,6]] 5 6 ([P0 b3 e,de wb kb vt vs]) BA BA GH ((jY BW BW)) ?_;refine BM ?_;refine Nd [(6,false),(5,false),(7,false)] GH (List.Perm.swap _ _ _) BA ?_ ?_
  ·refine CM (Az (vs:=[pV kb,NW e]) rfl rfl (qL [Hc b4 0 Kp,P0 b3 e])) rfl rfl rfl ?_ ?_
   ·rintro _ _ ⟨sl,c2,s1,rfl,_,_,rfl⟩;exact jY (by simp) (by simp)
   rintro _ _ ⟨sl,c2,s1,rfl,Gc,EC,rfl⟩;simp only[Ae,Ag];refine CM e_alloc rfl rfl rfl ?_ ?_
   ·rintro _ _ ⟨_,_,_,rfl⟩ c hc;exact .tail _ (jY BW BW c hc)
   rintro _ _ ⟨b5,_,rfl,rfl⟩;obtain⟨pp,cap,rfl⟩:=Gc.shape;refine BM ?_;refine Aj ?_;exact Ep (_,c2,s1,b5) ⟨Gc,EC⟩ ⟨rfl,rfl,rfl,trivial⟩ .refl
  ·refine CM e_alloc rfl rfl rfl ?_ ?_
   ·rintro _ _ ⟨_,_,_,rfl⟩ c hc;exact .tail _ (jY BW BW c hc)
   rintro _ _ ⟨b5,_,rfl,rfl⟩;refine CM (Az (vs:=[pV kb,NW e]) rfl rfl (qL [Hc b5 0 Kp,Hc b4 0 Kp,P0 b3 e])) rfl rfl rfl ?_ ?_
   ·rintro _ _ ⟨sl,c2,s1,rfl,_,_,rfl⟩;exact jY (by simp) (by simp)
   rintro _ _ ⟨sl,c2,s1,rfl,Gc,EC,rfl⟩;simp only[Ae,Ag];obtain⟨pp,cap,rfl⟩:=Gc.shape;refine BM ?_;refine Aj ?_;exact Ep (_,c2,s1,b5) ⟨Gc,EC⟩ ⟨rfl,rfl,rfl,trivial⟩ .refl
 rintro⟨sl,c2,s1,b5⟩ ⟨Gc,EC⟩;dsimp only;obtain⟨pp,cap,rfl⟩:=Gc.shape;refine Aj ?_;refine CA (Cu [9,11,12,15] 0 16) ?_;refine CE ?_;refine Ij (Az (vs:=[.slice pp ns.length cap]) rfl rfl (dd _ ns c2 _ Gc (λc hc=>by simp[hc]) hx)) (by rintro _ _ ⟨c3,_,rfl⟩ c hc;exact Aa _ hc) ?_;rintro vN _ ⟨cN,hoN,rfl⟩;obtain⟨pN,capN,rfl⟩:=hoN.shape;refine CE ?_;refine Ij (FE (ws:=NE co (.slice pN ns.length capN)) (k:=2) (zs:=NE 0 Kp) rfl rfl rfl AX AX) (by rintro _ _ ⟨_,_,_,rfl⟩ c hc;exact .tail _ hc) ?_;rintro _ _ ⟨bl,_,rfl,rfl⟩;refine CE ?_;refine LJ (OpE.re (.of_perm (Afx _ _ _ _ _ cN ct cs cn c2 _ G _)) (Hz (k:=2) (X:=cN++[_,_,_,_,_]) (cs:=cs) (xs:=rows) (ws:=NE co (.slice pN ns.length capN)) (zs:=NE 0 Kp) (n:=st.length) rfl rfl rfl hs rfl (by simp[Value.oneCell']) Af AX) (K':=λv' l'=> ∃c3,OwnSl 32 2 v' (st.length+1) (rows++NE co (.slice pN ns.length capN)) c3/\l'=Hc b5 co (.slice pp ns.length cap)::Hc b4 0 Kp::P0 b3 e::de wb kb vt vs::PE kb b::(ct++(c3++((cn++cN)++(c2++(Ax b p s1 S' []++G)))))) λv' l' ⟨c3,h1,h2⟩=>⟨_,by rw[h2];exact .of_perm (Afy ..),c3,h1,rfl⟩) ?_;rintro v' _ ⟨c3,ho3,rfl⟩;obtain⟨p3,cap3,rfl⟩:=ho3.shape;refine CE ?_;refine Aj ?_;exact AU (vs:=[.agg (toArray (NE co (.slice pp ns.length cap)))]) [] _ rfl .refl (Cq rfl (.tail _ (.head _)) (As.LSub.of_all (n:=2) (NE co (.slice pp ns.length cap)) rfl) .nil) (Afz ..) ⟨_,c2,_,rfl,Gc,⟨b,kb,p,s1,vt,_,ct,c3,_,cn++cN,EC,ht,by rw[Ah];exact ho3,K3.snoc hoN,by rw[Ah];exact hn,rfl⟩,rfl⟩
set_option maxRecDepth 100000
def XD(F T:Nat)(sh:Bool):A4:=(Wi F T sh).map OwT.th
def I4(F C T:Nat)(sh:Bool):KT:=⟨(Lw F T sh).A,(Lw F T sh).H,(Lw F T sh).N,(Lw F T sh).T,(Lw F T sh).Q,(Lw F T sh).E,replicate (F*8) 0,replicate C Z0,replicate C 0⟩
def twB(t:Th.ThT):Bool:=decide (0<=t.va)&&decide (t.va<18446744073709551616)&&decide (0<=t.vl)&&decide (t.vl<18446744073709551616)&&Th.mayH t
def UJ(F T:Nat)(sh:Bool):Bool:=
 let R:=Lw F T sh
 decide (R.T.length<=3)&&R.T.all twB&&R.E.all (λx=>x.2.1.isEmpty)&&R.A.os.all (λo=>decide (o.kd≠2)||(decide (1<=o.sz)&&decide (o.sz<=4)))&&decide ((XD F T sh).length=T)
theorem o4:((List.range 4).all λT=>(List.range 65).all λF=>T==0||decide (F<11*T)||(UJ F T false&&UJ F T true))=true:=by decide+kernel
theorem f6(sh:Bool)(DO:1<=T)(hT:T<=3)(hF:11*T<=F)(Ta:F<=64):UJ F T sh=true:=by
 have h:=A5.1 (A5.1 o4 T (Dz.2 Af)) F (Dz.2 Af);simp only[Es,AV,JL,Bk] at h;rcases h with(h|h)|⟨h1,h2⟩
 ·omega
 ·omega
 ·cases sh
  ·exact h1
  ·exact h2
theorem df(n:Nat):dY n=(replicate (n*8) (0:Int)).map Be:=by
 rw[List.map_replicate];unfold dY
 first
  |rfl
  |(induction n with
    |zero=>rfl
    |succ n ih=>simp[BL,F7,ih];rfl)
theorem o5{sh:Bool}(DO:1<=T)(hT:T<=3)(hF:11*T<=F)(Ta:F<=64)(h:IsRl F C 60 (Lw F T sh) p s):IsK F C 840 (I4 F C T sh) p s:=by
 have Dm:=f6 sh DO hT hF Ta;unfold UJ at Dm;simp only[AV,Bk,A5,List.isEmpty_iff,Es] at Dm;obtain⟨⟨⟨⟨h1,h2⟩,h3⟩,h4⟩,h5⟩:=Dm;obtain⟨m1,m2,gb,m3⟩:=h.mem;exact{
  mem:=⟨gb,m1,m2,by simp[I4],λw hw=>by rw[El hw];exact JC,by rw[m3];unfold I4 Ug;dsimp only;rw[<-df]⟩
  co:=h.co
  kl:=by simp[I4]
  ar:=h.ar
  an:=h.an
  rad:=λo ho hk=>by
   have:=h4 o ho;rcases this with h|⟨h,h'⟩
   ·exact absurd hk h
   ·exact⟨h,h'⟩
  ho:=h.ho
  inv:=⟨60,Af,h.inv⟩
  giv:=λn hn=>by have:=h.giv n hn;exact⟨this.1,by have:=this.2;show(Lw F T sh).N.given n+840<=900;omega⟩
  th:=h.th
  tl:=by show(Lw F T sh).T.length+840<=900;omega
  tw:=λt ht=>by have:=h2 t ht;unfold twB at this;simp only[AV,Bk] at this;obtain⟨⟨⟨⟨a1,a2⟩,a3⟩,a4⟩,a5⟩:=this;exact⟨⟨⟨a1,a2⟩,⟨a3,a4⟩⟩,a5⟩
  qu:=h.qu
  ql:=λn hn=>by have:=h.ql n hn;show((Lw F T sh).Q n).length+840<=900;omega
  en:=h.en
  el:=λx hx=>by rw[h3 x hx];decide
  eo:=λt x y hx hy htx=>by rw[h3 x hx] at htx;cases htx
  ul:=by simp[I4]
  cu:=by have:=h.cu;show OwnSl 3 1 p.v C ((replicate C (0:Int)).map CU) s.V;rw[List.map_replicate];exact this
  c1:=h.c1}
abbrev cfA(F C T:Int)(sh:Bool):Value:= .agg (toArray [.int .i64 F,.int .i64 C,.int .i64 T,.bool sh])
def AfA(F C T:Int)(sh:Bool)(l:Ac):Value->Ac->Prop:=λv l'=>
 (NT F C T=false/\v= .tuple #[.pointer none,iV 3]/\l'=l)\/(NT F C T=true/\ ∃wb lw,v= .tuple #[pV wb,iV 0]/\IsWo F.toNat C.toNat 840 (I4 F.toNat C.toNat T.toNat sh) (XD F.toNat T.toNat sh) [] wb lw/\l'=lw++l)
theorem AfB(b:Nat)(p:RP)(s:RL)(S:KT)(c w k:Bd)(cs X l:Ac):Keep (w::k::(cs++Ax b p s S (X++c::l))) ((w::k::(cs++([]++([]++Ax b p s S []))))++l):=by unfold Ax;exact A8 (c::X)
theorem ZJ(F C T:Int)(sh:Bool)(l:Ac):Fn prog 47 [cfA F C T sh] l (AfA F C T sh l):=by
 refine AN func47 ntmps47 λE=>?_;refine Aj ?_;refine AS (CH rfl) ?_;rintro _ _ ⟨b1,_,rfl,rfl⟩;refine Aj ?_;cases N8:NT F C T with
 |false=>refine AS (Az rfl rfl (sG F C T sh N8 _)) ?_;rintro _ _ ⟨rfl,rfl⟩;refine Aj ?_;exact CT _ .refl (.drop .refl) (.inl ⟨N8,rfl,rfl⟩)
 |true=>
  obtain⟨DO,hT,hC1,hC,hF,Ta⟩:1<=T/\T<=3/\1<=C/\C<=3/\11*T<=F/\F<=64:=by simp[NT] at N8;omega
  obtain⟨T,rfl⟩: ∃n:Nat,T=n:=⟨T.toNat,Af⟩
  obtain⟨F,rfl⟩: ∃n:Nat,F=n:=⟨F.toNat,Af⟩
  obtain⟨C,rfl⟩: ∃n:Nat,C=n:=⟨C.toNat,Af⟩
  refine AS (Az rfl rfl (sI F C T sh Af Af Af Af Af Af _)) ?_;rintro _ _ ⟨B,b,v14,p,s,X,cs,rfl,hR,ho,rfl⟩;have hK:=o5 Af Af Af Af hR;have Jz:v14.oneCell'=true:=ho.one;have Dm:=f6 sh (F:=F) (T:=T) Af Af Af Af;have Eh:(XD F T sh).length=T:=by unfold UJ at Dm;simp only[AV,Bk] at Dm;exact Dm.2
  obtain⟨p14,cap14,rfl⟩:=ho.shape;refine AQ λbw=>?_;refine CT (vs:=[pV bw,iV 0]) _ .refl (l':=(de bw B (.slice p14 T cap14) Kp::PE B b::(cs++([]++([]++Ax b p s (I4 F C T sh) []))))++l) ?_ (.inr ⟨N8,bw,_,rfl,?_,rfl⟩)
  ·exact AfB b p s (I4 F C T sh) _ _ _ cs X l
  ·simp only[A0];exact⟨b,B,p,s,.slice p14 T cap14,Kp,cs,[],[],[],hK,by rw[Eh];exact ho,OwnSl.nil _ _,⟨rfl,rfl⟩,by decide,rfl⟩
theorem f9(S:KT)(t:Int)(x:Cs)(m:OP)(gv:Int)(cl:Bool):(Jv S t x m gv cl).1.1.length<=2:=by
 unfold Jv sendH
 repeat' split
 all_goals simp
theorem tL(S:KT)(t:Int)(x:Cs)(gv:Int):(OT S t x gv).1.1.length<=2:=by
 unfold OT recvH
 repeat' split
 all_goals simp
 all_goals split<;>simp
theorem o6(S:KT)(t:Int)(m:OP):(Lx S t m).1.1.length<=2:=by
 unfold Lx replyH
 repeat' split
 all_goals simp
 all_goals split<;>simp
theorem o7(S:KT)(t:Th.ThT)(x:P5)(f:vK):(Ly S t x f).1.length<=3:=by
 unfold Ly
 split
 ·simp
 ·have:=f9 (DD S (NC t x)) t.id (t.id,2) (cR f) 4096 true;simp only[Bu];omega
theorem dg(S:KT)(core:Int)(x:P5):(Mr S core x).1.1.length<=3:=by
 unfold Mr
 split
 ·simp
 ·unfold doR
  split
  ·exact o7 ..
  ·simp
theorem ze(S:KT)(core:Int):(Rx S core).1.1.length<=3:=by
 unfold Rx
 split
 ·simp
 ·split
  ·simp
  ·exact dg ..
theorem tN{t:Int}{o:Jt}{x:Cs}{r:(List Ia×Int)×KT}(h:PD S t o x=some r):r.1.1.length<=3:=by
 unfold PD at h;by_cases h1:o.op=14\/o.op=15
 ·rw[Ad h1] at h;obtain rfl:=AZ h;exact Fa (f9 ..)
 rw[Ab h1] at h;by_cases h2:o.op=16
 ·rw[Ad h2] at h;obtain rfl:=AZ h;exact Fa (tL ..)
 rw[Ab h2] at h;by_cases h3:o.op=17
 ·rw[Ad h3] at h;obtain rfl:=AZ h;exact Fa (o6 ..)
 rw[Ab h3] at h;cases h
theorem zf(S:KT)(t:Int)(o:Jt)(x y:Cs):(ordE S t o x y).1.1.length<=3:=by
 unfold ordE;cases h:PD S t o x with
 |some r=>exact tN h
 |none=>
  dsimp only;by_cases h1:(Mg S t o x y).1=0
  ·rw[Ad h1];exact(by decide:1<=3)
  ·rw[Ab h1];exact(by decide:0<=3)
theorem zg(S:KT)(t:Int)(o:Jt):(Pr S t o).1.1.length<=3:=by
 unfold Pr;by_cases h1:MY S t=false\/¬(Dq S t).st=1
 ·rw[Ad h1];exact(by decide:0<=3)
 rw[Ab h1];by_cases h2:(Ib o.op).1=true/\¬(H9 S t o.a).2=0
 ·rw[Ad h2];exact(by decide:0<=3)
 rw[Ab h2];by_cases h3:(Ib o.op).2=true/\¬(H9 S t o.b).2=0
 ·rw[Ad h3];exact(by decide:0<=3)
 rw[Ab h3];exact zf ..
theorem tP(S:KT)(t:Int)(c:OU):(R3 S t c).1.1.length<=3:=by
 unfold R3;by_cases h1:(Ct c).2=0
 ·rw[Ad h1];by_cases h2:(Pr S t (Ct c).1).1.2=0
  ·rw[Ad h2];exact zg ..
  ·rw[Ab h2];exact(by decide:1<=3)
 ·rw[Ab h1];exact(by decide:1<=3)
theorem tQ(S:KT)(e:ND):(HN S e).1.1.length<=3:=by
 unfold HN;by_cases h1:e.co<0\/(S.K.length:Int)<=e.co
 ·rw[Ad h1];exact(by decide:0<=3)
 rw[Ab h1];by_cases h2:MY S (Ee S.U e.co)=false
 ·rw[Ad h2];exact(by decide:0<=3)
 rw[Ab h2];by_cases h3:(Dq S (Ee S.U e.co)).hs=true
 ·rw[Ad h3];exact ze ..
 rw[Ab h3];by_cases h4:e.kd=3
 ·rw[Ad h4];exact dg ..
 rw[Ab h4];by_cases h5:e.kd=4
 ·rw[Ad h5];exact dg ..
 rw[Ab h5];exact tP ..
theorem ZK(S:KT)(e:ND):(Jw S e).1.1.length<=3:=by
 unfold Jw doA;dsimp only;by_cases h1:e.kd=1
 ·rw[Ad h1];exact(by decide:0<=3)
 rw[Ab h1];by_cases h2:e.kd=2\/e.kd=3\/e.kd=4
 ·rw[Ad h2];exact tQ ..
 rw[Ab h2];by_cases h3:e.kd=5\/e.kd=6
 ·rw[Ad h3];exact(by decide:0<=3)
 rw[Ab h3];exact(by decide:0<=3)
def o8(S:KT):List ND->List (Int×List Ia)
 |[]=>[]
 |e::r=>((Jw S e).1.2,(Jw S e).1.1)::o8 (Jw S e).2 r
def AfC(S:KT)(es:List ND):KT:=es.foldl (λS e=>(Jw S e).2) S
theorem zh(e:ND):jq e<=8:=by unfold jq;split<;>omega
set_option maxRecDepth 20000
theorem o9: ∀{rows:List (Ap)},(∀r,r∈rows-> ∃x:ND,r=Xv x/\jp x)-> ∃xs:List ND,rows=xs.map Xv/\ ∀x,x∈xs->jp x
 |[],_=>⟨[],rfl,λx hx=>by cases hx⟩
 |r::rows,h=>by
  obtain⟨x,hx,hg⟩:=h r Ak;obtain⟨xs,PG,hgs⟩:=o9 λr' UR=>h r' (An _ UR);exact⟨x::xs,by rw[hx,PG];rfl,λy hy=>by
   rcases At.1 hy with rfl|hy
   ·exact hg
   ·exact hgs y hy⟩
theorem NF{a:Int}(h:(Lit.int .u64 a).wf=true):Lt a:=by simp[Lit.wf,IntKind.min,IntKind.max,IntKind.signed,IntKind.bits] at h;exact⟨Af,Af⟩
abbrev evK:List (Option IntKind):=[some .i64,some .i64,some .i64,some .u64,some .u64,some .u64,some .u64,some .u64,some .u64,some .u64,some .u64,some .u64,some .i64,some .i64,some .i64]
theorem pa{W:World}{a:Option Addr}{rows:List (Ap)}(h:WC evK W a n cap rows): ∃es:List ND,es.length=n/\aY (Qk W) a n 15 (es.map Xv)/\ ∀x,x∈es->jp x:=by
 obtain⟨es,hx,hg⟩:=o9 (rows:=rows) λr hr=>by obtain⟨_,_,rfl,⟨k,rfl,_⟩,_,_,rfl,⟨co,rfl,_⟩,_,_,rfl,⟨th,rfl,_⟩,_,_,rfl,⟨op,rfl,w0⟩,_,_,rfl,⟨a0,rfl,w1⟩,_,_,rfl,⟨a1,rfl,w2⟩,_,_,rfl,⟨a2,rfl,w3⟩,_,_,rfl,⟨a3,rfl,w4⟩,_,_,rfl,⟨a4,rfl,w5⟩,_,_,rfl,⟨a5,rfl,w6⟩,_,_,rfl,⟨va,rfl,w7⟩,_,_,rfl,⟨vl,rfl,w8⟩,_,_,rfl,⟨st,rfl,_⟩,_,_,rfl,⟨wy,rfl,_⟩,_,_,rfl,⟨pg,rfl,_⟩,rfl⟩:=h.all r hr;exact⟨⟨k,co,th,⟨op,a0,a1,a2,a3,a4,a5⟩,va,vl,st,wy,pg⟩,rfl,⟨NF w0,NF w1,NF w2,NF w3,NF w4,NF w5,NF w6⟩,NF w7,NF w8⟩
 refine⟨es,?_,?_,hg⟩
 ·have:=h.size;rw[hx] at this;simpa using this
 ·rw[<-hx];exact rK h AX
theorem LSet.mid: ∀(A C:Ap) (x v:Value) {k:Nat},A.length=k->LSet (A++x::C) k v (A++v::C)
 |[],C,x,v,_,h=>by subst h;exact .zero
 |a::A,C,x,v,_,h=>by subst h;exact .succ (LSet.mid A C x v rfl)
theorem LGet.mid: ∀(A C:Ap) (v:Value) {k:Nat},A.length=k->LGet (A++v::C) k v
 |[],C,v,_,h=>by subst h;exact .zero
 |a::A,C,v,_,h=>by subst h;exact .succ (LGet.mid A C v rfl)
theorem LSetA.all: ∀(B vs C:Ap),B.length=vs.length->LSetA (B++C) 0 vs (vs++C)
 |[],[],C,_=> .done
 |b::B,v::vs,C,h=> .put (LSetA.all B vs C (by simpa using h))
 |[],v::vs,C,h=>by cases h
 |b::B,[],C,h=>by cases h
theorem LSetA.mid: ∀(A B vs C:Ap) {k:Nat},A.length=k->B.length=vs.length->LSetA (A++(B++C)) k vs (A++(vs++C))
 |[],B,vs,C,_,h,h2=>by subst h;exact LSetA.all B vs C h2
 |a::A,B,vs,C,_,h,h2=>by subst h;exact .skip (LSetA.mid A B vs C rfl h2)
def U4(N:As.ASt):Ap:=(List.range 80).map N.at
theorem Gj(N:As.ASt):(U4 N).length=80:=by simp[U4]
theorem jr(N:As.ASt):N.cells.extract 0 80=toArray (U4 N):=by
 apply DI;intro j;rw[ES];unfold U4;simp only[As.ASt.cells_size,AE,A6];by_cases h:j<80
 ·rw[Ad Af,BF,As.ASt.cells_get N j Af,Fh h];rfl
 ·rw[Ab Af,Bg (by simp;omega)];rfl
theorem QZ(N:As.ASt): ∀v,v∈U4 N->v.oneCell'=true:=by
 intro v hv;obtain⟨j,hj,rfl⟩:=Av.1 hv;unfold As.ASt.at
 repeat' split
 all_goals rfl
structure VwL where
 vo:Value
 vc:Value
 vt:Value
 vh:Value
 vr:Value
 vq:Value
 co:Ac
 cc:Ac
 ct:Ac
 ch:Ac
 cr:Ac
 cq:Ac
abbrev N3(vo vc vt vh:Value)(N:As.ASt)(vr vq:Value):Ap:=vo::vc::vt::vh::(U4 N++[vr,vq])
def tS(X:Nat->A4):A4:=Qu.allX X (Qu.fallT (Qu.neX X) 0)
structure IsVwK(C:Nat)(S:KT)(x:VwL):Prop where
 o:OwnSl 100 9 x.vo S.A.os.length (Ar.ocs S.A.os) x.co
 c:OwnSl 131 10 x.vc (DM S.H.1).length (Oz (DM S.H.1)) x.cc
 t:OwnSl 129 3 x.vt S.H.2.length (Tr.ncs S.H.2) x.ct
 h:OwnSl 79 24 x.vh S.T.length (Th.thcs S.T) x.ch
 r:OwnSl 3 1 x.vr C (S.U.map CU) x.cr
 q:OwnSl 3 1 x.vq (tS S.Q).length ((tS S.Q).map CU) x.cq
abbrev qm(B:Nat)(vo vc vt vh:Value)(N:As.ASt)(vr vq:Value):Bd:=(B,.cells (toArray (N3 vo vc vt vh N vr vq)) 52 (0,0))
def vR:Ap:=[.int .i64 0,.bool false,.int .i64 0,.int .i64 0,.int .i64 0,.int .i64 0,.int .i64 0,.int .i64 0,.int .i64 0,.int .i64 0]
def P1:Ap:=vR++(vR++(vR++(vR++(vR++(vR++(vR++vR))))))
abbrev Df:Value:= .slice none 0 0
theorem pc{vo vc vt vh vq:Value}(N:As.ASt)(h1:vo.oneCell'=true)(h2:vc.oneCell'=true)(h3:vt.oneCell'=true)(h4:vh.oneCell'=true)(h5:vq.oneCell'=true):BuildS prog 52 (Df::Df::Df::Df::(P1++[Df,Df])) [(0,vo),(1,vc),(2,vt),(3,vh),(4,.agg (toArray (U4 N))),(6,vq)] (N3 vo vc vt vh N Df vq):=by refine .one inferInstance inferInstance h1 .zero (.one inferInstance inferInstance h2 (.succ .zero) (.one inferInstance inferInstance h3 (.succ (.succ .zero)) (.one inferInstance inferInstance h4 (.succ (.succ (.succ .zero))) (.agg inferInstance inferInstance (Gj N) (LSetA.mid [vo,vc,vt,vh] P1 (U4 N) [Df,Df] rfl (Gj N).symm) (.one inferInstance inferInstance h5 ?_ .nil)))));have:=LSet.mid (vo::vc::vt::vh::(U4 N++[Df])) [] Df vq (k:=85) (by simp[Gj]);simpa[N3] using this
theorem kv1(m v rb z:Bd)(cr cq ch ct cc co L:Ac):Keep (m::v::(cr++rb::(cq++(ch++(ct++(cc++(co++z::L))))))) (z::v::m::(co++(cc++(ct++(ch++(cr++(cq++L))))))):=A8 [rb]
theorem kv2(m v z:Bd)(L:Ac):Keep (z::v::m::L) ([m]++(z::L)):=A8 [v]
theorem zi(hK:IsK F C k S p s)(G:Ac):Fn prog 55 [pV b] (Ax b p s S G) λv l'=>
 ∃x:VwL,v= .agg (toArray (N3 x.vo x.vc x.vt x.vh S.N x.vr x.vq))/\IsVwK C S x/\l'=x.co++(x.cc++(x.ct++(x.ch++(x.cr++(x.cq++Ax b p s S G))))):=by
 obtain⟨L,hL⟩: ∃L,L=Ax b p s S G:=⟨_,rfl⟩
 have uN:CF b p∈L:=by rw[hL];exact .head _
 have hmn:As.asA p.n S.N∈L:=by rw[hL];exact .tail _ (.head _)
 have hma: ∀c,c∈s.A->c∈L:=λc hc=>by rw[hL];unfold Ax;simp[hc]
 have hmh: ∀c,c∈s.H->c∈L:=λc hc=>by rw[hL];unfold Ax;simp[hc]
 have hmt: ∀c,c∈s.T->c∈L:=λc hc=>by rw[hL];unfold Ax;simp[hc]
 have hmq: ∀c,c∈s.Q->c∈L:=λc hc=>by rw[hL];unfold Ax;simp[hc]
 have wG: ∀c,c∈s.V->c∈L:=λc hc=>by rw[hL];unfold Ax;simp[hc]
 rw[<-hL];obtain⟨m9,hm9,hi9⟩:=hK.inv;obtain⟨Sn,M1,_⟩:=hi9.small Af;have hT:S.T.length<=900000:=by have:=hK.tl;omega
 have ai:=hK.ul;refine AN func55 ntmps55 λE=>?_;refine AQ λb2=>?_;have CG: ∀(c:Bd),c∈[CF b p]->c∈(b2,Obj.cells (toArray (Df::Df::Df::Df::(P1++[Df,Df]))) 52 (0,0))::L:=λc hc=>by rw[AC.1 hc];exact .tail _ uN
 refine Su [(0,true),(1,true),(2,true),(3,true),(5,true),(6,true),(7,true),(8,true),(10,true),(11,true),(12,true),(13,true),(15,true),(16,true),(17,true),(18,true),(20,true),(21,true),(22,true),(23,true),(25,true),(26,true),(27,true),(28,true),(4,false),(9,false),(14,false),(19,false),(24,false),(29,false),(30,true),(31,false),(32,false)] [[],[0],[0,1],[0,1,2],[0,1,2,3],[],[5],[5,6],[5,6,7],[0,1,2,3,4,5,6,7,8],[],[10],[10,11],[10,11,12],[0,1,2,3,4,5,6,7,8,9,10,11,12,13],[],[15],[15,16],[15,16,17],[0,1,2,3,4,5,6,7,8,9,10,11,12,13,14,15,16,17,18],[],[20],[20,21],[20,21,22],[0,1,2,3,4,5,6,7,8,9,10,11,12,13,14,15,16,17,18,19,20,21,22,23],[],[25],[25,26],[25,26,27],[0,1,2,3,4,5,6,7,8,9,10,11,12,13,14,15,16,17,18,19,20,21,22,23,24,25,26,27,28],[0,1,2,3,4,5,6,7,8,9,10,11,12,13,14,15,16,17,18,19,20,21,22,23,24,25,26,27,28,29],[],[0,1,2,3,4,5,6,7,8,9,10,11,12,13,14,15,16,17,18,19,20,21,22,23,24,25,26,27,28,29,30,31]] (some [(4,31),(9,31),(14,31),(19,31),(24,31),(29,31)]) ([CF b p]) BA BA GH (CG) ?_;refine BM ?_;refine sr [(4,_,λv cs=>OwnSl 100 9 v S.A.os.length (Ar.ocs S.A.os) cs),(9,_,λv cs=>OwnSl 131 10 v (DM S.H.1).length (Oz (DM S.H.1)) cs),(14,_,λv cs=>OwnSl 129 3 v S.H.2.length (Tr.ncs S.H.2) cs),(19,_,λv cs=>OwnSl 79 24 v S.T.length (Th.thcs S.T) cs),(24,_,λv cs=>v= .agg (toArray (U4 S.N))/\cs=[]),(29,_,λv cs=>OwnSl 3 1 v (tS S.Q).length ((tS S.Q).map CU) cs)] [(30,_)] (31,_,λv cs=> ∃b,v= .pointer (some ⟨b,0,none⟩)/\cs=[(b,.cells (toArray (Df::Df::Df::Df::(P1++[Df,Df]))) 52 (0,0))]) 3 rfl rfl rfl CG (λ_ h=>by cases h) ⟨Pd rfl rfl (λl' hl=>Ar.all_any p.a S.A s.A hK.ar l' λc hc=>hl _ (.tail _ (hma c hc))) rfl rfl,Pd rfl rfl (λl' hl=>V1 p.h S.H s.H hK.ho Sn l' λc hc=>hl _ (.tail _ (hmh c hc))) rfl rfl,Pd rfl rfl (λl' hl=>im p.h S.H s.H hK.ho M1 l' λc hc=>hl _ (.tail _ (hmh c hc))) rfl rfl,Pd rfl rfl (λl' hl=>Th.all_any p.t S.T s.T hK.th hT l' λc hc=>hl _ (.tail _ (hmt c hc))) rfl rfl,Pd rfl rfl (λl' hl=>(As.pools_any p.n S.N (U4 S.N) (jr S.N) (Gj S.N) (QZ S.N) l' (hl _ (.tail _ hmn))).mono λv l2 h=>⟨[],⟨h.1,rfl⟩,h.2⟩) rfl rfl,Pd rfl rfl (λl' hl=>Qu.all_any p.q S.Q s.Q hK.qu (λj hj=>by have:=hK.ql j hj;omega) l' λc hc=>hl _ (.tail _ (hmq c hc))) rfl rfl,trivial⟩ (nk rfl rfl) BA BA rfl rfl ?_;intro vo co ho vc cc hc vt ct ht vh ch hh vp cp hp vq cq hq;obtain⟨rfl,rfl⟩:=hp;refine⟨_,_,dM rfl (pc S.N ho.one hc.one ht.one hh.one hq.one),rfl,rfl,rfl,?_⟩;rintro v3 c3 ⟨b3,rfl,rfl⟩;simp only[Iq,AddK];simp only at ho hc ht hh hq;apply Oe
 ·refine EH (cs:=toArray (Df::Df::Df::Df::(P1++[Df,Df]))) (T:=52) (l':=qm b3 vo vc vt vh S.N Df vq::(cq++(ch++(ct++(cc++(co++(b2,Obj.cells (toArray (Df::Df::Df::Df::(P1++[Df,Df]))) 52 (0,0))::L)))))) rfl rfl ?_ ?_ ?_ ?_
  ·show(N3 vo vc vt vh S.N Df vq).length=86;simp[Gj]
  ·intro v hv;simp only[DQ,At,AF,BQ,EE] at hv;rcases hv with rfl|rfl|rfl|rfl|hv|rfl|rfl
   ·exact ho.one
   ·exact hc.one
   ·exact ht.one
   ·exact hh.one
   ·exact QZ _ v hv
   ·rfl
   ·exact hq.one
  ·rw[DQ,As.setFrom_all _ _ (by simp[Gj];rfl)];exact .here
  ·show 0+86<=(Df::Df::Df::Df::(P1++[Df,Df])).length;decide
 ·rfl
 ·rfl
 ·rintro _ _ ⟨_,rfl⟩ c hc;rw[AC.1 hc];simp[uN]
 rintro _ _ ⟨rfl,rfl⟩;refine BM ?_;refine Aj ?_;refine AS (Az rfl rfl (Ph b _)) ?_;rintro _ _ ⟨B,rfl,rfl⟩;refine Aj ?_;obtain⟨gL,hgl⟩: ∃gL,gL=cq++(ch++(ct++(cc++(co++(b2,Obj.cells (toArray (Df::Df::Df::Df::(P1++[Df,Df]))) 52 (0,0))::L)))):=⟨_,rfl⟩
 have hLg: ∀c,c∈L->c∈gL:=λc hc=>by rw[hgl];simp[hc]
 rw[<-hgl];have hC1:=hK.c1;obtain⟨bv,cap,sp,hv,hV,_⟩:=hK.cur;have hmB: ∀c,c∈[rB B b,CF b p]->c∈rB B b::gL:=λc hc=>by
  rcases At.1 hc with rfl|hc
  ·exact .head _
  ·rw[AC.1 hc];exact .tail _ (hLg _ uN)
 have qB:(bv,Obj.cells (toArray (S.U.map CU++sp)) 3 (0,0))∈L:=wG _ (by rw[hV];exact .head _);have h84: ∀(N:As.ASt),(vo::vc::vt::vh::U4 N).length=84:=λN=>by simp[Gj]
 refine Dg (α:=Nat) (ps:=[42,43]) (lb:=[pV B]) rfl (Nz B b p bv C cap Af hv) (λ_=>rfl) rfl
  (λpre l=> ∃vr cr,OwnSl 3 1 vr pre.length ((S.U.take pre.length).map CU) cr/\l=qm b3 vo vc vt vh S.N vr vq::cr) (λc pre l=>False) [qm b3 vo vc vt vh S.N Df vq] (rB B b::gL)
  (λpre l2 X2 hX h=>⟨Aa _ (hX _ (.head _)),Aa _ (hX _ (.tail _ (hLg _ uN)))⟩) (.of_perm (.swap _ _ _)) ⟨_,[],OwnSl.nil _ _,rfl⟩ ?_ ?_ ?_
 ·rintro E r0 FU pre x l' T ⟨fn,tmps,D,rfl⟩ hT ⟨vr,cr,EX,rfl⟩ Dw;obtain⟨rfl,hx,_⟩:=fo Dw rfl;have c0:=RR (U:=S.U) (sp:=sp) (i:=pre.length) Af;obtain⟨u,hu⟩: ∃u,S.U.getD pre.length 0=u:=⟨_,rfl⟩
  rw[hu] at c0;have Jz:vr.oneCell'=true:=EX.one;simp only[DX,Ae,Ag];refine Aj ?_;refine CK (.there (FK _ _ _ _ _)) ?_;generalize hX1:(r0,Obj.loop (DR fn tmps _ _ _ D .busy none))::T=X1;have hmX:(bv,Obj.cells (toArray (S.U.map CU++sp)) 3 (0,0))∈X1:=by rw[<-hX1];exact .tail _ (hT _ (.tail _ (hLg _ qB)))
  refine Aj ?_;refine Cm [5,6,8] 9 ([]) ?_;refine BM ?_;apply Gp (S:=[qm b3 vo vc vt vh S.N vr vq])
  ·exact DS rfl (.head _) (Lh (LGet.mid (vo::vc::vt::vh::U4 S.N) [vq] vr (h84 _)))
  ·exact C7 (.head _)
  ·rfl
  ·rfl
  ·rfl
  refine BM ?_;apply Gp (S:=[(bv,Obj.cells (toArray (S.U.map CU++sp)) 3 (0,0))])
  ·exact DS (v:=iV u) rfl (.head _) (by first|exact c0|(rw[Dr];exact c0))
  ·exact C7 (.tail _ (Aa _ hmX))
  ·rfl
  ·rfl
  ·rfl
  refine BM ?_;apply G9
  ·exact Lj (v:=iV u) rfl rfl
  ·rfl
  ·rfl
  ·rfl
  ·intro _ _ _ c hc;cases hc
  ·rintro _ _ ⟨bl,_,rfl,rfl⟩ x hx _ c hc;simp only[At,BQ,EE] at hx;rcases hx with rfl|rfl<;>simp only[At,BQ,EE] at hc<;>subst hc
   ·exact .tail _ (.tail _ (Aa _ hmX))
   ·exact .tail _ (.head _)
  rintro _ _ ⟨bl,_,rfl,rfl⟩;refine BM ?_;apply G9
  ·apply Hz (k:=1) (X:=[qm b3 vo vc vt vh S.N vr vq]) (cs:=cr) (xs:=(S.U.take pre.length).map CU) (n:=pre.length) (zs:=[.int .i64 0]) (ws:=[iV u])
   ·rfl
   ·rfl
   ·rfl
   ·exact EX
   ·rfl
   ·simp[Value.oneCell']
   ·omega
   ·decide
  ·rfl
  ·rfl
  ·rfl
  ·intro _ _ _ c hc;cases hc
  ·exact λ_ _ _ x hx ha=>Dh BA hx ha
  rintro v' _ ⟨c2,Fg,rfl⟩;have Jz:v'.oneCell'=true:=Fg.one;simp only[Ae,Ag];refine BM ?_;apply Hy
  ·apply GF (cs:=N3 vo vc vt vh S.N vr vq) (cs':=N3 vo vc vt vh S.N v' vq)
   ·rfl
   ·rfl
   ·exact Jz
   ·exact .head _
   ·exact LSet.mid (vo::vc::vt::vh::U4 S.N) [vq] vr v' (h84 _)
   ·exact .here
  ·rfl
  ·rfl
  ·intro _ _ _ c hc;cases hc
  ·exact λ_ _ _ x hx ha=>Dh BA hx ha
  rintro _ _ ⟨rfl,rfl⟩;refine BM ?_;refine Aj ?_;rw[<-hX1];refine Ci _ (.refl) ⟨v',c2,?_,rfl⟩;rw[Ah,Bl,Ch,Aq,Al Af];rw[List.getD,Al Af,Dx] at hu;rw[hu];exact Fg
 ·rintro D xs l' rfl ⟨vr,cr,EX,rfl⟩;rw[Fc,BD Af] at EX;have Jz:vr.oneCell'=true:=EX.one;refine Aj ?_;have X6:(N3 vo vc vt vh S.N vr vq).length=86:=by simp[Gj]
  refine Bh (Ge rfl (.tail _ (.head _)) (As.LSub.of_all (n:=86) _ X6)) ?_;rw[hgl];refine Bs (kv1 ..) ?_;apply M9
  ·refine EH (cs:=toArray (Df::Df::Df::Df::(P1++[Df,Df]))) (T:=52) (l':=qm b2 vo vc vt vh S.N vr vq::qm b3 vo vc vt vh S.N vr vq::Cr D::(co++(cc++(ct++(ch++(cr++(cq++L))))))) rfl rfl X6 ?_ ?_ ?_
   ·intro v hv;simp only[DQ,At,AF,BQ,EE] at hv;rcases hv with rfl|rfl|rfl|rfl|hv|rfl|rfl
    ·exact ho.one
    ·exact hc.one
    ·exact ht.one
    ·exact hh.one
    ·exact QZ _ v hv
    ·exact Jz
    ·exact hq.one
   ·rw[DQ,As.setFrom_all _ _ (by simp[Gj];rfl)];exact .here
   ·show 0+86<=(Df::Df::Df::Df::(P1++[Df,Df])).length;decide
  ·rfl
  ·rfl
  rintro _ _ ⟨rfl,rfl⟩;refine Aj ?_;exact AU [D] (qm b2 vo vc vt vh S.N vr vq::(co++(cc++(ct++(ch++(cr++(cq++L))))))) rfl (kv2 ..) (Cq rfl (.head _) (As.LSub.of_all (n:=86) _ X6) .nil) (.drop .refl) ⟨⟨vo,vc,vt,vh,vr,vq,co,cc,ct,ch,cr,cq⟩,rfl,⟨ho,hc,ht,hh,EX,hq⟩,rfl⟩
 ·rintro D c pre l' Dw h;exact h.elim
def VwL.all(x:VwL):Ac:=x.co++(x.cc++(x.ct++(x.ch++(x.cr++x.cq))))
theorem UK(kb b:Nat)(l:Ac)(hm:PE kb b∈l):Fn prog 54 [pV kb] l λv l'=>v=pV b/\l'=l:=by refine AN func54 ntmps54 λE=>?_;exact E3
theorem AfD(b:Nat)(p:RP)(s:RL)(S:KT)(x:VwL)(A G:Ac):Keep (x.co++(x.cc++(x.ct++(x.ch++(x.cr++(x.cq++Ax b p s S (A++G))))))) (x.all++(A++(Ax b p s S []++G))):=by unfold Ax VwL.all;exact A8 []
section
variable{st:List (Int×List Ia)}{l:Ac}
theorem ga(hK:IsK F C k S p s)(A G:Ac):Fn prog 55 [pV b] (A++(Ax b p s S []++G)) λv l'=> ∃x:VwL,v= .agg (toArray (N3 x.vo x.vc x.vt x.vh S.N x.vr x.vq))/\IsVwK C S x/\l'=x.all++(A++(Ax b p s S []++G)):=
 Fn.re (.of_perm (zd ..)) (zi hK (A++G)) λv l' ⟨x,h1,h2,h3⟩=>⟨_,by rw[h3];exact AfD ..,x,h1,h2,rfl⟩
theorem Acw(w k:Bd)(ct cs cn A G:Ac):(w::k::(ct++(cs++(cn++A))))++G=[w,k]++ct++cs++cn++(A++G):=by simp
theorem Ry(hW:IsWo F C k S th st wb l)(G:Ac):Fn prog 21 [pV wb] (l++G) λv l'=> ∃x:VwL,v= .agg (toArray (N3 x.vo x.vc x.vt x.vh S.N x.vr x.vq))/\IsVwK C S x/\l'=x.all++(l++G):=by
 obtain⟨b,kb,p,s,vt,vs,ct,cs,rows,cn,hK,ht,hs,K3,um,hl⟩:=hW.ex;obtain⟨A,hA⟩: ∃A,[de wb kb vt vs,PE kb b]++ct++cs++cn=A:=⟨_,rfl⟩
 have mw:de wb kb vt vs∈A:=by rw[<-hA];simp
 have mk:PE kb b∈A:=by rw[<-hA];simp
 have hv:=λG=>ga hK (b:=b) A G;have el: ∀G,l++G=A++(Ax b p s S []++G):=λG=>by rw[hl,Acw,hA]
 rw[el];have mw':de wb kb vt vs∈A++(Ax b p s S []++G):=Ai _ mw;have mk':PE kb b∈A++(Ax b p s S []++G):=Ai _ mk;refine AN func21 ntmps21 λE=>?_;refine AQ λb2=>?_;refine Bh (AL rfl rfl λl2 hl=>UK kb b l2 (hl _ (.tail _ mk'))) ?_;refine AS (Az rfl rfl (ga (b:=b) hK ((b2,Obj.cells (toArray (Df::Df::Df::Df::(P1++[Df,Df]))) 52 (0,0))::A) G)) ?_;rintro _ _ ⟨x,rfl,hx,rfl⟩;obtain⟨vo,vc,vt,vh,vr,vq,co,cc,ct',ch,cr,cq⟩:=x;obtain⟨ho,hc,ht',hh,hr,hq⟩:=hx;simp only at ho hc ht' hh hr hq;obtain⟨Y,hY⟩: ∃Y,VwL.all ⟨vo,vc,vt,vh,vr,vq,co,cc,ct',ch,cr,cq⟩=Y:=⟨_,rfl⟩
 rw[hY];refine Bs (l':=(b2,Obj.cells (toArray (Df::Df::Df::Df::(P1++[Df,Df]))) 52 (0,0))::(Y++(A++(Ax b p s S []++G)))) (.of_perm AI) ?_;have X6:(N3 vo vc vt vh S.N vr vq).length=86:=by simp[Gj]
 refine Aj ?_;apply M9
 ·refine EH (cs:=toArray (Df::Df::Df::Df::(P1++[Df,Df]))) (T:=52) (l':=qm b2 vo vc vt vh S.N vr vq::(Y++(A++(Ax b p s S []++G)))) rfl rfl X6 ?_ ?_ ?_
  ·intro v hv;simp only[DQ,At,AF,BQ,EE] at hv;rcases hv with rfl|rfl|rfl|rfl|hv|rfl|rfl
   ·exact ho.one
   ·exact hc.one
   ·exact ht'.one
   ·exact hh.one
   ·exact QZ _ v hv
   ·exact hr.one
   ·exact hq.one
  ·rw[DQ,As.setFrom_all _ _ (by simp[Gj];rfl)];exact .here
  ·show 0+86<=(Df::Df::Df::Df::(P1++[Df,Df])).length;decide
 ·rfl
 ·rfl
 rintro _ _ ⟨rfl,rfl⟩;refine Aj ?_;exact AU [] (qm b2 vo vc vt vh S.N vr vq::(Y++(A++(Ax b p s S []++G)))) rfl .refl (Cq rfl (.head _) (As.LSub.of_all (n:=86) _ X6) .nil) (.drop .refl) ⟨⟨vo,vc,vt,vh,vr,vq,co,cc,ct',ch,cr,cq⟩,rfl,⟨ho,hc,ht',hh,hr,hq⟩,by rw[hY]⟩
theorem pd(hW:IsWo F C k S th st wb l)(jL:th.length<=1000000)(G:Ac):Fn prog 19 [pV wb] (l++G) λv l'=> ∃c2,OwnSl 3 1 v th.length (th.map CU) c2/\l'=c2++(l++G):=by
 obtain⟨b,kb,p,s,vt,vs,ct,cs,rows,cn,hK,ht,hs,K3,um,hl⟩:=hW.ex;have mw:de wb kb vt vs∈l++G:=by rw[hl];simp
 have hvt:=ht.one;have Oz: ∀c,c∈ct->c∈l++G:=λc hc=>by rw[hl];simp[hc]
 refine AN func19 ntmps19 λE=>?_;refine Aj ?_;refine AS (Az (vs:=[vt]) rfl rfl (En.clone_any vt th ct _ ht Oz jL)) ?_;rintro v' _ ⟨c2,Fg,rfl⟩;have Jz:v'.oneCell'=true:=Fg.one;refine Aj ?_;refine Bb .refl ?_;exact⟨c2,Fg,rfl⟩
end
def NN(hs:List Qv)(s:Cs):CapT×Bool:=match hs.find? (λh=>decide (h.1=s)) with
 |some h=>(h.2,true)
 |none=>(CO,false)
abbrev Vm(B:Nat)(c:Ap):Bd:=(B,.cells (toArray c) 52 (0,0))
abbrev hdB(B:Nat)(h:Qv):Bd:=(B,.cells (toArray (Oy h)) 131 (0,0))
theorem tT(c:Ap)(vc:Value)(hs:List Qv)(s:Cs)(l:Ac)(hc:(toArray c)[1]?=some vc)(hv:RowSl l vc 10 Oy hs)(hn:hs.length<=1000000):Fn prog 67 [.agg (toArray c),F6 s] l λv l'=>v= .tuple #[Xb (NN hs s).1,.bool (NN hs s).2]/\l'=l:=by
 obtain⟨a,cap,rfl,hr⟩:=hv;refine AN func67 ntmps67 λE=>?_;refine Aj ?_;refine AS (CH rfl) ?_;rintro _ _ ⟨b2,_,rfl,rfl⟩;refine AS (CH rfl) ?_;rintro _ _ ⟨b3,_,rfl,rfl⟩;refine AQ λb4=>?_;refine CN (α:=Nat) (λk=>[(2,pV b2),(3,pV b3),(4,pV b4),(9,.slice a hs.length cap),(10,.int .i64 (hs.length:Nat)),(11,.int .i64 k)]) (λk=>Bz b4 CO::(b3,.cells (toArray (Cw s)) 61 (0,0))::Vm b2 c::l) (λk=>k<=hs.length/\ ∀h,h∈hs.take k->¬h.1=s) (λk=>hs.length-k) 0 ⟨Bp _,by simp⟩ ⟨rfl,rfl,rfl,rfl,rfl,rfl,trivial⟩ .refl ?_;rintro k ⟨hk,IU⟩;by_cases C9:k<hs.length
 ·obtain⟨h,e1⟩: ∃h,hs[k]?=some h:=⟨_,Al C9⟩
  obtain⟨b,off,cs,t,fz,rfl,hm,LD⟩:=hr Af;obtain⟨g1,g2⟩:=LD k h e1;refine Aj ?_;refine Bh (Dt rfl (.tail _ (.tail _ (.tail _ hm))) g1 g2) ?_;refine AQ λb7=>?_;refine Bh (Gx (ks:=[some .i64,some .i64]) (xs:=Cw h.1) (ys:=Cw s) rfl rfl (IA (by rfl)) (IA (by rfl))) ?_;by_cases he:h.1=s
  ·rw[show Ca (Cw h.1) (Cw s)=true by rw[he];exact GS (ks:=[some .i64,some .i64]) (IA (by rfl))];have hf:NN hs s=(h.2,true):=by
    have h3:hs.find? (λh=>decide (h.1=s))=some h:=by obtain⟨hl,hx⟩:=Ay.1 e1;refine JQ.2 ⟨by simpa using he,k,hl,hx,λj hj=>?_⟩;have:=IU hs[j] (List.mem_take_iff_getElem.2 ⟨j,Af,rfl⟩);simpa using this
    unfold NN;rw[h3]
   rw[hf];refine Aj ?_;exact AU (vs:=[Xb h.2,.bool true]) [] _ rfl .refl (Cq rfl (.tail _ (.head _)) (As.LSub.of_all (n:=8) (B0 h.2) rfl) (by exact Ba)) (.drop (.drop (.drop (.drop .refl)))) ⟨rfl,rfl⟩
  ·rw[show Ca (Cw h.1) (Cw s)=false by
    cases hq:Ca (Cw h.1) (Cw s) with
    |false=>rfl
    |true=>have:=(GM (ks:=[some .i64,some .i64]) (IA (by rfl)) (IA (by rfl))).1 hq;simp only[Cw,Co,Value.int.injEq,Io,Jg] at this;exact absurd (G3 this.1 this.2) he]
   refine Aj ?_;exact BO (k+1) ⟨Af,λx hx=>by
    rw[Ch,e1,AF] at hx;rcases hx with hx|hx
    ·exact IU x hx
    ·simp at hx;rw[hx];exact he⟩ Af ⟨rfl,rfl,rfl,rfl,rfl,rfl,trivial⟩ (.drop .refl)
 ·obtain rfl:k=hs.length:=by omega
  have hf:NN hs s=(CO,false):=by unfold NN;rw[Bq.2 λx hx=>by simpa using IU x (by rw[D8];exact hx)]
  rw[hf];refine Aj ?_;exact AU (vs:=[Xb CO,.bool false]) [] _ rfl .refl (Cq rfl (.head _) (As.LSub.of_all (n:=8) (B0 CO) rfl) (by exact Ba)) (.drop (.drop (.drop .refl))) ⟨rfl,rfl⟩
theorem LSub.front: ∀(A B:Ap),LSub (A++B) 0 A.length A
 |[],B=> .done
 |a::A,B=> .take (LSub.front A B)
theorem UL(vo vc vt vh:Value)(N:As.ASt)(vr vq:Value):LSub (N3 vo vc vt vh N vr vq) 4 80 (U4 N):=by refine .drop (.drop (.drop (.drop ?_)));have:=LSub.front (U4 N) [vr,vq];rwa [Gj] at this
abbrev poC(o:Int)(d:Bool)(r0 r1 r2 r3 s0 s1 s2 s3:Int):Ap:=[iV o,.bool d,iV r0,iV r1,iV r2,iV r3,iV s0,iV s1,iV s2,iV s3]
theorem tU(vo vc vt vh vr vq:Value)(N:As.ASt)(hs:List Qv)(id:Int)(cp:CapT)(l:Ac)(hv:RowSl l vc 10 Oy hs)(hn:hs.length<=1000000)(h1:NN hs (id,1)=(cp,true))(h2:cp.kind=5)(h3:N.root 0=0)(h4:N.root 1=cp.obj)(h5:¬cp.obj=0):
 Fn prog 49 [.agg (toArray (N3 vo vc vt vh N vr vq)),.int .i64 id] l λv l'=>v= .tuple #[iV (N.ser 1),.bool true]/\l'=l:=by
 have u1:(toArray (N3 vo vc vt vh N vr vq))[1]?=some vc:=rfl;have u4:=UL vo vc vt vh N vr vq;have u86:(N3 vo vc vt vh N vr vq).length=86:=by simp[Gj]
 have hp:((U4 N).drop (0*10)).take 10=poC (N.obj 0) (N.dead 0) (N.root 0) (N.root 1) (N.root 2) (N.root 3) (N.ser 0) (N.ser 1) (N.ser 2) (N.ser 3):=rfl;obtain⟨c,hc⟩: ∃c,N3 vo vc vt vh N vr vq=c:=⟨_,rfl⟩
 rw[hc] at u1 u4 u86⊢;have hj:=λl2 hl=>tT c vc hs (id,1) l2 u1 (hv.mono hl) hn;rw[h1] at hj;dsimp only at hj;refine AN func49 ntmps49 λE=>?_;refine Aj ?_;refine AS (CH rfl) ?_;rintro _ _ ⟨b2,_,rfl,rfl⟩;refine Aj ?_;refine Bh (Ge rfl (.head _) (As.LSub.of_all (n:=86) c u86)) ?_;refine Aj ?_;refine Bh (AL (vs:=[.agg (toArray c),F6 (id,1)]) rfl rfl λl2 hl=>hj l2 λx hx=>hl x (.tail _ hx)) ?_;refine AQ λb6=>?_;refine Bh (Ge rfl (.tail _ (.head _)) u4) ?_;refine Aj ?_;refine Ie 0 ?_;refine Aj ?_;refine Bh (bT (i:=0) rfl rfl AX hp) ?_;rw[h3,h4];refine AQ λb9=>?_;refine Ie 1 ?_;refine Aj ?_;refine uS (v:=iV 0) (by refine Xs (m:=0) rfl rfl rfl AX rfl) rfl rfl rfl ?_;refine Aj ?_;refine E9 ?_;refine Aj ?_;refine uS (v:=iV cp.obj) (by refine Xs (m:=1) rfl rfl rfl AX rfl) rfl rfl rfl ?_;refine Aj ?_;refine Bh (DS (v:=iV (N.ser 1)) rfl (.head _) rfl) ?_;refine Aj ?_;exact CT (vs:=[iV (N.ser 1),.bool true]) _ .refl (.drop (.drop (.drop .refl))) ⟨rfl,rfl⟩
set_option maxRecDepth 100000
abbrev zj:OU:=⟨0,0,0,0,0,0,0⟩
abbrev XE:ND:=⟨1,0,1,zj,0,0,0,0,0⟩
abbrev ZL:ND:=⟨2,0,0,⟨1,3,3,0,1,8,1⟩,0,0,0,0,0⟩
abbrev dh:ND:=⟨3,0,0,zj,8,0,0,0,0⟩
def awS:KT:=I4 22 1 2 false
abbrev pf:Ia:=⟨1,6,0,msZ,0,false,4,8,false⟩
theorem tV:o8 awS [XE,ZL,dh]=[(0,[]),(0,[NL 1]),(0,[pf])]:=by decide+kernel
theorem zk:XD 22 2 false=[1,8]:=by decide+kernel
def awT:KT:=AfC awS [XE,ZL,dh]
abbrev js(B:Nat)(cs:Ap):Bd:=(B,.cells (toArray cs) 69 (0,0))
instance:EQ prog 67 [some .i64,some .u64,none]:=⟨BA⟩
abbrev awC(sp:Ap):Ap:=iV 1::iV 6::Be 0::Be 0::Be 0::Be 0::Be 0::Be 0:: .bool false::iV 4::Be 8:: .bool false::sp
def Acx:Bool:=decide ((NN (DM awT.H.1) (1,1)).2=true)&&decide ((NN (DM awT.H.1) (1,1)).1.kind=5)&&decide (awT.N.root 0=0)&&decide (awT.N.root 1=(NN (DM awT.H.1) (1,1)).1.obj)&&!decide ((NN (DM awT.H.1) (1,1)).1.obj=0)&&decide (awT.N.ser 1=1)&&decide ((DM awT.H.1).length<=1000)
theorem Acy:Acx=true:=by decide+kernel
theorem Acz:jp XE/\jp ZL/\jp dh:=⟨⟨⟨by decide,by decide,by decide,by decide,by decide,by decide,by decide⟩,by decide,by decide⟩,⟨⟨by decide,by decide,by decide,by decide,by decide,by decide,by decide⟩,by decide,by decide⟩,⟨⟨by decide,by decide,by decide,by decide,by decide,by decide,by decide⟩,by decide,by decide⟩⟩
theorem Rz(l:Ac):Fn prog 16 [] l λv l'=>v= .bool true/\ ∃X,l'=X++l:=by
 obtain⟨he1,he2,he3⟩:=Acz;refine AN func16 ntmps16 λE=>?_;refine Aj ?_;refine AS (Az (vs:=[cfA 22 1 2 false]) rfl rfl (ZJ 22 1 2 false l)) ?_;rintro _ _ (⟨N8,rfl,rfl⟩|⟨N8,wb,lw,rfl,hW,rfl⟩)
 ·exact absurd N8 AX
 have jL:XD (22:Int).toNat (2:Int).toNat false=[1,8]:=zk;rw[jL] at hW;refine Aj ?_;try simp only[AM,AK,AR]
 have hW:IsWo 22 1 (832+jq XE) awS [1,8] [] wb lw:=hW;have XI:=tV;simp only[o8,Co,Prod.mk.injEq,Jg] at XI;obtain⟨⟨kG,Q0⟩,⟨XY,hp4⟩,hp5,hp6⟩:=XI;refine JB (Az (vs:=[pV wb]) rfl rfl (pd hW AX l)) rfl rfl rfl ?_;rintro v1 _ ⟨ct,hoT,rfl⟩;have Jz:=hoT.one;refine JB (aF (z0:= .int .i64 0) (cs:=[.int .i64 1,.int .i64 8]) rfl AX AX rfl) rfl rfl rfl ?_;rintro _ _ ⟨bl,_,rfl,rfl⟩;refine NY (AL rfl rfl λl2 hl=>Nj v1 _ [1,8] [1,8] l2 (hoT.intsQ λc hc=>hl c (.tail _ (Ai _ hc))) ((OwnSl.lit (e:=3) (n:=2) AX rfl AX).intsQ λc hc=>hl c (by rw[AC.1 hc];exact .head _)) AX) rfl rfl rfl ?_;rw[Au rfl];refine Aj ?_;refine Bs (l':=lw++l) (.drop (Keep.dropL' ct .refl)) ?_;refine AS (Az (vs:=[pV wb,NW XE]) rfl rfl (QY XE he1 hW AX l (BV (ZK _ _) AX))) ?_;rintro _ _ ⟨sl1,c1,lw1,rfl,Gc,ZU,rfl⟩;have ZU:IsWo 22 1 (824+jq ZL) (Jw awS XE).2 [1,8] _ wb lw1:=ZU;refine Aj ?_;refine Bs (l':=lw1++l) (Keep.dropL' c1 .refl) ?_;refine Bh (GT (zs:=[Be 0,Be 0,Be 0,Be 0,Be 0,Be 0]) (cs:=[Be 3,Be 3,Be 0,Be 1,Be 8,Be 1]) rfl rfl) ?_;refine Aj ?_;refine AS (Az (vs:=[pV wb,NW ZL]) rfl rfl (QY ZL he2 ZU AX l (BV (ZK _ _) AX))) ?_;rintro _ _ ⟨sl2,c2,lw2,rfl,Fg,pX,rfl⟩;have pX:IsWo 22 1 (822+jq dh) (Jw (Jw awS XE).2 ZL).2 [1,8] _ wb lw2:=pX;rw[hp4] at Fg;rw[XY];obtain⟨q2,k2,rfl⟩:=Fg.shape;refine AQ λb3=>?_;refine Bs (l':=lw2++(Hc b3 0 (.slice q2 [NL 1].length k2)::(c2++l))) (show Keep (Hc b3 0 (.slice q2 [NL 1].length k2)::(c2++(lw2++l))) _ from A8 []) ?_;refine AS (Az (vs:=[pV wb,NW dh]) rfl rfl (QY dh he3 pX AX _ (BV (ZK _ _) AX))) ?_;rintro _ _ ⟨sl3,c3,lw3,rfl,ho3,hW3,rfl⟩;rw[hp6] at ho3;rw[hp5];obtain⟨g3,k3,sp3,rfl,rfl⟩:=MR ho3 AX;refine AQ λb4=>?_;refine Bs (l':=lw3++(Hc b4 0 (.slice (some ⟨g3,0,none⟩) [pf].length k3)::([js g3 (Fx [pf]++sp3)]++(Hc b3 0 (.slice q2 [NL 1].length k2)::(c2++l))))) (show Keep (Hc b4 0 (.slice (some ⟨g3,0,none⟩) [pf].length k3)::([js g3 (Fx [pf]++sp3)]++(lw3++(Hc b3 0 (.slice q2 [NL 1].length k2)::(c2++l))))) _ from A8 []) ?_;refine AS (Az (vs:=[pV wb]) rfl rfl (Ry hW3 _)) ?_;rintro _ _ ⟨x,rfl,hx,rfl⟩;have hS:(Jw (Jw (Jw awS XE).2 ZL).2 dh).2=awT:=rfl;rw[hS] at hx;rw[hS];have Dm:=Acy;unfold Acx at Dm;simp only[AV,Bk,DU,EF] at Dm;obtain⟨⟨⟨⟨⟨⟨j1,j2⟩,j3⟩,j4⟩,j5⟩,j6⟩,j7⟩:=Dm;obtain⟨L,hL⟩: ∃L,x.all++(lw3++(Hc b4 0 (.slice (some ⟨g3,0,none⟩) [pf].length k3)::([js g3 (Fx [pf]++sp3)]++(Hc b3 0 (.slice q2 [NL 1].length k2)::(c2++l)))))=L:=⟨_,rfl⟩
 have m3:Hc b3 0 (.slice q2 [NL 1].length k2)∈L:=by rw[<-hL];simp
 have m4:Hc b4 0 (.slice (some ⟨g3,0,none⟩) [pf].length k3)∈L:=by rw[<-hL];simp
 have mc: ∀c,c∈x.cc->c∈L:=λc hc=>by rw[<-hL];exact Ai _ (by unfold VwL.all;simp[hc])
 have m2: ∀c,c∈c2->c∈L:=λc hc=>by rw[<-hL];simp[hc]
 have mn3:js g3 (Fx [pf]++sp3)∈L:=by rw[<-hL];simp
 rw[hL];refine Aj ?_;refine Bh (AL (vs:=[.agg (toArray (N3 x.vo x.vc x.vt x.vh awT.N x.vr x.vq)),.int .i64 1]) rfl rfl λl2 hl=>tU x.vo x.vc x.vt x.vh x.vr x.vq awT.N (DM awT.H.1) 1 (NN (DM awT.H.1) (1,1)).1 l2 (OwnSl.hds hx.c λc hc=>hl c (mc c hc)) Af (G3 rfl j1) j2 j3 j4 j5) ?_;rw[j6];refine Aj ?_;refine AS (FE (ws:=Si (NL 1)) (k:=12) rfl rfl rfl AX AX) ?_;rintro _ _ ⟨bn,_,rfl,rfl⟩;refine uS (v:= .bool (decide ([NL 1]=[NL 1]))) (by refine AL (vs:=[.slice q2 [NL 1].length k2,.slice (some ⟨bn,0,none⟩) 1 1]) rfl rfl λl2 hl=>Vk Si tK Acv _ _ [NL 1] [NL 1] l2 (OwnSl.rowSl Fg (λ_=>rfl) λc hc=>hl c (.tail _ (m2 c hc))) (OwnSl.rowSl (e:=69) (xs:=[NL 1]) (cs:=[Vj bn (NL 1)]) ⟨rfl,.inr ⟨bn,1,[],rfl,rfl,Bf _,by unfold maxLen;omega,rfl⟩⟩ (λ_=>rfl) (λc hc=>hl c (by rw[AC.1 hc];exact .head _))) AX) rfl rfl rfl ?_;rw[Au rfl];refine Aj ?_;rw[show([pf]:List Ia).length=1 from rfl];refine Aj ?_;have mn4:js g3 (awC sp3)∈L:=mn3;refine NY (v:= .agg (toArray [iV 4,Be 8,.bool false])) (Ge (cs:=awC sp3) rfl (.tail _ mn4) (by exact .drop (.drop (.drop (.drop (.drop (.drop (.drop (.drop (.drop (.take (.take (.take .done))))))))))))) rfl rfl rfl ?_;refine Aj ?_;refine NY (Ys (ks:=[some .i64,some .u64,none]) (xs:=[iV 4,Be 8,.bool false]) rfl rfl (IA (by rfl))) rfl rfl rfl ?_;refine Aj ?_;refine NY (AL (vs:=[.int .i64 2,.int .i64 4]) rfl rfl λl2 _=>Ar.frames_any 2 4 l2) rfl rfl rfl ?_;rw[show Ar.framesD 2 4=4 by decide];refine Aj ?_;refine Bb (l':=(Vj bn (NL 1)::(x.all++(lw3++(Hc b4 0 (.slice (some ⟨g3,0,none⟩) 1 k3)::([js g3 (Fx [pf]++sp3)]++(Hc b3 0 (.slice q2 [NL 1].length k2)::c2))))))++l) (by rw[<-hL];simp only[Am,Ae,Ag];exact .refl) ⟨rfl,_,rfl⟩
set_option maxRecDepth 20000
theorem jt(a:Option Addr)(n cap:Nat)(m:Int)(l:Ac):Fn prog 15 [.slice a n cap,.int .i64 m] l λv l'=>v= .bool (decide (m<(n:Int)))/\l'=l:=by refine AN func15 ntmps15 λE=>?_;exact E3
abbrev UM(B:Nat)(F C T:Int)(sh:Bool):Bd:=(B,.cells (toArray [.int .i64 F,.int .i64 C,.int .i64 T,.bool sh]) 23 (0,0))
namespace Tr
instance:EQ prog 129 [some .i64,some .i64,some .i64]:=⟨BA⟩
theorem sameNodes_any{α:Type}[DecidableEq α](enc:α->Ap)(M2: ∀x y,enc x=enc y->x=y)(hk: ∀x,AllK [some .i64,some .i64,some .i64] (enc x))(v u:Value)(xs ys:List α)(l:Ac)(h1:RowSl l v 3 enc xs)(h2:RowSl l u 3 enc ys)(hx:xs.length<=1000000):
 Fn prog 64 [v,u] l λr l'=>r= .bool (decide (xs=ys))/\l'=l:=by
 obtain⟨a,ca,rfl,h1⟩:=h1;obtain⟨a',ca',rfl,h2⟩:=h2;refine AN func64 ntmps64 λE=>?_;exact YT
end Tr
abbrev zl:List (Option IntKind):=[some .i64,some .i64,some .i64,some .i64,some .i64,some .i64,some .i64,some .i64,some .i64]
theorem AcA(o:Ar.ObT):AllK zl (Ar.obC o):=IA (by rfl)
instance:EQ prog 100 zl:=⟨BA⟩
theorem Sl[DecidableEq α](enc:α->Ap)(M2: ∀x y,enc x=enc y->x=y)(hk: ∀x,AllK zl (enc x))(v u:Value)(xs ys:List α)(l:Ac)(h1:RowSl l v 9 enc xs)(h2:RowSl l u 9 enc ys)(hx:xs.length<=1000000):
 Fn prog 62 [v,u] l λr l'=>r= .bool (decide (xs=ys))/\l'=l:=by
 obtain⟨a,ca,rfl,h1⟩:=h1;obtain⟨a',ca',rfl,h2⟩:=h2;refine AN func62 ntmps62 λE=>?_;exact YT
theorem Sm[DecidableEq α](enc:α->Ap)(M2: ∀x y,enc x=enc y->x=y)(hk: ∀x,AllK Th.thK (enc x))(v u:Value)(xs ys:List α)(l:Ac)(h1:RowSl l v 24 enc xs)(h2:RowSl l u 24 enc ys)(hx:xs.length<=1000000):
 Fn prog 65 [v,u] l λr l'=>r= .bool (decide (xs=ys))/\l'=l:=by
 obtain⟨a,ca,rfl,h1⟩:=h1;obtain⟨a',ca',rfl,h2⟩:=h2;refine AN func65 ntmps65 λE=>?_;exact YT
theorem tW(x y:Ar.ObT)(h:Ar.obC x=Ar.obC y):x=y:=by cases x;cases y;simp only[Ar.obC,Co,Value.int.injEq,Io,Jg] at h;simp only[Ar.ObT.mk.injEq];exact h
theorem zm(x y:Tr.SlotT×Int)(h:Tr.nV x=Tr.nV y):x=y:=by simp only[Tr.nV,Co,Value.int.injEq,Io,Jg] at h;exact G3 (G3 h.1 h.2.1) h.2.2
theorem AfE(x:Tr.SlotT×Int):AllK [some .i64,some .i64,some .i64] (Tr.nV x):=⟨_,_,rfl,⟨_,rfl⟩,_,_,rfl,⟨_,rfl⟩,_,_,rfl,⟨_,rfl⟩,rfl⟩
theorem OwnSl.intsC{v:Value}{U:A4}{cs l:Ac}(h:OwnSl 3 1 v C (U.map CU) cs)(hl:U.length=C)(hs: ∀c,c∈cs->c∈l):RF l v U:=OwnSl.intsQ (e:=3) (cs:=cs) (by rw[hl];exact h) hs
theorem IsVwK.l{x:VwL}(h:IsVwK C S x):S.U.length=C:=by have:=h.r.1;simpa using this
theorem ph(vo vc vt vh:Value)(N:As.ASt)(vr vq:Value):(toArray (N3 vo vc vt vh N vr vq))[84]?=some vr/\(toArray (N3 vo vc vt vh N vr vq))[85]?=some vq:=by have h1:=Lh (LGet.mid (vo::vc::vt::vh::U4 N) [vq] vr (k:=84) (by simp[Gj]));have h2:=Lh (LGet.mid (vo::vc::vt::vh::(U4 N++[vr])) [] vq (k:=85) (by simp[Gj]));exact⟨by simpa[N3] using h1,by simpa[N3] using h2⟩
def vS:List (Option IntKind):=(replicate 8 [some .i64,none,some .i64,some .i64,some .i64,some .i64,some .i64,some .i64,some .i64,some .i64]).flatten
instance:EQ prog 50 vS:=⟨BA⟩
theorem AcB(N:As.ASt):AllK vS (U4 N):=IA (by rfl)
theorem XF(x y:VwL)(hx:IsVwK C S x)(hy:IsVwK C S y)(z6:S.U.length<=900000)(z1:S.A.os.length<=900000)(z2:(DM S.H.1).length<=900000)(z3:S.H.2.length<=900000)(z4:S.T.length<=900000)(z5:(tS S.Q).length<=900000)(l:Ac)
 (qM: ∀c,(c∈x.co\/c∈x.cc\/c∈x.ct\/c∈x.ch\/c∈x.cr\/c∈x.cq)->c∈l)(zS: ∀c,(c∈y.co\/c∈y.cc\/c∈y.ct\/c∈y.ch\/c∈y.cr\/c∈y.cq)->c∈l):
 Fn prog 43 [.agg (toArray (N3 x.vo x.vc x.vt x.vh S.N x.vr x.vq)),.agg (toArray (N3 y.vo y.vc y.vt y.vh S.N y.vr y.vq))] l λv l'=>v= .bool true/\l'=l:=by
 letI:DecidableEq Qv:=λ_ _=>Classical.propDecidable _
 letI:DecidableEq Th.ThT:=λ_ _=>Classical.propDecidable _
 have xo:=hx.o.one;have xc:=hx.c.one;have xt:=hx.t.one;have xh:=hx.h.one;have xr:=hx.r.one;have xq:=hx.q.one;have yo:=hy.o.one;have yc:=hy.c.one;have yt:=hy.t.one;have yh:=hy.h.one;have yr:=hy.r.one;have yq:=hy.q.one;have gx:=ph x.vo x.vc x.vt x.vh S.N x.vr x.vq;have gy:=ph y.vo y.vc y.vt y.vh S.N y.vr y.vq;obtain⟨U,hU⟩: ∃U,U=N3 x.vo x.vc x.vt x.vh S.N x.vr x.vq:=⟨_,rfl⟩
 obtain⟨W,hW⟩: ∃W,W=N3 y.vo y.vc y.vt y.vh S.N y.vr y.vq:=⟨_,rfl⟩
 have u0:(toArray U)[0]?=some x.vo:=by rw[hU];rfl
 have u1:(toArray U)[1]?=some x.vc:=by rw[hU];rfl
 have u2:(toArray U)[2]?=some x.vt:=by rw[hU];rfl
 have u3:(toArray U)[3]?=some x.vh:=by rw[hU];rfl
 have u5:(toArray U)[84]?=some x.vr:=by rw[hU];exact gx.1
 have u6:(toArray U)[85]?=some x.vq:=by rw[hU];exact gx.2
 have w0:(toArray W)[0]?=some y.vo:=by rw[hW];rfl
 have w1:(toArray W)[1]?=some y.vc:=by rw[hW];rfl
 have w2:(toArray W)[2]?=some y.vt:=by rw[hW];rfl
 have w3:(toArray W)[3]?=some y.vh:=by rw[hW];rfl
 have w5:(toArray W)[84]?=some y.vr:=by rw[hW];exact gy.1
 have w6:(toArray W)[85]?=some y.vq:=by rw[hW];exact gy.2
 have u4:LSub U 4 80 (U4 S.N):=by rw[hU];exact UL ..
 have w4:LSub W 4 80 (U4 S.N):=by rw[hW];exact UL ..
 rw[<-hU,<-hW];clear hU hW gx gy;have hp:=AcB S.N;refine AN func43 ntmps43 λE=>?_;refine Aj ?_;refine AS (CH rfl) ?_;rintro _ _ ⟨b2,_,rfl,rfl⟩;refine AS (CH rfl) ?_;rintro _ _ ⟨b3,_,rfl,rfl⟩;have Sc: ∀(l2:Ac),(∀c,c∈(b3,Obj.cells (toArray W) 52 (0,0))::(b2,Obj.cells (toArray U) 52 (0,0))::l->c∈l2)-> ∀c,c∈l->c∈l2:=λl2 hl c hc=>hl c (.tail _ (.tail _ hc));refine Aj ?_;refine Bh (AL rfl rfl (λl2 hl=>Sl Ar.obC tW AcA x.vo y.vo S.A.os S.A.os l2 (OwnSl.rowSl hx.o (λ_=>rfl) λc hc=>Sc l2 hl c (qM c (.inl hc))) (OwnSl.rowSl hy.o (λ_=>rfl) λc hc=>Sc l2 hl c (zS c (.inl hc))) Af)) ?_;rw[Au rfl];refine Aj ?_;refine NY (AL rfl rfl (λl2 hl=>WZ Oy ml xI x.vc y.vc (DM S.H.1) (DM S.H.1) l2 (OwnSl.rowSl hx.c (λ_=>rfl) λc hc=>Sc l2 hl c (qM c (.inr (.inl hc)))) (OwnSl.rowSl hy.c (λ_=>rfl) λc hc=>Sc l2 hl c (zS c (.inr (.inl hc)))) Af)) rfl rfl rfl ?_;rw[Au rfl];refine Aj ?_;refine NY (AL rfl rfl (λl2 hl=>Tr.sameNodes_any Tr.nV zm AfE x.vt y.vt S.H.2 S.H.2 l2 (OwnSl.rowSl hx.t (λ_=>rfl) λc hc=>Sc l2 hl c (qM c (.inr (.inr (.inl hc))))) (OwnSl.rowSl hy.t (λ_=>rfl) λc hc=>Sc l2 hl c (zS c (.inr (.inr (.inl hc))))) Af)) rfl rfl rfl ?_;rw[Au rfl];refine Aj ?_;refine NY (AL rfl rfl (λl2 hl=>Sm Th.encH Th.encH_inj Th.encH_k x.vh y.vh S.T S.T l2 (OwnSl.rowSl hx.h (λ_=>rfl) λc hc=>Sc l2 hl c (qM c (.inr (.inr (.inr (.inl hc)))))) (OwnSl.rowSl hy.h (λ_=>rfl) λc hc=>Sc l2 hl c (zS c (.inr (.inr (.inr (.inl hc)))))) Af)) rfl rfl rfl ?_;rw[Au rfl];refine Aj ?_;refine NY (Ge rfl (.tail _ (.head _)) u4) rfl rfl rfl ?_;refine Aj ?_;refine NY (Ge rfl (.head _) w4) rfl rfl rfl ?_;refine NY (Ys rfl rfl hp) rfl rfl rfl ?_;refine Aj ?_;refine NY (AL rfl rfl (λl2 hl=>Nj x.vr y.vr S.U S.U l2 (hx.r.intsC hx.l λc hc=>Sc l2 hl c (qM c (.inr (.inr (.inr (.inr (.inl hc))))))) (hy.r.intsC hy.l λc hc=>Sc l2 hl c (zS c (.inr (.inr (.inr (.inr (.inl hc))))))) Af)) rfl rfl rfl ?_;rw[Au rfl];refine Aj ?_;refine NY (AL rfl rfl (λl2 hl=>Nj x.vq y.vq (tS S.Q) (tS S.Q) l2 (hx.q.intsQ λc hc=>Sc l2 hl c (qM c (.inr (.inr (.inr (.inr (.inr hc))))))) (hy.q.intsQ λc hc=>Sc l2 hl c (zS c (.inr (.inr (.inr (.inr (.inr hc))))))) Af)) rfl rfl rfl ?_;rw[Au rfl];refine Aj ?_;exact Bb (l':=l) (.drop (.drop .refl)) ⟨rfl,rfl⟩
theorem AfF(b:Nat)(p:RP)(s:RL)(S:KT)(X A G:Ac):Keep (X++Ax b p s S (A++G)) (X++(A++(Ax b p s S []++G))):=by unfold Ax;exact A8 []
section
variable{st:List (Int×List Ia)}{l:Ac}
theorem pj(hK:IsK F C k S p s)(f:Int)(A G:Ac):Fn prog 87 [pV p.m,.int .i64 f] (A++(Ax b p s S []++G)) λv l'=> ∃sl X e,v= .tuple #[sl,iV e]/\IsWd S.W f sl X/\l'=X++(A++(Ax b p s S []++G)):=
 Fn.re (.of_perm (zd ..)) (bR (b:=b) (G:=A++G) hK f) λv l' ⟨sl,X,e,h1,h2,h3⟩=>⟨_,by rw[h3];exact AfF ..,sl,X,e,h1,h2,rfl⟩
theorem IsWd.one{W:A4}{f:Int}{v:Value}{X:Ac}(h:IsWd W f v X):v.oneCell'=true:=by
 unfold IsWd at h
 split at h
 ·obtain⟨B,rfl,_⟩:=h;rfl
 ·rw[h.1];rfl
theorem di(hW:IsWo F C k S th st wb l)(f:Int)(G:Ac):Fn prog 60 [pV wb,.int .i64 f] (l++G) λv l'=> ∃X,IsWd S.W f v X/\l'=X++(l++G):=by
 obtain⟨b,kb,p,s,vt,vs,ct,cs,rows,cn,hK,ht,hs,K3,um,hl⟩:=hW.ex;obtain⟨A,hA⟩: ∃A,[de wb kb vt vs,PE kb b]++ct++cs++cn=A:=⟨_,rfl⟩
 have mw:de wb kb vt vs∈A:=by rw[<-hA];simp
 have mk:PE kb b∈A:=by rw[<-hA];simp
 rw[show l++G=A++(Ax b p s S []++G) by rw[hl,Acw,hA]];have mw':de wb kb vt vs∈A++(Ax b p s S []++G):=Ai _ mw;have mk':PE kb b∈A++(Ax b p s S []++G):=Ai _ mk;have mr':CF b p∈A++(Ax b p s S []++G):=Aa _ (Ai _ (.head _));refine AN func60 ntmps60 λE=>?_;refine Aj ?_;refine Bh (AL rfl rfl λl2 hl=>UK kb b l2 (hl _ mk')) ?_;refine Bh (AL rfl rfl λl2 hl=>Ul b p l2 (hl _ mr')) ?_;refine Aj ?_;refine AS (Az (vs:=[pV p.m,.int .i64 f]) rfl rfl (pj hK f A G)) ?_;rintro _ _ ⟨sl,X,e,rfl,hd,rfl⟩;have Jz:sl.oneCell'=true:=hd.one;refine Aj ?_;refine Bb .refl ?_;exact⟨X,hd,rfl⟩
theorem IsWo.w(hW:IsWo F C k S th st wb l):S.W.length=F*8/\F<=64:=by obtain⟨b,kb,p,s,vt,vs,ct,cs,rows,cn,hK,_⟩:=hW.ex;obtain⟨gb,_,h2,h3,_⟩:=hK.mem;exact⟨h3,h2⟩
theorem OwnSl.le{e:Nat}{p:Option Addr}{xs:Ap}{cs:Ac}(h:OwnSl e k (.slice p n cap) n xs cs):n<=cap:=by
 rcases h.2 with⟨_,h2,_⟩|⟨b,cp,sp,h1,_,h2,_⟩
 ·omega
 ·cases h1;exact h2
theorem AfG(c X l G:Ac):(c++(X++(l++G))).Perm (l++(c++(X++G))):=BX
theorem AfH(Y c X l G:Ac):(Y++(l++(c++(X++G)))).Perm (c++((Y++X)++(l++G))):=BX
theorem UN(hW:IsWo F C k S th st wb l)(G:Ac):Fn prog 37 [pV wb] (l++G) λv l'=> ∃c X,OwnSl 34 1 v S.W.length (S.W.map Be) c/\l'=c++(X++(l++G)):=by
 obtain⟨hw,hF⟩:=hW.w;have hnF:nF S.W=F:=by unfold nF;omega
 refine AN func37 ntmps37 λE=>?_;refine Aj ?_;refine CN (α:=Nat×Value×Ac×Ac) (λx=>[(0,pV wb),(3,x.2.1),(4,.int .i64 x.1)]) (λx=>x.2.2.1++(x.2.2.2++(l++G))) (λx=>x.1<=64/\OwnSl 34 1 x.2.1 (S.W.take (8*x.1)).length ((S.W.take (8*x.1)).map Be) x.2.2.1) (λx=>64-x.1) (0,.slice none 0 0,[],[]) ⟨Af,.nil _ _⟩ ⟨rfl,rfl,rfl,trivial⟩ .refl ?_;rintro⟨i,v,c,X⟩ ⟨hi,ho⟩;simp only at hi ho⊢;have Jz:v.oneCell'=true:=ho.one;by_cases C9:i<64
 ·refine Aj ?_;refine Bs (.of_perm (AfG ..)) ?_;refine AS (Az (vs:=[pV wb,.int .i64 i]) rfl rfl (di hW i _)) ?_;rintro sl _ ⟨Y,hd,rfl⟩;have Sn:sl.oneCell'=true:=hd.one;refine Bs (.of_perm (AfH ..)) ?_;have hl:(S.W.take (8*i)).length<=512:=by rw[Dk];omega
  unfold IsWd at hd;by_cases hf:(i:Int)<F
  ·rw[Ad (by rw[hnF];omega)] at hd;obtain⟨B,rfl,rfl⟩:=hd;rw[A0];obtain⟨D,hD⟩: ∃D,(S.W.drop (8*i)).take 8=D:=⟨_,rfl⟩
   have hDl:D.length=8:=by rw[<-hD,Dk,DN];omega
   have qF:S.W.take (8*(i+1))=S.W.take (8*i)++D:=by rw[<-hD,<-List.take_add];rfl
   rw[hD];refine AS (GG (e:=34) (k:=1) (n:=(S.W.take (8*i)).length) (m:=8) (news:=D.map Be) (zs:=[Be 0]) (cl:=toArray (D.map Be)) rfl rfl rfl ho (Aa _ (.head _)) (λj u hj=>by rw[BF,AE];exact hj) (by simp[hDl]) (λu hu=>by obtain⟨w,_,rfl⟩:=Av.1 hu;rfl) (by unfold maxLen;omega) Af) ?_;rintro v' _ ⟨c',dv,rfl⟩;have Jz:v'.oneCell'=true:=dv.one;refine Aj ?_;refine BO (i+1,v',c',_) ⟨by simp only;omega,?_⟩ (by simp only;omega) ⟨rfl,rfl,rfl,trivial⟩ .refl;simp only;rw[qF,Ah,Aq,hDl];exact dv
  ·rw[Ab (by rw[hnF];omega)] at hd;obtain⟨rfl,rfl⟩:=hd;have qF:S.W.take (8*(i+1))=S.W.take (8*i):=by rw[BD Af,BD Af]
   obtain⟨p,cp,rfl⟩:=ho.shape;refine Bh (Yp rfl rfl ho.le) ?_;refine Aj ?_;refine BO (i+1,_,c,_) ⟨by simp only;omega,?_⟩ (by simp only;omega) ⟨rfl,rfl,rfl,trivial⟩ .refl;simp only;rw[qF];exact ho
 ·obtain rfl:i=64:=by omega
  refine Aj ?_;refine Bb .refl ⟨c,X,?_,rfl⟩;rw[BD Af] at ho;exact ho
end
theorem pk(F C T:Int)(sh:Bool)(l:Ac):Fn prog 17 [cfA F C T sh] l λv l'=>
 (NT F C T=false/\v= .pointer none/\l'=l)\/(NT F C T=true/\ ∃wb lw,v=pV wb/\IsWo F.toNat C.toNat 840 (I4 F.toNat C.toNat T.toNat sh) (XD F.toNat T.toNat sh) [] wb lw/\l'=lw++l):=by
 refine AN func17 ntmps17 λE=>?_;refine Aj ?_;refine AS (CH rfl) ?_;rintro _ _ ⟨b1,_,rfl,rfl⟩;refine Aj ?_;refine AS (Az (vs:=[cfA F C T sh]) rfl rfl (ZJ F C T sh _)) ?_;rintro _ _ (⟨N8,rfl,rfl⟩|⟨N8,wb,lw,rfl,hW,rfl⟩)
 ·refine Aj ?_;exact Bb (.drop .refl) (.inl ⟨N8,rfl,rfl⟩)
 ·refine Aj ?_;exact Bb (l':=lw++l) (.trans (.of_perm AI) (.drop .refl)) (.inr ⟨N8,wb,lw,rfl,hW,rfl⟩)
end Go.Proofs.YtlifcingifodfaaGreat
