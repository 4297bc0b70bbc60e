/- Laws. -/
import Derived.Test.YtlifcingifodfaaGreatGd20
set_option maxHeartbeats 4000000
set_option linter.all false
namespace Go.Proofs.YtlifcingifodfaaGreat
open Tryz
open List renaming toArray→τ
open Go.RowKit
set_option maxRecDepth 20000
variable{S S':KT}{c:CapT}{t id m f left:Int}{n k a F C b:Nat}{A:Ar.ArT}{H:HS}{D:SD}{s x y:Ch}{o:Ja}{p:RP}{os:List Ar.ObT}{e:ME}{K:List IQ}{r:CapT×Int}
def doA(S:KT)(e:ME):(List NoT×Int)×KT:=
 if e.kd=1 then(([],(Kw S e.co e.th).1),(Kw S e.co e.th).2)
 else if e.kd=2\/e.kd=3\/e.kd=4 then N1 S e
 else if e.kd=5\/e.kd=6 then(([],(MC S e).1),(MC S e).2)
 else(([],2),S)
def FZ(S:KT)(e:ME):(List NoT×Int)×KT:=((doA S e).1,if(doA S e).1.2=0 then HW (doA S e).2 else(doA S e).2)
abbrev NS(co:Int)(sl:Value):Ap:=[iV co,sl]
section
variable{s:RL}{G:Ac}
def KSt(F C b:Nat)(p:RP)(k:Nat)(xs:List NoT)(co:Int)(S:KT)(G:Ac):Value->Ac->Prop:=λv l'=> ∃sl cs s L,v= .agg (τ (NS co sl))/\OwnSl 69 12 sl xs.length (HY xs) cs/\IsK F C k S p s/\Tail L G/\l'=cs++AA b p s S L
theorem Aaj{P:Program}{ro:Option Nat}{N:Nat}{E:World}{Q1:Act->World->Prop}{Q2:Exit->Act->World->Prop}{c:Code}{fr:Fr}{ds:List Deferred}{l:Ac}{α:Type}{j:Nat}(fx:α->Fr)(lx:α->Ac)(pre:α->Prop)(h1:BS P ro N E c (Exit.inBlock j (Exit.then (eR N E fx ds lx pre) Q2)) fr ds l)(h2: ∀x,pre x->C3 N E (Exit.then Q1 Q2) .normal (fx x) ds (lx x)):BS P ro N E c (Exit.inBlock j (Exit.then Q1 Q2)) fr ds l:=
 ⟨λa W hf hds hs=>wpIn_mono (h1.run a W hf hds hs) λe a' W' h=>by
   cases e with
   |normal=>obtain⟨y,h3,h4,h5,h6⟩:=h;exact(h2 y h3).run a' W' h4 h5 h6
   |exit i=>
    simp only[Exit.inBlock] at h⊢;by_cases hi:i=j
    ·rw[Ad hi] at h⊢;obtain⟨y,h3,h4,h5,h6⟩:=h;exact(h2 y h3).run a' W' h4 h5 h6
    ·rw[Ab hi] at h⊢;exact h
   |_=>exact h⟩
abbrev Iw(B:Nat)(co:Int)(sl:Value):Bh:=(B,.cells (τ (NS co sl)) 32 (0,0))
abbrev KO:Value:= .slice none 0 0
theorem Agx(e:ME)(hK:IsK F C (k+gV e) S p s)(kb:Nat)(hk:PY kb b∈G)(he:aI e):Fn prog 51 [pV kb,NR e] (AA b p s S G) (KSt F C b p k (FZ S e).1.1 (FZ S e).1.2 (FZ S e).2 G):=by
 have mr:CH b p∈AA b p s S G:=mR λ_ h=>h;have mk:PY kb b∈AA b p s S G:=mG (λ_ h=>h) _ hk;have LF:=λ(G:Ac) (hk:PY kb b∈G)=>Aai (G:=G) e hK kb hk he;have hpi:=λ(G:Ac) (hk:PY kb b∈G)=>Aab (G:=G) hK kb hk e.co e.th;have hca:=λ(G:Ac) (hk:PY kb b∈G)=>uG (G:=G) hK kb hk e;unfold FZ;obtain⟨R,hR⟩:=ξ (doA S e)
 rw[hR];unfold doA at hR;refine AO func51 ntmps51 λE=>?_;refine AR λb3=>?_;refine AR λb4=>?_;refine AR λb5=>?_;refine Aaj (α:=RL×Ac×Value×Ac) (λ_=>[(0,pV kb),(4,pV b4),(5,pV b5)]) (λz=>Iw b5 R.1.2 z.2.2.1::Iw b4 0 KO::AA b p z.1 R.2 (z.2.2.2++z.2.1)) (λz=>IsK F C k R.2 p z.1/\Tail z.2.1 G/\OwnSl 69 12 z.2.2.1 R.1.1.length (HY R.1.1) z.2.2.2) ?_ ?_
 ·by_cases h1:e.kd=1
  ·rw[Ad h1] at hR;subst hR;refine Aj ?_;refine Bt (.of_perm (Fv b p s S [Iw b5 2 KO,Iw b4 0 KO,Qn b3 e] G)) ?_;refine AP (Az (vs:=[pV kb,ι e.co,ι e.th]) rfl rfl (hpi _ (Aa _ hk))) ?_;rintro _ _ ⟨rfl,s1,L1,ED,DO,rfl⟩;obtain⟨L2,Qr,P1⟩:=Hr (b:=b) (p:=p) (s:=s1) (S:=(Kw S e.co e.th).2) DO;refine Bt (.of_perm (l':=Iw b5 2 KO::Iw b4 0 KO::Qn b3 e::AA b p s1 (Kw S e.co e.th).2 L2) P1) ?_;refine Aj ?_;exact EM (s1,L2,KO,[]) ⟨ED.mono Af,Qr,OwnSl.nil _ _⟩ ⟨rfl,rfl,rfl,trivial⟩ AY
  rw[Ab h1] at hR;by_cases h2:e.kd=2\/e.kd=3\/e.kd=4
  ·rw[Ad h2] at hR;rw[hR] at LF;rcases h2 with h2|h2|h2;all_goals
    refine Aj ?_;refine Bt (.of_perm (Fv b p s S [Iw b5 2 KO,Iw b4 0 KO,Qn b3 e] G)) ?_;refine AP (Az (vs:=[pV kb,NR e]) rfl rfl (LF _ (Aa _ hk))) ?_;rintro _ _ ⟨sl,cs,s1,L1,rfl,Gc,ED,DO,rfl⟩;obtain⟨L2,Qr,P1⟩:=Hr (b:=b) (p:=p) (s:=s1) (S:=R.2) DO;obtain⟨pp,cap,rfl⟩:=Gc.shape;refine Bt (.of_perm (l':=Iw b5 2 KO::Iw b4 0 KO::Qn b3 e::AA b p s1 R.2 (cs++L2)) ((P1.append_left cs).trans (by unfold AA;exact δ))) ?_;refine Aj ?_;exact EM (s1,L2,_,cs) ⟨ED,Qr,Gc⟩ ⟨rfl,rfl,rfl,trivial⟩ AY
  rw[Ab h2] at hR;by_cases h3:e.kd=5\/e.kd=6
  ·rw[Ad h3] at hR;subst hR;rcases h3 with h3|h3;all_goals
    refine Aj ?_;refine Bt (.of_perm (Fv b p s S [Iw b5 2 KO,Iw b4 0 KO,Qn b3 e] G)) ?_;refine AP (Az (vs:=[pV kb,NR e]) rfl rfl (hca _ (Aa _ hk))) ?_;rintro _ _ ⟨rfl,s1,L1,ED,DO,rfl⟩;obtain⟨L2,Qr,P1⟩:=Hr (b:=b) (p:=p) (s:=s1) (S:=(MC S e).2) DO;refine Bt (.of_perm (l':=Iw b5 2 KO::Iw b4 0 KO::Qn b3 e::AA b p s1 (MC S e).2 L2) P1) ?_;refine Aj ?_;exact EM (s1,L2,KO,[]) ⟨ED.mono Af,Qr,OwnSl.nil _ _⟩ ⟨rfl,rfl,rfl,trivial⟩ AY
  rw[Ab h3] at hR;subst hR;refine Aj ?_;exact EM (s,G,KO,[]) ⟨hK.mono Af,.nil,OwnSl.nil _ _⟩ ⟨rfl,rfl,rfl,trivial⟩ AY
 rintro⟨s1,L1,sl,cs⟩ ⟨ED,DO,Gc⟩;obtain⟨pp,cap,rfl⟩:=Gc.shape;dsimp only;have G6:CH b p∈AA b p s1 R.2 (cs++L1):=mR λ_ h=>h;have mk1:PY kb b∈AA b p s1 R.2 (cs++L1):=mG (λ_ h=>h) _ (Aa _ (by obtain⟨X,rfl⟩:=DO;exact Aa _ hk));by_cases h0:R.1.2=0
 case neg=>rw[Ab h0];refine Aj ?_;exact AU (vs:=[.agg (τ (NS R.1.2 (.slice pp R.1.1.length cap)))]) [] _ rfl .refl (B0 rfl ν (As.LSub.of_all (n:=2) (NS R.1.2 (.slice pp R.1.1.length cap)) rfl) .nil) (.drop (.drop (.of_perm (Fv b p s1 R.2 cs L1).symm))) ⟨_,cs,s1,L1,rfl,Gc,ED,DO,rfl⟩
 rw[Ad h0];refine Aj ?_;refine Gt ?_;intro S2 s2 L2 hS2 Gd F4 Ig;obtain⟨L3,hL3,Yp⟩:=Hr (b:=b) (p:=p) (s:=s2) (S:=S2) F4;refine Aj ?_;exact AU (vs:=[.agg (τ (NS R.1.2 (.slice pp R.1.1.length cap)))]) [] _ rfl .refl (B0 rfl ν (As.LSub.of_all (n:=2) (NS R.1.2 (.slice pp R.1.1.length cap)) rfl) .nil) (.drop (.drop (.of_perm Yp))) ⟨_,cs,s2,L3,rfl,Gc,by rw[<-hS2];exact Gd,hL3.trans DO,by rw[<-hS2]⟩
end
def RzT(t:Th.ThT):Prop:=t.hs=false->t.wr=false/\t.va=0/\t.vl=0
def Ky(D:SD)(c:CapT):Prop:= ∃x,x∈D/\c∈x.2
def From(S:KT)(c:CapT):Prop:=c.kind=0\/ ∃d,Ky S.H.1 d/\d.kind=c.kind/\d.obj=c.obj
def RgS(K K':List IQ):Prop:= ∀c',c'∈K'->(∃c,c∈K/\c'.ro=c.ro/\c'.sp=c.sp)\/Ml c'.ro c'.sp
inductive uP(N:As.ASt):As.ASt->Prop
 |refl:uP N N
 |add (o:Int):uP N (As.addP N o).2.2
 |ass (o r:Int):uP N (As.assignP N o r).2.2.2
 |un (r:Int):uP N (As.unP N r).2.2
 |drop (o:Int):uP N (As.dropP N o).2.2
structure Hs(P:KT->Prop):Prop where
 free: ∀{S:KT} (Q:Nat->A8) (E:En.DE) (W:A8) (U:A8) (N:As.ASt),uP S.N N->P S->P {S with Q:=Q,E:=E,W:=W,U:=U,N:=N}
 core: ∀{S:KT} {K:List IQ},P S->RgS S.K K->P {S with K:=K}
 set: ∀{S:KT} {t:Th.ThT},P S->RzT t->P (DZ S t)
 rz: ∀{S:KT},P S-> ∀id,RzT (DJ S id)
 hold: ∀{S:KT} {H':HS},P S->(∀c,Ky H'.1 c->From S c)->P {S with H:=H'}
 place: ∀{S:KT} (id a b c:Int),P S->P {S with A:=(Ar.placeD S.A id a b c).2}
 mark: ∀{S:KT} (id m:Int),P S->P {S with A:=(Ar.markD' S.A id m).2}
 unm: ∀{S:KT} (id:Int),P S->P (SG S id).2
structure Cl(P:KT->Prop):Prop extends Hs P where
 one: ∀{S:KT} (x:Ch) (k z f:Int) (q:Int×Ch),P S->P (PX x k z f S q)
theorem RgS.refl(K:List IQ):RgS K K:=λc h=> .inl ⟨c,h,rfl,rfl⟩
theorem RgS.tr{L M:List IQ}(h1:RgS K L)(h2:RgS L M):RgS K M:=λc hc=>by
 rcases h2 c hc with⟨d,hd,e1,e2⟩|h
 ·rcases h1 d hd with⟨x,hx,e3,e4⟩|h
  ·exact .inl ⟨x,hx,e1.trans e3,e2.trans e4⟩
  ·exact .inr (by rw[e1,e2];exact h)
 ·exact .inr h
theorem RgS.drop(K:List IQ)(f:M9->Bool):RgS K (IZ K f):=λc hc=>by obtain⟨d,hd,rfl⟩:=Ax.1 hc;exact .inl ⟨d,hd,rfl,rfl⟩
theorem RgS.drops: ∀(l:A8) (K:List IQ),RgS K (l.foldl (λK n=>IZ K (Rs n)) K)
 |[],K=> .refl K
 |n::l,K=>(RgS.drop K (Rs n)).tr (RgS.drops l _)
theorem RgS.set{n:Int}(h:NI K n=0)(t:LQ):RgS K (K.set n.toNat {Rt K n with tb:=t}):=λc hc=>by
 have hn:n.toNat<K.length:=by
  by_cases h2:n<0\/n>=K.length
  ·have e:NI K n=3:=Ad h2;rw[e] at h;cases h
  ·omega
 rcases CS hc with h1|h1
 ·exact .inl ⟨c,h1,rfl,rfl⟩
 ·refine .inl ⟨K[n.toNat],Ib hn,?_,?_⟩<;>(rw[h1];simp only[Rt,A4,Ak hn,Dl])
theorem RgS.trans'(K:List IQ)(W:A8)(n pg:Int):RgS K (DW K W n pg).2:=by
 unfold DW
 split
 ·exact .refl K
 rename_i h
 split
 ·exact .refl K
 split
 ·exact .refl K
 split
 ·exact .refl K
 split
 ·exact .refl K
 ·exact .set (Eo.1 h) _
theorem RgS.ev(K:List IQ)(n st wy:Int):RgS K (nY K n st wy).2:=by
 unfold nY
 split
 ·exact .refl K
 ·rename_i h;exact .set (Eo.1 h) _
theorem RgS.setC(K:List IQ)(n r s:Int):RgS K (setC K n r s).2:=by
 unfold Go.Proofs.YtlifcingifodfaaGreat.setC
 split
 ·exact .refl K
 split
 ·exact .refl K
 ·rename_i h;intro c hc;rcases CS hc with h1|h1
  ·exact .inl ⟨c,h1,rfl,rfl⟩
  ·exact .inr (by rw[h1];exact Eo.1 h)
theorem LD{d:CapT}(h:Ky (Fc D s c) d):d=c\/Ky D d:=by
 obtain⟨x,hx,hd⟩:=h;unfold Fc at hx;obtain⟨y,hy,rfl⟩:=Ax.1 hx
 split at hd
 ·rcases CS hd with h|h
  ·exact .inr ⟨y,hy,h⟩
  ·exact .inl h
 ·exact .inr ⟨y,hy,hd⟩
section
variable{d:CapT}
theorem From.self(h:Ky S.H.1 c):From S c:= .inr ⟨c,h,rfl,rfl⟩
theorem From.of(hd:From S d)(h1:d.kind=c.kind)(h2:d.obj=c.obj):From S c:=by
 rcases hd with h|⟨e,he,h3,h4⟩
 ·exact .inl (by rw[<-h1];exact h)
 ·exact .inr ⟨e,he,by rw[h3,h1],by rw[h4,h2]⟩
theorem From.at(S:KT)(s:Ch):From S (Dv S.H.1 s):=by
 unfold Dv
 split
 ·rename_i x hx;rw[A4];cases e:x.2[s.2.toNat]? with
  |none=>exact .inl rfl
  |some c=>exact .self ⟨x,(Fb hx).1,Bg e⟩
 ·exact .inl rfl
theorem From.cp(S:KT)(s:Ch):From S (Ep S s):=by
 show From S (getD' S.H.1 s).1;unfold getD'
 split
 ·exact From.at S s
 ·exact .inl rfl
theorem Ts:(Ea c m).2=0->c.kind=(Ea c m).1.kind/\c.obj=(Ea c m).1.obj:=by
 unfold Ea
 repeat' split
 all_goals first|exact λ_=>⟨rfl,rfl⟩|exact λh=>absurd h A0
theorem pZ{m:Nat}:(Ud c m).2=0->c.kind=(Ud c m).1.kind/\c.obj=(Ud c m).1.obj:=by
 unfold Ud
 repeat' split
 all_goals first|exact λ_=>⟨rfl,rfl⟩|exact λh=>absurd h A0
theorem gW:(HT c m n).2=0->c.kind=(HT c m n).1.kind/\c.obj=(HT c m n).1.obj:=by
 unfold HT
 split
 ·rename_i h;exact λh2=>absurd h2 h
 ·rename_i h;intro h2;have h3:=Ts (Eo.1 h);have h4:=pZ h2;exact⟨h3.1.trans h4.1,h3.2.trans h4.2⟩
theorem U4{a b:Ch}{r:CapT}(hc:Ky (It H a b r).2.1 c):c=r\/Ky H.1 c:=by
 unfold It at hc
 repeat' split at hc
 all_goals first|exact .inr hc|exact LD hc
theorem p7{a b:Ch}(hc:Ky (F7 H a b r).2.1 c):(r.2=0/\c=r.1)\/Ky H.1 c:=by
 unfold F7 at hc
 split at hc
 ·exact .inr hc
 split at hc
 ·exact .inr hc
 ·rename_i h;rcases U4 hc with h1|h1
  ·exact .inl ⟨Eo.1 h,h1⟩
  ·exact .inr h1
end
namespace Hs
variable{P:KT->Prop}{S:KT}
theorem fQ(h:Hs P)(hS:P S)(x:Nat->A8):P {S with Q:=x}:=h.free x S.E S.W S.U S.N .refl hS
theorem fE(h:Hs P)(hS:P S)(x:En.DE):P {S with E:=x}:=h.free S.Q x S.W S.U S.N .refl hS
theorem fW(h:Hs P)(hS:P S)(x:A8):P {S with W:=x}:=h.free S.Q S.E x S.U S.N .refl hS
theorem fK(h:Hs P)(hS:P S){x:List IQ}(hx:RgS S.K x):P {S with K:=x}:=h.core hS hx
theorem fU(h:Hs P)(hS:P S)(x:A8):P {S with U:=x}:=h.free S.Q S.E S.W x S.N .refl hS
theorem fN(h:Hs P)(hS:P S){x:As.ASt}(hx:uP S.N x):P {S with N:=x}:=h.free S.Q S.E S.W S.U x hx hS
theorem all(h:Hs P)(hS:P S)(Q:Nat->A8)(E:En.DE)(W:A8)(U:A8)(N:As.ASt)(hN:uP S.N N){K:List IQ}(hK:RgS S.K K):P {S with Q:=Q,E:=E,W:=W,K:=K,U:=U,N:=N}:=
 h.core (S:={S with Q:=Q,E:=E,W:=W,U:=U,N:=N}) (h.free Q E W U N hN hS) hK
theorem placeW(h:Hs P)(hS:P S)(W:A8)(id a b c:Int):P {S with W:=W,A:=(Ar.placeD S.A id a b c).2}:=h.place (S:={S with W:=W}) id a b c (h.fW hS W)
theorem kj{α:Type}{f:KT->α->KT}(hf: ∀S x,P S->P (f S x)): ∀(l:List α) (S:KT),P S->P (l.foldl f S)
 |[],_,h=>h
 |x::l,S,h=>kj hf l (f S x) (hf S x h)
theorem der(h:Hs P)(hS:P S)(a b:Ch)(r:CapT×Int)(hr:r.2=0->From S r.1):P {S with H:=(F7 S.H a b r).2}:=
 h.hold hS λc hc=>(p7 hc).elim (λ⟨h1,h2⟩=>h2▸hr h1) From.self
theorem copy(h:Hs P)(hS:P S)(a b:Ch)(m:Int):P {S with H:=(F7 S.H a b (Ea (Dv S.H.1 a) m)).2}:=
 h.der hS a b _ λe=>(From.at S a).of (Ts e).1 (Ts e).2
theorem st(h:Hs P)(hS:P S)(id st:Int):P (O1 S id st).2:=by
 unfold O1
 split
 ·exact hS
 ·dsimp only
  split
  ·exact h.fQ (h.set (t:={DJ S id with st:=st}) hS (h.rz hS id)) _
  ·exact h.fQ (h.set (t:={DJ S id with st:=st}) hS (h.rz hS id)) _
theorem fr(h:Hs P)(hS:P S)(id:Int):P (ze S id):=by
 unfold ze
 split
 ·exact h.set (t:={DJ S (Th.serverD S.T id) with ca:=0}) hS (h.rz hS (Th.serverD S.T id))
 ·exact hS
theorem haltE(h:Hs P)(hS:P S)(id:Int):P (haltE S id).2:=h.st (h.set (t:=gh (DJ S id)) hS λ_=>⟨rfl,rfl,rfl⟩) id 0
theorem halt(h:Hs P)(hS:P S)(id:Int):P (I9 S id).2:=by
 unfold I9
 split
 ·exact hS
 ·exact h.haltE (h.fr (h.fE hS _) _) _
theorem unh1(h:Hs P)(hS:P S)(c:CapT):P (M5 S c):=by
 unfold M5
 split
 ·exact h.all hS S.Q S.E _ S.U S.N .refl (.drop _ _)
 ·exact hS
theorem off1(h:Hs P)(hS:P S)(id:Int):P (Sk S id):=by
 unfold Sk
 split
 ·exact h.place (S:={S with W:=_,K:=_}) id 0 0 0 (h.all hS S.Q S.E _ S.U S.N .refl (.drop _ _))
 ·exact hS
theorem off(h:Hs P)(hS:P S)(id:Int):P (Qk S id).2:=by
 unfold Qk
 split
 ·exact hS
 split
 ·exact h.off1 hS id
 split
 ·refine h.all hS S.Q S.E S.W S.U _ (.un _) ?_
  split
  ·exact .drop _ _
  ·exact .refl _
 split
 ·exact h.all hS S.Q S.E S.W S.U _ (.drop _) (.drops _ _)
 ·exact hS
theorem endT(h:Hs P)(hS:P S)(id:Int):P (endT S id):=by
 unfold Go.Proofs.YtlifcingifodfaaGreat.endT
 split
 ·have h1:=h.halt hS (DJ S id).ca;exact h.set (t:={DJ (I9 S (DJ S id).ca).2 id with ca:=0}) h1 (h.rz h1 id)
 ·exact hS
theorem ends(h:Hs P)(hS:P S)(c:CapT):P (K8 S c):=by
 unfold K8
 split
 ·exact h.off hS _
 split
 ·exact kj (P:=P) (f:=λS t=>(I9 S t).2) (λS x hS=>h.halt hS x) _ _ hS
 split
 ·exact h.endT (h.halt hS _) _
 ·exact hS
theorem clear(h:Hs P)(hS:P S)(x:Ch):P {S with H:=(D3 S.H x).2}:=by
 refine h.hold hS λc hc=>?_;unfold D3 at hc
 repeat' split at hc
 ·exact .self hc
 ·exact .self hc
 ·rcases LD hc with h|h
  ·exact .inl (by rw[h])
  ·exact .self h
theorem dropX(h:Hs P)(hS:P S)(x:Ch):P (dropX S x):=by
 unfold Go.Proofs.YtlifcingifodfaaGreat.dropX
 split
 ·exact h.unh1 (h.clear hS x) _
 ·exact h.clear hS x
theorem dropR(h:Hs P): ∀(m:Nat) (S:KT) (ys:List Ch) (es:A8) (n:Nat),P S->P (dropR m S ys es n).1
 |0,_,_,_,_,hS=>by unfold Go.Proofs.YtlifcingifodfaaGreat.dropR;exact hS
 |_+1,_,[],_,_,hS=>by unfold Go.Proofs.YtlifcingifodfaaGreat.dropR;exact hS
 |m+1,S,x::ys,es,n,hS=>by
  unfold Go.Proofs.YtlifcingifodfaaGreat.dropR
  split
  ·exact h.dropR m _ _ _ _ (h.clear hS x)
  split
  ·exact h.dropR m _ _ _ _ (h.dropX hS x)
  ·exact h.dropR m _ _ _ _ (h.ends (h.dropX hS x) _)
theorem setl(h:Hs P)(hS:P S):P (HW S):=kj (P:=P) (f:=FS) (λS j hS=>by
 refine h.all hS S.Q S.E S.W _ S.N .refl ?_
 split
 ·exact .setC _ _ _ _
 ·exact .setC _ _ _ _) _ _ hS
theorem drop(h:Hs P)(hS:P S)(x:Ch):P (PW S x).2:=h.setl (kj (P:=P) (f:=λS id=>(SG S id).2) (λS id hS=>h.unm id hS) _ _ (h.dropR _ _ _ _ _ hS))
theorem del(h:Hs P)(hS:P S)(x:Ch):P (Oe S x).2:=by
 unfold Oe
 split
 ·exact hS
 ·exact h.drop hS x
theorem revR(h:Hs P): ∀(m:Nat) (S:KT) (x:Ch) (bu n:Nat),P S->P (revR m S x bu n).2
 |0,_,_,_,_,hS=>by unfold Go.Proofs.YtlifcingifodfaaGreat.revR;exact hS
 |m+1,S,x,bu,n,hS=>by
  unfold Go.Proofs.YtlifcingifodfaaGreat.revR
  split
  ·exact hS
  split
  ·exact hS
  split
  ·exact hS
  ·exact h.revR m _ _ _ _ (h.drop hS _)
theorem rev(h:Hs P)(hS:P S)(x:Ch)(bu:Int):P (SI S x bu).2:=by
 unfold SI
 split
 ·exact hS
 split
 ·exact hS
 ·exact h.revR _ _ _ _ _ hS
theorem giv(h:Hs P)(hS:P S)(t u:Th.ThT):P (Re S t u).2:=by
 unfold Re
 split
 ·exact hS
 split
 ·exact h.copy hS _ _ 7
 ·exact hS
theorem hand(h:Hs P)(hS:P S)(t:Th.ThT)(id:Int)(m:O5)(bd:Int):P (Ku S t id m bd).2:=h.set (h.giv hS t _) (h.rz hS id)
theorem calls1(h:Hs P)(hS:P S)(u:Int):P (Lb S u):=by
 unfold Lb
 split
 ·exact hS
 ·exact h.halt hS _
theorem calls(h:Hs P)(hS:P S)(t u:Int):P (Ql S t u):=by have h1:=h.calls1 hS u;exact h.st (h.set (t:={DJ (Lb S u) u with ca:=t}) h1 (h.rz h1 u)) t 4
theorem sendH(h:Hs P)(hS:P S)(x:Th.ThT)(t u:Int)(m:O5)(bd:Int)(cl:Bool):P (sendH S x t u m bd cl).2:=by
 have h1:=h.st (h.hand (h.fE hS (En.removeD S.E u).2) x u m bd) u 1;unfold Go.Proofs.YtlifcingifodfaaGreat.sendH;generalize(O1 (Ku {S with E:=(En.removeD S.E u).2} x u m bd).2 u 1).2=S1 at h1⊢
 split
 ·exact h.calls (h.set (t:={DJ S1 t with cl:=true}) h1 (h.rz h1 t)) _ _
 ·exact h1
theorem send(h:Hs P)(hS:P S)(t:Int)(x:Ch)(m:O5)(gv:Int)(cl:Bool):P (JH S t x m gv cl).2:=by
 unfold JH
 split
 ·exact hS
 split
 ·exact hS
 split
 ·exact hS
 split
 ·exact h.st (h.set (t:=gC m (Ep S x) gv cl (DJ S t)) (h.fE hS (En.waitD S.E (Ep S x).obj t true).2) (h.rz hS t)) t 2
 ·exact h.sendH hS _ _ _ _ _ _
theorem recvW(h:Hs P)(hS:P S)(w:Bool)(id t:Int):P (recvW S w id t):=by
 unfold Go.Proofs.YtlifcingifodfaaGreat.recvW
 split
 ·exact h.calls hS _ _
 ·exact h.st hS _ _
theorem recvH(h:Hs P)(hS:P S)(t id:Int):P (recvH S t id).2:=by have h1:=h.recvW (h.hand (h.fE hS (En.removeD S.E id).2) (DJ S id) t (jZ (DJ S id)) (DJ S id).ob) ((DJ S id).cl||(DJ S id).fa) id t;unfold Go.Proofs.YtlifcingifodfaaGreat.recvH;dsimp only;generalize Go.Proofs.YtlifcingifodfaaGreat.recvW (Ku {S with E:=(En.removeD S.E id).2} (DJ S id) t (jZ (DJ S id)) (DJ S id).ob).2 ((DJ S id).cl||(DJ S id).fa) id t=S1 at h1⊢;exact h.set (t:=pG (DJ S1 id)) h1 (h.rz h1 id)
theorem recv(h:Hs P)(hS:P S)(t:Int)(x:Ch)(inn:Int):P (O9 S t x inn).2:=by
 have h1:P (DZ S {DJ S t with inn:=inn}):=h.set (t:={DJ S t with inn:=inn}) hS (h.rz hS t);unfold O9
 split
 ·exact hS
 split
 ·exact hS
 split
 ·exact hS
 split
 ·exact h.st (h.set (t:={DJ (DZ S {DJ S t with inn:=inn}) t with wa:=(Ep S x).obj}) (h.fE h1 (En.waitD S.E (Ep S x).obj t false).2) (h.rz h1 t)) t 3
 ·exact h.recvH h1 _ _
theorem replyH(h:Hs P)(hS:P S)(ca:Int)(m:O5)(t:Int):P (replyH S ca m t).2:=by
 refine h.st (h.set (t:=O6 m (DJ S (DJ S ca).id)) hS ?_) _ _;unfold O6
 split
 ·exact h.rz hS _
 ·exact h.rz hS _
theorem reply(h:Hs P)(hS:P S)(t:Int)(m:O5):P (LC S t m).2:=by
 unfold LC
 split
 ·exact hS
 split
 ·exact hS
 ·exact h.replyH (h.set (t:={DJ S t with ca:=0}) hS (h.rz hS t)) (DJ S t).ca m t
theorem raise(h:Hs P)(hS:P S)(t:Th.ThT)(x:U0)(f:wX)(hx:x.hs=true):P (NQ S t x f).2:=by
 have h1:P (DZ S (Of t x)):=h.set (t:=Of t x) hS λe=>by have e:x.hs=false:=e;rw[hx] at e;cases e
 have h2:=h.send h1 t.id (t.id,2) (dE f) 4096 true;unfold NQ;generalize(JH (DZ S (Of t x)) t.id (t.id,2) (dE f) 4096 true)=R at h2⊢
 split
 ·exact h.halt h1 _
 ·exact h.set (t:={DJ R.2 t.id with fa:=true,cl:=t.cl}) h2 (h.rz h2 t.id)
theorem findA(h:Hs P)(hS:P S)(core va:Int)(wr:Bool):P (findA S core va wr).2:=by
 unfold Go.Proofs.YtlifcingifodfaaGreat.findA
 repeat' split
 all_goals first|exact hS|exact h.fK hS (.trans' _ _ _ _)
theorem acc(h:Hs P)(hS:P S)(core:Int)(x:U0):P (SK S core x).2:=by
 have h1:=h.findA hS core x.va;unfold SK
 split
 ·unfold oX
  split
  ·exact h1 true
  ·exact h.fW (h1 true) _
 ·unfold kZ
  split
  ·exact h1 false
  split
  ·exact h1 false
  ·exact h1 false
theorem doR(h:Hs P)(hS:P S)(core:Int)(x:U0)(t:Th.ThT):P (doR S core x t).2:=by
 unfold Go.Proofs.YtlifcingifodfaaGreat.doR
 split
 ·exact h.raise (h.acc hS core x) t _ _ rfl
 ·exact h.set (t:=Of t acZ) (h.acc hS core x) λ_=>⟨rfl,rfl,rfl⟩
theorem fdo(h:Hs P)(hS:P S)(core:Int)(x:U0):P (SL S core x).2:=by
 unfold SL
 split
 ·exact hS
 ·exact h.doR hS core x _
theorem fag(h:Hs P)(hS:P S)(core:Int):P (VO S core).2:=by
 unfold VO
 split
 ·exact hS
 split
 ·exact hS
 ·exact h.fdo hS core _
theorem run(h:Hs P)(hS:P S)(core id:Int):P (M4 S core id).2:=by
 unfold M4
 split
 ·exact hS
 split
 ·exact hS
 ·exact h.fU hS _
theorem now(h:Hs P)(hS:P S)(t:Int):P (uv S t):=by
 refine kj (P:=P) (f:=λS j=>dv S t j) (λS j hS=>?_) _ _ hS;unfold dv
 split
 ·exact h.run hS _ _
 ·exact hS
theorem retype(h:Hs P)(h1: ∀{S:KT} (x:Ch) (k z f:Int) (q:Int×Ch),P S->P (PX x k z f S q))(hS:P S)(o:Ja)(x y:Ch):P (GF S o x y).2:=by
 unfold GF
 split
 ·exact hS
 split
 ·exact hS
 split
 ·exact hS
 split
 ·exact hS
 ·exact h.mark _ _ (kj (P:=P) (f:=PX x o.n0 o.n1 _) (λS q hS=>h1 x _ _ _ q hS) _ _ hS)
theorem mapT(h:Hs P)(hS:P S)(x y:Ch)(va:Int):P (Ri S x y va).2:=by
 unfold Ri
 repeat' split
 all_goals first|exact hS|exact h.placeW hS _ _ _ _ _
theorem unmT(h:Hs P)(hS:P S)(x:Ch):P (Sl S x).2:=by
 unfold Sl
 split
 ·exact h.place _ 0 0 0 (h.off1 hS _)
 ·exact hS
theorem setHo(h:Hs P)(hS:P S)(x:Ch)(c:CapT)(hc:From S c):P {S with H:=(PG S.H x c).2}:=by
 refine h.hold hS λd hd=>?_;unfold PG at hd
 repeat' split at hd
 all_goals first|exact .self hd|(rcases LD hd with e|e<;>first|(rw[e];exact hc)|exact .self e)
theorem mapF(h:Hs P)(hS:P S)(x y:Ch)(va ri:Int):P (Rj S x y va ri).2:=by
 unfold Rj
 repeat' split
 all_goals first|exact hS|exact h.all (h.setHo hS x {Ep S x with serial:=(As.ofP S.N (Ep S y).obj).2.1,page:=(Hl va).1} ((From.cp S x).of rfl rfl)) S.Q S.E _ S.U S.N .refl (.drop _ _)
theorem Aak(S:KT)(c:CapT):(M5 S c).H=S.H:=by
 unfold M5
 split<;>rfl
theorem unmF(h:Hs P)(hS:P S)(x:Ch):P (So S x).2:=by
 unfold So
 split
 ·refine h.setHo (h.unh1 hS _) x _ ?_;unfold From;rw[Aak];exact(From.cp S x).of rfl rfl
 ·exact hS
theorem enab(h:Hs P)(hS:P S)(x y:Ch):P (Sm S x y).2:=by
 unfold Sm
 split
 ·exact h.fN hS (.add _)
 ·exact hS
theorem assn(h:Hs P)(hS:P S)(x y:Ch):P (Sn S x y).2:=by
 unfold Sn
 split
 ·exact h.free S.Q S.E _ S.U _ (.ass _ _) hS
 ·exact hS
theorem bind(h:Hs P)(hS:P S)(n:Int)(x y:Ch):P (Rf S n x y).2:=by
 unfold Rf
 split
 ·exact hS
 ·exact h.copy hS y _ 7
theorem unbind(h:Hs P)(hS:P S)(n:Int)(x:Ch):P (K9 S n x).2:=by
 unfold K9
 split
 ·exact hS
 ·exact h.del hS _
theorem resume(h:Hs P)(hS:P S)(x:Ch):P (La S x).2:=by
 unfold La
 split
 ·exact hS
 split
 ·exact hS
 ·exact h.st hS _ _
theorem suspend(h:Hs P)(hS:P S)(x:Ch):P (JG S x).2:=by
 unfold JG
 split
 ·exact hS
 ·exact h.halt hS _
theorem prio(h:Hs P)(hS:P S)(n:Int)(x:Ch):P (Rh S n x).2:=by
 unfold Rh
 split
 ·exact hS
 ·have h1:P (DZ S {DJ S (Ep S x).obj with pr:=n}):=h.set (t:={DJ S (Ep S x).obj with pr:=n}) hS (h.rz hS _);show P (gN _ _ _);unfold gN
  split
  ·exact h.fQ h1 _
  ·exact h.fQ h1 _
theorem swap(h:Hs P)(hS:P S)(x y:Ch):P {S with H:=(Mh S.H x y).2}:=by
 refine h.hold hS λd hd=>?_;unfold Mh at hd
 split at hd
 ·exact .self hd
 ·rcases LD hd with e|e
  ·rw[e];exact From.at S x
  rcases LD e with e|e
  ·rw[e];exact From.at S y
  ·exact .self e
theorem move(h:Hs P)(hS:P S)(x y:Ch):P {S with H:=(JR S.H x y).2}:=by
 refine h.hold hS λd hd=>?_;unfold JR at hd
 split at hd
 ·exact .self hd
 ·rcases LD hd with e|e
  ·rw[e];exact From.at S x
  rcases LD e with e|e
  ·exact .inl (by rw[e])
  ·exact .self e
theorem does(h:Hs P)(hS:P S)(t:Int)(o:Ja)(x y:Ch)(hr:o.op=1->P (GF S o x y).2):P (HZ S t o x y).2:=by
 unfold HZ;by_cases e1:o.op=1
 ·rw[Ad e1];exact hr e1
 rw[Ab e1];by_cases e2:o.op=2
 ·rw[Ad e2];exact h.copy hS x y _
 rw[Ab e2];by_cases e3:o.op=3
 ·rw[Ad e3];exact h.der hS x y _ λe=>(From.at S x).of (gW e).1 (gW e).2
 rw[Ab e3];by_cases e4:o.op=4
 ·rw[Ad e4];exact h.move hS x y
 rw[Ab e4];by_cases e5:o.op=5
 ·rw[Ad e5];exact h.swap hS x y
 rw[Ab e5];by_cases e6:o.op=6
 ·rw[Ad e6];exact h.del hS x
 rw[Ab e6];by_cases e7:o.op=7
 ·rw[Ad e7];exact h.rev hS x _
 rw[Ab e7];by_cases e8:o.op=8
 ·rw[Ad e8];exact h.mapT hS x y _
 rw[Ab e8];by_cases e9:o.op=9
 ·rw[Ad e9];exact h.unmT hS x
 rw[Ab e9];by_cases vZ:o.op=10
 ·rw[Ad vZ];exact h.mapF hS x y _ _
 rw[Ab vZ];by_cases v6:o.op=11
 ·rw[Ad v6];exact h.unmF hS x
 rw[Ab v6];by_cases e12:o.op=12
 ·rw[Ad e12];exact h.enab hS x y
 rw[Ab e12];by_cases e13:o.op=13
 ·rw[Ad e13];exact h.assn hS x y
 rw[Ab e13];by_cases e18:o.op=18
 ·rw[Ad e18];exact h.now (h.fQ hS _) t
 rw[Ab e18];by_cases yp:o.op=19
 ·rw[Ad yp];exact h.bind hS _ x y
 rw[Ab yp];by_cases e20:o.op=20
 ·rw[Ad e20];exact h.unbind hS _ x
 rw[Ab e20];by_cases e21:o.op=21
 ·rw[Ad e21];exact h.resume hS x
 rw[Ab e21];by_cases vX:o.op=22
 ·rw[Ad vX];exact h.suspend hS x
 rw[Ab vX];by_cases e23:o.op=23
 ·rw[Ad e23];exact h.prio hS _ x
 rw[Ab e23];exact hS
theorem says(h:Hs P)(hS:P S)(t:Int)(o:Ja)(x:Ch){r:(List NoT×Int)×KT}(hr:NZ S t o x=some r):P r.2:=by
 unfold NZ at hr
 split at hr
 ·cases hr;exact h.send hS ..
 split at hr
 ·cases hr;exact h.recv hS ..
 split at hr
 ·cases hr;exact h.reply hS ..
 ·cases hr
theorem ordE(h:Hs P)(hS:P S)(t:Int)(o:Ja)(x y:Ch)(hr:o.op=1->P (GF S o x y).2):P (ordE S t o x y).2:=by
 unfold Go.Proofs.YtlifcingifodfaaGreat.ordE
 split
 ·rename_i r hr;exact h.says hS t o x hr
 ·split
  ·exact h.does hS t o x y hr
  ·exact h.does hS t o x y hr
theorem ord(h:Hs P)(hS:P S)(t:Int)(o:Ja)(hr: ∀x y,o.op=1->P (GF S o x y).2):P (KM S t o).2:=by
 unfold KM
 split
 ·exact hS
 split
 ·exact hS
 split
 ·exact hS
 ·exact h.ordE hS t o _ _ (hr _ _)
theorem call(h:Hs P)(hS:P S)(t:Int)(c:N0)(hr: ∀x y,(BW c).1.op=1->P (GF S (BW c).1 x y).2):P (JT S t c).2:=by
 unfold JT
 split
 ·split
  ·exact h.ord hS t _ hr
  ·exact h.ord hS t _ hr
 ·exact hS
theorem step(h:Hs P)(hS:P S)(e:ME)(hr: ∀x y,(BW e.cl).1.op=1->P (GF S (BW e.cl).1 x y).2):P (N1 S e).2:=by
 unfold N1
 split
 ·exact hS
 split
 ·exact hS
 split
 ·exact h.fag hS _
 split
 ·exact h.fdo hS _ _
 split
 ·exact h.fdo hS _ _
 ·exact h.call hS _ _ hr
theorem pick(h:Hs P)(hS:P S)(core t:Int):P (Kw S core t).2:=by
 unfold Kw
 repeat' split
 all_goals first|exact hS|exact h.run hS _ _
theorem cache(h:Hs P)(hS:P S)(e:ME):P (MC S e).2:=by
 unfold MC
 repeat' split
 all_goals first|exact hS|exact h.fK hS (.trans' _ _ _ _)|exact h.fK hS (.ev _ _ _ _)
theorem doA(h:Hs P)(hS:P S)(e:ME)(hr: ∀x y,(BW e.cl).1.op=1->P (GF S (BW e.cl).1 x y).2):P (doA S e).2:=by
 unfold Go.Proofs.YtlifcingifodfaaGreat.doA
 split
 ·exact h.pick hS _ _
 split
 ·exact h.step hS e hr
 split
 ·exact h.cache hS e
 ·exact hS
theorem ev(h:Hs P)(hS:P S)(e:ME)(hr: ∀x y,(BW e.cl).1.op=1->P (GF S (BW e.cl).1 x y).2):P (FZ S e).2:=by
 unfold FZ;dsimp only
 split
 ·exact h.setl (h.doA hS e hr)
 ·exact h.doA hS e hr
end Hs
theorem Cl.ev{P:KT->Prop}(h:Cl P)(hS:P S)(e:ME):P (FZ S e).2:=h.toHs.ev hS e λx y _=>h.toHs.retype h.one hS _ x y
def cS(K:List IQ)(j:Nat)(q:Int×Int):List IQ:=if j<K.length/\Ml q.1 q.2 then K.set j {K.getD j qZ with ro:=q.1,sp:=q.2} else K
theorem gX(K:List IQ)(j:Nat)(r s:Int):(setC K (j:Int) r s).2=cS K j (r,s):=by
 unfold setC cS;by_cases h1:j<K.length
 ·have e:NI K (j:Int)=0:=Ab Af;rw[Ab (by rw[e];simp)];by_cases h2:Ml r s
  ·rw[Ab (by simpa using h2),Ad ⟨h1,h2⟩];simp only[Rt,AV]
  ·rw[Ad h2,Ab λh=>h2 h.2]
 ·have e:NI K (j:Int)=3:=Ad Af;rw[Ad (by rw[e];simp),Ab λh=>h1 h.1]
theorem Aal(K:List IQ)(j:Nat)(q:Int×Int):(cS K j q).length=K.length:=by unfold cS;split<;>simp
theorem gY(K:List IQ)(j:Nat)(q:Int×Int):cS (cS K j q) j q=cS K j q:=by
 by_cases h:j<K.length/\Ml q.1 q.2
 ·have e:cS K j q=K.set j {K.getD j qZ with ro:=q.1,sp:=q.2}:=Ad h;rw[e];unfold cS;rw[Ad ⟨by simpa using h.1,h.2⟩,Jr];congr 1;rw[A4,Ee h.1];rfl
 ·have e:cS K j q=K:=Ab h;rw[e,e]
theorem uQ(K:List IQ)(j m:Nat)(q r:Int×Int)(hjm:j≠m):cS (cS K m r) j q=cS (cS K j q) m r:=by
 have g: ∀(a b:Nat) (x:IQ),a≠b->(K.set b x).getD a qZ=K.getD a qZ:=λa b x h=>by rw[A4,Gn Af,<-A4]
 unfold cS;by_cases h1:j<K.length/\Ml q.1 q.2
 ·by_cases h2:m<K.length/\Ml r.1 r.2
  ·rw[Ad h2,Ad h1,Ad (by simpa using h1),Ad (by simpa using h2),g j m _ hjm,g m j _ (FW hjm),List.set_comm _ _ (FW hjm)]
  ·rw[Ab h2,Ad h1,Ab (by simpa using h2)]
 ·by_cases h2:m<K.length/\Ml r.1 r.2
  ·rw[Ad h2,Ab h1,Ab (by simpa using h1),Ad h2]
  ·rw[Ab h2,Ab h1,Ab h2]
def su(S:KT)(u:Int):Int:=if Mw S u=false\/¬(DJ S u).st=1 then 0 else u
def sk(S:KT)(u:Int):Int×Int:=if u=0\/(Gf S u).2=false then(-1,0) else((Ar.getD' S.A (Gf S u).1.1).1.fi,(Gf S u).1.2.1)
theorem aj(S:KT)(j:Nat):FS S j={S with U:=S.U.set j (su S (S.U.getD j 0)),K:=cS S.K j (sk S (su S (S.U.getD j 0)))}:=by
 have e:Rc S j=su S (S.U.getD j 0):=rfl;unfold FS sk;rw[e];by_cases h:su S (S.U.getD j 0)=0\/(Gf S (su S (S.U.getD j 0))).2=false
 ·rw[Ad h,Ad h,gX]
 ·rw[Ab h,Ab h,gX]
abbrev Yx(S:KT)(U:A8)(K:List IQ):KT:={S with U:=U,K:=K}
theorem Rm(S:KT)(U:A8)(K:List IQ)(j:Nat):FS (Yx S U K) j=Yx S (U.set j (su S (U.getD j 0))) (cS K j (sk S (su S (U.getD j 0)))):=aj (Yx S U K) j
theorem Ady(S:KT)(u:Int):su S (su S u)=su S u:=by
 by_cases h:Mw S u=false\/¬(DJ S u).st=1
 ·have e:su S u=0:=Ad h;rw[e];unfold su
  split<;>rfl
 ·have e:su S u=u:=Ab h;rw[e,e]
theorem ak(U:A8)(j m:Nat)(x:Int)(h:j≠m):(U.set m x).getD j 0=U.getD j 0:=by rw[A4,Gn Af,<-A4]
theorem U5(S:KT)(U:A8)(K:List IQ)(j m:Nat):FS (FS (Yx S U K) m) j=Yx S ((U.set m (su S (U.getD m 0))).set j (su S ((U.set m (su S (U.getD m 0))).getD j 0))) (cS (cS K m (sk S (su S (U.getD m 0)))) j (sk S (su S ((U.set m (su S (U.getD m 0))).getD j 0)))):=
 (BM (λX=>FS X j) (Rm S U K m)).trans (Rm S _ _ j)
theorem dN(S:KT)(U:A8)(K:List IQ)(j:Nat):FS (FS (Yx S U K) j) j=FS (Yx S U K) j:=by
 refine(U5 S U K j j).trans (.trans ?_ (Rm S U K j).symm);by_cases h:j<U.length
 ·rw[show(U.set j (su S (U.getD j 0))).getD j 0=su S (U.getD j 0) by rw[A4,Ee h];rfl,Ady,Jr,gY]
 ·have e: ∀x,U.set j x=U:=λx=>List.set_eq_of_length_le Af;rw[e,e,gY]
theorem dO(S:KT)(U:A8)(K:List IQ)(j m:Nat)(h:j≠m):FS (FS (Yx S U K) m) j=FS (FS (Yx S U K) j) m:=by refine(U5 S U K j m).trans (.trans ?_ (U5 S U K m j).symm);rw[ak _ _ _ _ h,ak _ _ _ _ (FW h),uQ _ _ _ _ _ h,List.set_comm _ _ (FW h)]
def Stl(S:KT):Prop:= ∀j,j<S.U.length->FS S j=S
theorem Stl.eq(h:Stl S):HW S=S:=by
 have g: ∀(l:List Nat),(∀j,j∈l->j<S.U.length)->l.foldl FS S=S:=λl=>by
  induction l with
  |nil=>exact λ_=>rfl
  |cons x l ih=>intro hl;rw[Ev,h x (hl x Al)];exact ih λj hj=>hl j (An _ hj)
 exact g _ λj hj=>C9.1 hj
theorem p8(S:KT): ∀(m:Nat),(∃U K,U.length=S.U.length/\(List.range m).foldl FS S=Yx S U K)/\ ∀j,j<m->FS ((List.range m).foldl FS S) j=(List.range m).foldl FS S
 |0=>⟨⟨S.U,S.K,rfl,rfl⟩,λj h=>by omega⟩
 |m+1=>by
  obtain⟨⟨U,K,hl,e⟩,h⟩:=p8 S m;rw[Cx,El,e];rw[e] at h;refine⟨⟨_,_,?_,Rm S U K m⟩,λj hj=>?_⟩
  ·rw[CE,hl]
  show FS (FS (Yx S U K) m) j=FS (Yx S U K) m;by_cases hjm:j=m
  ·subst hjm;exact dN S U K j
  ·rw[dO S U K j m hjm,h j Af]
theorem U7(S:KT):Stl (HW S):=by obtain⟨⟨U,K,hl,e⟩,h⟩:=p8 S S.U.length;intro j hj;unfold HW at hj⊢;rw[e] at hj;exact h j (by rw[<-hl];exact hj)
theorem km(S:KT)(t:Int)(c:N0):(JT S t c).1.2=0:=by
 unfold JT
 repeat' split
 all_goals rfl
section
end
def Giv(A:Ar.ArT)(id:Int):Prop:= ∃(f:Nat) (j:Int),f<64/\j<A.g f/\id=f+1+64*j
def KdA(A:Ar.ArT)(k id:Int):Prop:=id≠0->(∀o,o∈A.os->o.id=id->o.kd=k)/\Giv A id
structure GoodK(S:KT):Prop where
 rz: ∀t,t∈S.T->RzT t
 n:S.A.n<=64
 rg: ∀c,c∈S.K->Ml c.ro c.sp
 ob: ∀o,o∈S.A.os->o.id≠0/\Giv S.A o.id
 cap: ∀c,Ky S.H.1 c->c.kind≠0->KdA S.A c.kind c.obj
section
theorem GoodK.hd(h:GoodK S)(hD: ∀c,Ky D c->From S c): ∀c,Ky D c->c.kind≠0->KdA S.A c.kind c.obj:=λc hc hk=>by
 rcases hD c hc with h1|⟨d,h1,h2,h3⟩
 ·exact absurd h1 hk
 ·rw[<-h2,<-h3];exact h.cap d h1 (by rw[h2];exact hk)
theorem GoodK.ar(h:GoodK S)(os:List Ar.ObT)(ho: ∀o,o∈os-> ∃u,u∈S.A.os/\u.id=o.id/\u.kd=o.kd):GoodK {S with A:={S.A with os:=os}} where
 rz:=h.rz
 n:=h.n
 rg:=h.rg
 ob:=λo hm=>by obtain⟨u,h1,h2,h3⟩:=ho o hm;rw[<-h2];exact h.ob u h1
 cap:=λc hc hk h0=>⟨λo hm e=>by obtain⟨u,h1,h2,h3⟩:=ho o hm;rw[<-h3];exact(h.cap c hc hk h0).1 u h1 (by rw[h2];exact e),(h.cap c hc hk h0).2⟩
theorem Aam(h:Ar.atO os id=some k):os.getD k Ar.obO∈os/\(os.getD k Ar.obO).id=id:=by obtain⟨o,h1,h2⟩:=Ar.atO_some h;rw[A4,h1];exact⟨Bg h1,h2⟩
theorem al(h:Ar.atO os id=some k)(f:Ar.ObT->Ar.ObT)(h1: ∀o,(f o).id=o.id)(h2: ∀o,(f o).kd=o.kd): ∀o,o∈os.set k (f (os.getD k Ar.obO))-> ∃u,u∈os/\u.id=o.id/\u.kd=o.kd:=λo ho=>by
 rcases CS ho with e|e
 ·exact⟨o,e,rfl,rfl⟩
 ·exact⟨_,(Aam h).1,by rw[e,h1],by rw[e,h2]⟩
theorem GoodK.ext(h:GoodK S)(h1:S'.A=S.A)(h2:S'.H.1=S.H.1)(h3:S'.T=S.T)(h4:S'.K=S.K):GoodK S' where
 rg:=by rw[h4];exact h.rg
 rz:=by rw[h3];exact h.rz
 n:=by rw[h1];exact h.n
 ob:=by rw[h1];exact h.ob
 cap:=by rw[h1,h2];exact h.cap
theorem WU(hn:A.n<=64)(h:Ar.nextD A f≠0):0<=f/\f<64/\Ar.nextD A f=f.toNat+1+64*A.g f.toNat:=by
 unfold Ar.nextD at h⊢;by_cases h1:f<0
 ·rw[Ad h1] at h;exact absurd rfl h
 rw[Ab h1] at h⊢;by_cases h2:f>=A.n
 ·rw[Ad h2] at h;exact absurd rfl h
 rw[Ab h2] at h⊢;by_cases h3:f+1+64*A.g f.toNat>65535
 ·rw[Ad h3] at h;exact absurd rfl h
 rw[Ab h3] at h⊢;exact⟨Af,Af,Af⟩
theorem ko(hn:A.n<=64)(h:Ar.nextD A f≠0):¬Giv A (Ar.nextD A f):=by
 obtain⟨h1,h2,h3⟩:=WU hn h;rintro⟨g,j,h4,h5,h6⟩;rw[h3] at h6;have e:g=f.toNat:=by omega
 subst e;omega
theorem p9{x o:Ar.ObT}(h:x∈Ar.insD os o):x=o\/x∈os:=by
 unfold Ar.insD at h;rcases AB.1 h with h|h
 ·exact .inr ((Es _).subset h)
 ·rcases Au.1 h with h|h
  ·exact .inl h
  ·exact .inr ((List.dropWhile_suffix _).subset h)
theorem Giv.up(f:Nat)(os:List Ar.ObT)(h:Giv A id):Giv {A with g:=upd A.g f (A.g f+1),os:=os} id:=by
 obtain⟨g,j,h1,h2,h3⟩:=h;refine⟨g,j,h1,?_,h3⟩;show j<upd A.g f (A.g f+1) g;by_cases e:g=f
 ·subst e;rw[upd_same];omega
 ·rw[upd_other _ _ _ _ e];exact h2
theorem kq{k z:Int}(h:Ar.addE A k z f=0):Ar.nextD A f≠0:=by
 unfold Ar.addE at h
 split at h
 ·exact absurd h A0
 split at h
 ·exact absurd h A0
 split at h
 ·exact absurd h A0
 split at h
 ·exact absurd h A0
 ·assumption
theorem uR(S:KT)(k z f:Int)(h:(Ar.addD S.A k z f).1.2=0):Ar.addE S.A k z f=0/\Ar.addD S.A k z f=((Ar.nextD S.A f,0),{S.A with g:=upd S.A.g f.toNat (S.A.g f.toNat+1),os:=Ar.insD S.A.os (Ar.newO S.A k z f)}):=by
 unfold Ar.addD at h⊢
 split at h
 ·rename_i h2;exact⟨h2,by rw[Ad h2]⟩
 ·rename_i h2;exact absurd h h2
theorem uS(S:KT)(k z f:Int)(h:¬(Ar.addD S.A k z f).1.2=0):(Ar.addD S.A k z f).2=S.A:=by
 unfold Ar.addD at h⊢
 split at h
 ·exact absurd rfl h
 ·rename_i h2;rw[Ab h2]
theorem xe(S:KT)(k id:Int):(jJ S k id).A=S.A/\(jJ S k id).H=S.H:=by
 unfold jJ
 split
 ·exact⟨rfl,rfl⟩
 split
 ·exact⟨rfl,rfl⟩
 ·exact⟨rfl,rfl⟩
theorem xf(S:KT)(n id:Int):(kX S n id).A=S.A/\(kX S n id).T=S.T:=by
 unfold kX
 split
 ·exact⟨rfl,rfl⟩
 ·exact⟨rfl,rfl⟩
theorem qb(S:KT)(k z f:Int):(oS S k z f).A=S.A/\(oS S k z f).H=S.H/\(oS S k z f).T=S.T:=by
 unfold oS
 split
 ·exact⟨rfl,rfl,rfl⟩
 ·exact⟨rfl,rfl,rfl⟩
theorem Adz(S:KT)(k id:Int):(jJ S k id).K=S.K:=by
 unfold jJ
 repeat' split
 all_goals rfl
theorem AdA(S:KT)(n id:Int):(kX S n id).K=S.K:=by
 unfold kX
 split<;>rfl
theorem AdB(S:KT)(k z f:Int):(oS S k z f).K=S.K:=by
 unfold oS
 split<;>rfl
theorem AdC{k:Int}(h: ∀t,t∈S.T->RzT t): ∀t,t∈(jJ S k id).T->RzT t:=by
 unfold jJ
 split
 ·intro t ht;have ht:t∈(Th.addD S.T id).2:=ht;unfold Th.addD at ht
  split at ht
  ·exact h t ht
  split at ht
  ·exact h t ht
  ·unfold Th.insH at ht;rcases AB.1 ht with ht|ht
   ·exact h t ((Es _).subset ht)
   ·rcases Au.1 ht with rfl|ht
    ·exact λ_=>⟨rfl,rfl,rfl⟩
    ·exact h t ((List.dropWhile_suffix _).subset ht)
 split
 ·exact h
 ·exact h
theorem qc{n:Int}(h:Ky (kX S n id).H.1 c):c.kind=0\/Ky S.H.1 c:=by
 unfold kX at h
 split at h
 ·have h:Ky (Hv S.H.1 id n).2 c:=h;unfold Hv at h
  split at h
  ·exact .inr h
  split at h
  ·exact .inr h
  ·obtain⟨x,hx,hc⟩:=h;rcases Pm.1 hx with rfl|hx
   ·exact .inl (by rw[Et hc])
   ·exact .inr ⟨x,hx,hc⟩
 ·exact .inr h
theorem ku(h:GoodK S)(k z f:Int):GoodK (Ks S k z f).2/\(k≠0->KdA (Ks S k z f).2.A k (Ks S k z f).1.1):=by
 unfold Ks;by_cases hc:(Ar.addD S.A k z f).1.2=0
 ·rw[Ad hc];obtain⟨h1,h2⟩:=uR S k z f hc;have h3:=kq h1;have h4:=ko h.n h3;obtain⟨h5,h6,h7⟩:=WU h.n h3;rw[h2];dsimp only;obtain⟨A',NU⟩: ∃A':Ar.ArT,A'={S.A with g:=upd S.A.g f.toNat (S.A.g f.toNat+1),os:=Ar.insD S.A.os (Ar.newO S.A k z f)}:=⟨_,rfl⟩
  have hg:Giv A' (Ar.nextD S.A f):=by rw[NU];refine⟨f.toNat,S.A.g f.toNat,Af,?_,h7⟩;show _<upd S.A.g f.toNat (S.A.g f.toNat+1) f.toNat;rw[upd_same];omega
  have hup: ∀id,Giv S.A id->Giv A' id:=λid hi=>by rw[NU];exact hi.up _ _
  have N6: ∀o,o∈A'.os->o=Ar.newO S.A k z f\/o∈S.A.os:=λo ho=>by rw[NU] at ho;exact p9 ho
  have io:KdA A' k (Ar.nextD S.A f):=λ_=>⟨λo ho e=>by
   rcases N6 o ho with rfl|ho
   ·rfl
   ·exact absurd (by rw[<-e];exact(h.ob o ho).2) h4,hg⟩
  rw[<-NU];have e1: ∀X n,(jJ (kX (oS {S with A:=A'} k z f) n X) k X).A=A':=λX n=>by rw[(xe ..).1,(xf ..).1,(qb ..).1]
  refine⟨⟨?_,?_,?_,?_,?_⟩,λ_=>by rw[e1];exact io⟩
  ·refine AdC ?_;rw[(xf ..).2,(qb ..).2.2];exact h.rz
  ·rw[e1,NU];exact h.n
  ·rw[(Adz ..),(AdA ..),(AdB ..)];exact h.rg
  ·rw[e1];intro o ho;rcases N6 o ho with rfl|ho
   ·exact⟨h3,hg⟩
   ·exact⟨(h.ob o ho).1,hup _ (h.ob o ho).2⟩
  ·rw[e1,(xe ..).2];intro c hc hk h0;rcases qc hc with h8|h8
   ·exact absurd h8 hk
   rw[(qb ..).2.1] at h8;have h9:=h.cap c h8 hk h0;refine⟨λo ho e=>?_,hup _ h9.2⟩;rcases N6 o ho with rfl|ho
   ·exact absurd (by rw[show Ar.nextD S.A f=c.obj from e];exact h9.2) h4
   ·exact h9.1 o ho e
 ·rw[Ab hc,uS S k z f hc];exact⟨h,λ_ h0=>absurd rfl h0⟩
theorem qd(h:GoodK S)(x:Ch)(k z f:Int)(q:Int×Ch):GoodK (PX x k z f S q):=by
 obtain⟨h1,h2⟩:=ku h k z (f+q.1);unfold PX;refine⟨h1.rz,h1.n,h1.rg,h1.ob,λc hc hk=>?_⟩;rcases U4 hc with e|e
 ·subst e;exact h2 hk
 ·exact h1.cap c e hk
theorem qe(h:GoodK S)(id:Int):GoodK (SG S id).2:=by
 have hd: ∀c,Ky (HR S.H.1 id).2 c->Ky S.H.1 c:=λc ⟨x,hx,hc⟩=>by
  unfold HR at hx
  split at hx
  ·exact⟨x,hx,hc⟩
  split at hx
  ·exact⟨x,(Cr.1 hx).1,hc⟩
  ·exact⟨x,hx,hc⟩
 have h1:GoodK {S with H:=((HR S.H.1 id).2,S.H.2)}:=⟨h.rz,h.n,h.rg,h.ob,λc hc=>h.cap c (hd c hc)⟩
 unfold SG
 split
 ·exact h
 split
 ·exact h1
 ·have h2:GoodK {S with H:=((HR S.H.1 id).2,S.H.2),T:=(Th.dropD S.T id).2}:=⟨λt ht=>by
   have ht:t∈(Th.dropD S.T id).2:=ht;unfold Th.dropD at ht
   split at ht
   ·exact h.rz t (Cr.1 ht).1
   ·exact h.rz t ht,h.n,h.rg,h.ob,h1.cap⟩
  have h3:GoodK {S with H:=((HR S.H.1 id).2,S.H.2),A:=(Ar.dropD S.A id).2,T:=(Th.dropD S.T id).2}:=by
   unfold Ar.dropD
   split
   ·exact h2.ar _ λo ho=>⟨o,Gv ho,rfl,rfl⟩
   ·exact h2
  exact h3.ext rfl rfl rfl rfl
theorem good_cl:Cl GoodK where
 free:=λ_ _ _ _ _ _ h=>h.ext rfl rfl rfl rfl
 core:=λ{S K} h hK=>⟨h.rz,h.n,λc hc=>by
  rcases hK c hc with⟨d,hd,e1,e2⟩|e
  ·rw[e1,e2];exact h.rg d hd
  ·exact e,h.ob,h.cap⟩
 set:=λ{S t} h ht=>⟨λu hu=>by
  have hu:u∈(Th.setD S.T t).2:=hu;unfold Th.setD at hu
  split at hu
  ·obtain⟨y,hy,rfl⟩:=Ax.1 hu
   split
   ·exact ht
   ·exact h.rz y hy
  ·exact h.rz u hu,h.n,h.rg,h.ob,h.cap⟩
 rz:=λ{S} h id=>by
  show RzT ((Th.findH S.T id).getD Th.thZ);cases e:Th.findH S.T id with
  |none=>exact λ_=>⟨rfl,rfl,rfl⟩
  |some t=>exact h.rz t (BE e)
 hold:=λh hH=>⟨h.rz,h.n,h.rg,h.ob,h.hd hH⟩
 place:=λ{S} id a b c h=>by
  unfold Ar.placeD
  split
  ·rename_i k hk
   split
   ·exact h
   split
   ·exact h
   ·exact h.ar _ (al hk (λo=>Ar.setPl o a b c) (λ_=>rfl) λ_=>rfl)
  ·exact h
 mark:=λ{S} id m h=>by
  unfold Ar.markD'
  split
  ·rename_i k hk
   split
   ·exact h
   split
   ·exact h
   ·exact h.ar _ (al hk (λo=>Ar.setMa o m) (λ_=>rfl) λ_=>rfl)
  ·exact h
 unm:=λid h=>qe h id
 one:=λx k z f q h=>qd h x k z f q
theorem qf(os:List Ar.ObT)(id:Int):os.find? (λo=>decide (o.id=id))=(Ar.atO os id).map λk=>os.getD k Ar.obO:=by
 unfold Ar.atO
 induction os with
 |nil=>rfl
 |cons x r ih=>
  rw[BH,Ll];by_cases h:x.id=id
  ·rw[Aq h];rfl
  ·rw[Av h,ih];show _=Option.map _ (Option.map _ _);rw[Option.map_map];rfl
end
theorem WV{a:Int}{C:List CapT}{h:NW}: ∀{k:Nat},h∈GR a C k-> ∃j:Nat,j<k/\h.1=(a,(j:Int))/\C[j]?=some h.2/\h.2≠Cu
 |0,hm=>by cases hm
 |k+1,hm=>by
  rcases AB.1 hm with hm|hm
  ·obtain⟨j,h1,h2⟩:=WV hm;exact⟨j,Af,h2⟩
  ·cases hc:C[k]? with
   |none=>rw[hc] at hm;cases hm
   |some c=>
    rw[hc] at hm;simp only at hm
    split at hm
    ·cases hm
    ·rename_i he;rw[Ay.1 hm];exact⟨k,Af,rfl,hc,λe=>he (Pk.2 e)⟩
theorem WW{a:Int}{C:List CapT}{c:CapT}: ∀{k j:Nat},j<k->C[j]?=some c->c≠Cu->((a,(j:Int)),c)∈GR a C k
 |0,j,h,_,_=>by omega
 |k+1,j,h,hc,hz=>by
  by_cases e:j=k
  ·subst e;refine Aa _ ?_;rw[hc];simp only;rw[Ab λe=>hz (Pk.1 e)];exact Ay.2 rfl
  ·exact Ai _ (WW Af hc hz)
theorem InvH.used(h:InvH H n)(x:NW):x∈CI H.1<->E0 H.1 x.1=true/\Dv H.1 x.1=x.2/\x.2.kind≠0:=by
 constructor
 ·intro hx;obtain⟨h1,h2,h3⟩:=sU h.asc hx;refine⟨h1,h2,λhk=>?_⟩;obtain⟨y,hy,hu⟩:=FI.1 hx;obtain⟨j,_,_,_,hz⟩:=WV hu;exact hz (by rw[<-h2];exact h.zero (by rw[h2];exact hk))
 ·rintro⟨h1,h2,h3⟩;unfold E0 II at h1;rw[AM,A3,A3] at h1;unfold Dv at h2;cases hf:D9 Prod.fst H.1 x.1.1 with
  |none=>rw[hf] at h1;simp at h1;omega
  |some y=>
   rw[hf] at h1 h2;simp only at h1 h2;obtain⟨hy,hk⟩:=Fb hf;refine FI.2 ⟨y,hy,?_⟩;have hc:y.2[x.1.2.toNat]?=some x.2:=by rw[A4] at h2;rw[Ak Af] at h2⊢;exact BM some h2
   have:=WW (a:=y.1) (k:=y.2.length) (by omega:x.1.2.toNat<y.2.length) hc (λe=>h3 (by rw[e]));rw[show x=((y.1,((x.1.2.toNat:Nat):Int)),x.2) from Eu (Eu hk.symm (by simp only;omega)) rfl];exact this
def vheld(L:List NW)(s:Ch):CapT:=((L.find? λx=>decide (x.1=s)).map Prod.snd).getD Cu
abbrev VR(os:List Ar.ObT)(id:Int):Ar.ObT:=(os.find? λo=>decide (o.id=id)).getD Ar.obO
theorem InvH.vheld{H:HS}{n:Nat}(h:InvH H n)(s:Ch):vheld (CI H.1) s=(getD' H.1 s).1:=by
 unfold Go.Proofs.YtlifcingifodfaaGreat.vheld getD';cases e:(CI H.1).find? λx=>decide (x.1=s) with
 |some x=>
  have h1:=Eb e;obtain⟨h2,h3,_⟩:=(h.used x).1 (BE e);have h4:x.1=s:=by simpa using h1
  rw[h4] at h2 h3;rw[Ad h2,h3];rfl
 |none=>
  have h1:=Bp.1 e;by_cases hk:E0 H.1 s=true
  ·rw[Ad hk];by_cases h2:(Dv H.1 s).kind=0
   ·rw[h.zero h2];rfl
   ·exact absurd (by simp) (h1 (s,Dv H.1 s) ((h.used _).2 ⟨hk,rfl,h2⟩))
  ·rw[Ab hk];rfl
theorem U8(A:Ar.ArT)(id:Int):VR A.os id=(Ar.getD' A id).1:=by unfold VR Ar.getD';rw[qf];cases Ar.atO A.os id<;>rfl
theorem qh(h:(Ar.getD' A id).1.kd=2):(Ar.getD' A id).2=true:=by
 unfold Ar.getD' at h⊢;cases e:Ar.atO A.os id with
 |some k=>rfl
 |none=>rw[e] at h;cases h
def St(L:List NW)(os:List Ar.ObT)(Bv:Nat)(c:CapT)(left:Int):Option ((Ch×Int)×CapT):=
 if ¬c.kind=2\/¬(VR os c.obj).kd=2\/left<c.bits+(VR os c.obj).sz then none
 else if ¬((DF Bv (left-c.bits).toNat c.bits.toNat:Nat):Int)=c.guard then none
 else some (((c.obj,((DF Bv (left-(c.bits+(VR os c.obj).sz)).toNat (VR os c.obj).sz.toNat:Nat):Int)),left-(c.bits+(VR os c.obj).sz)),vheld L (c.obj,((DF Bv (left-(c.bits+(VR os c.obj).sz)).toNat (VR os c.obj).sz.toNat:Nat):Int)))
def JI(L:List NW)(os:List Ar.ObT)(Bv:Nat):Nat->CapT->Int->Ch->Ch×Bool
 |0,_,_,s=>(s,false)
 |f+1,c,left,s=>if left<=0 then(s,true) else match St L os Bv c left with
  |none=>(s,false)
  |some y=>JI L os Bv f y.2 y.1.2 y.1.1
def Fx(S:KT)(id:Int)(Bv:Nat):Ch×Bool:=JI (CI S.H.1) S.A.os Bv 14 (vheld (CI S.H.1) (id,0)) 12 (0,0)
theorem am{A:Ar.ArT}{Bv:Nat}(h0:0<=c.bits)(h1:c.bits<=12)(h2:0<=c.guard):fJ Bv c left=Ob c.guard/\c.guard<4096<->((DF Bv (left-c.bits).toNat c.bits.toNat:Nat):Int)=c.guard:=by
 have C7:=M7 Bv (left-c.bits).toNat c.bits.toNat;have hp:2^c.bits.toNat<=2^12:=Cp Af Af;have e:(2:Nat)^12=4096:=by decide
 have hg:fJ Bv c left=DF Bv (left-c.bits).toNat c.bits.toNat:=by
  unfold fJ;by_cases hb:c.bits>0
  ·rw[Ad hb]
  ·rw[Ab hb];have e0:c.bits.toNat=0:=by omega
   rw[e0] at C7⊢;omega
 rw[hg];unfold Ob;constructor
 ·rintro⟨h3,h4⟩;rw[h3];omega
 ·intro h3;constructor
  ·rw[<-h3];omega
  ·omega
theorem uT{v:Nat}{n:Int}(hn:n<=12)(hv:v<18446744073709551616)(h:Jz v n=true):v<4096:=by
 by_cases h4:v<4096
 ·exact h4
 exfalso;obtain⟨j,hj⟩: ∃j,12<=j/\v.testBit j=true:=by
  by_cases hx: ∃j,12<=j/\v.testBit j=true
  ·exact hx
  ·exfalso;have:=Nat.lt_pow_two_of_testBit (n:=12) v λi hi=>by
    cases e:v.testBit i with
    |false=>rfl
    |true=>exact absurd ⟨i,hi,e⟩ hx
   omega
 unfold Jz at h;have Afu:j<64:=by
  by_cases hx:j<64
  ·exact hx
  ·have:v.testBit j=false:=ER (D8 hv (by
    have:2^64<=2^j:=Cp Af Af;omega))
   rw[this] at hj;cases hj.2
 have:=AS.1 h j (by unfold GQ;exact Cr.2 ⟨C9.2 Afu,hj.2⟩)
 simp only[A3] at this;omega
theorem U9(h:E5 c=true)(hw:c.guard<18446744073709551616)(hk:c.kind=2):0<=c.bits/\c.bits<=12/\0<=c.guard/\c.guard<4096:=by obtain⟨h1,h2,h3,h4⟩:=Pt h hk;have h5:=uT h2 (fu _) h4;unfold Ob at h5;omega
section
variable{L:List NW}(hR:VH A)(hL: ∀s,vheld L s=(getD' D s).1)(hm: ∀s,E5 (getD' D s).1=true/\(getD' D s).1.guard<18446744073709551616)(Bv:Nat)
include hR
omit hR in
theorem dP{y:(Ch×Int)×CapT}(hc:E5 c=true)(hw:c.guard<18446744073709551616)(h:St L A.os Bv c left=some y):SE A c left/\fJ Bv c left=Ob c.guard/\y=((JD A Bv c left,GY A c left),vheld L (JD A Bv c left)):=by
 unfold St at h;rw[U8] at h
 split at h
 ·cases h
 rename_i h1
 split at h
 ·cases h
 rename_i h2;have k1:c.kind=2:=Classical.byContradiction λe=>h1 (.inl e);have k2:(Ar.getD' A c.obj).1.kd=2:=Classical.byContradiction λe=>h1 (.inr (.inl e));have k3:¬left<c.bits+(Ar.getD' A c.obj).1.sz:=λe=>h1 (.inr (.inr e));have k4:=qh k2;have k5:=(Q5 k4).2;obtain⟨b1,b2,b3,b4⟩:=U9 hc hw k1;refine⟨⟨hc,k1,k4,k2,by unfold jm;omega⟩,((am (A:=A) b1 b2 b3).2 (Eo.1 h2)).1,?_⟩;have e:=AZ h;rw[<-e];unfold JD GY jm;rw[k5]
omit hR in
theorem dQ(hw:c.guard<18446744073709551616)(h:SE A c left)(hg:fJ Bv c left=Ob c.guard):St L A.os Bv c left=some ((JD A Bv c left,GY A c left),vheld L (JD A Bv c left)):=by obtain⟨h1,h2,h3,h4,h5⟩:=h;have k5:=(Q5 h3).2;obtain⟨b1,b2,b3,b4⟩:=U9 h1 hw h2;unfold jm at h4 h5;unfold St;rw[U8,Ab (by rintro(e|e|e)<;>omega),Ab λe=>e ((am (A:=A) b1 b2 b3).1 ⟨hg,b4⟩)];unfold JD GY jm;rw[k5]
include hL hm
theorem Va: ∀(f g:Nat) (c:CapT) (left:Int) (s s':Ch),E5 c=true->c.guard<18446744073709551616->0<left->left<=f->JI L A.os Bv g c left s=(s',true)->
 (E0 D s'=true-> ∃W l0,ET D A Bv f c left=W++[(s',l0)]/\l0<=0)/\(¬E0 D s'=true-> ∀y,y∈ET D A Bv f c left->0<y.2)
 |0,_,_,_,_,_,_,_,h1,h2,_=>by omega
 |f+1,0,_,_,_,_,_,_,_,_,h=>by unfold JI at h;cases(Em h).2
 |f+1,g+1,c,left,s,s',hc,hw,h1,h2,h=>by
  unfold JI at h;rw[Ab Af] at h;cases e:St L A.os Bv c left with
  |none=>rw[e] at h;cases(Em h).2
  |some y=>
   rw[e] at h;obtain⟨g1,g2,rfl⟩:=dP Bv hc hw e;obtain⟨_,_,_,_,l1,l2⟩:=Qe hR g1;simp only at h;obtain⟨s1,Nc⟩:=ξ (JD A Bv c left)
   obtain⟨n1,Vj⟩:=ξ (GY A c left)
   rw[Nc,Vj] at h;rw[Vj] at l1 l2;have Dh:E0 D s1=true->ET D A Bv (f+1) c left=(s1,n1)::ET D A Bv f (getD' D s1).1 n1:=λhk=>by
    have e2:(getD' D s1).2=0:=by unfold getD';rw[Ad hk]
    have:=Tc (f:=f) Af (RS g1 ⟨g2,by rw[Nc];exact e2⟩:Ly D A Bv c left=_);rw[Nc,Vj] at this;exact this
   have HI:¬E0 D s1=true->ET D A Bv (f+1) c left=[]:=λhk=>by
    have e2:¬(getD' D s1).2=0:=by unfold getD';rw[Ab hk];exact λh=>by cases h
    exact Ld (Qf λh3=>e2 (by rw[<-Nc];exact h3.2))
   by_cases hl:n1<=0
   ·have hs:s'=s1:=by
     cases g with
     |zero=>unfold JI at h;cases(Em h).2
     |succ g=>unfold JI at h;rw[Ad hl] at h;exact(Em h).1.symm
    rw[hs];exact⟨λhk=>⟨[],n1,by rw[Dh hk,OY hl];rfl,hl⟩,λhk y hy=>by rw[HI hk] at hy;cases hy⟩
   ·have hk:E0 D s1=true:=by
     by_cases hk:E0 D s1=true
     ·exact hk
     exfalso;have e3:vheld L s1=Cu:=by rw[hL];unfold getD';rw[Ab hk]
     rw[e3] at h;cases g with
     |zero=>unfold JI at h;cases(Em h).2
     |succ g=>unfold JI at h;rw[Ab hl] at h;have e4:St L A.os Bv Cu n1=none:=Ad (.inl A0);rw[e4] at h;cases(Em h).2
    rw[hL] at h;obtain⟨i1,i2⟩:=Va f g (getD' D s1).1 n1 s1 s' (hm s1).1 (hm s1).2 Af Af h;rw[Dh hk];refine⟨λlB=>?_,λlB y hy=>?_⟩
    ·obtain⟨W,l0,e5,e6⟩:=i1 lB;exact⟨(s1,n1)::W,l0,by rw[e5];rfl,e6⟩
    ·rcases Au.1 hy with rfl|hy
     ·exact by omega
     ·exact i2 lB y hy
theorem Vb: ∀(f g:Nat) (c:CapT) (left:Int) (s s':Ch) (W:List ZC) (l0:Int),E5 c=true->c.guard<18446744073709551616->0<left->left<g->ET D A Bv f c left=W++[(s',l0)]->l0<=0->JI L A.os Bv g c left s=(s',true)
 |0,_,_,_,_,_,W,_,_,_,_,_,h,_=>by have:W++[_]=[]:=h.symm;simp at this
 |f+1,0,_,_,_,_,_,_,_,_,h1,h2,_,_=>by omega
 |f+1,g+1,c,left,s,s',W,l0,hc,hw,h1,h2,h,h0=>by
  have LF: ∃y,Ly D A Bv c left=some y:=by
   cases e:Ly D A Bv c left with
   |some y=>exact⟨y,rfl⟩
   |none=>rw[Ld e] at h;simp at h
  obtain⟨y,hy⟩:=LF;have hg:SE A c left/\fJ Bv c left=Ob c.guard/\(getD' D (JD A Bv c left)).2=0:=by
   unfold Ly at hy
   split at hy
   ·rename_i g1
    split at hy
    ·rename_i g2;exact⟨g1,g2⟩
    ·cases hy
   ·cases hy
  obtain⟨g1,g2,g3⟩:=hg;obtain⟨_,_,_,_,l1,l2⟩:=Qe hR g1;have hw1:=Tc (f:=f) Af (RS g1 ⟨g2,g3⟩);unfold JI;rw[Ab Af,dQ Bv hw g1 g2];simp only;rw[hw1] at h;simp only at h;obtain⟨s1,Nc⟩:=ξ (JD A Bv c left)
  obtain⟨n1,Vj⟩:=ξ (GY A c left)
  rw[Nc,Vj] at h⊢;rw[Vj] at l1 l2;rw[hL];by_cases hl:n1<=0
  ·rw[OY hl] at h;have hW:W=[]:=by
    cases W with
    |nil=>rfl
    |cons a W=>simp at h
   subst hW;have e:=(Mr h).1;cases g with
   |zero=>omega
   |succ g=>unfold JI;rw[Ad hl,(Em e).1]
  ·cases W with
   |nil=>have e:=(Em (Mr h).1).2;omega
   |cons a W=>have e:=(Mr h).2;exact Vb f g (getD' D s1).1 n1 s1 s' W l0 (hm s1).1 (hm s1).2 Af Af e h0
end
theorem Aan(h:a<16):Jz a 12=true:=by
 have: ∀a,a<16->Jz a 12=true:=by decide+kernel
 exact this a h
theorem xg(h:a<16):¬cK a 12:=by
 unfold cK;rw[Aan h];rintro(h|h|h)
 ·omega
 ·omega
 ·cases h
theorem kv(hI:InvH S.H n)(hR:VH S.A)(ht:Mw S id=true)(ha:a<16)(h:Fx S id a=(s,true)):GB S id a=if E0 S.H.1 s=true then(s,0) else((0,0),12):=by
 have hm: ∀s,E5 (getD' S.H.1 s).1=true/\(getD' S.H.1 s).1.guard<18446744073709551616:=λs=>by
  unfold getD'
  split
  ·exact⟨(hI.at s).1,by have:=(hI.at s).2.guard;simp only;omega⟩
  ·exact⟨rfl,by decide⟩
 unfold Fx at h;rw[hI.vheld] at h;obtain⟨i1,i2⟩:=Va hR hI.vheld hm a 13 14 _ 12 _ s (hm _).1 (hm _).2 Af A0 h;unfold GB VI;rw[Ab (by unfold Mw at ht;rw[ht];simp),Ab Af,AV,Ab (xg ha)];by_cases hk:E0 S.H.1 s=true
 ·obtain⟨W,l0,e1,e2⟩:=i1 hk;have e3:Mk (ET S.H.1 S.A a 13 (getD' S.H.1 (id,0)).1 12) 12=(s,l0):=by
   unfold Mk;rw[e1,List.getLast?_concat];rfl
  rw[e3,Ab (by simp only;omega),Ad hk]
 ·have e3:0<(Mk (ET S.H.1 S.A a 13 (getD' S.H.1 (id,0)).1 12) 12).2:=by
   unfold Mk;cases e:(ET S.H.1 S.A a 13 (getD' S.H.1 (id,0)).1 12).getLast? with
   |none=>exact(by decide:(0:Int)<12)
   |some y=>exact i2 hk y (List.mem_of_getLast? e)
  rw[Ad e3,Ab hk]
theorem kw(hI:InvH S.H n)(hR:VH S.A)(ha:a<16)(h:GB S id a=(s,0)):Fx S id a=(s,true)/\Mw S id=true:=by
 have hm: ∀s,E5 (getD' S.H.1 s).1=true/\(getD' S.H.1 s).1.guard<18446744073709551616:=λs=>by
  unfold getD'
  split
  ·exact⟨(hI.at s).1,by have:=(hI.at s).2.guard;simp only;omega⟩
  ·exact⟨rfl,by decide⟩
 unfold GB VI at h
 split at h
 ·cases(Em h).2
 rename_i ht;rw[Ab Af,AV,Ab (xg ha)] at h
 split at h
 ·cases(Em h).2
 rename_i hl;refine⟨?_,by cases e:Mw S id with|true=>rfl|false=>exact absurd e ht⟩;unfold Fx;rw[hI.vheld];unfold Mk at h hl;cases e:(ET S.H.1 S.A a 13 (getD' S.H.1 (id,0)).1 12).getLast? with
 |none=>rw[e] at hl;exact absurd A0 hl
 |some y=>rw[e] at h hl;obtain⟨W,hW⟩:=List.getLast?_eq_some_iff.1 e;have hy:y=(s,y.2):=Eu (Em h).1 rfl;rw[hy] at hW;exact Vb hR hI.vheld hm a 13 14 _ 12 _ s W y.2 (hm _).1 (hm _).2 Af A0 hW (by simpa using hl)
theorem PB(S:KT): ∃K,K.length=S.K.length/\HW S=Yx S (S.U.map (su S)) K:=by
 have h: ∀m,m<=S.U.length-> ∃K,K.length=S.K.length/\(List.range m).foldl FS S=Yx S ((S.U.take m).map (su S)++S.U.drop m) K:=λm=>by
  induction m with
  |zero=>exact λ_=>⟨S.K,rfl,rfl⟩
  |succ m ih=>
   intro hm;obtain⟨K,hK,e⟩:=ih Af;rw[Cx,El,e];refine⟨cS K m (sk S (su S (((S.U.take m).map (su S)++S.U.drop m).getD m 0))),?_,(Rm S _ K m).trans ?_⟩
   ·rw[Aal];exact hK
   ·have hl:((S.U.take m).map (su S)).length=m:=by rw[A5,C4];omega
    have e1:((S.U.take m).map (su S)++S.U.drop m).getD m 0=S.U.getD m 0:=by rw[A4,AW Af,hl,Dx,G3,CM,<-A4]
    rw[e1];congr 1;rw[Cq _ _ Af,hl,Dx,CR Af,E7,List.take_succ_eq_append_getElem Af,At,Am,A4,Ak Af];rfl
 obtain⟨K,hK,e⟩:=h S.U.length (Bf _);refine⟨K,hK,?_⟩;unfold HW;rw[e,CK,List.drop_length,Bj]
theorem Stl.U(h:Stl S):S.U.map (su S)=S.U:=by obtain⟨K,_,e⟩:=PB S;have:=h.eq;rw[e] at this;exact BM KT.U this
structure Rdy(S:KT)(t:Int):Prop where
 s:Stl S
 c:KL S.U 0=t
 i:Mw S t=true
 st:(DJ S t).st=1
 hs:(DJ S t).hs=false
 k:0<S.K.length
theorem Rdy.keep(h:Rdy S t)(h1:S'.T=S.T)(h2:S'.U=S.U)(h3:S'.K.length=S.K.length):Rdy (HW S') t/\ ∃K,HW S'={S' with K:=K}:=by
 obtain⟨K,hK,e⟩:=PB S';have hu:S'.U.map (su S')=S'.U:=by
  have:su S'=su S:=by funext u;unfold su Mw DJ;rw[h1]
  rw[this,h2,h.s.U]
 have e2:HW S'={S' with K:=K}:=by rw[e,hu]
 refine⟨⟨U7 S',?_,?_,?_,?_,?_⟩,K,e2⟩
 ·rw[e2];show KL S'.U 0=t;rw[h2];exact h.c
 ·rw[e2];show(Th.findH S'.T t).isSome=true;rw[h1];exact h.i
 ·rw[e2];show((Th.findH S'.T t).getD Th.thZ).st=1;rw[h1];exact h.st
 ·rw[e2];show((Th.findH S'.T t).getD Th.thZ).hs=false;rw[h1];exact h.hs
 ·rw[e2];show 0<K.length;rw[hK,h3];exact h.k
abbrev Ye(op a0 a1 a2 a3:Int):ME:=⟨2,0,0,⟨op,a0,a1,a2,a3,0,0⟩,0,0,0,0,0⟩
theorem Rdy.ask(h:Rdy S t)(h1:e.kd=2)(h2:e.co=0):FZ S e=((JT S t e.cl).1,HW (JT S t e.cl).2):=by
 have hk:=h.k;have Vp:(DJ S t).id=t:=by
  have:=h.i;unfold Mw at this;unfold DJ;cases e:Th.findH S.T t with
  |none=>rw[e] at this;cases this
  |some u=>exact(Th.findH_some e).2
 have e1:N1 S e=JT S t e.cl:=by unfold N1;rw[Ab Af,h2,h.c,Ab (by rw[h.i];simp),Ab (by rw[h.hs];simp),Ab Af,Ab Af,Vp]
 have e2:doA S e=JT S t e.cl:=by unfold doA;rw[Ab Af,Ad (.inl h1),e1]
 unfold FZ;rw[e2,Ad (km ..)]
theorem uU{c:N0}(h:(JT S t c).1=([Kt t],0)):(BW c).2=0/\(KM S t (BW c).1).1=([Kt t],0)/\(JT S t c).2=(KM S t (BW c).1).2:=by
 have GS: ∀x,¬x=0->¬(([Yd t x],(0:Int)):List NoT×Int)=([Kt t],0):=λx hx e=>by have e1:=(Em e).1;have e2:=(Mr e1).1;exact hx (BM NoT.co e2)
 unfold JT at h⊢;by_cases h1:(BW c).2=0
 ·rw[Ad h1] at h⊢;by_cases h2:(KM S t (BW c).1).1.2=0
  ·rw[Ad h2] at h⊢;exact⟨h1,Eu (Em h).1 h2,rfl⟩
  ·rw[Ab h2] at h;exact absurd h (GS _ h2)
 ·rw[Ab h1] at h;exact absurd h (GS _ h1)
theorem uV{c:N0}{ns:List NoT}(h1:BW c=(o,0))(h2:KM S t o=((ns,0),S')):JT S t c=((ns,0),S'):=by unfold JT;rw[h1,Ad rfl];simp only;rw[h2,Ad rfl]
abbrev uW(o:Ja):Prop:=¬(o.op=14\/o.op=15)/\¬o.op=16/\¬o.op=17
theorem mu(h:o.op<14):uW o:=⟨Af,Af,Af⟩
theorem WX(h:uW o):ordE S t o x y=if(HZ S t o x y).1=0 then(([Kt t],0),(HZ S t o x y).2) else(([],(HZ S t o x y).1),(HZ S t o x y).2):=by
 have e:NZ S t o x=none:=by unfold NZ;rw[Ab h.1,Ab h.2.1,Ab h.2.2]
 unfold ordE;rw[e]
theorem uX(hm:uW o)(hp:Ha o.op=(true,true))(h:(KM S t o).1.2=0): ∃x y,GB S t o.a=(x,0)/\GB S t o.b=(y,0)/\(HZ S t o x y).1=0/\KM S t o=(([Kt t],0),(HZ S t o x y).2):=by
 unfold KM at h⊢;rw[hp] at h⊢;simp only[GH,CV] at h⊢
 split at h
 ·cases h
 rename_i h0;rw[Ab h0]
 split at h
 ·rename_i g;exact absurd h g
 rename_i h1;rw[Ab h1]
 split at h
 ·rename_i g;exact absurd h g
 rename_i h2;rw[Ab h2];rw[WX hm] at h⊢
 split at h
 ·rename_i h3;exact⟨_,_,Eu rfl (Eo.1 h1),Eu rfl (Eo.1 h2),h3,Ad h3⟩
 ·rename_i h3;exact absurd h h3
theorem Rdy.one{S:KT}{t:Int}(hr:Rdy S t){o:Ja}{x:Ch}(hm:uW o)(hp:Ha o.op=(true,false))(hx:GB S t o.a=(x,0))(h:(HZ S t o x (0,0)).1=0):KM S t o=(([Kt t],0),(HZ S t o x (0,0)).2):=by unfold KM;rw[hp,hx,Ab (by rw[hr.i,hr.st];simp)];simp only[GH,CV,not_true_eq_false,C0,Bn,false_and];rw[WX hm,Ad h]
abbrev E6(t:Int):ME:=⟨1,0,t,⟨0,0,0,0,0,0,0⟩,0,0,0,0,0⟩
theorem qi(ht:¬t=0)(hk:S.U.length=S.K.length)(h:(FZ S (E6 t)).1.2=0)(hh:(DJ S t).hs=false):Rdy (FZ S (E6 t)).2 t/\(FZ S (E6 t)).2.T=S.T/\(FZ S (E6 t)).2.H=S.H/\(FZ S (E6 t)).2.A=S.A/\ ∃U K,(FZ S (E6 t)).2=Yx S U K:=by
 have e1:doA S (E6 t)=(([],(Kw S 0 t).1),(Kw S 0 t).2):=Ad rfl;have h:(doA S (E6 t)).1.2=0:=h;have e2:(FZ S (E6 t)).2=HW (Kw S 0 t).2:=by show(if(doA S (E6 t)).1.2=0 then _ else _)=_;rw[Ad h,e1]
 rw[e1] at h;have h:(Kw S 0 t).1=0:=h;rw[e2];clear e1 e2;unfold Kw at h⊢;rw[Ab ht] at h⊢
 split at h
 ·cases h
 rename_i h1;rw[Ab h1]
 split at h
 ·cases h
 rename_i h2;rw[Ab h2]
 split at h
 ·cases h
 rename_i h3;rw[Ab h3]
 split at h
 ·cases h
 rename_i h4;rw[Ab h4];unfold M4 at h⊢
 split at h
 ·cases h
 rename_i h5;rw[Ab h5]
 split at h
 ·cases h
 rename_i h6;rw[Ab h6];have k0:0<S.U.length:=by omega
 obtain⟨K,hK,e⟩:=PB {S with U:=K6 S.U 0 t S.U.length};have hi:Mw S t=true:=by
  cases e:Mw S t with
  |true=>rfl
  |false=>exact absurd e h3
 have LF:(DJ S t).st=1:=Eo.1 h4;have hsu:su {S with U:=K6 S.U 0 t S.U.length} t=t:=by
  unfold su;rw[Ab];rintro(g|g)
  ·have g:Mw S t=false:=g;rw[hi] at g;cases g
  ·exact g LF
 simp only;refine⟨⟨U7 _,?_,?_,?_,?_,?_⟩,?_,?_,?_,?_⟩
 ·rw[e];show KL ((K6 S.U 0 t S.U.length).map _) 0=t;have e7:(K6 S.U 0 t S.U.length)[0]?=some t:=by
   unfold K6;rw[CK,List.drop_length,Bj,List.getElem?_mapIdx,Ak k0];rfl
  unfold KL;rw[Ab (by rw[A5,Rb];omega),A4,A7];show(((K6 S.U 0 t S.U.length)[0]?).map _).getD 0=t;rw[e7];exact hsu
 ·rw[e];exact hi
 ·rw[e];exact LF
 ·rw[e];exact hh
 ·rw[e];show 0<K.length;rw[hK];show 0<S.K.length;omega
 ·rw[e]
 ·rw[e]
 ·rw[e]
 ·rw[e];exact⟨_,_,rfl⟩
theorem xi{c:N0}{L:List FoT}(hL:PI c.op=some L)(hn:¬c.op=1):BW c=U2 c (VQ c L [0,1,2,3,4,5] Ji 0 0):=by unfold BW;rw[hL];simp only;rw[Ab λh=>hn h.1];rfl
theorem uY{op p:Int}(ho:op=6\/op=11)(h1:0<=p/\p<16):BW ⟨op,p,0,0,0,0,0⟩=({Ji with op:=op,a:=p},0):=by
 have hL:PI op=some [Ru 1]:=by rcases ho with rfl|rfl<;>rfl
 rw[xi (L:=[Ru 1]) hL (by dsimp only;omega)];have a1:¬(p<0\/4095<p):=by omega
 simp[VQ,GU,GZ,Mo,U2,a1]
theorem qj{p q:Int}(h1:0<=p/\p<16)(h2:0<=q/\q<16)(h3:0<=m/\m<8):BW ⟨2,p,q,m,0,0,0⟩=({Ji with op:=2,a:=p,b:=q,n0:=m},0):=by
 rw[xi (L:=[Ru 1,Ru 2,WR (some 4) 0 7]) rfl (by dsimp only;omega)];have a1:¬(p<0\/4095<p):=by omega
 have a2:¬(q<0\/4095<q):=by omega
 have a3:¬(m<0\/7<m):=by omega
 simp[VQ,GU,GZ,Mo,U2,a1,a2,a3]
theorem qk(h:D.Pairwise λx y=>x.1<y.1)(Dh:E0 D s=true):Fc D s (Dv D s)=D:=by
 unfold Fc;have: ∀x,x∈D->(if x.1=s.1 then(x.1,x.2.set s.2.toNat (Dv D s)) else x)=x:=λx hx=>by
  by_cases e:x.1=s.1
  ·rw[Ad e];have hf:=Uk (key:=Prod.fst) h hx;unfold E0 II at Dh;rw[<-e,hf,AM,A3,A3] at Dh;simp only at Dh;have hat:Dv D s=x.2.getD s.2.toNat Cu:=by unfold Dv;rw[<-e,hf]
   rw[hat,A4,Ak Af,Dl,List.set_getElem_self]
  ·rw[Ab e]
 rw[Bs this,List.map_id']
theorem uZ(D:SD)(s:Ch)(c d:CapT):Fc (Fc D s c) s d=Fc D s d:=by
 unfold Fc;rw[CO];apply Bs;intro x _;simp only[Function.comp_apply];by_cases e:x.1=s.1
 ·rw[Ad e];simp only;rw[Ad e,Jr,Ad e]
 ·simp only[Ab e]
section
end
def xj(S S':KT)(t:Int)(a b:Nat):Prop:=(Fx S t a).2=true/\(Fx S' t a).2=true/\(Fx S t b).2=true/\(Fx S' t b).2=true/\(Fx S t a).1=(Fx S' t a).1/\(Fx S t b).1=(Fx S' t b).1
theorem Aao{m:Nat}(hI:InvH S.H n)(hR:VH S.A)(Kz:InvH S'.H m)(rC:VH S'.A)(PJ:Mw S' t=true)(ha:a<16)(h:GB S t a=(x,0))(h1:(Fx S' t a).2=true)(h2:(Fx S t a).1=(Fx S' t a).1)(Dh:E0 S'.H.1 x=true):GB S' t a=(x,0):=by have e1:=(kw hI hR ha h).1;have e2:Fx S' t a=(x,true):=Eu (by rw[<-h2,e1]) h1;rw[kv Kz rC PJ ha e2,Ad Dh]
structure SerN(N:As.ASt):Prop where
 gv: ∀n:Nat,n<32->0<=N.given n
 sr: ∀n:Nat,n<32->N.root n≠0->N.ser n%32=n/\1<=N.ser n/\N.ser n<=16777215
theorem AdD{N:As.ASt}(h:SerN N):(As.rootP N 0).2.2=false:=by
 unfold As.rootP;cases e:As.findN N (As.isSer 0) with
 |none=>rfl
 |some n=>obtain⟨h1,h2,h3,h4⟩:=As.findN_lt N _ n e;have h5:=(h.sr n h1 h3).2.1;have h6:N.ser n=0:=Do h4;omega
theorem Aap{a c:Ch}(h:(F7 H a c r).1=0):Hk H a c=0/\r.2=0/\KV r.1=true/\(F7 H a c r).2=(Fc H.1 c r.1,(Tr.childD H.2 a c).2):=by
 unfold F7 at h⊢;by_cases h1:Hk H a c≠0
 ·rw[Ad h1] at h;exact absurd h h1
 rw[Ab h1] at h⊢;by_cases h2:r.2≠0
 ·rw[Ad h2] at h;exact absurd h h2
 rw[Ab h2] at h⊢;refine⟨by simpa using h1,by simpa using h2,?_⟩;unfold It at h⊢;by_cases g1:E0 H.1 a=false\/E0 H.1 c=false
 ·rw[Ad g1] at h;cases h
 rw[Ab g1] at h⊢;by_cases g2:KV r.1=false
 ·rw[Ad g2] at h;cases h
 rw[Ab g2] at h⊢;by_cases g3:(Dv H.1 a).kind=0
 ·rw[Ad g3] at h;cases h
 rw[Ab g3] at h⊢;by_cases g4:(Dv H.1 c).kind≠0
 ·rw[Ad g4] at h;cases h
 rw[Ab g4];exact⟨by simpa using g2,rfl⟩
theorem kz{D:Tr.DT}(h:Tr.DepOk 0 D)(hx:Tr.hasD D x=true)(hy:Tr.hasD D y=false):(Tr.removeD (Tr.childD D x y).2 y).2=D:=by
 unfold Tr.hasD at hx;cases e:Tr.splitD x D with
 |none=>rw[e] at hx;cases hx
 |some z=>
  obtain⟨A,d,B⟩:=z;obtain⟨e1,_⟩:=Tr.splitD_some e;have e2:(Tr.childD D x y).2=(A++[(x,d)])++(y,d+1)::B:=by unfold Tr.childD;rw[e];simp only;rw[Ab (by rw[hy];simp)];simp
  have HI:=Tr.hasD_no.1 hy;rw[e2];unfold Tr.removeD;rw[Tr.splitD_of (A:=A++[(x,d)]) (B:=B) (d:=d+1) λz hz=>HI z (by rw[e1];rcases AB.1 hz with h|h;exact Ai _ h;exact Aa _ (by rw[Ay.1 h];exact .head _))];simp only;have e3:Tr.decW (d+1) B=B:=by
   rw[e1] at h;have h2:=(Tr.DepOk.app.1 h).2;obtain⟨_,_,h3⟩:=h2;unfold Tr.decW;cases B with
   |nil=>rfl
   |cons b B=>
    have h4:¬d+1<b.2:=by have:=h3.2.1;simp only at this;omega
    rw[KR,List.dropWhile_cons];simp[h4]
  rw[e3,e1];simp
theorem dR(h:SerN S.N)(hc:c.serial=0):(Ft S c).2=false:=by
 unfold Ft
 split
 ·rfl
 ·unfold Ho;rw[hc,AdD h];rfl
theorem kA(h1:E0 S.H.1 y=true)(h2:(Dv S.H.1 y).kind≠0)(h3:J8 S.H y=false)(h4:(Dv S.H.1 y).kind=3->(Ft {S with H:=(Fc S.H.1 y Cu,(Tr.removeD S.H.2 y).2)} (Dv S.H.1 y)).2=false):
 Oe S y=((1,0),HW {S with H:=(Fc S.H.1 y Cu,(Tr.removeD S.H.2 y).2)}):=by
 have e0:R2 S y=0:=by unfold R2 Ep getD';rw[Ad h1,Ab (by simp only;exact λh=>h2 h.2)]
 have e1:D3 S.H y=((Dv S.H.1 y,0),(Fc S.H.1 y Cu,(Tr.removeD S.H.2 y).2)):=by unfold D3;rw[Ab (by rw[h1];simp),Ab h2]
 have e2:dropX S y={S with H:=(Fc S.H.1 y Cu,(Tr.removeD S.H.2 y).2)}:=by
  unfold dropX;rw[e1];simp only
  split
  ·rename_i hk;unfold M5;rw[h4 hk,Ab (by simp)]
  ·rfl
 have e3:dropR (17*Mz S+1) S [y] [] 0=(dropX S y,[],1):=by unfold dropR;rw[e1];simp only;rw[Ab (by simp),Ad (.inl h3),WQ]
 unfold Oe PW;rw[Ab (by rw[e0];simp),e3,e2];rfl
theorem dS(hr:Rdy S t)(hI:InvH S.H n)(hR:VH S.A)(hN:SerN S.N){p q m:Nat}(hp:p<16)(hq:q<16)(hm:m<8)
 (h:(FZ S (Ye 2 p q m 0)).1=([Kt t],0))(hf:xj S (FZ S (Ye 2 p q m 0)).2 t p q):
 (FZ (FZ S (Ye 2 p q m 0)).2 (Ye 6 q 0 0 0)).1=([Kt t],0)/\ ∃K,(FZ (FZ S (Ye 2 p q m 0)).2 (Ye 6 q 0 0 0)).2={S with K:=K}:=by
 have e0:=hr.ask (e:=Ye 2 p q m 0) rfl rfl;rw[e0] at h hf⊢;simp only at h hf⊢;obtain⟨c1,c2,c3⟩:=uU h;have d1:=qj (p:=p) (q:=q) (m:=m) Af Af Af;have d2:=uY (op:=6) (p:=q) (.inl rfl) Af;rw[d1] at c2 c3;simp only at c2 c3;obtain⟨x,y,fx,fy,g1,g2⟩:=uX (o:={Ji with op:=2,a:=(p:Int),b:=(q:Int),n0:=(m:Int)}) (mu (by dsimp only;omega)) rfl (by rw[c2]);rw[g2] at c3;simp only at fx fy c3;have g1:(F7 S.H x y (Ea (Dv S.H.1 x) m)).1=0:=g1;obtain⟨k0,k1,k2,k3⟩:=Aap g1;obtain⟨hx,hy,kx,ky⟩:=nK k0;have n1:=fG hx;have n2:=fG hy;have GS:x≠y:=λe=>kx (by rw[e];exact ky);obtain⟨c,hc⟩:=ξ ((Ea (Dv S.H.1 x) m).1)
 have Yo:=Ts k1;have hw:=Nw (hI.at x).2 (m:Int);have Afv:c.kind=3->c.serial=0:=by
  intro hk;rw[<-hc] at hk⊢;have e3:(Dv S.H.1 x).kind=3:=Yo.1.trans hk;unfold Ea at k1⊢
  repeat' split
  all_goals first|rfl|(rename_i g;exact absurd e3 g)|(exfalso;omega)
 rw[hc] at k2 k3 Yo hw;obtain⟨s1,s2⟩:=ck k2;obtain⟨H1,hH1⟩:=ξ ((Fc S.H.1 y c,(Tr.childD S.H.2 x y).2))
 rw[hH1] at k3;have c3':(JT S t ⟨2,p,q,m,0,0,0⟩).2={S with H:=H1}:=by rw[c3,<-k3];rfl
 rw[c3'] at hf⊢;have Yq:InvH H1 (n+1):=by have:=hI.der x y (Ea (Dv S.H.1 x) m) (by rw[hc];exact hw);rw[k3] at this;exact this
 have ok1: ∀s,E0 H1.1 s=E0 S.H.1 s:=λs=>by rw[<-hH1];exact Nz ..
 have at1:Dv H1.1 y=c:=by rw[<-hH1];exact nw hy
 have at2:Dv H1.1 x=Dv S.H.1 x:=by rw[<-hH1];exact Wr n2 n1 GS
 have tx:Tr.hasD S.H.2 x=true:=(hI.link x).2 ⟨hx,kx⟩;have ty:=hI.no ky;have RB:J8 H1 y=false:=by
  unfold J8;rw[Bool.and_eq_false_iff];right;rw[List.all_eq_false];refine⟨(x,Dv H1.1 x),(Yq.used _).2 ⟨by rw[ok1];exact hx,rfl,by rw[at2];exact kx⟩,?_⟩;have:HQ (Dv H1.1 x) (Dv H1.1 y)=true:=by rw[at1,at2];unfold HQ;rw[(hI.at x).1,s1,Yo.1,Yo.2];simp[s2]
  rw[this];simp[GS]
 obtain⟨hr1,K1,eK1⟩:=hr.keep (S':={S with H:=H1}) rfl rfl rfl;obtain⟨S1,Er⟩:=ξ (HW {S with H:=H1})
 rw[Er] at hr1 eK1 hf⊢;have yu:S1.H=H1:=by rw[eK1]
 have eA1:S1.A=S.A:=by rw[eK1]
 have eN1:S1.N=S.N:=by rw[eK1]
 obtain⟨f1,f2,f3,f4,f5,f6⟩:=hf;have j1:=Aao hI hR (S':=S1) (m:=n+1) (by rw[yu];exact Yq) (by rw[eA1];exact hR) hr1.i hq fy f4 f6 (by rw[yu,ok1];exact hy);have rN:=kA (S:=S1) (y:=y) (by rw[yu,ok1];exact hy) (by rw[yu,at1];exact s2) (by rw[yu];exact RB) (λhk=>dR (S:={S1 with H:=_}) (by show SerN S1.N;rw[eN1];exact hN) (by rw[yu,at1] at hk⊢;exact Afv hk));have hHH:((Fc S1.H.1 y Cu,(Tr.removeD S1.H.2 y).2):HS)=S.H:=by rw[yu,<-hH1];simp only;have hz:=hI.zero ky;rw[uZ,<-hz,qk hI.asc hy,kz hI.tree.dep tx ty]
 rw[hHH] at rN;have g4:HZ S1 t {Ji with op:=6,a:=(q:Int)} y (0,0)=(0,HW {S1 with H:=S.H}):=by show((Oe S1 y).1.2,(Oe S1 y).2)=_;rw[rN]
 have e9:=hr1.one (o:={Ji with op:=6,a:=(q:Int)}) (mu (by dsimp only;omega)) rfl j1 (by rw[g4]);rw[g4] at e9;have vZ:=uV (c:=⟨6,q,0,0,0,0,0⟩) d2 e9;have v6:=hr1.ask (e:=Ye 6 q 0 0 0) rfl rfl;rw[v6];simp only;rw[vZ];refine⟨rfl,?_⟩;simp only;rw[(U7 _).eq];obtain⟨_,K2,eK2⟩:=hr1.keep (S':={S1 with H:=S.H}) rfl rfl rfl;rw[eK2,eK1];exact⟨K2,rfl⟩
abbrev ntZ:NoT:=⟨0,0,0,msZ,0,false,0,0,false⟩
theorem dU(v:Value)(xs:List NoT)(cs l:Ac)(ho:OwnSl 69 12 v xs.length (HY xs) cs)(hs: ∀c,c∈cs->c∈l)(hx:xs.length<=1000000):
 Fn prog 52 [v] l λr l'=> ∃c2,OwnSl 69 12 r xs.length (HY xs) c2/\l'=c2++l:=by
 obtain⟨Ef,h⟩:=ho;refine AO func52 ntmps52 λE=>?_;rcases h with⟨rfl,h0,rfl⟩|⟨gb,cap,sp,rfl,rfl,im,Vn,N5⟩
 ·refine Aj ?_;refine Bc .refl ?_;exact⟨[],⟨Ef,.inl ⟨rfl,h0,rfl⟩⟩,rfl⟩
 ·have hg:=hs _ Al;refine Aj ?_;refine AP mm ?_;rintro _ _ ⟨bl,SO,rfl,rfl⟩;refine Aj ?_;apply kT
  ·apply GN (e:=69) (k:=12) (xs:=[]) (cs:=[(bl,.cells #[] 69 (0,0))]) (F:=l) (news:=HY xs) (zs:=R4 ntZ) (cl:=τ (HY xs++sp))
   ·rfl
   ·rfl
   ·rfl
   ·exact OwnSl.empty
   ·exact .tail _ hg
   ·intro j u hj;have C7:=(Aw.1 hj).1;rw[BG,AF,AH C7];exact hj
   ·exact Ef
   ·exact ad xs
   ·unfold maxLen;omega
   ·omega
  ·rfl
  ·rfl
  ·rfl
  rintro v' _ ⟨c2,F0,rfl⟩;rw[Ag,BG] at F0;have Js:v'.oneCell'=true:=F0.one;refine Aj ?_;refine Bc .refl ?_;exact⟨c2,F0,rfl⟩
def StOwn:List (Int×List NoT)->Ap->Ac->Prop
 |[],rows,cs=>rows=[]/\cs=[]
 |x::r,rows,cs=> ∃v c rows' cs',OwnSl 69 12 v x.2.length (HY x.2) c/\rows=NS x.1 v++rows'/\cs=c++cs'/\StOwn r rows' cs'
theorem StOwn.snoc: ∀{st:List (Int×List NoT)} {rows:Ap} {cs:Ac} {co:Int} {ns:List NoT} {v:Value} {c:Ac},StOwn st rows cs->OwnSl 69 12 v ns.length (HY ns) c->StOwn (st++[(co,ns)]) (rows++NS co v) (cs++c)
 |[],_,_,co,ns,v,c,⟨h1,h2⟩,ho=>by subst h1 h2;exact⟨v,c,[],[],ho,by simp,by simp,rfl,rfl⟩
 |x::r,_,_,co,ns,v,c,⟨w,d,rows',cs',h1,h2,h3,h4⟩,ho=>⟨w,d,_,_,h1,by rw[h2,Am],by rw[h3,Am],h4.snoc ho⟩
abbrev dV(wb kb:Nat)(vt vs:Value):Bh:=(wb,.cells (τ [pV kb,vt,vs]) 120 (0,0))
structure IsWo(F C k:Nat)(S:KT)(th:A8)(st:List (Int×List NoT))(wb:Nat)(l:Ac):Prop where
 ex: ∃b kb p s vt vs ct cs rows cn,IsK F C k S p s/\OwnSl 3 1 vt th.length (th.map CU) ct/\OwnSl 32 2 vs st.length rows cs/\StOwn st rows cn/\st.length<=100000/\l=dV wb kb vt vs::PY kb b::(ct++(cs++(cn++AA b p s S [])))
theorem Aaq(b:Nat)(p:RP)(s:RL)(S:KT)(A G:Ac):(A++(AA b p s S []++G)).Perm (AA b p s S (A++G)):=by unfold AA;exact δ
theorem Agy(b:Nat)(p:RP)(s:RL)(S:KT)(c2 A X G:Ac):Keep (c2++AA b p s S (X++(A++G))) (A++(c2++(AA b p s S []++G))):=by unfold AA;exact γ X
theorem AdE{s:RL}(hK:IsK F C (k+gV e) S p s)(kb:Nat)(he:aI e)(A G:Ac)(hk:PY kb b∈A):
 Fn prog 51 [pV kb,NR e] (A++(AA b p s S []++G)) λv l'=> ∃sl c2 s1,v= .agg (τ (NS (FZ S e).1.2 sl))/\OwnSl 69 12 sl (FZ S e).1.1.length (HY (FZ S e).1.1) c2/\IsK F C k (FZ S e).2 p s1/\l'=A++(c2++(AA b p s1 (FZ S e).2 []++G)):=
 Fn.re (.of_perm (Aaq ..)) (Agx e hK kb (Ai _ hk) he) λv l' ⟨sl,c2,s1,L,h1,h2,h3,⟨X,h4⟩,h5⟩=>⟨_,by rw[h5,h4];exact Agy ..,sl,c2,s1,h1,h2,h3,rfl⟩
theorem Agz{s:RL}(hK:IsK F C (k+gV e) S p s)(kb:Nat)(he:aI e)(X:Ac)(w:Bh)(ct cs cn G:Ac):
 Fn prog 51 [pV kb,NR e] (X++(w::PY kb b::(ct++(cs++(cn++(AA b p s S []++G)))))) λv l'=> ∃sl c2 s1,v= .agg (τ (NS (FZ S e).1.2 sl))/\OwnSl 69 12 sl (FZ S e).1.1.length (HY (FZ S e).1.1) c2/\IsK F C k (FZ S e).2 p s1/\l'=X++(w::PY kb b::(ct++(cs++(cn++(c2++(AA b p s1 (FZ S e).2 []++G)))))):=by
 have h:=AdE (b:=b) hK kb he (X++w::PY kb b::(ct++(cs++cn))) G (by simp);simp only[Am,Ae] at h;exact h
end Go.Proofs.YtlifcingifodfaaGreat
