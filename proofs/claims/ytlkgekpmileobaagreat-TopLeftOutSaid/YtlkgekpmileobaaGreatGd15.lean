/- Laws that the statement's proof leans on (joined out of several texts). -/
import Derived.Test.YtlkgekpmileobaaGreatGd14
set_option maxHeartbeats 4000000
set_option linter.unusedVariables false
set_option linter.unusedSimpArgs false
namespace Go.Proofs.YtlkgekpmileobaaGreat
open Tryz
open List(replicate)
open Go.RowKit
set_option maxRecDepth 20000
variable{x y a b:Ce}{S:KT}{t id core n f va gv inn:Int}{c:CapT}{e:Oe}{H:HS}{o:In}{A:Ar.ArT}{m:MN}{k F C wb:Nat}{os:List Ar.ObT}{K:List Ic}{D:SD}{r:CapT×Int}{s:As.ASt}{cl:Bool}{th:List Int}
def s9(t:Th.ThT):Prop:=t.hs=false->t.wr=false/\t.va=0/\t.vl=0
def I4(D:SD)(c:CapT):Prop:= ∃x,x∈D/\c∈x.2
def From(S:KT)(c:CapT):Prop:=c.kind=0\/ ∃d,I4 S.H.1 d/\d.kind=c.kind/\d.obj=c.obj
def RgS(K K':List Ic):Prop:= ∀c',c'∈K'->(∃c,c∈K/\c'.ro=c.ro/\c'.sp=c.sp)\/K5 c'.ro c'.sp
structure GG(P:KT->Prop):Prop where
 free: ∀{S:KT} (Q:Nat->List Int) (E:En.DE) (W:List Int) (U:List Int) (N:As.ASt),P S->P {S with Q:=Q,E:=E,W:=W,U:=U,N:=N}
 core: ∀{S:KT} {K:List Ic},P S->RgS S.K K->P {S with K:=K}
 set: ∀{S:KT} {t:Th.ThT},P S->s9 t->P (Dw S t)
 rz: ∀{S:KT},P S-> ∀id,s9 (DB S id)
 hold: ∀{S:KT} {H':HS},P S->(∀c,I4 H'.1 c->From S c)->P {S with H:=H'}
 place: ∀{S:KT} (id a b c:Int),P S->P {S with A:=(Ar.placeD S.A id a b c).2}
 mark: ∀{S:KT} (id m:Int),P S->P {S with A:=(Ar.markD' S.A id m).2}
 unm: ∀{S:KT} (id:Int),P S->P (Tm S id).2
structure Cl(P:KT->Prop):Prop extends GG P where
 one: ∀{S:KT} (x:Ce) (k z f:Int) (q:Int×Ce),P S->P (Oq x k z f S q)
theorem RgS.refl(K:List Ic):RgS K K:=λc h=> .inl ⟨c,h,rfl,rfl⟩
theorem RgS.tr{L M:List Ic}(h1:RgS K L)(h2:RgS L M):RgS K M:=λc hc=>by
 rcases h2 c hc with⟨d,hd,e1,e2⟩|h
 ·rcases h1 d hd with⟨x,hx,e3,e4⟩|h
  ·exact .inl ⟨x,hx,e1.trans e3,e2.trans e4⟩
  ·exact .inr (by rw[e1,e2];exact h)
 ·exact .inr h
theorem RgS.drop(K:List Ic)(f:Lm->Bool):RgS K (If K f):=λc hc=>by obtain⟨d,hd,rfl⟩:=Au.1 hc;exact .inl ⟨d,hd,rfl,rfl⟩
theorem RgS.drops: ∀(l:List Int) (K:List Ic),RgS K (l.foldl (λK n=>If K (PB n)) K)
 |[],K=> .refl K
 |n::l,K=>(RgS.drop K (PB n)).tr (RgS.drops l _)
theorem RgS.set(h:Mk K n=0)(t:KA):RgS K (K.set n.toNat {PC K n with tb:=t}):=λc hc=>by
 have hn:n.toNat<K.length:=by
  by_cases h2:n<0\/n>=K.length
  ·have e:Mk K n=3:=Ad h2;rw[e] at h;cases h
  ·omega
 rcases CC hc with h1|h1
 ·exact .inl ⟨c,h1,rfl,rfl⟩
 ·refine .inl ⟨K[n.toNat],Hg hn,?_,?_⟩<;>(rw[h1];simp only[PC,Bd,Al hn,Di])
theorem RgS.trans'(K:List Ic)(W:List Int)(n pg:Int):RgS K (DA K W n pg).2:=by
 unfold DA
 split
 ·exact .refl K
 rename_i h
 split
 ·exact .refl K
 split
 ·exact .refl K
 split
 ·exact .refl K
 split
 ·exact .refl K
 ·exact .set (FE.1 h) _
theorem RgS.ev(K:List Ic)(n st wy:Int):RgS K (iy K n st wy).2:=by
 unfold iy
 split
 ·exact .refl K
 ·rename_i h;exact .set (FE.1 h) _
theorem RgS.setC(K:List Ic)(n r s:Int):RgS K (setC K n r s).2:=by
 unfold Go.Proofs.YtlkgekpmileobaaGreat.setC
 split
 ·exact .refl K
 split
 ·exact .refl K
 ·rename_i h;intro c hc;rcases CC hc with h1|h1
  ·exact .inl ⟨c,h1,rfl,rfl⟩
  ·exact .inr (by rw[h1];exact FE.1 h)
theorem Kz{s:Ce}{d:CapT}(h:I4 (FS D s c) d):d=c\/I4 D d:=by
 obtain⟨x,hx,hd⟩:=h;unfold FS at hx;obtain⟨y,hy,rfl⟩:=Au.1 hx
 split at hd
 ·rcases CC hd with h|h
  ·exact .inr ⟨y,hy,h⟩
  ·exact .inl h
 ·exact .inr ⟨y,hy,hd⟩
section
variable{d:CapT}
theorem From.self(h:I4 S.H.1 c):From S c:= .inr ⟨c,h,rfl,rfl⟩
theorem From.of(hd:From S d)(h1:d.kind=c.kind)(h2:d.obj=c.obj):From S c:=by
 rcases hd with h|⟨e,he,h3,h4⟩
 ·exact .inl (by rw[<-h1];exact h)
 ·exact .inr ⟨e,he,by rw[h3,h1],by rw[h4,h2]⟩
theorem From.at(S:KT)(s:Ce):From S (DJ S.H.1 s):=by
 unfold DJ
 split
 ·rename_i x hx;rw[Bd];cases e:x.2[s.2.toNat]? with
  |none=>exact .inl rfl
  |some c=>exact .self ⟨x,(ED hx).1,A6 e⟩
 ·exact .inl rfl
theorem From.cp(S:KT)(s:Ce):From S (DU S s):=by
 show From S (getD' S.H.1 s).1;unfold getD'
 split
 ·exact From.at S s
 ·exact .inl rfl
theorem VE{m:Int}:(D4 c m).2=0->c.kind=(D4 c m).1.kind/\c.obj=(D4 c m).1.obj:=by
 unfold D4
 repeat' split
 all_goals first|exact λ_=>⟨rfl,rfl⟩|exact λh=>absurd h AX
theorem ku{m:Nat}:(RO c m).2=0->c.kind=(RO c m).1.kind/\c.obj=(RO c m).1.obj:=by
 unfold RO
 repeat' split
 all_goals first|exact λ_=>⟨rfl,rfl⟩|exact λh=>absurd h AX
theorem bk{m:Int}{n:Nat}:(G5 c m n).2=0->c.kind=(G5 c m n).1.kind/\c.obj=(G5 c m n).1.obj:=by
 unfold G5
 split
 ·rename_i h;exact λh2=>absurd h2 h
 ·rename_i h;intro h2;have h3:=VE (FE.1 h);have h4:=ku h2;exact⟨h3.1.trans h4.1,h3.2.trans h4.2⟩
theorem SR{r:CapT}(hc:I4 (Gz H a b r).2.1 c):c=r\/I4 H.1 c:=by
 unfold Gz at hc
 repeat' split at hc
 all_goals first|exact .inr hc|exact Kz hc
theorem kv(hc:I4 (Fs H a b r).2.1 c):(r.2=0/\c=r.1)\/I4 H.1 c:=by
 unfold Fs at hc
 split at hc
 ·exact .inr hc
 split at hc
 ·exact .inr hc
 ·rename_i h;rcases SR hc with h1|h1
  ·exact .inl ⟨FE.1 h,h1⟩
  ·exact .inr h1
end
namespace GG
variable{P:KT->Prop}{S:KT}
theorem fQ(h:GG P)(hS:P S)(x:Nat->List Int):P {S with Q:=x}:=h.free x S.E S.W S.U S.N hS
theorem fE(h:GG P)(hS:P S)(x:En.DE):P {S with E:=x}:=h.free S.Q x S.W S.U S.N hS
theorem fW(h:GG P)(hS:P S)(x:List Int):P {S with W:=x}:=h.free S.Q S.E x S.U S.N hS
theorem fK(h:GG P)(hS:P S){x:List Ic}(hx:RgS S.K x):P {S with K:=x}:=h.core hS hx
theorem fU(h:GG P)(hS:P S)(x:List Int):P {S with U:=x}:=h.free S.Q S.E S.W x S.N hS
theorem fN(h:GG P)(hS:P S)(x:As.ASt):P {S with N:=x}:=h.free S.Q S.E S.W S.U x hS
theorem all(h:GG P)(hS:P S)(Q:Nat->List Int)(E:En.DE)(W:List Int)(U:List Int)(N:As.ASt){K:List Ic}(hK:RgS S.K K):P {S with Q:=Q,E:=E,W:=W,K:=K,U:=U,N:=N}:=
 h.core (S:={S with Q:=Q,E:=E,W:=W,U:=U,N:=N}) (h.free Q E W U N hS) hK
theorem placeW(h:GG P)(hS:P S)(W:List Int)(id a b c:Int):P {S with W:=W,A:=(Ar.placeD S.A id a b c).2}:=h.place (S:={S with W:=W}) id a b c (h.fW hS W)
theorem ea{α:Type}{f:KT->α->KT}(hf: ∀S x,P S->P (f S x)): ∀(l:List α) (S:KT),P S->P (l.foldl f S)
 |[],_,h=>h
 |x::l,S,h=>ea hf l (f S x) (hf S x h)
theorem der(h:GG P)(hS:P S)(a b:Ce)(r:CapT×Int)(hr:r.2=0->From S r.1):P {S with H:=(Fs S.H a b r).2}:=
 h.hold hS λc hc=>(kv hc).elim (λ⟨h1,h2⟩=>h2▸hr h1) From.self
theorem copy(h:GG P)(hS:P S)(a b:Ce)(m:Int):P {S with H:=(Fs S.H a b (D4 (DJ S.H.1 a) m)).2}:=
 h.der hS a b _ λe=>(From.at S a).of (VE e).1 (VE e).2
theorem st(h:GG P)(hS:P S)(id st:Int):P (Mm S id st).2:=by
 unfold Mm
 split
 ·exact hS
 ·dsimp only
  split
  ·exact h.fQ (h.set (t:={DB S id with st:=st}) hS (h.rz hS id)) _
  ·exact h.fQ (h.set (t:={DB S id with st:=st}) hS (h.rz hS id)) _
theorem fr(h:GG P)(hS:P S)(id:Int):P (kU S id):=by
 unfold kU
 split
 ·exact h.set (t:={DB S (Th.serverD S.T id) with ca:=0}) hS (h.rz hS (Th.serverD S.T id))
 ·exact hS
theorem haltE(h:GG P)(hS:P S)(id:Int):P (haltE S id).2:=h.st (h.set (t:=Uj (DB S id)) hS λ_=>⟨rfl,rfl,rfl⟩) id 0
theorem halt(h:GG P)(hS:P S)(id:Int):P (Ha S id).2:=by
 unfold Ha
 split
 ·exact hS
 ·exact h.haltE (h.fr (h.fE hS _) _) _
theorem unh1(h:GG P)(hS:P S)(c:CapT):P (MA S c):=by
 unfold MA
 split
 ·exact h.all hS S.Q S.E _ S.U S.N (.drop _ _)
 ·exact hS
theorem off1(h:GG P)(hS:P S)(id:Int):P (Qh S id):=by
 unfold Qh
 split
 ·exact h.place (S:={S with W:=_,K:=_}) id 0 0 0 (h.all hS S.Q S.E _ S.U S.N (.drop _ _))
 ·exact hS
theorem off(h:GG P)(hS:P S)(id:Int):P (OM S id).2:=by
 unfold OM
 split
 ·exact hS
 split
 ·exact h.off1 hS id
 split
 ·refine h.all hS S.Q S.E S.W S.U _ ?_
  split
  ·exact .drop _ _
  ·exact .refl _
 split
 ·exact h.all hS S.Q S.E S.W S.U _ (.drops _ _)
 ·exact hS
theorem endT(h:GG P)(hS:P S)(id:Int):P (endT S id):=by
 unfold Go.Proofs.YtlkgekpmileobaaGreat.endT
 split
 ·have h1:=h.halt hS (DB S id).ca;exact h.set (t:={DB (Ha S (DB S id).ca).2 id with ca:=0}) h1 (h.rz h1 id)
 ·exact hS
theorem ends(h:GG P)(hS:P S)(c:CapT):P (JY S c):=by
 unfold JY
 split
 ·exact h.off hS _
 split
 ·exact ea (P:=P) (f:=λS t=>(Ha S t).2) (λS x hS=>h.halt hS x) _ _ hS
 split
 ·exact h.endT (h.halt hS _) _
 ·exact hS
theorem clear(h:GG P)(hS:P S)(x:Ce):P {S with H:=(DS S.H x).2}:=by
 refine h.hold hS λc hc=>?_;unfold DS at hc
 repeat' split at hc
 ·exact .self hc
 ·exact .self hc
 ·rcases Kz hc with h|h
  ·exact .inl (by rw[h])
  ·exact .self h
theorem dropX(h:GG P)(hS:P S)(x:Ce):P (dropX S x):=by
 unfold Go.Proofs.YtlkgekpmileobaaGreat.dropX
 split
 ·exact h.unh1 (h.clear hS x) _
 ·exact h.clear hS x
theorem dropR(h:GG P): ∀(m:Nat) (S:KT) (ys:List Ce) (es:List Int) (n:Nat),P S->P (dropR m S ys es n).1
 |0,_,_,_,_,hS=>by unfold Go.Proofs.YtlkgekpmileobaaGreat.dropR;exact hS
 |_+1,_,[],_,_,hS=>by unfold Go.Proofs.YtlkgekpmileobaaGreat.dropR;exact hS
 |m+1,S,x::ys,es,n,hS=>by
  unfold Go.Proofs.YtlkgekpmileobaaGreat.dropR
  split
  ·exact h.dropR m _ _ _ _ (h.clear hS x)
  split
  ·exact h.dropR m _ _ _ _ (h.dropX hS x)
  ·exact h.dropR m _ _ _ _ (h.ends (h.dropX hS x) _)
theorem setl(h:GG P)(hS:P S):P (K7 S):=ea (P:=P) (f:=Fo) (λS j hS=>by
 refine h.all hS S.Q S.E S.W _ S.N ?_
 split
 ·exact .setC _ _ _ _
 ·exact .setC _ _ _ _) _ _ hS
theorem drop(h:GG P)(hS:P S)(x:Ce):P (Pr S x).2:=h.setl (ea (P:=P) (f:=λS id=>(Tm S id).2) (λS id hS=>h.unm id hS) _ _ (h.dropR _ _ _ _ _ hS))
theorem del(h:GG P)(hS:P S)(x:Ce):P (NE S x).2:=by
 unfold NE
 split
 ·exact hS
 ·exact h.drop hS x
theorem revR(h:GG P): ∀(m:Nat) (S:KT) (x:Ce) (bu n:Nat),P S->P (revR m S x bu n).2
 |0,_,_,_,_,hS=>by unfold Go.Proofs.YtlkgekpmileobaaGreat.revR;exact hS
 |m+1,S,x,bu,n,hS=>by
  unfold Go.Proofs.YtlkgekpmileobaaGreat.revR
  split
  ·exact hS
  split
  ·exact hS
  split
  ·exact hS
  ·exact h.revR m _ _ _ _ (h.drop hS _)
theorem rev(h:GG P)(hS:P S)(x:Ce)(bu:Int):P (Oc S x bu).2:=by
 unfold Oc
 split
 ·exact hS
 split
 ·exact hS
 ·exact h.revR _ _ _ _ _ hS
theorem giv(h:GG P)(hS:P S)(t u:Th.ThT):P (Pq S t u).2:=by
 unfold Pq
 split
 ·exact hS
 split
 ·exact h.copy hS _ _ 7
 ·exact hS
theorem hand(h:GG P)(hS:P S)(t:Th.ThT)(id:Int)(m:MN)(bd:Int):P (JA S t id m bd).2:=h.set (h.giv hS t _) (h.rz hS id)
theorem calls1(h:GG P)(hS:P S)(u:Int):P (JZ S u):=by
 unfold JZ
 split
 ·exact hS
 ·exact h.halt hS _
theorem calls(h:GG P)(hS:P S)(t u:Int):P (ON S t u):=by have h1:=h.calls1 hS u;exact h.st (h.set (t:={DB (JZ S u) u with ca:=t}) h1 (h.rz h1 u)) t 4
theorem sendH(h:GG P)(hS:P S)(x:Th.ThT)(t u:Int)(m:MN)(bd:Int)(cl:Bool):P (sendH S x t u m bd cl).2:=by
 have h1:=h.st (h.hand (h.fE hS (En.removeD S.E u).2) x u m bd) u 1;unfold Go.Proofs.YtlkgekpmileobaaGreat.sendH;generalize(Mm (JA {S with E:=(En.removeD S.E u).2} x u m bd).2 u 1).2=S1 at h1⊢
 split
 ·exact h.calls (h.set (t:={DB S1 t with cl:=true}) h1 (h.rz h1 t)) _ _
 ·exact h1
theorem send(h:GG P)(hS:P S)(t:Int)(x:Ce)(m:MN)(gv:Int)(cl:Bool):P (GE S t x m gv cl).2:=by
 unfold GE
 split
 ·exact hS
 split
 ·exact hS
 split
 ·exact hS
 split
 ·exact h.st (h.set (t:=aD m (DU S x) gv cl (DB S t)) (h.fE hS (En.waitD S.E (DU S x).obj t true).2) (h.rz hS t)) t 2
 ·exact h.sendH hS _ _ _ _ _ _
theorem recvW(h:GG P)(hS:P S)(w:Bool)(id t:Int):P (recvW S w id t):=by
 unfold Go.Proofs.YtlkgekpmileobaaGreat.recvW
 split
 ·exact h.calls hS _ _
 ·exact h.st hS _ _
theorem recvH(h:GG P)(hS:P S)(t id:Int):P (recvH S t id).2:=by have h1:=h.recvW (h.hand (h.fE hS (En.removeD S.E id).2) (DB S id) t (dQ (DB S id)) (DB S id).ob) ((DB S id).cl||(DB S id).fa) id t;unfold Go.Proofs.YtlkgekpmileobaaGreat.recvH;dsimp only;generalize Go.Proofs.YtlkgekpmileobaaGreat.recvW (JA {S with E:=(En.removeD S.E id).2} (DB S id) t (dQ (DB S id)) (DB S id).ob).2 ((DB S id).cl||(DB S id).fa) id t=S1 at h1⊢;exact h.set (t:=jH (DB S1 id)) h1 (h.rz h1 id)
theorem recv(h:GG P)(hS:P S)(t:Int)(x:Ce)(inn:Int):P (JN S t x inn).2:=by
 have h1:P (Dw S {DB S t with inn:=inn}):=h.set (t:={DB S t with inn:=inn}) hS (h.rz hS t);unfold JN
 split
 ·exact hS
 split
 ·exact hS
 split
 ·exact hS
 split
 ·exact h.st (h.set (t:={DB (Dw S {DB S t with inn:=inn}) t with wa:=(DU S x).obj}) (h.fE h1 (En.waitD S.E (DU S x).obj t false).2) (h.rz h1 t)) t 3
 ·exact h.recvH h1 _ _
theorem replyH(h:GG P)(hS:P S)(ca:Int)(m:MN)(t:Int):P (replyH S ca m t).2:=by
 refine h.st (h.set (t:=ND m (DB S (DB S ca).id)) hS ?_) _ _;unfold ND
 split
 ·exact h.rz hS _
 ·exact h.rz hS _
theorem reply(h:GG P)(hS:P S)(t:Int)(m:MN):P (Hz S t m).2:=by
 unfold Hz
 split
 ·exact hS
 split
 ·exact hS
 ·exact h.replyH (h.set (t:={DB S t with ca:=0}) hS (h.rz hS t)) (DB S t).ca m t
theorem raise(h:GG P)(hS:P S)(t:Th.ThT)(x:P0)(f:od)(hx:x.hs=true):P (Ky S t x f).2:=by
 have h1:P (Dw S (MO t x)):=h.set (t:=MO t x) hS λe=>by have e:x.hs=false:=e;rw[hx] at e;cases e
 have h2:=h.send h1 t.id (t.id,2) (Y8 f) 4096 true;unfold Ky;generalize(GE (Dw S (MO t x)) t.id (t.id,2) (Y8 f) 4096 true)=R at h2⊢
 split
 ·exact h.halt h1 _
 ·exact h.set (t:={DB R.2 t.id with fa:=true,cl:=t.cl}) h2 (h.rz h2 t.id)
theorem findA(h:GG P)(hS:P S)(core va:Int)(wr:Bool):P (findA S core va wr).2:=by
 unfold Go.Proofs.YtlkgekpmileobaaGreat.findA
 repeat' split
 all_goals first|exact hS|exact h.fK hS (.trans' _ _ _ _)
theorem acc(h:GG P)(hS:P S)(core:Int)(x:P0):P (Qs S core x).2:=by
 have h1:=h.findA hS core x.va;unfold Qs
 split
 ·unfold ji
  split
  ·exact h1 true
  ·exact h.fW (h1 true) _
 ·unfold fm
  split
  ·exact h1 false
  split
  ·exact h1 false
  ·exact h1 false
theorem doR(h:GG P)(hS:P S)(core:Int)(x:P0)(t:Th.ThT):P (doR S core x t).2:=by
 unfold Go.Proofs.YtlkgekpmileobaaGreat.doR
 split
 ·exact h.raise (h.acc hS core x) t _ _ rfl
 ·exact h.set (t:=MO t sZ) (h.acc hS core x) λ_=>⟨rfl,rfl,rfl⟩
theorem fdo(h:GG P)(hS:P S)(core:Int)(x:P0):P (MQ S core x).2:=by
 unfold MQ
 split
 ·exact hS
 ·exact h.doR hS core x _
theorem fag(h:GG P)(hS:P S)(core:Int):P (Od S core).2:=by
 unfold Od
 split
 ·exact hS
 split
 ·exact hS
 ·exact h.fdo hS core _
theorem run(h:GG P)(hS:P S)(core id:Int):P (Li S core id).2:=by
 unfold Li
 split
 ·exact hS
 split
 ·exact hS
 ·exact h.fU hS _
theorem now(h:GG P)(hS:P S)(t:Int):P (n7 S t):=by
 refine ea (P:=P) (f:=λS j=>Y3 S t j) (λS j hS=>?_) _ _ hS;unfold Y3
 split
 ·exact h.run hS _ _
 ·exact hS
theorem retype(h:GG P)(h1: ∀{S:KT} (x:Ce) (k z f:Int) (q:Int×Ce),P S->P (Oq x k z f S q))(hS:P S)(o:In)(x y:Ce):P (EY S o x y).2:=by
 unfold EY
 split
 ·exact hS
 split
 ·exact hS
 split
 ·exact hS
 split
 ·exact hS
 ·exact h.mark _ _ (ea (P:=P) (f:=Oq x o.n0 o.n1 _) (λS q hS=>h1 x _ _ _ q hS) _ _ hS)
theorem mapT(h:GG P)(hS:P S)(x y:Ce)(va:Int):P (MF S x y va).2:=by
 unfold MF
 repeat' split
 all_goals first|exact hS|exact h.placeW hS _ _ _ _ _
theorem unmT(h:GG P)(hS:P S)(x:Ce):P (Nz S x).2:=by
 unfold Nz
 split
 ·exact h.place _ 0 0 0 (h.off1 hS _)
 ·exact hS
theorem setHo(h:GG P)(hS:P S)(x:Ce)(c:CapT)(hc:From S c):P {S with H:=(Oa S.H x c).2}:=by
 refine h.hold hS λd hd=>?_;unfold Oa at hd
 repeat' split at hd
 all_goals first|exact .self hd|(rcases Kz hd with e|e<;>first|(rw[e];exact hc)|exact .self e)
theorem mapF(h:GG P)(hS:P S)(x y:Ce)(va ri:Int):P (MG S x y va ri).2:=by
 unfold MG
 repeat' split
 all_goals first|exact hS|exact h.all (h.setHo hS x {DU S x with serial:=(As.ofP S.N (DU S y).obj).2.1,page:=(Gu va).1} ((From.cp S x).of rfl rfl)) S.Q S.E _ S.U S.N (.drop _ _)
theorem sB(S:KT)(c:CapT):(MA S c).H=S.H:=by
 unfold MA
 split<;>rfl
theorem unmF(h:GG P)(hS:P S)(x:Ce):P (NC S x).2:=by
 unfold NC
 split
 ·refine h.setHo (h.unh1 hS _) x _ ?_;unfold From;rw[sB];exact(From.cp S x).of rfl rfl
 ·exact hS
theorem enab(h:GG P)(hS:P S)(x y:Ce):P (NA S x y).2:=by
 unfold NA
 split
 ·exact h.fN hS _
 ·exact hS
theorem assn(h:GG P)(hS:P S)(x y:Ce):P (NB S x y).2:=by
 unfold NB
 split
 ·exact h.free S.Q S.E _ S.U _ hS
 ·exact hS
theorem bind(h:GG P)(hS:P S)(n:Int)(x y:Ce):P (MD S n x y).2:=by
 unfold MD
 split
 ·exact hS
 ·exact h.copy hS y _ 7
theorem unbind(h:GG P)(hS:P S)(n:Int)(x:Ce):P (HV S n x).2:=by
 unfold HV
 split
 ·exact hS
 ·exact h.del hS _
theorem resume(h:GG P)(hS:P S)(x:Ce):P (HW S x).2:=by
 unfold HW
 split
 ·exact hS
 split
 ·exact hS
 ·exact h.st hS _ _
theorem suspend(h:GG P)(hS:P S)(x:Ce):P (Gv S x).2:=by
 unfold Gv
 split
 ·exact hS
 ·exact h.halt hS _
theorem prio(h:GG P)(hS:P S)(n:Int)(x:Ce):P (ME S n x).2:=by
 unfold ME
 split
 ·exact hS
 ·have h1:P (Dw S {DB S (DU S x).obj with pr:=n}):=h.set (t:={DB S (DU S x).obj with pr:=n}) hS (h.rz hS _);show P (aP _ _ _);unfold aP
  split
  ·exact h.fQ h1 _
  ·exact h.fQ h1 _
theorem swap(h:GG P)(hS:P S)(x y:Ce):P {S with H:=(Jy S.H x y).2}:=by
 refine h.hold hS λd hd=>?_;unfold Jy at hd
 split at hd
 ·exact .self hd
 ·rcases Kz hd with e|e
  ·rw[e];exact From.at S x
  rcases Kz e with e|e
  ·rw[e];exact From.at S y
  ·exact .self e
theorem move(h:GG P)(hS:P S)(x y:Ce):P {S with H:=(HN S.H x y).2}:=by
 refine h.hold hS λd hd=>?_;unfold HN at hd
 split at hd
 ·exact .self hd
 ·rcases Kz hd with e|e
  ·rw[e];exact From.at S x
  rcases Kz e with e|e
  ·exact .inl (by rw[e])
  ·exact .self e
theorem does(h:GG P)(hS:P S)(t:Int)(o:In)(x y:Ce)(hr:o.op=1->P (EY S o x y).2):P (I3 S t o x y).2:=by
 unfold I3;by_cases e1:o.op=1
 ·rw[Ad e1];exact hr e1
 rw[Ac e1];by_cases e2:o.op=2
 ·rw[Ad e2];exact h.copy hS x y _
 rw[Ac e2];by_cases e3:o.op=3
 ·rw[Ad e3];exact h.der hS x y _ λe=>(From.at S x).of (bk e).1 (bk e).2
 rw[Ac e3];by_cases e4:o.op=4
 ·rw[Ad e4];exact h.move hS x y
 rw[Ac e4];by_cases e5:o.op=5
 ·rw[Ad e5];exact h.swap hS x y
 rw[Ac e5];by_cases e6:o.op=6
 ·rw[Ad e6];exact h.del hS x
 rw[Ac e6];by_cases e7:o.op=7
 ·rw[Ad e7];exact h.rev hS x _
 rw[Ac e7];by_cases e8:o.op=8
 ·rw[Ad e8];exact h.mapT hS x y _
 rw[Ac e8];by_cases e9:o.op=9
 ·rw[Ad e9];exact h.unmT hS x
 rw[Ac e9];by_cases e10:o.op=10
 ·rw[Ad e10];exact h.mapF hS x y _ _
 rw[Ac e10];by_cases e11:o.op=11
 ·rw[Ad e11];exact h.unmF hS x
 rw[Ac e11];by_cases e12:o.op=12
 ·rw[Ad e12];exact h.enab hS x y
 rw[Ac e12];by_cases e13:o.op=13
 ·rw[Ad e13];exact h.assn hS x y
 rw[Ac e13];by_cases e18:o.op=18
 ·rw[Ad e18];exact h.now (h.fQ hS _) t
 rw[Ac e18];by_cases e19:o.op=19
 ·rw[Ad e19];exact h.bind hS _ x y
 rw[Ac e19];by_cases e20:o.op=20
 ·rw[Ad e20];exact h.unbind hS _ x
 rw[Ac e20];by_cases e21:o.op=21
 ·rw[Ad e21];exact h.resume hS x
 rw[Ac e21];by_cases e22:o.op=22
 ·rw[Ad e22];exact h.suspend hS x
 rw[Ac e22];by_cases e23:o.op=23
 ·rw[Ad e23];exact h.prio hS _ x
 rw[Ac e23];exact hS
theorem says(h:GG P)(hS:P S)(t:Int)(o:In)(x:Ce){r:(List GJ×Int)×KT}(hr:LL S t o x=some r):P r.2:=by
 unfold LL at hr
 split at hr
 ·cases hr;exact h.send hS ..
 split at hr
 ·cases hr;exact h.recv hS ..
 split at hr
 ·cases hr;exact h.reply hS ..
 ·cases hr
theorem ordE(h:GG P)(hS:P S)(t:Int)(o:In)(x y:Ce)(hr:o.op=1->P (EY S o x y).2):P (ordE S t o x y).2:=by
 unfold Go.Proofs.YtlkgekpmileobaaGreat.ordE
 split
 ·rename_i r hr;exact h.says hS t o x hr
 ·split
  ·exact h.does hS t o x y hr
  ·exact h.does hS t o x y hr
theorem ord(h:GG P)(hS:P S)(t:Int)(o:In)(hr: ∀x y,o.op=1->P (EY S o x y).2):P (J3 S t o).2:=by
 unfold J3
 split
 ·exact hS
 split
 ·exact hS
 split
 ·exact hS
 ·exact h.ordE hS t o _ _ (hr _ _)
theorem call(h:GG P)(hS:P S)(t:Int)(c:MR)(hr: ∀x y,(Ca c).1.op=1->P (EY S (Ca c).1 x y).2):P (NI S t c).2:=by
 unfold NI
 split
 ·split
  ·exact h.ord hS t _ hr
  ·exact h.ord hS t _ hr
 ·exact hS
theorem step(h:GG P)(hS:P S)(e:Oe)(hr: ∀x y,(Ca e.cl).1.op=1->P (EY S (Ca e.cl).1 x y).2):P (JO S e).2:=by
 unfold JO
 split
 ·exact hS
 split
 ·exact hS
 split
 ·exact h.fag hS _
 split
 ·exact h.fdo hS _ _
 split
 ·exact h.fdo hS _ _
 ·exact h.call hS _ _ hr
theorem pick(h:GG P)(hS:P S)(core t:Int):P (LM S core t).2:=by
 unfold LM
 repeat' split
 all_goals first|exact hS|exact h.run hS _ _
theorem cache(h:GG P)(hS:P S)(e:Oe):P (Jg S e).2:=by
 unfold Jg
 repeat' split
 all_goals first|exact hS|exact h.fK hS (.trans' _ _ _ _)|exact h.fK hS (.ev _ _ _ _)
theorem doA(h:GG P)(hS:P S)(e:Oe)(hr: ∀x y,(Ca e.cl).1.op=1->P (EY S (Ca e.cl).1 x y).2):P (doA S e).2:=by
 unfold Go.Proofs.YtlkgekpmileobaaGreat.doA
 split
 ·exact h.pick hS _ _
 split
 ·exact h.step hS e hr
 split
 ·exact h.cache hS e
 ·exact hS
theorem ev(h:GG P)(hS:P S)(e:Oe)(hr: ∀x y,(Ca e.cl).1.op=1->P (EY S (Ca e.cl).1 x y).2):P (K9 S e).2:=by
 unfold K9;dsimp only
 split
 ·exact h.setl (h.doA hS e hr)
 ·exact h.doA hS e hr
end GG
theorem Cl.ev{P:KT->Prop}(h:Cl P)(hS:P S)(e:Oe):P (K9 S e).2:=h.toGG.ev hS e λx y _=>h.toGG.retype h.one hS _ x y
def cS(K:List Ic)(j:Nat)(q:Int×Int):List Ic:=if j<K.length/\K5 q.1 q.2 then K.set j {K.getD j kR with ro:=q.1,sp:=q.2} else K
theorem br(K:List Ic)(j:Nat)(r s:Int):(setC K (j:Int) r s).2=cS K j (r,s):=by
 unfold setC cS;by_cases h1:j<K.length
 ·have e:Mk K (j:Int)=0:=Ac Af;rw[Ac (by rw[e];simp)];by_cases h2:K5 r s
  ·rw[Ac (by simpa using h2),Ad ⟨h1,h2⟩];simp only[PC,AY]
  ·rw[Ad h2,Ac λh=>h2 h.2]
 ·have e:Mk K (j:Int)=3:=Ad Af;rw[Ad (by rw[e];simp),Ac λh=>h1 h.1]
theorem bA(K:List Ic)(j:Nat)(q:Int×Int):cS (cS K j q) j q=cS K j q:=by
 by_cases h:j<K.length/\K5 q.1 q.2
 ·have e:cS K j q=K.set j {K.getD j kR with ro:=q.1,sp:=q.2}:=Ad h;rw[e];unfold cS;rw[Ad ⟨by simpa using h.1,h.2⟩,JQ];congr 1;rw[Bd,DR h.1];rfl
 ·have e:cS K j q=K:=Ac h;rw[e,e]
theorem oN(K:List Ic)(j m:Nat)(q r:Int×Int)(hjm:j≠m):cS (cS K m r) j q=cS (cS K j q) m r:=by
 have g: ∀(a b:Nat) (x:Ic),a≠b->(K.set b x).getD a kR=K.getD a kR:=λa b x h=>by rw[Bd,FD Af,<-Bd]
 unfold cS;by_cases h1:j<K.length/\K5 q.1 q.2
 ·by_cases h2:m<K.length/\K5 r.1 r.2
  ·rw[Ad h2,Ad h1,Ad (by simpa using h1),Ad (by simpa using h2),g j m _ hjm,g m j _ (Ff hjm),List.set_comm _ _ (Ff hjm)]
  ·rw[Ac h2,Ad h1,Ac (by simpa using h2)]
 ·by_cases h2:m<K.length/\K5 r.1 r.2
  ·rw[Ad h2,Ac h1,Ac (by simpa using h1),Ad h2]
  ·rw[Ac h2,Ac h1,Ac h2]
def su(S:KT)(u:Int):Int:=if My S u=false\/¬(DB S u).st=1 then 0 else u
def sk(S:KT)(u:Int):Int×Int:=if u=0\/(Ft S u).2=false then(-1,0) else((Ar.getD' S.A (Ft S u).1.1).1.fi,(Ft S u).1.2.1)
theorem Xp(S:KT)(j:Nat):Fo S j={S with U:=S.U.set j (su S (S.U.getD j 0)),K:=cS S.K j (sk S (su S (S.U.getD j 0)))}:=by
 have e:Po S j=su S (S.U.getD j 0):=rfl;unfold Fo sk;rw[e];by_cases h:su S (S.U.getD j 0)=0\/(Ft S (su S (S.U.getD j 0))).2=false
 ·rw[Ad h,Ad h,br]
 ·rw[Ac h,Ac h,br]
abbrev fu(S:KT)(U:List Int)(K:List Ic):KT:={S with U:=U,K:=K}
theorem Q8(S:KT)(U:List Int)(K:List Ic)(j:Nat):Fo (fu S U K) j=fu S (U.set j (su S (U.getD j 0))) (cS K j (sk S (su S (U.getD j 0)))):=Xp (fu S U K) j
theorem vv(S:KT)(u:Int):su S (su S u)=su S u:=by
 by_cases h:My S u=false\/¬(DB S u).st=1
 ·have e:su S u=0:=Ad h;rw[e];unfold su
  split<;>rfl
 ·have e:su S u=u:=Ac h;rw[e,e]
theorem Xq(U:List Int)(j m:Nat)(x:Int)(h:j≠m):(U.set m x).getD j 0=U.getD j 0:=by rw[Bd,FD Af,<-Bd]
theorem SS(S:KT)(U:List Int)(K:List Ic)(j m:Nat):Fo (Fo (fu S U K) m) j=fu S ((U.set m (su S (U.getD m 0))).set j (su S ((U.set m (su S (U.getD m 0))).getD j 0))) (cS (cS K m (sk S (su S (U.getD m 0)))) j (sk S (su S ((U.set m (su S (U.getD m 0))).getD j 0)))):=
 (BN (λX=>Fo X j) (Q8 S U K m)).trans (Q8 S _ _ j)
theorem Zp(S:KT)(U:List Int)(K:List Ic)(j:Nat):Fo (Fo (fu S U K) j) j=Fo (fu S U K) j:=by
 refine(SS S U K j j).trans (.trans ?_ (Q8 S U K j).symm);by_cases h:j<U.length
 ·rw[show(U.set j (su S (U.getD j 0))).getD j 0=su S (U.getD j 0) by rw[Bd,DR h];rfl,vv,JQ,bA]
 ·have e: ∀x,U.set j x=U:=λx=>List.set_eq_of_length_le Af;rw[e,e,bA]
theorem Zq(S:KT)(U:List Int)(K:List Ic)(j m:Nat)(h:j≠m):Fo (Fo (fu S U K) m) j=Fo (Fo (fu S U K) j) m:=by refine(SS S U K j m).trans (.trans ?_ (SS S U K m j).symm);rw[Xq _ _ _ _ h,Xq _ _ _ _ (Ff h),oN _ _ _ _ _ h,List.set_comm _ _ (Ff h)]
def Stl(S:KT):Prop:= ∀j,j<S.U.length->Fo S j=S
theorem Stl.eq(h:Stl S):K7 S=S:=by
 have g: ∀(l:List Nat),(∀j,j∈l->j<S.U.length)->l.foldl Fo S=S:=λl=>by
  induction l with
  |nil=>exact λ_=>rfl
  |cons x l ih=>intro hl;rw[D5,h x (hl x Ak)];exact ih λj hj=>hl j (An _ hj)
 exact g _ λj hj=>Er.1 hj
theorem kw(S:KT): ∀(m:Nat),(∃U K,U.length=S.U.length/\(List.range m).foldl Fo S=fu S U K)/\ ∀j,j<m->Fo ((List.range m).foldl Fo S) j=(List.range m).foldl Fo S
 |0=>⟨⟨S.U,S.K,rfl,rfl⟩,λj h=>by omega⟩
 |m+1=>by
  obtain⟨⟨U,K,hl,e⟩,h⟩:=kw S m;rw[Cu,EO,e];rw[e] at h;refine⟨⟨_,_,?_,Q8 S U K m⟩,λj hj=>?_⟩
  ·rw[Cv,hl]
  show Fo (Fo (fu S U K) m) j=Fo (fu S U K) m;by_cases hjm:j=m
  ·subst hjm;exact Zp S U K j
  ·rw[Zq S U K j m hjm,h j Af]
theorem kz(S:KT):Stl (K7 S):=by obtain⟨⟨U,K,hl,e⟩,h⟩:=kw S S.U.length;intro j hj;unfold K7 at hj⊢;rw[e] at hj;exact h j (by rw[<-hl];exact hj)
theorem kA(h:¬(Li S core id).1=0):(Li S core id).2=S:=by
 revert h;unfold Li
 repeat' split
 all_goals first|exact λ_=>rfl|exact λh=>absurd rfl h
theorem eb:¬(LM S core t).1=0->(LM S core t).2=S:=by
 unfold LM
 repeat' split
 all_goals first|exact λ_=>rfl|exact kA
theorem Zr:¬(Jg S e).1=0->(Jg S e).2=S:=by
 unfold Jg
 repeat' split
 all_goals first|exact λ_=>rfl|exact λh=>absurd rfl h
theorem Py{x:P0}:¬(MQ S core x).1.2=0->(MQ S core x).2=S:=by
 unfold MQ
 split
 ·exact λ_=>rfl
 ·exact λh=>absurd rfl h
theorem kB:¬(Od S core).1.2=0->(Od S core).2=S:=by
 unfold Od
 split
 ·exact λ_=>rfl
 split
 ·exact λ_=>rfl
 ·exact Py
theorem Uv(S:KT)(t:Int)(c:MR):(NI S t c).1.2=0:=by
 unfold NI
 repeat' split
 all_goals rfl
theorem ed:¬(JO S e).1.2=0->(JO S e).2=S:=by
 unfold JO
 split
 ·exact λ_=>rfl
 split
 ·exact λ_=>rfl
 split
 ·exact kB
 split
 ·exact Py
 split
 ·exact Py
 ·exact λh=>absurd (Uv ..) h
theorem Xr:¬(doA S e).1.2=0->(doA S e).2=S:=by
 unfold doA
 split
 ·exact eb
 split
 ·exact ed
 split
 ·exact Zr
 ·exact λ_=>rfl
theorem kC(h:¬(K9 S e).1.2=0):(K9 S e).2=S:=by show(if(doA S e).1.2=0 then _ else _)=S;have h:¬(doA S e).1.2=0:=h;rw[Ac h];exact Xr h
theorem Stl.ev(h:Stl S)(e:Oe):Stl (K9 S e).2:=by
 by_cases hc:(K9 S e).1.2=0
 ·show Stl (if(doA S e).1.2=0 then _ else _);have hc:(doA S e).1.2=0:=hc;rw[Ad hc];exact kz _
 ·rw[kC hc];exact h
section
theorem Zs:¬(Gz H a b c).1=0->(Gz H a b c).2=H:=by
 unfold Gz
 repeat' split
 all_goals first|exact λ_=>rfl|exact λh=>absurd rfl h
theorem SU:¬(Fs H a b r).1=0->(Fs H a b r).2=H:=by
 unfold Fs
 split
 ·exact λ_=>rfl
 split
 ·exact λ_=>rfl
 ·exact Zs
theorem ee:¬(HN H a b).1=0->(HN H a b).2=H:=by
 unfold HN
 split
 ·exact λ_=>rfl
 ·exact λh=>absurd rfl h
theorem eg:¬(Jy H a b).1=0->(Jy H a b).2=H:=by
 unfold Jy
 split
 ·exact λ_=>rfl
 ·exact λh=>absurd rfl h
theorem Xs{H':HS}(h:H'=S.H):({S with H:=H'}:KT)=S:=by rw[h]
theorem Xt:¬(NE S x).1.2=0->(NE S x).2=S:=by
 unfold NE
 split
 ·exact λ_=>rfl
 ·exact λh=>absurd rfl h
theorem Uw: ∀(m:Nat) (S:KT) (x:Ce) (bu n:Nat),(revR m S x bu n).1.2=0\/(revR m S x bu n).1.2=17
 |0,_,_,_,_=>by unfold revR;exact .inl rfl
 |m+1,S,x,bu,n=>by
  unfold revR
  split
  ·exact .inl rfl
  split
  ·exact .inl rfl
  split
  ·exact .inr rfl
  ·exact Uw m _ _ _ _
theorem kD{bu:Int}:¬(Oc S x bu).1.2=0->(Oc S x bu).1.2=17\/(Oc S x bu).2=S:=by
 unfold Oc
 split
 ·exact λ_=> .inr rfl
 split
 ·exact λ_=> .inr rfl
 ·exact λh=> .inl ((Uw ..).resolve_left h)
theorem eh:¬(MF S x y va).1=0->(MF S x y va).2=S:=by
 unfold MF
 repeat' split
 all_goals first|exact λ_=>rfl|exact λh=>absurd rfl h
theorem ei:¬(Nz S x).1=0->(Nz S x).2=S:=by
 unfold Nz
 split
 ·exact λh=>absurd rfl h
 ·exact λ_=>rfl
theorem ej{ri:Int}:¬(MG S x y va ri).1=0->(MG S x y va ri).2=S:=by
 unfold MG
 repeat' split
 all_goals first|exact λ_=>rfl|exact λh=>absurd rfl h
theorem eu:¬(NC S x).1=0->(NC S x).2=S:=by
 unfold NC
 split
 ·exact λh=>absurd rfl h
 ·exact λ_=>rfl
theorem ey{o:Int}:¬(As.addP s o).2.1=0->(As.addP s o).2.2=s:=by
 unfold As.addP
 repeat' split
 all_goals first|exact λ_=>rfl|exact λh=>absurd rfl h
theorem ez{o r:Int}:¬(As.assignP s o r).2.2.1=0->(As.assignP s o r).2.2.2=s:=by
 unfold As.assignP
 repeat' split
 all_goals first|exact λ_=>rfl|exact λh=>absurd rfl h
theorem eC:¬(NA S x y).1=0->(NA S x y).2=S:=by
 unfold NA
 split
 ·intro h;show({S with N:=_}:KT)=S;rw[ey h]
 ·exact λ_=>rfl
theorem eD:¬(NB S x y).1=0->(NB S x y).2=S:=by
 unfold NB
 split
 ·intro h;show({S with N:=_,W:=_}:KT)=S;rw[ez h,Ac h]
 ·exact λ_=>rfl
theorem eG:¬(MD S n x y).1=0->(MD S n x y).2=S:=by
 unfold MD
 split
 ·exact λ_=>rfl
 ·exact λh=>Xs (SU h)
theorem Xu:¬(HV S n x).1=0->(HV S n x).2=S:=by
 unfold HV
 split
 ·exact λ_=>rfl
 ·exact Xt
theorem oO{st:Int}:¬(Mm S id st).1=0->(Mm S id st).2=S:=by
 unfold Mm
 split
 ·exact λ_=>rfl
 ·exact λh=>absurd rfl h
theorem Xv:¬(HW S x).1=0->(HW S x).2=S:=by
 unfold HW
 split
 ·exact λ_=>rfl
 split
 ·exact λ_=>rfl
 ·exact oO
theorem bD(S:KT)(t:Th.ThT)(id:Int):My (Dw S t) id=My S id:=by
 show(Th.findH (Th.setD S.T t).2 id).isSome=(Th.findH S.T id).isSome;unfold Th.setD
 split
 ·show(Th.findH (Th.putH S.T t) id).isSome=_;rw[Th.find_put]
  split
  ·rw[Option.isSome_map]
  ·rfl
 ·rfl
theorem sC(S:KT)(a id:Int):My (kU S a) id=My S id:=by
 unfold kU
 split
 ·exact bD ..
 ·rfl
theorem eJ:¬(Ha S id).1=0->(Ha S id).2=S:=by
 unfold Ha
 split
 ·exact λ_=>rfl
 ·rename_i h;refine λh2=>absurd ?_ h2;unfold haltE Mm;rw[Ac];have e: ∀X:KT,My X id=My S id->(Th.findH (Dw X (Uj (DB X id))).T id).isSome=true:=λX hX=>by
   have h3:=bD X (Uj (DB X id)) id;rw[hX,Bool.not_eq_false] at*;exact h3.trans (by simpa using h)
  have e2:=e (kU {S with E:=(En.removeD S.E id).2} id) (sC _ id id);rw[e2];simp
theorem VF:¬(Gv S x).1=0->(Gv S x).2=S:=by
 unfold Gv
 split
 ·exact λ_=>rfl
 ·exact eJ
theorem eK:¬(ME S n x).1=0->(ME S n x).2=S:=by
 unfold ME
 split
 ·exact λ_=>rfl
 ·exact λh=>absurd rfl h
def Xw(S:KT):Prop:= ∀o x y,¬(EY S o x y).1=0->(EY S o x y).2=S
theorem eM(hR:Xw S):¬(I3 S t o x y).1=0->(I3 S t o x y).1=17\/(I3 S t o x y).2=S:=by
 unfold I3;by_cases e1:o.op=1
 ·rw[Ad e1];exact λh=> .inr (hR o x y h)
 rw[Ac e1];by_cases e2:o.op=2
 ·rw[Ad e2];exact λh=> .inr (Xs (SU h))
 rw[Ac e2];by_cases e3:o.op=3
 ·rw[Ad e3];exact λh=> .inr (Xs (SU h))
 rw[Ac e3];by_cases e4:o.op=4
 ·rw[Ad e4];exact λh=> .inr (Xs (ee h))
 rw[Ac e4];by_cases e5:o.op=5
 ·rw[Ad e5];exact λh=> .inr (Xs (eg h))
 rw[Ac e5];by_cases e6:o.op=6
 ·rw[Ad e6];exact λh=> .inr (Xt h)
 rw[Ac e6];by_cases e7:o.op=7
 ·rw[Ad e7];exact kD
 rw[Ac e7];by_cases e8:o.op=8
 ·rw[Ad e8];exact λh=> .inr (eh h)
 rw[Ac e8];by_cases e9:o.op=9
 ·rw[Ad e9];exact λh=> .inr (ei h)
 rw[Ac e9];by_cases e10:o.op=10
 ·rw[Ad e10];exact λh=> .inr (ej h)
 rw[Ac e10];by_cases e11:o.op=11
 ·rw[Ad e11];exact λh=> .inr (eu h)
 rw[Ac e11];by_cases e12:o.op=12
 ·rw[Ad e12];exact λh=> .inr (eC h)
 rw[Ac e12];by_cases e13:o.op=13
 ·rw[Ad e13];exact λh=> .inr (eD h)
 rw[Ac e13];by_cases e18:o.op=18
 ·rw[Ad e18];exact λh=>absurd rfl h
 rw[Ac e18];by_cases e19:o.op=19
 ·rw[Ad e19];exact λh=> .inr (eG h)
 rw[Ac e19];by_cases e20:o.op=20
 ·rw[Ad e20];exact λh=> .inr (Xu h)
 rw[Ac e20];by_cases e21:o.op=21
 ·rw[Ad e21];exact λh=> .inr (Xv h)
 rw[Ac e21];by_cases e22:o.op=22
 ·rw[Ad e22];exact λh=> .inr (VF h)
 rw[Ac e22];by_cases e23:o.op=23
 ·rw[Ad e23];exact λh=> .inr (eK h)
 rw[Ac e23];exact λ_=> .inr rfl
theorem eN:¬(GE S t x m gv cl).1.2=0->(GE S t x m gv cl).2=S:=by
 unfold GE
 repeat' split
 all_goals first|exact λ_=>rfl|exact λh=>absurd rfl h
theorem eP:¬(JN S t x inn).1.2=0->(JN S t x inn).2=S:=by
 unfold JN
 repeat' split
 all_goals first|exact λ_=>rfl|exact λh=>absurd rfl h
theorem Zt:¬(Hz S t m).1.2=0->(Hz S t m).2=S:=by
 unfold Hz
 repeat' split
 all_goals first|exact λ_=>rfl|exact λh=>absurd rfl h
theorem eR{r:(List GJ×Int)×KT}(hr:LL S t o x=some r):¬r.1.2=0->r.2=S:=by
 unfold LL at hr
 split at hr
 ·cases hr;exact eN
 split at hr
 ·cases hr;exact eP
 split at hr
 ·cases hr;exact Zt
 ·cases hr
theorem eU(hR:Xw S):¬(ordE S t o x y).1.2=0->(ordE S t o x y).1.2=17\/(ordE S t o x y).2=S:=by
 unfold ordE
 split
 ·rename_i r hr;exact λh=> .inr (eR hr h)
 split
 ·exact λh=>absurd rfl h
 ·exact eM hR
theorem kE(hR:Xw S):¬(J3 S t o).1.2=0->(J3 S t o).1.2=17\/(J3 S t o).2=S:=by
 unfold J3
 split
 ·exact λ_=> .inr rfl
 split
 ·exact λ_=> .inr rfl
 split
 ·exact λ_=> .inr rfl
 ·exact eU hR
theorem kF(x:Th.ThT)(t u:Int)(m:MN)(bd:Int)(cl:Bool): ∀n,n∈(sendH S x t u m bd cl).1->n.co=0:=by
 intro n hn;unfold sendH at hn
 split at hn
 ·rw[Ax.1 hn];rfl
 ·rcases Ap.1 hn with rfl|hn
  ·rfl
  ·rw[Ax.1 hn]
theorem oP: ∀n,n∈(GE S t x m gv cl).1.1->n.co=0:=by
 unfold GE
 repeat' split
 all_goals first|exact kF _ _ _ _ _ _|exact λn hn=>by cases hn
theorem oQ: ∀n,n∈(JN S t x inn).1.1->n.co=0:=by
 unfold JN
 repeat' split
 all_goals first|exact(λn hn=>by cases hn)|skip
 intro n hn;dsimp only[recvH] at hn
 split at hn
 ·rw[Ax.1 hn];rfl
 ·rcases Ap.1 hn with rfl|hn
  ·rfl
  ·rw[Ax.1 hn]
theorem kG: ∀n,n∈(Hz S t m).1.1->n.co=0:=by
 unfold Hz
 split
 ·exact λn hn=>by cases hn
 split
 ·exact λn hn=>by cases hn
 intro n hn;dsimp only[replyH] at hn
 split at hn
 ·rw[Ax.1 hn]
 ·rcases Ap.1 hn with rfl|hn
  ·rfl
  ·rw[Ax.1 hn]
theorem oR: ∀n,n∈(ordE S t o x y).1.1->n.co=0:=by
 unfold ordE
 split
 ·rename_i r hr;unfold LL at hr
  split at hr
  ·cases hr;exact oP
  split at hr
  ·cases hr;exact oQ
  split at hr
  ·cases hr;exact kG
  ·cases hr
 split
 ·intro n hn;rw[Ax.1 hn]
 ·exact λn hn=>by cases hn
theorem sD: ∀n,n∈(J3 S t o).1.1->n.co=0:=by
 unfold J3
 split
 ·exact λn hn=>by cases hn
 split
 ·exact λn hn=>by cases hn
 split
 ·exact λn hn=>by cases hn
 ·exact oR
def OR(r:List GJ×Int):Prop:=¬r.2=0\/ ∃n,r.1=[n]/\¬n.co=0/\¬n.co=6/\¬n.co=17
theorem Zu(hR:Xw S){c:MR}(h:OR (NI S t c).1):(NI S t c).2=S:=by
 rcases h with h|⟨n,h1,h2,h3,h4⟩
 ·exact absurd (Uv ..) h
 revert h1;unfold NI
 split
 ·split
  ·intro h1;have h1:(J3 S t (Ca c).1).1.1=[n]:=h1;exact absurd (sD n (by rw[h1];exact Ak)) h2
  ·rename_i h5;intro h1;have h1:[VB t (J3 S t (Ca c).1).1.2]=[n]:=h1;cases h1;exact(kE hR h5).resolve_left h4
 ·exact λ_=>rfl
theorem kH{t:Th.ThT}{x:P0}{f:od}{n:GJ}(h:(Ky S t x f).1=[n]):n.co=6:=by
 unfold Ky at h
 split at h
 ·cases h;rfl
 ·injection h with h _;rw[<-h]
theorem sE{x:P0}{t:Th.ThT}{n:GJ}(h:(doR S core x t).1=[n]):n.co=6\/n.co=0:=by
 unfold doR at h
 split at h
 ·exact .inl (kH h)
 ·cases h;exact .inr rfl
theorem P4{x:P0}(h:OR (MQ S core x).1):(MQ S core x).2=S:=by
 rcases h with h|⟨n,h1,h2,h3,h4⟩
 ·exact Py h
 revert h1;unfold MQ
 split
 ·exact λ_=>rfl
 ·intro h1;rcases sE h1 with h|h
  ·exact absurd h h3
  ·exact absurd h h2
theorem eV(h:OR (Od S core).1):(Od S core).2=S:=by
 revert h;unfold Od
 split
 ·exact λ_=>rfl
 split
 ·exact λ_=>rfl
 ·exact P4
theorem Zv(hR:Xw S)(h:OR (JO S e).1):(JO S e).2=S:=by
 revert h;unfold JO
 split
 ·exact λ_=>rfl
 split
 ·exact λ_=>rfl
 split
 ·exact eV
 split
 ·exact P4
 split
 ·exact P4
 ·exact Zu hR
theorem eW(hR:Xw S)(h:OR (doA S e).1):(doA S e).2=S:=by
 by_cases hc:(doA S e).1.2=0
 ·revert h hc;unfold doA
  split
  ·rintro(h|⟨n,h1,_⟩) hc
   ·exact absurd hc h
   ·cases h1
  split
  ·exact λh _=>Zv hR h
  split
  ·rintro(h|⟨n,h1,_⟩) hc
   ·exact absurd hc h
   ·cases h1
  ·exact λ_ _=>rfl
 ·exact Xr hc
theorem eX(hR:Xw S)(hs:Stl S)(h:OR (K9 S e).1):(K9 S e).2=S:=by
 have h1:(doA S e).2=S:=eW hR h;show(if(doA S e).1.2=0 then K7 (doA S e).2 else(doA S e).2)=S;rw[h1]
 split
 ·exact hs.eq
 ·rfl
end
def Giv(A:Ar.ArT)(id:Int):Prop:= ∃(f:Nat) (j:Int),f<64/\j<A.g f/\id=f+1+64*j
def v8(A:Ar.ArT)(k id:Int):Prop:=id≠0->(∀o,o∈A.os->o.id=id->o.kd=k)/\Giv A id
structure GoodK(S:KT):Prop where
 rz: ∀t,t∈S.T->s9 t
 n:S.A.n<=64
 rg: ∀c,c∈S.K->K5 c.ro c.sp
 ob: ∀o,o∈S.A.os->o.id≠0/\Giv S.A o.id
 cap: ∀c,I4 S.H.1 c->c.kind≠0->v8 S.A c.kind c.obj
section
theorem GoodK.hd(h:GoodK S)(hD: ∀c,I4 D c->From S c): ∀c,I4 D c->c.kind≠0->v8 S.A c.kind c.obj:=λc hc hk=>by
 rcases hD c hc with h1|⟨d,h1,h2,h3⟩
 ·exact absurd h1 hk
 ·rw[<-h2,<-h3];exact h.cap d h1 (by rw[h2];exact hk)
theorem GoodK.ar(h:GoodK S)(os:List Ar.ObT)(ho: ∀o,o∈os-> ∃u,u∈S.A.os/\u.id=o.id/\u.kd=o.kd):GoodK {S with A:={S.A with os:=os}} where
 rz:=h.rz
 n:=h.n
 rg:=h.rg
 ob:=λo hm=>by obtain⟨u,h1,h2,h3⟩:=ho o hm;rw[<-h2];exact h.ob u h1
 cap:=λc hc hk h0=>⟨λo hm e=>by obtain⟨u,h1,h2,h3⟩:=ho o hm;rw[<-h3];exact(h.cap c hc hk h0).1 u h1 (by rw[h2];exact e),(h.cap c hc hk h0).2⟩
theorem sF(h:Ar.atO os id=some k):os.getD k Ar.obO∈os/\(os.getD k Ar.obO).id=id:=by obtain⟨o,h1,h2⟩:=Ar.atO_some h;rw[Bd,h1];exact⟨A6 h1,h2⟩
theorem Xx(h:Ar.atO os id=some k)(f:Ar.ObT->Ar.ObT)(h1: ∀o,(f o).id=o.id)(h2: ∀o,(f o).kd=o.kd): ∀o,o∈os.set k (f (os.getD k Ar.obO))-> ∃u,u∈os/\u.id=o.id/\u.kd=o.kd:=λo ho=>by
 rcases CC ho with e|e
 ·exact⟨o,e,rfl,rfl⟩
 ·exact⟨_,(sF h).1,by rw[e,h1],by rw[e,h2]⟩
theorem GoodK.ext{S':KT}(h:GoodK S)(h1:S'.A=S.A)(h2:S'.H.1=S.H.1)(h3:S'.T=S.T)(h4:S'.K=S.K):GoodK S' where
 rg:=by rw[h4];exact h.rg
 rz:=by rw[h3];exact h.rz
 n:=by rw[h1];exact h.n
 ob:=by rw[h1];exact h.ob
 cap:=by rw[h1,h2];exact h.cap
theorem Ux(hn:A.n<=64)(h:Ar.nextD A f≠0):0<=f/\f<64/\Ar.nextD A f=f.toNat+1+64*A.g f.toNat:=by
 unfold Ar.nextD at h⊢;by_cases h1:f<0
 ·rw[Ad h1] at h;exact absurd rfl h
 rw[Ac h1] at h⊢;by_cases h2:f>=A.n
 ·rw[Ad h2] at h;exact absurd rfl h
 rw[Ac h2] at h⊢;by_cases h3:f+1+64*A.g f.toNat>65535
 ·rw[Ad h3] at h;exact absurd rfl h
 rw[Ac h3] at h⊢;exact⟨Af,Af,Af⟩
theorem Uy(hn:A.n<=64)(h:Ar.nextD A f≠0):¬Giv A (Ar.nextD A f):=by
 obtain⟨h1,h2,h3⟩:=Ux hn h;rintro⟨g,j,h4,h5,h6⟩;rw[h3] at h6;have e:g=f.toNat:=by omega
 subst e;omega
theorem kI{x o:Ar.ObT}(h:x∈Ar.insD os o):x=o\/x∈os:=by
 unfold Ar.insD at h;rcases AE.1 h with h|h
 ·exact .inr ((DZ _).subset h)
 ·rcases Ap.1 h with h|h
  ·exact .inl h
  ·exact .inr ((List.dropWhile_suffix _).subset h)
theorem Giv.up(f:Nat)(os:List Ar.ObT)(h:Giv A id):Giv {A with g:=upd A.g f (A.g f+1),os:=os} id:=by
 obtain⟨g,j,h1,h2,h3⟩:=h;refine⟨g,j,h1,?_,h3⟩;show j<upd A.g f (A.g f+1) g;by_cases e:g=f
 ·subst e;rw[Du];omega
 ·rw[C7 _ _ _ _ e];exact h2
theorem Uz{k z:Int}(h:Ar.addE A k z f=0):Ar.nextD A f≠0:=by
 unfold Ar.addE at h
 split at h
 ·exact absurd h AX
 split at h
 ·exact absurd h AX
 split at h
 ·exact absurd h AX
 split at h
 ·exact absurd h AX
 ·assumption
theorem bE(S:KT)(k z f:Int)(h:(Ar.addD S.A k z f).1.2=0):Ar.addE S.A k z f=0/\Ar.addD S.A k z f=((Ar.nextD S.A f,0),{S.A with g:=upd S.A.g f.toNat (S.A.g f.toNat+1),os:=Ar.insD S.A.os (Ar.newO S.A k z f)}):=by
 unfold Ar.addD at h⊢
 split at h
 ·rename_i h2;exact⟨h2,by rw[Ad h2]⟩
 ·rename_i h2;exact absurd h h2
theorem bF(S:KT)(k z f:Int)(h:¬(Ar.addD S.A k z f).1.2=0):(Ar.addD S.A k z f).2=S.A:=by
 unfold Ar.addD at h⊢
 split at h
 ·exact absurd rfl h
 ·rename_i h2;rw[Ac h2]
theorem kJ(S:KT)(k id:Int):(fj S k id).A=S.A/\(fj S k id).H=S.H:=by
 unfold fj
 split
 ·exact⟨rfl,rfl⟩
 split
 ·exact⟨rfl,rfl⟩
 ·exact⟨rfl,rfl⟩
theorem kK(S:KT)(n id:Int):(jd S n id).A=S.A/\(jd S n id).T=S.T:=by
 unfold jd
 split
 ·exact⟨rfl,rfl⟩
 ·exact⟨rfl,rfl⟩
theorem bG(S:KT)(k z f:Int):(kZ S k z f).A=S.A/\(kZ S k z f).H=S.H/\(kZ S k z f).T=S.T:=by
 unfold kZ
 split
 ·exact⟨rfl,rfl,rfl⟩
 ·exact⟨rfl,rfl,rfl⟩
theorem vw(S:KT)(k id:Int):(fj S k id).K=S.K:=by
 unfold fj
 repeat' split
 all_goals rfl
theorem vy(S:KT)(n id:Int):(jd S n id).K=S.K:=by
 unfold jd
 split<;>rfl
theorem vz(S:KT)(k z f:Int):(kZ S k z f).K=S.K:=by
 unfold kZ
 split<;>rfl
theorem vA{k:Int}(h: ∀t,t∈S.T->s9 t): ∀t,t∈(fj S k id).T->s9 t:=by
 unfold fj
 split
 ·intro t ht;have ht:t∈(Th.addD S.T id).2:=ht;unfold Th.addD at ht
  split at ht
  ·exact h t ht
  split at ht
  ·exact h t ht
  ·unfold Th.insH at ht;rcases AE.1 ht with ht|ht
   ·exact h t ((DZ _).subset ht)
   ·rcases Ap.1 ht with rfl|ht
    ·exact λ_=>⟨rfl,rfl,rfl⟩
    ·exact h t ((List.dropWhile_suffix _).subset ht)
 split
 ·exact h
 ·exact h
theorem kL(h:I4 (jd S n id).H.1 c):c.kind=0\/I4 S.H.1 c:=by
 unfold jd at h
 split at h
 ·have h:I4 (GI S.H.1 id n).2 c:=h;unfold GI at h
  split at h
  ·exact .inr h
  split at h
  ·exact .inr h
  ·obtain⟨x,hx,hc⟩:=h;rcases NR.1 hx with rfl|hx
   ·exact .inl (by rw[D1 hc])
   ·exact .inr ⟨x,hx,hc⟩
 ·exact .inr h
theorem eY(h:GoodK S)(k z f:Int):GoodK (I0 S k z f).2/\(k≠0->v8 (I0 S k z f).2.A k (I0 S k z f).1.1):=by
 unfold I0;by_cases hc:(Ar.addD S.A k z f).1.2=0
 ·rw[Ad hc];obtain⟨h1,h2⟩:=bE S k z f hc;have h3:=Uz h1;have h4:=Uy h.n h3;obtain⟨h5,h6,h7⟩:=Ux h.n h3;rw[h2];dsimp only;obtain⟨A',hA'⟩: ∃A':Ar.ArT,A'={S.A with g:=upd S.A.g f.toNat (S.A.g f.toNat+1),os:=Ar.insD S.A.os (Ar.newO S.A k z f)}:=⟨_,rfl⟩
  have hg:Giv A' (Ar.nextD S.A f):=by rw[hA'];refine⟨f.toNat,S.A.g f.toNat,Af,?_,h7⟩;show _<upd S.A.g f.toNat (S.A.g f.toNat+1) f.toNat;rw[Du];omega
  have hup: ∀id,Giv S.A id->Giv A' id:=λid hi=>by rw[hA'];exact hi.up _ _
  have hos: ∀o,o∈A'.os->o=Ar.newO S.A k z f\/o∈S.A.os:=λo ho=>by rw[hA'] at ho;exact kI ho
  have hnew:v8 A' k (Ar.nextD S.A f):=λ_=>⟨λo ho e=>by
   rcases hos o ho with rfl|ho
   ·rfl
   ·exact absurd (by rw[<-e];exact(h.ob o ho).2) h4,hg⟩
  rw[<-hA'];have e1: ∀X n,(fj (jd (kZ {S with A:=A'} k z f) n X) k X).A=A':=λX n=>by rw[(kJ ..).1,(kK ..).1,(bG ..).1]
  refine⟨⟨?_,?_,?_,?_,?_⟩,λ_=>by rw[e1];exact hnew⟩
  ·refine vA ?_;rw[(kK ..).2,(bG ..).2.2];exact h.rz
  ·rw[e1,hA'];exact h.n
  ·rw[(vw ..),(vy ..),(vz ..)];exact h.rg
  ·rw[e1];intro o ho;rcases hos o ho with rfl|ho
   ·exact⟨h3,hg⟩
   ·exact⟨(h.ob o ho).1,hup _ (h.ob o ho).2⟩
  ·rw[e1,(kJ ..).2];intro c hc hk h0;rcases kL hc with h8|h8
   ·exact absurd h8 hk
   rw[(bG ..).2.1] at h8;have h9:=h.cap c h8 hk h0;refine⟨λo ho e=>?_,hup _ h9.2⟩;rcases hos o ho with rfl|ho
   ·exact absurd (by rw[show Ar.nextD S.A f=c.obj from e];exact h9.2) h4
   ·exact h9.1 o ho e
 ·rw[Ac hc,bF S k z f hc];exact⟨h,λ_ h0=>absurd rfl h0⟩
theorem Xy(h:GoodK S)(x:Ce)(k z f:Int)(q:Int×Ce):GoodK (Oq x k z f S q):=by
 obtain⟨h1,h2⟩:=eY h k z (f+q.1);unfold Oq;refine⟨h1.rz,h1.n,h1.rg,h1.ob,λc hc hk=>?_⟩;rcases SR hc with e|e
 ·subst e;exact h2 hk
 ·exact h1.cap c e hk
theorem kM(h:GoodK S)(id:Int):GoodK (Tm S id).2:=by
 have hd: ∀c,I4 (G4 S.H.1 id).2 c->I4 S.H.1 c:=λc ⟨x,hx,hc⟩=>by
  unfold G4 at hx
  split at hx
  ·exact⟨x,hx,hc⟩
  split at hx
  ·exact⟨x,(Ci.1 hx).1,hc⟩
  ·exact⟨x,hx,hc⟩
 have h1:GoodK {S with H:=((G4 S.H.1 id).2,S.H.2)}:=⟨h.rz,h.n,h.rg,h.ob,λc hc=>h.cap c (hd c hc)⟩
 unfold Tm
 split
 ·exact h
 split
 ·exact h1
 ·have h2:GoodK {S with H:=((G4 S.H.1 id).2,S.H.2),T:=(Th.dropD S.T id).2}:=⟨λt ht=>by
   have ht:t∈(Th.dropD S.T id).2:=ht;unfold Th.dropD at ht
   split at ht
   ·exact h.rz t (Ci.1 ht).1
   ·exact h.rz t ht,h.n,h.rg,h.ob,h1.cap⟩
  have h3:GoodK {S with H:=((G4 S.H.1 id).2,S.H.2),A:=(Ar.dropD S.A id).2,T:=(Th.dropD S.T id).2}:=by
   unfold Ar.dropD
   split
   ·exact h2.ar _ λo ho=>⟨o,FK ho,rfl,rfl⟩
   ·exact h2
  exact h3.ext rfl rfl rfl rfl
theorem good_cl:Cl GoodK where
 free:=λ_ _ _ _ _ h=>h.ext rfl rfl rfl rfl
 core:=λ{S K} h hK=>⟨h.rz,h.n,λc hc=>by
  rcases hK c hc with⟨d,hd,e1,e2⟩|e
  ·rw[e1,e2];exact h.rg d hd
  ·exact e,h.ob,h.cap⟩
 set:=λ{S t} h ht=>⟨λu hu=>by
  have hu:u∈(Th.setD S.T t).2:=hu;unfold Th.setD at hu
  split at hu
  ·obtain⟨y,hy,rfl⟩:=Au.1 hu
   split
   ·exact ht
   ·exact h.rz y hy
  ·exact h.rz u hu,h.n,h.rg,h.ob,h.cap⟩
 rz:=λ{S} h id=>by
  show s9 ((Th.findH S.T id).getD Th.thZ);cases e:Th.findH S.T id with
  |none=>exact λ_=>⟨rfl,rfl,rfl⟩
  |some t=>exact h.rz t (Bz e)
 hold:=λh hH=>⟨h.rz,h.n,h.rg,h.ob,h.hd hH⟩
 place:=λ{S} id a b c h=>by
  unfold Ar.placeD
  split
  ·rename_i k hk
   split
   ·exact h
   split
   ·exact h
   ·exact h.ar _ (Xx hk (λo=>Ar.setPl o a b c) (λ_=>rfl) λ_=>rfl)
  ·exact h
 mark:=λ{S} id m h=>by
  unfold Ar.markD'
  split
  ·rename_i k hk
   split
   ·exact h
   split
   ·exact h
   ·exact h.ar _ (Xx hk (λo=>Ar.setMa o m) (λ_=>rfl) λ_=>rfl)
  ·exact h
 unm:=λid h=>kM h id
 one:=λx k z f q h=>Xy h x k z f q
theorem SW(os:List Ar.ObT)(id:Int):os.find? (λo=>decide (o.id=id))=(Ar.atO os id).map λk=>os.getD k Ar.obO:=by
 unfold Ar.atO
 induction os with
 |nil=>rfl
 |cons x r ih=>
  rw[BB,Kc];by_cases h:x.id=id
  ·rw[At h];rfl
  ·rw[Av h,ih];show _=Option.map _ (Option.map _ _);rw[Option.map_map];rfl
theorem eZ(os:List Ar.ObT)(o:Ar.ObT)(id:Int)(h:o.id≠id):(Ar.insD os o).find? (λo=>decide (o.id=id))=os.find? λo=>decide (o.id=id):=by unfold Ar.insD;rw[Dm,BB,Av h];dsimp only;rw[<-Dm,BI]
theorem kN(h:GoodK S)(x:Ce)(k z f:Int)(q:Int×Ce){o:Ar.ObT}(hf:S.A.os.find? (λo=>decide (o.id=id))=some o):(Oq x k z f S q).A.os.find? (λo=>decide (o.id=id))=some o:=by
 show(I0 S k z (f+q.1)).2.A.os.find? _=_;unfold I0;by_cases hc:(Ar.addD S.A k z (f+q.1)).1.2=0
 ·rw[Ad hc];obtain⟨h1,h2⟩:=bE S k z (f+q.1) hc;rw[h2];dsimp only;rw[(kJ ..).1,(kK ..).1,(bG ..).1];dsimp only;rw[eZ _ _ _ λe=>?_]
  ·exact hf
  ·have h3:=Bz hf;have h4:o.id=id:=by simpa using DO hf
   exact Uy h.n (Uz h1) (by rw[show Ar.nextD S.A (f+q.1)=o.id from e.trans h4.symm];exact(h.ob o h3).2)
 ·rw[Ac hc,bF S k z _ hc];exact hf
theorem UA(x:Ce)(k z f:Int){id:Int}{o:Ar.ObT}: ∀(l:List (Int×Ce)) (S:KT),GoodK S->S.A.os.find? (λo=>decide (o.id=id))=some o->(l.foldl (Oq x k z f) S).A.os.find? (λo=>decide (o.id=id))=some o
 |[],_,_,h=>h
 |q::l,S,hS,h=>UA x k z f l _ (Xy hS x k z f q) (kN hS x k z f q h)
theorem vB(h:GoodK S):Xw S:=by
 intro o x y;unfold EY
 split
 ·exact λ_=>rfl
 rename_i hk
 split
 ·exact λ_=>rfl
 rename_i hcar
 split
 ·exact λ_=>rfl
 split
 ·exact λ_=>rfl
 refine λh2=>absurd ?_ h2;have hx:E5 S x 1:=Classical.byContradiction λe=>hk (.inl e);obtain⟨i,hi⟩: ∃i,(DU S x).obj=i:=⟨_,rfl⟩
 have hcar:=FE.1 hcar;have hcc:=hcar;unfold IR Hd at hcc
 split at hcc
 ·exact absurd hcc AX
 rename_i hb
 split at hcc
 ·exact absurd hcc AX
 rename_i hb2;have hm:(IR S o x).1.2=Vs S x+o.n2/16*Ar.framesD o.n0 o.n1:=by unfold IR Hd;rw[Ac hb,Ac hb2]
 rw[hi] at hb hb2;have hp:1<=o.n2/16*Ar.framesD o.n0 o.n1:=by
  have h1:1<=o.n2/16:=by omega
  have h2:1<=Ar.framesD o.n0 o.n1:=by omega
  have:=Int.mul_le_mul h1 h2 AX Af;omega
 rw[Int.mul_comm] at hb2;obtain⟨ob,hob⟩: ∃ob,S.A.os.find? (λo=>decide (o.id=i))=some ob:=by
  cases e:S.A.os.find? (λo=>decide (o.id=i)) with
  |some ob=>exact⟨ob,rfl⟩
  |none=>
   rw[SW,Option.map_eq_none_iff] at e;have:(Ar.getD' S.A i).1.fr=0:=by unfold Ar.getD';rw[e]
   omega
 have hfr:(Ar.getD' S.A i).1.fr=ob.fr:=by rw[SW,C8] at hob;obtain⟨k,h1,h2⟩:=hob;unfold Ar.getD';rw[h1,<-h2]
 have hmem:=Bz hob;have hid:ob.id=i:=by simpa using DO hob
 have hkd:ob.kd=1:=by
  have hcp:I4 S.H.1 (DU S x):=by
   have h1:=hx.1;have h3:(DU S x).kind≠0:=by rw[hx.2];decide
   rcases From.cp S x with e|e
   ·exact absurd e h3
   ·have h4:(getD' S.H.1 x).1=DJ S.H.1 x:=by
     unfold getD' at h1⊢
     split at h1
     ·rename_i e2;rw[Ad e2]
     ·exact absurd h1 AX
    have h5:DU S x=DJ S.H.1 x:=h4;rw[h5] at h3⊢;unfold DJ at h3⊢
    split
    ·rename_i y hy;rw[hy] at h3;dsimp only at h3;rw[Bd] at h3⊢;cases e:y.2[x.2.toNat]? with
     |none=>rw[e] at h3;exact absurd rfl h3
     |some c=>exact⟨y,(ED hy).1,A6 e⟩
    ·rename_i hy;rw[hy] at h3;exact absurd rfl h3
  have h1:=h.cap _ hcp (by rw[hx.2];decide);rw[hi,hx.2] at h1;exact(h1 (by rw[<-hid];exact(h.ob ob hmem).1)).1 ob hmem hid
 have hend:=UA x o.n0 o.n1 (Ar.getD' S.A (DU S x).obj).1.fi (Vt S o x y) S h hob;rw[SW,C8] at hend;obtain⟨k,h6,h7⟩:=hend;rw[hi] at h6 h7⊢;unfold aN;show(Ar.markD' _ i (IR S o x).1.2).1=0;unfold Ar.markD';rw[h6];dsimp only;rw[h7,Ac (by rw[hkd];simp),Ac];rw[hm];omega
end
def sG(l:List Ab)(v:Value)(xs:List Int):Prop:=
 ∃a cap,v= .slice a xs.length cap/\(0<xs.length-> ∃b off cs t fz,a=some ⟨b,off,none⟩/\(b,Obj.cells cs t fz)∈l/\ ∀i x,xs[i]?=some x->cs[off+i*1]?=some (Ba x))
theorem OwnSl.wds{e:Nat}{v:Value}{xs:List Int}{cs l:List Ab}(h:OwnSl e 1 v xs.length (xs.map Ba) cs)(hs: ∀c,c∈cs->c∈l):sG l v xs:=by
 rcases h.2 with⟨rfl,h0,rfl⟩|⟨b,cap,sp,rfl,rfl,_⟩
 ·exact⟨none,0,by rw[h0],λh=>by omega⟩
 ·refine⟨_,cap,rfl,λh0=>⟨b,0,_,e,(0,0),rfl,hs _ Ak,λi x hx=>?_⟩⟩;have hlt:=(Ay.1 hx).1;rw[BC,Df,AC,AF (by simpa using hlt),A0,hx];rfl
theorem Ts(v u:Value)(xs:List Int)(l:List Ab)(h1:sG l v xs)(h2:sG l u xs)(hx:xs.length<=1000000):
 Fn prog 45 [v,u] l λr l'=>r= .bool true/\l'=l:=by
 obtain⟨a,ca,rfl,h1⟩:=h1;obtain⟨a',ca',rfl,h2⟩:=h2;refine AM func45 ntmps45 λE=>?_;refine Aj ?_;refine CE (α:=Nat) (λk=>[(0,.slice a xs.length ca),(1,.slice a' xs.length ca'),(5,.int .i64 k)]) (λk=>l) (λk=>k<=xs.length) (λk=>xs.length-k) 0 (Bl _) ⟨rfl,rfl,rfl,trivial⟩ .refl ?_;rintro k hk;by_cases hlt:k<xs.length
 ·obtain⟨b,off,cs,t,fz,rfl,hm,hc⟩:=h1 Af;obtain⟨b',off',cs',t',fz',rfl,hm',hc'⟩:=h2 Af;obtain⟨x,e1⟩: ∃x,xs[k]?=some x:=⟨_,Al hlt⟩
  have g1:=hc k x e1;have g2:=hc' k x e1;refine Aj ?_;refine Ch [] 9 _ ?_ (hR:=(λ_ h=>h));refine BM ?_;refine Aj ?_;exact BV (k+1) Af Af ⟨rfl,rfl,rfl,trivial⟩ .refl
 ·obtain rfl:k=xs.length:=by omega
  exact EA
def Jh(ns:List GJ)(co:Int):Bool:=!decide (co=0)||match ns with
 |[n]=>!decide (n.co=0)&&!decide (n.co=6)&&!decide (n.co=17)
 |_=>false
theorem Zw{ns:List GJ}{co:Int}(h:Jh ns co=true):OR (ns,co):=by
 unfold Jh at h;rcases Bool.or_eq_true_iff.1 h with h|h
 ·exact .inl (by simpa using h)
 ·match ns,h with
  |[n],h=>simp only[AR,DC,Ef] at h;exact .inr ⟨n,rfl,h.1.1,h.1.2,h.2⟩
  |[],h=>cases h
  |_::_::_,h=>cases h
theorem fb(ns:List GJ)(co:Int)(sl:Value)(cs l:List Ab)(ho:OwnSl 69 12 sl ns.length (GK ns) cs)(hs: ∀c,c∈cs->c∈l)(hn:ns.length<=1000000):
 Fn prog 46 [.agg (List.toArray (Ms co sl))] l λv l'=>v= .bool (Jh ns co)/\l'=l:=by
 have hs1:=ho.one;refine AM func46 ntmps46 λE=>?_;refine Aj ?_;refine AP (CK rfl) ?_;rintro _ _ ⟨b1,_,rfl,rfl⟩;by_cases h0:co=0
 case neg=>refine Aj ?_;exact BA [] rfl (.drop .refl) (by exact A8) ⟨by unfold Jh;rw[Av h0];rfl,rfl⟩
 subst h0
 match ns with
 |[]=>obtain⟨p,cp,rfl⟩:=ho.shape;rw[show([]:List GJ).length=0 from rfl];exact EA
 |n::m::r=>
  obtain⟨p,cp,rfl⟩:=ho.shape;have h2:¬(((n::m::r).length:Nat):Int)=1:=by simp only[Br];omega
  exact EA
 |[n]=>
  obtain⟨g,k,sp,rfl,rfl⟩:=Mr ho (A7 _);have hm:=hs _ Ak;have z:(List.toArray (GK [n]++sp))[0+(0:Int).toNat*12+1]?=some (iV n.co):=rfl;rw[show([n]:List GJ).length=1 from rfl];by_cases h1:n.co=0
  ·refine Aj ?_;refine A9 (.drop .refl) ?_;refine⟨?_,rfl⟩;rw[show Jh [n] 0=false by unfold Jh;simp[h1]]
   first|rfl|simp[h1,h2,h3,Iw]
  by_cases h2:n.co=6
  ·refine Aj ?_;refine A9 (.drop .refl) ?_;refine⟨?_,rfl⟩;rw[show Jh [n] 0=false by unfold Jh;simp[h2]]
   first|rfl|simp[h1,h2,h3,Iw]
  by_cases h3:n.co=17
  ·refine Aj ?_;refine A9 (.drop .refl) ?_;refine⟨?_,rfl⟩;rw[show Jh [n] 0=false by unfold Jh;simp[h3]]
   first|rfl|simp[h1,h2,h3,Iw]
  ·refine Aj ?_;refine A9 (.drop .refl) ?_;refine⟨?_,rfl⟩;rw[show Jh [n] 0=true by unfold Jh;simp[h1,h2,h3]]
   first|rfl|simp[h1,h2,h3,Iw]
set_option maxRecDepth 100000
def sH(A:Ar.ArT)(id:Int):Bool:=decide ((id-1)/64<A.g ((id-1)%64).toNat)
theorem Xz(h:sH A id=true):Giv A id:=⟨((id-1)%64).toNat,(id-1)/64,Af,Ep h,Af⟩
def yv(A:Ar.ArT)(c:CapT):Bool:=decide (c.kind=0)||decide (c.obj=0)||((A.os.all λo=>!decide (o.id=c.obj)||decide (o.kd=c.kind))&&sH A c.obj)
def oS(F T:Nat)(sh:Bool):Bool:=
 let R:=Kw F T sh
 R.T.all (λt=>t.hs||(!t.wr&&decide (t.va=0)&&decide (t.vl=0)))&&decide (R.A.n<=64)&&R.A.os.all (λo=>!decide (o.id=0)&&sH R.A o.id)&&R.H.1.all (λx=>x.2.all (yv R.A))
theorem oT:((List.range 4).all λT=>(List.range 65).all λF=>T==0||decide (F<11*T)||(oS F T false&&oS F T true))=true:=by decide+kernel
theorem fc{T:Nat}(sh:Bool)(hT1:1<=T)(hT:T<=3)(hF:11*T<=F)(hF2:F<=64):GoodK (Ir F C T sh)/\Stl (Ir F C T sh):=by
 have h:=AZ.1 (AZ.1 oT T (Er.2 Af)) F (Er.2 Af);have h:oS F T sh=true:=by
  simp only[D6,AR,I5,Bg] at h;rcases h with(h|h)|⟨h1,h2⟩
  ·omega
  ·omega
  ·cases sh
   ·exact h1
   ·exact h2
 unfold oS at h;simp only[AR,Bg,AZ,D6,DC,Ef] at h;obtain⟨⟨⟨h1,h2⟩,h3⟩,h4⟩:=h;refine⟨⟨λt ht e=>?_,h2,λc hc=>by rw[D1 hc];exact .inl ⟨rfl,rfl⟩,λo ho=>⟨(h3 o ho).1,Xz (h3 o ho).2⟩,λc ⟨x,hx,hc⟩ hk h0=>?_⟩,λj hj=>?_⟩
 ·rcases h1 t ht with h|h
  ·rw[h] at e;cases e
  ·exact⟨h.1.1,h.1.2,h.2⟩
 ·have h6:=h4 x hx c hc;unfold yv at h6;simp only[AR,Bg,AZ,D6,DC,Ef] at h6;rcases h6 with(h6|h6)|⟨h6,h7⟩
  ·exact absurd h6 hk
  ·exact absurd h6 h0
  ·exact⟨λo ho e=>(h6 o ho).resolve_left λe2=>e2 e,Xz h7⟩
 ·rw[Xp];have hj:j<C:=by simpa[Ir] using hj
  have e1:(Ir F C T sh).U.getD j 0=0:=by show(replicate C (0:Int)).getD j 0=0;rw[Bd,Ee,Ad hj];rfl
  have e2:su (Ir F C T sh) 0=0:=by unfold su;split<;>rfl
  have e3:sk (Ir F C T sh) 0=(-1,0):=Ad (.inl rfl);rw[e1,e2,e3];have e4:(Ir F C T sh).U.set j 0=(Ir F C T sh).U:=by
   show(replicate C (0:Int)).set j 0=replicate C 0;apply C9;intro i;rw[GA];simp only[IX,Ee]
   split
   ·subst_vars;simp[hj]
   ·rfl
  have e5:cS (Ir F C T sh).K j (-1,0)=(Ir F C T sh).K:=by
   unfold cS
   split
   ·show(replicate C XA).set j _=replicate C XA;apply C9;intro i;rw[GA];simp only[IX,Ee]
    split
    ·subst_vars;rw[Ad hj];show some {(replicate C XA).getD _ kR with ro:= -1,sp:=0}=some XA;rw[Bd,Ee,Ad hj];rfl
    ·rfl
   ·rfl
  rw[e4,e5]
set_option maxRecDepth 20000
structure sI(F C T:Int)(sh:Bool)(wb1 wb2 i:Nat)(S:KT)(st1 st2:List (Int×List GJ))(lw1 lw2:List Ab):Prop where
 w1:IsWo F.toNat C.toNat (840-8*i) S (Xm F.toNat T.toNat sh) st1 wb1 lw1
 w2:IsWo F.toNat C.toNat (840-8*i) S (Xm F.toNat T.toNat sh) st2 wb2 lw2
 g:GoodK S
 s:Stl S
 n1:st1.length<=i
 n2:st2.length<=i
theorem IsWo.mono{m:Nat}{st:List (Int×List GJ)}{l:List Ab}(h:IsWo F C k S th st wb l)(hm:m<=k):IsWo F C m S th st wb l:=by obtain⟨b,kb,p,s,vt,vs,ct,cs,rows,cn,hK,r⟩:=h.ex;exact⟨b,kb,p,s,vt,vs,ct,cs,rows,cn,hK.mono hm,r⟩
theorem IsWo.sizes{st:List (Int×List GJ)}{l:List Ab}(h:IsWo F C k S th st wb l):S.A.os.length<=900000/\(Dv S.H.1).length<=900000/\S.H.2.length<=900000/\S.T.length<=900000/\(oI S.Q).length<=900000/\S.U.length<=900000:=by
 obtain⟨b,kb,p,s,vt,vs,ct,cs,rows,cn,hK,_⟩:=h.ex;obtain⟨m,h1,h2,h3,h4⟩:=hK.small;have h5:=hK.ar.ok.len;have h6:=hK.ho.ulen h2 Af;have h7:=hK.tl;have h8:=hK.ul;have h9:=hK.c1;refine⟨Af,Af,Af,Af,?_,Af⟩;have h10:=Qu.allX_len S.Q 900 (Qu.fallT (Qu.neX S.Q) 0) λp hp=>by have:=hK.ql p ((Qu.fallT_mem _ _ _).1 hp).2.1;omega
 have h11:(Qu.fallT (Qu.neX S.Q) 0).length<=8:=by unfold Qu.fallT;exact BP (CU _ _) (by simp)
 have h12:=FB 900 h11;unfold oI;omega
theorem xL(a b l:List Ab):(b++(a++l)).Perm (a++(b++l)):=BR
theorem vC(x:Ab)(c w1 w2 l:List Ab):Keep (x::(c++(w1++(w2++l)))) (w1++(w2++l)):=A4 (x::c)
theorem vD(x:Ab)(c w1 w2 l:List Ab):(x::(c++(w1++(w2++l)))).Perm (w2++(x::(c++(w1++l)))):=BR
theorem vE(x y:Ab)(d c w1 w2 l:List Ab):Keep (y::(d++(w2++(x::(c++(w1++l)))))) (w1++(w2++l)):=A4 (y::x::(d++c))
theorem xM(a b c l:List Ab):(a++(b++(c++l))).Perm (c++(a++(b++l))):=BR
theorem xN(a b c d l:List Ab):(a++(b++(c++(d++l)))).Perm (d++(a++(b++(c++l)))):=BR
theorem xO(a b c d e f l:List Ab):(a++(b++(c++(d++(e++(f++l)))))).Perm (e++(a++(b++(c++(d++(f++l)))))):=BR
theorem kO{x:VwL}{c:Ab}(h:c∈x.co\/c∈x.cc\/c∈x.ct\/c∈x.ch\/c∈x.cr\/c∈x.cq):c∈x.all:=by unfold VwL.all;rcases h with h|h|h|h|h|h<;>simp[h]
theorem SX(F C T:Int)(sh:Bool)(a:Option Addr)(n cap:Nat)(es:List Oe)(l:List Ab)(hin:Yk l a n 15 (es.map Zb))(hlen:es.length=n)(hcap:n<=cap)(he: ∀e,e∈es->fq e):
 Fn prog 13 [pR F C T sh,.slice a n cap] l λv l'=>v= .bool true/\ ∃X,l'=X++l:=by
 refine AM func13 ntmps13 λE=>?_;refine Aj ?_;refine AP (CK rfl) ?_;rintro _ _ ⟨b2,_,rfl,rfl⟩;refine Aj ?_;refine Bb (AJ rfl rfl λl2 _=>dZ a n cap 100 l2) ?_;by_cases h100:(100:Int)<n
 ·refine Aj ?_;refine AP (Az rfl rfl (P3 _)) ?_;rintro _ _ ⟨rfl,X,rfl⟩;refine Aj ?_;exact A9 (l':=X++l) (.trans (.of_perm AH) (.drop .refl)) ⟨rfl,X,rfl⟩
 refine Aj ?_;refine Cn (yy [1,3] [0,2,1,3,4,5]) ?_;refine Cs ?_;refine Hm (Az (vs:=[pR F C T sh]) rfl rfl (SQ F C T sh _)) (by
  rintro _ _ (⟨_,_,rfl⟩|⟨_,wb,lw,_,_,rfl⟩) c hc
  ·exact hc
  ·exact Aa _ hc) ?_
 rintro _ _ (⟨hmay,rfl,rfl⟩|⟨hmay,wb1,lw1,rfl,hW1,rfl⟩)
 ·refine Cs ?_;refine JS (Az (vs:=[pR F C T sh]) rfl rfl (SQ F C T sh _)) ?_;rintro _ _ (⟨hmay,rfl,rfl⟩|⟨hmay2,wb2,lw2,rfl,hW2,rfl⟩)
  case inr=>rw[hmay] at hmay2;cases hmay2
  refine Cs ?_;refine Aj ?_;refine AP (Az rfl rfl (P3 _)) ?_;rintro _ _ ⟨rfl,X,rfl⟩;refine Aj ?_;exact A9 (l':=X++l) (.trans (.of_perm AH) (.drop .refl)) ⟨rfl,X,rfl⟩
 have m1:Zn b2 F C T sh∈lw1++(Zn b2 F C T sh::l):=Aa _ (.head _);refine Cs ?_;refine JS (Az (vs:=[pR F C T sh]) rfl rfl (SQ F C T sh _)) ?_;rintro _ _ (⟨hmay2,rfl,rfl⟩|⟨_,wb2,lw2,rfl,hW2,rfl⟩)
 case inl=>rw[hmay] at hmay2;cases hmay2
 refine Cs ?_;refine Aj ?_;have hb:1<=T/\T<=3/\11*T<=F/\F<=64:=by unfold MK at hmay;simp only[AR,Bg] at hmay;omega
 obtain⟨g0,s0⟩:=fc (F:=F.toNat) (C:=C.toNat) (T:=T.toNat) sh Af Af Af Af;refine CE (α:=Nat×KT×List (Int×List GJ)×List (Int×List GJ)×List Ab×List Ab) (λx=>[(1,.slice a n cap),(2,pV b2),(5,pV wb1),(6,pV wb2),(7,.int .i64 x.1)]) (λx=>x.2.2.2.2.1++(x.2.2.2.2.2++(Zn b2 F C T sh::l))) (λx=>x.1<=n/\sI F C T sh wb1 wb2 x.1 x.2.1 x.2.2.1 x.2.2.2.1 x.2.2.2.2.1 x.2.2.2.2.2) (λx=>n-x.1) (0,_,[],[],lw1,lw2) ⟨Bl _,hW1,hW2,g0,s0,A7 _,A7 _⟩ ⟨rfl,rfl,rfl,rfl,rfl,trivial⟩ (.of_perm (xL ..)) ?_;rintro⟨i,S,st1,st2,lw1,lw2⟩ ⟨hi,hW⟩;simp only at hi hW⊢;by_cases hlt:i<n
 ·obtain⟨e,hie⟩: ∃e,es[i]?=some e:=⟨_,Al Af⟩
  have hel:=he e (A6 hie);have hev:=ss e;obtain⟨bB,off,cs,t,fz,rfl,hmr,hrow⟩:=hin Af;obtain⟨x1,x2,_⟩:=hrow i (Zb e) (by rw[A0,hie];rfl);have hmr1:(bB,Obj.cells cs t fz)∈lw1++(lw2++(Zn b2 F C T sh::l)):=Aa _ (Aa _ (.tail _ hmr));have hw1:=hW.w1.mono (m:=(840-8*(i+1))+aY e) Af;have hw2:=hW.w2.mono (m:=(840-8*(i+1))+aY e) Af;have hn3:=bi S e;have hn1:=hW.n1;have hn2:=hW.n2;obtain⟨⟨⟨ns,co⟩,S'⟩,hR⟩: ∃R,K9 S e=R:=⟨_,rfl⟩
  have hdo1:=λG=>Pw e hel hw1 Af G (BP hn3 AX);have hdo2:=λG=>Pw e hel hw2 Af G (BP hn3 AX);have hgd:=good_cl.ev hW.g e;have hst:=hW.s.ev e;have hwr:=λh=>eX (vB hW.g) hW.s (e:=e) h;rw[hR] at hn3 hgd hst hwr;simp only[hR] at hdo1 hdo2;dsimp only at hn3 hgd hst hwr;have hnn:ns.length<=1000000:=by omega
  refine Aj ?_;refine Bb (Dn rfl hmr1 x1 x2) ?_;refine AP (Az (vs:=[pV wb1,OO e]) rfl rfl (hdo1 _)) ?_;rintro _ _ ⟨sl1,c1,lw1',rfl,ho1,hW1',rfl⟩;obtain⟨p1,k1,rfl⟩:=ho1.shape;refine AO λb8=>?_;refine Bb (AJ rfl rfl λl2 hl=>fb ns co _ c1 l2 ho1 (λc hc=>hl c (.tail _ (Ah _ hc))) hnn) ?_;cases hwb:Jh ns co with
  |true=>
   refine Aj ?_;have hS:S'=S:=hwr (Zw hwb);rw[hS] at hW1';have hT:sI F C T sh wb1 wb2 (i+1) S (st1++[(co,ns)]) st2 lw1' lw2:=⟨hW1',hW.w2.mono Af,hW.g,hW.s,by rw[Ai,Bh];omega,Af⟩
   exact BV (i+1,S,_,st2,lw1',lw2) ⟨by simp only;omega,hT⟩ (by simp only;omega) ⟨rfl,rfl,rfl,rfl,rfl,trivial⟩ (vC ..)
  |false=>
   refine Aj ?_;refine Bk (.of_perm (vD ..)) ?_;have hmr2:(bB,Obj.cells cs t fz)∈lw2++(GL b8 co (.slice p1 ns.length k1)::(c1++(lw1'++(Zn b2 F C T sh::l)))):=Aa _ (.tail _ (Aa _ (Aa _ (.tail _ hmr))));refine Bb (Dn rfl hmr2 x1 x2) ?_;refine AP (Az (vs:=[pV wb2,OO e]) rfl rfl (hdo2 _)) ?_;rintro _ _ ⟨sl2,c2,lw2',rfl,ho2,hW2',rfl⟩;obtain⟨p2,k2,rfl⟩:=ho2.shape;refine AP e_alloc ?_;rintro _ _ ⟨b9,_,rfl,rfl⟩;have m8:GL b8 co (.slice p1 ns.length k1)∈c2++(lw2'++(GL b8 co (.slice p1 ns.length k1)::(c1++(lw1'++(Zn b2 F C T sh::l))))):=Aa _ (Aa _ (.head _));refine Aj ?_;refine Mv (v:= .bool (decide (ns=ns))) (by refine AJ (vs:=[.slice p1 ns.length k1,.slice p2 ns.length k2]) rfl rfl λl2 hl=>Ou Qi aZ pQ _ _ ns ns l2 (OwnSl.rowSl ho1 (λ_=>rfl) λc hc=>hl c (.tail _ (Aa _ (Aa _ (.tail _ (Ah _ hc)))))) (OwnSl.rowSl ho2 (λ_=>rfl) λc hc=>hl c (.tail _ (Ah _ hc))) hnn) rfl rfl rfl ?_;rw[At rfl];refine Aj ?_;have hT:sI F C T sh wb1 wb2 (i+1) S' (st1++[(co,ns)]) (st2++[(co,ns)]) lw1' lw2':=⟨hW1',hW2',hgd,hst,by rw[Ai,Bh];omega,by rw[Ai,Bh];omega⟩
   exact BV (i+1,S',_,_,lw1',lw2') ⟨by simp only;omega,hT⟩ (by simp only;omega) ⟨rfl,rfl,rfl,rfl,rfl,trivial⟩ (vE ..)
 ·obtain⟨z1,z2,z3,z4,z5,z6⟩:=hW.w1.sizes;obtain⟨y1,y2⟩:=hW.w1.w;refine Aj ?_;refine AP (Az (vs:=[pV wb1]) rfl rfl (P2 hW.w1 _)) ?_;rintro _ _ ⟨x,rfl,hx,rfl⟩;refine Aj ?_;refine Bk (.of_perm (xM ..)) ?_;refine AP (Az (vs:=[pV wb2]) rfl rfl (P2 hW.w2 _)) ?_;rintro _ _ ⟨y,rfl,hy,rfl⟩;refine Bb (AJ (vs:=[.agg (List.toArray (P1 x.vo x.vc x.vt x.vh S.N x.vr x.vq)),.agg (List.toArray (P1 y.vo y.vc y.vt y.vh S.N y.vr y.vq))]) rfl rfl λl2 hl=>VD x y hx hy z6 z1 z2 z3 z4 z5 l2 (λc hc=>hl c (Aa _ (Aa _ (Ah _ (kO hc))))) (λc hc=>hl c (Ah _ (kO hc)))) ?_;refine Aj ?_;refine Bk (.of_perm (xN ..)) ?_;refine Ia (Az (vs:=[pV wb1]) rfl rfl (SP hW.w1 _)) rfl rfl rfl ?_;rintro v1 _ ⟨c,X,hc,rfl⟩;have hv1:=hc.one;refine Aj ?_;refine Bk (.of_perm (xO ..)) ?_;refine Ia (Az (vs:=[pV wb2]) rfl rfl (SP hW.w2 _)) rfl rfl rfl ?_;rintro v2 _ ⟨d,Y,hd,rfl⟩;have hv2:=hd.one;refine Mv (AJ (vs:=[v1,v2]) rfl rfl λl2 hl=>Ts v1 v2 S.W l2 (hc.wds λe he=>hl e (Aa _ (Aa _ (Aa _ (Ah _ he))))) (hd.wds λe he=>hl e (Ah _ he)) Af) rfl rfl rfl ?_;refine Aj ?_;refine Ia (Az rfl rfl (P3 _)) rfl rfl rfl ?_;rintro _ _ ⟨rfl,Z,rfl⟩;refine Aj ?_;exact BA [] rfl .refl (by exact A8) ⟨rfl,Z++(d++(Y++(lw2++(c++(X++(lw1++(y.all++(x.all++[Zn b2 F C T sh])))))))),by simp⟩
theorem Qw(c0:List Value)(w0:AllIs [some .i64,some .i64,some .i64,none] c0){W:World}(a:Option Addr)(n cap:Nat)(rows:List (List Value))(h:UB yn W a n cap rows):
 Calls prog 13 #[.agg c0.toArray,.slice a n cap] W λe W'=>e= .returned (.bool true)/\Below W.heap.size W W':=by
 obtain⟨_,_,rfl,⟨F,rfl,_⟩,_,_,rfl,⟨C,rfl,_⟩,_,_,rfl,⟨T,rfl,_⟩,_,_,rfl,⟨sh,rfl⟩,rfl⟩:=w0;obtain⟨es,h1,h2,h3⟩:=kh h;exact gi (SX F C T sh a n cap es (O4 W) h2 h1 h.le h3)
end Go.Proofs.YtlkgekpmileobaaGreat
