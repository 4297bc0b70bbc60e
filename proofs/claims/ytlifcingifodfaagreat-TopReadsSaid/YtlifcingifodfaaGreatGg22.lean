/- Laws that the statement's proof leans on (joined out of several texts). -/
import Derived.Test.YtlifcingifodfaaGreatGg21
set_option maxHeartbeats 4000000
set_option linter.unusedVariables false
set_option linter.unusedSimpArgs false
namespace Go.Proofs.YtlifcingifodfaaGreat
open Tryz
open List(toArray replicate)
open Go.RowKit
set_option maxRecDepth 20000
variable{S:KT}{id core n f m pg:Int}{e:ND}{c:CapT}{K:List HX}{k C F j wb:Nat}{A:Ar.ArT}{os:List Ar.ObT}{T:LC}{r:List Ia}{D:SD}{H:HS}{a b:Cs}{v:Value}{th W:A4}{x:MJ}
def zn(t:Th.ThT):Prop:=t.hs=false->t.wr=false/\t.va=0/\t.vl=0
def Kq(D:SD)(c:CapT):Prop:= ∃x,x∈D/\c∈x.2
def From(S:KT)(c:CapT):Prop:=c.kind=0\/ ∃d,Kq S.H.1 d/\d.kind=c.kind/\d.obj=c.obj
def RgS(K K':List HX):Prop:= ∀c',c'∈K'->(∃c,c∈K/\c'.ro=c.ro/\c'.sp=c.sp)\/KJ c'.ro c'.sp
inductive vT(N:As.ASt):As.ASt->Prop
 |refl:vT N N
 |add (o:Int):vT N (As.addP N o).2.2
 |ass (o r:Int):vT N (As.assignP N o r).2.2.2
 |un (r:Int):vT N (As.unP N r).2.2
 |drop (o:Int):vT N (As.dropP N o).2.2
structure Hk(P:KT->Prop):Prop where
 free: ∀{S:KT} (Q:Nat->A4) (E:En.DE) (W:A4) (U:A4) (N:As.ASt),vT S.N N->P S->P {S with Q:=Q,E:=E,W:=W,U:=U,N:=N}
 core: ∀{S:KT} {K:List HX},P S->RgS S.K K->P {S with K:=K}
 set: ∀{S:KT} {t:Th.ThT},P S->zn t->P (DD S t)
 rz: ∀{S:KT},P S-> ∀id,zn (Dq S id)
 hold: ∀{S:KT} {H':HS},P S->(∀c,Kq H'.1 c->From S c)->P {S with H:=H'}
 place: ∀{S:KT} (id a b c:Int),P S->P {S with A:=(Ar.placeD S.A id a b c).2}
 mark: ∀{S:KT} (id m:Int),P S->P {S with A:=(Ar.markD' S.A id m).2}
 unm: ∀{S:KT} (id:Int),P S->P (Vg S id).2
structure Cl(P:KT->Prop):Prop extends Hk P where
 one: ∀{S:KT} (x:Cs) (k z f:Int) (q:Int×Cs),P S->P (R2 x k z f S q)
theorem RgS.refl(K:List HX):RgS K K:=λc h=> .inl ⟨c,h,rfl,rfl⟩
theorem RgS.tr{L M:List HX}(h1:RgS K L)(h2:RgS L M):RgS K M:=λc hc=>by
 rcases h2 c hc with⟨d,hd,e1,e2⟩|h
 ·rcases h1 d hd with⟨x,hx,e3,e4⟩|h
  ·exact .inl ⟨x,hx,e1.trans e3,e2.trans e4⟩
  ·exact .inr (by rw[e1,e2];exact h)
 ·exact .inr h
theorem RgS.drop(K:List HX)(f:MJ->Bool):RgS K (IM K f):=λc hc=>by obtain⟨d,hd,rfl⟩:=Av.1 hc;exact .inl ⟨d,hd,rfl,rfl⟩
theorem RgS.drops: ∀(l:A4) (K:List HX),RgS K (l.foldl (λK n=>IM K (Q5 n)) K)
 |[],K=> .refl K
 |n::l,K=>(RgS.drop K (Q5 n)).tr (RgS.drops l _)
theorem RgS.set(h:JD K n=0)(t:LC):RgS K (K.set n.toNat {K5 K n with tb:=t}):=λc hc=>by
 have hn:n.toNat<K.length:=by
  by_cases h2:n<0\/n>=K.length
  ·have e:JD K n=3:=Ad h2;rw[e] at h;cases h
  ·omega
 rcases CQ hc with h1|h1
 ·exact .inl ⟨c,h1,rfl,rfl⟩
 ·refine .inl ⟨K[n.toNat],GB hn,?_,?_⟩<;>(rw[h1];simp only[K5,AO,Al hn,Dx])
theorem RgS.trans'(K:List HX)(W:A4)(n pg:Int):RgS K (B9 K W n pg).2:=by
 unfold B9
 split
 ·exact .refl K
 rename_i h
 split
 ·exact .refl K
 split
 ·exact .refl K
 split
 ·exact .refl K
 split
 ·exact .refl K
 ·exact .set (Hh.1 h) _
theorem RgS.ev(K:List HX)(n st wy:Int):RgS K (nc K n st wy).2:=by
 unfold nc
 split
 ·exact .refl K
 ·rename_i h;exact .set (Hh.1 h) _
theorem RgS.setC(K:List HX)(n r s:Int):RgS K (setC K n r s).2:=by
 unfold Go.Proofs.YtlifcingifodfaaGreat.setC
 split
 ·exact .refl K
 split
 ·exact .refl K
 ·rename_i h;intro c hc;rcases CQ hc with h1|h1
  ·exact .inl ⟨c,h1,rfl,rfl⟩
  ·exact .inr (by rw[h1];exact Hh.1 h)
theorem Lz{s:Cs}{d:CapT}(h:Kq (Gu D s c) d):d=c\/Kq D d:=by
 obtain⟨x,hx,hd⟩:=h;unfold Gu at hx;obtain⟨y,hy,rfl⟩:=Av.1 hx
 split at hd
 ·rcases CQ hd with h|h
  ·exact .inr ⟨y,hy,h⟩
  ·exact .inl h
 ·exact .inr ⟨y,hy,hd⟩
section
variable{d:CapT}
theorem From.self(h:Kq S.H.1 c):From S c:= .inr ⟨c,h,rfl,rfl⟩
theorem From.of(hd:From S d)(h1:d.kind=c.kind)(h2:d.obj=c.obj):From S c:=by
 rcases hd with h|⟨e,he,h3,h4⟩
 ·exact .inl (by rw[<-h1];exact h)
 ·exact .inr ⟨e,he,by rw[h3,h1],by rw[h4,h2]⟩
theorem From.at(S:KT)(s:Cs):From S (D5 S.H.1 s):=by
 unfold D5
 split
 ·rename_i x hx;rw[AO];cases e:x.2[s.2.toNat]? with
  |none=>exact .inl rfl
  |some c=>exact .self ⟨x,(Ff hx).1,Bc e⟩
 ·exact .inl rfl
theorem From.cp(S:KT)(s:Cs):From S (Ei S s):=by
 show From S (getD' S.H.1 s).1;unfold getD'
 split
 ·exact From.at S s
 ·exact .inl rfl
theorem XG:(Er c m).2=0->c.kind=(Er c m).1.kind/\c.obj=(Er c m).1.obj:=by
 unfold Er
 repeat' split
 all_goals first|exact λ_=>⟨rfl,rfl⟩|exact λh=>absurd h AX
theorem pm{m:Nat}:(TS c m).2=0->c.kind=(TS c m).1.kind/\c.obj=(TS c m).1.obj:=by
 unfold TS
 repeat' split
 all_goals first|exact λ_=>⟨rfl,rfl⟩|exact λh=>absurd h AX
theorem gc{n:Nat}:(HH c m n).2=0->c.kind=(HH c m n).1.kind/\c.obj=(HH c m n).1.obj:=by
 unfold HH
 split
 ·rename_i h;exact λh2=>absurd h2 h
 ·rename_i h;intro h2;have h3:=XG (Hh.1 h);have h4:=pm h2;exact⟨h3.1.trans h4.1,h3.2.trans h4.2⟩
theorem UO{r:CapT}(hc:Kq (IK H a b r).2.1 c):c=r\/Kq H.1 c:=by
 unfold IK at hc
 repeat' split at hc
 all_goals first|exact .inr hc|exact Lz hc
theorem pn{r:CapT×Int}(hc:Kq (Gv H a b r).2.1 c):(r.2=0/\c=r.1)\/Kq H.1 c:=by
 unfold Gv at hc
 split at hc
 ·exact .inr hc
 split at hc
 ·exact .inr hc
 ·rename_i h;rcases UO hc with h1|h1
  ·exact .inl ⟨Hh.1 h,h1⟩
  ·exact .inr h1
end
namespace Hk
variable{P:KT->Prop}{S:KT}
theorem fQ(h:Hk P)(hS:P S)(x:Nat->A4):P {S with Q:=x}:=h.free x S.E S.W S.U S.N .refl hS
theorem fE(h:Hk P)(hS:P S)(x:En.DE):P {S with E:=x}:=h.free S.Q x S.W S.U S.N .refl hS
theorem fW(h:Hk P)(hS:P S)(x:A4):P {S with W:=x}:=h.free S.Q S.E x S.U S.N .refl hS
theorem fK(h:Hk P)(hS:P S){x:List HX}(hx:RgS S.K x):P {S with K:=x}:=h.core hS hx
theorem fU(h:Hk P)(hS:P S)(x:A4):P {S with U:=x}:=h.free S.Q S.E S.W x S.N .refl hS
theorem fN(h:Hk P)(hS:P S){x:As.ASt}(hx:vT S.N x):P {S with N:=x}:=h.free S.Q S.E S.W S.U x hx hS
theorem all(h:Hk P)(hS:P S)(Q:Nat->A4)(E:En.DE)(W:A4)(U:A4)(N:As.ASt)(hN:vT S.N N){K:List HX}(hK:RgS S.K K):P {S with Q:=Q,E:=E,W:=W,K:=K,U:=U,N:=N}:=
 h.core (S:={S with Q:=Q,E:=E,W:=W,U:=U,N:=N}) (h.free Q E W U N hN hS) hK
theorem placeW(h:Hk P)(hS:P S)(W:A4)(id a b c:Int):P {S with W:=W,A:=(Ar.placeD S.A id a b c).2}:=h.place (S:={S with W:=W}) id a b c (h.fW hS W)
theorem ju{α:Type}{f:KT->α->KT}(hf: ∀S x,P S->P (f S x)): ∀(l:List α) (S:KT),P S->P (l.foldl f S)
 |[],_,h=>h
 |x::l,S,h=>ju hf l (f S x) (hf S x h)
theorem der(h:Hk P)(hS:P S)(a b:Cs)(r:CapT×Int)(hr:r.2=0->From S r.1):P {S with H:=(Gv S.H a b r).2}:=
 h.hold hS λc hc=>(pn hc).elim (λ⟨h1,h2⟩=>h2▸hr h1) From.self
theorem copy(h:Hk P)(hS:P S)(a b:Cs)(m:Int):P {S with H:=(Gv S.H a b (Er (D5 S.H.1 a) m)).2}:=
 h.der hS a b _ λe=>(From.at S a).of (XG e).1 (XG e).2
theorem st(h:Hk P)(hS:P S)(id st:Int):P (OK S id st).2:=by
 unfold OK
 split
 ·exact hS
 ·dsimp only
  split
  ·exact h.fQ (h.set (t:={Dq S id with st:=st}) hS (h.rz hS id)) _
  ·exact h.fQ (h.set (t:={Dq S id with st:=st}) hS (h.rz hS id)) _
theorem fr(h:Hk P)(hS:P S)(id:Int):P (yd S id):=by
 unfold yd
 split
 ·exact h.set (t:={Dq S (Th.serverD S.T id) with ca:=0}) hS (h.rz hS (Th.serverD S.T id))
 ·exact hS
theorem haltE(h:Hk P)(hS:P S)(id:Int):P (haltE S id).2:=h.st (h.set (t:=fe (Dq S id)) hS λ_=>⟨rfl,rfl,rfl⟩) id 0
theorem halt(h:Hk P)(hS:P S)(id:Int):P (IY S id).2:=by
 unfold IY
 split
 ·exact hS
 ·exact h.haltE (h.fr (h.fE hS _) _) _
theorem unh1(h:Hk P)(hS:P S)(c:CapT):P (NK S c):=by
 unfold NK
 split
 ·exact h.all hS S.Q S.E _ S.U S.N .refl (.drop _ _)
 ·exact hS
theorem off1(h:Hk P)(hS:P S)(id:Int):P (RS S id):=by
 unfold RS
 split
 ·exact h.place (S:={S with W:=_,K:=_}) id 0 0 0 (h.all hS S.Q S.E _ S.U S.N .refl (.drop _ _))
 ·exact hS
theorem off(h:Hk P)(hS:P S)(id:Int):P (PX S id).2:=by
 unfold PX
 split
 ·exact hS
 split
 ·exact h.off1 hS id
 split
 ·refine h.all hS S.Q S.E S.W S.U _ (.un _) ?_
  split
  ·exact .drop _ _
  ·exact .refl _
 split
 ·exact h.all hS S.Q S.E S.W S.U _ (.drop _) (.drops _ _)
 ·exact hS
theorem endT(h:Hk P)(hS:P S)(id:Int):P (endT S id):=by
 unfold Go.Proofs.YtlifcingifodfaaGreat.endT
 split
 ·have h1:=h.halt hS (Dq S id).ca;exact h.set (t:={Dq (IY S (Dq S id).ca).2 id with ca:=0}) h1 (h.rz h1 id)
 ·exact hS
theorem ends(h:Hk P)(hS:P S)(c:CapT):P (KW S c):=by
 unfold KW
 split
 ·exact h.off hS _
 split
 ·exact ju (P:=P) (f:=λS t=>(IY S t).2) (λS x hS=>h.halt hS x) _ _ hS
 split
 ·exact h.endT (h.halt hS _) _
 ·exact hS
theorem clear(h:Hk P)(hS:P S)(x:Cs):P {S with H:=(Eb S.H x).2}:=by
 refine h.hold hS λc hc=>?_;unfold Eb at hc
 repeat' split at hc
 ·exact .self hc
 ·exact .self hc
 ·rcases Lz hc with h|h
  ·exact .inl (by rw[h])
  ·exact .self h
theorem dropX(h:Hk P)(hS:P S)(x:Cs):P (dropX S x):=by
 unfold Go.Proofs.YtlifcingifodfaaGreat.dropX
 split
 ·exact h.unh1 (h.clear hS x) _
 ·exact h.clear hS x
theorem dropR(h:Hk P): ∀(m:Nat) (S:KT) (ys:List Cs) (es:A4) (n:Nat),P S->P (dropR m S ys es n).1
 |0,_,_,_,_,hS=>by unfold Go.Proofs.YtlifcingifodfaaGreat.dropR;exact hS
 |_+1,_,[],_,_,hS=>by unfold Go.Proofs.YtlifcingifodfaaGreat.dropR;exact hS
 |m+1,S,x::ys,es,n,hS=>by
  unfold Go.Proofs.YtlifcingifodfaaGreat.dropR
  split
  ·exact h.dropR m _ _ _ _ (h.clear hS x)
  split
  ·exact h.dropR m _ _ _ _ (h.dropX hS x)
  ·exact h.dropR m _ _ _ _ (h.ends (h.dropX hS x) _)
theorem setl(h:Hk P)(hS:P S):P (Js S):=ju (P:=P) (f:=Fu) (λS j hS=>by
 refine h.all hS S.Q S.E S.W _ S.N .refl ?_
 split
 ·exact .setC _ _ _ _
 ·exact .setC _ _ _ _) _ _ hS
theorem drop(h:Hk P)(hS:P S)(x:Cs):P (QL S x).2:=h.setl (ju (P:=P) (f:=λS id=>(Vg S id).2) (λS id hS=>h.unm id hS) _ _ (h.dropR _ _ _ _ _ hS))
theorem del(h:Hk P)(hS:P S)(x:Cs):P (QM S x).2:=by
 unfold QM
 split
 ·exact hS
 ·exact h.drop hS x
theorem revR(h:Hk P): ∀(m:Nat) (S:KT) (x:Cs) (bu n:Nat),P S->P (revR m S x bu n).2
 |0,_,_,_,_,hS=>by unfold Go.Proofs.YtlifcingifodfaaGreat.revR;exact hS
 |m+1,S,x,bu,n,hS=>by
  unfold Go.Proofs.YtlifcingifodfaaGreat.revR
  split
  ·exact hS
  split
  ·exact hS
  split
  ·exact hS
  ·exact h.revR m _ _ _ _ (h.drop hS _)
theorem rev(h:Hk P)(hS:P S)(x:Cs)(bu:Int):P (Sj S x bu).2:=by
 unfold Sj
 split
 ·exact hS
 split
 ·exact hS
 ·exact h.revR _ _ _ _ _ hS
theorem giv(h:Hk P)(hS:P S)(t u:Th.ThT):P (QJ S t u).2:=by
 unfold QJ
 split
 ·exact hS
 split
 ·exact h.copy hS _ _ 7
 ·exact hS
theorem hand(h:Hk P)(hS:P S)(t:Th.ThT)(id:Int)(m:OP)(bd:Int):P (Ko S t id m bd).2:=h.set (h.giv hS t _) (h.rz hS id)
theorem calls1(h:Hk P)(hS:P S)(u:Int):P (KZ S u):=by
 unfold KZ
 split
 ·exact hS
 ·exact h.halt hS _
theorem calls(h:Hk P)(hS:P S)(t u:Int):P (PY S t u):=by have h1:=h.calls1 hS u;exact h.st (h.set (t:={Dq (KZ S u) u with ca:=t}) h1 (h.rz h1 u)) t 4
theorem sendH(h:Hk P)(hS:P S)(x:Th.ThT)(t u:Int)(m:OP)(bd:Int)(cl:Bool):P (sendH S x t u m bd cl).2:=by
 have h1:=h.st (h.hand (h.fE hS (En.removeD S.E u).2) x u m bd) u 1;unfold Go.Proofs.YtlifcingifodfaaGreat.sendH;generalize(OK (Ko {S with E:=(En.removeD S.E u).2} x u m bd).2 u 1).2=S1 at h1⊢
 split
 ·exact h.calls (h.set (t:={Dq S1 t with cl:=true}) h1 (h.rz h1 t)) _ _
 ·exact h1
theorem send(h:Hk P)(hS:P S)(t:Int)(x:Cs)(m:OP)(gv:Int)(cl:Bool):P (Jv S t x m gv cl).2:=by
 unfold Jv
 split
 ·exact hS
 split
 ·exact hS
 split
 ·exact hS
 split
 ·exact h.st (h.set (t:=fA m (Ei S x) gv cl (Dq S t)) (h.fE hS (En.waitD S.E (Ei S x).obj t true).2) (h.rz hS t)) t 2
 ·exact h.sendH hS _ _ _ _ _ _
theorem recvW(h:Hk P)(hS:P S)(w:Bool)(id t:Int):P (recvW S w id t):=by
 unfold Go.Proofs.YtlifcingifodfaaGreat.recvW
 split
 ·exact h.calls hS _ _
 ·exact h.st hS _ _
theorem recvH(h:Hk P)(hS:P S)(t id:Int):P (recvH S t id).2:=by have h1:=h.recvW (h.hand (h.fE hS (En.removeD S.E id).2) (Dq S id) t (jj (Dq S id)) (Dq S id).ob) ((Dq S id).cl||(Dq S id).fa) id t;unfold Go.Proofs.YtlifcingifodfaaGreat.recvH;dsimp only;generalize Go.Proofs.YtlifcingifodfaaGreat.recvW (Ko {S with E:=(En.removeD S.E id).2} (Dq S id) t (jj (Dq S id)) (Dq S id).ob).2 ((Dq S id).cl||(Dq S id).fa) id t=S1 at h1⊢;exact h.set (t:=oJ (Dq S1 id)) h1 (h.rz h1 id)
theorem recv(h:Hk P)(hS:P S)(t:Int)(x:Cs)(inn:Int):P (OT S t x inn).2:=by
 have h1:P (DD S {Dq S t with inn:=inn}):=h.set (t:={Dq S t with inn:=inn}) hS (h.rz hS t);unfold OT
 split
 ·exact hS
 split
 ·exact hS
 split
 ·exact hS
 split
 ·exact h.st (h.set (t:={Dq (DD S {Dq S t with inn:=inn}) t with wa:=(Ei S x).obj}) (h.fE h1 (En.waitD S.E (Ei S x).obj t false).2) (h.rz h1 t)) t 3
 ·exact h.recvH h1 _ _
theorem replyH(h:Hk P)(hS:P S)(ca:Int)(m:OP)(t:Int):P (replyH S ca m t).2:=by
 refine h.st (h.set (t:=OQ m (Dq S (Dq S ca).id)) hS ?_) _ _;unfold OQ
 split
 ·exact h.rz hS _
 ·exact h.rz hS _
theorem reply(h:Hk P)(hS:P S)(t:Int)(m:OP):P (Lx S t m).2:=by
 unfold Lx
 split
 ·exact hS
 split
 ·exact hS
 ·exact h.replyH (h.set (t:={Dq S t with ca:=0}) hS (h.rz hS t)) (Dq S t).ca m t
theorem raise(h:Hk P)(hS:P S)(t:Th.ThT)(x:P5)(f:vK)(hx:x.hs=true):P (Ly S t x f).2:=by
 have h1:P (DD S (NC t x)):=h.set (t:=NC t x) hS λe=>by have e:x.hs=false:=e;rw[hx] at e;cases e
 have h2:=h.send h1 t.id (t.id,2) (cR f) 4096 true;unfold Ly;generalize(Jv (DD S (NC t x)) t.id (t.id,2) (cR f) 4096 true)=R at h2⊢
 split
 ·exact h.halt h1 _
 ·exact h.set (t:={Dq R.2 t.id with fa:=true,cl:=t.cl}) h2 (h.rz h2 t.id)
theorem findA(h:Hk P)(hS:P S)(core va:Int)(wr:Bool):P (findA S core va wr).2:=by
 unfold Go.Proofs.YtlifcingifodfaaGreat.findA
 repeat' split
 all_goals first|exact hS|exact h.fK hS (.trans' _ _ _ _)
theorem acc(h:Hk P)(hS:P S)(core:Int)(x:P5):P (Mq S core x).2:=by
 have h1:=h.findA hS core x.va;unfold Mq
 split
 ·unfold Z5
  split
  ·exact h1 true
  ·exact h.fW (h1 true) _
 ·unfold cE
  split
  ·exact h1 false
  split
  ·exact h1 false
  ·exact h1 false
theorem doR(h:Hk P)(hS:P S)(core:Int)(x:P5)(t:Th.ThT):P (doR S core x t).2:=by
 unfold Go.Proofs.YtlifcingifodfaaGreat.doR
 split
 ·exact h.raise (h.acc hS core x) t _ _ rfl
 ·exact h.set (t:=NC t cT) (h.acc hS core x) λ_=>⟨rfl,rfl,rfl⟩
theorem fdo(h:Hk P)(hS:P S)(core:Int)(x:P5):P (Mr S core x).2:=by
 unfold Mr
 split
 ·exact hS
 ·exact h.doR hS core x _
theorem fag(h:Hk P)(hS:P S)(core:Int):P (Rx S core).2:=by
 unfold Rx
 split
 ·exact hS
 split
 ·exact hS
 ·exact h.fdo hS core _
theorem run(h:Hk P)(hS:P S)(core id:Int):P (Mm S core id).2:=by
 unfold Mm
 split
 ·exact hS
 split
 ·exact hS
 ·exact h.fU hS _
theorem now(h:Hk P)(hS:P S)(t:Int):P (ti S t):=by
 refine ju (P:=P) (f:=λS j=>cJ S t j) (λS j hS=>?_) _ _ hS;unfold cJ
 split
 ·exact h.run hS _ _
 ·exact hS
theorem retype(h:Hk P)(h1: ∀{S:KT} (x:Cs) (k z f:Int) (q:Int×Cs),P S->P (R2 x k z f S q))(hS:P S)(o:Jt)(x y:Cs):P (Gy S o x y).2:=by
 unfold Gy
 split
 ·exact hS
 split
 ·exact hS
 split
 ·exact hS
 split
 ·exact hS
 ·exact h.mark _ _ (ju (P:=P) (f:=R2 x o.n0 o.n1 _) (λS q hS=>h1 x _ _ _ q hS) _ _ hS)
theorem mapT(h:Hk P)(hS:P S)(x y:Cs)(va:Int):P (QR S x y va).2:=by
 unfold QR
 repeat' split
 all_goals first|exact hS|exact h.placeW hS _ _ _ _ _
theorem unmT(h:Hk P)(hS:P S)(x:Cs):P (RU S x).2:=by
 unfold RU
 split
 ·exact h.place _ 0 0 0 (h.off1 hS _)
 ·exact hS
theorem setHo(h:Hk P)(hS:P S)(x:Cs)(c:CapT)(hc:From S c):P {S with H:=(Pp S.H x c).2}:=by
 refine h.hold hS λd hd=>?_;unfold Pp at hd
 repeat' split at hd
 all_goals first|exact .self hd|(rcases Lz hd with e|e<;>first|(rw[e];exact hc)|exact .self e)
theorem mapF(h:Hk P)(hS:P S)(x y:Cs)(va ri:Int):P (QU S x y va ri).2:=by
 unfold QU
 repeat' split
 all_goals first|exact hS|exact h.all (h.setHo hS x {Ei S x with serial:=(As.ofP S.N (Ei S y).obj).2.1,page:=(E4 va).1} ((From.cp S x).of rfl rfl)) S.Q S.E _ S.U S.N .refl (.drop _ _)
theorem zp(S:KT)(c:CapT):(NK S c).H=S.H:=by
 unfold NK
 split<;>rfl
theorem unmF(h:Hk P)(hS:P S)(x:Cs):P (RX S x).2:=by
 unfold RX
 split
 ·refine h.setHo (h.unh1 hS _) x _ ?_;unfold From;rw[zp];exact(From.cp S x).of rfl rfl
 ·exact hS
theorem enab(h:Hk P)(hS:P S)(x y:Cs):P (RV S x y).2:=by
 unfold RV
 split
 ·exact h.fN hS (.add _)
 ·exact hS
theorem assn(h:Hk P)(hS:P S)(x y:Cs):P (RW S x y).2:=by
 unfold RW
 split
 ·exact h.free S.Q S.E _ S.U _ (.ass _ _) hS
 ·exact hS
theorem bind(h:Hk P)(hS:P S)(n:Int)(x y:Cs):P (QN S n x y).2:=by
 unfold QN
 split
 ·exact hS
 ·exact h.copy hS y _ 7
theorem unbind(h:Hk P)(hS:P S)(n:Int)(x:Cs):P (KX S n x).2:=by
 unfold KX
 split
 ·exact hS
 ·exact h.del hS _
theorem resume(h:Hk P)(hS:P S)(x:Cs):P (KY S x).2:=by
 unfold KY
 split
 ·exact hS
 split
 ·exact hS
 ·exact h.st hS _ _
theorem suspend(h:Hk P)(hS:P S)(x:Cs):P (Ju S x).2:=by
 unfold Ju
 split
 ·exact hS
 ·exact h.halt hS _
theorem prio(h:Hk P)(hS:P S)(n:Int)(x:Cs):P (QQ S n x).2:=by
 unfold QQ
 split
 ·exact hS
 ·have h1:P (DD S {Dq S (Ei S x).obj with pr:=n}):=h.set (t:={Dq S (Ei S x).obj with pr:=n}) hS (h.rz hS _);show P (fO _ _ _);unfold fO
  split
  ·exact h.fQ h1 _
  ·exact h.fQ h1 _
theorem swap(h:Hk P)(hS:P S)(x y:Cs):P {S with H:=(Mb S.H x y).2}:=by
 refine h.hold hS λd hd=>?_;unfold Mb at hd
 split at hd
 ·exact .self hd
 ·rcases Lz hd with e|e
  ·rw[e];exact From.at S x
  rcases Lz e with e|e
  ·rw[e];exact From.at S y
  ·exact .self e
theorem move(h:Hk P)(hS:P S)(x y:Cs):P {S with H:=(JJ S.H x y).2}:=by
 refine h.hold hS λd hd=>?_;unfold JJ at hd
 split at hd
 ·exact .self hd
 ·rcases Lz hd with e|e
  ·rw[e];exact From.at S x
  rcases Lz e with e|e
  ·exact .inl (by rw[e])
  ·exact .self e
theorem does(h:Hk P)(hS:P S)(t:Int)(o:Jt)(x y:Cs)(hr:o.op=1->P (Gy S o x y).2):P (Mg S t o x y).2:=by
 unfold Mg;by_cases e1:o.op=1
 ·rw[Ad e1];exact hr e1
 rw[Ab e1];by_cases e2:o.op=2
 ·rw[Ad e2];exact h.copy hS x y _
 rw[Ab e2];by_cases e3:o.op=3
 ·rw[Ad e3];exact h.der hS x y _ λe=>(From.at S x).of (gc e).1 (gc e).2
 rw[Ab e3];by_cases e4:o.op=4
 ·rw[Ad e4];exact h.move hS x y
 rw[Ab e4];by_cases e5:o.op=5
 ·rw[Ad e5];exact h.swap hS x y
 rw[Ab e5];by_cases e6:o.op=6
 ·rw[Ad e6];exact h.del hS x
 rw[Ab e6];by_cases e7:o.op=7
 ·rw[Ad e7];exact h.rev hS x _
 rw[Ab e7];by_cases e8:o.op=8
 ·rw[Ad e8];exact h.mapT hS x y _
 rw[Ab e8];by_cases e9:o.op=9
 ·rw[Ad e9];exact h.unmT hS x
 rw[Ab e9];by_cases zK:o.op=10
 ·rw[Ad zK];exact h.mapF hS x y _ _
 rw[Ab zK];by_cases zL:o.op=11
 ·rw[Ad zL];exact h.unmF hS x
 rw[Ab zL];by_cases zM:o.op=12
 ·rw[Ad zM];exact h.enab hS x y
 rw[Ab zM];by_cases zN:o.op=13
 ·rw[Ad zN];exact h.assn hS x y
 rw[Ab zN];by_cases zO:o.op=18
 ·rw[Ad zO];exact h.now (h.fQ hS _) t
 rw[Ab zO];by_cases wQ:o.op=19
 ·rw[Ad wQ];exact h.bind hS _ x y
 rw[Ab wQ];by_cases zP:o.op=20
 ·rw[Ad zP];exact h.unbind hS _ x
 rw[Ab zP];by_cases zQ:o.op=21
 ·rw[Ad zQ];exact h.resume hS x
 rw[Ab zQ];by_cases uH:o.op=22
 ·rw[Ad uH];exact h.suspend hS x
 rw[Ab uH];by_cases zR:o.op=23
 ·rw[Ad zR];exact h.prio hS _ x
 rw[Ab zR];exact hS
theorem says(h:Hk P)(hS:P S)(t:Int)(o:Jt)(x:Cs){r:(List Ia×Int)×KT}(hr:PD S t o x=some r):P r.2:=by
 unfold PD at hr
 split at hr
 ·cases hr;exact h.send hS ..
 split at hr
 ·cases hr;exact h.recv hS ..
 split at hr
 ·cases hr;exact h.reply hS ..
 ·cases hr
theorem ordE(h:Hk P)(hS:P S)(t:Int)(o:Jt)(x y:Cs)(hr:o.op=1->P (Gy S o x y).2):P (ordE S t o x y).2:=by
 unfold Go.Proofs.YtlifcingifodfaaGreat.ordE
 split
 ·rename_i r hr;exact h.says hS t o x hr
 ·split
  ·exact h.does hS t o x y hr
  ·exact h.does hS t o x y hr
theorem ord(h:Hk P)(hS:P S)(t:Int)(o:Jt)(hr: ∀x y,o.op=1->P (Gy S o x y).2):P (Pr S t o).2:=by
 unfold Pr
 split
 ·exact hS
 split
 ·exact hS
 split
 ·exact hS
 ·exact h.ordE hS t o _ _ (hr _ _)
theorem call(h:Hk P)(hS:P S)(t:Int)(c:OU)(hr: ∀x y,(Ct c).1.op=1->P (Gy S (Ct c).1 x y).2):P (R3 S t c).2:=by
 unfold R3
 split
 ·split
  ·exact h.ord hS t _ hr
  ·exact h.ord hS t _ hr
 ·exact hS
theorem step(h:Hk P)(hS:P S)(e:ND)(hr: ∀x y,(Ct e.cl).1.op=1->P (Gy S (Ct e.cl).1 x y).2):P (HN S e).2:=by
 unfold HN
 split
 ·exact hS
 split
 ·exact hS
 split
 ·exact h.fag hS _
 split
 ·exact h.fdo hS _ _
 split
 ·exact h.fdo hS _ _
 ·exact h.call hS _ _ hr
theorem pick(h:Hk P)(hS:P S)(core t:Int):P (MU S core t).2:=by
 unfold MU
 repeat' split
 all_goals first|exact hS|exact h.run hS _ _
theorem cache(h:Hk P)(hS:P S)(e:ND):P (JZ S e).2:=by
 unfold JZ
 repeat' split
 all_goals first|exact hS|exact h.fK hS (.trans' _ _ _ _)|exact h.fK hS (.ev _ _ _ _)
theorem doA(h:Hk P)(hS:P S)(e:ND)(hr: ∀x y,(Ct e.cl).1.op=1->P (Gy S (Ct e.cl).1 x y).2):P (doA S e).2:=by
 unfold Go.Proofs.YtlifcingifodfaaGreat.doA
 split
 ·exact h.pick hS _ _
 split
 ·exact h.step hS e hr
 split
 ·exact h.cache hS e
 ·exact hS
theorem ev(h:Hk P)(hS:P S)(e:ND)(hr: ∀x y,(Ct e.cl).1.op=1->P (Gy S (Ct e.cl).1 x y).2):P (Jw S e).2:=by
 unfold Jw;dsimp only
 split
 ·exact h.setl (h.doA hS e hr)
 ·exact h.doA hS e hr
end Hk
theorem Cl.ev{P:KT->Prop}(h:Cl P)(hS:P S)(e:ND):P (Jw S e).2:=h.toHk.ev hS e λx y _=>h.toHk.retype h.one hS _ x y
def cS(K:List HX)(j:Nat)(q:Int×Int):List HX:=if j<K.length/\KJ q.1 q.2 then K.set j {K.getD j SI with ro:=q.1,sp:=q.2} else K
theorem gd(K:List HX)(j:Nat)(r s:Int):(setC K (j:Int) r s).2=cS K j (r,s):=by
 unfold setC cS;by_cases h1:j<K.length
 ·have e:JD K (j:Int)=0:=Ab Af;rw[Ab (by rw[e];simp)];by_cases h2:KJ r s
  ·rw[Ab (by simpa using h2),Ad ⟨h1,h2⟩];simp only[K5,A0]
  ·rw[Ad h2,Ab λh=>h2 h.2]
 ·have e:JD K (j:Int)=3:=Ad Af;rw[Ad (by rw[e];simp),Ab λh=>h1 h.1]
theorem gh(K:List HX)(j:Nat)(q:Int×Int):cS (cS K j q) j q=cS K j q:=by
 by_cases h:j<K.length/\KJ q.1 q.2
 ·have e:cS K j q=K.set j {K.getD j SI with ro:=q.1,sp:=q.2}:=Ad h;rw[e];unfold cS;rw[Ad ⟨by simpa using h.1,h.2⟩,KO];congr 1;rw[AO,CD h.1];rfl
 ·have e:cS K j q=K:=Ab h;rw[e,e]
theorem tX(K:List HX)(j m:Nat)(q r:Int×Int)(zT:j≠m):cS (cS K m r) j q=cS (cS K j q) m r:=by
 have g: ∀(a b:Nat) (x:HX),a≠b->(K.set b x).getD a SI=K.getD a SI:=λa b x h=>by rw[AO,Gb Af,<-AO]
 unfold cS;by_cases h1:j<K.length/\KJ q.1 q.2
 ·by_cases h2:m<K.length/\KJ r.1 r.2
  ·rw[Ad h2,Ad h1,Ad (by simpa using h1),Ad (by simpa using h2),g j m _ zT,g m j _ (FJ zT),List.set_comm _ _ (FJ zT)]
  ·rw[Ab h2,Ad h1,Ab (by simpa using h2)]
 ·by_cases h2:m<K.length/\KJ r.1 r.2
  ·rw[Ad h2,Ab h1,Ab (by simpa using h1),Ad h2]
  ·rw[Ab h2,Ab h1,Ab h2]
def su(S:KT)(u:Int):Int:=if MY S u=false\/¬(Dq S u).st=1 then 0 else u
def sk(S:KT)(u:Int):Int×Int:=if u=0\/(FY S u).2=false then(-1,0) else((Ar.getD' S.A (FY S u).1.1).1.fi,(FY S u).1.2.1)
theorem MV(S:KT)(j:Nat):Fu S j={S with U:=S.U.set j (su S (S.U.getD j 0)),K:=cS S.K j (sk S (su S (S.U.getD j 0)))}:=by
 have e:QG S j=su S (S.U.getD j 0):=rfl;unfold Fu sk;rw[e];by_cases h:su S (S.U.getD j 0)=0\/(FY S (su S (S.U.getD j 0))).2=false
 ·rw[Ad h,Ad h,gd]
 ·rw[Ab h,Ab h,gd]
abbrev j9(S:KT)(U:A4)(K:List HX):KT:={S with U:=U,K:=K}
theorem SZ(S:KT)(U:A4)(K:List HX)(j:Nat):Fu (j9 S U K) j=j9 S (U.set j (su S (U.getD j 0))) (cS K j (sk S (su S (U.getD j 0)))):=MV (j9 S U K) j
theorem AcC(S:KT)(u:Int):su S (su S u)=su S u:=by
 by_cases h:MY S u=false\/¬(Dq S u).st=1
 ·have e:su S u=0:=Ad h;rw[e];unfold su
  split<;>rfl
 ·have e:su S u=u:=Ab h;rw[e,e]
theorem ZM(U:A4)(j m:Nat)(x:Int)(h:j≠m):(U.set m x).getD j 0=U.getD j 0:=by rw[AO,Gb Af,<-AO]
theorem UP(S:KT)(U:A4)(K:List HX)(j m:Nat):Fu (Fu (j9 S U K) m) j=j9 S ((U.set m (su S (U.getD m 0))).set j (su S ((U.set m (su S (U.getD m 0))).getD j 0))) (cS (cS K m (sk S (su S (U.getD m 0)))) j (sk S (su S ((U.set m (su S (U.getD m 0))).getD j 0)))):=
 (BI (λX=>Fu X j) (SZ S U K m)).trans (SZ S _ _ j)
theorem dk(S:KT)(U:A4)(K:List HX)(j:Nat):Fu (Fu (j9 S U K) j) j=Fu (j9 S U K) j:=by
 refine(UP S U K j j).trans (.trans ?_ (SZ S U K j).symm);by_cases h:j<U.length
 ·rw[show(U.set j (su S (U.getD j 0))).getD j 0=su S (U.getD j 0) by rw[AO,CD h];rfl,AcC,KO,gh]
 ·have e: ∀x,U.set j x=U:=λx=>List.set_eq_of_length_le Af;rw[e,e,gh]
theorem dl(S:KT)(U:A4)(K:List HX)(j m:Nat)(h:j≠m):Fu (Fu (j9 S U K) m) j=Fu (Fu (j9 S U K) j) m:=by refine(UP S U K j m).trans (.trans ?_ (UP S U K m j).symm);rw[ZM _ _ _ _ h,ZM _ _ _ _ (FJ h),tX _ _ _ _ _ h,List.set_comm _ _ (FJ h)]
def Stl(S:KT):Prop:= ∀j,j<S.U.length->Fu S j=S
theorem Stl.eq(h:Stl S):Js S=S:=by
 have g: ∀(l:List Nat),(∀j,j∈l->j<S.U.length)->l.foldl Fu S=S:=λl=>by
  induction l with
  |nil=>exact λ_=>rfl
  |cons x l ih=>intro hl;rw[D6,h x (hl x Ak)];exact ih λj hj=>hl j (An _ hj)
 exact g _ λj hj=>Dz.1 hj
theorem po(S:KT): ∀(m:Nat),(∃U K,U.length=S.U.length/\(List.range m).foldl Fu S=j9 S U K)/\ ∀j,j<m->Fu ((List.range m).foldl Fu S) j=(List.range m).foldl Fu S
 |0=>⟨⟨S.U,S.K,rfl,rfl⟩,λj h=>by omega⟩
 |m+1=>by
  obtain⟨⟨U,K,hl,e⟩,h⟩:=po S m;rw[CC,Fd,e];rw[e] at h;refine⟨⟨_,_,?_,SZ S U K m⟩,λj hj=>?_⟩
  ·rw[Ce,hl]
  show Fu (Fu (j9 S U K) m) j=Fu (j9 S U K) m;by_cases zT:j=m
  ·subst zT;exact dk S U K j
  ·rw[dl S U K j m zT,h j Af]
theorem pu(S:KT):Stl (Js S):=by obtain⟨⟨U,K,hl,e⟩,h⟩:=po S S.U.length;intro j hj;unfold Js at hj⊢;rw[e] at hj;exact h j (by rw[<-hl];exact hj)
theorem pw(h:¬(Mm S core id).1=0):(Mm S core id).2=S:=by
 revert h;unfold Mm
 repeat' split
 all_goals first|exact λ_=>rfl|exact λh=>absurd rfl h
theorem jv{t:Int}:¬(MU S core t).1=0->(MU S core t).2=S:=by
 unfold MU
 repeat' split
 all_goals first|exact λ_=>rfl|exact pw
theorem dm:¬(JZ S e).1=0->(JZ S e).2=S:=by
 unfold JZ
 repeat' split
 all_goals first|exact λ_=>rfl|exact λh=>absurd rfl h
theorem UQ{x:P5}:¬(Mr S core x).1.2=0->(Mr S core x).2=S:=by
 unfold Mr
 split
 ·exact λ_=>rfl
 ·exact λh=>absurd rfl h
theorem px:¬(Rx S core).1.2=0->(Rx S core).2=S:=by
 unfold Rx
 split
 ·exact λ_=>rfl
 split
 ·exact λ_=>rfl
 ·exact UQ
theorem jw(S:KT)(t:Int)(c:OU):(R3 S t c).1.2=0:=by
 unfold R3
 repeat' split
 all_goals rfl
theorem jx:¬(HN S e).1.2=0->(HN S e).2=S:=by
 unfold HN
 split
 ·exact λ_=>rfl
 split
 ·exact λ_=>rfl
 split
 ·exact px
 split
 ·exact UQ
 split
 ·exact UQ
 ·exact λh=>absurd (jw ..) h
theorem py:¬(doA S e).1.2=0->(doA S e).2=S:=by
 unfold doA
 split
 ·exact jv
 split
 ·exact jx
 split
 ·exact dm
 ·exact λ_=>rfl
theorem pA(h:¬(Jw S e).1.2=0):(Jw S e).2=S:=by show(if(doA S e).1.2=0 then _ else _)=S;have h:¬(doA S e).1.2=0:=h;rw[Ab h];exact py h
theorem Stl.ev(h:Stl S)(e:ND):Stl (Jw S e).2:=by
 by_cases hc:(Jw S e).1.2=0
 ·show Stl (if(doA S e).1.2=0 then _ else _);have hc:(doA S e).1.2=0:=hc;rw[Ad hc];exact pu _
 ·rw[pA hc];exact h
section
end
def Giv(A:Ar.ArT)(id:Int):Prop:= ∃(f:Nat) (j:Int),f<64/\j<A.g f/\id=f+1+64*j
def KdA(A:Ar.ArT)(k id:Int):Prop:=id≠0->(∀o,o∈A.os->o.id=id->o.kd=k)/\Giv A id
structure GoodK(S:KT):Prop where
 rz: ∀t,t∈S.T->zn t
 n:S.A.n<=64
 rg: ∀c,c∈S.K->KJ c.ro c.sp
 ob: ∀o,o∈S.A.os->o.id≠0/\Giv S.A o.id
 cap: ∀c,Kq S.H.1 c->c.kind≠0->KdA S.A c.kind c.obj
section
theorem GoodK.hd(h:GoodK S)(hD: ∀c,Kq D c->From S c): ∀c,Kq D c->c.kind≠0->KdA S.A c.kind c.obj:=λc hc hk=>by
 rcases hD c hc with h1|⟨d,h1,h2,h3⟩
 ·exact absurd h1 hk
 ·rw[<-h2,<-h3];exact h.cap d h1 (by rw[h2];exact hk)
theorem GoodK.ar(h:GoodK S)(os:List Ar.ObT)(ho: ∀o,o∈os-> ∃u,u∈S.A.os/\u.id=o.id/\u.kd=o.kd):GoodK {S with A:={S.A with os:=os}} where
 rz:=h.rz
 n:=h.n
 rg:=h.rg
 ob:=λo hm=>by obtain⟨u,h1,h2,h3⟩:=ho o hm;rw[<-h2];exact h.ob u h1
 cap:=λc hc hk h0=>⟨λo hm e=>by obtain⟨u,h1,h2,h3⟩:=ho o hm;rw[<-h3];exact(h.cap c hc hk h0).1 u h1 (by rw[h2];exact e),(h.cap c hc hk h0).2⟩
theorem zr(h:Ar.atO os id=some k):os.getD k Ar.obO∈os/\(os.getD k Ar.obO).id=id:=by obtain⟨o,h1,h2⟩:=Ar.atO_some h;rw[AO,h1];exact⟨Bc h1,h2⟩
theorem ZN(h:Ar.atO os id=some k)(f:Ar.ObT->Ar.ObT)(h1: ∀o,(f o).id=o.id)(h2: ∀o,(f o).kd=o.kd): ∀o,o∈os.set k (f (os.getD k Ar.obO))-> ∃u,u∈os/\u.id=o.id/\u.kd=o.kd:=λo ho=>by
 rcases CQ ho with e|e
 ·exact⟨o,e,rfl,rfl⟩
 ·exact⟨_,(zr h).1,by rw[e,h1],by rw[e,h2]⟩
theorem GoodK.ext{S':KT}(h:GoodK S)(h1:S'.A=S.A)(h2:S'.H.1=S.H.1)(h3:S'.T=S.T)(h4:S'.K=S.K):GoodK S' where
 rg:=by rw[h4];exact h.rg
 rz:=by rw[h3];exact h.rz
 n:=by rw[h1];exact h.n
 ob:=by rw[h1];exact h.ob
 cap:=by rw[h1,h2];exact h.cap
theorem Wq(hn:A.n<=64)(h:Ar.nextD A f≠0):0<=f/\f<64/\Ar.nextD A f=f.toNat+1+64*A.g f.toNat:=by
 unfold Ar.nextD at h⊢;by_cases h1:f<0
 ·rw[Ad h1] at h;exact absurd rfl h
 rw[Ab h1] at h⊢;by_cases h2:f>=A.n
 ·rw[Ad h2] at h;exact absurd rfl h
 rw[Ab h2] at h⊢;by_cases h3:f+1+64*A.g f.toNat>65535
 ·rw[Ad h3] at h;exact absurd rfl h
 rw[Ab h3] at h⊢;exact⟨Af,Af,Af⟩
theorem jy(hn:A.n<=64)(h:Ar.nextD A f≠0):¬Giv A (Ar.nextD A f):=by
 obtain⟨h1,h2,h3⟩:=Wq hn h;rintro⟨g,j,h4,h5,h6⟩;rw[h3] at h6;have e:g=f.toNat:=by omega
 subst e;omega
theorem pB{x o:Ar.ObT}(h:x∈Ar.insD os o):x=o\/x∈os:=by
 unfold Ar.insD at h;rcases AF.1 h with h|h
 ·exact .inr ((Ek _).subset h)
 ·rcases At.1 h with h|h
  ·exact .inl h
  ·exact .inr ((List.dropWhile_suffix _).subset h)
theorem Giv.up(f:Nat)(os:List Ar.ObT)(h:Giv A id):Giv {A with g:=upd A.g f (A.g f+1),os:=os} id:=by
 obtain⟨g,j,h1,h2,h3⟩:=h;refine⟨g,j,h1,?_,h3⟩;show j<upd A.g f (A.g f+1) g;by_cases e:g=f
 ·subst e;rw[DL];omega
 ·rw[Dl _ _ _ _ e];exact h2
theorem jz{k z:Int}(h:Ar.addE A k z f=0):Ar.nextD A f≠0:=by
 unfold Ar.addE at h
 split at h
 ·exact absurd h AX
 split at h
 ·exact absurd h AX
 split at h
 ·exact absurd h AX
 split at h
 ·exact absurd h AX
 ·assumption
theorem tY(S:KT)(k z f:Int)(h:(Ar.addD S.A k z f).1.2=0):Ar.addE S.A k z f=0/\Ar.addD S.A k z f=((Ar.nextD S.A f,0),{S.A with g:=upd S.A.g f.toNat (S.A.g f.toNat+1),os:=Ar.insD S.A.os (Ar.newO S.A k z f)}):=by
 unfold Ar.addD at h⊢
 split at h
 ·rename_i h2;exact⟨h2,by rw[Ad h2]⟩
 ·rename_i h2;exact absurd h h2
theorem tZ(S:KT)(k z f:Int)(h:¬(Ar.addD S.A k z f).1.2=0):(Ar.addD S.A k z f).2=S.A:=by
 unfold Ar.addD at h⊢
 split at h
 ·exact absurd rfl h
 ·rename_i h2;rw[Ab h2]
theorem vU(S:KT)(k id:Int):(jW S k id).A=S.A/\(jW S k id).H=S.H:=by
 unfold jW
 split
 ·exact⟨rfl,rfl⟩
 split
 ·exact⟨rfl,rfl⟩
 ·exact⟨rfl,rfl⟩
theorem vV(S:KT)(n id:Int):(nT S n id).A=S.A/\(nT S n id).T=S.T:=by
 unfold nT
 split
 ·exact⟨rfl,rfl⟩
 ·exact⟨rfl,rfl⟩
theorem pC(S:KT)(k z f:Int):(qf S k z f).A=S.A/\(qf S k z f).H=S.H/\(qf S k z f).T=S.T:=by
 unfold qf
 split
 ·exact⟨rfl,rfl,rfl⟩
 ·exact⟨rfl,rfl,rfl⟩
theorem AcD(S:KT)(k id:Int):(jW S k id).K=S.K:=by
 unfold jW
 repeat' split
 all_goals rfl
theorem AcE(S:KT)(n id:Int):(nT S n id).K=S.K:=by
 unfold nT
 split<;>rfl
theorem AcF(S:KT)(k z f:Int):(qf S k z f).K=S.K:=by
 unfold qf
 split<;>rfl
theorem AcG{k:Int}(h: ∀t,t∈S.T->zn t): ∀t,t∈(jW S k id).T->zn t:=by
 unfold jW
 split
 ·intro t ht;have ht:t∈(Th.addD S.T id).2:=ht;unfold Th.addD at ht
  split at ht
  ·exact h t ht
  split at ht
  ·exact h t ht
  ·unfold Th.insH at ht;rcases AF.1 ht with ht|ht
   ·exact h t ((Ek _).subset ht)
   ·rcases At.1 ht with rfl|ht
    ·exact λ_=>⟨rfl,rfl,rfl⟩
    ·exact h t ((List.dropWhile_suffix _).subset ht)
 split
 ·exact h
 ·exact h
theorem pD(h:Kq (nT S n id).H.1 c):c.kind=0\/Kq S.H.1 c:=by
 unfold nT at h
 split at h
 ·have h:Kq (Hn S.H.1 id n).2 c:=h;unfold Hn at h
  split at h
  ·exact .inr h
  split at h
  ·exact .inr h
  ·obtain⟨x,hx,hc⟩:=h;rcases O5.1 hx with rfl|hx
   ·exact .inl (by rw[El hc])
   ·exact .inr ⟨x,hx,hc⟩
 ·exact .inr h
theorem jA(h:GoodK S)(k z f:Int):GoodK (KL S k z f).2/\(k≠0->KdA (KL S k z f).2.A k (KL S k z f).1.1):=by
 unfold KL;by_cases hc:(Ar.addD S.A k z f).1.2=0
 ·rw[Ad hc];obtain⟨h1,h2⟩:=tY S k z f hc;have h3:=jz h1;have h4:=jy h.n h3;obtain⟨h5,h6,h7⟩:=Wq h.n h3;rw[h2];dsimp only;obtain⟨A',NG⟩: ∃A':Ar.ArT,A'={S.A with g:=upd S.A.g f.toNat (S.A.g f.toNat+1),os:=Ar.insD S.A.os (Ar.newO S.A k z f)}:=⟨_,rfl⟩
  have hg:Giv A' (Ar.nextD S.A f):=by rw[NG];refine⟨f.toNat,S.A.g f.toNat,Af,?_,h7⟩;show _<upd S.A.g f.toNat (S.A.g f.toNat+1) f.toNat;rw[DL];omega
  have hup: ∀id,Giv S.A id->Giv A' id:=λid hi=>by rw[NG];exact hi.up _ _
  have NQ: ∀o,o∈A'.os->o=Ar.newO S.A k z f\/o∈S.A.os:=λo ho=>by rw[NG] at ho;exact pB ho
  have gl:KdA A' k (Ar.nextD S.A f):=λ_=>⟨λo ho e=>by
   rcases NQ o ho with rfl|ho
   ·rfl
   ·exact absurd (by rw[<-e];exact(h.ob o ho).2) h4,hg⟩
  rw[<-NG];have e1: ∀X n,(jW (nT (qf {S with A:=A'} k z f) n X) k X).A=A':=λX n=>by rw[(vU ..).1,(vV ..).1,(pC ..).1]
  refine⟨⟨?_,?_,?_,?_,?_⟩,λ_=>by rw[e1];exact gl⟩
  ·refine AcG ?_;rw[(vV ..).2,(pC ..).2.2];exact h.rz
  ·rw[e1,NG];exact h.n
  ·rw[(AcD ..),(AcE ..),(AcF ..)];exact h.rg
  ·rw[e1];intro o ho;rcases NQ o ho with rfl|ho
   ·exact⟨h3,hg⟩
   ·exact⟨(h.ob o ho).1,hup _ (h.ob o ho).2⟩
  ·rw[e1,(vU ..).2];intro c hc hk h0;rcases pD hc with h8|h8
   ·exact absurd h8 hk
   rw[(pC ..).2.1] at h8;have h9:=h.cap c h8 hk h0;refine⟨λo ho e=>?_,hup _ h9.2⟩;rcases NQ o ho with rfl|ho
   ·exact absurd (by rw[show Ar.nextD S.A f=c.obj from e];exact h9.2) h4
   ·exact h9.1 o ho e
 ·rw[Ab hc,tZ S k z f hc];exact⟨h,λ_ h0=>absurd rfl h0⟩
theorem pE(h:GoodK S)(x:Cs)(k z f:Int)(q:Int×Cs):GoodK (R2 x k z f S q):=by
 obtain⟨h1,h2⟩:=jA h k z (f+q.1);unfold R2;refine⟨h1.rz,h1.n,h1.rg,h1.ob,λc hc hk=>?_⟩;rcases UO hc with e|e
 ·subst e;exact h2 hk
 ·exact h1.cap c e hk
theorem pF(h:GoodK S)(id:Int):GoodK (Vg S id).2:=by
 have hd: ∀c,Kq (HF S.H.1 id).2 c->Kq S.H.1 c:=λc ⟨x,hx,hc⟩=>by
  unfold HF at hx
  split at hx
  ·exact⟨x,hx,hc⟩
  split at hx
  ·exact⟨x,(BY.1 hx).1,hc⟩
  ·exact⟨x,hx,hc⟩
 have h1:GoodK {S with H:=((HF S.H.1 id).2,S.H.2)}:=⟨h.rz,h.n,h.rg,h.ob,λc hc=>h.cap c (hd c hc)⟩
 unfold Vg
 split
 ·exact h
 split
 ·exact h1
 ·have h2:GoodK {S with H:=((HF S.H.1 id).2,S.H.2),T:=(Th.dropD S.T id).2}:=⟨λt ht=>by
   have ht:t∈(Th.dropD S.T id).2:=ht;unfold Th.dropD at ht
   split at ht
   ·exact h.rz t (BY.1 ht).1
   ·exact h.rz t ht,h.n,h.rg,h.ob,h1.cap⟩
  have h3:GoodK {S with H:=((HF S.H.1 id).2,S.H.2),A:=(Ar.dropD S.A id).2,T:=(Th.dropD S.T id).2}:=by
   unfold Ar.dropD
   split
   ·exact h2.ar _ λo ho=>⟨o,Gl ho,rfl,rfl⟩
   ·exact h2
  exact h3.ext rfl rfl rfl rfl
theorem good_cl:Cl GoodK where
 free:=λ_ _ _ _ _ _ h=>h.ext rfl rfl rfl rfl
 core:=λ{S K} h hK=>⟨h.rz,h.n,λc hc=>by
  rcases hK c hc with⟨d,hd,e1,e2⟩|e
  ·rw[e1,e2];exact h.rg d hd
  ·exact e,h.ob,h.cap⟩
 set:=λ{S t} h ht=>⟨λu hu=>by
  have hu:u∈(Th.setD S.T t).2:=hu;unfold Th.setD at hu
  split at hu
  ·obtain⟨y,hy,rfl⟩:=Av.1 hu
   split
   ·exact ht
   ·exact h.rz y hy
  ·exact h.rz u hu,h.n,h.rg,h.ob,h.cap⟩
 rz:=λ{S} h id=>by
  show zn ((Th.findH S.T id).getD Th.thZ);cases e:Th.findH S.T id with
  |none=>exact λ_=>⟨rfl,rfl,rfl⟩
  |some t=>exact h.rz t (Bt e)
 hold:=λh hH=>⟨h.rz,h.n,h.rg,h.ob,h.hd hH⟩
 place:=λ{S} id a b c h=>by
  unfold Ar.placeD
  split
  ·rename_i k hk
   split
   ·exact h
   split
   ·exact h
   ·exact h.ar _ (ZN hk (λo=>Ar.setPl o a b c) (λ_=>rfl) λ_=>rfl)
  ·exact h
 mark:=λ{S} id m h=>by
  unfold Ar.markD'
  split
  ·rename_i k hk
   split
   ·exact h
   split
   ·exact h
   ·exact h.ar _ (ZN hk (λo=>Ar.setMa o m) (λ_=>rfl) λ_=>rfl)
  ·exact h
 unm:=λid h=>pF h id
 one:=λx k z f q h=>pE h x k z f q
end
def zt(l:Ac)(v:Value)(xs:A4):Prop:=
 ∃a cap,v= .slice a xs.length cap/\(0<xs.length-> ∃b off cs t fz,a=some ⟨b,off,none⟩/\(b,Obj.cells cs t fz)∈l/\ ∀i x,xs[i]?=some x->cs[off+i*1]?=some (Be x))
theorem OwnSl.wds{e:Nat}{xs:A4}{cs l:Ac}(h:OwnSl e 1 v xs.length (xs.map Be) cs)(hs: ∀c,c∈cs->c∈l):zt l v xs:=by
 rcases h.2 with⟨rfl,h0,rfl⟩|⟨b,cap,sp,rfl,rfl,_⟩
 ·exact⟨none,0,by rw[h0],λh=>by omega⟩
 ·refine⟨_,cap,rfl,λh0=>⟨b,0,_,e,(0,0),rfl,hs _ Ak,λi x hx=>?_⟩⟩;have C9:=(Ay.1 hx).1;rw[BF,Dr,AE,AH (by simpa using C9),A6,hx];rfl
theorem Vn(v u:Value)(xs:A4)(l:Ac)(h1:zt l v xs)(h2:zt l u xs)(hx:xs.length<=1000000):
 Fn prog 44 [v,u] l λr l'=>r= .bool true/\l'=l:=by
 obtain⟨a,ca,rfl,h1⟩:=h1;obtain⟨a',ca',rfl,h2⟩:=h2;refine AN func44 ntmps44 λE=>?_;refine Aj ?_;refine CN (α:=Nat) (λk=>[(0,.slice a xs.length ca),(1,.slice a' xs.length ca'),(5,.int .i64 k)]) (λk=>l) (λk=>k<=xs.length) (λk=>xs.length-k) 0 (Bp _) ⟨rfl,rfl,rfl,trivial⟩ .refl ?_;rintro k hk;by_cases C9:k<xs.length
 ·obtain⟨b,off,cs,t,fz,rfl,hm,hc⟩:=h1 Af;obtain⟨b',off',cs',t',fz',rfl,dy,hc'⟩:=h2 Af;obtain⟨x,e1⟩: ∃x,xs[k]?=some x:=⟨_,Al C9⟩
  have g1:=hc k x e1;have g2:=hc' k x e1;refine Aj ?_;refine Cm [] 9 _ ?_ (hR:=(λ_ h=>h));refine BM ?_;refine Aj ?_;exact BO (k+1) Af Af ⟨rfl,rfl,rfl,trivial⟩ .refl
 ·obtain rfl:k=xs.length:=by omega
  exact E3
set_option maxRecDepth 100000
def zu(A:Ar.ArT)(id:Int):Bool:=decide ((id-1)/64<A.g ((id-1)%64).toNat)
theorem ZP(h:zu A id=true):Giv A id:=⟨((id-1)%64).toNat,(id-1)/64,Af,ER h,Af⟩
def kdB(A:Ar.ArT)(c:CapT):Bool:=decide (c.kind=0)||decide (c.obj=0)||((A.os.all λo=>!decide (o.id=c.obj)||decide (o.kd=c.kind))&&zu A c.obj)
def t6(F T:Nat)(sh:Bool):Bool:=
 let R:=Lw F T sh
 R.T.all (λt=>t.hs||(!t.wr&&decide (t.va=0)&&decide (t.vl=0)))&&decide (R.A.n<=64)&&R.A.os.all (λo=>!decide (o.id=0)&&zu R.A o.id)&&R.H.1.all (λx=>x.2.all (kdB R.A))
theorem t7:((List.range 4).all λT=>(List.range 65).all λF=>T==0||decide (F<11*T)||(t6 F T false&&t6 F T true))=true:=by decide+kernel
theorem jB{T:Nat}(sh:Bool)(DO:1<=T)(hT:T<=3)(hF:11*T<=F)(Ta:F<=64):GoodK (I4 F C T sh)/\Stl (I4 F C T sh):=by
 have h:=A5.1 (A5.1 t7 T (Dz.2 Af)) F (Dz.2 Af);have h:t6 F T sh=true:=by
  simp only[Es,AV,JL,Bk] at h;rcases h with(h|h)|⟨h1,h2⟩
  ·omega
  ·omega
  ·cases sh
   ·exact h1
   ·exact h2
 unfold t6 at h;simp only[AV,Bk,A5,Es,DU,EF] at h;obtain⟨⟨⟨h1,h2⟩,h3⟩,h4⟩:=h;refine⟨⟨λt ht e=>?_,h2,λc hc=>by rw[El hc];exact .inl ⟨rfl,rfl⟩,λo ho=>⟨(h3 o ho).1,ZP (h3 o ho).2⟩,λc ⟨x,hx,hc⟩ hk h0=>?_⟩,λj hj=>?_⟩
 ·rcases h1 t ht with h|h
  ·rw[h] at e;cases e
  ·exact⟨h.1.1,h.1.2,h.2⟩
 ·have h6:=h4 x hx c hc;unfold kdB at h6;simp only[AV,Bk,A5,Es,DU,EF] at h6;rcases h6 with(h6|h6)|⟨h6,h7⟩
  ·exact absurd h6 hk
  ·exact absurd h6 h0
  ·exact⟨λo ho e=>(h6 o ho).resolve_left λe2=>e2 e,ZP h7⟩
 ·rw[MV];have hj:j<C:=by simpa[I4] using hj
  have e1:(I4 F C T sh).U.getD j 0=0:=by show(replicate C (0:Int)).getD j 0=0;rw[AO,ED,Ad hj];rfl
  have e2:su (I4 F C T sh) 0=0:=by unfold su;split<;>rfl
  have e3:sk (I4 F C T sh) 0=(-1,0):=Ad (.inl rfl);rw[e1,e2,e3];have e4:(I4 F C T sh).U.set j 0=(I4 F C T sh).U:=by
   show(replicate C (0:Int)).set j 0=replicate C 0;apply CI;intro i;rw[EP];simp only[JG,ED]
   split
   ·subst_vars;simp[hj]
   ·rfl
  have e5:cS (I4 F C T sh).K j (-1,0)=(I4 F C T sh).K:=by
   unfold cS
   split
   ·show(replicate C Z0).set j _=replicate C Z0;apply CI;intro i;rw[EP];simp only[JG,ED]
    split
    ·subst_vars;rw[Ad hj];show some {(replicate C Z0).getD _ SI with ro:= -1,sp:=0}=some Z0;rw[AO,ED,Ad hj];rfl
    ·rfl
   ·rfl
  rw[e4,e5]
set_option maxRecDepth 20000
theorem IsWo.mono{m:Nat}{st:List (Int×List Ia)}{l:Ac}(h:IsWo F C k S th st wb l)(hm:m<=k):IsWo F C m S th st wb l:=by obtain⟨b,kb,p,s,vt,vs,ct,cs,rows,cn,hK,r⟩:=h.ex;exact⟨b,kb,p,s,vt,vs,ct,cs,rows,cn,hK.mono hm,r⟩
theorem IsWo.sizes{st:List (Int×List Ia)}{l:Ac}(h:IsWo F C k S th st wb l):S.A.os.length<=900000/\(DM S.H.1).length<=900000/\S.H.2.length<=900000/\S.T.length<=900000/\(tS S.Q).length<=900000/\S.U.length<=900000:=by
 obtain⟨b,kb,p,s,vt,vs,ct,cs,rows,cn,hK,_⟩:=h.ex;obtain⟨m,h1,h2,h3,h4⟩:=hK.small;have h5:=hK.ar.ok.len;have h6:=hK.ho.ulen h2 Af;have h7:=hK.tl;have h8:=hK.ul;have h9:=hK.c1;refine⟨Af,Af,Af,Af,?_,Af⟩;have U7:=Qu.allX_len S.Q 900 (Qu.fallT (Qu.neX S.Q) 0) λp hp=>by have:=hK.ql p ((Qu.fallT_mem _ _ _).1 hp).2.1;omega
 have jR:(Qu.fallT (Qu.neX S.Q) 0).length<=8:=by unfold Qu.fallT;exact BV (C8 _ _) (by simp)
 have kK:=F9 900 jR;unfold tS;omega
theorem dq{x:VwL}{c:Bd}(h:c∈x.co\/c∈x.cc\/c∈x.ct\/c∈x.ch\/c∈x.cr\/c∈x.cq):c∈x.all:=by unfold VwL.all;rcases h with h|h|h|h|h|h<;>simp[h]
theorem pG{sp:Int}(h:¬(KI T sp pg).2=true)(h0:sp≠0): ∀k,k<8->¬((T.w k).sp=sp/\(T.w k).pg=pg):=by
 intro k hk e;apply h;unfold KI
 split
 ·rfl
 ·rename_i hn;have:=Bq.1 hn k (by unfold IL;rw[BY,Dz];exact⟨hk,by simp[e.1,h0]⟩);simp[e.1,e.2] at this
theorem Wr{d:Nat->Int}{i:Nat}(hi:i<8)(h0:x.sp≠0)(h: ∀k,k<8->¬((T.w k).sp=x.sp/\(T.w k).pg=x.pg)):KI ⟨Qu.upd T.w i x,d⟩ x.sp x.pg=(x,true):=by
 have hx: ∀k,(Qu.upd T.w i x k)=if k=i then x else T.w k:=λk=>rfl
 have hf:(IL ⟨Qu.upd T.w i x,d⟩).find? (λk=>decide ((Qu.upd T.w i x k).sp=x.sp)&&decide ((Qu.upd T.w i x k).pg=x.pg))=some i:=by
  cases e:(IL ⟨Qu.upd T.w i x,d⟩).find? (λk=>decide ((Qu.upd T.w i x k).sp=x.sp)&&decide ((Qu.upd T.w i x k).pg=x.pg)) with
  |none=>have:=Bq.1 e i (by unfold IL;rw[BY,Dz];exact⟨hi,by simp only[hx,CS];simp[h0]⟩);simp only[hx,CS] at this;simp at this
  |some k=>
   have h1:=Bt e;have h2:=Et e;unfold IL at h1;rw[BY,Dz] at h1;simp only[AV,Bk,hx] at h2;by_cases hk:k=i
   ·rw[hk]
   ·rw[Ab hk] at h2;exact absurd h2 (h k h1.1)
 unfold KI;rw[hf];try dsimp only
 rw[hx,Ad rfl]
theorem jC(hb:¬Rp x)(hd: ∀s,s<4->T.d s=0\/T.d s=1)(h:¬(KI T x.sp x.pg).2=true):KI (Iv T x).2 x.sp x.pg=(x,true):=by
 have Dw:x.sp≠0:=λe=>hb (.inl Af);have IU:=pG h Dw;have hs:(x.pg%4).toNat<4:=by omega
 unfold Iv;rw[Ab hb]
 split
 ·rename_i k hk;refine Wr ?_ Dw IU;unfold Y7 at hk;try dsimp only at hk
  repeat' split at hk
  all_goals first|(cases hk;done)|(injection hk with hk;omega)
 ·refine Wr ?_ Dw IU;rcases hd _ hs with e|e<;>rw[e]<;>simp<;>omega
theorem t8(W:A4)(a:Int)(l:Bool):(GV W a l).2=0->0<=(GV W a l).1.fr/\(GV W a l).1.fr<64:=by
 have h: ∀w,0<=(Kl w).1.fr/\(Kl w).1.fr<64:=λw=>by
  unfold Kl
  split
  ·unfold bM;dsimp only;omega
  ·exact⟨by decide,by decide⟩
 unfold GV
 split
 ·exact λh=>absurd h AX
 split
 ·exact λh=>absurd h AX
 split
 ·exact λh=>absurd h AX
 split
 ·exact λh=>absurd h AX
 ·exact λ_=>h _
theorem ua{root page:Int}:(KH W root page).2=0->0<=(KH W root page).1.fr/\(KH W root page).1.fr<64:=by
 unfold KH
 split
 ·rename_i h;exact λh2=>absurd h2 h
 ·exact t8 _ _ _
theorem ZQ{W':A4}(hc:(B9 K W n pg).1.2.2=0)(hw:(B9 K W n pg).1.1.wr=true\/(B9 K W n pg).1.1.rd=true)(hr: ∀c,c∈K->KJ c.ro c.sp)(hd: ∀c,c∈K-> ∀s,s<4->c.tb.d s=0\/c.tb.d s=1):
 B9 (B9 K W n pg).2 W' n pg=(((B9 K W n pg).1.1,true,0),(B9 K W n pg).2):=by
 by_cases h1:JD K n=0
 case neg=>unfold B9 at hc;rw[Ad h1] at hc;exact absurd (show(3:Int)=0 from hc) AX
 by_cases h2:pg<0\/pg>=512
 case pos=>unfold B9 at hc;rw[Ab (by simpa using h1),Ad h2] at hc;exact absurd (show(3:Int)=0 from hc) AX
 by_cases h3:(K5 K n).ro<0
 case pos=>unfold B9 at hc;rw[Ab (by simpa using h1),Ab h2,Ad h3] at hc;exact absurd (show(19:Int)=0 from hc) AX
 by_cases h4:(KI (K5 K n).tb (K5 K n).sp pg).2=true
 ·have e:B9 K W n pg=(((KI (K5 K n).tb (K5 K n).sp pg).1,true,0),K):=by unfold B9;rw[Ab (by simpa using h1),Ab h2,Ab h3,Ad h4]
  have e':B9 K W' n pg=(((KI (K5 K n).tb (K5 K n).sp pg).1,true,0),K):=by unfold B9;rw[Ab (by simpa using h1),Ab h2,Ab h3,Ad h4]
  rw[e];exact e'
 by_cases h5:(KH W (K5 K n).ro pg).2=0
 case neg=>unfold B9 at hc;rw[Ab (by simpa using h1),Ab h2,Ab h3,Ab h4,Ad h5] at hc;exact absurd hc h5
 have e:B9 K W n pg=((xR W (K5 K n) pg,false,0),K.set n.toNat {K5 K n with tb:=(Iv (K5 K n).tb (xR W (K5 K n) pg)).2}):=by unfold B9;rw[Ab (by simpa using h1),Ab h2,Ab h3,Ab h4,Ab (by simpa using h5)]
 have hn:n.toNat<K.length:=by
  by_cases h6:n<0\/n>=K.length
  ·rw[show JD K n=3 from Ad h6] at h1;cases h1
  ·omega
 have hm:K5 K n∈K:=by show K.getD n.toNat SI∈K;rw[AO,Al hn];exact GB hn
 rw[e] at hw⊢;try dsimp only at hw⊢
 obtain⟨x,hx⟩: ∃x,xR W (K5 K n) pg=x:=⟨_,rfl⟩
 have PG:x.sp=(K5 K n).sp:=by rw[<-hx];rfl
 have ug:x.pg=pg:=by rw[<-hx];rfl
 have hxf:=ua h5;have hb:¬Rp x:=by
  have h6:=hr _ hm;have h7:0<=x.fr/\x.fr<64:=by rw[<-hx];exact hxf
  rw[hx] at hw;unfold KJ at h6;unfold Rp;rw[PG,ug];rintro(h|h|h|h|h|⟨h,h'⟩)
  ·omega
  ·omega
  ·omega
  ·omega
  ·omega
  ·rw[h,h'] at hw;simp at hw
 rw[hx];have hff:=jC hb (hd _ hm) (by rw[PG,ug];exact h4);have hg:K5 (K.set n.toNat {K5 K n with tb:=(Iv (K5 K n).tb x).2}) n={K5 K n with tb:=(Iv (K5 K n).tb x).2}:=by show(K.set n.toNat _).getD n.toNat SI=_;rw[AO,CD hn];rfl
 have hco: ∀c,JD (K.set n.toNat c) n=JD K n:=λc=>by unfold JD;rw[Ce]
 rw[PG,ug] at hff;unfold B9;rw[hg,hco];try dsimp only
 rw[Ab (by simpa using h1),Ab h2,Ab h3,hff];rfl
theorem Stl.su{S:KT}(h:Stl S){j:Nat}(hj:j<S.U.length):su S (S.U.getD j 0)=S.U.getD j 0:=by have h1:=h j hj;rw[MV] at h1;have h2:S.U.set j (Go.Proofs.YtlifcingifodfaaGreat.su S (S.U.getD j 0))=S.U:=BI KT.U h1;have h3:(S.U.set j (Go.Proofs.YtlifcingifodfaaGreat.su S (S.U.getD j 0))).getD j 0=S.U.getD j 0:=BI (λU:A4=>U.getD j 0) h2;rw[AO,CD hj] at h3;exact h3
theorem Stl.cs(h:Stl S)(hj:j<S.U.length):cS S.K j (sk S (S.U.getD j 0))=S.K:=by have h1:=h j hj;rw[MV,h.su hj] at h1;exact BI KT.K h1
theorem ZR(U:A4)(j:Nat):U.set j (U.getD j 0)=U:=by
 apply CI;intro i;rw[EP]
 split
 ·subst_vars
  split
  ·rename_i h;rw[AO,Al h];rfl
  ·rename_i h;rw[Bg Af]
 ·rfl
abbrev R4(S:KT)(K:List HX)(W:A4):KT:={S with K:=K,W:=W}
theorem Stl.kw(h:Stl S)(K:List HX)(W:A4): ∃K',Js (R4 S K W)=R4 S K' W:=by
 have g: ∀(l:List Nat) (K:List HX),(∀j,j∈l->j<S.U.length)-> ∃K',l.foldl Fu (R4 S K W)=R4 S K' W:=λl=>by
  induction l with
  |nil=>exact λK _=>⟨K,rfl⟩
  |cons j l ih=>
   intro K hl;have hj:=hl j Ak;have e:Fu (R4 S K W) j=R4 S (cS K j (sk S (S.U.getD j 0))) W:=by rw[MV];show({S with U:=S.U.set j (Go.Proofs.YtlifcingifodfaaGreat.su S (S.U.getD j 0)),K:=cS K j (sk S (Go.Proofs.YtlifcingifodfaaGreat.su S (S.U.getD j 0))),W:=W}:KT)=_;rw[h.su hj,ZR]
   rw[D6,e];exact ih _ λi hi=>hl i (An _ hi)
 exact g _ K λj hj=>Dz.1 hj
def RgE(K K':List HX):Prop:=K'.length=K.length/\ ∀j,j<K.length->(K'.getD j SI).ro=(K.getD j SI).ro/\(K'.getD j SI).sp=(K.getD j SI).sp
theorem AcH{K':List HX}(h:RgE K K'){q:Int×Int}(hc:cS K j q=K):cS K' j q=K':=by
 unfold cS at hc⊢
 split
 ·rename_i h1;rw[h.1] at h1;rw[Ad h1] at hc;have h2:=BI (λK:List HX=>K.getD j SI) hc;try dsimp only at h2
  rw[AO,CD h1.1] at h2;have h3:=h.2 j h1.1;have e1:(K.getD j SI).ro=q.1:=by rw[<-h2];rfl
  have e2:(K.getD j SI).sp=q.2:=by rw[<-h2];rfl
  rw[e1,e2] at h3;obtain⟨c,hcc⟩: ∃c,K'.getD j SI=c:=⟨_,rfl⟩
  rw[hcc] at h3⊢;rw[show({c with ro:=q.1,sp:=q.2}:HX)=c by rw[<-h3.1,<-h3.2]];apply CI;intro i;rw[EP]
  split
  ·subst_vars;rw[Ad (by rw[h.1];exact h1.1),AO];rw[Al (by rw[h.1];exact h1.1)];rfl
  ·rfl
 ·rfl
theorem Stl.rg(h:Stl S)(hK:RgE S.K K)(W:A4):Js (R4 S K W)=R4 S K W:=by
 have g:Stl (R4 S K W):=λj hj=>by rw[MV];show({S with U:=S.U.set j (Go.Proofs.YtlifcingifodfaaGreat.su S (S.U.getD j 0)),K:=cS K j (sk S (Go.Proofs.YtlifcingifodfaaGreat.su S (S.U.getD j 0))),W:=W}:KT)=_;rw[h.su hj,ZR,AcH hK (h.cs hj)]
 exact g.eq
theorem pH(K:List HX)(W:A4)(n pg:Int):RgE K (B9 K W n pg).2:=by
 have r:RgE K K:=⟨rfl,λ_ _=>⟨rfl,rfl⟩⟩
 unfold B9
 split
 ·exact r
 split
 ·exact r
 split
 ·exact r
 split
 ·exact r
 split
 ·exact r
 ·refine⟨Ce ..,λj hj=>?_⟩;rw[AO,EP]
  split
  ·subst_vars;rw[Ad hj];exact⟨rfl,rfl⟩
  ·rw[<-AO];exact⟨rfl,rfl⟩
theorem Ws(hT:S.T.Pairwise λx y=>x.id<y.id){t:Th.ThT}(ht:t∈S.T):(Th.setD S.T t).2=S.T:=by
 have hu: ∀x,x∈S.T->x.id=t.id->x=t:=λx hx e=>by
  obtain⟨i,hi,rfl⟩:=Ig hx;obtain⟨j,hj,rfl⟩:=Ig ht;have hp:=FT.1 hT;rcases Nat.lt_trichotomy i j with h|h|h
  ·have:=hp i j hi hj h;omega
  ·subst h;rfl
  ·have:=hp j i hj hi h;omega
 unfold Th.setD
 split
 ·unfold Th.putH
  conv=>rhs;rw[<-List.map_id S.T]
  apply By;intro x hx
  split
  ·rename_i h;exact(hu x hx h).symm
  ·rfl
 ·rfl
theorem pI(hT:S.T.Pairwise λx y=>x.id<y.id)(hz: ∀t,t∈S.T->zn t)(hk:e.kd=3\/e.kd=4)(hh:(Dq S (Ee S.U e.co)).hs=false){n:Ia}(h0:(Jw S e).1.2=0)(hn:(Jw S e).1.1=n::r)(hc:n.co=0):
 ∃x:P5,x=(⟨false,decide (e.kd=4),e.va,if e.kd=4 then e.vl else 0⟩:P5)/\¬(e.co<0\/(S.K.length:Int)<=e.co)/\(IN S e.co).2=0/\(IN S e.co).1=Dq S (Ee S.U e.co)/\MY S (Ee S.U e.co)=true/\(Mq S e.co x).1.2=0/\(Jw S e).2=Js (DD (Mq S e.co x).2 (Dq S (Ee S.U e.co))):=by
 refine⟨_,rfl,?_⟩;have hd:doA S e=HN S e:=by unfold doA;rw[Ab Af,Ad Af]
 have jK:(HN S e).1.2=0:=by rw[<-hd];exact h0
 have UU:(HN S e).1.1=n::r:=by rw[<-hd];exact hn
 have h2:(Jw S e).2=Js (HN S e).2:=by show(if(doA S e).1.2=0 then Js (doA S e).2 else(doA S e).2)=_;rw[hd,Ad jK]
 rw[h2];by_cases g1:e.co<0\/(S.K.length:Int)<=e.co
 ·unfold HN at jK;rw[Ad g1] at jK;exact absurd (show(3:Int)=0 from jK) AX
 by_cases g2:MY S (Ee S.U e.co)=false
 ·unfold HN at jK;rw[Ab g1,Ad g2] at jK;exact absurd (show(19:Int)=0 from jK) AX
 obtain⟨x,hx⟩: ∃x:P5,x=⟨false,decide (e.kd=4),e.va,if e.kd=4 then e.vl else 0⟩:=⟨_,rfl⟩
 have hs:HN S e=Mr S e.co x:=by
  unfold HN;rw[Ab g1,Ab g2,Ab (by rw[hh];simp)];rcases hk with hk|hk
  ·rw[Ad hk,hx,Aw Af,Ab Af]
  ·rw[Ab Af,Ad hk,hx,Au hk,Ad hk]
 rw[hs] at jK UU⊢;rw[<-hx];by_cases g3:(IN S e.co).2=0
 case neg=>unfold Mr at jK;rw[Ad g3] at jK;exact absurd jK g3
 have hf:Mr S e.co x=(((doR S e.co x (IN S e.co).1).1,0),(doR S e.co x (IN S e.co).1).2):=by unfold Mr;rw[Ab (by simpa using g3)]
 rw[hf] at UU⊢;try dsimp only at UU⊢
 have hw:(IN S e.co).1=Dq S (Ee S.U e.co):=by
  unfold IN at g3⊢
  split
  ·rename_i g;rw[Ad g] at g3;exact absurd g3 AX
  split
  ·rename_i g g';rw[Ab g,Ad g'] at g3;exact absurd g3 AX
  ·rfl
 have g2:MY S (Ee S.U e.co)=true:=by
  cases h:MY S (Ee S.U e.co) with
  |true=>rfl
  |false=>exact absurd h g2
 rw[hw] at UU⊢;by_cases g4:(Mq S e.co x).1.2=0
 case neg=>
  unfold doR at UU;rw[Ad g4] at UU;try dsimp only at UU
  unfold Ly at UU
  split at UU
  ·injection UU with e1 _;rw[<-e1] at hc;exact absurd (show(6:Int)=0 from hc) AX
  ·injection UU with e1 _;rw[<-e1] at hc;exact absurd (show(6:Int)=0 from hc) AX
 refine⟨g1,g3,rfl,g2,g4,?_⟩;unfold doR;rw[Ab (by simpa using g4)];try dsimp only
 obtain⟨t,ht⟩: ∃t,Dq S (Ee S.U e.co)=t:=⟨_,rfl⟩
 rw[ht] at hh⊢;have hm:t∈S.T:=by
  rw[<-ht];show(Th.findH S.T (Ee S.U e.co)).getD Th.thZ∈S.T;cases e2:Th.findH S.T (Ee S.U e.co) with
  |none=>rw[show MY S (Ee S.U e.co)=(Th.findH S.T (Ee S.U e.co)).isSome from rfl,e2] at g2;cases g2
  |some u=>exact Bt e2
 obtain⟨z1,z2,z3⟩:=hz t hm hh;have er:NC t cT=t:=by show({t with hs:=false,wr:=false,va:=0,vl:=0}:Th.ThT)=t;cases t;simp only at hh z1 z2 z3;subst hh z1 z2 z3;rfl
 rw[er]
theorem pJ(hT:S.T.Pairwise λx y=>x.id<y.id)(hg:GoodK S)(hs:Stl S)(hk:e.kd=3)(hh:(Dq S (Ee S.U e.co)).hs=false){n:Ia}(h0:(Jw S e).1.2=0)(hn:(Jw S e).1.1=n::r)(hc:n.co=0):
 ∃K,(Jw S e).2={S with K:=K}:=by
 obtain⟨x,hx,g1,g2,g3,g4,g5,g6⟩:=pI hT hg.rz (.inl hk) hh h0 hn hc;have ZX:¬x.wr=true:=by rw[hx,Aw Af];simp
 have e1:(Mq S e.co x).2=(findA S e.co x.va false).2:=by
  unfold Mq;rw[Ab ZX];unfold cE
  repeat' split
  all_goals rfl
 have e2: ∃K,(findA S e.co x.va false).2=R4 S K S.W:=by
  unfold findA
  repeat' split
  all_goals exact⟨_,rfl⟩
 obtain⟨K,e2⟩:=e2;rw[g6,e1,e2];have hm:Dq S (Ee S.U e.co)∈S.T:=by
  show(Th.findH S.T (Ee S.U e.co)).getD Th.thZ∈S.T;cases e3:Th.findH S.T (Ee S.U e.co) with
  |none=>rw[show MY S (Ee S.U e.co)=(Th.findH S.T (Ee S.U e.co)).isSome from rfl,e3] at g4;cases g4
  |some u=>exact Bt e3
 have e4:DD (R4 S K S.W) (Dq S (Ee S.U e.co))=R4 S K S.W:=by show({S with K:=K,T:=(Th.setD S.T (Dq S (Ee S.U e.co))).2}:KT)=_;rw[Ws hT hm]
 rw[e4];obtain⟨K',e5⟩:=hs.kw K S.W;exact⟨K',e5⟩
theorem jD(hT:S.T.Pairwise λx y=>x.id<y.id)(hg:GoodK S)(hs:Stl S)(hd: ∀c,c∈S.K-> ∀s,s<4->c.tb.d s=0\/c.tb.d s=1)(hW:0<S.W.length)(hk:e.kd=4)(hh:(Dq S (Ee S.U e.co)).hs=false){n:Ia}(h0:(Jw S e).1.2=0)(hn:(Jw S e).1.1=n::r)(hc:n.co=0)(e':ND)(qv:e'.kd=3)(hco:e'.co=e.co)(uL:e'.va=e.va):
 ∃n' r',(Jw (Jw S e).2 e').1.1=n'::r'/\((n'.co=0/\n'.va=e.vl)\/(n'.co≠0/\n'.fk=5)):=by
 obtain⟨x,hx,g1,g2,g3,g4,g5,g6⟩:=pI hT hg.rz (.inr hk) hh h0 hn hc;have ZX:x.wr=true:=by rw[hx];exact Au hk
 have Aew:x.va=e.va:=by rw[hx]
 have Aex:x.vl=e.vl:=by rw[hx];exact Ad hk
 have gC:Mq S e.co x=((0,(Z5 S e.co x.va x.vl).1),(Z5 S e.co x.va x.vl).2):=by unfold Mq;rw[Ad ZX]
 rw[gC] at g5 g6;try dsimp only at g5 g6
 rw[Aew,Aex] at g5 g6;have f1:(findA S e.co e.va true).1.2=0:=by
  by_cases h:(findA S e.co e.va true).1.2=0
  ·exact h
  ·unfold Z5 at g5;rw[Ad h] at g5;exact absurd g5 h
 have hsd:Z5 S e.co e.va e.vl=(if(V9 (findA S e.co e.va true).2.W (findA S e.co e.va true).1.1 e.vl).1=0 then 0 else 4,{(findA S e.co e.va true).2 with W:=(V9 (findA S e.co e.va true).2.W (findA S e.co e.va true).1.1 e.vl).2}):=by unfold Z5;rw[Ab (by simpa using f1)]
 rw[hsd] at g5 g6;try dsimp only at g5 g6
 have f2:(V9 (findA S e.co e.va true).2.W (findA S e.co e.va true).1.1 e.vl).1=0:=by
  by_cases h:(V9 (findA S e.co e.va true).2.W (findA S e.co e.va true).1.1 e.vl).1=0
  ·exact h
  ·rw[Ab h] at g5;exact absurd g5 AX
 have a1:¬32768<=e.va.toNat:=λh=>by unfold findA at f1;rw[Ad h] at f1;exact absurd (show(1:Int)=0 from f1) AX
 have a2:e.va%8=0:=by
  by_cases h:e.va%8=0
  ·exact h
  ·unfold findA at f1;rw[Ab a1,Ad h] at f1;exact absurd (show(2:Int)=0 from f1) AX
 have a3:¬(¬(Km S.K e.co).2.2=0\/(Km S.K e.co).1<0):=λh=>by unfold findA at f1;rw[Ab a1,Ab (by simpa using a2),Ad h] at f1;exact absurd (show(3:Int)=0 from f1) AX
 have a4:(B9 S.K S.W e.co (E4 e.va).1).1.2.2=0:=by
  by_cases h:(B9 S.K S.W e.co (E4 e.va).1).1.2.2=0
  ·exact h
  ·unfold findA at f1;rw[Ab a1,Ab (by simpa using a2),Ab a3,Ad h] at f1;exact absurd (show(4:Int)=0 from f1) AX
 have a5:¬((true=true/\(B9 S.K S.W e.co (E4 e.va).1).1.1.wr=false)\/(true=false/\(B9 S.K S.W e.co (E4 e.va).1).1.1.rd=false)):=λh=>by unfold findA at f1;rw[Ab a1,Ab (by simpa using a2),Ab a3,Ab (by simpa using a4),Ad h] at f1;exact absurd (show(5:Int)=0 from f1) AX
 have hfa:findA S e.co e.va true=((frA (B9 S.K S.W e.co (E4 e.va).1).1.1 e.va,0),{S with K:=(B9 S.K S.W e.co (E4 e.va).1).2}):=by unfold findA;rw[Ab a1,Ab (by simpa using a2),Ab a3,Ab (by simpa using a4),Ab a5]
 have a6:(B9 S.K S.W e.co (E4 e.va).1).1.1.wr=true:=by
  cases h:(B9 S.K S.W e.co (E4 e.va).1).1.1.wr with
  |true=>rfl
  |false=>exact absurd (.inl ⟨rfl,h⟩) a5
 have dt:=λW'=>ZQ (W':=W') a4 (.inl a6) hg.rg hd;have ZZ:=pH S.K S.W e.co (E4 e.va).1;rw[hfa] at f2 g6;try dsimp only at f2 g6
 obtain⟨⟨⟨y,bb,cc⟩,K1⟩,hR⟩: ∃R,B9 S.K S.W e.co (E4 e.va).1=R:=⟨_,rfl⟩
 rw[hR] at f2 g6 dt ZZ a6;try dsimp only at f2 g6 dt ZZ a6
 obtain⟨ad,had⟩: ∃ad,frA y e.va=ad:=⟨_,rfl⟩
 rw[had] at f2 g6;have b1:KG S.W ad=0:=by
  by_cases h:KG S.W ad=0
  ·exact h
  ·unfold V9 at f2;rw[Ab h] at f2;exact absurd f2 h
 have b2:(V9 S.W ad e.vl).2=S.W.set (ad/8).toNat e.vl:=by unfold V9;rw[Ad b1]
 rw[b2] at g6;have hm:Dq S (Ee S.U e.co)∈S.T:=by
  show(Th.findH S.T (Ee S.U e.co)).getD Th.thZ∈S.T;cases e3:Th.findH S.T (Ee S.U e.co) with
  |none=>rw[show MY S (Ee S.U e.co)=(Th.findH S.T (Ee S.U e.co)).isSome from rfl,e3] at g4;cases g4
  |some u=>exact Bt e3
 obtain⟨W1,ZU⟩: ∃W1,S.W.set (ad/8).toNat e.vl=W1:=⟨_,rfl⟩
 rw[ZU] at g6;have e4:DD (R4 S K1 W1) (Dq S (Ee S.U e.co))=R4 S K1 W1:=by show({S with K:=K1,W:=W1,T:=(Th.setD S.T (Dq S (Ee S.U e.co))).2}:KT)=_;rw[Ws hT hm]
 have g6:(Jw S e).2=Js (DD (R4 S K1 W1) (Dq S (Ee S.U e.co))):=g6;rw[e4,hs.rg ZZ W1] at g6;rw[g6];have K3:HN (R4 S K1 W1) e'=Mr (R4 S K1 W1) e.co ⟨false,false,e.va,0⟩:=by unfold HN;rw[hco,uL];show(if e.co<0\/(K1.length:Int)<=e.co then _ else if MY S (Ee S.U e.co)=false then _ else if(Dq S (Ee S.U e.co)).hs=true then _ else _)=_;rw[ZZ.1,Ab g1,Ab (by rw[g4];simp),Ab (by rw[hh];simp),Ad qv]
 have Aey:IN (R4 S K1 W1) e.co=IN S e.co:=by unfold IN;show(if e.co<0\/e.co>=(K1.length:Int) then _ else _)=_;rw[ZZ.1]
 have qL:(Jw (R4 S K1 W1) e').1.1=(doR (R4 S K1 W1) e.co ⟨false,false,e.va,0⟩ (IN S e.co).1).1:=by show(doA (R4 S K1 W1) e').1.1=_;unfold doA;rw[Ab Af,Ad Af,K3];unfold Mr;rw[Aey,Ab (by simpa using g2)]
 rw[qL];have Aez:Km K1 e.co=Km S.K e.co:=by
  have e1:JD K1 e.co=JD S.K e.co:=by unfold JD;rw[ZZ.1]
  have e2:JD S.K e.co=0:=Ab Af;have:=ZZ.2 e.co.toNat Af;unfold Km;rw[e1,e2];show((K1.getD e.co.toNat SI).ro,(K1.getD e.co.toNat SI).sp,(0:Int))=((S.K.getD e.co.toNat SI).ro,(S.K.getD e.co.toNat SI).sp,0)
  rw[this.1,this.2]
 have uK:findA (R4 S K1 W1) e.co e.va false=if y.rd=false then((0,5),R4 S K1 W1) else((ad,0),R4 S K1 W1):=by
  unfold findA;show(if 32768<=e.va.toNat then _ else if ¬e.va%8=0 then _ else if ¬(Km K1 e.co).2.2=0\/(Km K1 e.co).1<0 then _ else if ¬(B9 K1 W1 e.co (E4 e.va).1).1.2.2=0 then _ else _)=_;rw[Ab a1,Ab (by simpa using a2),Aez,Ab a3,dt W1,Ab (by simp)];show(if(false=true/\y.wr=false)\/(false=false/\y.rd=false) then _ else _)=_;by_cases qp:y.rd=false
  ·rw[Ad (.inr ⟨rfl,qp⟩),Ad qp]
  ·rw[Ab (by simp[qp]),Ab qp,had]
 have uy:Mq (R4 S K1 W1) e.co ⟨false,false,e.va,0⟩=cE (R4 S K1 W1) e.co e.va:=by unfold Mq;rw[Ab (by simp)]
 unfold doR;rw[uy];unfold cE;rw[uK];by_cases qp:y.rd=false
 ·rw[Ad qp];try dsimp only
  rw[Ad (show ¬(5:Int)=0 by decide)];try dsimp only
  rw[Ad (show ¬(5:Int)=0 by decide)];try dsimp only
  unfold Ly
  split
  ·exact⟨_,_,rfl,.inr ⟨(by decide:(6:Int)≠0),rfl⟩⟩
  ·exact⟨_,_,rfl,.inr ⟨(by decide:(6:Int)≠0),rfl⟩⟩
 ·rw[Ab qp];try dsimp only
  have b3:KG W1 ad=0:=by rw[<-ZU];unfold KG at b1⊢;rw[Ce];exact b1
  have b4:N1 W1 ad=(e.vl,0):=by
   unfold N1;rw[Ad b3,<-ZU];have C9:(ad/8).toNat<S.W.length:=by
    unfold KG at b1
    split at b1
    ·exact absurd b1 AX
    split at b1
    ·exact absurd b1 AX
    ·omega
   rw[AO,CD C9];rfl
  rw[Ab (show ¬¬(0:Int)=0 by decide),b4];try dsimp only
  rw[Ab (show ¬¬(0:Int)=0 by decide)];try dsimp only
  rw[Ab (show ¬¬(0:Int)=0 by decide)];exact⟨_,_,rfl,.inl ⟨rfl,rfl⟩⟩
theorem ZS{cs:Array Value}{a:Nat}{xs:Ap}(h:a+k<=cs.size)(e:cs.extract a (a+k)=toArray xs)(hj:xs[j]?=some v)(hk:j<k):cs[a+j]?=some v:=by have h1:(cs.extract a (a+k))[j]?=(toArray xs)[j]?:=BI (λA:Array Value=>A[j]?) e;rw[ES,Ad Af] at h1;exact h1.trans (by simpa using hj)
theorem R5(c:Ap)(vh:Value)(ts:List Th.ThT)(id:Int)(l:Ac)(hc:(toArray c)[3]?=some vh)(hv:RowSl l vh 24 Th.encH ts)(hn:ts.length<=1000000):Fn prog 27 [.agg (toArray c),.int .i64 id] l λv l'=>v= .agg (toArray (Th.encH ((Th.findH ts id).getD Th.thZ)))/\l'=l:=by
 obtain⟨a,cap,rfl,hr⟩:=hv;refine AN func27 ntmps27 λE=>?_;refine Aj ?_;refine AS (CH rfl) ?_;rintro _ _ ⟨b2,_,rfl,rfl⟩;refine AQ λb4=>?_;refine CN (α:=Nat) (λk=>[(1,.int .i64 id),(2,pV b2),(4,pV b4),(5,.int .i64 k)]) (λk=>Th.thC b4 Th.thZ::Vm b2 c::l) (λk=>k<=ts.length/\ ∀t,t∈ts.take k->¬t.id=id) (λk=>ts.length-k) 0 ⟨Bp _,λt h=>by simp at h⟩ ⟨rfl,rfl,rfl,rfl,trivial⟩ .refl ?_;rintro k ⟨hk,IU⟩;by_cases C9:k<ts.length
 ·obtain⟨t,e1⟩: ∃t,ts[k]?=some t:=⟨_,Al C9⟩
  obtain⟨b,off,cs,ty,fz,rfl,hm,LD⟩:=hr Af;obtain⟨g1,g2⟩:=LD k t e1;have g3:cs[off+k*24+0]?=some (iV t.id):=ZS g1 g2 rfl AX;have dy:(b,Obj.cells cs ty fz)∈Th.thC b4 Th.thZ::Vm b2 c::l:= .tail _ (.tail _ hm);refine Aj ?_;refine Bh (DS (v:=iV t.id) rfl dy g3) ?_;by_cases he:t.id=id
  ·have hf:Th.findH ts id=some t:=by
    obtain⟨hl,hx⟩:=Ay.1 e1;refine JQ.2 ⟨by simpa using he,k,hl,hx,λj hj=>?_⟩;have:=IU ts[j] (List.mem_take_iff_getElem.2 ⟨j,Af,rfl⟩);simpa using this
   rw[hf];refine Aj ?_;refine Bh (Dt rfl dy g1 g2) ?_;refine Aj ?_;exact AU [] _ rfl .refl (Cq rfl (.head _) (As.LSub.of_all (n:=24) (Th.encH t) rfl) (by exact Ba)) (.drop (.drop .refl)) ⟨rfl,rfl⟩
  ·refine Aj ?_;exact BO (k+1) ⟨Af,λx hx=>by
    rw[Ch,e1,AF] at hx;rcases hx with hx|hx
    ·exact IU x hx
    ·simp at hx;rw[hx];exact he⟩ Af ⟨rfl,rfl,rfl,rfl,trivial⟩ .refl
 ·obtain rfl:k=ts.length:=by omega
  have hf:Th.findH ts id=none:=Bq.2 λx hx=>by simpa using IU x (by rw[D8];exact hx)
  rw[hf];refine Aj ?_;exact AU [] _ rfl .refl (Cq rfl (.head _) (As.LSub.of_all (n:=24) (Th.encH Th.thZ) rfl) (by exact Ba)) (.drop (.drop .refl)) ⟨rfl,rfl⟩
theorem pK(c:Ap)(vr:Value)(U:A4)(co:Int)(l:Ac)(hc:(toArray c)[84]?=some vr)(hv:RF l vr U)(hn:U.length<=1000000):Fn prog 31 [.agg (toArray c),.int .i64 co] l λv l'=>v=iV (Ee U co)/\l'=l:=by
 obtain⟨a,cap,rfl,hr⟩:=hv;refine AN func31 ntmps31 λE=>?_;refine Aj ?_;refine AS (CH rfl) ?_;rintro _ _ ⟨b2,_,rfl,rfl⟩;by_cases h1:co<0
 ·refine Aj ?_;refine Bb (.drop .refl) ?_;exact⟨by unfold Ee;rw[Ad (.inl h1)];rfl,rfl⟩
 by_cases h2:co>=U.length
 ·refine Aj ?_;refine Bb (.drop .refl) ?_;exact⟨by unfold Ee;rw[Ad (.inr h2)];rfl,rfl⟩
 obtain⟨i,rfl⟩: ∃i:Nat,co=i:=⟨co.toNat,Af⟩
 obtain⟨x,e1⟩: ∃x,U[i]?=some x:=⟨_,Al Af⟩
 obtain⟨b,off,cs,ty,fz,rfl,hm,LD⟩:=hr Af;have g1:=LD i x e1;have dy:(b,Obj.cells cs ty fz)∈Vm b2 c::l:= .tail _ hm;have hx:Ee U i=x:=by unfold Ee;rw[Ab Af,A0,AO,e1];rfl
 rw[hx];exact E3
def Vo(S:KT)(e:ND):Int×P5×Bool:=
 if Ee S.U e.co=0\/(¬e.kd=2/\¬e.kd=3/\¬e.kd=4) then(0,cT,false)
 else if(Dq S (Ee S.U e.co)).hs=true then(Ee S.U e.co,⟨true,(Dq S (Ee S.U e.co)).wr,(Dq S (Ee S.U e.co)).va,(Dq S (Ee S.U e.co)).vl⟩,true)
 else(Ee S.U e.co,⟨false,decide (e.kd=4),e.va,e.vl⟩,!decide (e.kd=2))
abbrev pL(B:Nat)(x:P5):Bd:=(B,.cells (toArray (jZ x)) 77 (0,0))
theorem dr(x:VwL)(hx:IsVwK C S x)(z4:S.T.length<=900000)(z6:S.U.length<=900000)(e:ND)(l:Ac)(qM: ∀c,(c∈x.co\/c∈x.cc\/c∈x.ct\/c∈x.ch\/c∈x.cr\/c∈x.cq)->c∈l):
 Fn prog 46 [.agg (toArray (N3 x.vo x.vc x.vt x.vh S.N x.vr x.vq)),NW e] l λv l'=>v= .tuple #[iV (Vo S e).1,.agg (toArray (jZ (Vo S e).2.1)),.bool (Vo S e).2.2]/\l'=l:=by
 have g84:=(ph x.vo x.vc x.vt x.vh S.N x.vr x.vq).1;have g3:(toArray (N3 x.vo x.vc x.vt x.vh S.N x.vr x.vq))[3]?=some x.vh:=rfl;have X6:(N3 x.vo x.vc x.vt x.vh S.N x.vr x.vq).length=86:=by simp[Gj]
 obtain⟨c,hc⟩: ∃c,N3 x.vo x.vc x.vt x.vh S.N x.vr x.vq=c:=⟨_,rfl⟩
 rw[hc] at g84 g3 X6⊢;refine AN func46 ntmps46 λE=>?_;refine Aj ?_;refine AS (CH rfl) ?_;rintro _ _ ⟨b2,_,rfl,rfl⟩;refine AS (CH rfl) ?_;rintro _ _ ⟨b3,_,rfl,rfl⟩;refine AQ λb5=>?_;have wo: ∀(l2:Ac) (P:Ac),(∀c,c∈P++l->c∈l2)-> ∀c,c∈l->c∈l2:=λl2 P h c hc=>h c (Aa _ hc);refine Bh (Ge rfl (.tail _ (.tail _ (.head _))) (As.LSub.of_all (n:=86) c X6)) ?_;refine Aj ?_;refine Bh (AL (vs:=[.agg (toArray c),.int .i64 e.co]) rfl rfl λl2 hl=>pK c x.vr S.U e.co l2 g84 (hx.r.intsC hx.l λd hd=>wo l2 [_,_,_] hl d (qM d (.inr (.inr (.inr (.inr (.inl hd))))))) Af) ?_;have uk: ∀(l2:Ac),(∀(d:Bd),d∈(b5,Obj.cells (toArray (jZ cT)) 77 (0,0))::(b3,Obj.cells (toArray (Xv e)) 39 (0,0))::(b2,Obj.cells (toArray c) 52 (0,0))::l->d∈l2)-> ∀(d:Bd),d∈l->d∈l2:=λl2 h=>wo l2 [_,_,_] h;obtain⟨t,ht⟩: ∃t,Ee S.U e.co=t:=⟨_,rfl⟩
 rw[ht];by_cases h0:t=0
 ·have ha:Vo S e=(0,cT,false):=Ad (.inl (ht.trans h0));rw[ha];refine Aj ?_;exact AU (vs:=[iV 0,.agg (toArray (jZ cT)),.bool false]) [] _ rfl .refl (.tmp rfl (Cq rfl (.head _) (As.LSub.of_all (n:=4) (jZ cT) rfl) (by exact Ba))) (.drop (.drop (.drop .refl))) ⟨rfl,rfl⟩
 by_cases hk:e.kd=2\/e.kd=3\/e.kd=4
 case neg=>
  have ha:Vo S e=(0,cT,false):=Ad (.inr Af);rw[ha];have k2:¬e.kd=2:=by omega
  have k3:¬e.kd=3:=by omega
  have k4:¬e.kd=4:=by omega
  refine Aj ?_;exact AU (vs:=[iV 0,.agg (toArray (jZ cT)),.bool false]) [] _ rfl .refl (.tmp rfl (Cq rfl (.head _) (As.LSub.of_all (n:=4) (jZ cT) rfl) (by exact Ba))) (.drop (.drop (.drop .refl))) ⟨rfl,rfl⟩
 have jL:=λ(l2:Ac) (hl: ∀d,d∈l->d∈l2)=>R5 c x.vh S.T t l2 g3 (OwnSl.rowSl hx.h (λ_=>rfl) λd hd=>hl d (qM d (.inr (.inr (.inr (.inl hd)))))) Af;obtain⟨u,hu⟩: ∃u,(Th.findH S.T t).getD Th.thZ=u:=⟨_,rfl⟩
 rw[hu] at jL;have ha:Vo S e=if u.hs=true then(t,⟨true,u.wr,u.va,u.vl⟩,true) else(t,⟨false,decide (e.kd=4),e.va,e.vl⟩,!decide (e.kd=2)):=by have hu':Dq S t=u:=hu;unfold Vo;rw[ht,Ab Af,hu']
 rcases hk with hk|hk|hk;all_goals
  refine Aj ?_;refine Bh (Ge rfl (.tail _ (.tail _ (.head _))) (As.LSub.of_all (n:=86) c X6)) ?_;refine Aj ?_;refine Bh (AL (vs:=[.agg (toArray c),.int .i64 t]) rfl rfl λl2 hl=>jL l2 (uk l2 hl)) ?_;refine AQ λb8=>?_;cases hh:u.hs with
  |true=>rw[ha,Ad hh];refine Aj ?_;refine Cm [3] 5 ([pL b8 ⟨true,u.wr,u.va,u.vl⟩]) ?_ (hR:=(UC BW));refine BM ?_;refine Aj ?_;exact AU (vs:=[iV t,.agg (toArray (jZ ⟨true,u.wr,u.va,u.vl⟩)),.bool true]) [] _ rfl .refl (.tmp rfl (Cq rfl (.tail _ (.head _)) (As.LSub.of_all (n:=4) (jZ ⟨true,u.wr,u.va,u.vl⟩) rfl) (by exact Ba))) (.drop (.drop (.drop (.drop .refl)))) ⟨rfl,rfl⟩
  |false=>rw[ha,Ab (by rw[hh];simp)];refine Aj ?_;refine Cm [13] 15 ([(b3,Obj.cells (toArray (Xv e)) 39 (0,0))]) ?_ (hR:=(UC BW));refine BM ?_;refine Aj ?_;refine AU (vs:=[iV t,.agg (toArray (jZ ⟨false,decide (e.kd=4),e.va,e.vl⟩)),.bool (decide (¬e.kd=2))]) [] _ rfl .refl (.tmp rfl (Cq rfl (.tail _ (.head _)) (As.LSub.of_all (n:=4) (jZ ⟨false,decide (e.kd=4),e.va,e.vl⟩) rfl) (by exact Ba))) (.drop (.drop (.drop (.drop .refl)))) ?_;refine⟨?_,rfl⟩;rw[decide_not];rfl
end Go.Proofs.YtlifcingifodfaaGreat
