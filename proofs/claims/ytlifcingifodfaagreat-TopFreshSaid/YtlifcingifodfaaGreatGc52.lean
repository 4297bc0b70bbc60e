/- Laws that the statement's proof leans on (joined out of several texts). -/
import Derived.Test.YtlifcingifodfaaGreatGc51
set_option maxHeartbeats 4000000
set_option linter.unusedVariables false
set_option linter.unusedSimpArgs false
namespace Go.Proofs.YtlifcingifodfaaGreat
open Go.RowKit
set_option maxRecDepth 20000
variable{c:CapT}{S:KT}{id f n m:Int}{A:Ar.ArT}{os:List Ar.ObT}{K:List IW}{D:SD}{H:HS}{a b:Ck}{k:Nat}
def y3(t:Th.ThT):Prop:=t.hs=false->t.wr=false/\t.va=0/\t.vl=0
def J9(D:SD)(c:CapT):Prop:= ∃x,x∈D/\c∈x.2
def From(S:KT)(c:CapT):Prop:=c.kind=0\/ ∃d,J9 S.H.1 d/\d.kind=c.kind/\d.obj=c.obj
def RgS(K K':List IW):Prop:= ∀c',c'∈K'->(∃c,c∈K/\c'.ro=c.ro/\c'.sp=c.sp)\/LL c'.ro c'.sp
inductive uF(N:As.ASt):As.ASt->Prop
 |refl:uF N N
 |add (o:Int):uF N (As.addP N o).2.2
 |ass (o r:Int):uF N (As.assignP N o r).2.2.2
 |un (r:Int):uF N (As.unP N r).2.2
 |drop (o:Int):uF N (As.dropP N o).2.2
structure G7(P:KT->Prop):Prop where
 free: ∀{S:KT} (Q:Nat->A4) (E:En.DE) (W:A4) (U:A4) (N:As.ASt),uF S.N N->P S->P {S with Q:=Q,E:=E,W:=W,U:=U,N:=N}
 core: ∀{S:KT} {K:List IW},P S->RgS S.K K->P {S with K:=K}
 set: ∀{S:KT} {t:Th.ThT},P S->y3 t->P (DV S t)
 rz: ∀{S:KT},P S-> ∀id,y3 (DW S id)
 hold: ∀{S:KT} {H':HS},P S->(∀c,J9 H'.1 c->From S c)->P {S with H:=H'}
 place: ∀{S:KT} (id a b c:Int),P S->P {S with A:=(Ar.placeD S.A id a b c).2}
 mark: ∀{S:KT} (id m:Int),P S->P {S with A:=(Ar.markD' S.A id m).2}
 unm: ∀{S:KT} (id:Int),P S->P (Ui S id).2
structure Cl(P:KT->Prop):Prop extends G7 P where
 one: ∀{S:KT} (x:Ck) (k z f:Int) (q:Int×Ck),P S->P (LP x k z f S q)
theorem RgS.refl(K:List IW):RgS K K:=λc h=> .inl ⟨c,h,rfl,rfl⟩
theorem RgS.tr{L M:List IW}(h1:RgS K L)(h2:RgS L M):RgS K M:=λc hc=>by
 rcases h2 c hc with⟨d,hd,e1,e2⟩|h
 ·rcases h1 d hd with⟨x,hx,e3,e4⟩|h
  ·exact .inl ⟨x,hx,e1.trans e3,e2.trans e4⟩
  ·exact .inr (by rw[e1,e2];exact h)
 ·exact .inr h
theorem RgS.drop(K:List IW)(f:MF->Bool):RgS K (IE K f):=λc hc=>by obtain⟨d,hd,rfl⟩:=Au.1 hc;exact .inl ⟨d,hd,rfl,rfl⟩
theorem RgS.drops: ∀(l:A4) (K:List IW),RgS K (l.foldl (λK n=>IE K (QR n)) K)
 |[],K=> .refl K
 |n::l,K=>(RgS.drop K (QR n)).tr (RgS.drops l _)
theorem RgS.set(h:M8 K n=0)(t:Lh):RgS K (K.set n.toNat {QU K n with tb:=t}):=λc hc=>by
 have hn:n.toNat<K.length:=by
  by_cases h2:n<0\/n>=K.length
  ·have e:M8 K n=3:=Ac h2;rw[e] at h;cases h
  ·omega
 rcases Cq hc with h1|h1
 ·exact .inl ⟨c,h1,rfl,rfl⟩
 ·refine .inl ⟨K[n.toNat],HK hn,?_,?_⟩<;>(rw[h1];simp only[QU,Bk,Al hn,Di])
theorem RgS.trans'(K:List IW)(W:A4)(n pg:Int):RgS K (DQ K W n pg).2:=by
 unfold DQ
 split
 ·exact .refl K
 rename_i h
 split
 ·exact .refl K
 split
 ·exact .refl K
 split
 ·exact .refl K
 split
 ·exact .refl K
 ·exact .set (Ha.1 h) _
theorem RgS.ev(K:List IW)(n st wy:Int):RgS K (lY K n st wy).2:=by
 unfold lY
 split
 ·exact .refl K
 ·rename_i h;exact .set (Ha.1 h) _
theorem RgS.setC(K:List IW)(n r s:Int):RgS K (setC K n r s).2:=by
 unfold Go.Proofs.YtlifcingifodfaaGreat.setC
 split
 ·exact .refl K
 split
 ·exact .refl K
 ·rename_i h;intro c hc;rcases Cq hc with h1|h1
  ·exact .inl ⟨c,h1,rfl,rfl⟩
  ·exact .inr (by rw[h1];exact Ha.1 h)
theorem Lc{s:Ck}{d:CapT}(h:J9 (Gn D s c) d):d=c\/J9 D d:=by
 obtain⟨x,hx,hd⟩:=h;unfold Gn at hx;obtain⟨y,hy,rfl⟩:=Au.1 hx
 split at hd
 ·rcases Cq hd with h|h
  ·exact .inr ⟨y,hy,h⟩
  ·exact .inl h
 ·exact .inr ⟨y,hy,hd⟩
section
variable{d:CapT}
theorem From.self(h:J9 S.H.1 c):From S c:= .inr ⟨c,h,rfl,rfl⟩
theorem From.of(hd:From S d)(h1:d.kind=c.kind)(h2:d.obj=c.obj):From S c:=by
 rcases hd with h|⟨e,he,h3,h4⟩
 ·exact .inl (by rw[<-h1];exact h)
 ·exact .inr ⟨e,he,by rw[h3,h1],by rw[h4,h2]⟩
theorem From.at(S:KT)(s:Ck):From S (D5 S.H.1 s):=by
 unfold D5
 split
 ·rename_i x hx;rw[Bk];cases e:x.2[s.2.toNat]? with
  |none=>exact .inl rfl
  |some c=>exact .self ⟨x,(Fg hx).1,A6 e⟩
 ·exact .inl rfl
theorem From.cp(S:KT)(s:Ck):From S (Ec S s):=by
 show From S (getD' S.H.1 s).1;unfold getD'
 split
 ·exact From.at S s
 ·exact .inl rfl
theorem Xk:(Eo c m).2=0->c.kind=(Eo c m).1.kind/\c.obj=(Eo c m).1.obj:=by
 unfold Eo
 repeat' split
 all_goals first|exact λ_=>⟨rfl,rfl⟩|exact λh=>absurd h AZ
theorem oI{m:Nat}:(TE c m).2=0->c.kind=(TE c m).1.kind/\c.obj=(TE c m).1.obj:=by
 unfold TE
 repeat' split
 all_goals first|exact λ_=>⟨rfl,rfl⟩|exact λh=>absurd h AZ
theorem fj{n:Nat}:(Hy c m n).2=0->c.kind=(Hy c m n).1.kind/\c.obj=(Hy c m n).1.obj:=by
 unfold Hy
 split
 ·rename_i h;exact λh2=>absurd h2 h
 ·rename_i h;intro h2;have h3:=Xk (Ha.1 h);have h4:=oI h2;exact⟨h3.1.trans h4.1,h3.2.trans h4.2⟩
theorem UE{r:CapT}(hc:J9 (ID H a b r).2.1 c):c=r\/J9 H.1 c:=by
 unfold ID at hc
 repeat' split at hc
 all_goals first|exact .inr hc|exact Lc hc
theorem oJ{r:CapT×Int}(hc:J9 (Gp H a b r).2.1 c):(r.2=0/\c=r.1)\/J9 H.1 c:=by
 unfold Gp at hc
 split at hc
 ·exact .inr hc
 split at hc
 ·exact .inr hc
 ·rename_i h;rcases UE hc with h1|h1
  ·exact .inl ⟨Ha.1 h,h1⟩
  ·exact .inr h1
end
namespace G7
variable{P:KT->Prop}{S:KT}
theorem fQ(h:G7 P)(hS:P S)(x:Nat->A4):P {S with Q:=x}:=h.free x S.E S.W S.U S.N .refl hS
theorem fE(h:G7 P)(hS:P S)(x:En.DE):P {S with E:=x}:=h.free S.Q x S.W S.U S.N .refl hS
theorem fW(h:G7 P)(hS:P S)(x:A4):P {S with W:=x}:=h.free S.Q S.E x S.U S.N .refl hS
theorem fK(h:G7 P)(hS:P S){x:List IW}(hx:RgS S.K x):P {S with K:=x}:=h.core hS hx
theorem fU(h:G7 P)(hS:P S)(x:A4):P {S with U:=x}:=h.free S.Q S.E S.W x S.N .refl hS
theorem fN(h:G7 P)(hS:P S){x:As.ASt}(hx:uF S.N x):P {S with N:=x}:=h.free S.Q S.E S.W S.U x hx hS
theorem all(h:G7 P)(hS:P S)(Q:Nat->A4)(E:En.DE)(W:A4)(U:A4)(N:As.ASt)(hN:uF S.N N){K:List IW}(hK:RgS S.K K):P {S with Q:=Q,E:=E,W:=W,K:=K,U:=U,N:=N}:=
 h.core (S:={S with Q:=Q,E:=E,W:=W,U:=U,N:=N}) (h.free Q E W U N hN hS) hK
theorem placeW(h:G7 P)(hS:P S)(W:A4)(id a b c:Int):P {S with W:=W,A:=(Ar.placeD S.A id a b c).2}:=h.place (S:={S with W:=W}) id a b c (h.fW hS W)
theorem i5{α:Type}{f:KT->α->KT}(hf: ∀S x,P S->P (f S x)): ∀(l:List α) (S:KT),P S->P (l.foldl f S)
 |[],_,h=>h
 |x::l,S,h=>i5 hf l (f S x) (hf S x h)
theorem der(h:G7 P)(hS:P S)(a b:Ck)(r:CapT×Int)(hr:r.2=0->From S r.1):P {S with H:=(Gp S.H a b r).2}:=
 h.hold hS λc hc=>(oJ hc).elim (λ⟨h1,h2⟩=>h2▸hr h1) From.self
theorem copy(h:G7 P)(hS:P S)(a b:Ck)(m:Int):P {S with H:=(Gp S.H a b (Eo (D5 S.H.1 a) m)).2}:=
 h.der hS a b _ λe=>(From.at S a).of (Xk e).1 (Xk e).2
theorem st(h:G7 P)(hS:P S)(id st:Int):P (Ov S id st).2:=by
 unfold Ov
 split
 ·exact hS
 ·dsimp only
  split
  ·exact h.fQ (h.set (t:={DW S id with st:=st}) hS (h.rz hS id)) _
  ·exact h.fQ (h.set (t:={DW S id with st:=st}) hS (h.rz hS id)) _
theorem fr(h:G7 P)(hS:P S)(id:Int):P (wL S id):=by
 unfold wL
 split
 ·exact h.set (t:={DW S (Th.serverD S.T id) with ca:=0}) hS (h.rz hS (Th.serverD S.T id))
 ·exact hS
theorem haltE(h:G7 P)(hS:P S)(id:Int):P (haltE S id).2:=h.st (h.set (t:=dX (DW S id)) hS λ_=>⟨rfl,rfl,rfl⟩) id 0
theorem halt(h:G7 P)(hS:P S)(id:Int):P (IN S id).2:=by
 unfold IN
 split
 ·exact hS
 ·exact h.haltE (h.fr (h.fE hS _) _) _
theorem unh1(h:G7 P)(hS:P S)(c:CapT):P (No S c):=by
 unfold No
 split
 ·exact h.all hS S.Q S.E _ S.U S.N .refl (.drop _ _)
 ·exact hS
theorem off1(h:G7 P)(hS:P S)(id:Int):P (RC S id):=by
 unfold RC
 split
 ·exact h.place (S:={S with W:=_,K:=_}) id 0 0 0 (h.all hS S.Q S.E _ S.U S.N .refl (.drop _ _))
 ·exact hS
theorem off(h:G7 P)(hS:P S)(id:Int):P (PK S id).2:=by
 unfold PK
 split
 ·exact hS
 split
 ·exact h.off1 hS id
 split
 ·refine h.all hS S.Q S.E S.W S.U _ (.un _) ?_
  split
  ·exact .drop _ _
  ·exact .refl _
 split
 ·exact h.all hS S.Q S.E S.W S.U _ (.drop _) (.drops _ _)
 ·exact hS
theorem endT(h:G7 P)(hS:P S)(id:Int):P (endT S id):=by
 unfold Go.Proofs.YtlifcingifodfaaGreat.endT
 split
 ·have h1:=h.halt hS (DW S id).ca;exact h.set (t:={DW (IN S (DW S id).ca).2 id with ca:=0}) h1 (h.rz h1 id)
 ·exact hS
theorem ends(h:G7 P)(hS:P S)(c:CapT):P (KA S c):=by
 unfold KA
 split
 ·exact h.off hS _
 split
 ·exact i5 (P:=P) (f:=λS t=>(IN S t).2) (λS x hS=>h.halt hS x) _ _ hS
 split
 ·exact h.endT (h.halt hS _) _
 ·exact hS
theorem clear(h:G7 P)(hS:P S)(x:Ck):P {S with H:=(Eb S.H x).2}:=by
 refine h.hold hS λc hc=>?_;unfold Eb at hc
 repeat' split at hc
 ·exact .self hc
 ·exact .self hc
 ·rcases Lc hc with h|h
  ·exact .inl (by rw[h])
  ·exact .self h
theorem dropX(h:G7 P)(hS:P S)(x:Ck):P (dropX S x):=by
 unfold Go.Proofs.YtlifcingifodfaaGreat.dropX
 split
 ·exact h.unh1 (h.clear hS x) _
 ·exact h.clear hS x
theorem dropR(h:G7 P): ∀(m:Nat) (S:KT) (ys:List Ck) (es:A4) (n:Nat),P S->P (dropR m S ys es n).1
 |0,_,_,_,_,hS=>by unfold Go.Proofs.YtlifcingifodfaaGreat.dropR;exact hS
 |_+1,_,[],_,_,hS=>by unfold Go.Proofs.YtlifcingifodfaaGreat.dropR;exact hS
 |m+1,S,x::ys,es,n,hS=>by
  unfold Go.Proofs.YtlifcingifodfaaGreat.dropR
  split
  ·exact h.dropR m _ _ _ _ (h.clear hS x)
  split
  ·exact h.dropR m _ _ _ _ (h.dropX hS x)
  ·exact h.dropR m _ _ _ _ (h.ends (h.dropX hS x) _)
theorem setl(h:G7 P)(hS:P S):P (Nn S):=i5 (P:=P) (f:=Gd) (λS j hS=>by
 refine h.all hS S.Q S.E S.W _ S.N .refl ?_
 split
 ·exact .setC _ _ _ _
 ·exact .setC _ _ _ _) _ _ hS
theorem drop(h:G7 P)(hS:P S)(x:Ck):P (Qv S x).2:=h.setl (i5 (P:=P) (f:=λS id=>(Ui S id).2) (λS id hS=>h.unm id hS) _ _ (h.dropR _ _ _ _ _ hS))
theorem del(h:G7 P)(hS:P S)(x:Ck):P (Qw S x).2:=by
 unfold Qw
 split
 ·exact hS
 ·exact h.drop hS x
theorem revR(h:G7 P): ∀(m:Nat) (S:KT) (x:Ck) (bu n:Nat),P S->P (revR m S x bu n).2
 |0,_,_,_,_,hS=>by unfold Go.Proofs.YtlifcingifodfaaGreat.revR;exact hS
 |m+1,S,x,bu,n,hS=>by
  unfold Go.Proofs.YtlifcingifodfaaGreat.revR
  split
  ·exact hS
  split
  ·exact hS
  split
  ·exact hS
  ·exact h.revR m _ _ _ _ (h.drop hS _)
theorem rev(h:G7 P)(hS:P S)(x:Ck)(bu:Int):P (R3 S x bu).2:=by
 unfold R3
 split
 ·exact hS
 split
 ·exact hS
 ·exact h.revR _ _ _ _ _ hS
theorem giv(h:G7 P)(hS:P S)(t u:Th.ThT):P (Qt S t u).2:=by
 unfold Qt
 split
 ·exact hS
 split
 ·exact h.copy hS _ _ 7
 ·exact hS
theorem hand(h:G7 P)(hS:P S)(t:Th.ThT)(id:Int)(m:Oz)(bd:Int):P (J8 S t id m bd).2:=h.set (h.giv hS t _) (h.rz hS id)
theorem calls1(h:G7 P)(hS:P S)(u:Int):P (KD S u):=by
 unfold KD
 split
 ·exact hS
 ·exact h.halt hS _
theorem calls(h:G7 P)(hS:P S)(t u:Int):P (PL S t u):=by have h1:=h.calls1 hS u;exact h.st (h.set (t:={DW (KD S u) u with ca:=t}) h1 (h.rz h1 u)) t 4
theorem sendH(h:G7 P)(hS:P S)(x:Th.ThT)(t u:Int)(m:Oz)(bd:Int)(cl:Bool):P (sendH S x t u m bd cl).2:=by
 have h1:=h.st (h.hand (h.fE hS (En.removeD S.E u).2) x u m bd) u 1;unfold Go.Proofs.YtlifcingifodfaaGreat.sendH;generalize(Ov (J8 {S with E:=(En.removeD S.E u).2} x u m bd).2 u 1).2=S1 at h1⊢
 split
 ·exact h.calls (h.set (t:={DW S1 t with cl:=true}) h1 (h.rz h1 t)) _ _
 ·exact h1
theorem send(h:G7 P)(hS:P S)(t:Int)(x:Ck)(m:Oz)(gv:Int)(cl:Bool):P (Jn S t x m gv cl).2:=by
 unfold Jn
 split
 ·exact hS
 split
 ·exact hS
 split
 ·exact hS
 split
 ·exact h.st (h.set (t:=ey m (Ec S x) gv cl (DW S t)) (h.fE hS (En.waitD S.E (Ec S x).obj t true).2) (h.rz hS t)) t 2
 ·exact h.sendH hS _ _ _ _ _ _
theorem recvW(h:G7 P)(hS:P S)(w:Bool)(id t:Int):P (recvW S w id t):=by
 unfold Go.Proofs.YtlifcingifodfaaGreat.recvW
 split
 ·exact h.calls hS _ _
 ·exact h.st hS _ _
theorem recvH(h:G7 P)(hS:P S)(t id:Int):P (recvH S t id).2:=by have h1:=h.recvW (h.hand (h.fE hS (En.removeD S.E id).2) (DW S id) t (iQ (DW S id)) (DW S id).ob) ((DW S id).cl||(DW S id).fa) id t;unfold Go.Proofs.YtlifcingifodfaaGreat.recvH;dsimp only;generalize Go.Proofs.YtlifcingifodfaaGreat.recvW (J8 {S with E:=(En.removeD S.E id).2} (DW S id) t (iQ (DW S id)) (DW S id).ob).2 ((DW S id).cl||(DW S id).fa) id t=S1 at h1⊢;exact h.set (t:=nS (DW S1 id)) h1 (h.rz h1 id)
theorem recv(h:G7 P)(hS:P S)(t:Int)(x:Ck)(inn:Int):P (OF S t x inn).2:=by
 have h1:P (DV S {DW S t with inn:=inn}):=h.set (t:={DW S t with inn:=inn}) hS (h.rz hS t);unfold OF
 split
 ·exact hS
 split
 ·exact hS
 split
 ·exact hS
 split
 ·exact h.st (h.set (t:={DW (DV S {DW S t with inn:=inn}) t with wa:=(Ec S x).obj}) (h.fE h1 (En.waitD S.E (Ec S x).obj t false).2) (h.rz h1 t)) t 3
 ·exact h.recvH h1 _ _
theorem replyH(h:G7 P)(hS:P S)(ca:Int)(m:Oz)(t:Int):P (replyH S ca m t).2:=by
 refine h.st (h.set (t:=OA m (DW S (DW S ca).id)) hS ?_) _ _;unfold OA
 split
 ·exact h.rz hS _
 ·exact h.rz hS _
theorem reply(h:G7 P)(hS:P S)(t:Int)(m:Oz):P (Lb S t m).2:=by
 unfold Lb
 split
 ·exact hS
 split
 ·exact hS
 ·exact h.replyH (h.set (t:={DW S t with ca:=0}) hS (h.rz hS t)) (DW S t).ca m t
theorem raise(h:G7 P)(hS:P S)(t:Th.ThT)(x:Ux)(f:uw)(hx:x.hs=true):P (Nf S t x f).2:=by
 have h1:P (DV S (NE t x)):=h.set (t:=NE t x) hS λe=>by have e:x.hs=false:=e;rw[hx] at e;cases e
 have h2:=h.send h1 t.id (t.id,2) (bQ f) 4096 true;unfold Nf;generalize(Jn (DV S (NE t x)) t.id (t.id,2) (bQ f) 4096 true)=R at h2⊢
 split
 ·exact h.halt h1 _
 ·exact h.set (t:={DW R.2 t.id with fa:=true,cl:=t.cl}) h2 (h.rz h2 t.id)
theorem findA(h:G7 P)(hS:P S)(core va:Int)(wr:Bool):P (findA S core va wr).2:=by
 unfold Go.Proofs.YtlifcingifodfaaGreat.findA
 repeat' split
 all_goals first|exact hS|exact h.fK hS (.trans' _ _ _ _)
theorem acc(h:G7 P)(hS:P S)(core:Int)(x:Ux):P (R5 S core x).2:=by
 have h1:=h.findA hS core x.va;unfold R5
 split
 ·unfold nm
  split
  ·exact h1 true
  ·exact h.fW (h1 true) _
 ·unfold ju
  split
  ·exact h1 false
  split
  ·exact h1 false
  ·exact h1 false
theorem doR(h:G7 P)(hS:P S)(core:Int)(x:Ux)(t:Th.ThT):P (doR S core x t).2:=by
 unfold Go.Proofs.YtlifcingifodfaaGreat.doR
 split
 ·exact h.raise (h.acc hS core x) t _ _ rfl
 ·exact h.set (t:=NE t yV) (h.acc hS core x) λ_=>⟨rfl,rfl,rfl⟩
theorem fdo(h:G7 P)(hS:P S)(core:Int)(x:Ux):P (R6 S core x).2:=by
 unfold R6
 split
 ·exact hS
 ·exact h.doR hS core x _
theorem fag(h:G7 P)(hS:P S)(core:Int):P (U5 S core).2:=by
 unfold U5
 split
 ·exact hS
 split
 ·exact hS
 ·exact h.fdo hS core _
theorem run(h:G7 P)(hS:P S)(core id:Int):P (NC S core id).2:=by
 unfold NC
 split
 ·exact hS
 split
 ·exact hS
 ·exact h.fU hS _
theorem now(h:G7 P)(hS:P S)(t:Int):P (sm S t):=by
 refine i5 (P:=P) (f:=λS j=>bK S t j) (λS j hS=>?_) _ _ hS;unfold bK
 split
 ·exact h.run hS _ _
 ·exact hS
theorem retype(h:G7 P)(h1: ∀{S:KT} (x:Ck) (k z f:Int) (q:Int×Ck),P S->P (LP x k z f S q))(hS:P S)(o:IY)(x y:Ck):P (EW S o x y).2:=by
 unfold EW
 split
 ·exact hS
 split
 ·exact hS
 split
 ·exact hS
 split
 ·exact hS
 ·exact h.mark _ _ (i5 (P:=P) (f:=LP x o.n0 o.n1 _) (λS q hS=>h1 x _ _ _ q hS) _ _ hS)
theorem mapT(h:G7 P)(hS:P S)(x y:Ck)(va:Int):P (QB S x y va).2:=by
 unfold QB
 repeat' split
 all_goals first|exact hS|exact h.placeW hS _ _ _ _ _
theorem unmT(h:G7 P)(hS:P S)(x:Ck):P (RD S x).2:=by
 unfold RD
 split
 ·exact h.place _ 0 0 0 (h.off1 hS _)
 ·exact hS
theorem setHo(h:G7 P)(hS:P S)(x:Ck)(c:CapT)(hc:From S c):P {S with H:=(Pd S.H x c).2}:=by
 refine h.hold hS λd hd=>?_;unfold Pd at hd
 repeat' split at hd
 all_goals first|exact .self hd|(rcases Lc hd with e|e<;>first|(rw[e];exact hc)|exact .self e)
theorem mapF(h:G7 P)(hS:P S)(x y:Ck)(va ri:Int):P (QC S x y va ri).2:=by
 unfold QC
 repeat' split
 all_goals first|exact hS|exact h.all (h.setHo hS x {Ec S x with serial:=(As.ofP S.N (Ec S y).obj).2.1,page:=(G1 va).1} ((From.cp S x).of rfl rfl)) S.Q S.E _ S.U S.N .refl (.drop _ _)
theorem x8(S:KT)(c:CapT):(No S c).H=S.H:=by
 unfold No
 split<;>rfl
theorem unmF(h:G7 P)(hS:P S)(x:Ck):P (RG S x).2:=by
 unfold RG
 split
 ·refine h.setHo (h.unh1 hS _) x _ ?_;unfold From;rw[x8];exact(From.cp S x).of rfl rfl
 ·exact hS
theorem enab(h:G7 P)(hS:P S)(x y:Ck):P (RE S x y).2:=by
 unfold RE
 split
 ·exact h.fN hS (.add _)
 ·exact hS
theorem assn(h:G7 P)(hS:P S)(x y:Ck):P (RF S x y).2:=by
 unfold RF
 split
 ·exact h.free S.Q S.E _ S.U _ (.ass _ _) hS
 ·exact hS
theorem bind(h:G7 P)(hS:P S)(n:Int)(x y:Ck):P (Qy S n x y).2:=by
 unfold Qy
 split
 ·exact hS
 ·exact h.copy hS y _ 7
theorem unbind(h:G7 P)(hS:P S)(n:Int)(x:Ck):P (KB S n x).2:=by
 unfold KB
 split
 ·exact hS
 ·exact h.del hS _
theorem resume(h:G7 P)(hS:P S)(x:Ck):P (KC S x).2:=by
 unfold KC
 split
 ·exact hS
 split
 ·exact hS
 ·exact h.st hS _ _
theorem suspend(h:G7 P)(hS:P S)(x:Ck):P (Jm S x).2:=by
 unfold Jm
 split
 ·exact hS
 ·exact h.halt hS _
theorem prio(h:G7 P)(hS:P S)(n:Int)(x:Ck):P (QA S n x).2:=by
 unfold QA
 split
 ·exact hS
 ·have h1:P (DV S {DW S (Ec S x).obj with pr:=n}):=h.set (t:={DW S (Ec S x).obj with pr:=n}) hS (h.rz hS _);show P (eR _ _ _);unfold eR
  split
  ·exact h.fQ h1 _
  ·exact h.fQ h1 _
theorem swap(h:G7 P)(hS:P S)(x y:Ck):P {S with H:=(LI S.H x y).2}:=by
 refine h.hold hS λd hd=>?_;unfold LI at hd
 split at hd
 ·exact .self hd
 ·rcases Lc hd with e|e
  ·rw[e];exact From.at S x
  rcases Lc e with e|e
  ·rw[e];exact From.at S y
  ·exact .self e
theorem move(h:G7 P)(hS:P S)(x y:Ck):P {S with H:=(Jx S.H x y).2}:=by
 refine h.hold hS λd hd=>?_;unfold Jx at hd
 split at hd
 ·exact .self hd
 ·rcases Lc hd with e|e
  ·rw[e];exact From.at S x
  rcases Lc e with e|e
  ·exact .inl (by rw[e])
  ·exact .self e
theorem does(h:G7 P)(hS:P S)(t:Int)(o:IY)(x y:Ck)(hr:o.op=1->P (EW S o x y).2):P (Kq S t o x y).2:=by
 unfold Kq;by_cases e1:o.op=1
 ·rw[Ac e1];exact hr e1
 rw[Ab e1];by_cases e2:o.op=2
 ·rw[Ac e2];exact h.copy hS x y _
 rw[Ab e2];by_cases e3:o.op=3
 ·rw[Ac e3];exact h.der hS x y _ λe=>(From.at S x).of (fj e).1 (fj e).2
 rw[Ab e3];by_cases e4:o.op=4
 ·rw[Ac e4];exact h.move hS x y
 rw[Ab e4];by_cases e5:o.op=5
 ·rw[Ac e5];exact h.swap hS x y
 rw[Ab e5];by_cases e6:o.op=6
 ·rw[Ac e6];exact h.del hS x
 rw[Ab e6];by_cases e7:o.op=7
 ·rw[Ac e7];exact h.rev hS x _
 rw[Ab e7];by_cases e8:o.op=8
 ·rw[Ac e8];exact h.mapT hS x y _
 rw[Ab e8];by_cases e9:o.op=9
 ·rw[Ac e9];exact h.unmT hS x
 rw[Ab e9];by_cases yy:o.op=10
 ·rw[Ac yy];exact h.mapF hS x y _ _
 rw[Ab yy];by_cases yz:o.op=11
 ·rw[Ac yz];exact h.unmF hS x
 rw[Ab yz];by_cases yA:o.op=12
 ·rw[Ac yA];exact h.enab hS x y
 rw[Ab yA];by_cases yB:o.op=13
 ·rw[Ac yB];exact h.assn hS x y
 rw[Ab yB];by_cases yC:o.op=18
 ·rw[Ac yC];exact h.now (h.fQ hS _) t
 rw[Ab yC];by_cases vE:o.op=19
 ·rw[Ac vE];exact h.bind hS _ x y
 rw[Ab vE];by_cases yD:o.op=20
 ·rw[Ac yD];exact h.unbind hS _ x
 rw[Ab yD];by_cases yE:o.op=21
 ·rw[Ac yE];exact h.resume hS x
 rw[Ab yE];by_cases tA:o.op=22
 ·rw[Ac tA];exact h.suspend hS x
 rw[Ab tA];by_cases yF:o.op=23
 ·rw[Ac yF];exact h.prio hS _ x
 rw[Ab yF];exact hS
theorem says(h:G7 P)(hS:P S)(t:Int)(o:IY)(x:Ck){r:(List Ii×Int)×KT}(hr:Nq S t o x=some r):P r.2:=by
 unfold Nq at hr
 split at hr
 ·cases hr;exact h.send hS ..
 split at hr
 ·cases hr;exact h.recv hS ..
 split at hr
 ·cases hr;exact h.reply hS ..
 ·cases hr
theorem ordE(h:G7 P)(hS:P S)(t:Int)(o:IY)(x y:Ck)(hr:o.op=1->P (EW S o x y).2):P (ordE S t o x y).2:=by
 unfold Go.Proofs.YtlifcingifodfaaGreat.ordE
 split
 ·rename_i r hr;exact h.says hS t o x hr
 ·split
  ·exact h.does hS t o x y hr
  ·exact h.does hS t o x y hr
theorem ord(h:G7 P)(hS:P S)(t:Int)(o:IY)(hr: ∀x y,o.op=1->P (EW S o x y).2):P (Ng S t o).2:=by
 unfold Ng
 split
 ·exact hS
 split
 ·exact hS
 split
 ·exact hS
 ·exact h.ordE hS t o _ _ (hr _ _)
theorem call(h:G7 P)(hS:P S)(t:Int)(c:OG)(hr: ∀x y,(BV c).1.op=1->P (EW S (BV c).1 x y).2):P (UA S t c).2:=by
 unfold UA
 split
 ·split
  ·exact h.ord hS t _ hr
  ·exact h.ord hS t _ hr
 ·exact hS
theorem step(h:G7 P)(hS:P S)(e:Pf)(hr: ∀x y,(BV e.cl).1.op=1->P (EW S (BV e.cl).1 x y).2):P (OI S e).2:=by
 unfold OI
 split
 ·exact hS
 split
 ·exact hS
 split
 ·exact h.fag hS _
 split
 ·exact h.fdo hS _ _
 split
 ·exact h.fdo hS _ _
 ·exact h.call hS _ _ hr
theorem pick(h:G7 P)(hS:P S)(core t:Int):P (Pu S core t).2:=by
 unfold Pu
 repeat' split
 all_goals first|exact hS|exact h.run hS _ _
theorem cache(h:G7 P)(hS:P S)(e:Pf):P (Ma S e).2:=by
 unfold Ma
 repeat' split
 all_goals first|exact hS|exact h.fK hS (.trans' _ _ _ _)|exact h.fK hS (.ev _ _ _ _)
theorem doA(h:G7 P)(hS:P S)(e:Pf)(hr: ∀x y,(BV e.cl).1.op=1->P (EW S (BV e.cl).1 x y).2):P (doA S e).2:=by
 unfold Go.Proofs.YtlifcingifodfaaGreat.doA
 split
 ·exact h.pick hS _ _
 split
 ·exact h.step hS e hr
 split
 ·exact h.cache hS e
 ·exact hS
theorem ev(h:G7 P)(hS:P S)(e:Pf)(hr: ∀x y,(BV e.cl).1.op=1->P (EW S (BV e.cl).1 x y).2):P (Nh S e).2:=by
 unfold Nh;dsimp only
 split
 ·exact h.setl (h.doA hS e hr)
 ·exact h.doA hS e hr
end G7
theorem Cl.ev{P:KT->Prop}(h:Cl P)(hS:P S)(e:Pf):P (Nh S e).2:=h.toG7.ev hS e λx y _=>h.toG7.retype h.one hS _ x y
def cS(K:List IW)(j:Nat)(q:Int×Int):List IW:=if j<K.length/\LL q.1 q.2 then K.set j {K.getD j pf with ro:=q.1,sp:=q.2} else K
theorem fl(K:List IW)(j:Nat)(r s:Int):(setC K (j:Int) r s).2=cS K j (r,s):=by
 unfold setC cS;by_cases h1:j<K.length
 ·have e:M8 K (j:Int)=0:=Ab Af;rw[Ab (by rw[e];simp)];by_cases h2:LL r s
  ·rw[Ab (by simpa using h2),Ac ⟨h1,h2⟩];simp only[QU,AY]
  ·rw[Ac h2,Ab λh=>h2 h.2]
 ·have e:M8 K (j:Int)=3:=Ac Af;rw[Ac (by rw[e];simp),Ab λh=>h1 h.1]
theorem fm(K:List IW)(j:Nat)(q:Int×Int):cS (cS K j q) j q=cS K j q:=by
 by_cases h:j<K.length/\LL q.1 q.2
 ·have e:cS K j q=K.set j {K.getD j pf with ro:=q.1,sp:=q.2}:=Ac h;rw[e];unfold cS;rw[Ac ⟨by simpa using h.1,h.2⟩,Ks];congr 1;rw[Bk,Ea h.1];rfl
 ·have e:cS K j q=K:=Ab h;rw[e,e]
theorem sU(K:List IW)(j m:Nat)(q r:Int×Int)(yH:j≠m):cS (cS K m r) j q=cS (cS K j q) m r:=by
 have g: ∀(a b:Nat) (x:IW),a≠b->(K.set b x).getD a pf=K.getD a pf:=λa b x h=>by rw[Bk,F8 Af,<-Bk]
 unfold cS;by_cases h1:j<K.length/\LL q.1 q.2
 ·by_cases h2:m<K.length/\LL r.1 r.2
  ·rw[Ac h2,Ac h1,Ac (by simpa using h1),Ac (by simpa using h2),g j m _ yH,g m j _ (FG yH),List.set_comm _ _ (FG yH)]
  ·rw[Ab h2,Ac h1,Ab (by simpa using h2)]
 ·by_cases h2:m<K.length/\LL r.1 r.2
  ·rw[Ac h2,Ab h1,Ab (by simpa using h1),Ac h2]
  ·rw[Ab h2,Ab h1,Ab h2]
def su(S:KT)(u:Int):Int:=if Ps S u=false\/¬(DW S u).st=1 then 0 else u
def sk(S:KT)(u:Int):Int×Int:=if u=0\/(FW S u).2=false then(-1,0) else((Ar.getD' S.A (FW S u).1.1).1.fi,(FW S u).1.2.1)
theorem Zr(S:KT)(j:Nat):Gd S j={S with U:=S.U.set j (su S (S.U.getD j 0)),K:=cS S.K j (sk S (su S (S.U.getD j 0)))}:=by
 have e:Qr S j=su S (S.U.getD j 0):=rfl;unfold Gd sk;rw[e];by_cases h:su S (S.U.getD j 0)=0\/(FW S (su S (S.U.getD j 0))).2=false
 ·rw[Ac h,Ac h,fl]
 ·rw[Ab h,Ab h,fl]
abbrev jx(S:KT)(U:A4)(K:List IW):KT:={S with U:=U,K:=K}
theorem SJ(S:KT)(U:A4)(K:List IW)(j:Nat):Gd (jx S U K) j=jx S (U.set j (su S (U.getD j 0))) (cS K j (sk S (su S (U.getD j 0)))):=Zr (jx S U K) j
theorem Abu(S:KT)(u:Int):su S (su S u)=su S u:=by
 by_cases h:Ps S u=false\/¬(DW S u).st=1
 ·have e:su S u=0:=Ac h;rw[e];unfold su
  split<;>rfl
 ·have e:su S u=u:=Ab h;rw[e,e]
theorem Zs(U:A4)(j m:Nat)(x:Int)(h:j≠m):(U.set m x).getD j 0=U.getD j 0:=by rw[Bk,F8 Af,<-Bk]
theorem UF(S:KT)(U:A4)(K:List IW)(j m:Nat):Gd (Gd (jx S U K) m) j=jx S ((U.set m (su S (U.getD m 0))).set j (su S ((U.set m (su S (U.getD m 0))).getD j 0))) (cS (cS K m (sk S (su S (U.getD m 0)))) j (sk S (su S ((U.set m (su S (U.getD m 0))).getD j 0)))):=
 (BO (λX=>Gd X j) (SJ S U K m)).trans (SJ S _ _ j)
theorem cF(S:KT)(U:A4)(K:List IW)(j:Nat):Gd (Gd (jx S U K) j) j=Gd (jx S U K) j:=by
 refine(UF S U K j j).trans (.trans ?_ (SJ S U K j).symm);by_cases h:j<U.length
 ·rw[show(U.set j (su S (U.getD j 0))).getD j 0=su S (U.getD j 0) by rw[Bk,Ea h];rfl,Abu,Ks,fm]
 ·have e: ∀x,U.set j x=U:=λx=>List.set_eq_of_length_le Af;rw[e,e,fm]
theorem cG(S:KT)(U:A4)(K:List IW)(j m:Nat)(h:j≠m):Gd (Gd (jx S U K) m) j=Gd (Gd (jx S U K) j) m:=by refine(UF S U K j m).trans (.trans ?_ (UF S U K m j).symm);rw[Zs _ _ _ _ h,Zs _ _ _ _ (FG h),sU _ _ _ _ _ h,List.set_comm _ _ (FG h)]
def Stl(S:KT):Prop:= ∀j,j<S.U.length->Gd S j=S
theorem oK(S:KT): ∀(m:Nat),(∃U K,U.length=S.U.length/\(List.range m).foldl Gd S=jx S U K)/\ ∀j,j<m->Gd ((List.range m).foldl Gd S) j=(List.range m).foldl Gd S
 |0=>⟨⟨S.U,S.K,rfl,rfl⟩,λj h=>by omega⟩
 |m+1=>by
  obtain⟨⟨U,K,hl,e⟩,h⟩:=oK S m;rw[CA,Fd,e];rw[e] at h;refine⟨⟨_,_,?_,SJ S U K m⟩,λj hj=>?_⟩
  ·rw[CB,hl]
  show Gd (Gd (jx S U K) m) j=Gd (jx S U K) m;by_cases yH:j=m
  ·subst yH;exact cF S U K j
  ·rw[cG S U K j m yH,h j Af]
section
end
def Giv(A:Ar.ArT)(id:Int):Prop:= ∃(f:Nat) (j:Int),f<64/\j<A.g f/\id=f+1+64*j
def KdA(A:Ar.ArT)(k id:Int):Prop:=id≠0->(∀o,o∈A.os->o.id=id->o.kd=k)/\Giv A id
structure GoodK(S:KT):Prop where
 rz: ∀t,t∈S.T->y3 t
 n:S.A.n<=64
 rg: ∀c,c∈S.K->LL c.ro c.sp
 ob: ∀o,o∈S.A.os->o.id≠0/\Giv S.A o.id
 cap: ∀c,J9 S.H.1 c->c.kind≠0->KdA S.A c.kind c.obj
section
theorem GoodK.hd(h:GoodK S)(hD: ∀c,J9 D c->From S c): ∀c,J9 D c->c.kind≠0->KdA S.A c.kind c.obj:=λc hc hk=>by
 rcases hD c hc with h1|⟨d,h1,h2,h3⟩
 ·exact absurd h1 hk
 ·rw[<-h2,<-h3];exact h.cap d h1 (by rw[h2];exact hk)
theorem GoodK.ar(h:GoodK S)(os:List Ar.ObT)(ho: ∀o,o∈os-> ∃u,u∈S.A.os/\u.id=o.id/\u.kd=o.kd):GoodK {S with A:={S.A with os:=os}} where
 rz:=h.rz
 n:=h.n
 rg:=h.rg
 ob:=λo hm=>by obtain⟨u,h1,h2,h3⟩:=ho o hm;rw[<-h2];exact h.ob u h1
 cap:=λc hc hk h0=>⟨λo hm e=>by obtain⟨u,h1,h2,h3⟩:=ho o hm;rw[<-h3];exact(h.cap c hc hk h0).1 u h1 (by rw[h2];exact e),(h.cap c hc hk h0).2⟩
theorem oL(h:Ar.atO os id=some k):os.getD k Ar.obO∈os/\(os.getD k Ar.obO).id=id:=by obtain⟨o,h1,h2⟩:=Ar.atO_some h;rw[Bk,h1];exact⟨A6 h1,h2⟩
theorem QL(h:Ar.atO os id=some k)(f:Ar.ObT->Ar.ObT)(h1: ∀o,(f o).id=o.id)(h2: ∀o,(f o).kd=o.kd): ∀o,o∈os.set k (f (os.getD k Ar.obO))-> ∃u,u∈os/\u.id=o.id/\u.kd=o.kd:=λo ho=>by
 rcases Cq ho with e|e
 ·exact⟨o,e,rfl,rfl⟩
 ·exact⟨_,(oL h).1,by rw[e,h1],by rw[e,h2]⟩
theorem GoodK.ext{S':KT}(h:GoodK S)(h1:S'.A=S.A)(h2:S'.H.1=S.H.1)(h3:S'.T=S.T)(h4:S'.K=S.K):GoodK S' where
 rg:=by rw[h4];exact h.rg
 rz:=by rw[h3];exact h.rz
 n:=by rw[h1];exact h.n
 ob:=by rw[h1];exact h.ob
 cap:=by rw[h1,h2];exact h.cap
theorem Wa(hn:A.n<=64)(h:Ar.nextD A f≠0):0<=f/\f<64/\Ar.nextD A f=f.toNat+1+64*A.g f.toNat:=by
 unfold Ar.nextD at h⊢;by_cases h1:f<0
 ·rw[Ac h1] at h;exact absurd rfl h
 rw[Ab h1] at h⊢;by_cases h2:f>=A.n
 ·rw[Ac h2] at h;exact absurd rfl h
 rw[Ab h2] at h⊢;by_cases h3:f+1+64*A.g f.toNat>65535
 ·rw[Ac h3] at h;exact absurd rfl h
 rw[Ab h3] at h⊢;exact⟨Af,Af,Af⟩
theorem i6(hn:A.n<=64)(h:Ar.nextD A f≠0):¬Giv A (Ar.nextD A f):=by
 obtain⟨h1,h2,h3⟩:=Wa hn h;rintro⟨g,j,h4,h5,h6⟩;rw[h3] at h6;have e:g=f.toNat:=by omega
 subst e;omega
theorem Zt{x o:Ar.ObT}(h:x∈Ar.insD os o):x=o\/x∈os:=by
 unfold Ar.insD at h;rcases AH.1 h with h|h
 ·exact .inr ((Ej _).subset h)
 ·rcases At.1 h with h|h
  ·exact .inl h
  ·exact .inr ((List.dropWhile_suffix _).subset h)
theorem Giv.up(f:Nat)(os:List Ar.ObT)(h:Giv A id):Giv {A with g:=upd A.g f (A.g f+1),os:=os} id:=by
 obtain⟨g,j,h1,h2,h3⟩:=h;refine⟨g,j,h1,?_,h3⟩;show j<upd A.g f (A.g f+1) g;by_cases e:g=f
 ·subst e;rw[DK];omega
 ·rw[Dk _ _ _ _ e];exact h2
theorem i7{k z:Int}(h:Ar.addE A k z f=0):Ar.nextD A f≠0:=by
 unfold Ar.addE at h
 split at h
 ·exact absurd h AZ
 split at h
 ·exact absurd h AZ
 split at h
 ·exact absurd h AZ
 split at h
 ·exact absurd h AZ
 ·assumption
theorem fq(S:KT)(k z f:Int)(h:(Ar.addD S.A k z f).1.2=0):Ar.addE S.A k z f=0/\Ar.addD S.A k z f=((Ar.nextD S.A f,0),{S.A with g:=upd S.A.g f.toNat (S.A.g f.toNat+1),os:=Ar.insD S.A.os (Ar.newO S.A k z f)}):=by
 unfold Ar.addD at h⊢
 split at h
 ·rename_i h2;exact⟨h2,by rw[Ac h2]⟩
 ·rename_i h2;exact absurd h h2
theorem fu(S:KT)(k z f:Int)(h:¬(Ar.addD S.A k z f).1.2=0):(Ar.addD S.A k z f).2=S.A:=by
 unfold Ar.addD at h⊢
 split at h
 ·exact absurd rfl h
 ·rename_i h2;rw[Ab h2]
theorem oM(S:KT)(k id:Int):(eh S k id).A=S.A/\(eh S k id).H=S.H:=by
 unfold eh
 split
 ·exact⟨rfl,rfl⟩
 split
 ·exact⟨rfl,rfl⟩
 ·exact⟨rfl,rfl⟩
theorem oN(S:KT)(n id:Int):(iz S n id).A=S.A/\(iz S n id).T=S.T:=by
 unfold iz
 split
 ·exact⟨rfl,rfl⟩
 ·exact⟨rfl,rfl⟩
theorem fy(S:KT)(k z f:Int):(nh S k z f).A=S.A/\(nh S k z f).H=S.H/\(nh S k z f).T=S.T:=by
 unfold nh
 split
 ·exact⟨rfl,rfl,rfl⟩
 ·exact⟨rfl,rfl,rfl⟩
theorem Abv(S:KT)(k id:Int):(eh S k id).K=S.K:=by
 unfold eh
 repeat' split
 all_goals rfl
theorem Abw(S:KT)(n id:Int):(iz S n id).K=S.K:=by
 unfold iz
 split<;>rfl
theorem Abx(S:KT)(k z f:Int):(nh S k z f).K=S.K:=by
 unfold nh
 split<;>rfl
theorem Aby{k:Int}(h: ∀t,t∈S.T->y3 t): ∀t,t∈(eh S k id).T->y3 t:=by
 unfold eh
 split
 ·intro t ht;have ht:t∈(Th.addD S.T id).2:=ht;unfold Th.addD at ht
  split at ht
  ·exact h t ht
  split at ht
  ·exact h t ht
  ·unfold Th.insH at ht;rcases AH.1 ht with ht|ht
   ·exact h t ((Ej _).subset ht)
   ·rcases At.1 ht with rfl|ht
    ·exact λ_=>⟨rfl,rfl,rfl⟩
    ·exact h t ((List.dropWhile_suffix _).subset ht)
 split
 ·exact h
 ·exact h
theorem oO(h:J9 (iz S n id).H.1 c):c.kind=0\/J9 S.H.1 c:=by
 unfold iz at h
 split at h
 ·have h:J9 (Hg S.H.1 id n).2 c:=h;unfold Hg at h
  split at h
  ·exact .inr h
  split at h
  ·exact .inr h
  ·obtain⟨x,hx,hc⟩:=h;rcases OT.1 hx with rfl|hx
   ·exact .inl (by rw[Ek hc])
   ·exact .inr ⟨x,hx,hc⟩
 ·exact .inr h
theorem i8(h:GoodK S)(k z f:Int):GoodK (Jl S k z f).2/\(k≠0->KdA (Jl S k z f).2.A k (Jl S k z f).1.1):=by
 unfold Jl;by_cases hc:(Ar.addD S.A k z f).1.2=0
 ·rw[Ac hc];obtain⟨h1,h2⟩:=fq S k z f hc;have h3:=i7 h1;have h4:=i6 h.n h3;obtain⟨h5,h6,h7⟩:=Wa h.n h3;rw[h2];dsimp only;obtain⟨A',Nj⟩: ∃A':Ar.ArT,A'={S.A with g:=upd S.A.g f.toNat (S.A.g f.toNat+1),os:=Ar.insD S.A.os (Ar.newO S.A k z f)}:=⟨_,rfl⟩
  have hg:Giv A' (Ar.nextD S.A f):=by rw[Nj];refine⟨f.toNat,S.A.g f.toNat,Af,?_,h7⟩;show _<upd S.A.g f.toNat (S.A.g f.toNat+1) f.toNat;rw[DK];omega
  have hup: ∀id,Giv S.A id->Giv A' id:=λid hi=>by rw[Nj];exact hi.up _ _
  have Nv: ∀o,o∈A'.os->o=Ar.newO S.A k z f\/o∈S.A.os:=λo ho=>by rw[Nj] at ho;exact Zt ho
  have fH:KdA A' k (Ar.nextD S.A f):=λ_=>⟨λo ho e=>by
   rcases Nv o ho with rfl|ho
   ·rfl
   ·exact absurd (by rw[<-e];exact(h.ob o ho).2) h4,hg⟩
  rw[<-Nj];have e1: ∀X n,(eh (iz (nh {S with A:=A'} k z f) n X) k X).A=A':=λX n=>by rw[(oM ..).1,(oN ..).1,(fy ..).1]
  refine⟨⟨?_,?_,?_,?_,?_⟩,λ_=>by rw[e1];exact fH⟩
  ·refine Aby ?_;rw[(oN ..).2,(fy ..).2.2];exact h.rz
  ·rw[e1,Nj];exact h.n
  ·rw[(Abv ..),(Abw ..),(Abx ..)];exact h.rg
  ·rw[e1];intro o ho;rcases Nv o ho with rfl|ho
   ·exact⟨h3,hg⟩
   ·exact⟨(h.ob o ho).1,hup _ (h.ob o ho).2⟩
  ·rw[e1,(oM ..).2];intro c hc hk h0;rcases oO hc with h8|h8
   ·exact absurd h8 hk
   rw[(fy ..).2.1] at h8;have h9:=h.cap c h8 hk h0;refine⟨λo ho e=>?_,hup _ h9.2⟩;rcases Nv o ho with rfl|ho
   ·exact absurd (by rw[show Ar.nextD S.A f=c.obj from e];exact h9.2) h4
   ·exact h9.1 o ho e
 ·rw[Ab hc,fu S k z f hc];exact⟨h,λ_ h0=>absurd rfl h0⟩
theorem oP(h:GoodK S)(x:Ck)(k z f:Int)(q:Int×Ck):GoodK (LP x k z f S q):=by
 obtain⟨h1,h2⟩:=i8 h k z (f+q.1);unfold LP;refine⟨h1.rz,h1.n,h1.rg,h1.ob,λc hc hk=>?_⟩;rcases UE hc with e|e
 ·subst e;exact h2 hk
 ·exact h1.cap c e hk
theorem oQ(h:GoodK S)(id:Int):GoodK (Ui S id).2:=by
 have hd: ∀c,J9 (Hx S.H.1 id).2 c->J9 S.H.1 c:=λc ⟨x,hx,hc⟩=>by
  unfold Hx at hx
  split at hx
  ·exact⟨x,hx,hc⟩
  split at hx
  ·exact⟨x,(Co.1 hx).1,hc⟩
  ·exact⟨x,hx,hc⟩
 have h1:GoodK {S with H:=((Hx S.H.1 id).2,S.H.2)}:=⟨h.rz,h.n,h.rg,h.ob,λc hc=>h.cap c (hd c hc)⟩
 unfold Ui
 split
 ·exact h
 split
 ·exact h1
 ·have h2:GoodK {S with H:=((Hx S.H.1 id).2,S.H.2),T:=(Th.dropD S.T id).2}:=⟨λt ht=>by
   have ht:t∈(Th.dropD S.T id).2:=ht;unfold Th.dropD at ht
   split at ht
   ·exact h.rz t (Co.1 ht).1
   ·exact h.rz t ht,h.n,h.rg,h.ob,h1.cap⟩
  have h3:GoodK {S with H:=((Hx S.H.1 id).2,S.H.2),A:=(Ar.dropD S.A id).2,T:=(Th.dropD S.T id).2}:=by
   unfold Ar.dropD
   split
   ·exact h2.ar _ λo ho=>⟨o,E1 ho,rfl,rfl⟩
   ·exact h2
  exact h3.ext rfl rfl rfl rfl
theorem good_cl:Cl GoodK where
 free:=λ_ _ _ _ _ _ h=>h.ext rfl rfl rfl rfl
 core:=λ{S K} h hK=>⟨h.rz,h.n,λc hc=>by
  rcases hK c hc with⟨d,hd,e1,e2⟩|e
  ·rw[e1,e2];exact h.rg d hd
  ·exact e,h.ob,h.cap⟩
 set:=λ{S t} h ht=>⟨λu hu=>by
  have hu:u∈(Th.setD S.T t).2:=hu;unfold Th.setD at hu
  split at hu
  ·obtain⟨y,hy,rfl⟩:=Au.1 hu
   split
   ·exact ht
   ·exact h.rz y hy
  ·exact h.rz u hu,h.n,h.rg,h.ob,h.cap⟩
 rz:=λ{S} h id=>by
  show y3 ((Th.findH S.T id).getD Th.thZ);cases e:Th.findH S.T id with
  |none=>exact λ_=>⟨rfl,rfl,rfl⟩
  |some t=>exact h.rz t (BK e)
 hold:=λh hH=>⟨h.rz,h.n,h.rg,h.ob,h.hd hH⟩
 place:=λ{S} id a b c h=>by
  unfold Ar.placeD
  split
  ·rename_i k hk
   split
   ·exact h
   split
   ·exact h
   ·exact h.ar _ (QL hk (λo=>Ar.setPl o a b c) (λ_=>rfl) λ_=>rfl)
  ·exact h
 mark:=λ{S} id m h=>by
  unfold Ar.markD'
  split
  ·rename_i k hk
   split
   ·exact h
   split
   ·exact h
   ·exact h.ar _ (QL hk (λo=>Ar.setMa o m) (λ_=>rfl) λ_=>rfl)
  ·exact h
 unm:=λid h=>oQ h id
 one:=λx k z f q h=>oP h x k z f q
end
end Go.Proofs.YtlifcingifodfaaGreat
