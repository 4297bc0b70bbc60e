/- Laws that the statement's proof leans on (joined out of several texts). -/
import Derived.Test.YtlkgekpmileobaaGreatGd13
set_option maxHeartbeats 4000000
set_option linter.unusedVariables false
set_option linter.unusedSimpArgs false
namespace Go.Proofs.YtlkgekpmileobaaGreat
open Tryz
open List(toArray replicate)
open Go.RowKit
variable{C k F b wb i N T n cap:Nat}{S:KT}{p:RP}{s:RL}{c:MR}{f:FoT}{o:In}{α:Type}{cn x:Int}{G cs:List Ab}{th:List Int}{L:List FoT}{ws:List Value}{P:Program}{ro:Option Nat}{E:World}{ds:List Deferred}{e:Oe}
def Uu(o:In)(i:Nat):Int:=
 match i with
 |1=>o.a
 |2=>o.b
 |4=>o.n0
 |5=>o.n1
 |6=>o.n2
 |7=>o.w
 |8=>o.ms.a
 |9=>o.ms.b
 |10=>o.ms.c
 |11=>o.ms.d
 |_=>0
def Iq(o:In)(cn:Int)(f:FoT):Int:=match f.at' with
 |none=>cn
 |some i=>Uu o i
theorem Zg(h:NH f=true)(ha:f.at'=some i):i=1\/i=2\/i=4\/i=5\/i=6\/i=7\/i=8\/i=9\/i=10\/i=11:=by rcases jS h ha with⟨_,h⟩|⟨_,h⟩<;>omega
theorem ox(h:NH f=true):Iq (GF o cn f x).1 (GF o cn f x).2 f=x:=by
 unfold Iq GF;cases ha:f.at' with
 |none=>rfl
 |some i=>rcases Zg h ha with rfl|rfl|rfl|rfl|rfl|rfl|rfl|rfl|rfl|rfl<;>rfl
theorem r7{g:FoT}(hf:NH f=true)(hg:NH g=true)(hne:f.at'≠g.at'):Iq (GF o cn f x).1 (GF o cn f x).2 g=Iq o cn g:=by
 unfold Iq GF;cases ha:f.at' with
 |none=>cases hb:g.at' with
  |none=>exact absurd (ha.trans hb.symm) hne
  |some j=>rfl
 |some i=>cases hb:g.at' with
  |none=>rfl
  |some j=>have hij:i≠j:=λh=>hne (by rw[ha,hb,h]);rcases Zg hf ha with rfl|rfl|rfl|rfl|rfl|rfl|rfl|rfl|rfl|rfl<;>rcases Zg hg hb with rfl|rfl|rfl|rfl|rfl|rfl|rfl|rfl|rfl|rfl<;>first|rfl|exact absurd rfl hij
def pO(L:List FoT):Prop:= ∀(i j:Nat) (f g:FoT),L[i]?=some f->L[j]?=some g->f.at'=g.at'->i=j
theorem Vy{c:MR}{L:List FoT}(hd:pO L)(hok: ∀f,f∈L->NH f=true): ∀(r:List Nat),r.Nodup-> ∀(o:In) (cn e:Int) (o':In) (cn':Int),VM c L r o cn e=((o',cn'),0)->
 e=0/\(∀i,i∈r->match L[i]? with
  |none=>(Gw c).getD i 0=0
  |some f=>Iq o' cn' f=(Gw c).getD i 0/\f.le<=(Gw c).getD i 0/\(Gw c).getD i 0<=f.mo)/\(∀(g:FoT) (j:Nat),L[j]?=some g->j∉r->Iq o' cn' g=Iq o cn g)
 |[],_,o,cn,e,o',cn',h=>by unfold VM at h;obtain⟨h1,h2⟩:=Prod.mk.inj h;obtain⟨rfl,rfl⟩:=Prod.mk.inj h1;exact⟨h2,λ_ h=>(nomatch h),λ_ _ _ _=>rfl⟩
 |i::r,hn,o,cn,e,o',cn',h=>by
  rw[AN] at hn;obtain⟨hi,hn⟩:=hn;rw[Pv] at h;cases hL:L[i]? with
  |none=>
   rw[hL] at h;dsimp only at h;by_cases h0:(Gw c).getD i 0=0
   ·rw[Ad h0] at h;obtain⟨h1,h2,h3⟩:=Vy hd hok r hn o cn e o' cn' h;refine⟨h1,λj hj=>?_,λg j hg hj=>h3 g j hg λhh=>hj (.tail _ hh)⟩;rcases Ap.1 hj with rfl|hj
    ·rw[hL];exact h0
    ·exact h2 j hj
   ·rw[Ac h0] at h;exact absurd (show(2:Int)=0 from BN Prod.snd h) AX
  |some f=>
   rw[hL] at h;dsimp only at h;have hf:=hok f (A6 hL);by_cases hb:(Gw c).getD i 0<f.le\/f.mo<(Gw c).getD i 0
   ·rw[Ad hb] at h;exact absurd (Vy hd hok r hn o cn 3 o' cn' h).1 AX
   ·rw[Ac hb] at h;obtain⟨h1,h2,h3⟩:=Vy hd hok r hn _ _ e o' cn' h;refine⟨h1,λj hj=>?_,λg j hg hj=>?_⟩
    ·rcases Ap.1 hj with rfl|hj
     ·rw[hL];exact⟨(h3 f _ hL hi).trans (ox hf),Af,Af⟩
     ·exact h2 j hj
    ·rw[h3 g j hg λhh=>hj (.tail _ hh)];exact r7 hf (hok g (A6 hg)) λhh=>hj (by rw[hd i j f g hL hg hh];exact .head _)
theorem oy(o:In)(i:Nat)(x:Int)(h:i≠6):(MH o i x).n2=o.n2:=by
 unfold MH
 split<;>first|rfl|exact absurd rfl h
theorem Vz{c:MR}{L:List FoT}(hL: ∀f,f∈L->f.at'≠none/\f.at'≠some 6): ∀(r:List Nat) (o:In) (cn e:Int),(VM c L r o cn e).1.2=cn/\(VM c L r o cn e).1.1.n2=o.n2
 |[],_,_,_=>⟨rfl,rfl⟩
 |i::r,o,cn,e=>by
  rw[Pv];cases h:L[i]? with
  |none=>
   dsimp only
   split
   ·exact Vz hL r _ _ _
   ·exact⟨rfl,rfl⟩
  |some f=>
   dsimp only;have hp:(GF o cn f ((Gw c).getD i 0)).2=cn/\(GF o cn f ((Gw c).getD i 0)).1.n2=o.n2:=by
    have h9:=hL f (A6 h);unfold GF;cases ha:f.at' with
    |none=>exact absurd ha h9.1
    |some j=>exact⟨rfl,oy o j _ λhj=>h9.2 (by rw[ha,hj])⟩
   split
   ·exact Vz hL r _ _ _
   ·obtain⟨h1,h2⟩:=Vz hL r (GF o cn f ((Gw c).getD i 0)).1 (GF o cn f ((Gw c).getD i 0)).2 e;exact⟨h1.trans hp.1,h2.trans hp.2⟩
def DcU(o:In):Prop:=Kr o.a/\Kr o.b/\Kr o.w
theorem DcU.put(h:DcU o)(hx:Kr x):DcU (GF o cn f x).1:=by
 obtain⟨h1,h2,h3⟩:=h;unfold GF;cases f.at' with
 |none=>exact⟨h1,h2,h3⟩
 |some i=>
  dsimp only;unfold MH
  split
  ·exact⟨hx,h2,h3⟩
  ·exact⟨h1,hx,h3⟩
  ·exact⟨h1,h2,h3⟩
  ·exact⟨h1,h2,h3⟩
  ·exact⟨h1,h2,h3⟩
  ·exact⟨h1,h2,hx⟩
  all_goals exact⟨h1,h2,h3⟩
theorem aX{c:MR}(hc:CL c){L:List FoT}: ∀(r:List Nat) (o:In) (cn e:Int),DcU o->DcU (VM c L r o cn e).1.1
 |[],_,_,_,h=>h
 |i::r,o,cn,e,h=>by
  rw[Pv];cases L[i]? with
  |none=>
   dsimp only
   split
   ·exact aX hc r _ _ _ h
   ·exact h
  |some f=>
   dsimp only
   split
   ·exact aX hc r _ _ _ h
   ·exact aX hc r _ _ _ (h.put (Zf c hc i))
def jU(L:List FoT):Bool:=decide ((L.map FoT.at').Nodup)
theorem oz(h:jU L=true):pO L:=by
 intro i j f g hf hg he;have hn:(L.map FoT.at').Nodup:=by simpa[jU] using h
 refine(List.getElem?_inj (l:=L.map FoT.at') (by rw[A3];exact(Ay.1 hf).1) hn).1 ?_;rw[A0,A0,hf,hg,BL,BL,he]
theorem jV{op:Int}(h:Pt op=some L):jU L=true/\(op≠1->L.all (λf=>f.at' !=none&&f.at' !=some 6)=true)/\(op=1->L=[Q6 1,Vv (some 4) 0 15,Vv (some 5) 0 64,Q6 2,Vv (some 6) 0 15,Vv none 1 4]):=by
 unfold Pt at h;by_cases h0:op=1
 ·rw[Ad h0] at h;obtain rfl:=AV h;exact⟨by decide,λh=>absurd h0 h,λ_=>rfl⟩
 rw[Ac h0] at h;by_cases h1:op=2
 ·rw[Ad h1] at h;obtain rfl:=AV h;exact⟨by decide,λ_=>rfl,λh=>absurd h h0⟩
 rw[Ac h1] at h;by_cases h2:op=3
 ·rw[Ad h2] at h;obtain rfl:=AV h;exact⟨by decide,λ_=>rfl,λh=>absurd h h0⟩
 rw[Ac h2] at h;by_cases h3:op=4\/op=5\/op=12\/op=13
 ·rw[Ad h3] at h;obtain rfl:=AV h;exact⟨by decide,λ_=>rfl,λh=>absurd h h0⟩
 rw[Ac h3] at h;by_cases h4:op=6\/op=9\/op=11\/op=21\/op=22
 ·rw[Ad h4] at h;obtain rfl:=AV h;exact⟨by decide,λ_=>rfl,λh=>absurd h h0⟩
 rw[Ac h4] at h;by_cases h5:op=7
 ·rw[Ad h5] at h;obtain rfl:=AV h;exact⟨by decide,λ_=>rfl,λh=>absurd h h0⟩
 rw[Ac h5] at h;by_cases h6:op=8
 ·rw[Ad h6] at h;obtain rfl:=AV h;exact⟨by decide,λ_=>rfl,λh=>absurd h h0⟩
 rw[Ac h6] at h;by_cases h7:op=10
 ·rw[Ad h7] at h;obtain rfl:=AV h;exact⟨by decide,λ_=>rfl,λh=>absurd h h0⟩
 rw[Ac h7] at h;by_cases h8:op=14\/op=15
 ·rw[Ad h8] at h;obtain rfl:=AV h;exact⟨by decide,λ_=>rfl,λh=>absurd h h0⟩
 rw[Ac h8] at h;by_cases h9:op=16
 ·rw[Ad h9] at h;obtain rfl:=AV h;exact⟨by decide,λ_=>rfl,λh=>absurd h h0⟩
 rw[Ac h9] at h;by_cases h10:op=17
 ·rw[Ad h10] at h;obtain rfl:=AV h;exact⟨by decide,λ_=>rfl,λh=>absurd h h0⟩
 rw[Ac h10] at h;by_cases h11:op=18
 ·rw[Ad h11] at h;obtain rfl:=AV h;exact⟨by decide,λ_=>rfl,λh=>absurd h h0⟩
 rw[Ac h11] at h;by_cases h12:op=19
 ·rw[Ad h12] at h;obtain rfl:=AV h;exact⟨by decide,λ_=>rfl,λh=>absurd h h0⟩
 rw[Ac h12] at h;by_cases h13:op=20
 ·rw[Ad h13] at h;obtain rfl:=AV h;exact⟨by decide,λ_=>rfl,λh=>absurd h h0⟩
 rw[Ac h13] at h;by_cases h14:op=23
 ·rw[Ad h14] at h;obtain rfl:=AV h;exact⟨by decide,λ_=>rfl,λh=>absurd h h0⟩
 rw[Ac h14] at h;cases h
def dV(op:Int)(o:In):In:=if op=1 then{o with n2:=o.n2%16} else o
def dW(op:Int)(o:In):Int:=if op=1 then o.n2/16 else 0
theorem jW(h:(Ca c).2=0): ∃L,Pt c.op=some L/\(Ca c).1.op=c.op/\0<=(Ca c).1.n2/\(Ca c).1.n2<=1000/\
 (∀i f,L[i]?=some f->i<6/\NH f=true/\Iq (dV c.op (Ca c).1) (dW c.op (Ca c).1) f=(Gw c).getD i 0/\f.le<=(Gw c).getD i 0/\(Gw c).getD i 0<=f.mo)/\(∀i,i<6->L.length<=i->(Gw c).getD i 0=0):=by
 cases hL:Pt c.op with
 |none=>exfalso;unfold Ca at h;rw[hL] at h;exact absurd (show(2:Int)=0 from h) AX
 |some L=>
  refine⟨L,rfl,?_⟩;obtain⟨hok,hlen⟩:=Ze hL;obtain⟨hd,hc1,hc2⟩:=jV hL;have hok': ∀f,f∈L->NH f=true:=λf hf=>AZ.1 hok f hf;obtain⟨R,hR⟩: ∃R,Ca c=R:=⟨_,rfl⟩
  rw[hR] at h⊢;unfold Ca at hR;rw[hL] at hR;dsimp only at hR;by_cases h1:c.op=1/\Vw c=false
  ·rw[Ad h1] at hR;subst hR;exact absurd (show(2:Int)=0 from h) AX
  rw[Ac h1] at hR;obtain⟨⟨⟨o,cn⟩,e⟩,hq⟩: ∃q,VM c L (List.range 6) J0 0 0=q:=⟨_,rfl⟩
  rw[hq] at hR;unfold aT at hR;dsimp only at hR;by_cases he:e=0
  case neg=>rw[Ac he] at hR;subst hR;exact absurd h he
  rw[Ad he] at hR;subst he;obtain⟨_,h2,h3⟩:=Vy (oz hd) hok' (List.range 6) List.nodup_range J0 0 0 o cn hq;have hz:¬c.op=1->cn=0/\o.n2=0:=λhop=>by have h9:=Vz (c:=c) (L:=L) (λf hf=>by simpa using AZ.1 (hc1 hop) f hf) (List.range 6) J0 0 0;rw[hq] at h9;exact h9
  have hy:c.op=1->(0<=o.n2/\o.n2<=15)/\1<=cn/\cn<=4:=λhop=>by have e1:=hc2 hop;subst e1;have g4:=h2 4 AX;have g5:=h2 5 AX;simp only[CX,CY,Iq,Uu] at g4 g5;omega
  have hx:dV c.op {o with op:=c.op,n2:=o.n2+16*cn}={o with op:=c.op}/\dW c.op {o with op:=c.op,n2:=o.n2+16*cn}=cn:=by
   unfold dV dW;by_cases hop:c.op=1
   ·obtain⟨⟨a1,a2⟩,a3,a4⟩:=hy hop;rw[Ad hop,Ad hop];dsimp only;rw[show(o.n2+16*cn)%16=o.n2 by omega];exact⟨rfl,Af⟩
   ·obtain⟨a1,a2⟩:=hz hop;rw[Ac hop,Ac hop];exact⟨by rw[show o.n2+16*cn=o.n2 by omega],a1.symm⟩
  have hb:0<=o.n2+16*cn/\o.n2+16*cn<=1000:=by
   by_cases hop:c.op=1
   ·have:=hy hop;omega
   ·have:=hz hop;omega
  subst hR;dsimp only;rw[hx.1,hx.2];refine⟨rfl,hb.1,hb.2,λi f hf=>?_,λi hi hl=>?_⟩
  ·have hi:i<L.length:=(Ay.1 hf).1;have h9:=h2 i (Er.2 Af);rw[hf] at h9;refine⟨Af,hok' f (A6 hf),?_,h9.2⟩;rw[<-h9.1];unfold Iq;cases f.at' with
   |none=>rfl
   |some j=>dsimp only;unfold Uu;split<;>rfl
  ·have h9:=h2 i (Er.2 hi);rw[Bc hl] at h9;exact h9
theorem pP(hc:CL c):DcU (Ca c).1:=by
 have hz:DcU J0:=⟨LI,LI,LI⟩
 unfold Ca;cases Pt c.op with
 |none=>exact hz
 |some L=>
  dsimp only
  split
  ·exact hz
  ·unfold aT
   split
   ·exact aX hc _ _ _ _ hz
   ·exact hz
set_option maxRecDepth 20000
theorem oC{A:List Ab}{a b c d e:Ab}{l:List Ab}:(A++(a::b::c::d::e::l)).Perm (c::a::b::d::e::(A++l)):=BR
theorem VA{v:Int}(h:Kr v):IntKind.u64.wrap v=v:=by exact Lx (OX h.1 h.2)
theorem jX(f:FoT)(hf:NH f=true)(X:In)(n:Int)(b5 b6:Nat)(hu:Kr (Iq X n f))(l:List Ab)(m5:HA b5 X∈l)(m6:BJ b6 n∈l):Fn prog 206 [.agg (toArray (S9 b5 b6 f))] l λv l'=>v=Ba (Iq X n f)/\l'=l:=by
 cases ha:f.at' with
 |none=>
  have hw:=pM hf ha;have e:S9 b5 b6 f=[Ba f.le,Ba f.mo,.pointer (some ⟨b6,0,none⟩),.pointer none]:=by unfold S9;rw[hw,ha];rfl
  have g:Iq X n f=n:=by unfold Iq;rw[ha]
  rw[g] at hu⊢;rw[e,<-VA hu];rw[VA hu];have h:=Xi f.le f.mo b6 0 (toArray [iV n]) 3 (0,0) n l m6 rfl;rw[VA hu] at h;exact h
 |some i=>
  have g:Iq X n f=Uu X i:=by unfold Iq;rw[ha]
  rw[g] at hu⊢;rcases jS hf ha with⟨hw,hi⟩|⟨hw,hi⟩
  ·have e:S9 b5 b6 f=[Ba f.le,Ba f.mo,.pointer none,.pointer (some ⟨b5,i,none⟩)]:=by unfold S9;rw[hw,ha];rfl
   rw[e];exact jO f.le f.mo b5 i (toArray (Qr X)) 57 (0,0) (Uu X i) l m5 (by rcases hi with rfl|rfl|rfl|rfl|rfl<;>rfl)
  ·have e:S9 b5 b6 f=[Ba f.le,Ba f.mo,.pointer (some ⟨b5,i,none⟩),.pointer none]:=by unfold S9;rw[hw,ha];rfl
   rw[e];have h:=Xi f.le f.mo b5 i (toArray (Qr X)) 57 (0,0) (Uu X i) l m5 (by rcases hi with rfl|rfl|rfl|rfl|rfl<;>rfl);rw[VA hu] at h;exact h
instance:EQ prog 57 [some .i64,some .i64,some .i64,some .i64,some .i64,some .i64,some .i64,some .u64,some .u64,some .u64,some .u64,some .u64]:=⟨Bs⟩
abbrev s6(B:Nat)(ws:List Value):Ab:=(B,.cells (toArray ws) 37 (0,0))
abbrev s7:MR:=⟨0,0,0,0,0,0,0⟩
structure EnW(c:MR)(k:Nat)(ws:List Value):Prop where
 len:ws.length=7
 op:ws[0]?=some (Ba c.op)
 ar: ∀j,j<6->ws[1+j]?=some (Ba (if j<k then(Gw c).getD j 0 else 0))
theorem EnW.next(h:EnW c k ws)(hk:k<6):EnW c (k+1) (ws.set (1+k) (Ba ((Gw c).getD k 0))):=by
 refine⟨by rw[Cv];exact h.len,by rw[FD Af];exact h.op,λj hj=>?_⟩;by_cases hjk:j=k
 ·subst hjk;rw[DR (by rw[h.len];omega),Ad Af]
 ·rw[FD Af,h.ar j hj];by_cases hlt:j<k
  ·rw[Ad hlt,Ad Af]
  ·rw[Ac hlt,Ac Af]
theorem EnW.all(h:EnW c k ws)(hz: ∀i,i<6->k<=i->(Gw c).getD i 0=0):ws=fo c:=by
 have hj: ∀j,j<6->ws[1+j]?=some (Ba ((Gw c).getD j 0)):=λj hj=>by
  rw[h.ar j hj];by_cases hlt:j<k
  ·rw[Ad hlt]
  ·rw[Ac hlt,hz j hj Af]
 have hl:=h.len;have h0:=h.op
 match ws,hl with
 |[a,b,c1,d,e,f,g],_=>have j0:=hj 0 AX;have j1:=hj 1 AX;have j2:=hj 2 AX;have j3:=hj 3 AX;have j4:=hj 4 AX;have j5:=hj 5 AX;simp[Gw] at h0 j0 j1 j2 j3 j4 j5;rw[h0,j0,j1,j2,j3,j4,j5]
theorem Zh(c:MR)(hc:CL c)(h0:(Ca c).2=0)(l:List Ab):Fn prog 158 [v6 (Ca c).1] l λv l'=>v= .tuple #[li c,iV 0]/\l'=l:=by
 obtain⟨L,hL,hop,hn0,hn1,hg,hz⟩:=jW h0;have hdec:=λl=>SL c hc l;obtain⟨o,ho⟩: ∃o,(Ca c).1=o:=⟨_,rfl⟩
 simp only[ho,h0] at hop hn0 hn1 hg hdec⊢;obtain⟨hfo,hlen⟩:=Ze hL;obtain⟨p1,p2⟩:=jR hL;obtain⟨X,hX⟩: ∃X,dV c.op o=X:=⟨_,rfl⟩
 obtain⟨n,hn⟩: ∃n,dW c.op o=n:=⟨_,rfl⟩
 rw[hX,hn] at hg;unfold dV at hX;unfold dW at hn;rw[<-hop] at p1 p2 hX hn;have z2:(toArray (Qr o))[4+(2:Int).toNat*1]?=some (iV o.n2):=rfl;refine AM func158 ntmps158 λE=>?_;refine AO λb1=>?_;refine AO λb2=>?_;refine AO λb4=>?_;refine AO λb5=>?_;refine AO λb6=>?_;refine Ql (α:=Unit) (λ_=>[(1,pV b1),(2,pV b2),(4,pV b4),(5,pV b5),(6,pV b6)]) (λ_=>BJ b6 n::HA b5 X::s6 b4 (fo {s7 with op:=c.op})::s6 b2 (fo s7)::HA b1 o::l) (λ_=>True) ?_ ?_
 ·by_cases h1:o.op=1
  ·rw[Ad h1] at hX hn;subst hX hn;refine Aj ?_;refine Ch [10,11] 12 ([HA b1 o]) ?_ (hR:=(To BS));refine BM ?_;refine M2 (F0 (cs:=Qr o) (cs':=Qr {o with n2:=o.n2%16}) (l':=BJ b6 0::HA b5 {o with n2:=o.n2%16}::s6 b4 (fo {s7 with op:=o.op})::s6 b2 (fo s7)::HA b1 o::l) rfl rfl rfl (by exact BS) (by exact .succ (.succ (.succ (.succ (.succ (.succ .zero)))))) (by exact DI)) rfl rfl ?_ ?_
   ·rintro _ _ ⟨_,rfl⟩;exact To BS
   rintro _ _ ⟨rfl,rfl⟩;refine BM ?_;refine Aj ?_;exact Ek () trivial ⟨rfl,rfl,rfl,rfl,rfl,trivial⟩ (by rw[<-hop];exact .refl)
  ·rw[Ac h1] at hX hn;subst hX hn;refine Aj ?_;exact Ek () trivial ⟨rfl,rfl,rfl,rfl,rfl,trivial⟩ (by rw[<-hop];exact .refl)
 rintro- -;refine Aj ?_;refine AP (Az rfl rfl (Ut c.op b5 b6 _)) ?_;rw[hL];rintro _ _ ⟨sl,cs,rfl,hos,rfl⟩;obtain⟨pp,cap,rfl⟩:=hos.shape;refine Bk (.of_perm oC) ?_;refine Aj ?_;refine CE (α:=Nat×List Value) (λz=>[(1,pV b1),(2,pV b2),(4,pV b4),(47,.slice pp L.length cap),(48,.int .i64 (L.length:Nat)),(49,.int .i64 z.1)]) (λz=>s6 b4 z.2::BJ b6 n::HA b5 X::s6 b2 (fo s7)::HA b1 o::(cs++l)) (λz=>z.1<=L.length/\EnW c z.1 z.2) (λz=>L.length-z.1) (0,fo {s7 with op:=c.op}) ⟨Bl _,rfl,rfl,λj hj=>by
  have:j=0\/j=1\/j=2\/j=3\/j=4\/j=5:=by omega
  rcases this with rfl|rfl|rfl|rfl|rfl|rfl<;>rfl⟩ ⟨rfl,rfl,rfl,rfl,rfl,rfl,trivial⟩ .refl ?_
 rintro⟨k,ws⟩ ⟨hk,hw⟩;simp only at hk hw⊢;by_cases hlt:k<L.length
 ·obtain⟨f,hf⟩: ∃f,L[k]?=some f:=⟨_,Al hlt⟩
  obtain⟨hk6,hfo2,hgf,_⟩:=hg k f hf;obtain⟨gb,cap2,sp,h2,rfl⟩:=Mr hos Af;cases h2;obtain⟨x1,x2⟩:=aV (k:=4) (enc:=S9 b5 b6) (λ_=>rfl) hf sp;have hu:=Zf c hc k;rw[<-hgf] at hu;have hnx:=hw.next hk6;have hl7:=hw.len;obtain⟨p,q,hpq⟩: ∃p q:Option Addr,S9 b5 b6 f=[Ba f.le,Ba f.mo,.pointer p,.pointer q]:=by unfold S9 xe;cases f.wd<;>cases f.at'<;>exact⟨_,_,rfl⟩
  rw[hpq] at x2;have hgt:=λl m5 m6=>jX f hfo2 X n b5 b6 hu l m5 m6;rw[hpq] at hgt;rw[Cb];refine Aj ?_;refine Bb (Dn rfl (by exact BS) x1 x2) ?_;refine AO λb10=>?_;refine oX (v:=Ba (Iq X n f)) (by refine AJ (vs:=[.agg (toArray [Ba f.le,Ba f.mo,.pointer p,.pointer q])]) rfl rfl λl2 hl=>?_;exact hgt l2 (hl _ (by exact BS)) (hl _ (by exact BS))) rfl rfl rfl ?_
  refine Aj ?_;refine Mu (Dg (cs:=toArray ws) (T:=37) (off:=1+k*1) (l':=(b10,_)::(b4,.cells ((toArray ws).setIfInBounds (1+k*1) (Ba (Iq X n f))) 37 (0,0))::_) rfl rfl rfl (by exact DI) (by rw[Bn];omega)) rfl rfl ?_;rintro _ _ ⟨rfl,rfl⟩;rw[hgf,Df,Bt];refine Aj ?_;exact BV (k+1,_) ⟨by simp only;omega,hnx⟩ (by simp only;omega) ⟨rfl,rfl,rfl,rfl,rfl,rfl,trivial⟩ (.drop .refl)
 ·obtain rfl:k=L.length:=by omega
  obtain rfl:=hw.all hz;refine Aj ?_;refine Bb (AJ (vs:=[li c]) rfl rfl λl2 hl=>hdec l2) ?_;refine AO λb11=>?_;refine Mv (fY rfl rfl (ks:=[some .i64,some .i64,some .i64,some .i64,some .i64,some .i64,some .i64,some .u64,some .u64,some .u64,some .u64,some .u64]) (HT (by rfl))) rfl rfl rfl ?_;refine Aj ?_;exact AW (vs:=[li c,iV 0]) [] _ rfl .refl (Cz rfl (by exact BS) (As.LSub.of_all (n:=7) (fo c) rfl) (by exact A8)) (.drop (.drop (.drop (.drop (.drop (.drop (Keep.dropL' cs .refl))))))) ⟨rfl,rfl⟩
theorem r8(hc:CL c)(h0:(Ca c).2=0):OB (Ca c).1:=by obtain⟨L,hL,hop,hn0,hn1,hg,_⟩:=jW h0;refine⟨(pP hc).2.2,λ_=>⟨hn0,hn1⟩,λh=>?_⟩;rw[<-hop,h] at hL;obtain rfl:[Q6 1,Vv (some 4) 0 2,Q6 2]=L:=AV hL;obtain⟨_,_,h1,h2,h3⟩:=hg 1 _ rfl;rw[<-hop,h] at h1;have e:Iq (dV 19 (Ca c).1) (dW 19 (Ca c).1) (Vv (some 4) 0 2)=(Ca c).1.n0:=rfl;rw[e] at h1;rw[h1];exact⟨h2,h3⟩
def ordE(S:KT)(t:Int)(o:In)(x y:Ce):(List GJ×Int)×KT:=match LL S t o x with
 |some r=>r
 |none=>if(I3 S t o x y).1=0 then(([MC t],0),(I3 S t o x y).2) else(([],(I3 S t o x y).1),(I3 S t o x y).2)
def J3(S:KT)(t:Int)(o:In):(List GJ×Int)×KT:=
 if My S t=false\/¬(DB S t).st=1 then(([],2),S)
 else if(Hr o.op).1=true/\¬(Hq S t o.a).2=0 then(([],(Hq S t o.a).2),S)
 else if(Hr o.op).2=true/\¬(Hq S t o.b).2=0 then(([],(Hq S t o.b).2),S)
 else ordE S t o (if(Hr o.op).1=true then(Hq S t o.a).1 else(0,0)) (if(Hr o.op).2=true then(Hq S t o.b).1 else(0,0))
section
theorem oD(hK:IsK F C (k+8) S p s)(kb:Nat)(hk:Ot kb b∈G)(t:Int)(c:MR)(hc:CL c)(h0:(Ca c).2=0):Fn prog 108 [pV kb,.int .i64 t,v6 (Ca c).1] (Aw b p s S G) (KN F C b p k (J3 S t (Ca c).1).1.1 (J3 S t (Ca c).1).1.2 (J3 S t (Ca c).1).2 G):=by
 have mr:Cw b p∈Aw b p s S G:=mR λ_ h=>h;have mk:Ot kb b∈Aw b p s S G:=mG (λ_ h=>h) _ hk;have hob:=r8 hc h0;obtain⟨⟨_,ha⟩,⟨_,hb⟩,_⟩:=pP hc;have henc:=λl=>Zh c hc h0 l;obtain⟨o,ho⟩: ∃o,(Ca c).1=o:=⟨_,rfl⟩
 simp only[ho] at hob ha hb henc⊢;obtain⟨R,hR⟩: ∃R,J3 S t o=R:=⟨_,rfl⟩
 rw[hR];unfold J3 at hR;refine AM func108 ntmps108 λE=>?_;refine AO λb5=>?_;refine El ?_;refine Aj ?_;refine El ?_;obtain⟨u,hu⟩: ∃u,DB S t=u:=⟨_,rfl⟩
 obtain⟨ok,hok⟩: ∃k,My S t=k:=⟨_,rfl⟩
 rw[hok,hu] at hR;try rw[hu,show(Th.findH S.T t).isSome=ok from hok]
 refine AO λb8=>?_;refine Bb (AJ (vs:=[v6 o]) rfl rfl λl2 _=>henc l2) ?_;refine AO λb10=>?_;have ad1:AD o.a:=⟨ha⟩
 have ad2:AD o.b:=⟨hb⟩
 cases ok with
 |false=>rw[Ad (.inl rfl)] at hR;subst hR;refine Aj ?_;exact Fx
 |true=>
 by_cases h1:u.st=1
 case neg=>rw[Ad (.inr h1)] at hR;subst hR;refine Aj ?_;exact Fx
 rw[Ac (by simp[h1])] at hR;refine Aj ?_;refine Cn (Ck [7,8] 0 9) ?_;refine Cs ?_;refine Hm e_alloc (by rintro _ _ ⟨_,_,_,rfl⟩ c hc;exact .tail _ hc) ?_;rintro _ _ ⟨b12,_,rfl,rfl⟩;refine Cs ?_;refine Aj ?_;refine El ?_;obtain⟨⟨p1,p2⟩,hp⟩: ∃q,Hr o.op=q:=⟨_,rfl⟩
 rw[hp] at hR;try rw[hp]
 dsimp only at hR;simp only[AL,AK,AQ];refine Aj ?_;obtain⟨x,hx⟩: ∃x,(if p1=true then(Hq S t o.a).1 else(0,0))=x:=⟨_,rfl⟩
 obtain⟨y,hy⟩: ∃y,(if p2=true then(Hq S t o.b).1 else(0,0))=y:=⟨_,rfl⟩
 rw[hx,hy] at hR;by_cases hf1:p1=true/\¬(Hq S t o.a).2=0
 ·rw[Ad hf1] at hR;subst hR;obtain⟨rfl,hf2⟩:=hf1;refine Aj ?_;refine Cn (Ck [12] 0 14) ?_;refine Cs ?_;simp only[AL,AK,AQ];refine Aj ?_;exact Fx
 rw[Ac hf1] at hR;refine Ql (α:=Unit) (λ_=>[(0,pV kb),(1,iV t),(5,pV b5),(12,pV b12),(14,.bool p2)]) (λ_=>VL b12 b t o x (0,0)::HA b5 o::Aw b p s S G) (λ_=>True) ?_ ?_
 ·cases p1 with
  |false=>rw[Ac AX] at hx;subst hx;refine Aj ?_;exact Ek () trivial ⟨rfl,rfl,rfl,rfl,rfl,trivial⟩ (by exact AS)
  |true=>
   have hf2:(Hq S t o.a).2=0:=by simpa using hf1
   rw[Ad rfl] at hx;refine Aj ?_;refine Cn (Ck [12] 0 14) ?_;refine Cs ?_;simp only[AL,AK,AQ];rw[hf2];subst hx;refine Aj ?_;exact Ek () trivial ⟨rfl,rfl,rfl,rfl,rfl,trivial⟩ (by exact AS)
 rintro- -;by_cases hf3:p2=true/\¬(Hq S t o.b).2=0
 ·rw[Ad hf3] at hR;subst hR;obtain⟨rfl,hf2⟩:=hf3;refine Aj ?_;refine Cn (Ck [12] 0 14) ?_;refine Cs ?_;simp only[AL,AK,AQ];refine Aj ?_;exact Fx
 rw[Ac hf3] at hR;refine Aj ?_;refine Ql (α:=Unit) (λ_=>[(0,pV kb),(1,iV t),(12,pV b12)]) (λ_=>VL b12 b t o x y::Aw b p s S G) (λ_=>True) ?_ ?_
 ·cases p2 with
  |false=>rw[Ac AX] at hy;subst hy;refine Aj ?_;exact Ek () trivial ⟨rfl,rfl,rfl,trivial⟩ (by exact AS)
  |true=>
   have hf2:(Hq S t o.b).2=0:=by simpa using hf3
   rw[Ad rfl] at hy;refine Aj ?_;refine Cn (Ck [12] 0 14) ?_;refine Cs ?_;simp only[AL,AK,AQ];rw[hf2];subst hy;refine Aj ?_;exact Ek () trivial ⟨rfl,rfl,rfl,trivial⟩ (by exact AS)
 rintro- -;refine Aj ?_;refine Bk (.of_perm (ET b p s S [VL b12 b t o x y] G)) ?_;refine AP (Az (vs:=[NF b t o x y]) rfl rfl (rR (k:=k+6) hK t o x y)) ?_;unfold ordE at hR;cases hsy:LL S t o x with
 |some r=>rw[hsy] at hR;dsimp only at hR;subst hR;rintro _ _ ⟨sl,cs,s1,L1,rfl,ho1,hK1,hT1,rfl⟩;obtain⟨L2,hL2,hp2⟩:=GD (b:=b) (p:=p) (s:=s1) (S:=r.2) hT1;refine Aj ?_;exact AW (vs:=[sl,iV r.1.2]) [] _ rfl .refl (by exact A8) (.trans (.of_perm (hp2.append_left cs)) Q5) ⟨sl,cs,s1,L2,rfl,ho1,hK1.mono Af,hL2,rfl⟩
 |none=>
  rw[hsy] at hR;dsimp only at hR;rintro _ _ ⟨rfl,s1,L1,hK1,hT1,rfl⟩;obtain⟨L2,hL2,hp2⟩:=GD (b:=b) (p:=p) (s:=s1) (S:=S) hT1;refine Bk (.of_perm hp2) ?_;rw[Cb];have mr1:Cw b p∈Aw b p s1 S L2:=mR λ_ h=>h;have ek:EK prog F C b p 162 [NF b t o x y] (k+8) S k (iV (I3 S t o x y).1) (I3 S t o x y).2:=⟨λs G h=>rX h t o x y hob⟩
  refine Aj ?_;refine FI ?_;intro S2 s2 L3 hS2 hK2 hT2 mr2;rw[<-hS2] at hR;refine Aj ?_;by_cases h9:(I3 S t o x y).1=0
  case neg=>rw[Ac h9] at hR;subst hR;refine Aj ?_;exact Fx
  rw[Ad h9] at hR;subst hR;refine Aj ?_;refine AP (Fb (ws:=Qi (MC t)) (k:=12) rfl rfl rfl AX AX) ?_;rintro _ _ ⟨bn,_,rfl,rfl⟩;refine Aj ?_;exact AW [] _ rfl .refl (by exact A8) (l':=[Tq bn (MC t)]++Aw b p s2 S2 L3) (by exact AS) ⟨_,_,s2,L3,rfl,⟨rfl,.inr ⟨bn,1,[],rfl,rfl,A7 _,by unfold maxLen;omega,rfl⟩⟩,hK2,hT2.trans hL2,rfl⟩
end
class fq(e:Oe):Prop where
 cl:CL e.cl
 va:Kr e.va
 vl:Kr e.vl
abbrev VB(t co:Int):GJ:=⟨t,co,0,sW,0,false,0,0,false⟩
def NI(S:KT)(t:Int)(c:MR):(List GJ×Int)×KT:=
 if(Ca c).2=0 then(if(J3 S t (Ca c).1).1.2=0 then(((J3 S t (Ca c).1).1.1,0),(J3 S t (Ca c).1).2) else(([VB t (J3 S t (Ca c).1).1.2],0),(J3 S t (Ca c).1).2))
 else(([VB t (Ca c).2],0),S)
def JO(S:KT)(e:Oe):(List GJ×Int)×KT:=
 if e.co<0\/(S.K.length:Int)<=e.co then(([],3),S)
 else if My S (Lh S.U e.co)=false then(([],19),S)
 else if(DB S (Lh S.U e.co)).hs=true then Od S e.co
 else if e.kd=3 then MQ S e.co ⟨false,false,e.va,0⟩
 else if e.kd=4 then MQ S e.co ⟨false,true,e.va,e.vl⟩
 else NI S (DB S (Lh S.U e.co)).id e.cl
abbrev OQ(B:Nat)(e:Oe):Ab:=(B,.cells (toArray (Zb e)) 39 (0,0))
def aY(e:Oe):Nat:=if e.kd=3\/e.kd=4 then 2 else 8
section
section
variable{ops:Array Oper}{Q:Exit->Act->World->Prop}{fr:Fr}{l:List Ab}{d f k':Nat}{x:Operand}{xs:List Operand}{vs:List Value}{at_:Array TypeId}{ty:TypeId}{pos:String}{aft:Array Edge}{S':KT}{ns:List GJ}{co:Int}{tbl:List (List Nat)}{sp:Fj}{pl:List BF}{gg:Bool}
theorem xj{Γ:List Ab->List Ab}(h: ∀G,Fn P f vs (Aw b p s S G) (KN F C b p k' ns co S' G))(hk: ∀sl cs S1 s' L,S1=S'->OwnSl 69 12 sl ns.length (GK ns) cs->IsK F C k' S1 p s'->Tail L (cs++G)->Cw b p∈Aw b p s' S1 L->MP P ro N E ops Q tbl false sp pl ((d,.tuple #[sl,iV co])::fr) ds (Γ (Aw b p s' S1 L)))(hx:ev fr x=some (.func (.func f) #[] #[]):=by rfl)(hy:Qm fr xs=some vs:=by rfl)(hF:Fr1 (Aw b p s S G) l Γ:=by exact Z9)(c:EN P f:=by infer_instance)(hb:Nat.blt d N=true:=by rfl)(ha:(sp.map Prod.fst).all (λq=>Fl tbl i q)=true:=by kernel_rfl):MP P ro N E ops Q tbl gg sp ((i,false,⟨some d,.call {callee:= .value x,args:=xs.toArray,argTypes:=at_},ty,pos,aft,none⟩)::pl) fr ds l:=by obtain⟨A,rfl,hA⟩:=hF.eq;refine JS (Az hx hy (Fn.re (.of_perm (ET b p s S A G)) (h (A++G)) (K':=λv l'=> ∃sl cs s' L,v= .tuple #[sl,iV co]/\OwnSl 69 12 sl ns.length (GK ns) cs/\IsK F C k' S' p s'/\Tail L (cs++G)/\l'=Γ (Aw b p s' S' L)) λv l' ⟨sl,cs,s',L,h1,h2,h3,⟨X,h4⟩,h5⟩=>⟨Γ (Aw b p s' S' (X++(cs++G))),?_,sl,cs,s',_,h1,h2,h3,⟨X,rfl⟩,rfl⟩)) (λv l' ⟨sl,cs,s',L,h1,h2,h3,h4,h5⟩=>by rw[h1,h5];exact hk sl cs S' s' L rfl h2 h3 h4 (mR λ_ h=>h)) rfl rfl hb ha;rw[h5,h4,hA];refine .of_perm ?_;unfold Aw;exact BR
end
theorem sa(e:Oe)(hK:IsK F C (k+aY e) S p s)(kb:Nat)(hk:Ot kb b∈G)(he:fq e):Fn prog 71 [pV kb,OO e] (Aw b p s S G) (KN F C b p k (JO S e).1.1 (JO S e).1.2 (JO S e).2 G):=by
 have mr:Cw b p∈Aw b p s S G:=mR λ_ h=>h;have mk:Ot kb b∈Aw b p s S G:=mG (λ_ h=>h) _ hk;have htw:=Y9 hK e.co;have uva:U6 e.va:=⟨he.va⟩
 have uvl:U6 e.vl:=⟨he.vl⟩
 have hcl:=he.cl;obtain⟨R,hR⟩: ∃R,JO S e=R:=⟨_,rfl⟩
 rw[hR];unfold JO at hR;refine AM func71 ntmps71 λE=>?_;refine AO λb3=>?_;by_cases h1:e.co<0
 ·rw[Ad (.inl h1)] at hR;subst hR;refine Ch [] 14 _ ?_ (hR:=(λ_ h=>h));refine BM ?_;refine Aj ?_;exact Fx
 refine Ch [] 14 _ ?_ (hR:=(λ_ h=>h));refine BM ?_;refine TK ?_;refine BM ?_;refine TK ?_;refine BM ?_;refine Aj ?_;by_cases h2:(S.K.length:Int)<=e.co
 ·rw[Ad (.inr h2)] at hR;subst hR;refine Aj ?_;exact Fx
 rw[Ac Af] at hR;refine Aj ?_;refine Cn (Ck [16,17] 0 19) ?_;refine Cs ?_;obtain⟨u,hu⟩: ∃u,DB S (Lh S.U e.co)=u:=⟨_,rfl⟩
 obtain⟨ok,hok⟩: ∃k,My S (Lh S.U e.co)=k:=⟨_,rfl⟩
 rw[hok,hu] at hR;try rw[hu,show(Th.findH S.T (Lh S.U e.co)).isSome=ok from hok]
 try simp only[AL,AK,AQ]
 refine Hm e_alloc (by rintro _ _ ⟨_,_,_,rfl⟩ c hc;exact .tail _ hc) ?_;rintro _ _ ⟨b6,_,rfl,rfl⟩;refine Cs ?_;try simp only[AL,AK,AQ]
 refine Aj ?_;cases ok with
 |false=>rw[Ad rfl] at hR;subst hR;refine Aj ?_;exact Fx
 |true=>
 rw[Ac AX] at hR;have hK2:IsK F C (k+2) S p s:=hK.mono (by unfold aY;split<;>omega);cases hhs:u.hs with
 |true=>
  rw[Ad hhs] at hR;subst hR;refine Aj ?_;refine Cn (Ck [6] 0 11) ?_;refine Cs ?_;refine xj (vs:=[pV b,.int .i64 e.co]) (λG=>uY hK2 e.co) ?_;intro sl cs S1 s1 L1 hS1 ho1 hK1 hT1 mr1;refine Cs ?_;try simp only[AL,AK,AQ]
  refine Aj ?_;obtain⟨L4,hL4,hp4⟩:=GD (b:=b) (p:=p) (s:=s1) (S:=S1) hT1;exact AW [] _ rfl .refl (by exact A8) (.drop (.drop (.of_perm hp4))) ⟨sl,cs,s1,L4,rfl,ho1,by rw[<-hS1];exact hK1,hL4,by rw[<-hS1]⟩
 |false=>
 rw[Ac (by rw[hhs];decide)] at hR;by_cases h3:e.kd=3
 ·rw[Ad h3] at hR;subst hR;have hva:U6 (⟨false,false,e.va,0⟩:P0).va:=uva;have hvl:U6 (⟨false,false,e.va,0⟩:P0).vl:=⟨LI⟩
  refine Aj ?_;refine Cn (Ck [9] 0 14) ?_;refine Cs ?_;refine xj (vs:=[pV b,.int .i64 e.co,rP ⟨false,false,e.va,0⟩]) (λG=>jJ hK2 e.co ⟨false,false,e.va,0⟩) ?_;intro sl cs S1 s1 L1 hS1 ho1 hK1 hT1 mr1;refine Cs ?_;try simp only[AL,AK,AQ]
  refine Aj ?_;obtain⟨L4,hL4,hp4⟩:=GD (b:=b) (p:=p) (s:=s1) (S:=S1) hT1;exact AW [] _ rfl .refl (by exact A8) (.drop (.drop (.of_perm hp4))) ⟨sl,cs,s1,L4,rfl,ho1,by rw[<-hS1];exact hK1,hL4,by rw[<-hS1]⟩
 rw[Ac h3] at hR;by_cases h4:e.kd=4
 ·rw[Ad h4] at hR;subst hR;have hva:U6 (⟨false,true,e.va,e.vl⟩:P0).va:=uva;have hvl:U6 (⟨false,true,e.va,e.vl⟩:P0).vl:=uvl;refine Aj ?_;refine Cn (Ck [11] 0 16) ?_;refine Cs ?_;refine xj (vs:=[pV b,.int .i64 e.co,rP ⟨false,true,e.va,e.vl⟩]) (λG=>jJ hK2 e.co ⟨false,true,e.va,e.vl⟩) ?_;intro sl cs S1 s1 L1 hS1 ho1 hK1 hT1 mr1;refine Cs ?_;try simp only[AL,AK,AQ]
  refine Aj ?_;obtain⟨L4,hL4,hp4⟩:=GD (b:=b) (p:=p) (s:=s1) (S:=S1) hT1;exact AW [] _ rfl .refl (by exact A8) (.drop (.drop (.of_perm hp4))) ⟨sl,cs,s1,L4,rfl,ho1,by rw[<-hS1];exact hK1,hL4,by rw[<-hS1]⟩
 rw[Ac h4] at hR;have hK8:IsK F C (k+8) S p s:=hK.mono (by unfold aY;rw[Ac Af];omega);unfold NI at hR;have hord:=λ(G:List Ab) (hk:Ot kb b∈G) h0=>oD (G:=G) hK8 kb hk u.id e.cl hcl h0;refine Aj ?_;refine Bb (AJ (vs:=[li e.cl]) rfl rfl λl2 _=>SL e.cl hcl l2) ?_;obtain⟨⟨o,d⟩,hd⟩: ∃D,Ca e.cl=D:=⟨_,rfl⟩
 rw[hd] at hR⊢;simp only[hd] at hord;dsimp only at hR⊢;refine AO λb8=>?_;by_cases h5:d=0
 case neg=>rw[Ac h5] at hR;subst hR;refine Aj ?_;refine AP (Fb (ws:=Qi (VB u.id d)) (k:=12) rfl rfl rfl AX AX) ?_;rintro _ _ ⟨bn,_,rfl,rfl⟩;refine Aj ?_;exact AW [] _ rfl .refl (by exact A8) (l':=[Tq bn (VB u.id d)]++Aw b p s S G) (by exact AS) ⟨_,_,s,G,rfl,⟨rfl,.inr ⟨bn,1,[],rfl,rfl,A7 _,by unfold maxLen;omega,rfl⟩⟩,hK.mono Af,.nil,rfl⟩
 rw[Ad h5] at hR;have hord:=λG hk=>hord G hk h5;refine Aj ?_;refine Bk (.of_perm (ET b p s S [HA b8 o,Th.thC b6 {u with hs:=false},OQ b3 e] G)) ?_;refine AP (Az (vs:=[pV kb,.int .i64 u.id,v6 o]) rfl rfl (hord _ (Aa _ hk))) ?_;rintro _ _ ⟨sl,cs,s1,L1,rfl,ho1,hK1,hT1,rfl⟩;obtain⟨q,hq⟩: ∃q,J3 S u.id o=q:=⟨_,rfl⟩
 rw[hq] at hR ho1 hK1;try rw[hq]
 obtain⟨L2,hL2,hp2⟩:=GD (b:=b) (p:=p) (s:=s1) (S:=q.2) hT1;refine Bk (.of_perm (l':=HA b8 o::Th.thC b6 {u with hs:=false}::OQ b3 e::(cs++Aw b p s1 q.2 L2)) ((hp2.append_left cs).trans BR)) ?_;refine Aj ?_;by_cases h6:q.1.2=0
 ·rw[Ad h6] at hR;subst hR;refine Aj ?_;exact CF (vs:=[sl,iV 0]) _ .refl (.drop (.drop (.drop .refl))) ⟨sl,cs,s1,L2,rfl,ho1,hK1,hL2,rfl⟩
 ·rw[Ac h6] at hR;subst hR;refine Aj ?_;refine AP (Fb (ws:=Qi (VB u.id q.1.2)) (k:=12) rfl rfl rfl AX AX) ?_;rintro _ _ ⟨bn,_,rfl,rfl⟩;refine Aj ?_;exact AW [] _ rfl .refl (by exact A8) (l':=[Tq bn (VB u.id q.1.2)]++Aw b p s1 q.2 L2) (show Keep (Tq bn (VB u.id q.1.2)::HA b8 o::Th.thC b6 {u with hs:=false}::OQ b3 e::(cs++Aw b p s1 q.2 L2)) ([Tq bn (VB u.id q.1.2)]++Aw b p s1 q.2 L2) from A4 ([HA b8 o,Th.thC b6 {u with hs:=false},OQ b3 e]++cs)) ⟨_,_,s1,L2,rfl,⟨rfl,.inr ⟨bn,1,[],rfl,rfl,A7 _,by unfold maxLen;omega,rfl⟩⟩,hK1,hL2,rfl⟩
end
def doA(S:KT)(e:Oe):(List GJ×Int)×KT:=
 if e.kd=1 then(([],(LM S e.co e.th).1),(LM S e.co e.th).2)
 else if e.kd=2\/e.kd=3\/e.kd=4 then JO S e
 else if e.kd=5\/e.kd=6 then(([],(Jg S e).1),(Jg S e).2)
 else(([],2),S)
def K9(S:KT)(e:Oe):(List GJ×Int)×KT:=((doA S e).1,if(doA S e).1.2=0 then K7 (doA S e).2 else(doA S e).2)
abbrev Ms(co:Int)(sl:Value):List Value:=[iV co,sl]
section
def y7(F C b:Nat)(p:RP)(k:Nat)(xs:List GJ)(co:Int)(S:KT)(G:List Ab):Value->List Ab->Prop:=λv l'=> ∃sl cs s L,v= .agg (toArray (Ms co sl))/\OwnSl 69 12 sl xs.length (GK xs) cs/\IsK F C k S p s/\Tail L G/\l'=cs++Aw b p s S L
theorem sc{Q1:Act->World->Prop}{Q2:Exit->Act->World->Prop}{c:Code}{fr:Fr}{l:List Ab}{j:Nat}(fx:α->Fr)(lx:α->List Ab)(pre:α->Prop)(h1:BH P ro N E c (Exit.inBlock j (Exit.then (ZH N E fx ds lx pre) Q2)) fr ds l)(h2: ∀x,pre x->CO N E (Exit.then Q1 Q2) .normal (fx x) ds (lx x)):BH P ro N E c (Exit.inBlock j (Exit.then Q1 Q2)) fr ds l:=
 ⟨λa W hf hds hs=>wpIn_mono (h1.run a W hf hds hs) λe a' W' h=>by
   cases e with
   |normal=>obtain⟨y,h3,h4,h5,h6⟩:=h;exact(h2 y h3).run a' W' h4 h5 h6
   |exit i=>
    simp only[Exit.inBlock] at h⊢;by_cases hi:i=j
    ·rw[Ad hi] at h⊢;obtain⟨y,h3,h4,h5,h6⟩:=h;exact(h2 y h3).run a' W' h4 h5 h6
    ·rw[Ac hi] at h⊢;exact h
   |_=>exact h⟩
abbrev GL(B:Nat)(co:Int)(sl:Value):Ab:=(B,.cells (toArray (Ms co sl)) 32 (0,0))
abbrev JJ:Value:= .slice none 0 0
theorem xk(e:Oe)(hK:IsK F C (k+aY e) S p s)(kb:Nat)(hk:Ot kb b∈G)(he:fq e):Fn prog 52 [pV kb,OO e] (Aw b p s S G) (y7 F C b p k (K9 S e).1.1 (K9 S e).1.2 (K9 S e).2 G):=by
 have mr:Cw b p∈Aw b p s S G:=mR λ_ h=>h;have mk:Ot kb b∈Aw b p s S G:=mG (λ_ h=>h) _ hk;have hst:=λ(G:List Ab) (hk:Ot kb b∈G)=>sa (G:=G) e hK kb hk he;have hpi:=λ(G:List Ab) (hk:Ot kb b∈G)=>rY (G:=G) hK kb hk e.co e.th;have hca:=λ(G:List Ab) (hk:Ot kb b∈G)=>oq (G:=G) hK kb hk e;unfold K9;obtain⟨R,hR⟩: ∃R,doA S e=R:=⟨_,rfl⟩
 rw[hR];unfold doA at hR;refine AM func52 ntmps52 λE=>?_;refine AO λb3=>?_;refine AO λb4=>?_;refine AO λb5=>?_;refine sc (α:=RL×List Ab×Value×List Ab) (λ_=>[(0,pV kb),(4,pV b4),(5,pV b5)]) (λz=>GL b5 R.1.2 z.2.2.1::GL b4 0 JJ::Aw b p z.1 R.2 (z.2.2.2++z.2.1)) (λz=>IsK F C k R.2 p z.1/\Tail z.2.1 G/\OwnSl 69 12 z.2.2.1 R.1.1.length (GK R.1.1) z.2.2.2) ?_ ?_
 ·by_cases h1:e.kd=1
  ·rw[Ad h1] at hR;subst hR;refine Aj ?_;refine Bk (.of_perm (ET b p s S [GL b5 2 JJ,GL b4 0 JJ,OQ b3 e] G)) ?_;refine AP (Az (vs:=[pV kb,.int .i64 e.co,.int .i64 e.th]) rfl rfl (hpi _ (Aa _ hk))) ?_;rintro _ _ ⟨rfl,s1,L1,hK1,hT1,rfl⟩;obtain⟨L2,hL2,hp2⟩:=GD (b:=b) (p:=p) (s:=s1) (S:=(LM S e.co e.th).2) hT1;refine Bk (.of_perm (l':=GL b5 2 JJ::GL b4 0 JJ::OQ b3 e::Aw b p s1 (LM S e.co e.th).2 L2) hp2) ?_;refine Aj ?_;exact Ek (s1,L2,JJ,[]) ⟨hK1.mono Af,hL2,OwnSl.nil _ _⟩ ⟨rfl,rfl,rfl,trivial⟩ (by exact AS)
  rw[Ac h1] at hR;by_cases h2:e.kd=2\/e.kd=3\/e.kd=4
  ·rw[Ad h2] at hR;rw[hR] at hst;rcases h2 with h2|h2|h2;all_goals
    refine Aj ?_;refine Bk (.of_perm (ET b p s S [GL b5 2 JJ,GL b4 0 JJ,OQ b3 e] G)) ?_;refine AP (Az (vs:=[pV kb,OO e]) rfl rfl (hst _ (Aa _ hk))) ?_;rintro _ _ ⟨sl,cs,s1,L1,rfl,ho1,hK1,hT1,rfl⟩;obtain⟨L2,hL2,hp2⟩:=GD (b:=b) (p:=p) (s:=s1) (S:=R.2) hT1;obtain⟨pp,cap,rfl⟩:=ho1.shape;refine Bk (.of_perm (l':=GL b5 2 JJ::GL b4 0 JJ::OQ b3 e::Aw b p s1 R.2 (cs++L2)) ((hp2.append_left cs).trans (by unfold Aw;exact BR))) ?_;refine Aj ?_;exact Ek (s1,L2,_,cs) ⟨hK1,hL2,ho1⟩ ⟨rfl,rfl,rfl,trivial⟩ (by exact AS)
  rw[Ac h2] at hR;by_cases h3:e.kd=5\/e.kd=6
  ·rw[Ad h3] at hR;subst hR;rcases h3 with h3|h3;all_goals
    refine Aj ?_;refine Bk (.of_perm (ET b p s S [GL b5 2 JJ,GL b4 0 JJ,OQ b3 e] G)) ?_;refine AP (Az (vs:=[pV kb,OO e]) rfl rfl (hca _ (Aa _ hk))) ?_;rintro _ _ ⟨rfl,s1,L1,hK1,hT1,rfl⟩;obtain⟨L2,hL2,hp2⟩:=GD (b:=b) (p:=p) (s:=s1) (S:=(Jg S e).2) hT1;refine Bk (.of_perm (l':=GL b5 2 JJ::GL b4 0 JJ::OQ b3 e::Aw b p s1 (Jg S e).2 L2) hp2) ?_;refine Aj ?_;exact Ek (s1,L2,JJ,[]) ⟨hK1.mono Af,hL2,OwnSl.nil _ _⟩ ⟨rfl,rfl,rfl,trivial⟩ (by exact AS)
  rw[Ac h3] at hR;subst hR;refine Aj ?_;exact Ek (s,G,JJ,[]) ⟨hK.mono Af,.nil,OwnSl.nil _ _⟩ ⟨rfl,rfl,rfl,trivial⟩ (by exact AS)
 rintro⟨s1,L1,sl,cs⟩ ⟨hK1,hT1,ho1⟩;obtain⟨pp,cap,rfl⟩:=ho1.shape;dsimp only;have mr1:Cw b p∈Aw b p s1 R.2 (cs++L1):=mR λ_ h=>h;have mk1:Ot kb b∈Aw b p s1 R.2 (cs++L1):=mG (λ_ h=>h) _ (Aa _ (by obtain⟨X,rfl⟩:=hT1;exact Aa _ hk));by_cases h0:R.1.2=0
 case neg=>rw[Ac h0];refine Aj ?_;exact AW (vs:=[.agg (toArray (Ms R.1.2 (.slice pp R.1.1.length cap)))]) [] _ rfl .refl (Cz rfl (.tail _ (.head _)) (As.LSub.of_all (n:=2) (Ms R.1.2 (.slice pp R.1.1.length cap)) rfl) .nil) (.drop (.drop (.of_perm (ET b p s1 R.2 cs L1).symm))) ⟨_,cs,s1,L1,rfl,ho1,hK1,hT1,rfl⟩
 rw[Ad h0];refine Aj ?_;refine FI ?_;intro S2 s2 L2 hS2 hK2 hT2 mr2;obtain⟨L3,hL3,hp3⟩:=GD (b:=b) (p:=p) (s:=s2) (S:=S2) hT2;refine Aj ?_;exact AW (vs:=[.agg (toArray (Ms R.1.2 (.slice pp R.1.1.length cap)))]) [] _ rfl .refl (Cz rfl (.tail _ (.head _)) (As.LSub.of_all (n:=2) (Ms R.1.2 (.slice pp R.1.1.length cap)) rfl) .nil) (.drop (.drop (.of_perm hp3))) ⟨_,cs,s2,L3,rfl,ho1,by rw[<-hS2];exact hK2,hL3.trans hT1,by rw[<-hS2]⟩
end
abbrev y8:GJ:=⟨0,0,0,sW,0,false,0,0,false⟩
theorem Zi(v:Value)(xs:List GJ)(cs l:List Ab)(ho:OwnSl 69 12 v xs.length (GK xs) cs)(hs: ∀c,c∈cs->c∈l)(hx:xs.length<=1000000):
 Fn prog 53 [v] l λr l'=> ∃c2,OwnSl 69 12 r xs.length (GK xs) c2/\l'=c2++l:=by
 obtain⟨hlen,h⟩:=ho;refine AM func53 ntmps53 λE=>?_;rcases h with⟨rfl,h0,rfl⟩|⟨gb,cap,sp,rfl,rfl,hnc,hcm,hcl⟩
 ·refine Aj ?_;refine A9 .refl ?_;exact⟨[],⟨hlen,.inl ⟨rfl,h0,rfl⟩⟩,rfl⟩
 ·have hg:=hs _ Ak;refine Aj ?_;refine AP fT ?_;rintro _ _ ⟨bl,hbl,rfl,rfl⟩;refine Aj ?_;apply fe
  ·apply F4 (e:=69) (k:=12) (xs:=[]) (cs:=[(bl,.cells #[] 69 (0,0))]) (F:=l) (news:=GK xs) (zs:=Qi y8) (cl:=toArray (GK xs++sp))
   ·rfl
   ·rfl
   ·rfl
   ·exact OwnSl.empty
   ·exact .tail _ hg
   ·intro j u hj;have hlt:=(Ay.1 hj).1;rw[BC,AC,AF hlt];exact hj
   ·exact hlen
   ·exact Xg xs
   ·unfold maxLen;omega
   ·omega
  ·rfl
  ·rfl
  ·rfl
  rintro v' _ ⟨c2,ho2,rfl⟩;rw[Ag,BC] at ho2;have hv1:v'.oneCell'=true:=ho2.one;refine Aj ?_;refine A9 .refl ?_;exact⟨c2,ho2,rfl⟩
def StOwn:List (Int×List GJ)->List Value->List Ab->Prop
 |[],rows,cs=>rows=[]/\cs=[]
 |x::r,rows,cs=> ∃v c rows' cs',OwnSl 69 12 v x.2.length (GK x.2) c/\rows=Ms x.1 v++rows'/\cs=c++cs'/\StOwn r rows' cs'
theorem StOwn.snoc: ∀{st:List (Int×List GJ)} {rows:List Value} {cs:List Ab} {co:Int} {ns:List GJ} {v:Value} {c:List Ab},StOwn st rows cs->OwnSl 69 12 v ns.length (GK ns) c->StOwn (st++[(co,ns)]) (rows++Ms co v) (cs++c)
 |[],_,_,co,ns,v,c,⟨h1,h2⟩,ho=>by subst h1 h2;exact⟨v,c,[],[],ho,by simp,by simp,rfl,rfl⟩
 |x::r,_,_,co,ns,v,c,⟨w,d,rows',cs',h1,h2,h3,h4⟩,ho=>⟨w,d,_,_,h1,by rw[h2,Am],by rw[h3,Am],h4.snoc ho⟩
abbrev Zj(wb kb:Nat)(vt vs:Value):Ab:=(wb,.cells (toArray [pV kb,vt,vs]) 121 (0,0))
structure IsWo(F C k:Nat)(S:KT)(th:List Int)(st:List (Int×List GJ))(wb:Nat)(l:List Ab):Prop where
 ex: ∃b kb p s vt vs ct cs rows cn,IsK F C k S p s/\OwnSl 3 1 vt th.length (th.map CG) ct/\OwnSl 32 2 vs st.length rows cs/\StOwn st rows cn/\st.length<=100000/\l=Zj wb kb vt vs::Ot kb b::(ct++(cs++(cn++Aw b p s S [])))
theorem sg(b:Nat)(p:RP)(s:RL)(S:KT)(A G:List Ab):(A++(Aw b p s S []++G)).Perm (Aw b p s S (A++G)):=by unfold Aw;exact BR
theorem xl(b:Nat)(p:RP)(s:RL)(S:KT)(c2 A X G:List Ab):Keep (c2++Aw b p s S (X++(A++G))) (A++(c2++(Aw b p s S []++G))):=by unfold Aw;exact A4 X
theorem vf(hK:IsK F C (k+aY e) S p s)(kb:Nat)(he:fq e)(A G:List Ab)(hk:Ot kb b∈A):
 Fn prog 52 [pV kb,OO e] (A++(Aw b p s S []++G)) λv l'=> ∃sl c2 s1,v= .agg (toArray (Ms (K9 S e).1.2 sl))/\OwnSl 69 12 sl (K9 S e).1.1.length (GK (K9 S e).1.1) c2/\IsK F C k (K9 S e).2 p s1/\l'=A++(c2++(Aw b p s1 (K9 S e).2 []++G)):=
 Fn.re (.of_perm (sg ..)) (xk e hK kb (Ah _ hk) he) λv l' ⟨sl,c2,s1,L,h1,h2,h3,⟨X,h4⟩,h5⟩=>⟨_,by rw[h5,h4];exact xl ..,sl,c2,s1,h1,h2,h3,rfl⟩
theorem xm(hK:IsK F C (k+aY e) S p s)(kb:Nat)(he:fq e)(X:List Ab)(w:Ab)(ct cs cn G:List Ab):
 Fn prog 52 [pV kb,OO e] (X++(w::Ot kb b::(ct++(cs++(cn++(Aw b p s S []++G)))))) λv l'=> ∃sl c2 s1,v= .agg (toArray (Ms (K9 S e).1.2 sl))/\OwnSl 69 12 sl (K9 S e).1.1.length (GK (K9 S e).1.1) c2/\IsK F C k (K9 S e).2 p s1/\l'=X++(w::Ot kb b::(ct++(cs++(cn++(c2++(Aw b p s1 (K9 S e).2 []++G)))))):=by
 have h:=vf (b:=b) hK kb he (X++w::Ot kb b::(ct++(cs++cn))) G (by simp);simp only[Am,Ae] at h;exact h
abbrev xn:List (Option IntKind):=[some .i64,some .i64,some .u64,some .u64,some .u64,some .u64,some .u64,some .u64,none,some .i64,some .u64,none]
instance:EQ prog 69 xn:=⟨Bs⟩
theorem pQ(x:GJ):AllK xn (Qi x):=HT (by rfl)
theorem aZ(x y:GJ)(h:Qi x=Qi y):x=y:=by obtain⟨a1,a2,a3,⟨a4,a5,a6,a7⟩,a8,a9,b1,b2,b3⟩:=x;obtain⟨c1,c2,c3,⟨c4,c5,c6,c7⟩,c8,c9,d1,d2,d3⟩:=y;simp only[Qi,Cc,Value.int.injEq,Value.bool.injEq,HF,IF] at h;obtain⟨h1,h2,h3,h4,h5,h6,h7,h8,h9,h10,h11,h12⟩:=h;subst h1 h2 h3 h4 h5 h6 h7 h8 h9 h10 h11 h12;rfl
theorem Ou[DecidableEq α](enc:α->List Value)(hin: ∀x y,enc x=enc y->x=y)(hk: ∀x,AllK xn (enc x))(v u:Value)(xs ys:List α)(l:List Ab)(h1:RowSl l v 12 enc xs)(h2:RowSl l u 12 enc ys)(hx:xs.length<=1000000):
 Fn prog 35 [v,u] l λr l'=>r= .bool (decide (xs=ys))/\l'=l:=by
 obtain⟨a,ca,rfl,h1⟩:=h1;obtain⟨a',ca',rfl,h2⟩:=h2;refine AM func35 ntmps35 λE=>?_;exact Wx
theorem xu(c5 c4 c3 w k:Ab)(cN ct cs cn cS A G:List Ab)(bl:Ab):(bl::(cN++(c5::c4::c3::w::k::(ct++(cs++(cn++(cS++(A++G)))))))).Perm (bl::((cN++[c5,c4,c3,w,k])++(cs++(ct++(cn++(cS++(A++G))))))):=BR
theorem xx(c5 c4 c3 w k:Ab)(cN ct cs cn cS A G:List Ab):((cN++[c5,c4,c3,w,k])++(cs++(ct++(cn++(cS++(A++G)))))).Perm (c5::c4::c3::w::k::(ct++(cs++((cn++cN)++(cS++(A++G)))))):=BR
theorem xz(c5 c4 c3 w k:Ab)(ct cs cn cS A G:List Ab):Keep (c5::c4::c3::w::k::(ct++(cs++(cn++(cS++(A++G)))))) (cS++((w::k::(ct++(cs++(cn++A))))++G)):=A4 [c5,c4,c3]
theorem Pw{st:List (Int×List GJ)}{l:List Ab}(e:Oe)(he:fq e)(hW:IsWo F C (k+aY e) S th st wb l)(hn:st.length+1<=100000)(G:List Ab)(hx:(K9 S e).1.1.length<=1000000):
 Fn prog 19 [pV wb,OO e] (l++G) λv l'=> ∃sl cs lw,v= .agg (toArray (Ms (K9 S e).1.2 sl))/\OwnSl 69 12 sl (K9 S e).1.1.length (GK (K9 S e).1.1) cs/\IsWo F C k (K9 S e).2 th (st++[((K9 S e).1.2,(K9 S e).1.1)]) wb lw/\l'=cs++(lw++G):=by
 obtain⟨b,kb,p,s,vt,vs,ct,cs,rows,cn,hK,ht,hs,hst,_,rfl⟩:=hW.ex;have hvt:=ht.one;have hvs:=hs.one;obtain⟨⟨⟨ns,co⟩,S'⟩,hR⟩: ∃R,K9 S e=R:=⟨_,rfl⟩
 have hdo:=λX=>xm (b:=b) hK kb he X (Zj wb kb vt vs) ct cs cn G;rw[hR] at hdo hx⊢;dsimp only at hdo hx⊢;rw[show(Zj wb kb vt vs::Ot kb b::(ct++(cs++(cn++Aw b p s S []))))++G=Zj wb kb vt vs::Ot kb b::(ct++(cs++(cn++(Aw b p s S []++G)))) by simp];refine AM func19 ntmps19 λE=>?_;refine AO λb3=>?_;refine AO λb4=>?_;refine Ql (α:=Value×List Ab×RL×Nat) (λz=>[(0,pV wb),(4,pV b4),(5,pV z.2.2.2)]) (λz=>GL z.2.2.2 co z.1::GL b4 0 JJ::OQ b3 e::Zj wb kb vt vs::Ot kb b::(ct++(cs++(cn++(z.2.1++(Aw b p z.2.2.1 S' []++G)))))) (λz=>OwnSl 69 12 z.1 ns.length (GK ns) z.2.1/\IsK F C k S' p z.2.2.1) ?_ ?_
 ·refine KQ [(0,true),(1,true),(2,true),(3,true),(4,true),(5,false),(6,false),(7,false)] [[],[0],[0,1],[0,1,2],[],[0,1,2,3,4],[],[0,1,2,3,4,5,6]] 5 6 ([OQ b3 e,Zj wb kb vt vs]) Bs Bs Gt ((uK BS BS)) ?_;refine BM ?_;refine M3 [(6,false),(5,false),(7,false)] Gt (List.Perm.swap _ _ _) Bs ?_ ?_
  ·refine CM (Az (vs:=[pV kb,OO e]) rfl rfl (hdo [GL b4 0 JJ,OQ b3 e])) rfl rfl rfl ?_ ?_
   ·rintro _ _ ⟨sl,c2,s1,rfl,_,_,rfl⟩;exact uK (by simp) (by simp)
   rintro _ _ ⟨sl,c2,s1,rfl,ho1,hK1,rfl⟩;simp only[Ae,Ag];refine CM e_alloc rfl rfl rfl ?_ ?_
   ·rintro _ _ ⟨_,_,_,rfl⟩ c hc;exact .tail _ (uK BS BS c hc)
   rintro _ _ ⟨b5,_,rfl,rfl⟩;obtain⟨pp,cap,rfl⟩:=ho1.shape;refine BM ?_;refine Aj ?_;exact Ek (_,c2,s1,b5) ⟨ho1,hK1⟩ ⟨rfl,rfl,rfl,trivial⟩ .refl
  ·refine CM e_alloc rfl rfl rfl ?_ ?_
   ·rintro _ _ ⟨_,_,_,rfl⟩ c hc;exact .tail _ (uK BS BS c hc)
   rintro _ _ ⟨b5,_,rfl,rfl⟩;refine CM (Az (vs:=[pV kb,OO e]) rfl rfl (hdo [GL b5 0 JJ,GL b4 0 JJ,OQ b3 e])) rfl rfl rfl ?_ ?_
   ·rintro _ _ ⟨sl,c2,s1,rfl,_,_,rfl⟩;exact uK (by simp) (by simp)
   rintro _ _ ⟨sl,c2,s1,rfl,ho1,hK1,rfl⟩;simp only[Ae,Ag];obtain⟨pp,cap,rfl⟩:=ho1.shape;refine BM ?_;refine Aj ?_;exact Ek (_,c2,s1,b5) ⟨ho1,hK1⟩ ⟨rfl,rfl,rfl,trivial⟩ .refl
 rintro⟨sl,c2,s1,b5⟩ ⟨ho1,hK1⟩;dsimp only;obtain⟨pp,cap,rfl⟩:=ho1.shape;refine Aj ?_;refine Cn (Ck [9,11,12,15] 0 16) ?_;refine Cs ?_;refine Hm (Az (vs:=[.slice pp ns.length cap]) rfl rfl (Zi _ ns c2 _ ho1 (λc hc=>by simp[hc]) hx)) (by rintro _ _ ⟨c3,_,rfl⟩ c hc;exact Aa _ hc) ?_;rintro vN _ ⟨cN,hoN,rfl⟩;obtain⟨pN,capN,rfl⟩:=hoN.shape;refine Cs ?_;refine Hm (Fb (ws:=Ms co (.slice pN ns.length capN)) (k:=2) (zs:=Ms 0 JJ) rfl rfl rfl AX AX) (by rintro _ _ ⟨_,_,_,rfl⟩ c hc;exact .tail _ hc) ?_;rintro _ _ ⟨bl,_,rfl,rfl⟩;refine Cs ?_;refine JS (OpE.re (.of_perm (xu _ _ _ _ _ cN ct cs cn c2 _ G _)) (GX (k:=2) (X:=cN++[_,_,_,_,_]) (cs:=cs) (xs:=rows) (ws:=Ms co (.slice pN ns.length capN)) (zs:=Ms 0 JJ) (n:=st.length) rfl rfl rfl hs rfl (by simp[Value.oneCell']) Af AX) (K':=λv' l'=> ∃c3,OwnSl 32 2 v' (st.length+1) (rows++Ms co (.slice pN ns.length capN)) c3/\l'=GL b5 co (.slice pp ns.length cap)::GL b4 0 JJ::OQ b3 e::Zj wb kb vt vs::Ot kb b::(ct++(c3++((cn++cN)++(c2++(Aw b p s1 S' []++G)))))) λv' l' ⟨c3,h1,h2⟩=>⟨_,by rw[h2];exact .of_perm (xx ..),c3,h1,rfl⟩) ?_;rintro v' _ ⟨c3,ho3,rfl⟩;obtain⟨p3,cap3,rfl⟩:=ho3.shape;refine Cs ?_;refine Aj ?_;exact AW (vs:=[.agg (toArray (Ms co (.slice pp ns.length cap)))]) [] _ rfl .refl (Cz rfl (.tail _ (.head _)) (As.LSub.of_all (n:=2) (Ms co (.slice pp ns.length cap)) rfl) .nil) (xz ..) ⟨_,c2,_,rfl,ho1,⟨b,kb,p,s1,vt,_,ct,c3,_,cn++cN,hK1,ht,by rw[Ai];exact ho3,hst.snoc hoN,by rw[Ai];exact hn,rfl⟩,rfl⟩
set_option maxRecDepth 100000
def Xm(F T:Nat)(sh:Bool):List Int:=(Un F T sh).map OwT.th
def Ir(F C T:Nat)(sh:Bool):KT:=⟨(Kw F T sh).A,(Kw F T sh).H,(Kw F T sh).N,(Kw F T sh).T,(Kw F T sh).Q,(Kw F T sh).E,replicate (F*8) 0,replicate C XA,replicate C 0⟩
def ym(t:Th.ThT):Bool:=decide (0<=t.va)&&decide (t.va<18446744073709551616)&&decide (0<=t.vl)&&decide (t.vl<18446744073709551616)&&Th.mayH t
def SM(F T:Nat)(sh:Bool):Bool:=
 let R:=Kw F T sh
 decide (R.T.length<=3)&&R.T.all ym&&R.E.all (λx=>x.2.1.isEmpty)&&R.A.os.all (λo=>decide (o.kd≠2)||(decide (1<=o.sz)&&decide (o.sz<=4)))&&decide ((Xm F T sh).length=T)
theorem jY:((List.range 4).all λT=>(List.range 65).all λF=>T==0||decide (F<11*T)||(SM F T false&&SM F T true))=true:=by decide+kernel
theorem bf(sh:Bool)(hT1:1<=T)(hT:T<=3)(hF:11*T<=F)(hF2:F<=64):SM F T sh=true:=by
 have h:=AZ.1 (AZ.1 jY T (Er.2 Af)) F (Er.2 Af);simp only[D6,AR,I5,Bg] at h;rcases h with(h|h)|⟨h1,h2⟩
 ·omega
 ·omega
 ·cases sh
  ·exact h1
  ·exact h2
theorem Zk(n:Nat):ZS n=(replicate (n*8) (0:Int)).map Ba:=by
 rw[List.map_replicate];unfold ZS
 first
  |rfl
  |(induction n with
    |zero=>rfl
    |succ n ih=>simp[BG,FA,ih];rfl)
theorem jZ{sh:Bool}(hT1:1<=T)(hT:T<=3)(hF:11*T<=F)(hF2:F<=64)(h:IsRl F C 60 (Kw F T sh) p s):IsK F C 840 (Ir F C T sh) p s:=by
 have hok:=bf sh hT1 hT hF hF2;unfold SM at hok;simp only[AR,Bg,AZ,List.isEmpty_iff,D6] at hok;obtain⟨⟨⟨⟨h1,h2⟩,h3⟩,h4⟩,h5⟩:=hok;obtain⟨m1,m2,gb,m3⟩:=h.mem;exact{
  mem:=⟨gb,m1,m2,by simp[Ir],λw hw=>by rw[D1 hw];exact LI,by rw[m3];unfold Ir Se;dsimp only;rw[<-Zk]⟩
  co:=h.co
  kl:=by simp[Ir]
  ar:=h.ar
  an:=h.an
  rad:=λo ho hk=>by
   have:=h4 o ho;rcases this with h|⟨h,h'⟩
   ·exact absurd hk h
   ·exact⟨h,h'⟩
  ho:=h.ho
  inv:=⟨60,Af,h.inv⟩
  giv:=λn hn=>by have:=h.giv n hn;exact⟨this.1,by have:=this.2;show(Kw F T sh).N.given n+840<=900;omega⟩
  th:=h.th
  tl:=by show(Kw F T sh).T.length+840<=900;omega
  tw:=λt ht=>by have:=h2 t ht;unfold ym at this;simp only[AR,Bg] at this;obtain⟨⟨⟨⟨a1,a2⟩,a3⟩,a4⟩,a5⟩:=this;exact⟨⟨⟨a1,a2⟩,⟨a3,a4⟩⟩,a5⟩
  qu:=h.qu
  ql:=λn hn=>by have:=h.ql n hn;show((Kw F T sh).Q n).length+840<=900;omega
  en:=h.en
  el:=λx hx=>by rw[h3 x hx];decide
  eo:=λt x y hx hy htx=>by rw[h3 x hx] at htx;cases htx
  ul:=by simp[Ir]
  cu:=by have:=h.cu;show OwnSl 3 1 p.v C ((replicate C (0:Int)).map CG) s.V;rw[List.map_replicate];exact this
  c1:=h.c1}
abbrev pR(F C T:Int)(sh:Bool):Value:= .agg (toArray [.int .i64 F,.int .i64 C,.int .i64 T,.bool sh])
def xA(F C T:Int)(sh:Bool)(l:List Ab):Value->List Ab->Prop:=λv l'=>
 (MK F C T=false/\v= .tuple #[.pointer none,iV 3]/\l'=l)\/(MK F C T=true/\ ∃wb lw,v= .tuple #[pV wb,iV 0]/\IsWo F.toNat C.toNat 840 (Ir F.toNat C.toNat T.toNat sh) (Xm F.toNat T.toNat sh) [] wb lw/\l'=lw++l)
theorem xD(b:Nat)(p:RP)(s:RL)(S:KT)(c w k:Ab)(cs X l:List Ab):Keep (w::k::(cs++Aw b p s S (X++c::l))) ((w::k::(cs++([]++([]++Aw b p s S []))))++l):=by unfold Aw;exact A4 (c::X)
theorem Xn(F C T:Int)(sh:Bool)(l:List Ab):Fn prog 48 [pR F C T sh] l (xA F C T sh l):=by
 refine AM func48 ntmps48 λE=>?_;refine Aj ?_;refine AP (CK rfl) ?_;rintro _ _ ⟨b1,_,rfl,rfl⟩;refine Aj ?_;cases hmay:MK F C T with
 |false=>refine AP (Az rfl rfl (ny F C T sh hmay _)) ?_;rintro _ _ ⟨rfl,rfl⟩;refine Aj ?_;exact CF _ .refl (.drop .refl) (.inl ⟨hmay,rfl,rfl⟩)
 |true=>
  obtain⟨hT1,hT,hC1,hC,hF,hF2⟩:1<=T/\T<=3/\1<=C/\C<=3/\11*T<=F/\F<=64:=by simp[MK] at hmay;omega
  obtain⟨T,rfl⟩: ∃n:Nat,T=n:=⟨T.toNat,Af⟩
  obtain⟨F,rfl⟩: ∃n:Nat,F=n:=⟨F.toNat,Af⟩
  obtain⟨C,rfl⟩: ∃n:Nat,C=n:=⟨C.toNat,Af⟩
  refine AP (Az rfl rfl (nA F C T sh Af Af Af Af Af Af _)) ?_;rintro _ _ ⟨B,b,v14,p,s,X,cs,rfl,hR,ho,rfl⟩;have hK:=jZ Af Af Af Af hR;have hv1:v14.oneCell'=true:=ho.one;have hok:=bf sh (F:=F) (T:=T) Af Af Af Af;have hlen:(Xm F T sh).length=T:=by unfold SM at hok;simp only[AR,Bg] at hok;exact hok.2
  obtain⟨p14,cap14,rfl⟩:=ho.shape;refine AO λbw=>?_;refine CF (vs:=[pV bw,iV 0]) _ .refl (l':=(Zj bw B (.slice p14 T cap14) JJ::Ot B b::(cs++([]++([]++Aw b p s (Ir F C T sh) []))))++l) ?_ (.inr ⟨hmay,bw,_,rfl,?_,rfl⟩)
  ·exact xD b p s (Ir F C T sh) _ _ _ cs X l
  ·simp only[AY];exact⟨b,B,p,s,.slice p14 T cap14,JJ,cs,[],[],[],hK,by rw[hlen];exact ho,OwnSl.nil _ _,⟨rfl,rfl⟩,by decide,rfl⟩
theorem bg(S:KT)(t:Int)(x:Ce)(m:MN)(gv:Int)(cl:Bool):(GE S t x m gv cl).1.1.length<=2:=by
 unfold GE sendH
 repeat' split
 all_goals simp
theorem oE(S:KT)(t:Int)(x:Ce)(gv:Int):(JN S t x gv).1.1.length<=2:=by
 unfold JN recvH
 repeat' split
 all_goals simp
 all_goals split<;>simp
theorem j8(S:KT)(t:Int)(m:MN):(Hz S t m).1.1.length<=2:=by
 unfold Hz replyH
 repeat' split
 all_goals simp
 all_goals split<;>simp
theorem j9(S:KT)(t:Th.ThT)(x:P0)(f:od):(Ky S t x f).1.length<=3:=by
 unfold Ky
 split
 ·simp
 ·have:=bg (Dw S (MO t x)) t.id (t.id,2) (Y8 f) 4096 true;simp only[Br];omega
theorem Zl(S:KT)(core:Int)(x:P0):(MQ S core x).1.1.length<=3:=by
 unfold MQ
 split
 ·simp
 ·unfold doR
  split
  ·exact j9 ..
  ·simp
theorem sm(S:KT)(core:Int):(Od S core).1.1.length<=3:=by
 unfold Od
 split
 ·simp
 ·split
  ·simp
  ·exact Zl ..
theorem oF{t:Int}{x:Ce}{r:(List GJ×Int)×KT}(h:LL S t o x=some r):r.1.1.length<=3:=by
 unfold LL at h;by_cases h1:o.op=14\/o.op=15
 ·rw[Ad h1] at h;obtain rfl:=AV h;exact EJ (bg ..)
 rw[Ac h1] at h;by_cases h2:o.op=16
 ·rw[Ad h2] at h;obtain rfl:=AV h;exact EJ (oE ..)
 rw[Ac h2] at h;by_cases h3:o.op=17
 ·rw[Ad h3] at h;obtain rfl:=AV h;exact EJ (j8 ..)
 rw[Ac h3] at h;cases h
theorem sn(S:KT)(t:Int)(o:In)(x y:Ce):(ordE S t o x y).1.1.length<=3:=by
 unfold ordE;cases h:LL S t o x with
 |some r=>exact oF h
 |none=>
  dsimp only;by_cases h1:(I3 S t o x y).1=0
  ·rw[Ad h1];exact(by decide:1<=3)
  ·rw[Ac h1];exact(by decide:0<=3)
theorem sr(S:KT)(t:Int)(o:In):(J3 S t o).1.1.length<=3:=by
 unfold J3;by_cases h1:My S t=false\/¬(DB S t).st=1
 ·rw[Ad h1];exact(by decide:0<=3)
 rw[Ac h1];by_cases h2:(Hr o.op).1=true/\¬(Hq S t o.a).2=0
 ·rw[Ad h2];exact(by decide:0<=3)
 rw[Ac h2];by_cases h3:(Hr o.op).2=true/\¬(Hq S t o.b).2=0
 ·rw[Ad h3];exact(by decide:0<=3)
 rw[Ac h3];exact sn ..
theorem oG(S:KT)(t:Int)(c:MR):(NI S t c).1.1.length<=3:=by
 unfold NI;by_cases h1:(Ca c).2=0
 ·rw[Ad h1];by_cases h2:(J3 S t (Ca c).1).1.2=0
  ·rw[Ad h2];exact sr ..
  ·rw[Ac h2];exact(by decide:1<=3)
 ·rw[Ac h1];exact(by decide:1<=3)
theorem oH(S:KT)(e:Oe):(JO S e).1.1.length<=3:=by
 unfold JO;by_cases h1:e.co<0\/(S.K.length:Int)<=e.co
 ·rw[Ad h1];exact(by decide:0<=3)
 rw[Ac h1];by_cases h2:My S (Lh S.U e.co)=false
 ·rw[Ad h2];exact(by decide:0<=3)
 rw[Ac h2];by_cases h3:(DB S (Lh S.U e.co)).hs=true
 ·rw[Ad h3];exact sm ..
 rw[Ac h3];by_cases h4:e.kd=3
 ·rw[Ad h4];exact Zl ..
 rw[Ac h4];by_cases h5:e.kd=4
 ·rw[Ad h5];exact Zl ..
 rw[Ac h5];exact oG ..
theorem bi(S:KT)(e:Oe):(K9 S e).1.1.length<=3:=by
 unfold K9 doA;dsimp only;by_cases h1:e.kd=1
 ·rw[Ad h1];exact(by decide:0<=3)
 rw[Ac h1];by_cases h2:e.kd=2\/e.kd=3\/e.kd=4
 ·rw[Ad h2];exact oH ..
 rw[Ac h2];by_cases h3:e.kd=5\/e.kd=6
 ·rw[Ad h3];exact(by decide:0<=3)
 rw[Ac h3];exact(by decide:0<=3)
def ka(S:KT):List Oe->List (Int×List GJ)
 |[]=>[]
 |e::r=>((K9 S e).1.2,(K9 S e).1.1)::ka (K9 S e).2 r
def xE(S:KT)(es:List Oe):KT:=es.foldl (λS e=>(K9 S e).2) S
theorem ss(e:Oe):aY e<=8:=by unfold aY;split<;>omega
set_option maxRecDepth 20000
theorem kc: ∀{rows:List (List Value)},(∀r,r∈rows-> ∃x:Oe,r=Zb x/\fq x)-> ∃xs:List Oe,rows=xs.map Zb/\ ∀x,x∈xs->fq x
 |[],_=>⟨[],rfl,λx hx=>by cases hx⟩
 |r::rows,h=>by
  obtain⟨x,hx,hg⟩:=h r Ak;obtain⟨xs,hxs,hgs⟩:=kc λr' hr'=>h r' (An _ hr');exact⟨x::xs,by rw[hx,hxs];rfl,λy hy=>by
   rcases Ap.1 hy with rfl|hy
   ·exact hg
   ·exact hgs y hy⟩
theorem Mt{a:Int}(h:(Lit.int .u64 a).wf=true):Kr a:=by simp[Lit.wf,IntKind.min,IntKind.max,IntKind.signed,IntKind.bits] at h;exact⟨Af,Af⟩
abbrev yn:List (Option IntKind):=[some .i64,some .i64,some .i64,some .u64,some .u64,some .u64,some .u64,some .u64,some .u64,some .u64,some .u64,some .u64,some .i64,some .i64,some .i64]
theorem kh{W:World}{a:Option Addr}{rows:List (List Value)}(h:UB yn W a n cap rows): ∃es:List Oe,es.length=n/\Yk (O4 W) a n 15 (es.map Zb)/\ ∀x,x∈es->fq x:=by
 obtain⟨es,hx,hg⟩:=kc (rows:=rows) λr hr=>by obtain⟨_,_,rfl,⟨k,rfl,_⟩,_,_,rfl,⟨co,rfl,_⟩,_,_,rfl,⟨th,rfl,_⟩,_,_,rfl,⟨op,rfl,w0⟩,_,_,rfl,⟨a0,rfl,w1⟩,_,_,rfl,⟨a1,rfl,w2⟩,_,_,rfl,⟨a2,rfl,w3⟩,_,_,rfl,⟨a3,rfl,w4⟩,_,_,rfl,⟨a4,rfl,w5⟩,_,_,rfl,⟨a5,rfl,w6⟩,_,_,rfl,⟨va,rfl,w7⟩,_,_,rfl,⟨vl,rfl,w8⟩,_,_,rfl,⟨st,rfl,_⟩,_,_,rfl,⟨wy,rfl,_⟩,_,_,rfl,⟨pg,rfl,_⟩,rfl⟩:=h.all r hr;exact⟨⟨k,co,th,⟨op,a0,a1,a2,a3,a4,a5⟩,va,vl,st,wy,pg⟩,rfl,⟨Mt w0,Mt w1,Mt w2,Mt w3,Mt w4,Mt w5,Mt w6⟩,Mt w7,Mt w8⟩
 refine⟨es,?_,?_,hg⟩
 ·have:=h.size;rw[hx] at this;simpa using this
 ·rw[<-hx];exact mn h AX
theorem LSet.mid: ∀(A C:List Value) (x v:Value) {k:Nat},A.length=k->LSet (A++x::C) k v (A++v::C)
 |[],C,x,v,_,h=>by subst h;exact .zero
 |a::A,C,x,v,_,h=>by subst h;exact .succ (LSet.mid A C x v rfl)
theorem LGet.mid: ∀(A C:List Value) (v:Value) {k:Nat},A.length=k->LGet (A++v::C) k v
 |[],C,v,_,h=>by subst h;exact .zero
 |a::A,C,v,_,h=>by subst h;exact .succ (LGet.mid A C v rfl)
theorem LSetA.all: ∀(B vs C:List Value),B.length=vs.length->LSetA (B++C) 0 vs (vs++C)
 |[],[],C,_=> .done
 |b::B,v::vs,C,h=> .put (LSetA.all B vs C (by simpa using h))
 |[],v::vs,C,h=>by cases h
 |b::B,[],C,h=>by cases h
theorem LSetA.mid: ∀(A B vs C:List Value) {k:Nat},A.length=k->B.length=vs.length->LSetA (A++(B++C)) k vs (A++(vs++C))
 |[],B,vs,C,_,h,h2=>by subst h;exact LSetA.all B vs C h2
 |a::A,B,vs,C,_,h,h2=>by subst h;exact .skip (LSetA.mid A B vs C rfl h2)
def Tb(N:As.ASt):List Value:=(List.range 80).map N.at
theorem Gi(N:As.ASt):(Tb N).length=80:=by simp[Tb]
theorem dX(N:As.ASt):N.cells.extract 0 80=toArray (Tb N):=by
 apply Dq;intro j;rw[EX];unfold Tb;simp only[As.ASt.cells_size,AC,A0];by_cases h:j<80
 ·rw[Ad Af,BC,As.ASt.cells_get N j Af,ES h];rfl
 ·rw[Ac Af,Bc (by simp;omega)];rfl
theorem Q7(N:As.ASt): ∀v,v∈Tb N->v.oneCell'=true:=by
 intro v hv;obtain⟨j,hj,rfl⟩:=Au.1 hv;unfold As.ASt.at
 repeat' split
 all_goals rfl
structure VwL where
 vo:Value
 vc:Value
 vt:Value
 vh:Value
 vr:Value
 vq:Value
 co:List Ab
 cc:List Ab
 ct:List Ab
 ch:List Ab
 cr:List Ab
 cq:List Ab
abbrev P1(vo vc vt vh:Value)(N:As.ASt)(vr vq:Value):List Value:=vo::vc::vt::vh::(Tb N++[vr,vq])
def oI(X:Nat->List Int):List Int:=Qu.allX X (Qu.fallT (Qu.neX X) 0)
structure IsVwK(C:Nat)(S:KT)(x:VwL):Prop where
 o:OwnSl 100 9 x.vo S.A.os.length (Ar.ocs S.A.os) x.co
 c:OwnSl 132 10 x.vc (Dv S.H.1).length (Nl (Dv S.H.1)) x.cc
 t:OwnSl 130 3 x.vt S.H.2.length (Tr.ncs S.H.2) x.ct
 h:OwnSl 79 24 x.vh S.T.length (Th.thcs S.T) x.ch
 r:OwnSl 3 1 x.vr C (S.U.map CG) x.cr
 q:OwnSl 3 1 x.vq (oI S.Q).length ((oI S.Q).map CG) x.cq
abbrev lj(B:Nat)(vo vc vt vh:Value)(N:As.ASt)(vr vq:Value):Ab:=(B,.cells (toArray (P1 vo vc vt vh N vr vq)) 52 (0,0))
def pS:List Value:=[.int .i64 0,.bool false,.int .i64 0,.int .i64 0,.int .i64 0,.int .i64 0,.int .i64 0,.int .i64 0,.int .i64 0,.int .i64 0]
def Px:List Value:=pS++(pS++(pS++(pS++(pS++(pS++(pS++pS))))))
abbrev De:Value:= .slice none 0 0
theorem kj{vo vc vt vh vq:Value}(N:As.ASt)(h1:vo.oneCell'=true)(h2:vc.oneCell'=true)(h3:vt.oneCell'=true)(h4:vh.oneCell'=true)(h5:vq.oneCell'=true):BuildS prog 52 (De::De::De::De::(Px++[De,De])) [(0,vo),(1,vc),(2,vt),(3,vh),(4,.agg (toArray (Tb N))),(6,vq)] (P1 vo vc vt vh N De vq):=by refine .one inferInstance inferInstance h1 .zero (.one inferInstance inferInstance h2 (.succ .zero) (.one inferInstance inferInstance h3 (.succ (.succ .zero)) (.one inferInstance inferInstance h4 (.succ (.succ (.succ .zero))) (.agg inferInstance inferInstance (Gi N) (LSetA.mid [vo,vc,vt,vh] Px (Tb N) [De,De] rfl (Gi N).symm) (.one inferInstance inferInstance h5 ?_ .nil)))));have:=LSet.mid (vo::vc::vt::vh::(Tb N++[De])) [] De vq (k:=85) (by simp[Gi]);simpa[P1] using this
theorem y9(m v rb z:Ab)(cr cq ch ct cc co L:List Ab):Keep (m::v::(cr++rb::(cq++(ch++(ct++(cc++(co++z::L))))))) (z::v::m::(co++(cc++(ct++(ch++(cr++(cq++L))))))):=A4 [rb]
theorem za(m v z:Ab)(L:List Ab):Keep (z::v::m::L) ([m]++(z::L)):=A4 [v]
theorem sv(hK:IsK F C k S p s)(G:List Ab):Fn prog 56 [pV b] (Aw b p s S G) λv l'=>
 ∃x:VwL,v= .agg (toArray (P1 x.vo x.vc x.vt x.vh S.N x.vr x.vq))/\IsVwK C S x/\l'=x.co++(x.cc++(x.ct++(x.ch++(x.cr++(x.cq++Aw b p s S G))))):=by
 obtain⟨L,hL⟩: ∃L,L=Aw b p s S G:=⟨_,rfl⟩
 have hmr:Cw b p∈L:=by rw[hL];exact .head _
 have hmn:As.asA p.n S.N∈L:=by rw[hL];exact .tail _ (.head _)
 have hma: ∀c,c∈s.A->c∈L:=λc hc=>by rw[hL];unfold Aw;simp[hc]
 have hmh: ∀c,c∈s.H->c∈L:=λc hc=>by rw[hL];unfold Aw;simp[hc]
 have hmt: ∀c,c∈s.T->c∈L:=λc hc=>by rw[hL];unfold Aw;simp[hc]
 have hmq: ∀c,c∈s.Q->c∈L:=λc hc=>by rw[hL];unfold Aw;simp[hc]
 have hmv: ∀c,c∈s.V->c∈L:=λc hc=>by rw[hL];unfold Aw;simp[hc]
 rw[<-hL];obtain⟨m9,hm9,hi9⟩:=hK.inv;obtain⟨hs1,hs2,_⟩:=hi9.small Af;have hT:S.T.length<=900000:=by have:=hK.tl;omega
 have hul:=hK.ul;refine AM func56 ntmps56 λE=>?_;refine AO λb2=>?_;have hsub: ∀(c:Ab),c∈[Cw b p]->c∈(b2,Obj.cells (toArray (De::De::De::De::(Px++[De,De]))) 52 (0,0))::L:=λc hc=>by rw[Ax.1 hc];exact .tail _ hmr
 refine QC [(0,true),(1,true),(2,true),(3,true),(5,true),(6,true),(7,true),(8,true),(10,true),(11,true),(12,true),(13,true),(15,true),(16,true),(17,true),(18,true),(20,true),(21,true),(22,true),(23,true),(25,true),(26,true),(27,true),(28,true),(4,false),(9,false),(14,false),(19,false),(24,false),(29,false),(30,true),(31,false),(32,false)] [[],[0],[0,1],[0,1,2],[0,1,2,3],[],[5],[5,6],[5,6,7],[0,1,2,3,4,5,6,7,8],[],[10],[10,11],[10,11,12],[0,1,2,3,4,5,6,7,8,9,10,11,12,13],[],[15],[15,16],[15,16,17],[0,1,2,3,4,5,6,7,8,9,10,11,12,13,14,15,16,17,18],[],[20],[20,21],[20,21,22],[0,1,2,3,4,5,6,7,8,9,10,11,12,13,14,15,16,17,18,19,20,21,22,23],[],[25],[25,26],[25,26,27],[0,1,2,3,4,5,6,7,8,9,10,11,12,13,14,15,16,17,18,19,20,21,22,23,24,25,26,27,28],[0,1,2,3,4,5,6,7,8,9,10,11,12,13,14,15,16,17,18,19,20,21,22,23,24,25,26,27,28,29],[],[0,1,2,3,4,5,6,7,8,9,10,11,12,13,14,15,16,17,18,19,20,21,22,23,24,25,26,27,28,29,30,31]] (some [(4,31),(9,31),(14,31),(19,31),(24,31),(29,31)]) ([Cw b p]) Bs Bs Gt (hsub) ?_;refine BM ?_;refine nj [(4,_,λv cs=>OwnSl 100 9 v S.A.os.length (Ar.ocs S.A.os) cs),(9,_,λv cs=>OwnSl 132 10 v (Dv S.H.1).length (Nl (Dv S.H.1)) cs),(14,_,λv cs=>OwnSl 130 3 v S.H.2.length (Tr.ncs S.H.2) cs),(19,_,λv cs=>OwnSl 79 24 v S.T.length (Th.thcs S.T) cs),(24,_,λv cs=>v= .agg (toArray (Tb S.N))/\cs=[]),(29,_,λv cs=>OwnSl 3 1 v (oI S.Q).length ((oI S.Q).map CG) cs)] [(30,_)] (31,_,λv cs=> ∃b,v= .pointer (some ⟨b,0,none⟩)/\cs=[(b,.cells (toArray (De::De::De::De::(Px++[De,De]))) 52 (0,0))]) 3 rfl rfl rfl hsub (λ_ h=>by cases h) ⟨N0 rfl rfl (λl' hl=>Ar.all_any p.a S.A s.A hK.ar l' λc hc=>hl _ (.tail _ (hma c hc))) rfl rfl,N0 rfl rfl (λl' hl=>T6 p.h S.H s.H hK.ho hs1 l' λc hc=>hl _ (.tail _ (hmh c hc))) rfl rfl,N0 rfl rfl (λl' hl=>cI p.h S.H s.H hK.ho hs2 l' λc hc=>hl _ (.tail _ (hmh c hc))) rfl rfl,N0 rfl rfl (λl' hl=>Th.all_any p.t S.T s.T hK.th hT l' λc hc=>hl _ (.tail _ (hmt c hc))) rfl rfl,N0 rfl rfl (λl' hl=>(As.pools_any p.n S.N (Tb S.N) (dX S.N) (Gi S.N) (Q7 S.N) l' (hl _ (.tail _ hmn))).mono λv l2 h=>⟨[],⟨h.1,rfl⟩,h.2⟩) rfl rfl,N0 rfl rfl (λl' hl=>Qu.all_any p.q S.Q s.Q hK.qu (λj hj=>by have:=hK.ql j hj;omega) l' λc hc=>hl _ (.tail _ (hmq c hc))) rfl rfl,trivial⟩ (iE rfl rfl) Bs Bs rfl rfl ?_;intro vo co ho vc cc hc vt ct ht vh ch hh vp cp hp vq cq hq;obtain⟨rfl,rfl⟩:=hp;refine⟨_,_,ZG rfl (kj S.N ho.one hc.one ht.one hh.one hq.one),rfl,rfl,rfl,?_⟩;rintro v3 c3 ⟨b3,rfl,rfl⟩;simp only[HI,AddK];simp only at ho hc ht hh hq;apply M2
 ·refine Et (cs:=toArray (De::De::De::De::(Px++[De,De]))) (T:=52) (l':=lj b3 vo vc vt vh S.N De vq::(cq++(ch++(ct++(cc++(co++(b2,Obj.cells (toArray (De::De::De::De::(Px++[De,De]))) 52 (0,0))::L)))))) rfl rfl ?_ ?_ ?_ ?_
  ·show(P1 vo vc vt vh S.N De vq).length=86;simp[Gi]
  ·intro v hv;simp only[DW,Ap,AE,BQ,Eo] at hv;rcases hv with rfl|rfl|rfl|rfl|hv|rfl|rfl
   ·exact ho.one
   ·exact hc.one
   ·exact ht.one
   ·exact hh.one
   ·exact Q7 _ v hv
   ·rfl
   ·exact hq.one
  ·rw[DW,As.setFrom_all _ _ (by simp[Gi];rfl)];exact .here
  ·show 0+86<=(De::De::De::De::(Px++[De,De])).length;decide
 ·rfl
 ·rfl
 ·rintro _ _ ⟨_,rfl⟩ c hc;rw[Ax.1 hc];simp[hmr]
 rintro _ _ ⟨rfl,rfl⟩;refine BM ?_;refine Aj ?_;refine AP (Az rfl rfl (N4 b _)) ?_;rintro _ _ ⟨B,rfl,rfl⟩;refine Aj ?_;obtain⟨gL,hgl⟩: ∃gL,gL=cq++(ch++(ct++(cc++(co++(b2,Obj.cells (toArray (De::De::De::De::(Px++[De,De]))) 52 (0,0))::L)))):=⟨_,rfl⟩
 have hLg: ∀c,c∈L->c∈gL:=λc hc=>by rw[hgl];simp[hc]
 rw[<-hgl];have hC1:=hK.c1;obtain⟨bv,cap,sp,hv,hV,_⟩:=hK.cur;have hmB: ∀c,c∈[rB B b,Cw b p]->c∈rB B b::gL:=λc hc=>by
  rcases Ap.1 hc with rfl|hc
  ·exact .head _
  ·rw[Ax.1 hc];exact .tail _ (hLg _ hmr)
 have hmc:(bv,Obj.cells (toArray (S.U.map CG++sp)) 3 (0,0))∈L:=hmv _ (by rw[hV];exact .head _);have h84: ∀(N:As.ASt),(vo::vc::vt::vh::Tb N).length=84:=λN=>by simp[Gi]
 refine C0 (α:=Nat) (ps:=[42,43]) (lb:=[pV B]) rfl (Mp B b p bv C cap Af hv) (λ_=>rfl) rfl
  (λpre l=> ∃vr cr,OwnSl 3 1 vr pre.length ((S.U.take pre.length).map CG) cr/\l=lj b3 vo vc vt vh S.N vr vq::cr) (λc pre l=>False) [lj b3 vo vc vt vh S.N De vq] (rB B b::gL)
  (λpre l2 X2 hX h=>⟨Aa _ (hX _ (.head _)),Aa _ (hX _ (.tail _ (hLg _ hmr)))⟩) (.of_perm (.swap _ _ _)) ⟨_,[],OwnSl.nil _ _,rfl⟩ ?_ ?_ ?_
 ·rintro E r0 rec pre x l' T ⟨fn,tmps,D,rfl⟩ hT ⟨vr,cr,hown,rfl⟩ hsp;obtain⟨rfl,hx,_⟩:=az hsp rfl;have c0:=Qg (U:=S.U) (sp:=sp) (i:=pre.length) Af;obtain⟨u,hu⟩: ∃u,S.U.getD pre.length 0=u:=⟨_,rfl⟩
  rw[hu] at c0;have hv1:vr.oneCell'=true:=hown.one;simp only[DG,Ae,Ag];refine Aj ?_;refine Cy (.there (Fg _ _ _ _ _)) ?_;generalize hX1:(r0,Obj.loop (Dz fn tmps _ _ _ D .busy none))::T=X1;have hmX:(bv,Obj.cells (toArray (S.U.map CG++sp)) 3 (0,0))∈X1:=by rw[<-hX1];exact .tail _ (hT _ (.tail _ (hLg _ hmc)))
  refine Aj ?_;refine Ch [5,6,8] 9 ([]) ?_;refine BM ?_;apply FM (S:=[lj b3 vo vc vt vh S.N vr vq])
  ·exact DH rfl (.head _) (Kd (LGet.mid (vo::vc::vt::vh::Tb S.N) [vq] vr (h84 _)))
  ·exact CS (.head _)
  ·rfl
  ·rfl
  ·rfl
  refine BM ?_;apply FM (S:=[(bv,Obj.cells (toArray (S.U.map CG++sp)) 3 (0,0))])
  ·exact DH (v:=iV u) rfl (.head _) (by first|exact c0|(rw[Df];exact c0))
  ·exact CS (.tail _ (Aa _ hmX))
  ·rfl
  ·rfl
  ·rfl
  refine BM ?_;apply GC
  ·exact Kg (v:=iV u) rfl rfl
  ·rfl
  ·rfl
  ·rfl
  ·intro _ _ _ c hc;cases hc
  ·rintro _ _ ⟨bl,_,rfl,rfl⟩ x hx _ c hc;simp only[Ap,BQ,Eo] at hx;rcases hx with rfl|rfl<;>simp only[Ap,BQ,Eo] at hc<;>subst hc
   ·exact .tail _ (.tail _ (Aa _ hmX))
   ·exact .tail _ (.head _)
  rintro _ _ ⟨bl,_,rfl,rfl⟩;refine BM ?_;apply GC
  ·apply GX (k:=1) (X:=[lj b3 vo vc vt vh S.N vr vq]) (cs:=cr) (xs:=(S.U.take pre.length).map CG) (n:=pre.length) (zs:=[.int .i64 0]) (ws:=[iV u])
   ·rfl
   ·rfl
   ·rfl
   ·exact hown
   ·rfl
   ·simp[Value.oneCell']
   ·omega
   ·decide
  ·rfl
  ·rfl
  ·rfl
  ·intro _ _ _ c hc;cases hc
  ·exact λ_ _ _ x hx ha=>C3 Bs hx ha
  rintro v' _ ⟨c2,ho2,rfl⟩;have hv1:v'.oneCell'=true:=ho2.one;simp only[Ae,Ag];refine BM ?_;apply GW
  ·apply F0 (cs:=P1 vo vc vt vh S.N vr vq) (cs':=P1 vo vc vt vh S.N v' vq)
   ·rfl
   ·rfl
   ·exact hv1
   ·exact .head _
   ·exact LSet.mid (vo::vc::vt::vh::Tb S.N) [vq] vr v' (h84 _)
   ·exact .here
  ·rfl
  ·rfl
  ·intro _ _ _ c hc;cases hc
  ·exact λ_ _ _ x hx ha=>C3 Bs hx ha
  rintro _ _ ⟨rfl,rfl⟩;refine BM ?_;refine Aj ?_;rw[<-hX1];refine B0 _ (.refl) ⟨v',c2,?_,rfl⟩;rw[Ai,Bh,Cg,Aq,Al Af];rw[List.getD,Al Af,Di] at hu;rw[hu];exact ho2
 ·rintro D xs l' rfl ⟨vr,cr,hown,rfl⟩;rw[EM,Bv Af] at hown;have hv1:vr.oneCell'=true:=hown.one;refine Aj ?_;have hlv:(P1 vo vc vt vh S.N vr vq).length=86:=by simp[Gi]
  refine Bb (HQ rfl (.tail _ (.head _)) (As.LSub.of_all (n:=86) _ hlv)) ?_;rw[hgl];refine Bk (y9 ..) ?_;apply Mu
  ·refine Et (cs:=toArray (De::De::De::De::(Px++[De,De]))) (T:=52) (l':=lj b2 vo vc vt vh S.N vr vq::lj b3 vo vc vt vh S.N vr vq::Cf D::(co++(cc++(ct++(ch++(cr++(cq++L))))))) rfl rfl hlv ?_ ?_ ?_
   ·intro v hv;simp only[DW,Ap,AE,BQ,Eo] at hv;rcases hv with rfl|rfl|rfl|rfl|hv|rfl|rfl
    ·exact ho.one
    ·exact hc.one
    ·exact ht.one
    ·exact hh.one
    ·exact Q7 _ v hv
    ·exact hv1
    ·exact hq.one
   ·rw[DW,As.setFrom_all _ _ (by simp[Gi];rfl)];exact .here
   ·show 0+86<=(De::De::De::De::(Px++[De,De])).length;decide
  ·rfl
  ·rfl
  rintro _ _ ⟨rfl,rfl⟩;refine Aj ?_;exact AW [D] (lj b2 vo vc vt vh S.N vr vq::(co++(cc++(ct++(ch++(cr++(cq++L))))))) rfl (za ..) (Cz rfl (.head _) (As.LSub.of_all (n:=86) _ hlv) .nil) (.drop .refl) ⟨⟨vo,vc,vt,vh,vr,vq,co,cc,ct,ch,cr,cq⟩,rfl,⟨ho,hc,ht,hh,hown,hq⟩,rfl⟩
 ·rintro D c pre l' hsp h;exact h.elim
def VwL.all(x:VwL):List Ab:=x.co++(x.cc++(x.ct++(x.ch++(x.cr++x.cq))))
theorem SN(kb b:Nat)(l:List Ab)(hm:Ot kb b∈l):Fn prog 55 [pV kb] l λv l'=>v=pV b/\l'=l:=by refine AM func55 ntmps55 λE=>?_;exact EA
theorem xF(b:Nat)(p:RP)(s:RL)(S:KT)(x:VwL)(A G:List Ab):Keep (x.co++(x.cc++(x.ct++(x.ch++(x.cr++(x.cq++Aw b p s S (A++G))))))) (x.all++(A++(Aw b p s S []++G))):=by unfold Aw VwL.all;exact A4 []
section
variable{st:List (Int×List GJ)}{l:List Ab}
theorem bj(hK:IsK F C k S p s)(A G:List Ab):Fn prog 56 [pV b] (A++(Aw b p s S []++G)) λv l'=> ∃x:VwL,v= .agg (toArray (P1 x.vo x.vc x.vt x.vh S.N x.vr x.vq))/\IsVwK C S x/\l'=x.all++(A++(Aw b p s S []++G)):=
 Fn.re (.of_perm (sg ..)) (sv hK (A++G)) λv l' ⟨x,h1,h2,h3⟩=>⟨_,by rw[h3];exact xF ..,x,h1,h2,rfl⟩
theorem vg(w k:Ab)(ct cs cn A G:List Ab):(w::k::(ct++(cs++(cn++A))))++G=[w,k]++ct++cs++cn++(A++G):=by simp
theorem P2(hW:IsWo F C k S th st wb l)(G:List Ab):Fn prog 22 [pV wb] (l++G) λv l'=> ∃x:VwL,v= .agg (toArray (P1 x.vo x.vc x.vt x.vh S.N x.vr x.vq))/\IsVwK C S x/\l'=x.all++(l++G):=by
 obtain⟨b,kb,p,s,vt,vs,ct,cs,rows,cn,hK,ht,hs,hst,hsl,hl⟩:=hW.ex;obtain⟨A,hA⟩: ∃A,[Zj wb kb vt vs,Ot kb b]++ct++cs++cn=A:=⟨_,rfl⟩
 have mw:Zj wb kb vt vs∈A:=by rw[<-hA];simp
 have mk:Ot kb b∈A:=by rw[<-hA];simp
 have hv:=λG=>bj hK (b:=b) A G;have el: ∀G,l++G=A++(Aw b p s S []++G):=λG=>by rw[hl,vg,hA]
 rw[el];have mw':Zj wb kb vt vs∈A++(Aw b p s S []++G):=Ah _ mw;have mk':Ot kb b∈A++(Aw b p s S []++G):=Ah _ mk;refine AM func22 ntmps22 λE=>?_;refine AO λb2=>?_;refine Bb (AJ rfl rfl λl2 hl=>SN kb b l2 (hl _ (.tail _ mk'))) ?_;refine AP (Az rfl rfl (bj (b:=b) hK ((b2,Obj.cells (toArray (De::De::De::De::(Px++[De,De]))) 52 (0,0))::A) G)) ?_;rintro _ _ ⟨x,rfl,hx,rfl⟩;obtain⟨vo,vc,vt,vh,vr,vq,co,cc,ct',ch,cr,cq⟩:=x;obtain⟨ho,hc,ht',hh,hr,hq⟩:=hx;simp only at ho hc ht' hh hr hq;obtain⟨Y,hY⟩: ∃Y,VwL.all ⟨vo,vc,vt,vh,vr,vq,co,cc,ct',ch,cr,cq⟩=Y:=⟨_,rfl⟩
 rw[hY];refine Bk (l':=(b2,Obj.cells (toArray (De::De::De::De::(Px++[De,De]))) 52 (0,0))::(Y++(A++(Aw b p s S []++G)))) (.of_perm AH) ?_;have hlv:(P1 vo vc vt vh S.N vr vq).length=86:=by simp[Gi]
 refine Aj ?_;apply Mu
 ·refine Et (cs:=toArray (De::De::De::De::(Px++[De,De]))) (T:=52) (l':=lj b2 vo vc vt vh S.N vr vq::(Y++(A++(Aw b p s S []++G)))) rfl rfl hlv ?_ ?_ ?_
  ·intro v hv;simp only[DW,Ap,AE,BQ,Eo] at hv;rcases hv with rfl|rfl|rfl|rfl|hv|rfl|rfl
   ·exact ho.one
   ·exact hc.one
   ·exact ht'.one
   ·exact hh.one
   ·exact Q7 _ v hv
   ·exact hr.one
   ·exact hq.one
  ·rw[DW,As.setFrom_all _ _ (by simp[Gi];rfl)];exact .here
  ·show 0+86<=(De::De::De::De::(Px++[De,De])).length;decide
 ·rfl
 ·rfl
 rintro _ _ ⟨rfl,rfl⟩;refine Aj ?_;exact AW [] (lj b2 vo vc vt vh S.N vr vq::(Y++(A++(Aw b p s S []++G)))) rfl .refl (Cz rfl (.head _) (As.LSub.of_all (n:=86) _ hlv) .nil) (.drop .refl) ⟨⟨vo,vc,vt,vh,vr,vq,co,cc,ct',ch,cr,cq⟩,rfl,⟨ho,hc,ht',hh,hr,hq⟩,by rw[hY]⟩
theorem km(hW:IsWo F C k S th st wb l)(hth:th.length<=1000000)(G:List Ab):Fn prog 20 [pV wb] (l++G) λv l'=> ∃c2,OwnSl 3 1 v th.length (th.map CG) c2/\l'=c2++(l++G):=by
 obtain⟨b,kb,p,s,vt,vs,ct,cs,rows,cn,hK,ht,hs,hst,hsl,hl⟩:=hW.ex;have mw:Zj wb kb vt vs∈l++G:=by rw[hl];simp
 have hvt:=ht.one;have Nl: ∀c,c∈ct->c∈l++G:=λc hc=>by rw[hl];simp[hc]
 refine AM func20 ntmps20 λE=>?_;refine Aj ?_;refine AP (Az (vs:=[vt]) rfl rfl (En.clone_any vt th ct _ ht Nl hth)) ?_;rintro v' _ ⟨c2,ho2,rfl⟩;have hv1:v'.oneCell'=true:=ho2.one;refine Aj ?_;refine A9 .refl ?_;exact⟨c2,ho2,rfl⟩
end
def MI(hs:List Pe)(s:Ce):CapT×Bool:=match hs.find? (λh=>decide (h.1=s)) with
 |some h=>(h.2,true)
 |none=>(CA,false)
abbrev xG(B:Nat)(c:List Value):Ab:=(B,.cells (toArray c) 52 (0,0))
abbrev yp(B:Nat)(h:Pe):Ab:=(B,.cells (toArray (Nk h)) 132 (0,0))
theorem oJ(c:List Value)(vc:Value)(hs:List Pe)(s:Ce)(l:List Ab)(hc:(toArray c)[1]?=some vc)(hv:RowSl l vc 10 Nk hs)(hn:hs.length<=1000000):Fn prog 68 [.agg (toArray c),Fz s] l λv l'=>v= .tuple #[U8 (MI hs s).1,.bool (MI hs s).2]/\l'=l:=by
 obtain⟨a,cap,rfl,hr⟩:=hv;refine AM func68 ntmps68 λE=>?_;refine Aj ?_;refine AP (CK rfl) ?_;rintro _ _ ⟨b2,_,rfl,rfl⟩;refine AP (CK rfl) ?_;rintro _ _ ⟨b3,_,rfl,rfl⟩;refine AO λb4=>?_;refine CE (α:=Nat) (λk=>[(2,pV b2),(3,pV b3),(4,pV b4),(9,.slice a hs.length cap),(10,.int .i64 (hs.length:Nat)),(11,.int .i64 k)]) (λk=>Bq b4 CA::(b3,.cells (toArray (Co s)) 61 (0,0))::xG b2 c::l) (λk=>k<=hs.length/\ ∀h,h∈hs.take k->¬h.1=s) (λk=>hs.length-k) 0 ⟨Bl _,by simp⟩ ⟨rfl,rfl,rfl,rfl,rfl,rfl,trivial⟩ .refl ?_;rintro k ⟨hk,hno⟩;by_cases hlt:k<hs.length
 ·obtain⟨h,e1⟩: ∃h,hs[k]?=some h:=⟨_,Al hlt⟩
  obtain⟨b,off,cs,t,fz,rfl,hm,hrow⟩:=hr Af;obtain⟨g1,g2⟩:=hrow k h e1;refine Aj ?_;refine Bb (Dn rfl (.tail _ (.tail _ (.tail _ hm))) g1 g2) ?_;refine AO λb7=>?_;refine Bb (FU (ks:=[some .i64,some .i64]) (xs:=Co h.1) (ys:=Co s) rfl rfl (HT (by rfl)) (HT (by rfl))) ?_;by_cases he:h.1=s
  ·rw[show BX (Co h.1) (Co s)=true by rw[he];exact Ge (ks:=[some .i64,some .i64]) (HT (by rfl))];have hf:MI hs s=(h.2,true):=by
    have h3:hs.find? (λh=>decide (h.1=s))=some h:=by obtain⟨hl,hx⟩:=Ay.1 e1;refine List.find?_eq_some_iff_getElem.2 ⟨by simpa using he,k,hl,hx,λj hj=>?_⟩;have:=hno hs[j] (List.mem_take_iff_getElem.2 ⟨j,Af,rfl⟩);simpa using this
    unfold MI;rw[h3]
   rw[hf];refine Aj ?_;exact AW (vs:=[U8 h.2,.bool true]) [] _ rfl .refl (Cz rfl (.tail _ (.head _)) (As.LSub.of_all (n:=8) (BW h.2) rfl) (by exact A8)) (.drop (.drop (.drop (.drop .refl)))) ⟨rfl,rfl⟩
  ·rw[show BX (Co h.1) (Co s)=false by
    cases hq:BX (Co h.1) (Co s) with
    |false=>rfl
    |true=>have:=(F9 (ks:=[some .i64,some .i64]) (HT (by rfl)) (HT (by rfl))).1 hq;simp only[Co,Cc,Value.int.injEq,HF,IF] at this;exact absurd (Gn this.1 this.2) he]
   refine Aj ?_;exact BV (k+1) ⟨Af,λx hx=>by
    rw[Cg,e1,AE] at hx;rcases hx with hx|hx
    ·exact hno x hx
    ·simp at hx;rw[hx];exact he⟩ Af ⟨rfl,rfl,rfl,rfl,rfl,rfl,trivial⟩ (.drop .refl)
 ·obtain rfl:k=hs.length:=by omega
  have hf:MI hs s=(CA,false):=by unfold MI;rw[By.2 λx hx=>by simpa using hno x (by rw[Ed];exact hx)]
  rw[hf];refine Aj ?_;exact AW (vs:=[U8 CA,.bool false]) [] _ rfl .refl (Cz rfl (.head _) (As.LSub.of_all (n:=8) (BW CA) rfl) (by exact A8)) (.drop (.drop (.drop .refl))) ⟨rfl,rfl⟩
theorem LSub.front: ∀(A B:List Value),LSub (A++B) 0 A.length A
 |[],B=> .done
 |a::A,B=> .take (LSub.front A B)
theorem SO(vo vc vt vh:Value)(N:As.ASt)(vr vq:Value):LSub (P1 vo vc vt vh N vr vq) 4 80 (Tb N):=by refine .drop (.drop (.drop (.drop ?_)));have:=LSub.front (Tb N) [vr,vq];rwa [Gi] at this
abbrev zb(o:Int)(d:Bool)(r0 r1 r2 r3 s0 s1 s2 s3:Int):List Value:=[iV o,.bool d,iV r0,iV r1,iV r2,iV r3,iV s0,iV s1,iV s2,iV s3]
theorem oK(vo vc vt vh vr vq:Value)(N:As.ASt)(hs:List Pe)(id:Int)(cp:CapT)(l:List Ab)(hv:RowSl l vc 10 Nk hs)(hn:hs.length<=1000000)(h1:MI hs (id,1)=(cp,true))(h2:cp.kind=5)(h3:N.root 0=0)(h4:N.root 1=cp.obj)(h5:¬cp.obj=0):
 Fn prog 50 [.agg (toArray (P1 vo vc vt vh N vr vq)),.int .i64 id] l λv l'=>v= .tuple #[iV (N.ser 1),.bool true]/\l'=l:=by
 have u1:(toArray (P1 vo vc vt vh N vr vq))[1]?=some vc:=rfl;have u4:=SO vo vc vt vh N vr vq;have u86:(P1 vo vc vt vh N vr vq).length=86:=by simp[Gi]
 have hp:((Tb N).drop (0*10)).take 10=zb (N.obj 0) (N.dead 0) (N.root 0) (N.root 1) (N.root 2) (N.root 3) (N.ser 0) (N.ser 1) (N.ser 2) (N.ser 3):=rfl;obtain⟨c,hc⟩: ∃c,P1 vo vc vt vh N vr vq=c:=⟨_,rfl⟩
 rw[hc] at u1 u4 u86⊢;have hj:=λl2 hl=>oJ c vc hs (id,1) l2 u1 (hv.mono hl) hn;rw[h1] at hj;dsimp only at hj;refine AM func50 ntmps50 λE=>?_;refine Aj ?_;refine AP (CK rfl) ?_;rintro _ _ ⟨b2,_,rfl,rfl⟩;refine Aj ?_;refine Bb (HQ rfl (.head _) (As.LSub.of_all (n:=86) c u86)) ?_;refine Aj ?_;refine Bb (AJ (vs:=[.agg (toArray c),Fz (id,1)]) rfl rfl λl2 hl=>hj l2 λx hx=>hl x (.tail _ hx)) ?_;refine AO λb6=>?_;refine Bb (HQ rfl (.tail _ (.head _)) u4) ?_;refine Aj ?_;refine Hu 0 ?_;refine Aj ?_;refine Bb (YJ (i:=0) rfl rfl AX hp) ?_;rw[h3,h4];refine AO λb9=>?_;refine Hu 1 ?_;refine Aj ?_;refine oX (v:=iV 0) (by refine Vq (m:=0) rfl rfl rfl AX rfl) rfl rfl rfl ?_;refine Aj ?_;refine EI ?_;refine Aj ?_;refine oX (v:=iV cp.obj) (by refine Vq (m:=1) rfl rfl rfl AX rfl) rfl rfl rfl ?_;refine Aj ?_;refine Bb (DH (v:=iV (N.ser 1)) rfl (.head _) rfl) ?_;refine Aj ?_;exact CF (vs:=[iV (N.ser 1),.bool true]) _ .refl (.drop (.drop (.drop .refl))) ⟨rfl,rfl⟩
set_option maxRecDepth 100000
abbrev vi:MR:=⟨0,0,0,0,0,0,0⟩
abbrev VC:Oe:=⟨1,0,1,vi,0,0,0,0,0⟩
abbrev Xo:Oe:=⟨2,0,0,⟨1,3,3,0,1,8,1⟩,0,0,0,0,0⟩
abbrev Zm:Oe:=⟨3,0,0,vi,8,0,0,0,0⟩
def s8:KT:=Ir 22 1 2 false
abbrev ko:GJ:=⟨1,6,0,sW,0,false,4,8,false⟩
theorem oL:ka s8 [VC,Xo,Zm]=[(0,[]),(0,[MC 1]),(0,[ko])]:=by decide+kernel
theorem sx:Xm 22 2 false=[1,8]:=by decide+kernel
def awT:KT:=xE s8 [VC,Xo,Zm]
abbrev dY(B:Nat)(cs:List Value):Ab:=(B,.cells (toArray cs) 69 (0,0))
instance:EQ prog 67 [some .i64,some .u64,none]:=⟨Bs⟩
abbrev yu(sp:List Value):List Value:=iV 1::iV 6::Ba 0::Ba 0::Ba 0::Ba 0::Ba 0::Ba 0:: .bool false::iV 4::Ba 8:: .bool false::sp
def vj:Bool:=decide ((MI (Dv awT.H.1) (1,1)).2=true)&&decide ((MI (Dv awT.H.1) (1,1)).1.kind=5)&&decide (awT.N.root 0=0)&&decide (awT.N.root 1=(MI (Dv awT.H.1) (1,1)).1.obj)&&!decide ((MI (Dv awT.H.1) (1,1)).1.obj=0)&&decide (awT.N.ser 1=1)&&decide ((Dv awT.H.1).length<=1000)
theorem vk:vj=true:=by decide+kernel
theorem vm:fq VC/\fq Xo/\fq Zm:=⟨⟨⟨by decide,by decide,by decide,by decide,by decide,by decide,by decide⟩,by decide,by decide⟩,⟨⟨by decide,by decide,by decide,by decide,by decide,by decide,by decide⟩,by decide,by decide⟩,⟨⟨by decide,by decide,by decide,by decide,by decide,by decide,by decide⟩,by decide,by decide⟩⟩
theorem P3(l:List Ab):Fn prog 17 [] l λv l'=>v= .bool true/\ ∃X,l'=X++l:=by
 obtain⟨he1,he2,he3⟩:=vm;refine AM func17 ntmps17 λE=>?_;refine Aj ?_;refine AP (Az (vs:=[pR 22 1 2 false]) rfl rfl (Xn 22 1 2 false l)) ?_;rintro _ _ (⟨hmay,rfl,rfl⟩|⟨hmay,wb,lw,rfl,hW,rfl⟩)
 ·exact absurd hmay AX
 have hth:Xm (22:Int).toNat (2:Int).toNat false=[1,8]:=sx;rw[hth] at hW;refine Aj ?_;try simp only[AL,AK,AQ]
 have hW:IsWo 22 1 (832+aY VC) s8 [1,8] [] wb lw:=hW;have hpl:=oL;simp only[ka,Cc,Prod.mk.injEq,IF] at hpl;obtain⟨⟨hp1,hp2⟩,⟨hp3,hp4⟩,hp5,hp6⟩:=hpl;refine Ia (Az (vs:=[pV wb]) rfl rfl (km hW AX l)) rfl rfl rfl ?_;rintro v1 _ ⟨ct,hoT,rfl⟩;have hv1:=hoT.one;refine Ia (XU (z0:= .int .i64 0) (cs:=[.int .i64 1,.int .i64 8]) rfl AX AX rfl) rfl rfl rfl ?_;rintro _ _ ⟨bl,_,rfl,rfl⟩;refine Mv (AJ rfl rfl λl2 hl=>L7 v1 _ [1,8] [1,8] l2 (hoT.intsQ λc hc=>hl c (.tail _ (Ah _ hc))) ((OwnSl.lit (e:=3) (n:=2) AX rfl AX).intsQ λc hc=>hl c (by rw[Ax.1 hc];exact .head _)) AX) rfl rfl rfl ?_;rw[At rfl];refine Aj ?_;refine Bk (l':=lw++l) (.drop (Keep.dropL' ct .refl)) ?_;refine AP (Az (vs:=[pV wb,OO VC]) rfl rfl (Pw VC he1 hW AX l (BP (bi _ _) AX))) ?_;rintro _ _ ⟨sl1,c1,lw1,rfl,ho1,hW1,rfl⟩;have hW1:IsWo 22 1 (824+aY Xo) (K9 s8 VC).2 [1,8] _ wb lw1:=hW1;refine Aj ?_;refine Bk (l':=lw1++l) (Keep.dropL' c1 .refl) ?_;refine Bb (Gf (zs:=[Ba 0,Ba 0,Ba 0,Ba 0,Ba 0,Ba 0]) (cs:=[Ba 3,Ba 3,Ba 0,Ba 1,Ba 8,Ba 1]) rfl rfl) ?_;refine Aj ?_;refine AP (Az (vs:=[pV wb,OO Xo]) rfl rfl (Pw Xo he2 hW1 AX l (BP (bi _ _) AX))) ?_;rintro _ _ ⟨sl2,c2,lw2,rfl,ho2,hW2,rfl⟩;have hW2:IsWo 22 1 (822+aY Zm) (K9 (K9 s8 VC).2 Xo).2 [1,8] _ wb lw2:=hW2;rw[hp4] at ho2;rw[hp3];obtain⟨q2,k2,rfl⟩:=ho2.shape;refine AO λb3=>?_;refine Bk (l':=lw2++(GL b3 0 (.slice q2 [MC 1].length k2)::(c2++l))) (show Keep (GL b3 0 (.slice q2 [MC 1].length k2)::(c2++(lw2++l))) _ from A4 []) ?_;refine AP (Az (vs:=[pV wb,OO Zm]) rfl rfl (Pw Zm he3 hW2 AX _ (BP (bi _ _) AX))) ?_;rintro _ _ ⟨sl3,c3,lw3,rfl,ho3,hW3,rfl⟩;rw[hp6] at ho3;rw[hp5];obtain⟨g3,k3,sp3,rfl,rfl⟩:=Mr ho3 AX;refine AO λb4=>?_;refine Bk (l':=lw3++(GL b4 0 (.slice (some ⟨g3,0,none⟩) [ko].length k3)::([dY g3 (GK [ko]++sp3)]++(GL b3 0 (.slice q2 [MC 1].length k2)::(c2++l))))) (show Keep (GL b4 0 (.slice (some ⟨g3,0,none⟩) [ko].length k3)::([dY g3 (GK [ko]++sp3)]++(lw3++(GL b3 0 (.slice q2 [MC 1].length k2)::(c2++l))))) _ from A4 []) ?_;refine AP (Az (vs:=[pV wb]) rfl rfl (P2 hW3 _)) ?_;rintro _ _ ⟨x,rfl,hx,rfl⟩;have hS:(K9 (K9 (K9 s8 VC).2 Xo).2 Zm).2=awT:=rfl;rw[hS] at hx;rw[hS];have hok:=vk;unfold vj at hok;simp only[AR,Bg,DC,Ef] at hok;obtain⟨⟨⟨⟨⟨⟨j1,j2⟩,j3⟩,j4⟩,j5⟩,j6⟩,j7⟩:=hok;obtain⟨L,hL⟩: ∃L,x.all++(lw3++(GL b4 0 (.slice (some ⟨g3,0,none⟩) [ko].length k3)::([dY g3 (GK [ko]++sp3)]++(GL b3 0 (.slice q2 [MC 1].length k2)::(c2++l)))))=L:=⟨_,rfl⟩
 have m3:GL b3 0 (.slice q2 [MC 1].length k2)∈L:=by rw[<-hL];simp
 have m4:GL b4 0 (.slice (some ⟨g3,0,none⟩) [ko].length k3)∈L:=by rw[<-hL];simp
 have mc: ∀c,c∈x.cc->c∈L:=λc hc=>by rw[<-hL];exact Ah _ (by unfold VwL.all;simp[hc])
 have m2: ∀c,c∈c2->c∈L:=λc hc=>by rw[<-hL];simp[hc]
 have mn3:dY g3 (GK [ko]++sp3)∈L:=by rw[<-hL];simp
 rw[hL];refine Aj ?_;refine Bb (AJ (vs:=[.agg (toArray (P1 x.vo x.vc x.vt x.vh awT.N x.vr x.vq)),.int .i64 1]) rfl rfl λl2 hl=>oK x.vo x.vc x.vt x.vh x.vr x.vq awT.N (Dv awT.H.1) 1 (MI (Dv awT.H.1) (1,1)).1 l2 (OwnSl.hds hx.c λc hc=>hl c (mc c hc)) Af (Gn rfl j1) j2 j3 j4 j5) ?_;rw[j6];refine Aj ?_;refine AP (Fb (ws:=Qi (MC 1)) (k:=12) rfl rfl rfl AX AX) ?_;rintro _ _ ⟨bn,_,rfl,rfl⟩;refine oX (v:= .bool (decide ([MC 1]=[MC 1]))) (by refine AJ (vs:=[.slice q2 [MC 1].length k2,.slice (some ⟨bn,0,none⟩) 1 1]) rfl rfl λl2 hl=>Ou Qi aZ pQ _ _ [MC 1] [MC 1] l2 (OwnSl.rowSl ho2 (λ_=>rfl) λc hc=>hl c (.tail _ (m2 c hc))) (OwnSl.rowSl (e:=69) (xs:=[MC 1]) (cs:=[Tq bn (MC 1)]) ⟨rfl,.inr ⟨bn,1,[],rfl,rfl,A7 _,by unfold maxLen;omega,rfl⟩⟩ (λ_=>rfl) (λc hc=>hl c (by rw[Ax.1 hc];exact .head _))) AX) rfl rfl rfl ?_;rw[At rfl];refine Aj ?_;rw[show([ko]:List GJ).length=1 from rfl];refine Aj ?_;have mn4:dY g3 (yu sp3)∈L:=mn3;refine Mv (v:= .agg (toArray [iV 4,Ba 8,.bool false])) (HQ (cs:=yu sp3) rfl (.tail _ mn4) (by exact .drop (.drop (.drop (.drop (.drop (.drop (.drop (.drop (.drop (.take (.take (.take .done))))))))))))) rfl rfl rfl ?_;refine Aj ?_;refine Mv (V6 (ks:=[some .i64,some .u64,none]) (xs:=[iV 4,Ba 8,.bool false]) rfl rfl (HT (by rfl))) rfl rfl rfl ?_;refine Aj ?_;refine Mv (AJ (vs:=[.int .i64 2,.int .i64 4]) rfl rfl λl2 _=>Ar.frames_any 2 4 l2) rfl rfl rfl ?_;rw[show Ar.framesD 2 4=4 by decide];refine Aj ?_;refine A9 (l':=(Tq bn (MC 1)::(x.all++(lw3++(GL b4 0 (.slice (some ⟨g3,0,none⟩) 1 k3)::([dY g3 (GK [ko]++sp3)]++(GL b3 0 (.slice q2 [MC 1].length k2)::c2))))))++l) (by rw[<-hL];simp only[Am,Ae,Ag];exact .refl) ⟨rfl,_,rfl⟩
set_option maxRecDepth 20000
theorem dZ(a:Option Addr)(n cap:Nat)(m:Int)(l:List Ab):Fn prog 16 [.slice a n cap,.int .i64 m] l λv l'=>v= .bool (decide (m<(n:Int)))/\l'=l:=by refine AM func16 ntmps16 λE=>?_;exact EA
abbrev Zn(B:Nat)(F C T:Int)(sh:Bool):Ab:=(B,.cells (toArray [.int .i64 F,.int .i64 C,.int .i64 T,.bool sh]) 23 (0,0))
namespace Tr
instance:EQ prog 130 [some .i64,some .i64,some .i64]:=⟨Bs⟩
theorem sameNodes_any{α:Type}[DecidableEq α](enc:α->List Value)(hin: ∀x y,enc x=enc y->x=y)(hk: ∀x,AllK [some .i64,some .i64,some .i64] (enc x))(v u:Value)(xs ys:List α)(l:List Ab)(h1:RowSl l v 3 enc xs)(h2:RowSl l u 3 enc ys)(hx:xs.length<=1000000):
 Fn prog 65 [v,u] l λr l'=>r= .bool (decide (xs=ys))/\l'=l:=by
 obtain⟨a,ca,rfl,h1⟩:=h1;obtain⟨a',ca',rfl,h2⟩:=h2;refine AM func65 ntmps65 λE=>?_;exact Wx
end Tr
abbrev sy:List (Option IntKind):=[some .i64,some .i64,some .i64,some .i64,some .i64,some .i64,some .i64,some .i64,some .i64]
theorem vn(o:Ar.ObT):AllK sy (Ar.obC o):=HT (by rfl)
instance:EQ prog 100 sy:=⟨Bs⟩
theorem Qt[DecidableEq α](enc:α->List Value)(hin: ∀x y,enc x=enc y->x=y)(hk: ∀x,AllK sy (enc x))(v u:Value)(xs ys:List α)(l:List Ab)(h1:RowSl l v 9 enc xs)(h2:RowSl l u 9 enc ys)(hx:xs.length<=1000000):
 Fn prog 63 [v,u] l λr l'=>r= .bool (decide (xs=ys))/\l'=l:=by
 obtain⟨a,ca,rfl,h1⟩:=h1;obtain⟨a',ca',rfl,h2⟩:=h2;refine AM func63 ntmps63 λE=>?_;exact Wx
theorem Qv[DecidableEq α](enc:α->List Value)(hin: ∀x y,enc x=enc y->x=y)(hk: ∀x,AllK Th.thK (enc x))(v u:Value)(xs ys:List α)(l:List Ab)(h1:RowSl l v 24 enc xs)(h2:RowSl l u 24 enc ys)(hx:xs.length<=1000000):
 Fn prog 66 [v,u] l λr l'=>r= .bool (decide (xs=ys))/\l'=l:=by
 obtain⟨a,ca,rfl,h1⟩:=h1;obtain⟨a',ca',rfl,h2⟩:=h2;refine AM func66 ntmps66 λE=>?_;exact Wx
theorem oM(x y:Ar.ObT)(h:Ar.obC x=Ar.obC y):x=y:=by cases x;cases y;simp only[Ar.obC,Cc,Value.int.injEq,HF,IF] at h;simp only[Ar.ObT.mk.injEq];exact h
theorem sA(x y:Tr.SlotT×Int)(h:Tr.nV x=Tr.nV y):x=y:=by simp only[Tr.nV,Cc,Value.int.injEq,HF,IF] at h;exact Gn (Gn h.1 h.2.1) h.2.2
theorem xH(x:Tr.SlotT×Int):AllK [some .i64,some .i64,some .i64] (Tr.nV x):=⟨_,_,rfl,⟨_,rfl⟩,_,_,rfl,⟨_,rfl⟩,_,_,rfl,⟨_,rfl⟩,rfl⟩
theorem OwnSl.intsC{v:Value}{U:List Int}{l:List Ab}(h:OwnSl 3 1 v C (U.map CG) cs)(hl:U.length=C)(hs: ∀c,c∈cs->c∈l):Rz l v U:=OwnSl.intsQ (e:=3) (cs:=cs) (by rw[hl];exact h) hs
theorem IsVwK.l{x:VwL}(h:IsVwK C S x):S.U.length=C:=by have:=h.r.1;simpa using this
theorem pT(vo vc vt vh:Value)(N:As.ASt)(vr vq:Value):(toArray (P1 vo vc vt vh N vr vq))[84]?=some vr/\(toArray (P1 vo vc vt vh N vr vq))[85]?=some vq:=by have h1:=Kd (LGet.mid (vo::vc::vt::vh::Tb N) [vq] vr (k:=84) (by simp[Gi]));have h2:=Kd (LGet.mid (vo::vc::vt::vh::(Tb N++[vr])) [] vq (k:=85) (by simp[Gi]));exact⟨by simpa[P1] using h1,by simpa[P1] using h2⟩
def pU:List (Option IntKind):=(replicate 8 [some .i64,none,some .i64,some .i64,some .i64,some .i64,some .i64,some .i64,some .i64,some .i64]).flatten
instance:EQ prog 50 pU:=⟨Bs⟩
theorem vu(N:As.ASt):AllK pU (Tb N):=HT (by rfl)
theorem VD(x y:VwL)(hx:IsVwK C S x)(hy:IsVwK C S y)(z6:S.U.length<=900000)(z1:S.A.os.length<=900000)(z2:(Dv S.H.1).length<=900000)(z3:S.H.2.length<=900000)(z4:S.T.length<=900000)(z5:(oI S.Q).length<=900000)(l:List Ab)
 (hlx: ∀c,(c∈x.co\/c∈x.cc\/c∈x.ct\/c∈x.ch\/c∈x.cr\/c∈x.cq)->c∈l)(hly: ∀c,(c∈y.co\/c∈y.cc\/c∈y.ct\/c∈y.ch\/c∈y.cr\/c∈y.cq)->c∈l):
 Fn prog 44 [.agg (toArray (P1 x.vo x.vc x.vt x.vh S.N x.vr x.vq)),.agg (toArray (P1 y.vo y.vc y.vt y.vh S.N y.vr y.vq))] l λv l'=>v= .bool true/\l'=l:=by
 letI:DecidableEq Pe:=λ_ _=>Classical.propDecidable _
 letI:DecidableEq Th.ThT:=λ_ _=>Classical.propDecidable _
 have xo:=hx.o.one;have xc:=hx.c.one;have xt:=hx.t.one;have xh:=hx.h.one;have xr:=hx.r.one;have xq:=hx.q.one;have yo:=hy.o.one;have yc:=hy.c.one;have yt:=hy.t.one;have yh:=hy.h.one;have yr:=hy.r.one;have yq:=hy.q.one;have gx:=pT x.vo x.vc x.vt x.vh S.N x.vr x.vq;have gy:=pT y.vo y.vc y.vt y.vh S.N y.vr y.vq;obtain⟨U,hU⟩: ∃U,U=P1 x.vo x.vc x.vt x.vh S.N x.vr x.vq:=⟨_,rfl⟩
 obtain⟨W,hW⟩: ∃W,W=P1 y.vo y.vc y.vt y.vh S.N y.vr y.vq:=⟨_,rfl⟩
 have u0:(toArray U)[0]?=some x.vo:=by rw[hU];rfl
 have u1:(toArray U)[1]?=some x.vc:=by rw[hU];rfl
 have u2:(toArray U)[2]?=some x.vt:=by rw[hU];rfl
 have u3:(toArray U)[3]?=some x.vh:=by rw[hU];rfl
 have u5:(toArray U)[84]?=some x.vr:=by rw[hU];exact gx.1
 have u6:(toArray U)[85]?=some x.vq:=by rw[hU];exact gx.2
 have w0:(toArray W)[0]?=some y.vo:=by rw[hW];rfl
 have w1:(toArray W)[1]?=some y.vc:=by rw[hW];rfl
 have w2:(toArray W)[2]?=some y.vt:=by rw[hW];rfl
 have w3:(toArray W)[3]?=some y.vh:=by rw[hW];rfl
 have w5:(toArray W)[84]?=some y.vr:=by rw[hW];exact gy.1
 have w6:(toArray W)[85]?=some y.vq:=by rw[hW];exact gy.2
 have u4:LSub U 4 80 (Tb S.N):=by rw[hU];exact SO ..
 have w4:LSub W 4 80 (Tb S.N):=by rw[hW];exact SO ..
 rw[<-hU,<-hW];clear hU hW gx gy;have hp:=vu S.N;refine AM func44 ntmps44 λE=>?_;refine Aj ?_;refine AP (CK rfl) ?_;rintro _ _ ⟨b2,_,rfl,rfl⟩;refine AP (CK rfl) ?_;rintro _ _ ⟨b3,_,rfl,rfl⟩;have hlx': ∀(l2:List Ab),(∀c,c∈(b3,Obj.cells (toArray W) 52 (0,0))::(b2,Obj.cells (toArray U) 52 (0,0))::l->c∈l2)-> ∀c,c∈l->c∈l2:=λl2 hl c hc=>hl c (.tail _ (.tail _ hc));refine Aj ?_;refine Bb (AJ rfl rfl (λl2 hl=>Qt Ar.obC oM vn x.vo y.vo S.A.os S.A.os l2 (OwnSl.rowSl hx.o (λ_=>rfl) λc hc=>hlx' l2 hl c (hlx c (.inl hc))) (OwnSl.rowSl hy.o (λ_=>rfl) λc hc=>hlx' l2 hl c (hly c (.inl hc))) Af)) ?_;rw[At rfl];refine Aj ?_;refine Mv (AJ rfl rfl (λl2 hl=>UY Nk gT qy x.vc y.vc (Dv S.H.1) (Dv S.H.1) l2 (OwnSl.rowSl hx.c (λ_=>rfl) λc hc=>hlx' l2 hl c (hlx c (.inr (.inl hc)))) (OwnSl.rowSl hy.c (λ_=>rfl) λc hc=>hlx' l2 hl c (hly c (.inr (.inl hc)))) Af)) rfl rfl rfl ?_;rw[At rfl];refine Aj ?_;refine Mv (AJ rfl rfl (λl2 hl=>Tr.sameNodes_any Tr.nV sA xH x.vt y.vt S.H.2 S.H.2 l2 (OwnSl.rowSl hx.t (λ_=>rfl) λc hc=>hlx' l2 hl c (hlx c (.inr (.inr (.inl hc))))) (OwnSl.rowSl hy.t (λ_=>rfl) λc hc=>hlx' l2 hl c (hly c (.inr (.inr (.inl hc))))) Af)) rfl rfl rfl ?_;rw[At rfl];refine Aj ?_;refine Mv (AJ rfl rfl (λl2 hl=>Qv Th.encH Th.encH_inj Th.encH_k x.vh y.vh S.T S.T l2 (OwnSl.rowSl hx.h (λ_=>rfl) λc hc=>hlx' l2 hl c (hlx c (.inr (.inr (.inr (.inl hc)))))) (OwnSl.rowSl hy.h (λ_=>rfl) λc hc=>hlx' l2 hl c (hly c (.inr (.inr (.inr (.inl hc)))))) Af)) rfl rfl rfl ?_;rw[At rfl];refine Aj ?_;refine Mv (HQ rfl (.tail _ (.head _)) u4) rfl rfl rfl ?_;refine Aj ?_;refine Mv (HQ rfl (.head _) w4) rfl rfl rfl ?_;refine Mv (V6 rfl rfl hp) rfl rfl rfl ?_;refine Aj ?_;refine Mv (AJ rfl rfl (λl2 hl=>L7 x.vr y.vr S.U S.U l2 (hx.r.intsC hx.l λc hc=>hlx' l2 hl c (hlx c (.inr (.inr (.inr (.inr (.inl hc))))))) (hy.r.intsC hy.l λc hc=>hlx' l2 hl c (hly c (.inr (.inr (.inr (.inr (.inl hc))))))) Af)) rfl rfl rfl ?_;rw[At rfl];refine Aj ?_;refine Mv (AJ rfl rfl (λl2 hl=>L7 x.vq y.vq (oI S.Q) (oI S.Q) l2 (hx.q.intsQ λc hc=>hlx' l2 hl c (hlx c (.inr (.inr (.inr (.inr (.inr hc))))))) (hy.q.intsQ λc hc=>hlx' l2 hl c (hly c (.inr (.inr (.inr (.inr (.inr hc))))))) Af)) rfl rfl rfl ?_;rw[At rfl];refine Aj ?_;exact A9 (l':=l) (.drop (.drop .refl)) ⟨rfl,rfl⟩
theorem xI(b:Nat)(p:RP)(s:RL)(S:KT)(X A G:List Ab):Keep (X++Aw b p s S (A++G)) (X++(A++(Aw b p s S []++G))):=by unfold Aw;exact A4 []
section
variable{st:List (Int×List GJ)}{l:List Ab}
theorem kq(hK:IsK F C k S p s)(f:Int)(A G:List Ab):Fn prog 88 [pV p.m,.int .i64 f] (A++(Aw b p s S []++G)) λv l'=> ∃sl X e,v= .tuple #[sl,iV e]/\IsWd S.W f sl X/\l'=X++(A++(Aw b p s S []++G)):=
 Fn.re (.of_perm (sg ..)) (YH (b:=b) (G:=A++G) hK f) λv l' ⟨sl,X,e,h1,h2,h3⟩=>⟨_,by rw[h3];exact xI ..,sl,X,e,h1,h2,rfl⟩
theorem IsWd.one{W:List Int}{f:Int}{v:Value}{X:List Ab}(h:IsWd W f v X):v.oneCell'=true:=by
 unfold IsWd at h
 split at h
 ·obtain⟨B,rfl,_⟩:=h;rfl
 ·rw[h.1];rfl
theorem Zo(hW:IsWo F C k S th st wb l)(f:Int)(G:List Ab):Fn prog 61 [pV wb,.int .i64 f] (l++G) λv l'=> ∃X,IsWd S.W f v X/\l'=X++(l++G):=by
 obtain⟨b,kb,p,s,vt,vs,ct,cs,rows,cn,hK,ht,hs,hst,hsl,hl⟩:=hW.ex;obtain⟨A,hA⟩: ∃A,[Zj wb kb vt vs,Ot kb b]++ct++cs++cn=A:=⟨_,rfl⟩
 have mw:Zj wb kb vt vs∈A:=by rw[<-hA];simp
 have mk:Ot kb b∈A:=by rw[<-hA];simp
 rw[show l++G=A++(Aw b p s S []++G) by rw[hl,vg,hA]];have mw':Zj wb kb vt vs∈A++(Aw b p s S []++G):=Ah _ mw;have mk':Ot kb b∈A++(Aw b p s S []++G):=Ah _ mk;have mr':Cw b p∈A++(Aw b p s S []++G):=Aa _ (Ah _ (.head _));refine AM func61 ntmps61 λE=>?_;refine Aj ?_;refine Bb (AJ rfl rfl λl2 hl=>SN kb b l2 (hl _ mk')) ?_;refine Bb (AJ rfl rfl λl2 hl=>Sk b p l2 (hl _ mr')) ?_;refine Aj ?_;refine AP (Az (vs:=[pV p.m,.int .i64 f]) rfl rfl (kq hK f A G)) ?_;rintro _ _ ⟨sl,X,e,rfl,hd,rfl⟩;have hv1:sl.oneCell'=true:=hd.one;refine Aj ?_;refine A9 .refl ?_;exact⟨X,hd,rfl⟩
theorem IsWo.w(hW:IsWo F C k S th st wb l):S.W.length=F*8/\F<=64:=by obtain⟨b,kb,p,s,vt,vs,ct,cs,rows,cn,hK,_⟩:=hW.ex;obtain⟨gb,_,h2,h3,_⟩:=hK.mem;exact⟨h3,h2⟩
theorem OwnSl.le{e:Nat}{p:Option Addr}{xs:List Value}(h:OwnSl e k (.slice p n cap) n xs cs):n<=cap:=by
 rcases h.2 with⟨_,h2,_⟩|⟨b,cp,sp,h1,_,h2,_⟩
 ·omega
 ·cases h1;exact h2
theorem xJ(c X l G:List Ab):(c++(X++(l++G))).Perm (l++(c++(X++G))):=BR
theorem xK(Y c X l G:List Ab):(Y++(l++(c++(X++G)))).Perm (c++((Y++X)++(l++G))):=BR
theorem SP(hW:IsWo F C k S th st wb l)(G:List Ab):Fn prog 38 [pV wb] (l++G) λv l'=> ∃c X,OwnSl 34 1 v S.W.length (S.W.map Ba) c/\l'=c++(X++(l++G)):=by
 obtain⟨hw,hF⟩:=hW.w;have hnF:nF S.W=F:=by unfold nF;omega
 refine AM func38 ntmps38 λE=>?_;refine Aj ?_;refine CE (α:=Nat×Value×List Ab×List Ab) (λx=>[(0,pV wb),(3,x.2.1),(4,.int .i64 x.1)]) (λx=>x.2.2.1++(x.2.2.2++(l++G))) (λx=>x.1<=64/\OwnSl 34 1 x.2.1 (S.W.take (8*x.1)).length ((S.W.take (8*x.1)).map Ba) x.2.2.1) (λx=>64-x.1) (0,.slice none 0 0,[],[]) ⟨Af,.nil _ _⟩ ⟨rfl,rfl,rfl,trivial⟩ .refl ?_;rintro⟨i,v,c,X⟩ ⟨hi,ho⟩;simp only at hi ho⊢;have hv1:v.oneCell'=true:=ho.one;by_cases hlt:i<64
 ·refine Aj ?_;refine Bk (.of_perm (xJ ..)) ?_;refine AP (Az (vs:=[pV wb,.int .i64 i]) rfl rfl (Zo hW i _)) ?_;rintro sl _ ⟨Y,hd,rfl⟩;have hs1:sl.oneCell'=true:=hd.one;refine Bk (.of_perm (xK ..)) ?_;have hl:(S.W.take (8*i)).length<=512:=by rw[C6];omega
  unfold IsWd at hd;by_cases hf:(i:Int)<F
  ·rw[Ad (by rw[hnF];omega)] at hd;obtain⟨B,rfl,rfl⟩:=hd;rw[AY];obtain⟨D,hD⟩: ∃D,(S.W.drop (8*i)).take 8=D:=⟨_,rfl⟩
   have hDl:D.length=8:=by rw[<-hD,C6,Dx];omega
   have htk:S.W.take (8*(i+1))=S.W.take (8*i)++D:=by rw[<-hD,<-List.take_add];rfl
   rw[hD];refine AP (F4 (e:=34) (k:=1) (n:=(S.W.take (8*i)).length) (m:=8) (news:=D.map Ba) (zs:=[Ba 0]) (cl:=toArray (D.map Ba)) rfl rfl rfl ho (Aa _ (.head _)) (λj u hj=>by rw[BC,AC];exact hj) (by simp[hDl]) (λu hu=>by obtain⟨w,_,rfl⟩:=Au.1 hu;rfl) (by unfold maxLen;omega) Af) ?_;rintro v' _ ⟨c',ho',rfl⟩;have hv1:v'.oneCell'=true:=ho'.one;refine Aj ?_;refine BV (i+1,v',c',_) ⟨by simp only;omega,?_⟩ (by simp only;omega) ⟨rfl,rfl,rfl,trivial⟩ .refl;simp only;rw[htk,Ai,Aq,hDl];exact ho'
  ·rw[Ac (by rw[hnF];omega)] at hd;obtain⟨rfl,rfl⟩:=hd;have htk:S.W.take (8*(i+1))=S.W.take (8*i):=by rw[Bv Af,Bv Af]
   obtain⟨p,cp,rfl⟩:=ho.shape;refine Bb (V3 rfl rfl ho.le) ?_;refine Aj ?_;refine BV (i+1,_,c,_) ⟨by simp only;omega,?_⟩ (by simp only;omega) ⟨rfl,rfl,rfl,trivial⟩ .refl;simp only;rw[htk];exact ho
 ·obtain rfl:i=64:=by omega
  refine Aj ?_;refine A9 .refl ⟨c,X,?_,rfl⟩;rw[Bv Af] at ho;exact ho
end
theorem SQ(F C T:Int)(sh:Bool)(l:List Ab):Fn prog 18 [pR F C T sh] l λv l'=>
 (MK F C T=false/\v= .pointer none/\l'=l)\/(MK F C T=true/\ ∃wb lw,v=pV wb/\IsWo F.toNat C.toNat 840 (Ir F.toNat C.toNat T.toNat sh) (Xm F.toNat T.toNat sh) [] wb lw/\l'=lw++l):=by
 refine AM func18 ntmps18 λE=>?_;refine Aj ?_;refine AP (CK rfl) ?_;rintro _ _ ⟨b1,_,rfl,rfl⟩;refine Aj ?_;refine AP (Az (vs:=[pR F C T sh]) rfl rfl (Xn F C T sh _)) ?_;rintro _ _ (⟨hmay,rfl,rfl⟩|⟨hmay,wb,lw,rfl,hW,rfl⟩)
 ·refine Aj ?_;exact A9 (.drop .refl) (.inl ⟨hmay,rfl,rfl⟩)
 ·refine Aj ?_;exact A9 (l':=lw++l) (.trans (.of_perm AH) (.drop .refl)) (.inr ⟨hmay,wb,lw,rfl,hW,rfl⟩)
end Go.Proofs.YtlkgekpmileobaaGreat
