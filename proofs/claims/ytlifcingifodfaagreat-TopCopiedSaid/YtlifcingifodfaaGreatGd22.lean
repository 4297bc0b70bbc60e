/- Laws. -/
import Derived.Test.YtlifcingifodfaaGreatGd21
set_option maxHeartbeats 4000000
set_option linter.all false
namespace Go.Proofs.YtlifcingifodfaaGreat
open Tryz
open List(replicate)
open List renaming toArray→τ
open Go.RowKit
set_option maxRecDepth 100000
variable{C F k wb T b n cap e:Nat}{S:KT}{th:A8}{p:RP}{s:RL}{α:Type}{cs:Ac}{v:Value}
def Rn(F T:Nat)(sh:Bool):A8:=(WK F T sh).map OwT.th
def H0(F C T:Nat)(sh:Bool):KT:=⟨(IK F T sh).A,(IK F T sh).H,(IK F T sh).N,(IK F T sh).T,(IK F T sh).Q,(IK F T sh).E,replicate (F*8) 0,replicate C aE,replicate C 0⟩
def twB(t:Th.ThT):Bool:=decide (0<=t.va)&&decide (t.va<18446744073709551616)&&decide (0<=t.vl)&&decide (t.vl<18446744073709551616)&&Th.mayH t
def Vc(F T:Nat)(sh:Bool):Bool:=
 let R:=IK F T sh
 decide (R.T.length<=3)&&R.T.all twB&&R.E.all (λx=>x.2.1.isEmpty)&&R.A.os.all (λo=>decide (o.kd≠2)||(decide (1<=o.sz)&&decide (o.sz<=4)))&&decide ((Rn F T sh).length=T)
theorem qm:((List.range 4).all λT=>(List.range 65).all λF=>T==0||decide (F<11*T)||(Vc F T false&&Vc F T true))=true:=by decide+kernel
theorem gZ(sh:Bool)(DO:1<=T)(hT:T<=3)(hF:11*T<=F)(Rz:F<=64):Vc F T sh=true:=by
 have h:=AS.1 (AS.1 qm T (C9.2 Af)) F (C9.2 Af);simp only[DA,AM,Hw,A3] at h;rcases h with(h|h)|⟨h1,h2⟩
 ·omega
 ·omega
 ·cases sh
  ·exact h1
  ·exact h2
theorem dW(n:Nat):fg n=(replicate (n*8) (0:Int)).map Bb:=by
 rw[List.map_replicate];unfold fg
 first
  |rfl
  |(induction n with
    |zero=>rfl
    |succ n ih=>simp[BN,Gj,ih];rfl)
theorem qn{sh:Bool}(DO:1<=T)(hT:T<=3)(hF:11*T<=F)(Rz:F<=64)(h:IsRl F C 60 (IK F T sh) p s):IsK F C 840 (H0 F C T sh) p s:=by
 have Dh:=gZ sh DO hT hF Rz;unfold Vc at Dh;simp only[AM,A3,AS,List.isEmpty_iff,DA] at Dh;obtain⟨⟨⟨⟨h1,h2⟩,h3⟩,h4⟩,h5⟩:=Dh;obtain⟨m1,m2,gb,m3⟩:=h.mem;exact{
  mem:=⟨gb,m1,m2,by simp[H0],λw hw=>by rw[Et hw];exact G8,by rw[m3];unfold H0 Uz;dsimp only;rw[<-dW]⟩
  co:=h.co
  kl:=by simp[H0]
  ar:=h.ar
  an:=h.an
  rad:=λo ho hk=>by
   have:=h4 o ho;rcases this with h|⟨h,h'⟩
   ·exact absurd hk h
   ·exact⟨h,h'⟩
  ho:=h.ho
  inv:=⟨60,Af,h.inv⟩
  giv:=λn hn=>by have:=h.giv n hn;exact⟨this.1,by have:=this.2;show(IK F T sh).N.given n+840<=900;omega⟩
  th:=h.th
  tl:=by show(IK F T sh).T.length+840<=900;omega
  tw:=λt ht=>by have:=h2 t ht;unfold twB at this;simp only[AM,A3] at this;obtain⟨⟨⟨⟨a1,a2⟩,a3⟩,a4⟩,a5⟩:=this;exact⟨⟨⟨a1,a2⟩,⟨a3,a4⟩⟩,a5⟩
  qu:=h.qu
  ql:=λn hn=>by have:=h.ql n hn;show((IK F T sh).Q n).length+840<=900;omega
  en:=h.en
  el:=λx hx=>by rw[h3 x hx];decide
  eo:=λt x y hx hy htx=>by rw[h3 x hx] at htx;cases htx
  ul:=by simp[H0]
  cu:=by have:=h.cu;show OwnSl 3 1 p.v C ((replicate C (0:Int)).map CU) s.V;rw[List.map_replicate];exact this
  c1:=h.c1}
abbrev cfA(F C T:Int)(sh:Bool):Value:= .agg (τ [ι F,ι C,ι T,.bool sh])
def AgA(F C T:Int)(sh:Bool)(l:Ac):Value->Ac->Prop:=λv l'=>
 (Oc F C T=false/\v= .tuple #[.pointer none,iV 3]/\l'=l)\/(Oc F C T=true/\ ∃wb lw,v= .tuple #[pV wb,iV 0]/\IsWo F.toNat C.toNat 840 (H0 F.toNat C.toNat T.toNat sh) (Rn F.toNat T.toNat sh) [] wb lw/\l'=lw++l)
theorem AgB(b:Nat)(p:RP)(s:RL)(S:KT)(c w k:Bh)(cs X l:Ac):Keep (w::k::(cs++AA b p s S (X++c::l))) ((w::k::(cs++([]++([]++AA b p s S []))))++l):=by unfold AA;exact γ (c::X)
theorem ap(F C T:Int)(sh:Bool)(l:Ac):Fn prog 47 [cfA F C T sh] l (AgA F C T sh l):=by
 refine AO func47 ntmps47 λE=>?_;refine Aj ?_;refine AP (Cw rfl) ?_;rintro _ _ ⟨b1,_,rfl,rfl⟩;refine Aj ?_;cases Oo:Oc F C T with
 |false=>refine AP (Az rfl rfl (tT F C T sh Oo _)) ?_;rintro _ _ ⟨rfl,rfl⟩;refine Aj ?_;exact CY _ .refl ζ (.inl ⟨Oo,rfl,rfl⟩)
 |true=>
  obtain⟨DO,hT,hC1,hC,hF,Rz⟩:1<=T/\T<=3/\1<=C/\C<=3/\11*T<=F/\F<=64:=by simp[Oc] at Oo;omega
  obtain⟨T,rfl⟩: ∃n:Nat,T=n:=⟨T.toNat,Af⟩
  obtain⟨F,rfl⟩: ∃n:Nat,F=n:=⟨F.toNat,Af⟩
  obtain⟨C,rfl⟩: ∃n:Nat,C=n:=⟨C.toNat,Af⟩
  refine AP (Az rfl rfl (tV F C T sh Af Af Af Af Af Af _)) ?_;rintro _ _ ⟨B,b,v14,p,s,X,cs,rfl,hR,ho,rfl⟩;have hK:=qn Af Af Af Af hR;have Js:v14.oneCell'=true:=ho.one;have Dh:=gZ sh (F:=F) (T:=T) Af Af Af Af;have Ef:(Rn F T sh).length=T:=by unfold Vc at Dh;simp only[AM,A3] at Dh;exact Dh.2
  obtain⟨p14,cap14,rfl⟩:=ho.shape;refine AR λbw=>?_;refine CY (vs:=[pV bw,iV 0]) _ .refl (l':=(dV bw B (.slice p14 T cap14) KO::PY B b::(cs++([]++([]++AA b p s (H0 F C T sh) []))))++l) ?_ (.inr ⟨Oo,bw,_,rfl,?_,rfl⟩)
  ·exact AgB b p s (H0 F C T sh) _ _ _ cs X l
  ·simp only[AV];exact⟨b,B,p,s,.slice p14 T cap14,KO,cs,[],[],[],hK,by rw[Ef];exact ho,OwnSl.nil _ _,⟨rfl,rfl⟩,by decide,rfl⟩
def Aar(A:Ar.ArT)(id:Int):Bool:=decide ((id-1)/64<A.g ((id-1)%64).toNat)
theorem aq{A:Ar.ArT}{id:Int}(h:Aar A id=true):Giv A id:=⟨((id-1)%64).toNat,(id-1)/64,Af,Do h,Af⟩
def kdB(A:Ar.ArT)(c:CapT):Bool:=decide (c.kind=0)||decide (c.obj=0)||((A.os.all λo=>!decide (o.id=c.obj)||decide (o.kd=c.kind))&&Aar A c.obj)
def u7(F T:Nat)(sh:Bool):Bool:=
 let R:=IK F T sh
 R.T.all (λt=>t.hs||(!t.wr&&decide (t.va=0)&&decide (t.vl=0)))&&decide (R.A.n<=64)&&R.A.os.all (λo=>!decide (o.id=0)&&Aar R.A o.id)&&R.H.1.all (λx=>x.2.all (kdB R.A))
theorem u9:((List.range 4).all λT=>(List.range 65).all λF=>T==0||decide (F<11*T)||(u7 F T false&&u7 F T true))=true:=by decide+kernel
theorem kB(sh:Bool)(DO:1<=T)(hT:T<=3)(hF:11*T<=F)(Rz:F<=64):GoodK (H0 F C T sh)/\Stl (H0 F C T sh):=by
 have h:=AS.1 (AS.1 u9 T (C9.2 Af)) F (C9.2 Af);have h:u7 F T sh=true:=by
  simp only[DA,AM,Hw,A3] at h;rcases h with(h|h)|⟨h1,h2⟩
  ·omega
  ·omega
  ·cases sh
   ·exact h1
   ·exact h2
 unfold u7 at h;simp only[AM,A3,AS,DA,Ei,Fp] at h;obtain⟨⟨⟨h1,h2⟩,h3⟩,h4⟩:=h;refine⟨⟨λt ht e=>?_,h2,λc hc=>by rw[Et hc];exact .inl ⟨rfl,rfl⟩,λo ho=>⟨(h3 o ho).1,aq (h3 o ho).2⟩,λc ⟨x,hx,hc⟩ hk h0=>?_⟩,λj hj=>?_⟩
 ·rcases h1 t ht with h|h
  ·rw[h] at e;cases e
  ·exact⟨h.1.1,h.1.2,h.2⟩
 ·have h6:=h4 x hx c hc;unfold kdB at h6;simp only[AM,A3,AS,DA,Ei,Fp] at h6;rcases h6 with(h6|h6)|⟨h6,h7⟩
  ·exact absurd h6 hk
  ·exact absurd h6 h0
  ·exact⟨λo ho e=>(h6 o ho).resolve_left λe2=>e2 e,aq h7⟩
 ·rw[aj];have hj:j<C:=by simpa[H0] using hj
  have e1:(H0 F C T sh).U.getD j 0=0:=by show(replicate C (0:Int)).getD j 0=0;rw[A4,EE,Ad hj];rfl
  have e2:su (H0 F C T sh) 0=0:=by unfold su;split<;>rfl
  have e3:sk (H0 F C T sh) 0=(-1,0):=Ad (.inl rfl);rw[e1,e2,e3];have e4:(H0 F C T sh).U.set j 0=(H0 F C T sh).U:=by
   show(replicate C (0:Int)).set j 0=replicate C 0;apply Dn;intro i;rw[Hp];simp only[JO,EE]
   split
   ·subst_vars;simp[hj]
   ·rfl
  have e5:cS (H0 F C T sh).K j (-1,0)=(H0 F C T sh).K:=by
   unfold cS
   split
   ·show(replicate C aE).set j _=replicate C aE;apply Dn;intro i;rw[Hp];simp only[JO,EE]
    split
    ·subst_vars;rw[Ad hj];show some {(replicate C aE).getD _ qZ with ro:= -1,sp:=0}=some aE;rw[A4,EE,Ad hj];rfl
    ·rfl
   ·rfl
  rw[e4,e5]
theorem ia(S:KT)(t:Int)(x:Ch)(m:O5)(gv:Int)(cl:Bool):(JH S t x m gv cl).1.1.length<=2:=by
 unfold JH sendH
 repeat' split
 all_goals simp
theorem vb(S:KT)(t:Int)(x:Ch)(gv:Int):(O9 S t x gv).1.1.length<=2:=by
 unfold O9 recvH
 repeat' split
 all_goals simp
 all_goals split<;>simp
theorem qo(S:KT)(t:Int)(m:O5):(LC S t m).1.1.length<=2:=by
 unfold LC replyH
 repeat' split
 all_goals simp
 all_goals split<;>simp
theorem qp(S:KT)(t:Th.ThT)(x:U0)(f:wX):(NQ S t x f).1.length<=3:=by
 unfold NQ
 split
 ·simp
 ·have:=ia (DZ S (Of t x)) t.id (t.id,2) (dE f) 4096 true;simp only[By];omega
theorem dX(S:KT)(core:Int)(x:U0):(SL S core x).1.1.length<=3:=by
 unfold SL
 split
 ·simp
 ·unfold doR
  split
  ·exact qp ..
  ·simp
theorem Aas(S:KT)(core:Int):(VO S core).1.1.length<=3:=by
 unfold VO
 split
 ·simp
 ·split
  ·simp
  ·exact dX ..
theorem vf{t:Int}{o:Ja}{x:Ch}{r:(List NoT×Int)×KT}(h:NZ S t o x=some r):r.1.1.length<=3:=by
 unfold NZ at h;by_cases h1:o.op=14\/o.op=15
 ·rw[Ad h1] at h;obtain rfl:=AZ h;exact Fl (ia ..)
 rw[Ab h1] at h;by_cases h2:o.op=16
 ·rw[Ad h2] at h;obtain rfl:=AZ h;exact Fl (vb ..)
 rw[Ab h2] at h;by_cases h3:o.op=17
 ·rw[Ad h3] at h;obtain rfl:=AZ h;exact Fl (qo ..)
 rw[Ab h3] at h;cases h
theorem Aat(S:KT)(t:Int)(o:Ja)(x y:Ch):(ordE S t o x y).1.1.length<=3:=by
 unfold ordE;cases h:NZ S t o x with
 |some r=>exact vf h
 |none=>
  dsimp only;by_cases h1:(HZ S t o x y).1=0
  ·rw[Ad h1];exact(by decide:1<=3)
  ·rw[Ab h1];exact(by decide:0<=3)
theorem Aau(S:KT)(t:Int)(o:Ja):(KM S t o).1.1.length<=3:=by
 unfold KM;by_cases h1:Mw S t=false\/¬(DJ S t).st=1
 ·rw[Ad h1];exact(by decide:0<=3)
 rw[Ab h1];by_cases h2:(Ha o.op).1=true/\¬(GB S t o.a).2=0
 ·rw[Ad h2];exact(by decide:0<=3)
 rw[Ab h2];by_cases h3:(Ha o.op).2=true/\¬(GB S t o.b).2=0
 ·rw[Ad h3];exact(by decide:0<=3)
 rw[Ab h3];exact Aat ..
theorem vg(S:KT)(t:Int)(c:N0):(JT S t c).1.1.length<=3:=by
 unfold JT;by_cases h1:(BW c).2=0
 ·rw[Ad h1];by_cases h2:(KM S t (BW c).1).1.2=0
  ·rw[Ad h2];exact Aau ..
  ·rw[Ab h2];exact(by decide:1<=3)
 ·rw[Ab h1];exact(by decide:1<=3)
theorem vi(S:KT)(e:ME):(N1 S e).1.1.length<=3:=by
 unfold N1;by_cases h1:e.co<0\/(S.K.length:Int)<=e.co
 ·rw[Ad h1];exact(by decide:0<=3)
 rw[Ab h1];by_cases h2:Mw S (KL S.U e.co)=false
 ·rw[Ad h2];exact(by decide:0<=3)
 rw[Ab h2];by_cases h3:(DJ S (KL S.U e.co)).hs=true
 ·rw[Ad h3];exact Aas ..
 rw[Ab h3];by_cases h4:e.kd=3
 ·rw[Ad h4];exact dX ..
 rw[Ab h4];by_cases h5:e.kd=4
 ·rw[Ad h5];exact dX ..
 rw[Ab h5];exact vg ..
theorem au(S:KT)(e:ME):(FZ S e).1.1.length<=3:=by
 unfold FZ doA;dsimp only;by_cases h1:e.kd=1
 ·rw[Ad h1];exact(by decide:0<=3)
 rw[Ab h1];by_cases h2:e.kd=2\/e.kd=3\/e.kd=4
 ·rw[Ad h2];exact vi ..
 rw[Ab h2];by_cases h3:e.kd=5\/e.kd=6
 ·rw[Ad h3];exact(by decide:0<=3)
 rw[Ab h3];exact(by decide:0<=3)
def qq(S:KT):List ME->List (Int×List NoT)
 |[]=>[]
 |e::r=>((FZ S e).1.2,(FZ S e).1.1)::qq (FZ S e).2 r
def LS(S:KT)(es:List ME):KT:=es.foldl (λS e=>(FZ S e).2) S
theorem Aav(e:ME):gV e<=8:=by unfold gV;split<;>omega
theorem kC(es:List ME)(e:ME)(S:KT):LS S (es++[e])=(FZ (LS S es) e).2:=by unfold LS;rw[El];rfl
theorem SerN.st{N N':As.ASt}(h:SerN N)(hs:uP N N'):SerN N':=by
 cases hs with
 |refl=>exact h
 |add o=>
  unfold As.addP
  repeat' split
  all_goals exact⟨h.gv,h.sr⟩
 |un r=>
  unfold As.unP
  split
  ·rename_i n hn;refine⟨h.gv,λm hm hr=>?_⟩;have hr:As.upd N.root n 0 m≠0:=hr;show As.upd N.ser n 0 m%32=m/\1<=As.upd N.ser n 0 m/\As.upd N.ser n 0 m<=16777215;by_cases e:m=n
   ·rw[e,As.upd_same] at hr;exact absurd rfl hr
   ·rw[As.upd_other _ _ _ _ e] at hr;rw[As.upd_other _ _ _ _ e];exact h.sr m hm hr
  ·exact h
 |drop o=>
  unfold As.dropP
  split
  ·exact h
  ·rename_i p hp;refine⟨h.gv,λm hm hr=>?_⟩;have hr:(if m/4=p then 0 else N.root m)≠0:=hr;show(if m/4=p then 0 else N.ser m)%32=m/\1<=(if m/4=p then 0 else N.ser m)/\(if m/4=p then 0 else N.ser m)<=16777215;by_cases e:m/4=p
   ·rw[Ad e] at hr;exact absurd rfl hr
   ·rw[Ab e] at hr;rw[Ab e];exact h.sr m hm hr
 |ass o r=>
  unfold As.assignP
  split
  ·exact h
  split
  ·exact h
  split
  ·exact h
  rename_i p hp _ _;cases e:(As.nums p).find? (As.freeO N p) with
  |none=>exact h
  |some i=>
   have h1:=Eb e;have h2:=(As.mem_nums p i).1 (BE e);unfold As.freeO at h1;rw[AM,A3] at h1;obtain⟨n,hn⟩:=ξ (4*p+i.val)
   rw[hn] at h1 h2;show SerN (N.give (4*p+i.val) r);rw[hn];refine⟨λm hm=>?_,λm hm hr=>?_⟩
   ·show 0<=As.upd N.given n (N.given n+1) m;by_cases e:m=n
    ·rw[e,As.upd_same];have:=h.gv n Af;omega
    ·rw[As.upd_other _ _ _ _ e];exact h.gv m hm
   ·have hr:As.upd N.root n r m≠0:=hr;show As.upd N.ser n (As.serO N n) m%32=m/\1<=As.upd N.ser n (As.serO N n) m/\As.upd N.ser n (As.serO N n) m<=16777215;by_cases e:m=n
    ·have h3:=h.gv n Af;have h4:=h1.2;rw[e,As.upd_same];unfold As.serO at h4⊢;omega
    ·rw[As.upd_other _ _ _ _ e] at hr;rw[As.upd_other _ _ _ _ e];exact h.sr m hm hr
theorem AdF(S:KT)(x:Ch)(k z f:Int)(q:Int×Ch):(PX x k z f S q).N=S.N:=by
 unfold PX Ks
 split
 ·unfold jJ kX oS
  repeat' split
  all_goals rfl
 ·rfl
theorem AdG(S:KT)(id:Int):(SG S id).2.N=S.N:=by
 unfold SG
 repeat' split
 all_goals rfl
theorem ser_cl:Cl (λS=>GoodK S/\SerN S.N) where
 free:=λQ E W U N hN h=>⟨good_cl.free Q E W U N hN h.1,h.2.st hN⟩
 core:=λh hK=>⟨good_cl.core h.1 hK,h.2⟩
 set:=λh ht=>⟨good_cl.set h.1 ht,h.2⟩
 rz:=λh id=>good_cl.rz h.1 id
 hold:=λh hH=>⟨good_cl.hold h.1 hH,h.2⟩
 place:=λid a b c h=>⟨good_cl.place id a b c h.1,h.2⟩
 mark:=λid m h=>⟨good_cl.mark id m h.1,h.2⟩
 unm:=λ{S} id h=>⟨good_cl.unm id h.1,by rw[AdG];exact h.2⟩
 one:=λ{S} x k z f q h=>⟨good_cl.one x k z f q h.1,by rw[AdF];exact h.2⟩
def vj(F T:Nat)(sh:Bool):Bool:=
 let N:=(IK F T sh).N
 (List.range 32).all λn=>decide (0<=N.given n)&&(decide (N.root n=0)||(decide (N.ser n%32=n)&&decide (1<=N.ser n)&&decide (N.ser n<=16777215)))
theorem vk:((List.range 4).all λT=>(List.range 65).all λF=>T==0||decide (F<11*T)||(vj F T false&&vj F T true))=true:=by decide+kernel
theorem qt(sh:Bool)(DO:1<=T)(hT:T<=3)(hF:11*T<=F)(Rz:F<=64):SerN (H0 F C T sh).N:=by
 have h:=AS.1 (AS.1 vk T (C9.2 Af)) F (C9.2 Af);have h:vj F T sh=true:=by
  simp only[DA,AM,Hw,A3] at h;rcases h with(h|h)|⟨h1,h2⟩
  ·omega
  ·omega
  ·cases sh
   ·exact h1
   ·exact h2
 unfold vj at h;have h1: ∀n:Nat,n<32->0<=(IK F T sh).N.given n/\((IK F T sh).N.root n=0\/((IK F T sh).N.ser n%32=n/\1<=(IK F T sh).N.ser n/\(IK F T sh).N.ser n<=16777215)):=λn hn=>by have:=AS.1 h n (C9.2 hn);simp only[AM,DA,A3] at this;obtain⟨a,b⟩:=this;exact⟨a,b.imp id λb=>⟨b.1.1,b.1.2,b.2⟩⟩
 exact⟨λn hn=>(h1 n hn).1,λn hn hr=>(h1 n hn).2.resolve_left hr⟩
theorem vm(h:GoodK S/\SerN S.N): ∀(es:List ME),GoodK (LS S es)/\SerN (LS S es).N:=by
 intro es
 induction es generalizing S with
 |nil=>exact h
 |cons e r ih=>exact ih (ser_cl.ev h e)
set_option maxRecDepth 20000
abbrev ntK:List (Option IntKind):=[some .i64,some .i64,some .u64,some .u64,some .u64,some .u64,some .u64,some .u64,none,some .i64,some .u64,none]
instance:EQ prog 69 ntK:=⟨Bu⟩
theorem xk(x:NoT):AllK ntK (R4 x):=Fg (by rfl)
theorem ib(x y:NoT)(h:R4 x=R4 y):x=y:=by obtain⟨a1,a2,a3,⟨a4,a5,a6,a7⟩,a8,a9,b1,b2,b3⟩:=x;obtain⟨c1,c2,c3,⟨c4,c5,c6,c7⟩,c8,c9,d1,d2,d3⟩:=y;simp only[R4,Cj,Value.int.injEq,Value.bool.injEq,GH,IC] at h;obtain⟨h1,h2,h3,h4,h5,h6,h7,h8,h9,VA,kS,iy⟩:=h;subst h1 h2 h3 h4 h5 h6 h7 h8 h9 VA kS iy;rfl
theorem PZ[DecidableEq α](enc:α->Ap)(MK: ∀x y,enc x=enc y->x=y)(hk: ∀x,AllK ntK (enc x))(v u:Value)(xs ys:List α)(l:Ac)(h1:RowSl l v 12 enc xs)(h2:RowSl l u 12 enc ys)(hx:xs.length<=1000000):
 Fn prog 34 [v,u] l λr l'=>r= .bool (decide (xs=ys))/\l'=l:=by
 obtain⟨a,ca,rfl,h1⟩:=h1;obtain⟨a',ca',rfl,h2⟩:=h2;refine AO func34 ntmps34 λE=>?_;exact Zu
theorem AgD(c5 c4 c3 w k:Bh)(cN ct cs cn cS A G:Ac)(bl:Bh):(bl::(cN++(c5::c4::c3::w::k::(ct++(cs++(cn++(cS++(A++G)))))))).Perm (bl::((cN++[c5,c4,c3,w,k])++(cs++(ct++(cn++(cS++(A++G))))))):=δ
theorem AgE(c5 c4 c3 w k:Bh)(cN ct cs cn cS A G:Ac):((cN++[c5,c4,c3,w,k])++(cs++(ct++(cn++(cS++(A++G)))))).Perm (c5::c4::c3::w::k::(ct++(cs++((cn++cN)++(cS++(A++G)))))):=δ
theorem AgF(c5 c4 c3 w k:Bh)(ct cs cn cS A G:Ac):Keep (c5::c4::c3::w::k::(ct++(cs++(cn++(cS++(A++G)))))) (cS++((w::k::(ct++(cs++(cn++A))))++G)):=γ [c5,c4,c3]
theorem Tt{st:List (Int×List NoT)}{l:Ac}(e:ME)(he:aI e)(hW:IsWo F C (k+gV e) S th st wb l)(hn:st.length+1<=100000)(G:Ac)(hx:(FZ S e).1.1.length<=1000000):
 Fn prog 18 [pV wb,NR e] (l++G) λv l'=> ∃sl cs lw,v= .agg (τ (NS (FZ S e).1.2 sl))/\OwnSl 69 12 sl (FZ S e).1.1.length (HY (FZ S e).1.1) cs/\IsWo F C k (FZ S e).2 th (st++[((FZ S e).1.2,(FZ S e).1.1)]) wb lw/\l'=cs++(lw++G):=by
 obtain⟨b,kb,p,s,vt,vs,ct,cs,rows,cn,hK,ht,hs,LF,_,rfl⟩:=hW.ex;have hvt:=ht.one;have hvs:=hs.one;obtain⟨⟨⟨ns,co⟩,S'⟩,hR⟩: ∃R,FZ S e=R:=⟨_,rfl⟩
 have hdo:=λX=>Agz (b:=b) hK kb he X (dV wb kb vt vs) ct cs cn G;rw[hR] at hdo hx⊢;dsimp only at hdo hx⊢;rw[show(dV wb kb vt vs::PY kb b::(ct++(cs++(cn++AA b p s S []))))++G=dV wb kb vt vs::PY kb b::(ct++(cs++(cn++(AA b p s S []++G)))) by simp];refine AO func18 ntmps18 λE=>?_;refine AR λb3=>?_;refine AR λb4=>?_;refine Ss (α:=Value×Ac×RL×Nat) (λz=>[(0,pV wb),(4,pV b4),(5,pV z.2.2.2)]) (λz=>Iw z.2.2.2 co z.1::Iw b4 0 KO::Qn b3 e::dV wb kb vt vs::PY kb b::(ct++(cs++(cn++(z.2.1++(AA b p z.2.2.1 S' []++G)))))) (λz=>OwnSl 69 12 z.1 ns.length (HY ns) z.2.1/\IsK F C k S' p z.2.2.1) ?_ ?_
 ·refine L7 [(0,true),(1,true),(2,true),(3,true),(4,true),(5,false),(6,false),(7,false)] [[],[0],[0,1],[0,1,2],[],[0,1,2,3,4],[],[0,1,2,3,4,5,6]] 5 6 ([Qn b3 e,dV wb kb vt vs]) Bu Bu GO ((in2 Ca Ca)) ?_;refine BJ ?_;refine Oz [(6,false),(5,false),(7,false)] GO (List.Perm.swap _ _ _) Bu ?_ ?_
  ·refine CX (Az (vs:=[pV kb,NR e]) rfl rfl (hdo [Iw b4 0 KO,Qn b3 e])) rfl rfl rfl ?_ ?_
   ·rintro _ _ ⟨sl,c2,s1,rfl,_,_,rfl⟩;exact in2 (by simp) (by simp)
   rintro _ _ ⟨sl,c2,s1,rfl,Gc,ED,rfl⟩;simp only[Ae,Ag];refine CX e_alloc rfl rfl rfl ?_ ?_
   ·rintro _ _ ⟨_,_,_,rfl⟩ c hc;exact .tail _ (in2 Ca Ca c hc)
   rintro _ _ ⟨b5,_,rfl,rfl⟩;obtain⟨pp,cap,rfl⟩:=Gc.shape;refine BJ ?_;refine Aj ?_;exact EM (_,c2,s1,b5) ⟨Gc,ED⟩ ⟨rfl,rfl,rfl,trivial⟩ .refl
  ·refine CX e_alloc rfl rfl rfl ?_ ?_
   ·rintro _ _ ⟨_,_,_,rfl⟩ c hc;exact .tail _ (in2 Ca Ca c hc)
   rintro _ _ ⟨b5,_,rfl,rfl⟩;refine CX (Az (vs:=[pV kb,NR e]) rfl rfl (hdo [Iw b5 0 KO,Iw b4 0 KO,Qn b3 e])) rfl rfl rfl ?_ ?_
   ·rintro _ _ ⟨sl,c2,s1,rfl,_,_,rfl⟩;exact in2 (by simp) (by simp)
   rintro _ _ ⟨sl,c2,s1,rfl,Gc,ED,rfl⟩;simp only[Ae,Ag];obtain⟨pp,cap,rfl⟩:=Gc.shape;refine BJ ?_;refine Aj ?_;exact EM (_,c2,s1,b5) ⟨Gc,ED⟩ ⟨rfl,rfl,rfl,trivial⟩ .refl
 rintro⟨sl,c2,s1,b5⟩ ⟨Gc,ED⟩;dsimp only;obtain⟨pp,cap,rfl⟩:=Gc.shape;refine Aj ?_;refine CC (Cy [9,11,12,15] 0 16) ?_;refine CG ?_;refine Is (Az (vs:=[.slice pp ns.length cap]) rfl rfl (dU _ ns c2 _ Gc (λc hc=>by simp[hc]) hx)) (by rintro _ _ ⟨c3,_,rfl⟩ c hc;exact Aa _ hc) ?_;rintro vN _ ⟨cN,hoN,rfl⟩;obtain⟨pN,capN,rfl⟩:=hoN.shape;refine CG ?_;refine Is (FB (ws:=NS co (.slice pN ns.length capN)) (k:=2) (zs:=NS 0 KO) rfl rfl rfl A0 A0) (by rintro _ _ ⟨_,_,_,rfl⟩ c hc;exact .tail _ hc) ?_;rintro _ _ ⟨bl,_,rfl,rfl⟩;refine CG ?_;refine LP (OpE.re (.of_perm (AgD _ _ _ _ _ cN ct cs cn c2 _ G _)) (HM (k:=2) (X:=cN++[_,_,_,_,_]) (cs:=cs) (xs:=rows) (ws:=NS co (.slice pN ns.length capN)) (zs:=NS 0 KO) (n:=st.length) rfl rfl rfl hs rfl (by simp[Value.oneCell']) Af A0) (K':=λv' l'=> ∃c3,OwnSl 32 2 v' (st.length+1) (rows++NS co (.slice pN ns.length capN)) c3/\l'=Iw b5 co (.slice pp ns.length cap)::Iw b4 0 KO::Qn b3 e::dV wb kb vt vs::PY kb b::(ct++(c3++((cn++cN)++(c2++(AA b p s1 S' []++G)))))) λv' l' ⟨c3,h1,h2⟩=>⟨_,by rw[h2];exact .of_perm (AgE ..),c3,h1,rfl⟩) ?_;rintro v' _ ⟨c3,ho3,rfl⟩;obtain⟨p3,cap3,rfl⟩:=ho3.shape;refine CG ?_;refine Aj ?_;exact AU (vs:=[.agg (τ (NS co (.slice pp ns.length cap)))]) [] _ rfl .refl (B0 rfl ν (As.LSub.of_all (n:=2) (NS co (.slice pp ns.length cap)) rfl) .nil) (AgF ..) ⟨_,c2,_,rfl,Gc,⟨b,kb,p,s1,vt,_,ct,c3,_,cn++cN,ED,ht,by rw[Ah];exact ho3,LF.snoc hoN,by rw[Ah];exact hn,rfl⟩,rfl⟩
theorem qv: ∀{rows:List (Ap)},(∀r,r∈rows-> ∃x:ME,r=VP x/\aI x)-> ∃xs:List ME,rows=xs.map VP/\ ∀x,x∈xs->aI x
 |[],_=>⟨[],rfl,λx hx=>by cases hx⟩
 |r::rows,h=>by
  obtain⟨x,hx,hg⟩:=h r Al;obtain⟨xs,Rx,hgs⟩:=qv λr' Vi=>h r' (An _ Vi);exact⟨x::xs,by rw[hx,Rx];rfl,λy hy=>by
   rcases Au.1 hy with rfl|hy
   ·exact hg
   ·exact hgs y hy⟩
theorem NT{a:Int}(h:(Lit.int .u64 a).wf=true):Jj a:=by simp[Lit.wf,IntKind.min,IntKind.max,IntKind.signed,IntKind.bits] at h;exact⟨Af,Af⟩
abbrev evK:List (Option IntKind):=[some .i64,some .i64,some .i64,some .u64,some .u64,some .u64,some .u64,some .u64,some .u64,some .u64,some .u64,some .u64,some .i64,some .i64,some .i64]
theorem qw{W:World}{a:Option Addr}{rows:List (Ap)}(h:Xd evK W a n cap rows): ∃es:List ME,es.length=n/\Qa (QP W) a n 15 (es.map VP)/\ ∀x,x∈es->aI x:=by
 obtain⟨es,hx,hg⟩:=qv (rows:=rows) λr hr=>by obtain⟨_,_,rfl,⟨k,rfl,_⟩,_,_,rfl,⟨co,rfl,_⟩,_,_,rfl,⟨th,rfl,_⟩,_,_,rfl,⟨op,rfl,w0⟩,_,_,rfl,⟨a0,rfl,w1⟩,_,_,rfl,⟨a1,rfl,w2⟩,_,_,rfl,⟨a2,rfl,w3⟩,_,_,rfl,⟨a3,rfl,w4⟩,_,_,rfl,⟨a4,rfl,w5⟩,_,_,rfl,⟨a5,rfl,w6⟩,_,_,rfl,⟨va,rfl,w7⟩,_,_,rfl,⟨vl,rfl,w8⟩,_,_,rfl,⟨st,rfl,_⟩,_,_,rfl,⟨wy,rfl,_⟩,_,_,rfl,⟨pg,rfl,_⟩,rfl⟩:=h.all r hr;exact⟨⟨k,co,th,⟨op,a0,a1,a2,a3,a4,a5⟩,va,vl,st,wy,pg⟩,rfl,⟨NT w0,NT w1,NT w2,NT w3,NT w4,NT w5,NT w6⟩,NT w7,NT w8⟩
 refine⟨es,?_,?_,hg⟩
 ·have:=h.size;rw[hx] at this;simpa using this
 ·rw[<-hx];exact sS h A0
theorem LSet.mid: ∀(A C:Ap) (x v:Value) {k:Nat},A.length=k->LSet (A++x::C) k v (A++v::C)
 |[],C,x,v,_,h=>by subst h;exact .zero
 |a::A,C,x,v,_,h=>by subst h;exact .succ (LSet.mid A C x v rfl)
theorem LGet.mid: ∀(A C:Ap) (v:Value) {k:Nat},A.length=k->LGet (A++v::C) k v
 |[],C,v,_,h=>by subst h;exact .zero
 |a::A,C,v,_,h=>by subst h;exact .succ (LGet.mid A C v rfl)
theorem LSetA.all: ∀(B vs C:Ap),B.length=vs.length->LSetA (B++C) 0 vs (vs++C)
 |[],[],C,_=> .done
 |b::B,v::vs,C,h=> .put (LSetA.all B vs C (by simpa using h))
 |[],v::vs,C,h=>by cases h
 |b::B,[],C,h=>by cases h
theorem LSetA.mid: ∀(A B vs C:Ap) {k:Nat},A.length=k->B.length=vs.length->LSetA (A++(B++C)) k vs (A++(vs++C))
 |[],B,vs,C,_,h,h2=>by subst h;exact LSetA.all B vs C h2
 |a::A,B,vs,C,_,h,h2=>by subst h;exact .skip (LSetA.mid A B vs C rfl h2)
def Vz(N:As.ASt):Ap:=(List.range 80).map N.at
theorem Fh(N:As.ASt):(Vz N).length=80:=by simp[Vz]
theorem kD(N:As.ASt):N.cells.extract 0 80=τ (Vz N):=by
 apply Dq;intro j;rw[DN];unfold Vz;simp only[As.ASt.cells_size,AF,A7];by_cases h:j<80
 ·rw[Ad Af,BG,As.ASt.cells_get N j Af,Fu h];rfl
 ·rw[Ab Af,Bi (by simp;omega)];rfl
theorem Ro(N:As.ASt): ∀v,v∈Vz N->v.oneCell'=true:=by
 intro v hv;obtain⟨j,hj,rfl⟩:=Ax.1 hv;unfold As.ASt.at
 repeat' split
 all_goals rfl
structure VwL where
 vo:Value
 vc:Value
 vt:Value
 vh:Value
 vr:Value
 vq:Value
 co:Ac
 cc:Ac
 ct:Ac
 ch:Ac
 cr:Ac
 cq:Ac
variable{x:VwL}
abbrev LI(vo vc vt vh:Value)(N:As.ASt)(vr vq:Value):Ap:=vo::vc::vt::vh::(Vz N++[vr,vq])
def vn(X:Nat->A8):A8:=Qu.allX X (Qu.fallT (Qu.neX X) 0)
structure IsVwK(C:Nat)(S:KT)(x:VwL):Prop where
 o:OwnSl 100 9 x.vo S.A.os.length (Ar.ocs S.A.os) x.co
 c:OwnSl 131 10 x.vc (CI S.H.1).length (OR (CI S.H.1)) x.cc
 t:OwnSl 129 3 x.vt S.H.2.length (Tr.ncs S.H.2) x.ct
 h:OwnSl 79 24 x.vh S.T.length (Th.thcs S.T) x.ch
 r:OwnSl 3 1 x.vr C (S.U.map CU) x.cr
 q:OwnSl 3 1 x.vq (vn S.Q).length ((vn S.Q).map CU) x.cq
abbrev rr(B:Nat)(vo vc vt vh:Value)(N:As.ASt)(vr vq:Value):Bh:=(B,.cells (τ (LI vo vc vt vh N vr vq)) 52 (0,0))
def xl:Ap:=[ι 0,.bool false,ι 0,ι 0,ι 0,ι 0,ι 0,ι 0,ι 0,ι 0]
def Qo:Ap:=xl++(xl++(xl++(xl++(xl++(xl++(xl++xl))))))
abbrev Di:Value:= .slice none 0 0
theorem qx{vo vc vt vh vq:Value}(N:As.ASt)(h1:vo.oneCell'=true)(h2:vc.oneCell'=true)(h3:vt.oneCell'=true)(h4:vh.oneCell'=true)(h5:vq.oneCell'=true):BuildS prog 52 (Di::Di::Di::Di::(Qo++[Di,Di])) [(0,vo),(1,vc),(2,vt),(3,vh),(4,.agg (τ (Vz N))),(6,vq)] (LI vo vc vt vh N Di vq):=by refine .one inferInstance inferInstance h1 .zero (.one inferInstance inferInstance h2 (.succ .zero) (.one inferInstance inferInstance h3 (.succ (.succ .zero)) (.one inferInstance inferInstance h4 (.succ (.succ (.succ .zero))) (.agg inferInstance inferInstance (Fh N) (LSetA.mid [vo,vc,vt,vh] Qo (Vz N) [Di,Di] rfl (Fh N).symm) (.one inferInstance inferInstance h5 ?_ .nil)))));have:=LSet.mid (vo::vc::vt::vh::(Vz N++[Di])) [] Di vq (k:=85) (by simp[Fh]);simpa[LI] using this
theorem kv1(m v rb z:Bh)(cr cq ch ct cc co L:Ac):Keep (m::v::(cr++rb::(cq++(ch++(ct++(cc++(co++z::L))))))) (z::v::m::(co++(cc++(ct++(ch++(cr++(cq++L))))))):=γ [rb]
theorem kv2(m v z:Bh)(L:Ac):Keep (z::v::m::L) ([m]++(z::L)):=γ [v]
theorem Aaw(hK:IsK F C k S p s)(G:Ac):Fn prog 55 [pV b] (AA b p s S G) λv l'=>
 ∃x:VwL,v= .agg (τ (LI x.vo x.vc x.vt x.vh S.N x.vr x.vq))/\IsVwK C S x/\l'=x.co++(x.cc++(x.ct++(x.ch++(x.cr++(x.cq++AA b p s S G))))):=by
 obtain⟨L,hL⟩: ∃L,L=AA b p s S G:=⟨_,rfl⟩
 have hmr:CH b p∈L:=by rw[hL];exact .head _
 have hmn:As.asA p.n S.N∈L:=by rw[hL];exact .tail _ (.head _)
 have hma: ∀c,c∈s.A->c∈L:=λc hc=>by rw[hL];unfold AA;simp[hc]
 have hmh: ∀c,c∈s.H->c∈L:=λc hc=>by rw[hL];unfold AA;simp[hc]
 have hmt: ∀c,c∈s.T->c∈L:=λc hc=>by rw[hL];unfold AA;simp[hc]
 have hmq: ∀c,c∈s.Q->c∈L:=λc hc=>by rw[hL];unfold AA;simp[hc]
 have yd: ∀c,c∈s.V->c∈L:=λc hc=>by rw[hL];unfold AA;simp[hc]
 rw[<-hL];obtain⟨m9,hm9,hi9⟩:=hK.inv;obtain⟨Nc,Ol,_⟩:=hi9.small Af;have hT:S.T.length<=900000:=by have:=hK.tl;omega
 have aS:=hK.ul;refine AO func55 ntmps55 λE=>?_;refine AR λb2=>?_;have CJ: ∀(c:Bh),c∈[CH b p]->c∈(b2,Obj.cells (τ (Di::Di::Di::Di::(Qo++[Di,Di]))) 52 (0,0))::L:=λc hc=>by rw[Ay.1 hc];exact .tail _ hmr
 refine SU [(0,true),(1,true),(2,true),(3,true),(5,true),(6,true),(7,true),(8,true),(10,true),(11,true),(12,true),(13,true),(15,true),(16,true),(17,true),(18,true),(20,true),(21,true),(22,true),(23,true),(25,true),(26,true),(27,true),(28,true),(4,false),(9,false),(14,false),(19,false),(24,false),(29,false),(30,true),(31,false),(32,false)] [[],[0],[0,1],[0,1,2],[0,1,2,3],[],[5],[5,6],[5,6,7],[0,1,2,3,4,5,6,7,8],[],[10],[10,11],[10,11,12],[0,1,2,3,4,5,6,7,8,9,10,11,12,13],[],[15],[15,16],[15,16,17],[0,1,2,3,4,5,6,7,8,9,10,11,12,13,14,15,16,17,18],[],[20],[20,21],[20,21,22],[0,1,2,3,4,5,6,7,8,9,10,11,12,13,14,15,16,17,18,19,20,21,22,23],[],[25],[25,26],[25,26,27],[0,1,2,3,4,5,6,7,8,9,10,11,12,13,14,15,16,17,18,19,20,21,22,23,24,25,26,27,28],[0,1,2,3,4,5,6,7,8,9,10,11,12,13,14,15,16,17,18,19,20,21,22,23,24,25,26,27,28,29],[],[0,1,2,3,4,5,6,7,8,9,10,11,12,13,14,15,16,17,18,19,20,21,22,23,24,25,26,27,28,29,30,31]] (some [(4,31),(9,31),(14,31),(19,31),(24,31),(29,31)]) ([CH b p]) Bu Bu GO (CJ) ?_;refine BJ ?_;refine tE [(4,_,λv cs=>OwnSl 100 9 v S.A.os.length (Ar.ocs S.A.os) cs),(9,_,λv cs=>OwnSl 131 10 v (CI S.H.1).length (OR (CI S.H.1)) cs),(14,_,λv cs=>OwnSl 129 3 v S.H.2.length (Tr.ncs S.H.2) cs),(19,_,λv cs=>OwnSl 79 24 v S.T.length (Th.thcs S.T) cs),(24,_,λv cs=>v= .agg (τ (Vz S.N))/\cs=[]),(29,_,λv cs=>OwnSl 3 1 v (vn S.Q).length ((vn S.Q).map CU) cs)] [(30,_)] (31,_,λv cs=> ∃b,v= π b/\cs=[(b,.cells (τ (Di::Di::Di::Di::(Qo++[Di,Di]))) 52 (0,0))]) 3 rfl rfl rfl CJ (λ_ h=>by cases h) ⟨Pv rfl rfl (λl' hl=>Ar.all_any p.a S.A s.A hK.ar l' λc hc=>hl _ (.tail _ (hma c hc))) rfl rfl,Pv rfl rfl (λl' hl=>Wv p.h S.H s.H hK.ho Nc l' λc hc=>hl _ (.tail _ (hmh c hc))) rfl rfl,Pv rfl rfl (λl' hl=>ja p.h S.H s.H hK.ho Ol l' λc hc=>hl _ (.tail _ (hmh c hc))) rfl rfl,Pv rfl rfl (λl' hl=>Th.all_any p.t S.T s.T hK.th hT l' λc hc=>hl _ (.tail _ (hmt c hc))) rfl rfl,Pv rfl rfl (λl' hl=>(As.pools_any p.n S.N (Vz S.N) (kD S.N) (Fh S.N) (Ro S.N) l' (hl _ (.tail _ hmn))).mono λv l2 h=>⟨[],⟨h.1,rfl⟩,h.2⟩) rfl rfl,Pv rfl rfl (λl' hl=>Qu.all_any p.q S.Q s.Q hK.qu (λj hj=>by have:=hK.ql j hj;omega) l' λc hc=>hl _ (.tail _ (hmq c hc))) rfl rfl,trivial⟩ (od rfl rfl) Bu Bu rfl rfl ?_;intro vo co ho vc cc hc vt ct ht vh ch hh vp cp hp vq cq hq;obtain⟨rfl,rfl⟩:=hp;refine⟨_,_,eP rfl (qx S.N ho.one hc.one ht.one hh.one hq.one),rfl,rfl,rfl,?_⟩;rintro v3 c3 ⟨b3,rfl,rfl⟩;simp only[ID,AddK];simp only at ho hc ht hh hq;apply Oy
 ·refine EG (cs:=τ (Di::Di::Di::Di::(Qo++[Di,Di]))) (T:=52) (l':=rr b3 vo vc vt vh S.N Di vq::(cq++(ch++(ct++(cc++(co++(b2,Obj.cells (τ (Di::Di::Di::Di::(Qo++[Di,Di]))) 52 (0,0))::L)))))) rfl rfl ?_ ?_ ?_ ?_
  ·show(LI vo vc vt vh S.N Di vq).length=86;simp[Fh]
  ·intro v hv;simp only[DU,Au,AB,BR,EF] at hv;rcases hv with rfl|rfl|rfl|rfl|hv|rfl|rfl
   ·exact ho.one
   ·exact hc.one
   ·exact ht.one
   ·exact hh.one
   ·exact Ro _ v hv
   ·rfl
   ·exact hq.one
  ·rw[DU,As.setFrom_all _ _ (by simp[Fh];rfl)];exact .here
  ·show 0+86<=(Di::Di::Di::Di::(Qo++[Di,Di])).length;decide
 ·rfl
 ·rfl
 ·rintro _ _ ⟨_,rfl⟩ c hc;rw[Ay.1 hc];simp[hmr]
 rintro _ _ ⟨rfl,rfl⟩;refine BJ ?_;refine Aj ?_;refine AP (Az rfl rfl (Pz b _)) ?_;rintro _ _ ⟨B,rfl,rfl⟩;refine Aj ?_;obtain⟨gL,hgl⟩: ∃gL,gL=cq++(ch++(ct++(cc++(co++(b2,Obj.cells (τ (Di::Di::Di::Di::(Qo++[Di,Di]))) 52 (0,0))::L)))):=⟨_,rfl⟩
 have hLg: ∀c,c∈L->c∈gL:=λc hc=>by rw[hgl];simp[hc]
 rw[<-hgl];have hC1:=hK.c1;obtain⟨bv,cap,sp,hv,hV,_⟩:=hK.cur;have hmB: ∀c,c∈[rB B b,CH b p]->c∈rB B b::gL:=λc hc=>by
  rcases Au.1 hc with rfl|hc
  ·exact .head _
  ·rw[Ay.1 hc];exact .tail _ (hLg _ hmr)
 have rJ:(bv,Obj.cells (τ (S.U.map CU++sp)) 3 (0,0))∈L:=yd _ (by rw[hV];exact .head _);have h84: ∀(N:As.ASt),(vo::vc::vt::vh::Vz N).length=84:=λN=>by simp[Fh]
 refine Dj (α:=Nat) (ps:=[42,43]) (lb:=[pV B]) rfl (NM B b p bv C cap Af hv) (λ_=>rfl) rfl
  (λpre l=> ∃vr cr,OwnSl 3 1 vr pre.length ((S.U.take pre.length).map CU) cr/\l=rr b3 vo vc vt vh S.N vr vq::cr) (λc pre l=>False) [rr b3 vo vc vt vh S.N Di vq] (rB B b::gL)
  (λpre l2 X2 hX h=>⟨Aa _ (hX _ (.head _)),Aa _ (hX _ (.tail _ (hLg _ hmr)))⟩) (.of_perm (.swap _ _ _)) ⟨_,[],OwnSl.nil _ _,rfl⟩ ?_ ?_ ?_
 ·rintro E r0 Gb pre x l' T ⟨fn,tmps,D,rfl⟩ hT ⟨vr,cr,EY,rfl⟩ DG;obtain⟨rfl,hx,_⟩:=gp DG rfl;have c0:=Sj (U:=S.U) (sp:=sp) (i:=pre.length) Af;obtain⟨u,hu⟩:=ξ (S.U.getD pre.length 0)
  rw[hu] at c0;have Js:vr.oneCell'=true:=EY.one;simp only[DY,Ae,Ag];refine Aj ?_;refine CP (.there (FX _ _ _ _ _)) ?_;generalize hX1:(r0,Obj.loop (DV fn tmps _ _ _ D .busy none))::T=X1;have hmX:(bv,Obj.cells (τ (S.U.map CU++sp)) 3 (0,0))∈X1:=by rw[<-hX1];exact .tail _ (hT _ (.tail _ (hLg _ rJ)))
  refine Aj ?_;refine Ct [5,6,8] 9 ([]) ?_;refine BJ ?_;apply Gy (S:=[rr b3 vo vc vt vh S.N vr vq])
  ·exact DQ rfl (.head _) (Lp (LGet.mid (vo::vc::vt::vh::Vz S.N) [vq] vr (h84 _)))
  ·exact Da (.head _)
  ·rfl
  ·rfl
  ·rfl
  refine BJ ?_;apply Gy (S:=[(bv,Obj.cells (τ (S.U.map CU++sp)) 3 (0,0))])
  ·exact DQ (v:=iV u) rfl (.head _) (by first|exact c0|(rw[Dw];exact c0))
  ·exact Da (.tail _ (Aa _ hmX))
  ·rfl
  ·rfl
  ·rfl
  refine BJ ?_;apply Hi
  ·exact Lq (v:=iV u) rfl rfl
  ·rfl
  ·rfl
  ·rfl
  ·intro _ _ _ c hc;cases hc
  ·rintro _ _ ⟨bl,_,rfl,rfl⟩ x hx _ c hc;simp only[Au,BR,EF] at hx;rcases hx with rfl|rfl<;>simp only[Au,BR,EF] at hc<;>subst hc
   ·exact .tail _ (.tail _ (Aa _ hmX))
   ·exact .tail _ (.head _)
  rintro _ _ ⟨bl,_,rfl,rfl⟩;refine BJ ?_;apply Hi
  ·apply HM (k:=1) (X:=[rr b3 vo vc vt vh S.N vr vq]) (cs:=cr) (xs:=(S.U.take pre.length).map CU) (n:=pre.length) (zs:=[ι 0]) (ws:=[iV u])
   ·rfl
   ·rfl
   ·rfl
   ·exact EY
   ·rfl
   ·simp[Value.oneCell']
   ·omega
   ·decide
  ·rfl
  ·rfl
  ·rfl
  ·intro _ _ _ c hc;cases hc
  ·exact λ_ _ _ x hx ha=>Dk Bu hx ha
  rintro v' _ ⟨c2,F0,rfl⟩;have Js:v'.oneCell'=true:=F0.one;simp only[Ae,Ag];refine BJ ?_;apply HL
  ·apply GM (cs:=LI vo vc vt vh S.N vr vq) (cs':=LI vo vc vt vh S.N v' vq)
   ·rfl
   ·rfl
   ·exact Js
   ·exact .head _
   ·exact LSet.mid (vo::vc::vt::vh::Vz S.N) [vq] vr v' (h84 _)
   ·exact .here
  ·rfl
  ·rfl
  ·intro _ _ _ c hc;cases hc
  ·exact λ_ _ _ x hx ha=>Dk Bu hx ha
  rintro _ _ ⟨rfl,rfl⟩;refine BJ ?_;refine Aj ?_;rw[<-hX1];refine Cn _ (.refl) ⟨v',c2,?_,rfl⟩;rw[Ah,Bk,BP,At,Ak Af];rw[List.getD,Ak Af,Dl] at hu;rw[hu];exact F0
 ·rintro D xs l' rfl ⟨vr,cr,EY,rfl⟩;rw[Fq,BD Af] at EY;have Js:vr.oneCell'=true:=EY.one;refine Aj ?_;have YG:(LI vo vc vt vh S.N vr vq).length=86:=by simp[Fh]
  refine Be (E1 rfl ν (As.LSub.of_all (n:=86) _ YG)) ?_;rw[hgl];refine Bt (kv1 ..) ?_;apply Nk
  ·refine EG (cs:=τ (Di::Di::Di::Di::(Qo++[Di,Di]))) (T:=52) (l':=rr b2 vo vc vt vh S.N vr vq::rr b3 vo vc vt vh S.N vr vq::Cv D::(co++(cc++(ct++(ch++(cr++(cq++L))))))) rfl rfl YG ?_ ?_ ?_
   ·intro v hv;simp only[DU,Au,AB,BR,EF] at hv;rcases hv with rfl|rfl|rfl|rfl|hv|rfl|rfl
    ·exact ho.one
    ·exact hc.one
    ·exact ht.one
    ·exact hh.one
    ·exact Ro _ v hv
    ·exact Js
    ·exact hq.one
   ·rw[DU,As.setFrom_all _ _ (by simp[Fh];rfl)];exact .here
   ·show 0+86<=(Di::Di::Di::Di::(Qo++[Di,Di])).length;decide
  ·rfl
  ·rfl
  rintro _ _ ⟨rfl,rfl⟩;refine Aj ?_;exact AU [D] (rr b2 vo vc vt vh S.N vr vq::(co++(cc++(ct++(ch++(cr++(cq++L))))))) rfl (kv2 ..) (B0 rfl (.head _) (As.LSub.of_all (n:=86) _ YG) .nil) ζ ⟨⟨vo,vc,vt,vh,vr,vq,co,cc,ct,ch,cr,cq⟩,rfl,⟨ho,hc,ht,hh,EY,hq⟩,rfl⟩
 ·rintro D c pre l' DG h;exact h.elim
def VwL.all(x:VwL):Ac:=x.co++(x.cc++(x.ct++(x.ch++(x.cr++x.cq))))
theorem Vd(kb b:Nat)(l:Ac)(hm:PY kb b∈l):Fn prog 54 [pV kb] l λv l'=>v=pV b/\l'=l:=by refine AO func54 ntmps54 λE=>?_;exact Fd
theorem AgG(b:Nat)(p:RP)(s:RL)(S:KT)(x:VwL)(A G:Ac):Keep (x.co++(x.cc++(x.ct++(x.ch++(x.cr++(x.cq++AA b p s S (A++G))))))) (x.all++(A++(AA b p s S []++G))):=by unfold AA VwL.all;exact γ []
section
variable{st:List (Int×List NoT)}{l:Ac}
theorem ic(hK:IsK F C k S p s)(A G:Ac):Fn prog 55 [pV b] (A++(AA b p s S []++G)) λv l'=> ∃x:VwL,v= .agg (τ (LI x.vo x.vc x.vt x.vh S.N x.vr x.vq))/\IsVwK C S x/\l'=x.all++(A++(AA b p s S []++G)):=
 Fn.re (.of_perm (Aaq ..)) (Aaw hK (A++G)) λv l' ⟨x,h1,h2,h3⟩=>⟨_,by rw[h3];exact AgG ..,x,h1,h2,rfl⟩
theorem AdH(w k:Bh)(ct cs cn A G:Ac):(w::k::(ct++(cs++(cn++A))))++G=[w,k]++ct++cs++cn++(A++G):=by simp
theorem WY(hW:IsWo F C k S th st wb l)(G:Ac):Fn prog 21 [pV wb] (l++G) λv l'=> ∃x:VwL,v= .agg (τ (LI x.vo x.vc x.vt x.vh S.N x.vr x.vq))/\IsVwK C S x/\l'=x.all++(l++G):=by
 obtain⟨b,kb,p,s,vt,vs,ct,cs,rows,cn,hK,ht,hs,LF,hsl,hl⟩:=hW.ex;obtain⟨A,hA⟩:=ξ ([dV wb kb vt vs,PY kb b]++ct++cs++cn)
 have mw:dV wb kb vt vs∈A:=by rw[<-hA];simp
 have mk:PY kb b∈A:=by rw[<-hA];simp
 have hv:=λG=>ic hK (b:=b) A G;have el: ∀G,l++G=A++(AA b p s S []++G):=λG=>by rw[hl,AdH,hA]
 rw[el];have mw':dV wb kb vt vs∈A++(AA b p s S []++G):=Ai _ mw;have mk':PY kb b∈A++(AA b p s S []++G):=Ai _ mk;refine AO func21 ntmps21 λE=>?_;refine AR λb2=>?_;refine Be (AI rfl rfl λl2 hl=>Vd kb b l2 (hl _ (.tail _ mk'))) ?_;refine AP (Az rfl rfl (ic (b:=b) hK ((b2,Obj.cells (τ (Di::Di::Di::Di::(Qo++[Di,Di]))) 52 (0,0))::A) G)) ?_;rintro _ _ ⟨x,rfl,hx,rfl⟩;obtain⟨vo,vc,vt,vh,vr,vq,co,cc,ct',ch,cr,cq⟩:=x;obtain⟨ho,hc,PJ,hh,hr,hq⟩:=hx;simp only at ho hc PJ hh hr hq;obtain⟨Y,hY⟩:=ξ (VwL.all ⟨vo,vc,vt,vh,vr,vq,co,cc,ct',ch,cr,cq⟩)
 rw[hY];refine Bt (l':=(b2,Obj.cells (τ (Di::Di::Di::Di::(Qo++[Di,Di]))) 52 (0,0))::(Y++(A++(AA b p s S []++G)))) (.of_perm AJ) ?_;have YG:(LI vo vc vt vh S.N vr vq).length=86:=by simp[Fh]
 refine Aj ?_;apply Nk
 ·refine EG (cs:=τ (Di::Di::Di::Di::(Qo++[Di,Di]))) (T:=52) (l':=rr b2 vo vc vt vh S.N vr vq::(Y++(A++(AA b p s S []++G)))) rfl rfl YG ?_ ?_ ?_
  ·intro v hv;simp only[DU,Au,AB,BR,EF] at hv;rcases hv with rfl|rfl|rfl|rfl|hv|rfl|rfl
   ·exact ho.one
   ·exact hc.one
   ·exact PJ.one
   ·exact hh.one
   ·exact Ro _ v hv
   ·exact hr.one
   ·exact hq.one
  ·rw[DU,As.setFrom_all _ _ (by simp[Fh];rfl)];exact .here
  ·show 0+86<=(Di::Di::Di::Di::(Qo++[Di,Di])).length;decide
 ·rfl
 ·rfl
 rintro _ _ ⟨rfl,rfl⟩;refine Aj ?_;exact AU [] (rr b2 vo vc vt vh S.N vr vq::(Y++(A++(AA b p s S []++G)))) rfl .refl (B0 rfl (.head _) (As.LSub.of_all (n:=86) _ YG) .nil) ζ ⟨⟨vo,vc,vt,vh,vr,vq,co,cc,ct',ch,cr,cq⟩,rfl,⟨ho,hc,PJ,hh,hr,hq⟩,by rw[hY]⟩
theorem av(hW:IsWo F C k S th st wb l)(lJ:th.length<=1000000)(G:Ac):Fn prog 19 [pV wb] (l++G) λv l'=> ∃c2,OwnSl 3 1 v th.length (th.map CU) c2/\l'=c2++(l++G):=by
 obtain⟨b,kb,p,s,vt,vs,ct,cs,rows,cn,hK,ht,hs,LF,hsl,hl⟩:=hW.ex;have mw:dV wb kb vt vs∈l++G:=by rw[hl];simp
 have hvt:=ht.one;have OR: ∀c,c∈ct->c∈l++G:=λc hc=>by rw[hl];simp[hc]
 refine AO func19 ntmps19 λE=>?_;refine Aj ?_;refine AP (Az (vs:=[vt]) rfl rfl (En.clone_any vt th ct _ ht OR lJ)) ?_;rintro v' _ ⟨c2,F0,rfl⟩;have Js:v'.oneCell'=true:=F0.one;refine Aj ?_;refine Bc .refl ?_;exact⟨c2,F0,rfl⟩
end
def N2(hs:List NW)(s:Ch):CapT×Bool:=match hs.find? (λh=>decide (h.1=s)) with
 |some h=>(h.2,true)
 |none=>(Cu,false)
abbrev LE(B:Nat)(c:Ap):Bh:=(B,.cells (τ c) 52 (0,0))
abbrev hdB(B:Nat)(h:NW):Bh:=(B,.cells (τ (Ny h)) 131 (0,0))
theorem vu(c:Ap)(vc:Value)(hs:List NW)(s:Ch)(l:Ac)(hc:(τ c)[1]?=some vc)(hv:RowSl l vc 10 Ny hs)(hn:hs.length<=1000000):Fn prog 67 [.agg (τ c),Fy s] l λv l'=>v= .tuple #[Vs (N2 hs s).1,.bool (N2 hs s).2]/\l'=l:=by
 obtain⟨a,cap,rfl,hr⟩:=hv;refine AO func67 ntmps67 λE=>?_;refine Aj ?_;refine AP (Cw rfl) ?_;rintro _ _ ⟨b2,_,rfl,rfl⟩;refine AP (Cw rfl) ?_;rintro _ _ ⟨b3,_,rfl,rfl⟩;refine AR λb4=>?_;refine CF (α:=Nat) (λk=>[(2,pV b2),(3,pV b3),(4,pV b4),(9,.slice a hs.length cap),(10,ι (hs.length:Nat)),(11,ι k)]) (λk=>Bw b4 Cu::(b3,.cells (τ (Cd s)) 61 (0,0))::LE b2 c::l) (λk=>k<=hs.length/\ ∀h,h∈hs.take k->¬h.1=s) (λk=>hs.length-k) 0 ⟨Bm _,by simp⟩ ⟨rfl,rfl,rfl,rfl,rfl,rfl,trivial⟩ .refl ?_;rintro k ⟨hk,HI⟩;by_cases C7:k<hs.length
 ·obtain⟨h,e1⟩: ∃h,hs[k]?=some h:=⟨_,Ak C7⟩
  obtain⟨b,off,cs,t,fz,rfl,hm,KZ⟩:=hr Af;obtain⟨g1,g2⟩:=KZ k h e1;refine Aj ?_;refine Be (Dp rfl (.tail _ (.tail _ (.tail _ hm))) g1 g2) ?_;refine AR λb7=>?_;refine Be (FC (ks:=[some .i64,some .i64]) (xs:=Cd h.1) (ys:=Cd s) rfl rfl (Fg (by rfl)) (Fg (by rfl))) ?_;by_cases he:h.1=s
  ·rw[show BU (Cd h.1) (Cd s)=true by rw[he];exact Gq (ks:=[some .i64,some .i64]) (Fg (by rfl))];have hf:N2 hs s=(h.2,true):=by
    have h3:hs.find? (λh=>decide (h.1=s))=some h:=by obtain⟨hl,hx⟩:=Aw.1 e1;refine E8.2 ⟨by simpa using he,k,hl,hx,λj hj=>?_⟩;have:=HI hs[j] (Ga.2 ⟨j,Af,rfl⟩);simpa using this
    unfold N2;rw[h3]
   rw[hf];refine Aj ?_;exact AU (vs:=[Vs h.2,.bool true]) [] _ rfl .refl (B0 rfl ν (As.LSub.of_all (n:=8) (Cb h.2) rfl) Ba) φ ⟨rfl,rfl⟩
  ·rw[show BU (Cd h.1) (Cd s)=false by
    cases hq:BU (Cd h.1) (Cd s) with
    |false=>rfl
    |true=>have:=(Gr (ks:=[some .i64,some .i64]) (Fg (by rfl)) (Fg (by rfl))).1 hq;simp only[Cd,Cj,Value.int.injEq,GH,IC] at this;exact absurd (Eu this.1 this.2) he]
   refine Aj ?_;exact BZ (k+1) ⟨Af,λx hx=>by
    rw[BP,e1,AB] at hx;rcases hx with hx|hx
    ·exact HI x hx
    ·simp at hx;rw[hx];exact he⟩ Af ⟨rfl,rfl,rfl,rfl,rfl,rfl,trivial⟩ ζ
 ·obtain rfl:k=hs.length:=by omega
  have hf:N2 hs s=(Cu,false):=by unfold N2;rw[Bp.2 λx hx=>by simpa using HI x (by rw[CK];exact hx)]
  rw[hf];refine Aj ?_;exact AU (vs:=[Vs Cu,.bool false]) [] _ rfl .refl (B0 rfl (.head _) (As.LSub.of_all (n:=8) (Cb Cu) rfl) Ba) σ ⟨rfl,rfl⟩
theorem LSub.front: ∀(A B:Ap),LSub (A++B) 0 A.length A
 |[],B=> .done
 |a::A,B=> .take (LSub.front A B)
theorem Ve(vo vc vt vh:Value)(N:As.ASt)(vr vq:Value):LSub (LI vo vc vt vh N vr vq) 4 80 (Vz N):=by refine .drop (.drop (.drop (.drop ?_)));have:=LSub.front (Vz N) [vr,vq];rwa [Fh] at this
abbrev poC(o:Int)(d:Bool)(r0 r1 r2 r3 s0 s1 s2 s3:Int):Ap:=[iV o,.bool d,iV r0,iV r1,iV r2,iV r3,iV s0,iV s1,iV s2,iV s3]
theorem vv(vo vc vt vh vr vq:Value)(N:As.ASt)(hs:List NW)(id:Int)(cp:CapT)(l:Ac)(hv:RowSl l vc 10 Ny hs)(hn:hs.length<=1000000)(h1:N2 hs (id,1)=(cp,true))(h2:cp.kind=5)(h3:N.root 0=0)(h4:N.root 1=cp.obj)(h5:¬cp.obj=0):
 Fn prog 49 [.agg (τ (LI vo vc vt vh N vr vq)),ι id] l λv l'=>v= .tuple #[iV (N.ser 1),.bool true]/\l'=l:=by
 have u1:(τ (LI vo vc vt vh N vr vq))[1]?=some vc:=rfl;have u4:=Ve vo vc vt vh N vr vq;have u86:(LI vo vc vt vh N vr vq).length=86:=by simp[Fh]
 have hp:((Vz N).drop (0*10)).take 10=poC (N.obj 0) (N.dead 0) (N.root 0) (N.root 1) (N.root 2) (N.root 3) (N.ser 0) (N.ser 1) (N.ser 2) (N.ser 3):=rfl;obtain⟨c,hc⟩:=ξ (LI vo vc vt vh N vr vq)
 rw[hc] at u1 u4 u86⊢;have hj:=λl2 hl=>vu c vc hs (id,1) l2 u1 (hv.mono hl) hn;rw[h1] at hj;dsimp only at hj;refine AO func49 ntmps49 λE=>?_;refine Aj ?_;refine AP (Cw rfl) ?_;rintro _ _ ⟨b2,_,rfl,rfl⟩;refine Aj ?_;refine Be (E1 rfl (.head _) (As.LSub.of_all (n:=86) c u86)) ?_;refine Aj ?_;refine Be (AI (vs:=[.agg (τ c),Fy (id,1)]) rfl rfl λl2 hl=>hj l2 λx hx=>hl x (.tail _ hx)) ?_;refine AR λb6=>?_;refine Be (E1 rfl ν u4) ?_;refine Aj ?_;refine Io 0 ?_;refine Aj ?_;refine Be (cW (i:=0) rfl rfl A0 hp) ?_;rw[h3,h4];refine AR λb9=>?_;refine Io 1 ?_;refine Aj ?_;refine wn (v:=iV 0) (by refine XY (m:=0) rfl rfl rfl A0 rfl) rfl rfl rfl ?_;refine Aj ?_;refine Fk ?_;refine Aj ?_;refine wn (v:=iV cp.obj) (by refine XY (m:=1) rfl rfl rfl A0 rfl) rfl rfl rfl ?_;refine Aj ?_;refine Be (DQ (v:=iV (N.ser 1)) rfl (.head _) rfl) ?_;refine Aj ?_;exact CY (vs:=[iV (N.ser 1),.bool true]) _ .refl σ ⟨rfl,rfl⟩
set_option maxRecDepth 100000
abbrev AdI:N0:=⟨0,0,0,0,0,0,0⟩
abbrev Yf:ME:=⟨1,0,1,AdI,0,0,0,0,0⟩
abbrev aw:ME:=⟨2,0,0,⟨1,3,3,0,1,8,1⟩,0,0,0,0,0⟩
abbrev dY:ME:=⟨3,0,0,AdI,8,0,0,0,0⟩
def awS:KT:=H0 22 1 2 false
abbrev qy:NoT:=⟨1,6,0,msZ,0,false,4,8,false⟩
theorem vw:qq awS [Yf,aw,dY]=[(0,[]),(0,[Kt 1]),(0,[qy])]:=by decide+kernel
theorem Aax:Rn 22 2 false=[1,8]:=by decide+kernel
def awT:KT:=LS awS [Yf,aw,dY]
abbrev kE(B:Nat)(cs:Ap):Bh:=(B,.cells (τ cs) 69 (0,0))
instance:EQ prog 67 [some .i64,some .u64,none]:=⟨Bu⟩
abbrev awC(sp:Ap):Ap:=iV 1::iV 6::Bb 0::Bb 0::Bb 0::Bb 0::Bb 0::Bb 0:: .bool false::iV 4::Bb 8:: .bool false::sp
def AdJ:Bool:=decide ((N2 (CI awT.H.1) (1,1)).2=true)&&decide ((N2 (CI awT.H.1) (1,1)).1.kind=5)&&decide (awT.N.root 0=0)&&decide (awT.N.root 1=(N2 (CI awT.H.1) (1,1)).1.obj)&&!decide ((N2 (CI awT.H.1) (1,1)).1.obj=0)&&decide (awT.N.ser 1=1)&&decide ((CI awT.H.1).length<=1000)
theorem AdK:AdJ=true:=by decide+kernel
theorem AdL:aI Yf/\aI aw/\aI dY:=⟨⟨⟨by decide,by decide,by decide,by decide,by decide,by decide,by decide⟩,by decide,by decide⟩,⟨⟨by decide,by decide,by decide,by decide,by decide,by decide,by decide⟩,by decide,by decide⟩,⟨⟨by decide,by decide,by decide,by decide,by decide,by decide,by decide⟩,by decide,by decide⟩⟩
theorem Le(l:Ac):Fn prog 16 [] l λv l'=>v= .bool true/\ ∃X,l'=X++l:=by
 obtain⟨he1,he2,he3⟩:=AdL;refine AO func16 ntmps16 λE=>?_;refine Aj ?_;refine AP (Az (vs:=[cfA 22 1 2 false]) rfl rfl (ap 22 1 2 false l)) ?_;rintro _ _ (⟨Oo,rfl,rfl⟩|⟨Oo,wb,lw,rfl,hW,rfl⟩)
 ·exact absurd Oo A0
 have lJ:Rn (22:Int).toNat (2:Int).toNat false=[1,8]:=Aax;rw[lJ] at hW;refine Aj ?_;try simp only[AN,AL,AX]
 have hW:IsWo 22 1 (832+gV Yf) awS [1,8] [] wb lw:=hW;have Yj:=vw;simp only[qq,Cj,Prod.mk.injEq,IC] at Yj;obtain⟨⟨it,P1⟩,⟨Yp,hp4⟩,hp5,hp6⟩:=Yj;refine IE (Az (vs:=[pV wb]) rfl rfl (av hW A0 l)) rfl rfl rfl ?_;rintro v1 _ ⟨ct,hoT,rfl⟩;have Js:=hoT.one;refine IE (bF (z0:= ι 0) (cs:=[ι 1,ι 8]) rfl A0 A0 rfl) rfl rfl rfl ?_;rintro _ _ ⟨bl,_,rfl,rfl⟩;refine MU (AI rfl rfl λl2 hl=>Ns v1 _ [1,8] [1,8] l2 (hoT.intsQ λc hc=>hl c (.tail _ (Ai _ hc))) ((OwnSl.lit (e:=3) (n:=2) A0 rfl A0).intsQ λc hc=>hl c (by rw[Ay.1 hc];exact .head _)) A0) rfl rfl rfl ?_;rw[Aq rfl];refine Aj ?_;refine Bt (l':=lw++l) (.drop (Keep.dropL' ct .refl)) ?_;refine AP (Az (vs:=[pV wb,NR Yf]) rfl rfl (Tt Yf he1 hW A0 l (B9 (au _ _) A0))) ?_;rintro _ _ ⟨sl1,c1,lw1,rfl,Gc,Qp,rfl⟩;have Qp:IsWo 22 1 (824+gV aw) (FZ awS Yf).2 [1,8] _ wb lw1:=Qp;refine Aj ?_;refine Bt (l':=lw1++l) (Keep.dropL' c1 .refl) ?_;refine Be (FR (zs:=[Bb 0,Bb 0,Bb 0,Bb 0,Bb 0,Bb 0]) (cs:=[Bb 3,Bb 3,Bb 0,Bb 1,Bb 8,Bb 1]) rfl rfl) ?_;refine Aj ?_;refine AP (Az (vs:=[pV wb,NR aw]) rfl rfl (Tt aw he2 Qp A0 l (B9 (au _ _) A0))) ?_;rintro _ _ ⟨sl2,c2,lw2,rfl,F0,aD,rfl⟩;have aD:IsWo 22 1 (822+gV dY) (FZ (FZ awS Yf).2 aw).2 [1,8] _ wb lw2:=aD;rw[hp4] at F0;rw[Yp];obtain⟨q2,k2,rfl⟩:=F0.shape;refine AR λb3=>?_;refine Bt (l':=lw2++(Iw b3 0 (.slice q2 [Kt 1].length k2)::(c2++l))) (show Keep (Iw b3 0 (.slice q2 [Kt 1].length k2)::(c2++(lw2++l))) _ from γ []) ?_;refine AP (Az (vs:=[pV wb,NR dY]) rfl rfl (Tt dY he3 aD A0 _ (B9 (au _ _) A0))) ?_;rintro _ _ ⟨sl3,c3,lw3,rfl,ho3,hW3,rfl⟩;rw[hp6] at ho3;rw[hp5];obtain⟨g3,k3,sp3,rfl,rfl⟩:=NO ho3 A0;refine AR λb4=>?_;refine Bt (l':=lw3++(Iw b4 0 (.slice (some ⟨g3,0,none⟩) [qy].length k3)::([kE g3 (HY [qy]++sp3)]++(Iw b3 0 (.slice q2 [Kt 1].length k2)::(c2++l))))) (show Keep (Iw b4 0 (.slice (some ⟨g3,0,none⟩) [qy].length k3)::([kE g3 (HY [qy]++sp3)]++(lw3++(Iw b3 0 (.slice q2 [Kt 1].length k2)::(c2++l))))) _ from γ []) ?_;refine AP (Az (vs:=[pV wb]) rfl rfl (WY hW3 _)) ?_;rintro _ _ ⟨x,rfl,hx,rfl⟩;have hS:(FZ (FZ (FZ awS Yf).2 aw).2 dY).2=awT:=rfl;rw[hS] at hx;rw[hS];have Dh:=AdK;unfold AdJ at Dh;simp only[AM,A3,Ei,Fp] at Dh;obtain⟨⟨⟨⟨⟨⟨j1,j2⟩,j3⟩,j4⟩,j5⟩,j6⟩,j7⟩:=Dh;obtain⟨L,hL⟩:=ξ (x.all++(lw3++(Iw b4 0 (.slice (some ⟨g3,0,none⟩) [qy].length k3)::([kE g3 (HY [qy]++sp3)]++(Iw b3 0 (.slice q2 [Kt 1].length k2)::(c2++l))))))
 have m3:Iw b3 0 (.slice q2 [Kt 1].length k2)∈L:=by rw[<-hL];simp
 have m4:Iw b4 0 (.slice (some ⟨g3,0,none⟩) [qy].length k3)∈L:=by rw[<-hL];simp
 have mc: ∀c,c∈x.cc->c∈L:=λc hc=>by rw[<-hL];exact Ai _ (by unfold VwL.all;simp[hc])
 have m2: ∀c,c∈c2->c∈L:=λc hc=>by rw[<-hL];simp[hc]
 have mn3:kE g3 (HY [qy]++sp3)∈L:=by rw[<-hL];simp
 rw[hL];refine Aj ?_;refine Be (AI (vs:=[.agg (τ (LI x.vo x.vc x.vt x.vh awT.N x.vr x.vq)),ι 1]) rfl rfl λl2 hl=>vv x.vo x.vc x.vt x.vh x.vr x.vq awT.N (CI awT.H.1) 1 (N2 (CI awT.H.1) (1,1)).1 l2 (OwnSl.hds hx.c λc hc=>hl c (mc c hc)) Af (Eu rfl j1) j2 j3 j4 j5) ?_;rw[j6];refine Aj ?_;refine AP (FB (ws:=R4 (Kt 1)) (k:=12) rfl rfl rfl A0 A0) ?_;rintro _ _ ⟨bn,_,rfl,rfl⟩;refine wn (v:= .bool (decide ([Kt 1]=[Kt 1]))) (by refine AI (vs:=[.slice q2 [Kt 1].length k2,.slice (some ⟨bn,0,none⟩) 1 1]) rfl rfl λl2 hl=>PZ R4 ib xk _ _ [Kt 1] [Kt 1] l2 (OwnSl.rowSl F0 (λ_=>rfl) λc hc=>hl c (.tail _ (m2 c hc))) (OwnSl.rowSl (e:=69) (xs:=[Kt 1]) (cs:=[Vv bn (Kt 1)]) ⟨rfl,.inr ⟨bn,1,[],rfl,rfl,Bf _,by unfold maxLen;omega,rfl⟩⟩ (λ_=>rfl) (λc hc=>hl c (by rw[Ay.1 hc];exact .head _))) A0) rfl rfl rfl ?_;rw[Aq rfl];refine Aj ?_;rw[show([qy]:List NoT).length=1 from rfl];refine Aj ?_;have mn4:kE g3 (awC sp3)∈L:=mn3;refine MU (v:= .agg (τ [iV 4,Bb 8,.bool false])) (E1 (cs:=awC sp3) rfl (.tail _ mn4) (by exact .drop (.drop (.drop (.drop (.drop (.drop (.drop (.drop (.drop (.take (.take (.take .done))))))))))))) rfl rfl rfl ?_;refine Aj ?_;refine MU (Y1 (ks:=[some .i64,some .u64,none]) (xs:=[iV 4,Bb 8,.bool false]) rfl rfl (Fg (by rfl))) rfl rfl rfl ?_;refine Aj ?_;refine MU (AI (vs:=[ι 2,ι 4]) rfl rfl λl2 _=>Ar.frames_any 2 4 l2) rfl rfl rfl ?_;rw[show Ar.framesD 2 4=4 by decide];refine Aj ?_;refine Bc (l':=(Vv bn (Kt 1)::(x.all++(lw3++(Iw b4 0 (.slice (some ⟨g3,0,none⟩) 1 k3)::([kE g3 (HY [qy]++sp3)]++(Iw b3 0 (.slice q2 [Kt 1].length k2)::c2))))))++l) (by rw[<-hL];simp only[Am,Ae,Ag];exact .refl) ⟨rfl,_,rfl⟩
set_option maxRecDepth 20000
theorem kF(a:Option Addr)(n cap:Nat)(m:Int)(l:Ac):Fn prog 15 [.slice a n cap,ι m] l λv l'=>v= .bool (decide (m<(n:Int)))/\l'=l:=by refine AO func15 ntmps15 λE=>?_;exact Fd
abbrev kG(B:Nat)(F C T:Int)(sh:Bool):Bh:=(B,.cells (τ [ι F,ι C,ι T,.bool sh]) 23 (0,0))
namespace Tr
instance:EQ prog 129 [some .i64,some .i64,some .i64]:=⟨Bu⟩
theorem sameNodes_any{α:Type}[DecidableEq α](enc:α->Ap)(MK: ∀x y,enc x=enc y->x=y)(hk: ∀x,AllK [some .i64,some .i64,some .i64] (enc x))(v u:Value)(xs ys:List α)(l:Ac)(h1:RowSl l v 3 enc xs)(h2:RowSl l u 3 enc ys)(hx:xs.length<=1000000):
 Fn prog 64 [v,u] l λr l'=>r= .bool (decide (xs=ys))/\l'=l:=by
 obtain⟨a,ca,rfl,h1⟩:=h1;obtain⟨a',ca',rfl,h2⟩:=h2;refine AO func64 ntmps64 λE=>?_;exact Zu
end Tr
abbrev Aay:List (Option IntKind):=[some .i64,some .i64,some .i64,some .i64,some .i64,some .i64,some .i64,some .i64,some .i64]
theorem AdM(o:Ar.ObT):AllK Aay (Ar.obC o):=Fg (by rfl)
instance:EQ prog 100 Aay:=⟨Bu⟩
theorem SM[DecidableEq α](enc:α->Ap)(MK: ∀x y,enc x=enc y->x=y)(hk: ∀x,AllK Aay (enc x))(v u:Value)(xs ys:List α)(l:Ac)(h1:RowSl l v 9 enc xs)(h2:RowSl l u 9 enc ys)(hx:xs.length<=1000000):
 Fn prog 62 [v,u] l λr l'=>r= .bool (decide (xs=ys))/\l'=l:=by
 obtain⟨a,ca,rfl,h1⟩:=h1;obtain⟨a',ca',rfl,h2⟩:=h2;refine AO func62 ntmps62 λE=>?_;exact Zu
theorem SN[DecidableEq α](enc:α->Ap)(MK: ∀x y,enc x=enc y->x=y)(hk: ∀x,AllK Th.thK (enc x))(v u:Value)(xs ys:List α)(l:Ac)(h1:RowSl l v 24 enc xs)(h2:RowSl l u 24 enc ys)(hx:xs.length<=1000000):
 Fn prog 65 [v,u] l λr l'=>r= .bool (decide (xs=ys))/\l'=l:=by
 obtain⟨a,ca,rfl,h1⟩:=h1;obtain⟨a',ca',rfl,h2⟩:=h2;refine AO func65 ntmps65 λE=>?_;exact Zu
theorem vy(x y:Ar.ObT)(h:Ar.obC x=Ar.obC y):x=y:=by cases x;cases y;simp only[Ar.obC,Cj,Value.int.injEq,GH,IC] at h;simp only[Ar.ObT.mk.injEq];exact h
theorem Aaz(x y:Tr.SlotT×Int)(h:Tr.nV x=Tr.nV y):x=y:=by simp only[Tr.nV,Cj,Value.int.injEq,GH,IC] at h;exact Eu (Eu h.1 h.2.1) h.2.2
theorem AgH(x:Tr.SlotT×Int):AllK [some .i64,some .i64,some .i64] (Tr.nV x):=⟨_,_,rfl,⟨_,rfl⟩,_,_,rfl,⟨_,rfl⟩,_,_,rfl,⟨_,rfl⟩,rfl⟩
theorem OwnSl.intsC{U:A8}{l:Ac}(h:OwnSl 3 1 v C (U.map CU) cs)(hl:U.length=C)(hs: ∀c,c∈cs->c∈l):T1 l v U:=OwnSl.intsQ (e:=3) (cs:=cs) (by rw[hl];exact h) hs
theorem IsVwK.l(h:IsVwK C S x):S.U.length=C:=by have:=h.r.1;simpa using this
theorem xm(vo vc vt vh:Value)(N:As.ASt)(vr vq:Value):(τ (LI vo vc vt vh N vr vq))[84]?=some vr/\(τ (LI vo vc vt vh N vr vq))[85]?=some vq:=by have h1:=Lp (LGet.mid (vo::vc::vt::vh::Vz N) [vq] vr (k:=84) (by simp[Fh]));have h2:=Lp (LGet.mid (vo::vc::vt::vh::(Vz N++[vr])) [] vq (k:=85) (by simp[Fh]));exact⟨by simpa[LI] using h1,by simpa[LI] using h2⟩
def xn:List (Option IntKind):=(replicate 8 [some .i64,none,some .i64,some .i64,some .i64,some .i64,some .i64,some .i64,some .i64,some .i64]).flatten
instance:EQ prog 50 xn:=⟨Bu⟩
theorem AdN(N:As.ASt):AllK xn (Vz N):=Fg (by rfl)
theorem Yg(x y:VwL)(hx:IsVwK C S x)(hy:IsVwK C S y)(z6:S.U.length<=900000)(z1:S.A.os.length<=900000)(z2:(CI S.H.1).length<=900000)(z3:S.H.2.length<=900000)(z4:S.T.length<=900000)(z5:(vn S.Q).length<=900000)(l:Ac)
 (v8: ∀c,(c∈x.co\/c∈x.cc\/c∈x.ct\/c∈x.ch\/c∈x.cr\/c∈x.cq)->c∈l)(we: ∀c,(c∈y.co\/c∈y.cc\/c∈y.ct\/c∈y.ch\/c∈y.cr\/c∈y.cq)->c∈l):
 Fn prog 43 [.agg (τ (LI x.vo x.vc x.vt x.vh S.N x.vr x.vq)),.agg (τ (LI y.vo y.vc y.vt y.vh S.N y.vr y.vq))] l λv l'=>v= .bool true/\l'=l:=by
 letI:DecidableEq NW:=λ_ _=>Classical.propDecidable _
 letI:DecidableEq Th.ThT:=λ_ _=>Classical.propDecidable _
 have xo:=hx.o.one;have xc:=hx.c.one;have xt:=hx.t.one;have xh:=hx.h.one;have xr:=hx.r.one;have xq:=hx.q.one;have yo:=hy.o.one;have yc:=hy.c.one;have yt:=hy.t.one;have yh:=hy.h.one;have yr:=hy.r.one;have yq:=hy.q.one;have gx:=xm x.vo x.vc x.vt x.vh S.N x.vr x.vq;have gy:=xm y.vo y.vc y.vt y.vh S.N y.vr y.vq;obtain⟨U,hU⟩: ∃U,U=LI x.vo x.vc x.vt x.vh S.N x.vr x.vq:=⟨_,rfl⟩
 obtain⟨W,hW⟩: ∃W,W=LI y.vo y.vc y.vt y.vh S.N y.vr y.vq:=⟨_,rfl⟩
 have u0:(τ U)[0]?=some x.vo:=by rw[hU];rfl
 have u1:(τ U)[1]?=some x.vc:=by rw[hU];rfl
 have u2:(τ U)[2]?=some x.vt:=by rw[hU];rfl
 have u3:(τ U)[3]?=some x.vh:=by rw[hU];rfl
 have u5:(τ U)[84]?=some x.vr:=by rw[hU];exact gx.1
 have u6:(τ U)[85]?=some x.vq:=by rw[hU];exact gx.2
 have w0:(τ W)[0]?=some y.vo:=by rw[hW];rfl
 have w1:(τ W)[1]?=some y.vc:=by rw[hW];rfl
 have w2:(τ W)[2]?=some y.vt:=by rw[hW];rfl
 have w3:(τ W)[3]?=some y.vh:=by rw[hW];rfl
 have w5:(τ W)[84]?=some y.vr:=by rw[hW];exact gy.1
 have w6:(τ W)[85]?=some y.vq:=by rw[hW];exact gy.2
 have u4:LSub U 4 80 (Vz S.N):=by rw[hU];exact Ve ..
 have w4:LSub W 4 80 (Vz S.N):=by rw[hW];exact Ve ..
 rw[<-hU,<-hW];clear hU hW gx gy;have hp:=AdN S.N;refine AO func43 ntmps43 λE=>?_;refine Aj ?_;refine AP (Cw rfl) ?_;rintro _ _ ⟨b2,_,rfl,rfl⟩;refine AP (Cw rfl) ?_;rintro _ _ ⟨b3,_,rfl,rfl⟩;have SA: ∀(l2:Ac),(∀c,c∈(b3,Obj.cells (τ W) 52 (0,0))::(b2,Obj.cells (τ U) 52 (0,0))::l->c∈l2)-> ∀c,c∈l->c∈l2:=λl2 hl c hc=>hl c (.tail _ (.tail _ hc));refine Aj ?_;refine Be (AI rfl rfl (λl2 hl=>SM Ar.obC vy AdM x.vo y.vo S.A.os S.A.os l2 (OwnSl.rowSl hx.o (λ_=>rfl) λc hc=>SA l2 hl c (v8 c (.inl hc))) (OwnSl.rowSl hy.o (λ_=>rfl) λc hc=>SA l2 hl c (we c (.inl hc))) Af)) ?_;rw[Aq rfl];refine Aj ?_;refine MU (AI rfl rfl (λl2 hl=>Xz Ny nz yR x.vc y.vc (CI S.H.1) (CI S.H.1) l2 (OwnSl.rowSl hx.c (λ_=>rfl) λc hc=>SA l2 hl c (v8 c (.inr (.inl hc)))) (OwnSl.rowSl hy.c (λ_=>rfl) λc hc=>SA l2 hl c (we c (.inr (.inl hc)))) Af)) rfl rfl rfl ?_;rw[Aq rfl];refine Aj ?_;refine MU (AI rfl rfl (λl2 hl=>Tr.sameNodes_any Tr.nV Aaz AgH x.vt y.vt S.H.2 S.H.2 l2 (OwnSl.rowSl hx.t (λ_=>rfl) λc hc=>SA l2 hl c (v8 c (.inr (.inr (.inl hc))))) (OwnSl.rowSl hy.t (λ_=>rfl) λc hc=>SA l2 hl c (we c (.inr (.inr (.inl hc))))) Af)) rfl rfl rfl ?_;rw[Aq rfl];refine Aj ?_;refine MU (AI rfl rfl (λl2 hl=>SN Th.encH Th.encH_inj Th.encH_k x.vh y.vh S.T S.T l2 (OwnSl.rowSl hx.h (λ_=>rfl) λc hc=>SA l2 hl c (v8 c (.inr (.inr (.inr (.inl hc)))))) (OwnSl.rowSl hy.h (λ_=>rfl) λc hc=>SA l2 hl c (we c (.inr (.inr (.inr (.inl hc)))))) Af)) rfl rfl rfl ?_;rw[Aq rfl];refine Aj ?_;refine MU (E1 rfl ν u4) rfl rfl rfl ?_;refine Aj ?_;refine MU (E1 rfl (.head _) w4) rfl rfl rfl ?_;refine MU (Y1 rfl rfl hp) rfl rfl rfl ?_;refine Aj ?_;refine MU (AI rfl rfl (λl2 hl=>Ns x.vr y.vr S.U S.U l2 (hx.r.intsC hx.l λc hc=>SA l2 hl c (v8 c (.inr (.inr (.inr (.inr (.inl hc))))))) (hy.r.intsC hy.l λc hc=>SA l2 hl c (we c (.inr (.inr (.inr (.inr (.inl hc))))))) Af)) rfl rfl rfl ?_;rw[Aq rfl];refine Aj ?_;refine MU (AI rfl rfl (λl2 hl=>Ns x.vq y.vq (vn S.Q) (vn S.Q) l2 (hx.q.intsQ λc hc=>SA l2 hl c (v8 c (.inr (.inr (.inr (.inr (.inr hc))))))) (hy.q.intsQ λc hc=>SA l2 hl c (we c (.inr (.inr (.inr (.inr (.inr hc))))))) Af)) rfl rfl rfl ?_;rw[Aq rfl];refine Aj ?_;exact Bc (l':=l) θ ⟨rfl,rfl⟩
theorem AgI(b:Nat)(p:RP)(s:RL)(S:KT)(X A G:Ac):Keep (X++AA b p s S (A++G)) (X++(A++(AA b p s S []++G))):=by unfold AA;exact γ []
section
variable{st:List (Int×List NoT)}{l:Ac}
theorem qz(hK:IsK F C k S p s)(f:Int)(A G:Ac):Fn prog 87 [pV p.m,ι f] (A++(AA b p s S []++G)) λv l'=> ∃sl X e,v= .tuple #[sl,iV e]/\IsWd S.W f sl X/\l'=X++(A++(AA b p s S []++G)):=
 Fn.re (.of_perm (Aaq ..)) (cU (b:=b) (G:=A++G) hK f) λv l' ⟨sl,X,e,h1,h2,h3⟩=>⟨_,by rw[h3];exact AgI ..,sl,X,e,h1,h2,rfl⟩
theorem IsWd.one{W:A8}{f:Int}{v:Value}{X:Ac}(h:IsWd W f v X):v.oneCell'=true:=by
 unfold IsWd at h
 split at h
 ·obtain⟨B,rfl,_⟩:=h;rfl
 ·rw[h.1];rfl
theorem dZ(hW:IsWo F C k S th st wb l)(f:Int)(G:Ac):Fn prog 60 [pV wb,ι f] (l++G) λv l'=> ∃X,IsWd S.W f v X/\l'=X++(l++G):=by
 obtain⟨b,kb,p,s,vt,vs,ct,cs,rows,cn,hK,ht,hs,LF,hsl,hl⟩:=hW.ex;obtain⟨A,hA⟩:=ξ ([dV wb kb vt vs,PY kb b]++ct++cs++cn)
 have mw:dV wb kb vt vs∈A:=by rw[<-hA];simp
 have mk:PY kb b∈A:=by rw[<-hA];simp
 rw[show l++G=A++(AA b p s S []++G) by rw[hl,AdH,hA]];have mw':dV wb kb vt vs∈A++(AA b p s S []++G):=Ai _ mw;have mk':PY kb b∈A++(AA b p s S []++G):=Ai _ mk;have mr':CH b p∈A++(AA b p s S []++G):=Aa _ (Ai _ (.head _));refine AO func60 ntmps60 λE=>?_;refine Aj ?_;refine Be (AI rfl rfl λl2 hl=>Vd kb b l2 (hl _ mk')) ?_;refine Be (AI rfl rfl λl2 hl=>UF b p l2 (hl _ mr')) ?_;refine Aj ?_;refine AP (Az (vs:=[pV p.m,ι f]) rfl rfl (qz hK f A G)) ?_;rintro _ _ ⟨sl,X,e,rfl,hd,rfl⟩;have Js:sl.oneCell'=true:=hd.one;refine Aj ?_;refine Bc .refl ?_;exact⟨X,hd,rfl⟩
theorem IsWo.w(hW:IsWo F C k S th st wb l):S.W.length=F*8/\F<=64:=by obtain⟨b,kb,p,s,vt,vs,ct,cs,rows,cn,hK,_⟩:=hW.ex;obtain⟨gb,_,h2,h3,_⟩:=hK.mem;exact⟨h3,h2⟩
theorem OwnSl.le{p:Option Addr}{xs:Ap}(h:OwnSl e k (.slice p n cap) n xs cs):n<=cap:=by
 rcases h.2 with⟨_,h2,_⟩|⟨b,cp,sp,h1,_,h2,_⟩
 ·omega
 ·cases h1;exact h2
theorem AgJ(c X l G:Ac):(c++(X++(l++G))).Perm (l++(c++(X++G))):=δ
theorem AgK(Y c X l G:Ac):(Y++(l++(c++(X++G)))).Perm (c++((Y++X)++(l++G))):=δ
theorem ea(hW:IsWo F C k S th st wb l)(G:Ac):Fn prog 37 [pV wb] (l++G) λv l'=> ∃c X,OwnSl 34 1 v S.W.length (S.W.map Bb) c/\l'=c++(X++(l++G)):=by
 obtain⟨hw,hF⟩:=hW.w;have hnF:nF S.W=F:=by unfold nF;omega
 refine AO func37 ntmps37 λE=>?_;refine Aj ?_;refine CF (α:=Nat×Value×Ac×Ac) (λx=>[(0,pV wb),(3,x.2.1),(4,ι x.1)]) (λx=>x.2.2.1++(x.2.2.2++(l++G))) (λx=>x.1<=64/\OwnSl 34 1 x.2.1 (S.W.take (8*x.1)).length ((S.W.take (8*x.1)).map Bb) x.2.2.1) (λx=>64-x.1) (0,.slice none 0 0,[],[]) ⟨Af,.nil _ _⟩ ⟨rfl,rfl,rfl,trivial⟩ .refl ?_;rintro⟨i,v,c,X⟩ ⟨hi,ho⟩;simp only at hi ho⊢;have Js:v.oneCell'=true:=ho.one;by_cases C7:i<64
 ·refine Aj ?_;refine Bt (.of_perm (AgJ ..)) ?_;refine AP (Az (vs:=[pV wb,ι i]) rfl rfl (dZ hW i _)) ?_;rintro sl _ ⟨Y,hd,rfl⟩;have Nc:sl.oneCell'=true:=hd.one;refine Bt (.of_perm (AgK ..)) ?_;have hl:(S.W.take (8*i)).length<=512:=by rw[C4];omega
  unfold IsWd at hd;by_cases hf:(i:Int)<F
  ·rw[Ad (by rw[hnF];omega)] at hd;obtain⟨B,rfl,rfl⟩:=hd;rw[AV];obtain⟨D,hD⟩:=ξ ((S.W.drop (8*i)).take 8)
   have hDl:D.length=8:=by rw[<-hD,C4,DR];omega
   have rM:S.W.take (8*(i+1))=S.W.take (8*i)++D:=by rw[<-hD,<-List.take_add];rfl
   rw[hD];refine AP (GN (e:=34) (k:=1) (n:=(S.W.take (8*i)).length) (m:=8) (news:=D.map Bb) (zs:=[Bb 0]) (cl:=τ (D.map Bb)) rfl rfl rfl ho (Aa _ (.head _)) (λj u hj=>by rw[BG,AF];exact hj) (by simp[hDl]) (λu hu=>by obtain⟨w,_,rfl⟩:=Ax.1 hu;rfl) (by unfold maxLen;omega) Af) ?_;rintro v' _ ⟨c',eg,rfl⟩;have Js:v'.oneCell'=true:=eg.one;refine Aj ?_;refine BZ (i+1,v',c',_) ⟨by simp only;omega,?_⟩ (by simp only;omega) ⟨rfl,rfl,rfl,trivial⟩ .refl;simp only;rw[rM,Ah,At,hDl];exact eg
  ·rw[Ab (by rw[hnF];omega)] at hd;obtain⟨rfl,rfl⟩:=hd;have rM:S.W.take (8*(i+1))=S.W.take (8*i):=by rw[BD Af,BD Af]
   obtain⟨p,cp,rfl⟩:=ho.shape;refine Be (YX rfl rfl ho.le) ?_;refine Aj ?_;refine BZ (i+1,_,c,_) ⟨by simp only;omega,?_⟩ (by simp only;omega) ⟨rfl,rfl,rfl,trivial⟩ .refl;simp only;rw[rM];exact ho
 ·obtain rfl:i=64:=by omega
  refine Aj ?_;refine Bc .refl ⟨c,X,?_,rfl⟩;rw[BD Af] at ho;exact ho
end
theorem qA(F C T:Int)(sh:Bool)(l:Ac):Fn prog 17 [cfA F C T sh] l λv l'=>
 (Oc F C T=false/\v= .pointer none/\l'=l)\/(Oc F C T=true/\ ∃wb lw,v=pV wb/\IsWo F.toNat C.toNat 840 (H0 F.toNat C.toNat T.toNat sh) (Rn F.toNat T.toNat sh) [] wb lw/\l'=lw++l):=by
 refine AO func17 ntmps17 λE=>?_;refine Aj ?_;refine AP (Cw rfl) ?_;rintro _ _ ⟨b1,_,rfl,rfl⟩;refine Aj ?_;refine AP (Az (vs:=[cfA F C T sh]) rfl rfl (ap F C T sh _)) ?_;rintro _ _ (⟨Oo,rfl,rfl⟩|⟨Oo,wb,lw,rfl,hW,rfl⟩)
 ·refine Aj ?_;exact Bc ζ (.inl ⟨Oo,rfl,rfl⟩)
 ·refine Aj ?_;exact Bc (l':=lw++l) (.trans (.of_perm AJ) ζ) (.inr ⟨Oo,wb,lw,rfl,hW,rfl⟩)
def AaA(l:Ac)(v:Value)(xs:A8):Prop:=
 ∃a cap,v= .slice a xs.length cap/\(0<xs.length-> ∃b off cs t fz,a=some ⟨b,off,none⟩/\(b,Obj.cells cs t fz)∈l/\ ∀i x,xs[i]?=some x->cs[off+i*1]?=some (Bb x))
theorem OwnSl.wds{xs:A8}{l:Ac}(h:OwnSl e 1 v xs.length (xs.map Bb) cs)(hs: ∀c,c∈cs->c∈l):AaA l v xs:=by
 rcases h.2 with⟨rfl,h0,rfl⟩|⟨b,cap,sp,rfl,rfl,_⟩
 ·exact⟨none,0,by rw[h0],λh=>by omega⟩
 ·refine⟨_,cap,rfl,λh0=>⟨b,0,_,e,(0,0),rfl,hs _ Al,λi x hx=>?_⟩⟩;have C7:=(Aw.1 hx).1;rw[BG,Dw,AF,AH (by simpa using C7),A7,hx];rfl
theorem VS(v u:Value)(xs:A8)(l:Ac)(h1:AaA l v xs)(h2:AaA l u xs)(hx:xs.length<=1000000):
 Fn prog 44 [v,u] l λr l'=>r= .bool true/\l'=l:=by
 obtain⟨a,ca,rfl,h1⟩:=h1;obtain⟨a',ca',rfl,h2⟩:=h2;refine AO func44 ntmps44 λE=>?_;refine Aj ?_;refine CF (α:=Nat) (λk=>[(0,.slice a xs.length ca),(1,.slice a' xs.length ca'),(5,ι k)]) (λk=>l) (λk=>k<=xs.length) (λk=>xs.length-k) 0 (Bm _) ⟨rfl,rfl,rfl,trivial⟩ .refl ?_;rintro k hk;by_cases C7:k<xs.length
 ·obtain⟨b,off,cs,t,fz,rfl,hm,hc⟩:=h1 Af;obtain⟨b',off',cs',t',fz',rfl,W9,hc'⟩:=h2 Af;obtain⟨x,e1⟩: ∃x,xs[k]?=some x:=⟨_,Ak C7⟩
  have g1:=hc k x e1;have g2:=hc' k x e1;refine Aj ?_;refine Ct [] 9 _ ?_ (hR:=(λ_ h=>h));refine BJ ?_;refine Aj ?_;exact BZ (k+1) Af Af ⟨rfl,rfl,rfl,trivial⟩ .refl
 ·obtain rfl:k=xs.length:=by omega
  exact Fd
theorem IsWo.mono{m:Nat}{st:List (Int×List NoT)}{l:Ac}(h:IsWo F C k S th st wb l)(hm:m<=k):IsWo F C m S th st wb l:=by obtain⟨b,kb,p,s,vt,vs,ct,cs,rows,cn,hK,r⟩:=h.ex;exact⟨b,kb,p,s,vt,vs,ct,cs,rows,cn,hK.mono hm,r⟩
theorem IsWo.sizes{st:List (Int×List NoT)}{l:Ac}(h:IsWo F C k S th st wb l):S.A.os.length<=900000/\(CI S.H.1).length<=900000/\S.H.2.length<=900000/\S.T.length<=900000/\(vn S.Q).length<=900000/\S.U.length<=900000:=by
 obtain⟨b,kb,p,s,vt,vs,ct,cs,rows,cn,hK,_⟩:=h.ex;obtain⟨m,h1,h2,h3,h4⟩:=hK.small;have h5:=hK.ar.ok.len;have h6:=hK.ho.ulen h2 Af;have h7:=hK.tl;have h8:=hK.ul;have h9:=hK.c1;refine⟨Af,Af,Af,Af,?_,Af⟩;have VA:=Qu.allX_len S.Q 900 (Qu.fallT (Qu.neX S.Q) 0) λp hp=>by have:=hK.ql p ((Qu.fallT_mem _ _ _).1 hp).2.1;omega
 have kS:(Qu.fallT (Qu.neX S.Q) 0).length<=8:=by unfold Qu.fallT;exact B9 (Db _ _) (by simp)
 have iy:=Gl 900 kS;unfold vn;omega
theorem Vf{c:Bh}(h:c∈x.co\/c∈x.cc\/c∈x.ct\/c∈x.ch\/c∈x.cr\/c∈x.cq):c∈x.all:=by unfold VwL.all;rcases h with h|h|h|h|h|h<;>simp[h]
end Go.Proofs.YtlifcingifodfaaGreat
