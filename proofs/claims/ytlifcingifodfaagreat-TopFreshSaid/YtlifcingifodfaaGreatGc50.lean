/- Laws that the statement's proof leans on (joined out of several texts). -/
import Derived.Test.YtlifcingifodfaaGreatGc49
set_option maxHeartbeats 4000000
set_option linter.unusedVariables false
set_option linter.unusedSimpArgs false
namespace Go.Proofs.YtlifcingifodfaaGreat
open Tryz
open List(toArray replicate)
open Go.RowKit
set_option maxRecDepth 100000
variable{F C T k b:Nat}{p:RP}{s:RL}{S:KT}
def cm(F T:Nat)(sh:Bool):A4:=(V2 F T sh).map OwT.th
def IR(F C T:Nat)(sh:Bool):KT:=⟨(La F T sh).A,(La F T sh).H,(La F T sh).N,(La F T sh).T,(La F T sh).Q,(La F T sh).E,replicate (F*8) 0,replicate C Zw,replicate C 0⟩
def twB(t:Th.ThT):Bool:=decide (0<=t.va)&&decide (t.va<18446744073709551616)&&decide (0<=t.vl)&&decide (t.vl<18446744073709551616)&&Th.mayH t
def UB(F T:Nat)(sh:Bool):Bool:=
 let R:=La F T sh
 decide (R.T.length<=3)&&R.T.all twB&&R.E.all (λx=>x.2.1.isEmpty)&&R.A.os.all (λo=>decide (o.kd≠2)||(decide (1<=o.sz)&&decide (o.sz<=4)))&&decide ((cm F T sh).length=T)
theorem oq:((List.range 4).all λT=>(List.range 65).all λF=>T==0||decide (F<11*T)||(UB F T false&&UB F T true))=true:=by decide+kernel
theorem fe(sh:Bool)(DL:1<=T)(hT:T<=3)(hF:11*T<=F)(SO:F<=64):UB F T sh=true:=by
 have h:=A3.1 (A3.1 oq T (E6.2 Af)) F (E6.2 Af);simp only[Ep,AW,Jz,Bj] at h;rcases h with(h|h)|⟨h1,h2⟩
 ·omega
 ·omega
 ·cases sh
  ·exact h1
  ·exact h2
theorem cx(n:Nat):dm n=(replicate (n*8) (0:Int)).map Bc:=by
 rw[List.map_replicate];unfold dm
 first
  |rfl
  |(induction n with
    |zero=>rfl
    |succ n ih=>simp[BJ,F5,ih];rfl)
theorem ou{sh:Bool}(DL:1<=T)(hT:T<=3)(hF:11*T<=F)(SO:F<=64)(h:IsRl F C 60 (La F T sh) p s):IsK F C 840 (IR F C T sh) p s:=by
 have Dm:=fe sh DL hT hF SO;unfold UB at Dm;simp only[AW,Bj,A3,List.isEmpty_iff,Ep] at Dm;obtain⟨⟨⟨⟨h1,h2⟩,h3⟩,h4⟩,h5⟩:=Dm;obtain⟨m1,m2,gb,m3⟩:=h.mem;exact{
  mem:=⟨gb,m1,m2,by simp[IR],λw hw=>by rw[Ek hw];exact Mz,by rw[m3];unfold IR T3;dsimp only;rw[<-cx]⟩
  co:=h.co
  kl:=by simp[IR]
  ar:=h.ar
  an:=h.an
  rad:=λo ho hk=>by
   have:=h4 o ho;rcases this with h|⟨h,h'⟩
   ·exact absurd hk h
   ·exact⟨h,h'⟩
  ho:=h.ho
  inv:=⟨60,Af,h.inv⟩
  giv:=λn hn=>by have:=h.giv n hn;exact⟨this.1,by have:=this.2;show(La F T sh).N.given n+840<=900;omega⟩
  th:=h.th
  tl:=by show(La F T sh).T.length+840<=900;omega
  tw:=λt ht=>by have:=h2 t ht;unfold twB at this;simp only[AW,Bj] at this;obtain⟨⟨⟨⟨a1,a2⟩,a3⟩,a4⟩,a5⟩:=this;exact⟨⟨⟨a1,a2⟩,⟨a3,a4⟩⟩,a5⟩
  qu:=h.qu
  ql:=λn hn=>by have:=h.ql n hn;show((La F T sh).Q n).length+840<=900;omega
  en:=h.en
  el:=λx hx=>by rw[h3 x hx];decide
  eo:=λt x y hx hy htx=>by rw[h3 x hx] at htx;cases htx
  ul:=by simp[IR]
  cu:=by have:=h.cu;show OwnSl 3 1 p.v C ((replicate C (0:Int)).map CN) s.V;rw[List.map_replicate];exact this
  c1:=h.c1}
abbrev yY(F C T:Int)(sh:Bool):Value:= .agg (toArray [.int .i64 F,.int .i64 C,.int .i64 T,.bool sh])
def Aeg(F C T:Int)(sh:Bool)(l:Ad):Value->Ad->Prop:=λv l'=>
 (Nz F C T=false/\v= .tuple #[.pointer none,iV 3]/\l'=l)\/(Nz F C T=true/\ ∃wb lw,v= .tuple #[pV wb,iV 0]/\IsWo F.toNat C.toNat 840 (IR F.toNat C.toNat T.toNat sh) (cm F.toNat T.toNat sh) [] wb lw/\l'=lw++l)
theorem Aeh(b:Nat)(p:RP)(s:RL)(S:KT)(c w k:Bg)(cs X l:Ad):Keep (w::k::(cs++Aw b p s S (X++c::l))) ((w::k::(cs++([]++([]++Aw b p s S []))))++l):=by unfold Aw;exact A8 (c::X)
theorem Zn(F C T:Int)(sh:Bool)(l:Ad):Fn prog 47 [yY F C T sh] l (Aeg F C T sh l):=by
 refine AO func47 ntmps47 λE=>?_;refine Aj ?_;refine AR (C4 rfl) ?_;rintro _ _ ⟨b1,_,rfl,rfl⟩;refine Aj ?_;cases NR:Nz F C T with
 |false=>refine AR (AA rfl rfl (rJ F C T sh NR _)) ?_;rintro _ _ ⟨rfl,rfl⟩;refine Aj ?_;exact CM _ .refl (.drop .refl) (.inl ⟨NR,rfl,rfl⟩)
 |true=>
  obtain⟨DL,hT,hC1,hC,hF,SO⟩:1<=T/\T<=3/\1<=C/\C<=3/\11*T<=F/\F<=64:=by simp[Nz] at NR;omega
  obtain⟨T,rfl⟩: ∃n:Nat,T=n:=⟨T.toNat,Af⟩
  obtain⟨F,rfl⟩: ∃n:Nat,F=n:=⟨F.toNat,Af⟩
  obtain⟨C,rfl⟩: ∃n:Nat,C=n:=⟨C.toNat,Af⟩
  refine AR (AA rfl rfl (rL F C T sh Af Af Af Af Af Af _)) ?_;rintro _ _ ⟨B,b,v14,p,s,X,cs,rfl,hR,ho,rfl⟩;have hK:=ou Af Af Af Af hR;have Ju:v14.oneCell'=true:=ho.one;have Dm:=fe sh (F:=F) (T:=T) Af Af Af Af;have Ei:(cm F T sh).length=T:=by unfold UB at Dm;simp only[AW,Bj] at Dm;exact Dm.2
  obtain⟨p14,cap14,rfl⟩:=ho.shape;refine AQ λbw=>?_;refine CM (vs:=[pV bw,iV 0]) _ .refl (l':=(ck bw B (.slice p14 T cap14) Kk::Pt B b::(cs++([]++([]++Aw b p s (IR F C T sh) []))))++l) ?_ (.inr ⟨NR,bw,_,rfl,?_,rfl⟩)
  ·exact Aeh b p s (IR F C T sh) _ _ _ cs X l
  ·simp only[AY];exact⟨b,B,p,s,.slice p14 T cap14,Kk,cs,[],[],[],hK,by rw[Ei];exact ho,OwnSl.nil _ _,⟨rfl,rfl⟩,by decide,rfl⟩
theorem ff(S:KT)(t:Int)(x:Ck)(m:Oz)(gv:Int)(cl:Bool):(Jn S t x m gv cl).1.1.length<=2:=by
 unfold Jn sendH
 repeat' split
 all_goals simp
theorem sM(S:KT)(t:Int)(x:Ck)(gv:Int):(OF S t x gv).1.1.length<=2:=by
 unfold OF recvH
 repeat' split
 all_goals simp
 all_goals split<;>simp
theorem ov(S:KT)(t:Int)(m:Oz):(Lb S t m).1.1.length<=2:=by
 unfold Lb replyH
 repeat' split
 all_goals simp
 all_goals split<;>simp
theorem ow(S:KT)(t:Th.ThT)(x:Ux)(f:uw):(Nf S t x f).1.length<=3:=by
 unfold Nf
 split
 ·simp
 ·have:=ff (DV S (NE t x)) t.id (t.id,2) (bQ f) 4096 true;simp only[BC];omega
theorem cy(S:KT)(core:Int)(x:Ux):(R6 S core x).1.1.length<=3:=by
 unfold R6
 split
 ·simp
 ·unfold doR
  split
  ·exact ow ..
  ·simp
theorem xX(S:KT)(core:Int):(U5 S core).1.1.length<=3:=by
 unfold U5
 split
 ·simp
 ·split
  ·simp
  ·exact cy ..
theorem sN{t:Int}{o:IY}{x:Ck}{r:(List Ii×Int)×KT}(h:Nq S t o x=some r):r.1.1.length<=3:=by
 unfold Nq at h;by_cases h1:o.op=14\/o.op=15
 ·rw[Ac h1] at h;obtain rfl:=AX h;exact E9 (ff ..)
 rw[Ab h1] at h;by_cases h2:o.op=16
 ·rw[Ac h2] at h;obtain rfl:=AX h;exact E9 (sM ..)
 rw[Ab h2] at h;by_cases h3:o.op=17
 ·rw[Ac h3] at h;obtain rfl:=AX h;exact E9 (ov ..)
 rw[Ab h3] at h;cases h
theorem xY(S:KT)(t:Int)(o:IY)(x y:Ck):(ordE S t o x y).1.1.length<=3:=by
 unfold ordE;cases h:Nq S t o x with
 |some r=>exact sN h
 |none=>
  dsimp only;by_cases h1:(Kq S t o x y).1=0
  ·rw[Ac h1];exact(by decide:1<=3)
  ·rw[Ab h1];exact(by decide:0<=3)
theorem xZ(S:KT)(t:Int)(o:IY):(Ng S t o).1.1.length<=3:=by
 unfold Ng;by_cases h1:Ps S t=false\/¬(DW S t).st=1
 ·rw[Ac h1];exact(by decide:0<=3)
 rw[Ab h1];by_cases h2:(HX o.op).1=true/\¬(HV S t o.a).2=0
 ·rw[Ac h2];exact(by decide:0<=3)
 rw[Ab h2];by_cases h3:(HX o.op).2=true/\¬(HV S t o.b).2=0
 ·rw[Ac h3];exact(by decide:0<=3)
 rw[Ab h3];exact xY ..
theorem sO(S:KT)(t:Int)(c:OG):(UA S t c).1.1.length<=3:=by
 unfold UA;by_cases h1:(BV c).2=0
 ·rw[Ac h1];by_cases h2:(Ng S t (BV c).1).1.2=0
  ·rw[Ac h2];exact xZ ..
  ·rw[Ab h2];exact(by decide:1<=3)
 ·rw[Ab h1];exact(by decide:1<=3)
theorem sP(S:KT)(e:Pf):(OI S e).1.1.length<=3:=by
 unfold OI;by_cases h1:e.co<0\/(S.K.length:Int)<=e.co
 ·rw[Ac h1];exact(by decide:0<=3)
 rw[Ab h1];by_cases h2:Ps S (LZ S.U e.co)=false
 ·rw[Ac h2];exact(by decide:0<=3)
 rw[Ab h2];by_cases h3:(DW S (LZ S.U e.co)).hs=true
 ·rw[Ac h3];exact xX ..
 rw[Ab h3];by_cases h4:e.kd=3
 ·rw[Ac h4];exact cy ..
 rw[Ab h4];by_cases h5:e.kd=4
 ·rw[Ac h5];exact cy ..
 rw[Ab h5];exact sO ..
theorem fg(S:KT)(e:Pf):(Nh S e).1.1.length<=3:=by
 unfold Nh doA;dsimp only;by_cases h1:e.kd=1
 ·rw[Ac h1];exact(by decide:0<=3)
 rw[Ab h1];by_cases h2:e.kd=2\/e.kd=3\/e.kd=4
 ·rw[Ac h2];exact sP ..
 rw[Ab h2];by_cases h3:e.kd=5\/e.kd=6
 ·rw[Ac h3];exact(by decide:0<=3)
 rw[Ab h3];exact(by decide:0<=3)
def ox(S:KT):List Pf->List (Int×List Ii)
 |[]=>[]
 |e::r=>((Nh S e).1.2,(Nh S e).1.1)::ox (Nh S e).2 r
def Aei(S:KT)(es:List Pf):KT:=es.foldl (λS e=>(Nh S e).2) S
theorem x5(e:Pf):iX e<=8:=by unfold iX;split<;>omega
set_option maxRecDepth 20000
theorem oy: ∀{rows:List (Ap)},(∀r,r∈rows-> ∃x:Pf,r=bT x/\jw x)-> ∃xs:List Pf,rows=xs.map bT/\ ∀x,x∈xs->jw x
 |[],_=>⟨[],rfl,λx hx=>by cases hx⟩
 |r::rows,h=>by
  obtain⟨x,hx,hg⟩:=h r Ak;obtain⟨xs,QX,hgs⟩:=oy λr' UH=>h r' (An _ UH);exact⟨x::xs,by rw[hx,QX];rfl,λy hy=>by
   rcases At.1 hy with rfl|hy
   ·exact hg
   ·exact hgs y hy⟩
theorem Ni{a:Int}(h:(Lit.int .u64 a).wf=true):K6 a:=by simp[Lit.wf,IntKind.min,IntKind.max,IntKind.signed,IntKind.bits] at h;exact⟨Af,Af⟩
abbrev evK:List (Option IntKind):=[some .i64,some .i64,some .i64,some .u64,some .u64,some .u64,some .u64,some .u64,some .u64,some .u64,some .u64,some .u64,some .i64,some .i64,some .i64]
theorem oz{W:World}{a:Option Addr}{n cap:Nat}{rows:List (Ap)}(h:Wk evK W a n cap rows): ∃es:List Pf,es.length=n/\aw (P9 W) a n 15 (es.map bT)/\ ∀x,x∈es->jw x:=by
 obtain⟨es,hx,hg⟩:=oy (rows:=rows) λr hr=>by obtain⟨_,_,rfl,⟨k,rfl,_⟩,_,_,rfl,⟨co,rfl,_⟩,_,_,rfl,⟨th,rfl,_⟩,_,_,rfl,⟨op,rfl,w0⟩,_,_,rfl,⟨a0,rfl,w1⟩,_,_,rfl,⟨a1,rfl,w2⟩,_,_,rfl,⟨a2,rfl,w3⟩,_,_,rfl,⟨a3,rfl,w4⟩,_,_,rfl,⟨a4,rfl,w5⟩,_,_,rfl,⟨a5,rfl,w6⟩,_,_,rfl,⟨va,rfl,w7⟩,_,_,rfl,⟨vl,rfl,w8⟩,_,_,rfl,⟨st,rfl,_⟩,_,_,rfl,⟨wy,rfl,_⟩,_,_,rfl,⟨pg,rfl,_⟩,rfl⟩:=h.all r hr;exact⟨⟨k,co,th,⟨op,a0,a1,a2,a3,a4,a5⟩,va,vl,st,wy,pg⟩,rfl,⟨Ni w0,Ni w1,Ni w2,Ni w3,Ni w4,Ni w5,Ni w6⟩,Ni w7,Ni w8⟩
 refine⟨es,?_,?_,hg⟩
 ·have:=h.size;rw[hx] at this;simpa using this
 ·rw[<-hx];exact qM h AZ
theorem LSet.mid: ∀(A C:Ap) (x v:Value) {k:Nat},A.length=k->LSet (A++x::C) k v (A++v::C)
 |[],C,x,v,_,h=>by subst h;exact .zero
 |a::A,C,x,v,_,h=>by subst h;exact .succ (LSet.mid A C x v rfl)
theorem LGet.mid: ∀(A C:Ap) (v:Value) {k:Nat},A.length=k->LGet (A++v::C) k v
 |[],C,v,_,h=>by subst h;exact .zero
 |a::A,C,v,_,h=>by subst h;exact .succ (LGet.mid A C v rfl)
theorem LSetA.all: ∀(B vs C:Ap),B.length=vs.length->LSetA (B++C) 0 vs (vs++C)
 |[],[],C,_=> .done
 |b::B,v::vs,C,h=> .put (LSetA.all B vs C (by simpa using h))
 |[],v::vs,C,h=>by cases h
 |b::B,[],C,h=>by cases h
theorem LSetA.mid: ∀(A B vs C:Ap) {k:Nat},A.length=k->B.length=vs.length->LSetA (A++(B++C)) k vs (A++(vs++C))
 |[],B,vs,C,_,h,h2=>by subst h;exact LSetA.all B vs C h2
 |a::A,B,vs,C,_,h,h2=>by subst h;exact .skip (LSetA.mid A B vs C rfl h2)
def Zo(N:As.ASt):Ap:=(List.range 80).map N.at
theorem GO(N:As.ASt):(Zo N).length=80:=by simp[Zo]
theorem iY(N:As.ASt):N.cells.extract 0 80=toArray (Zo N):=by
 apply DH;intro j;rw[EM];unfold Zo;simp only[As.ASt.cells_size,AF,A5];by_cases h:j<80
 ·rw[Ac Af,BE,As.ASt.cells_get N j Af,Fh h];rfl
 ·rw[Ab Af,Bf (by simp;omega)];rfl
theorem QJ(N:As.ASt): ∀v,v∈Zo N->v.oneCell'=true:=by
 intro v hv;obtain⟨j,hj,rfl⟩:=Au.1 hv;unfold As.ASt.at
 repeat' split
 all_goals rfl
structure VwL where
 vo:Value
 vc:Value
 vt:Value
 vh:Value
 vr:Value
 vq:Value
 co:Ad
 cc:Ad
 ct:Ad
 ch:Ad
 cr:Ad
 cq:Ad
abbrev R7(vo vc vt vh:Value)(N:As.ASt)(vr vq:Value):Ap:=vo::vc::vt::vh::(Zo N++[vr,vq])
def yZ(X:Nat->A4):A4:=Qu.allX X (Qu.fallT (Qu.neX X) 0)
structure Zp(C:Nat)(S:KT)(x:VwL):Prop where
 o:OwnSl 100 9 x.vo S.A.os.length (Ar.ocs S.A.os) x.co
 c:OwnSl 131 10 x.vc (DY S.H.1).length (Og (DY S.H.1)) x.cc
 t:OwnSl 129 3 x.vt S.H.2.length (Tr.ncs S.H.2) x.ct
 h:OwnSl 79 24 x.vh S.T.length (Th.thcs S.T) x.ch
 r:OwnSl 3 1 x.vr C (S.U.map CN) x.cr
 q:OwnSl 3 1 x.vq (yZ S.Q).length ((yZ S.Q).map CN) x.cq
abbrev pA(B:Nat)(vo vc vt vh:Value)(N:As.ASt)(vr vq:Value):Bg:=(B,.cells (toArray (R7 vo vc vt vh N vr vq)) 52 (0,0))
def uE:Ap:=[.int .i64 0,.bool false,.int .i64 0,.int .i64 0,.int .i64 0,.int .i64 0,.int .i64 0,.int .i64 0,.int .i64 0,.int .i64 0]
def PO:Ap:=uE++(uE++(uE++(uE++(uE++(uE++(uE++uE))))))
abbrev De:Value:= .slice none 0 0
theorem oC{vo vc vt vh vq:Value}(N:As.ASt)(h1:vo.oneCell'=true)(h2:vc.oneCell'=true)(h3:vt.oneCell'=true)(h4:vh.oneCell'=true)(h5:vq.oneCell'=true):BuildS prog 52 (De::De::De::De::(PO++[De,De])) [(0,vo),(1,vc),(2,vt),(3,vh),(4,.agg (toArray (Zo N))),(6,vq)] (R7 vo vc vt vh N De vq):=by refine .one inferInstance inferInstance h1 .zero (.one inferInstance inferInstance h2 (.succ .zero) (.one inferInstance inferInstance h3 (.succ (.succ .zero)) (.one inferInstance inferInstance h4 (.succ (.succ (.succ .zero))) (.agg inferInstance inferInstance (GO N) (LSetA.mid [vo,vc,vt,vh] PO (Zo N) [De,De] rfl (GO N).symm) (.one inferInstance inferInstance h5 ?_ .nil)))));have:=LSet.mid (vo::vc::vt::vh::(Zo N++[De])) [] De vq (k:=85) (by simp[GO]);simpa[R7] using this
theorem kv1(m v rb z:Bg)(cr cq ch ct cc co L:Ad):Keep (m::v::(cr++rb::(cq++(ch++(ct++(cc++(co++z::L))))))) (z::v::m::(co++(cc++(ct++(ch++(cr++(cq++L))))))):=A8 [rb]
theorem kv2(m v z:Bg)(L:Ad):Keep (z::v::m::L) ([m]++(z::L)):=A8 [v]
theorem x6(hK:IsK F C k S p s)(G:Ad):Fn prog 55 [pV b] (Aw b p s S G) λv l'=>
 ∃x:VwL,v= .agg (toArray (R7 x.vo x.vc x.vt x.vh S.N x.vr x.vq))/\Zp C S x/\l'=x.co++(x.cc++(x.ct++(x.ch++(x.cr++(x.cq++Aw b p s S G))))):=by
 obtain⟨L,hL⟩: ∃L,L=Aw b p s S G:=⟨_,rfl⟩
 have yG:CD b p∈L:=by rw[hL];exact .head _
 have hmn:As.asA p.n S.N∈L:=by rw[hL];exact .tail _ (.head _)
 have hma: ∀c,c∈s.A->c∈L:=λc hc=>by rw[hL];unfold Aw;simp[hc]
 have hmh: ∀c,c∈s.H->c∈L:=λc hc=>by rw[hL];unfold Aw;simp[hc]
 have hmt: ∀c,c∈s.T->c∈L:=λc hc=>by rw[hL];unfold Aw;simp[hc]
 have hmq: ∀c,c∈s.Q->c∈L:=λc hc=>by rw[hL];unfold Aw;simp[hc]
 have vn: ∀c,c∈s.V->c∈L:=λc hc=>by rw[hL];unfold Aw;simp[hc]
 rw[<-hL];obtain⟨m9,hm9,hi9⟩:=hK.inv;obtain⟨R8,NM,_⟩:=hi9.small Af;have hT:S.T.length<=900000:=by have:=hK.tl;omega
 have ZL:=hK.ul;refine AO func55 ntmps55 λE=>?_;refine AQ λb2=>?_;have CE: ∀(c:Bg),c∈[CD b p]->c∈(b2,Obj.cells (toArray (De::De::De::De::(PO++[De,De]))) 52 (0,0))::L:=λc hc=>by rw[AE.1 hc];exact .tail _ yG
 refine Sf [(0,true),(1,true),(2,true),(3,true),(5,true),(6,true),(7,true),(8,true),(10,true),(11,true),(12,true),(13,true),(15,true),(16,true),(17,true),(18,true),(20,true),(21,true),(22,true),(23,true),(25,true),(26,true),(27,true),(28,true),(4,false),(9,false),(14,false),(19,false),(24,false),(29,false),(30,true),(31,false),(32,false)] [[],[0],[0,1],[0,1,2],[0,1,2,3],[],[5],[5,6],[5,6,7],[0,1,2,3,4,5,6,7,8],[],[10],[10,11],[10,11,12],[0,1,2,3,4,5,6,7,8,9,10,11,12,13],[],[15],[15,16],[15,16,17],[0,1,2,3,4,5,6,7,8,9,10,11,12,13,14,15,16,17,18],[],[20],[20,21],[20,21,22],[0,1,2,3,4,5,6,7,8,9,10,11,12,13,14,15,16,17,18,19,20,21,22,23],[],[25],[25,26],[25,26,27],[0,1,2,3,4,5,6,7,8,9,10,11,12,13,14,15,16,17,18,19,20,21,22,23,24,25,26,27,28],[0,1,2,3,4,5,6,7,8,9,10,11,12,13,14,15,16,17,18,19,20,21,22,23,24,25,26,27,28,29],[],[0,1,2,3,4,5,6,7,8,9,10,11,12,13,14,15,16,17,18,19,20,21,22,23,24,25,26,27,28,29,30,31]] (some [(4,31),(9,31),(14,31),(19,31),(24,31),(29,31)]) ([CD b p]) BB BB GZ (CE) ?_;refine BS ?_;refine ru [(4,_,λv cs=>OwnSl 100 9 v S.A.os.length (Ar.ocs S.A.os) cs),(9,_,λv cs=>OwnSl 131 10 v (DY S.H.1).length (Og (DY S.H.1)) cs),(14,_,λv cs=>OwnSl 129 3 v S.H.2.length (Tr.ncs S.H.2) cs),(19,_,λv cs=>OwnSl 79 24 v S.T.length (Th.thcs S.T) cs),(24,_,λv cs=>v= .agg (toArray (Zo S.N))/\cs=[]),(29,_,λv cs=>OwnSl 3 1 v (yZ S.Q).length ((yZ S.Q).map CN) cs)] [(30,_)] (31,_,λv cs=> ∃b,v= .pointer (some ⟨b,0,none⟩)/\cs=[(b,.cells (toArray (De::De::De::De::(PO++[De,De]))) 52 (0,0))]) 3 rfl rfl rfl CE (λ_ h=>by cases h) ⟨O2 rfl rfl (λl' hl=>Ar.all_any p.a S.A s.A hK.ar l' λc hc=>hl _ (.tail _ (hma c hc))) rfl rfl,O2 rfl rfl (λl' hl=>VM p.h S.H s.H hK.ho R8 l' λc hc=>hl _ (.tail _ (hmh c hc))) rfl rfl,O2 rfl rfl (λl' hl=>gI p.h S.H s.H hK.ho NM l' λc hc=>hl _ (.tail _ (hmh c hc))) rfl rfl,O2 rfl rfl (λl' hl=>Th.all_any p.t S.T s.T hK.th hT l' λc hc=>hl _ (.tail _ (hmt c hc))) rfl rfl,O2 rfl rfl (λl' hl=>(As.pools_any p.n S.N (Zo S.N) (iY S.N) (GO S.N) (QJ S.N) l' (hl _ (.tail _ hmn))).mono λv l2 h=>⟨[],⟨h.1,rfl⟩,h.2⟩) rfl rfl,O2 rfl rfl (λl' hl=>Qu.all_any p.q S.Q s.Q hK.qu (λj hj=>by have:=hK.ql j hj;omega) l' λc hc=>hl _ (.tail _ (hmq c hc))) rfl rfl,trivial⟩ (me rfl rfl) BB BB rfl rfl ?_;intro vo co ho vc cc hc vt ct ht vh ch hh vp cp hp vq cq hq;obtain⟨rfl,rfl⟩:=hp;refine⟨_,_,cZ rfl (oC S.N ho.one hc.one ht.one hh.one hq.one),rfl,rfl,rfl,?_⟩;rintro v3 c3 ⟨b3,rfl,rfl⟩;simp only[Il,AddK];simp only at ho hc ht hh hq;apply NZ
 ·refine El (cs:=toArray (De::De::De::De::(PO++[De,De]))) (T:=52) (l':=pA b3 vo vc vt vh S.N De vq::(cq++(ch++(ct++(cc++(co++(b2,Obj.cells (toArray (De::De::De::De::(PO++[De,De]))) 52 (0,0))::L)))))) rfl rfl ?_ ?_ ?_ ?_
  ·show(R7 vo vc vt vh S.N De vq).length=86;simp[GO]
  ·intro v hv;simp only[Dr,At,AH,BL,Ez] at hv;rcases hv with rfl|rfl|rfl|rfl|hv|rfl|rfl
   ·exact ho.one
   ·exact hc.one
   ·exact ht.one
   ·exact hh.one
   ·exact QJ _ v hv
   ·rfl
   ·exact hq.one
  ·rw[Dr,As.setFrom_all _ _ (by simp[GO];rfl)];exact .here
  ·show 0+86<=(De::De::De::De::(PO++[De,De])).length;decide
 ·rfl
 ·rfl
 ·rintro _ _ ⟨_,rfl⟩ c hc;rw[AE.1 hc];simp[yG]
 rintro _ _ ⟨rfl,rfl⟩;refine BS ?_;refine Aj ?_;refine AR (AA rfl rfl (O6 b _)) ?_;rintro _ _ ⟨B,rfl,rfl⟩;refine Aj ?_;obtain⟨gL,hgl⟩: ∃gL,gL=cq++(ch++(ct++(cc++(co++(b2,Obj.cells (toArray (De::De::De::De::(PO++[De,De]))) 52 (0,0))::L)))):=⟨_,rfl⟩
 have hLg: ∀c,c∈L->c∈gL:=λc hc=>by rw[hgl];simp[hc]
 rw[<-hgl];have hC1:=hK.c1;obtain⟨bv,cap,sp,hv,hV,_⟩:=hK.cur;have hmB: ∀c,c∈[rB B b,CD b p]->c∈rB B b::gL:=λc hc=>by
  rcases At.1 hc with rfl|hc
  ·exact .head _
  ·rw[AE.1 hc];exact .tail _ (hLg _ yG)
 have pL:(bv,Obj.cells (toArray (S.U.map CN++sp)) 3 (0,0))∈L:=vn _ (by rw[hV];exact .head _);have h84: ∀(N:As.ASt),(vo::vc::vt::vh::Zo N).length=84:=λN=>by simp[GO]
 refine Df (α:=Nat) (ps:=[42,43]) (lb:=[pV B]) rfl (Nc B b p bv C cap Af hv) (λ_=>rfl) rfl
  (λpre l=> ∃vr cr,OwnSl 3 1 vr pre.length ((S.U.take pre.length).map CN) cr/\l=pA b3 vo vc vt vh S.N vr vq::cr) (λc pre l=>False) [pA b3 vo vc vt vh S.N De vq] (rB B b::gL)
  (λpre l2 X2 hX h=>⟨Aa _ (hX _ (.head _)),Aa _ (hX _ (.tail _ (hLg _ yG)))⟩) (.of_perm (.swap _ _ _)) ⟨_,[],OwnSl.nil _ _,rfl⟩ ?_ ?_ ?_
 ·rintro E r0 FS pre x l' T ⟨fn,tmps,D,rfl⟩ hT ⟨vr,cr,ET,rfl⟩ DB;obtain⟨rfl,hx,_⟩:=eg DB rfl;have c0:=RB (U:=S.U) (sp:=sp) (i:=pre.length) Af;obtain⟨u,hu⟩: ∃u,S.U.getD pre.length 0=u:=⟨_,rfl⟩
  rw[hu] at c0;have Ju:vr.oneCell'=true:=ET.one;simp only[DU,Ae,Ag];refine Aj ?_;refine CH (.there (FH _ _ _ _ _)) ?_;generalize hX1:(r0,Obj.loop (DN fn tmps _ _ _ D .busy none))::T=X1;have zD:(bv,Obj.cells (toArray (S.U.map CN++sp)) 3 (0,0))∈X1:=by rw[<-hX1];exact .tail _ (hT _ (.tail _ (hLg _ pL)))
  refine Aj ?_;refine Cn [5,6,8] 9 ([]) ?_;refine BS ?_;apply Gi (S:=[pA b3 vo vc vt vh S.N vr vq])
  ·exact DP rfl (.head _) (NX (LGet.mid (vo::vc::vt::vh::Zo S.N) [vq] vr (h84 _)))
  ·exact C5 (.head _)
  ·rfl
  ·rfl
  ·rfl
  refine BS ?_;apply Gi (S:=[(bv,Obj.cells (toArray (S.U.map CN++sp)) 3 (0,0))])
  ·exact DP (v:=iV u) rfl (.head _) (by first|exact c0|(rw[Dq];exact c0))
  ·exact C5 (.tail _ (Aa _ zD))
  ·rfl
  ·rfl
  ·rfl
  refine BS ?_;apply Hb
  ·exact KU (v:=iV u) rfl rfl
  ·rfl
  ·rfl
  ·rfl
  ·intro _ _ _ c hc;cases hc
  ·rintro _ _ ⟨bl,_,rfl,rfl⟩ x hx _ c hc;simp only[At,BL,Ez] at hx;rcases hx with rfl|rfl<;>simp only[At,BL,Ez] at hc<;>subst hc
   ·exact .tail _ (.tail _ (Aa _ zD))
   ·exact .tail _ (.head _)
  rintro _ _ ⟨bl,_,rfl,rfl⟩;refine BS ?_;apply Hb
  ·apply Ht (k:=1) (X:=[pA b3 vo vc vt vh S.N vr vq]) (cs:=cr) (xs:=(S.U.take pre.length).map CN) (n:=pre.length) (zs:=[.int .i64 0]) (ws:=[iV u])
   ·rfl
   ·rfl
   ·rfl
   ·exact ET
   ·rfl
   ·simp[Value.oneCell']
   ·omega
   ·decide
  ·rfl
  ·rfl
  ·rfl
  ·intro _ _ _ c hc;cases hc
  ·exact λ_ _ _ x hx ha=>Dg BB hx ha
  rintro v' _ ⟨c2,FK,rfl⟩;have Ju:v'.oneCell'=true:=FK.one;simp only[Ae,Ag];refine BS ?_;apply Hs
  ·apply Gx (cs:=R7 vo vc vt vh S.N vr vq) (cs':=R7 vo vc vt vh S.N v' vq)
   ·rfl
   ·rfl
   ·exact Ju
   ·exact .head _
   ·exact LSet.mid (vo::vc::vt::vh::Zo S.N) [vq] vr v' (h84 _)
   ·exact .here
  ·rfl
  ·rfl
  ·intro _ _ _ c hc;cases hc
  ·exact λ_ _ _ x hx ha=>Dg BB hx ha
  rintro _ _ ⟨rfl,rfl⟩;refine BS ?_;refine Aj ?_;rw[<-hX1];refine Cg _ (.refl) ⟨v',c2,?_,rfl⟩;rw[Ah,Bs,Cf,Aq,Al Af];rw[List.getD,Al Af,Di] at hu;rw[hu];exact FK
 ·rintro D xs l' rfl ⟨vr,cr,ET,rfl⟩;rw[Fc,Bz Af] at ET;have Ju:vr.oneCell'=true:=ET.one;refine Aj ?_;have jS:(R7 vo vc vt vh S.N vr vq).length=86:=by simp[GO]
  refine Be (Jb rfl (.tail _ (.head _)) (As.LSub.of_all (n:=86) _ jS)) ?_;rw[hgl];refine Bq (kv1 ..) ?_;apply ME
  ·refine El (cs:=toArray (De::De::De::De::(PO++[De,De]))) (T:=52) (l':=pA b2 vo vc vt vh S.N vr vq::pA b3 vo vc vt vh S.N vr vq::Cm D::(co++(cc++(ct++(ch++(cr++(cq++L))))))) rfl rfl jS ?_ ?_ ?_
   ·intro v hv;simp only[Dr,At,AH,BL,Ez] at hv;rcases hv with rfl|rfl|rfl|rfl|hv|rfl|rfl
    ·exact ho.one
    ·exact hc.one
    ·exact ht.one
    ·exact hh.one
    ·exact QJ _ v hv
    ·exact Ju
    ·exact hq.one
   ·rw[Dr,As.setFrom_all _ _ (by simp[GO];rfl)];exact .here
   ·show 0+86<=(De::De::De::De::(PO++[De,De])).length;decide
  ·rfl
  ·rfl
  rintro _ _ ⟨rfl,rfl⟩;refine Aj ?_;exact AV [D] (pA b2 vo vc vt vh S.N vr vq::(co++(cc++(ct++(ch++(cr++(cq++L))))))) rfl (kv2 ..) (Cz rfl (.head _) (As.LSub.of_all (n:=86) _ jS) .nil) (.drop .refl) ⟨⟨vo,vc,vt,vh,vr,vq,co,cc,ct,ch,cr,cq⟩,rfl,⟨ho,hc,ht,hh,ET,hq⟩,rfl⟩
 ·rintro D c pre l' DB h;exact h.elim
def VwL.all(x:VwL):Ad:=x.co++(x.cc++(x.ct++(x.ch++(x.cr++x.cq))))
theorem UC(kb b:Nat)(l:Ad)(hm:Pt kb b∈l):Fn prog 54 [pV kb] l λv l'=>v=pV b/\l'=l:=by refine AO func54 ntmps54 λE=>?_;exact E4
theorem Aej(b:Nat)(p:RP)(s:RL)(S:KT)(x:VwL)(A G:Ad):Keep (x.co++(x.cc++(x.ct++(x.ch++(x.cr++(x.cq++Aw b p s S (A++G))))))) (x.all++(A++(Aw b p s S []++G))):=by unfold Aw VwL.all;exact A8 []
section
variable{th:A4}{st:List (Int×List Ii)}{wb:Nat}{l:Ad}
theorem fh(hK:IsK F C k S p s)(A G:Ad):Fn prog 55 [pV b] (A++(Aw b p s S []++G)) λv l'=> ∃x:VwL,v= .agg (toArray (R7 x.vo x.vc x.vt x.vh S.N x.vr x.vq))/\Zp C S x/\l'=x.all++(A++(Aw b p s S []++G)):=
 Fn.re (.of_perm (xW ..)) (x6 hK (A++G)) λv l' ⟨x,h1,h2,h3⟩=>⟨_,by rw[h3];exact Aej ..,x,h1,h2,rfl⟩
theorem Abp(w k:Bg)(ct cs cn A G:Ad):(w::k::(ct++(cs++(cn++A))))++G=[w,k]++ct++cs++cn++(A++G):=by simp
theorem Rm(hW:IsWo F C k S th st wb l)(G:Ad):Fn prog 21 [pV wb] (l++G) λv l'=> ∃x:VwL,v= .agg (toArray (R7 x.vo x.vc x.vt x.vh S.N x.vr x.vq))/\Zp C S x/\l'=x.all++(l++G):=by
 obtain⟨b,kb,p,s,vt,vs,ct,cs,rows,cn,hK,ht,hs,Mi,yh,hl⟩:=hW.ex;obtain⟨A,hA⟩: ∃A,[ck wb kb vt vs,Pt kb b]++ct++cs++cn=A:=⟨_,rfl⟩
 have mw:ck wb kb vt vs∈A:=by rw[<-hA];simp
 have mk:Pt kb b∈A:=by rw[<-hA];simp
 have hv:=λG=>fh hK (b:=b) A G;have el: ∀G,l++G=A++(Aw b p s S []++G):=λG=>by rw[hl,Abp,hA]
 rw[el];have mw':ck wb kb vt vs∈A++(Aw b p s S []++G):=Ai _ mw;have mk':Pt kb b∈A++(Aw b p s S []++G):=Ai _ mk;refine AO func21 ntmps21 λE=>?_;refine AQ λb2=>?_;refine Be (AL rfl rfl λl2 hl=>UC kb b l2 (hl _ (.tail _ mk'))) ?_;refine AR (AA rfl rfl (fh (b:=b) hK ((b2,Obj.cells (toArray (De::De::De::De::(PO++[De,De]))) 52 (0,0))::A) G)) ?_;rintro _ _ ⟨x,rfl,hx,rfl⟩;obtain⟨vo,vc,vt,vh,vr,vq,co,cc,ct',ch,cr,cq⟩:=x;obtain⟨ho,hc,ht',hh,hr,hq⟩:=hx;simp only at ho hc ht' hh hr hq;obtain⟨Y,hY⟩: ∃Y,VwL.all ⟨vo,vc,vt,vh,vr,vq,co,cc,ct',ch,cr,cq⟩=Y:=⟨_,rfl⟩
 rw[hY];refine Bq (l':=(b2,Obj.cells (toArray (De::De::De::De::(PO++[De,De]))) 52 (0,0))::(Y++(A++(Aw b p s S []++G)))) (.of_perm AI) ?_;have jS:(R7 vo vc vt vh S.N vr vq).length=86:=by simp[GO]
 refine Aj ?_;apply ME
 ·refine El (cs:=toArray (De::De::De::De::(PO++[De,De]))) (T:=52) (l':=pA b2 vo vc vt vh S.N vr vq::(Y++(A++(Aw b p s S []++G)))) rfl rfl jS ?_ ?_ ?_
  ·intro v hv;simp only[Dr,At,AH,BL,Ez] at hv;rcases hv with rfl|rfl|rfl|rfl|hv|rfl|rfl
   ·exact ho.one
   ·exact hc.one
   ·exact ht'.one
   ·exact hh.one
   ·exact QJ _ v hv
   ·exact hr.one
   ·exact hq.one
  ·rw[Dr,As.setFrom_all _ _ (by simp[GO];rfl)];exact .here
  ·show 0+86<=(De::De::De::De::(PO++[De,De])).length;decide
 ·rfl
 ·rfl
 rintro _ _ ⟨rfl,rfl⟩;refine Aj ?_;exact AV [] (pA b2 vo vc vt vh S.N vr vq::(Y++(A++(Aw b p s S []++G)))) rfl .refl (Cz rfl (.head _) (As.LSub.of_all (n:=86) _ jS) .nil) (.drop .refl) ⟨⟨vo,vc,vt,vh,vr,vq,co,cc,ct',ch,cr,cq⟩,rfl,⟨ho,hc,ht',hh,hr,hq⟩,by rw[hY]⟩
theorem oD(hW:IsWo F C k S th st wb l)(pP:th.length<=1000000)(G:Ad):Fn prog 19 [pV wb] (l++G) λv l'=> ∃c2,OwnSl 3 1 v th.length (th.map CN) c2/\l'=c2++(l++G):=by
 obtain⟨b,kb,p,s,vt,vs,ct,cs,rows,cn,hK,ht,hs,Mi,yh,hl⟩:=hW.ex;have mw:ck wb kb vt vs∈l++G:=by rw[hl];simp
 have hvt:=ht.one;have Og: ∀c,c∈ct->c∈l++G:=λc hc=>by rw[hl];simp[hc]
 refine AO func19 ntmps19 λE=>?_;refine Aj ?_;refine AR (AA (vs:=[vt]) rfl rfl (En.clone_any vt th ct _ ht Og pP)) ?_;rintro v' _ ⟨c2,FK,rfl⟩;have Ju:v'.oneCell'=true:=FK.one;refine Aj ?_;refine Bb .refl ?_;exact⟨c2,FK,rfl⟩
end
def Ns(hs:List RW)(s:Ck):CapT×Bool:=match hs.find? (λh=>decide (h.1=s)) with
 |some h=>(h.2,true)
 |none=>(CI,false)
abbrev UD(B:Nat)(c:Ap):Bg:=(B,.cells (toArray c) 52 (0,0))
abbrev hdB(B:Nat)(h:RW):Bg:=(B,.cells (toArray (RX h)) 131 (0,0))
theorem sQ(c:Ap)(vc:Value)(hs:List RW)(s:Ck)(l:Ad)(hc:(toArray c)[1]?=some vc)(hv:RowSl l vc 10 RX hs)(hn:hs.length<=1000000):Fn prog 67 [.agg (toArray c),F4 s] l λv l'=>v= .tuple #[WQ (Ns hs s).1,.bool (Ns hs s).2]/\l'=l:=by
 obtain⟨a,cap,rfl,hr⟩:=hv;refine AO func67 ntmps67 λE=>?_;refine Aj ?_;refine AR (C4 rfl) ?_;rintro _ _ ⟨b2,_,rfl,rfl⟩;refine AR (C4 rfl) ?_;rintro _ _ ⟨b3,_,rfl,rfl⟩;refine AQ λb4=>?_;refine CF (α:=Nat) (λk=>[(2,pV b2),(3,pV b3),(4,pV b4),(9,.slice a hs.length cap),(10,.int .i64 (hs.length:Nat)),(11,.int .i64 k)]) (λk=>Bv b4 CI::(b3,.cells (toArray (Ct s)) 61 (0,0))::UD b2 c::l) (λk=>k<=hs.length/\ ∀h,h∈hs.take k->¬h.1=s) (λk=>hs.length-k) 0 ⟨Bm _,by simp⟩ ⟨rfl,rfl,rfl,rfl,rfl,rfl,trivial⟩ .refl ?_;rintro k ⟨hk,I8⟩;by_cases Dc:k<hs.length
 ·obtain⟨h,e1⟩: ∃h,hs[k]?=some h:=⟨_,Al Dc⟩
  obtain⟨b,off,cs,t,fz,rfl,hm,Mk⟩:=hr Af;obtain⟨g1,g2⟩:=Mk k h e1;refine Aj ?_;refine Be (Dt rfl (.tail _ (.tail _ (.tail _ hm))) g1 g2) ?_;refine AQ λb7=>?_;refine Be (Gr (ks:=[some .i64,some .i64]) (xs:=Ct h.1) (ys:=Ct s) rfl rfl (JR (by rfl)) (JR (by rfl))) ?_;by_cases he:h.1=s
  ·rw[show BZ (Ct h.1) (Ct s)=true by rw[he];exact GK (ks:=[some .i64,some .i64]) (JR (by rfl))];have hf:Ns hs s=(h.2,true):=by
    have h3:hs.find? (λh=>decide (h.1=s))=some h:=by obtain⟨hl,hx⟩:=Ay.1 e1;refine JE.2 ⟨by simpa using he,k,hl,hx,λj hj=>?_⟩;have:=I8 hs[j] (List.mem_take_iff_getElem.2 ⟨j,Af,rfl⟩);simpa using this
    unfold Ns;rw[h3]
   rw[hf];refine Aj ?_;exact AV (vs:=[WQ h.2,.bool true]) [] _ rfl .refl (Cz rfl (.tail _ (.head _)) (As.LSub.of_all (n:=8) (B9 h.2) rfl) (by exact Ba)) (.drop (.drop (.drop (.drop .refl)))) ⟨rfl,rfl⟩
  ·rw[show BZ (Ct h.1) (Ct s)=false by
    cases hq:BZ (Ct h.1) (Ct s) with
    |false=>rfl
    |true=>have:=(GD (ks:=[some .i64,some .i64]) (JR (by rfl)) (JR (by rfl))).1 hq;simp only[Ct,CZ,Value.int.injEq,Md,NK] at this;exact absurd (JV this.1 this.2) he]
   refine Aj ?_;exact BR (k+1) ⟨Af,λx hx=>by
    rw[Cf,e1,AH] at hx;rcases hx with hx|hx
    ·exact I8 x hx
    ·simp at hx;rw[hx];exact he⟩ Af ⟨rfl,rfl,rfl,rfl,rfl,rfl,trivial⟩ (.drop .refl)
 ·obtain rfl:k=hs.length:=by omega
  have hf:Ns hs s=(CI,false):=by unfold Ns;rw[Br.2 λx hx=>by simpa using I8 x (by rw[D7];exact hx)]
  rw[hf];refine Aj ?_;exact AV (vs:=[WQ CI,.bool false]) [] _ rfl .refl (Cz rfl (.head _) (As.LSub.of_all (n:=8) (B9 CI) rfl) (by exact Ba)) (.drop (.drop (.drop .refl))) ⟨rfl,rfl⟩
theorem LSub.front: ∀(A B:Ap),LSub (A++B) 0 A.length A
 |[],B=> .done
 |a::A,B=> .take (LSub.front A B)
theorem oE(vo vc vt vh:Value)(N:As.ASt)(vr vq:Value):LSub (R7 vo vc vt vh N vr vq) 4 80 (Zo N):=by refine .drop (.drop (.drop (.drop ?_)));have:=LSub.front (Zo N) [vr,vq];rwa [GO] at this
abbrev poC(o:Int)(d:Bool)(r0 r1 r2 r3 s0 s1 s2 s3:Int):Ap:=[iV o,.bool d,iV r0,iV r1,iV r2,iV r3,iV s0,iV s1,iV s2,iV s3]
theorem sR(vo vc vt vh vr vq:Value)(N:As.ASt)(hs:List RW)(id:Int)(cp:CapT)(l:Ad)(hv:RowSl l vc 10 RX hs)(hn:hs.length<=1000000)(h1:Ns hs (id,1)=(cp,true))(h2:cp.kind=5)(h3:N.root 0=0)(h4:N.root 1=cp.obj)(h5:¬cp.obj=0):
 Fn prog 49 [.agg (toArray (R7 vo vc vt vh N vr vq)),.int .i64 id] l λv l'=>v= .tuple #[iV (N.ser 1),.bool true]/\l'=l:=by
 have u1:(toArray (R7 vo vc vt vh N vr vq))[1]?=some vc:=rfl;have u4:=oE vo vc vt vh N vr vq;have u86:(R7 vo vc vt vh N vr vq).length=86:=by simp[GO]
 have hp:((Zo N).drop (0*10)).take 10=poC (N.obj 0) (N.dead 0) (N.root 0) (N.root 1) (N.root 2) (N.root 3) (N.ser 0) (N.ser 1) (N.ser 2) (N.ser 3):=rfl;obtain⟨c,hc⟩: ∃c,R7 vo vc vt vh N vr vq=c:=⟨_,rfl⟩
 rw[hc] at u1 u4 u86⊢;have hj:=λl2 hl=>sQ c vc hs (id,1) l2 u1 (hv.mono hl) hn;rw[h1] at hj;dsimp only at hj;refine AO func49 ntmps49 λE=>?_;refine Aj ?_;refine AR (C4 rfl) ?_;rintro _ _ ⟨b2,_,rfl,rfl⟩;refine Aj ?_;refine Be (Jb rfl (.head _) (As.LSub.of_all (n:=86) c u86)) ?_;refine Aj ?_;refine Be (AL (vs:=[.agg (toArray c),F4 (id,1)]) rfl rfl λl2 hl=>hj l2 λx hx=>hl x (.tail _ hx)) ?_;refine AQ λb6=>?_;refine Be (Jb rfl (.tail _ (.head _)) u4) ?_;refine Aj ?_;refine H9 0 ?_;refine Aj ?_;refine Be (aV (i:=0) rfl rfl AZ hp) ?_;rw[h3,h4];refine AQ λb9=>?_;refine H9 1 ?_;refine Aj ?_;refine tJ (v:=iV 0) (by refine Xa (m:=0) rfl rfl rfl AZ rfl) rfl rfl rfl ?_;refine Aj ?_;refine E8 ?_;refine Aj ?_;refine tJ (v:=iV cp.obj) (by refine Xa (m:=1) rfl rfl rfl AZ rfl) rfl rfl rfl ?_;refine Aj ?_;refine Be (DP (v:=iV (N.ser 1)) rfl (.head _) rfl) ?_;refine Aj ?_;exact CM (vs:=[iV (N.ser 1),.bool true]) _ .refl (.drop (.drop (.drop .refl))) ⟨rfl,rfl⟩
end Go.Proofs.YtlifcingifodfaaGreat
