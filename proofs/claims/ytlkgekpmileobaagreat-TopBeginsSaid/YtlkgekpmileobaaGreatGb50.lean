/- Laws that the statement's proof leans on (joined out of several texts). -/
import Derived.Test.YtlkgekpmileobaaGreatGb8
import Derived.Test.YtlkgekpmileobaaGreatGb49
import Derived.Test.YtlkgekpmileobaaGreatGb10
import Derived.Test.YtlkgekpmileobaaGreatGb36
import Derived.Test.YtlkgekpmileobaaGreatGb9
import Derived.Test.YtlkgekpmileobaaGreatGb40
import Derived.Test.YtlkgekpmileobaaGreatGb45
set_option linter.unusedVariables false
set_option linter.unusedSimpArgs false
namespace Go.Proofs.YtlkgekpmileobaaGreat
open Tryz
open List(toArray replicate)
open Go.RowKit
set_option maxRecDepth 20000
variable{k F n C T cap:Nat}{a:Option Addr}{S:KT}{l:List Ab}{rows:List (List Value)}{p:RP}{s:RL}
theorem ur(c5 c4 c3 w k:Ab)(cN ct cs cn cS A G:List Ab)(bl:Ab):(bl::(cN++(c5::c4::c3::w::k::(ct++(cs++(cn++(cS++(A++G)))))))).Perm (bl::((cN++[c5,c4,c3,w,k])++(cs++(ct++(cn++(cS++(A++G))))))):=Cc
theorem ut(c5 c4 c3 w k:Ab)(cN ct cs cn cS A G:List Ab):((cN++[c5,c4,c3,w,k])++(cs++(ct++(cn++(cS++(A++G)))))).Perm (c5::c4::c3::w::k::(ct++(cs++((cn++cN)++(cS++(A++G)))))):=Cc
theorem uv(c5 c4 c3 w k:Ab)(ct cs cn cS A G:List Ab):Keep (c5::c4::c3::w::k::(ct++(cs++(cn++(cS++(A++G)))))) (cS++((w::k::(ct++(cs++(cn++A))))++G)):=AY [c5,c4,c3]
set_option maxHeartbeats 4000000 in
theorem QC{th:List Int}{st:List (Int×List Hs)}{wb:Nat}(e:LT)(he:cQ e)(hW:U9 F C (k+WS e) S th st wb l)(hn:st.length+1<=100000)(G:List Ab)(hx:(Mh S e).1.1.length<=1000000):
 Fn prog 19 [pV wb,OX e] (l++G) λv l'=> ∃sl cs lw,v= .agg (toArray (Li (Mh S e).1.2 sl))/\OwnSl 69 12 sl (Mh S e).1.1.length (GS (Mh S e).1.1) cs/\U9 F C k (Mh S e).2 th (st++[((Mh S e).1.2,(Mh S e).1.1)]) wb lw/\l'=cs++(lw++G):=by
 obtain⟨b,kb,p,s,vt,vs,ct,cs,rows,cn,hK,ht,hs,hst,_,rfl⟩:=hW.ex;have hvt:=ht.one;have hvs:=hs.one;obtain⟨⟨⟨ns,co⟩,S'⟩,hR⟩: ∃R,Mh S e=R:=⟨_,rfl⟩
 have hdo:=λX=>up (b:=b) hK kb he X (cR wb kb vt vs) ct cs cn G;rw[hR] at hdo hx⊢;dsimp only at hdo hx⊢;rw[show(cR wb kb vt vs::Oc kb b::(ct++(cs++(cn++Av b p s S []))))++G=cR wb kb vt vs::Oc kb b::(ct++(cs++(cn++(Av b p s S []++G)))) by simp];refine AO func19 ntmps19 λE=>?_;refine AQ λb3=>?_;refine AQ λb4=>?_;refine PR (α:=Value×List Ab×RL×Nat) (λz=>[(0,pV wb),(4,pV b4),(5,pV z.2.2.2)]) (λz=>Hi z.2.2.2 co z.1::Hi b4 0 Jl::NF b3 e::cR wb kb vt vs::Oc kb b::(ct++(cs++(cn++(z.2.1++(Av b p z.2.2.1 S' []++G)))))) (λz=>OwnSl 69 12 z.1 ns.length (GS ns) z.2.1/\IsK F C k S' p z.2.2.1) ?_ ?_
 ·refine Kk [(0,true),(1,true),(2,true),(3,true),(4,true),(5,false),(6,false),(7,false)] [[],[0],[0,1],[0,1,2],[],[0,1,2,3,4],[],[0,1,2,3,4,5,6]] 5 6 ([NF b3 e,cR wb kb vt vs]) Bv Bv Gh ((rS BO BO)) ?_;refine BI ?_;refine Mv [(6,false),(5,false),(7,false)] Gh (List.Perm.swap _ _ _) Bv ?_ ?_
  ·refine CE (Az (vs:=[pV kb,OX e]) rfl rfl (hdo [Hi b4 0 Jl,NF b3 e])) rfl rfl rfl ?_ ?_
   ·rintro _ _ ⟨sl,c2,s1,rfl,_,_,rfl⟩;exact rS (by simp) (by simp)
   rintro _ _ ⟨sl,c2,s1,rfl,ho1,hK1,rfl⟩;simp only[Ad,Ag];refine CE e_alloc rfl rfl rfl ?_ ?_
   ·rintro _ _ ⟨_,_,_,rfl⟩ c hc;exact .tail _ (rS BO BO c hc)
   rintro _ _ ⟨b5,_,rfl,rfl⟩;obtain⟨pp,cap,rfl⟩:=ho1.shape;refine BI ?_;refine Aj ?_;exact D8 (_,c2,s1,b5) ⟨ho1,hK1⟩ ⟨rfl,rfl,rfl,trivial⟩ .refl
  ·refine CE e_alloc rfl rfl rfl ?_ ?_
   ·rintro _ _ ⟨_,_,_,rfl⟩ c hc;exact .tail _ (rS BO BO c hc)
   rintro _ _ ⟨b5,_,rfl,rfl⟩;refine CE (Az (vs:=[pV kb,OX e]) rfl rfl (hdo [Hi b5 0 Jl,Hi b4 0 Jl,NF b3 e])) rfl rfl rfl ?_ ?_
   ·rintro _ _ ⟨sl,c2,s1,rfl,_,_,rfl⟩;exact rS (by simp) (by simp)
   rintro _ _ ⟨sl,c2,s1,rfl,ho1,hK1,rfl⟩;simp only[Ad,Ag];obtain⟨pp,cap,rfl⟩:=ho1.shape;refine BI ?_;refine Aj ?_;exact D8 (_,c2,s1,b5) ⟨ho1,hK1⟩ ⟨rfl,rfl,rfl,trivial⟩ .refl
 rintro⟨sl,c2,s1,b5⟩ ⟨ho1,hK1⟩;dsimp only;obtain⟨pp,cap,rfl⟩:=ho1.shape;refine Aj ?_;refine Ch (Cf [9,11,12,15] 0 16) ?_;refine Ci ?_;refine Hf (Az (vs:=[.slice pp ns.length cap]) rfl rfl (YF _ ns c2 _ ho1 (λc hc=>by simp[hc]) hx)) (by rintro _ _ ⟨c3,_,rfl⟩ c hc;exact Aa _ hc) ?_;rintro vN _ ⟨cN,hoN,rfl⟩;obtain⟨pN,capN,rfl⟩:=hoN.shape;refine Ci ?_;refine Hf (E3 (ws:=Li co (.slice pN ns.length capN)) (k:=2) (zs:=Li 0 Jl) rfl rfl rfl AW AW) (by rintro _ _ ⟨_,_,_,rfl⟩ c hc;exact .tail _ hc) ?_;rintro _ _ ⟨bl,_,rfl,rfl⟩;refine Ci ?_;refine Ju (OpE.re (.of_perm (ur _ _ _ _ _ cN ct cs cn c2 _ G _)) (GI (k:=2) (X:=cN++[_,_,_,_,_]) (cs:=cs) (xs:=rows) (ws:=Li co (.slice pN ns.length capN)) (zs:=Li 0 Jl) (n:=st.length) rfl rfl rfl hs rfl (by simp[Value.oneCell']) Af AW) (K':=λv' l'=> ∃c3,OwnSl 32 2 v' (st.length+1) (rows++Li co (.slice pN ns.length capN)) c3/\l'=Hi b5 co (.slice pp ns.length cap)::Hi b4 0 Jl::NF b3 e::cR wb kb vt vs::Oc kb b::(ct++(c3++((cn++cN)++(c2++(Av b p s1 S' []++G)))))) λv' l' ⟨c3,h1,h2⟩=>⟨_,by rw[h2];exact .of_perm (ut ..),c3,h1,rfl⟩) ?_;rintro v' _ ⟨c3,ho3,rfl⟩;obtain⟨p3,cap3,rfl⟩:=ho3.shape;refine Ci ?_;refine Aj ?_;exact AU (vs:=[.agg (toArray (Li co (.slice pp ns.length cap)))]) [] _ rfl .refl (Cq rfl (.tail _ (.head _)) (As.LSub.of_all (n:=2) (Li co (.slice pp ns.length cap)) rfl) .nil) (uv ..) ⟨_,c2,_,rfl,ho1,⟨b,kb,p,s1,vt,_,ct,c3,_,cn++cN,hK1,ht,by rw[Ah];exact ho3,hst.snoc hoN,by rw[Ah];exact hn,rfl⟩,rfl⟩
set_option maxRecDepth 100000
def cT(F T:Nat)(sh:Bool):List Int:=(TU F T sh).map OwT.th
def KD(F C T:Nat)(sh:Bool):KT:=⟨(KA F T sh).A,(KA F T sh).H,(KA F T sh).N,(KA F T sh).T,(KA F T sh).Q,(KA F T sh).E,replicate (F*8) 0,replicate C dc,replicate C 0⟩
def u7(t:Th.ThT):Bool:=decide (0<=t.va)&&decide (t.va<18446744073709551616)&&decide (0<=t.vl)&&decide (t.vl<18446744073709551616)&&Th.mayH t
def Sl(F T:Nat)(sh:Bool):Bool:=
 let R:=KA F T sh
 decide (R.T.length<=3)&&R.T.all u7&&R.E.all (λx=>x.2.1.isEmpty)&&R.A.os.all (λo=>decide (o.kd≠2)||(decide (1<=o.sz)&&decide (o.sz<=4)))&&decide ((cT F T sh).length=T)
theorem iy:((List.range 4).all λT=>(List.range 65).all λF=>T==0||decide (F<11*T)||(Sl F T false&&Sl F T true))=true:=by decide+kernel
theorem ae(sh:Bool)(hT1:1<=T)(hT:T<=3)(hF:11*T<=F)(hF2:F<=64):Sl F T sh=true:=by
 have h:=A6.1 (A6.1 iy T (FN.2 Af)) F (FN.2 Af);simp only[Fl,AX,JD,Br] at h;rcases h with(h|h)|⟨h1,h2⟩
 ·omega
 ·omega
 ·cases sh
  ·exact h1
  ·exact h2
theorem YG(n:Nat):Y9 n=(replicate (n*8) (0:Int)).map Ba:=by
 rw[List.map_replicate];unfold Y9
 first
  |rfl
  |(induction n with
    |zero=>rfl
    |succ n ih=>simp[BE,Fq,ih];rfl)
theorem iz{sh:Bool}(hT1:1<=T)(hT:T<=3)(hF:11*T<=F)(hF2:F<=64)(h:IsRl F C 60 (KA F T sh) p s):IsK F C 840 (KD F C T sh) p s:=by
 have hok:=ae sh hT1 hT hF hF2;unfold Sl at hok;simp only[AX,Br,A6,List.isEmpty_iff,Fl] at hok;obtain⟨⟨⟨⟨h1,h2⟩,h3⟩,h4⟩,h5⟩:=hok;obtain⟨m1,m2,gb,m3⟩:=h.mem;exact{
  mem:=⟨gb,m1,m2,by simp[KD],λw hw=>by rw[Fz hw];exact Lf,by rw[m3];unfold KD So;dsimp only;rw[<-YG]⟩
  co:=h.co
  kl:=by simp[KD]
  ar:=h.ar
  an:=h.an
  rad:=λo ho hk=>by
   have:=h4 o ho;rcases this with h|⟨h,h'⟩
   ·exact absurd hk h
   ·exact⟨h,h'⟩
  ho:=h.ho
  inv:=⟨60,Af,h.inv⟩
  giv:=λn hn=>by have:=h.giv n hn;exact⟨this.1,by have:=this.2;show(KA F T sh).N.given n+840<=900;omega⟩
  th:=h.th
  tl:=by show(KA F T sh).T.length+840<=900;omega
  tw:=λt ht=>by have:=h2 t ht;unfold u7 at this;simp only[AX,Br] at this;obtain⟨⟨⟨⟨a1,a2⟩,a3⟩,a4⟩,a5⟩:=this;exact⟨⟨⟨a1,a2⟩,⟨a3,a4⟩⟩,a5⟩
  qu:=h.qu
  ql:=λn hn=>by have:=h.ql n hn;show((KA F T sh).Q n).length+840<=900;omega
  en:=h.en
  el:=λx hx=>by rw[h3 x hx];decide
  eo:=λt x y hx hy htx=>by rw[h3 x hx] at htx;cases htx
  ul:=by simp[KD]
  cu:=by have:=h.cu;show OwnSl 3 1 p.v C ((replicate C (0:Int)).map CA) s.V;rw[List.map_replicate];exact this
  c1:=h.c1}
abbrev nt(F C T:Int)(sh:Bool):Value:= .agg (toArray [.int .i64 F,.int .i64 C,.int .i64 T,.bool sh])
def uw(F C T:Int)(sh:Bool)(l:List Ab):Value->List Ab->Prop:=λv l'=>
 (M3 F C T=false/\v= .tuple #[.pointer none,iV 3]/\l'=l)\/(M3 F C T=true/\ ∃wb lw,v= .tuple #[pV wb,iV 0]/\U9 F.toNat C.toNat 840 (KD F.toNat C.toNat T.toNat sh) (cT F.toNat T.toNat sh) [] wb lw/\l'=lw++l)
theorem ux(b:Nat)(p:RP)(s:RL)(S:KT)(c w k:Ab)(cs X l:List Ab):Keep (w::k::(cs++Av b p s S (X++c::l))) ((w::k::(cs++([]++([]++Av b p s S []))))++l):=by unfold Av;exact AY (c::X)
set_option maxHeartbeats 2000000 in
theorem WT(F C T:Int)(sh:Bool)(l:List Ab):Fn prog 48 [nt F C T sh] l (uw F C T sh l):=by
 refine AO func48 ntmps48 λE=>?_;refine Aj ?_;refine AS (CR rfl) ?_;rintro _ _ ⟨b1,_,rfl,rfl⟩;refine Aj ?_;cases hmay:M3 F C T with
 |false=>refine AS (Az rfl rfl (kE F C T sh hmay _)) ?_;rintro _ _ ⟨rfl,rfl⟩;refine Aj ?_;exact Cy _ .refl (.drop .refl) (.inl ⟨hmay,rfl,rfl⟩)
 |true=>
  obtain⟨hT1,hT,hC1,hC,hF,hF2⟩:1<=T/\T<=3/\1<=C/\C<=3/\11*T<=F/\F<=64:=by simp[M3] at hmay;omega
  obtain⟨T,rfl⟩: ∃n:Nat,T=n:=⟨T.toNat,Af⟩
  obtain⟨F,rfl⟩: ∃n:Nat,F=n:=⟨F.toNat,Af⟩
  obtain⟨C,rfl⟩: ∃n:Nat,C=n:=⟨C.toNat,Af⟩
  refine AS (Az rfl rfl (kG F C T sh Af Af Af Af Af Af _)) ?_;rintro _ _ ⟨B,b,v14,p,s,X,cs,rfl,hR,ho,rfl⟩;have hK:=iz Af Af Af Af hR;have hv1:v14.oneCell'=true:=ho.one;have hok:=ae sh (F:=F) (T:=T) Af Af Af Af;have hlen:(cT F T sh).length=T:=by unfold Sl at hok;simp only[AX,Br] at hok;exact hok.2
  obtain⟨p14,cap14,rfl⟩:=ho.shape;refine AQ λbw=>?_;refine Cy (vs:=[pV bw,iV 0]) _ .refl (l':=(cR bw B (.slice p14 T cap14) Jl::Oc B b::(cs++([]++([]++Av b p s (KD F C T sh) []))))++l) ?_ (.inr ⟨hmay,bw,_,rfl,?_,rfl⟩)
  ·exact ux b p s (KD F C T sh) _ _ _ cs X l
  ·simp only[A3];exact⟨b,B,p,s,.slice p14 T cap14,Jl,cs,[],[],[],hK,by rw[hlen];exact ho,OwnSl.nil _ _,⟨rfl,rfl⟩,by decide,rfl⟩
theorem af(S:KT)(t:Int)(x:CB)(m:Ob)(gv:Int)(cl:Bool):(Jr S t x m gv cl).1.1.length<=2:=by
 unfold Jr OU
 repeat' split
 all_goals simp
theorem lP(S:KT)(t:Int)(x:CB)(gv:Int):(OV S t x gv).1.1.length<=2:=by
 unfold OV PS
 repeat' split
 all_goals simp
 all_goals split<;>simp
theorem iA(S:KT)(t:Int)(m:Ob):(LS S t m).1.1.length<=2:=by
 unfold LS M6
 repeat' split
 all_goals simp
 all_goals split<;>simp
theorem iB(S:KT)(t:Th.ThT)(x:U0)(f:po):(N7 S t x f).1.length<=3:=by
 unfold N7
 split
 ·simp
 ·have:=af (DS S (OW t x)) t.id (t.id,2) (ia f) 4096 true;simp only[Bi];omega
theorem YH(S:KT)(core:Int)(x:U0):(SO S core x).1.1.length<=3:=by
 unfold SO
 split
 ·simp
 ·unfold sZ
  split
  ·exact iB ..
  ·simp
theorem pP(S:KT)(core:Int):(WK S core).1.1.length<=3:=by
 unfold WK
 split
 ·simp
 ·split
  ·simp
  ·exact YH ..
theorem lR{t:Int}{o:IO}{x:CB}{r:(List Hs×Int)×KT}(h:PU S t o x=some r):r.1.1.length<=3:=by
 unfold PU at h;by_cases h1:o.op=14\/o.op=15
 ·rw[Ae h1] at h;obtain rfl:=AV h;exact Ez (af ..)
 rw[Ac h1] at h;by_cases h2:o.op=16
 ·rw[Ae h2] at h;obtain rfl:=AV h;exact Ez (lP ..)
 rw[Ac h2] at h;by_cases h3:o.op=17
 ·rw[Ae h3] at h;obtain rfl:=AV h;exact Ez (iA ..)
 rw[Ac h3] at h;cases h
theorem pQ(S:KT)(t:Int)(o:IO)(x y:CB):(lN S t o x y).1.1.length<=3:=by
 unfold lN;cases h:PU S t o x with
 |some r=>exact lR h
 |none=>
  dsimp only;by_cases h1:(Ma S t o x y).1=0
  ·rw[Ae h1];exact(by decide:1<=3)
  ·rw[Ac h1];exact(by decide:0<=3)
theorem pR(S:KT)(t:Int)(o:IO):(O1 S t o).1.1.length<=3:=by
 unfold O1;by_cases h1:Oa S t=false\/¬(Er S t).st=1
 ·rw[Ae h1];exact(by decide:0<=3)
 rw[Ac h1];by_cases h2:(G7 o.op).1=true/\¬(G6 S t o.a).2=0
 ·rw[Ae h2];exact(by decide:0<=3)
 rw[Ac h2];by_cases h3:(G7 o.op).2=true/\¬(G6 S t o.b).2=0
 ·rw[Ae h3];exact(by decide:0<=3)
 rw[Ac h3];exact pQ ..
theorem lS(S:KT)(t:Int)(c:Nz):(ac S t c).1.1.length<=3:=by
 unfold ac;by_cases h1:(CF c).2=0
 ·rw[Ae h1];by_cases h2:(O1 S t (CF c).1).1.2=0
  ·rw[Ae h2];exact pR ..
  ·rw[Ac h2];exact(by decide:1<=3)
 ·rw[Ac h1];exact(by decide:1<=3)
theorem lU(S:KT)(e:LT):(PW S e).1.1.length<=3:=by
 unfold PW;by_cases h1:e.co<0\/(S.K.length:Int)<=e.co
 ·rw[Ae h1];exact(by decide:0<=3)
 rw[Ac h1];by_cases h2:Oa S (KM S.U e.co)=false
 ·rw[Ae h2];exact(by decide:0<=3)
 rw[Ac h2];by_cases h3:(Er S (KM S.U e.co)).hs=true
 ·rw[Ae h3];exact pP ..
 rw[Ac h3];by_cases h4:e.kd=3
 ·rw[Ae h4];exact YH ..
 rw[Ac h4];by_cases h5:e.kd=4
 ·rw[Ae h5];exact YH ..
 rw[Ac h5];exact lS ..
theorem WU(S:KT)(e:LT):(Mh S e).1.1.length<=3:=by
 unfold Mh pM;dsimp only;by_cases h1:e.kd=1
 ·rw[Ae h1];exact(by decide:0<=3)
 rw[Ac h1];by_cases h2:e.kd=2\/e.kd=3\/e.kd=4
 ·rw[Ae h2];exact lU ..
 rw[Ac h2];by_cases h3:e.kd=5\/e.kd=6
 ·rw[Ae h3];exact(by decide:0<=3)
 rw[Ac h3];exact(by decide:0<=3)
def Iq(S:KT):List LT->List (Int×List Hs)
 |[]=>[]
 |e::r=>((Mh S e).1.2,(Mh S e).1.1)::Iq (Mh S e).2 r
def WV(S:KT)(es:List LT):KT:=es.foldl (λS e=>(Mh S e).2) S
def O2(es:List LT):Nat:=(es.map WS).sum
theorem pS(e:LT):WS e<=8:=by unfold WS;split<;>omega
theorem WW: ∀(es:List LT),O2 es<=es.length*8
 |[]=>A5 _
 |e::r=>by have h1:=WW r;have h2:=pS e;unfold O2 at h1⊢;simp only[AJ,List.sum_cons,Bi];omega
theorem Pw(S:KT): ∀(es:List LT),(Iq S es).length=es.length:=by
 intro es
 induction es generalizing S with
 |nil=>rfl
 |cons e r ih=>unfold Iq;simp[ih]
theorem YI(es:List LT): ∀(S:KT) (i:Nat),Iq S (es.take i)=(Iq S es).take i:=by
 induction es with
 |nil=>intro S i;simp[Iq]
 |cons e r ih=>
  intro S i;cases i with
  |zero=>simp[Iq]
  |succ i=>simp only[List.take_succ_cons,Iq,ih]
theorem YJ(es:List LT)(e:LT): ∀(S:KT),Iq S (es++[e])=Iq S es++[((Mh (WV S es) e).1.2,(Mh (WV S es) e).1.1)]:=by
 induction es with
 |nil=>intro S;rfl
 |cons x r ih=>intro S;simp only[Ad,Iq,ih];rfl
theorem cU(es:List LT)(e:LT)(S:KT):WV S (es++[e])=(Mh (WV S es) e).2:=by unfold WV;rw[ED];rfl
theorem T9(es:List LT)(e:LT):O2 (es++[e])=O2 es+WS e:=by unfold O2;rw[Ap,List.sum_append];simp
set_option maxRecDepth 20000
theorem iC: ∀{rows:List (List Value)},(∀r,r∈rows-> ∃x:LT,r=WM x/\cQ x)-> ∃xs:List LT,rows=xs.map WM/\ ∀x,x∈xs->cQ x
 |[],_=>⟨[],rfl,λx hx=>by cases hx⟩
 |r::rows,h=>by
  obtain⟨x,hx,hg⟩:=h r Ak;obtain⟨xs,hxs,hgs⟩:=iC λr' hr'=>h r' (An _ hr');exact⟨x::xs,by rw[hx,hxs];rfl,λy hy=>by
   rcases Aq.1 hy with rfl|hy
   ·exact hg
   ·exact hgs y hy⟩
theorem LU{a:Int}(h:(Lit.int .u64 a).wf=true):JW a:=by simp[Lit.wf,IntKind.min,IntKind.max,IntKind.signed,IntKind.bits] at h;exact⟨Af,Af⟩
abbrev u9:List (Option IntKind):=[some .i64,some .i64,some .i64,some .u64,some .u64,some .u64,some .u64,some .u64,some .u64,some .u64,some .u64,some .u64,some .i64,some .i64,some .i64]
theorem iD{W:World}(h:Ua u9 W a n cap rows): ∃es:List LT,es.length=n/\MO (Ot W) a n 15 (es.map WM)/\ ∀x,x∈es->cQ x:=by
 obtain⟨es,hx,hg⟩:=iC (rows:=rows) λr hr=>by obtain⟨_,_,rfl,⟨k,rfl,_⟩,_,_,rfl,⟨co,rfl,_⟩,_,_,rfl,⟨th,rfl,_⟩,_,_,rfl,⟨op,rfl,w0⟩,_,_,rfl,⟨a0,rfl,w1⟩,_,_,rfl,⟨a1,rfl,w2⟩,_,_,rfl,⟨a2,rfl,w3⟩,_,_,rfl,⟨a3,rfl,w4⟩,_,_,rfl,⟨a4,rfl,w5⟩,_,_,rfl,⟨a5,rfl,w6⟩,_,_,rfl,⟨va,rfl,w7⟩,_,_,rfl,⟨vl,rfl,w8⟩,_,_,rfl,⟨st,rfl,_⟩,_,_,rfl,⟨wy,rfl,_⟩,_,_,rfl,⟨pg,rfl,_⟩,rfl⟩:=h.all r hr;exact⟨⟨k,co,th,⟨op,a0,a1,a2,a3,a4,a5⟩,va,vl,st,wy,pg⟩,rfl,⟨LU w0,LU w1,LU w2,LU w3,LU w4,LU w5,LU w6⟩,LU w7,LU w8⟩
 refine⟨es,?_,?_,hg⟩
 ·have:=h.size;rw[hx] at this;simpa using this
 ·rw[<-hx];exact jF h AW
def uy(F C T:Int)(sh:Bool)(es:List LT)(l:List Ab):Value->List Ab->Prop:=λv l'=>
 (M3 F C T=false/\v= .tuple #[.slice none 0 0,iV 3]/\l'=l)\/(M3 F C T=true/\ ∃vs rows cs cn,v= .tuple #[vs,iV 0]/\OwnSl 32 2 vs es.length rows cs/\StOwn (Iq (KD F.toNat C.toNat T.toNat sh) es) rows cn/\l'=cs++(cn++l))
theorem ag{i:Nat}(h:MO l a n k rows)(hi:i<=n):MO l a i k (rows.take i):=λh0=>by
 obtain⟨bB,off,cs,t,fz,h1,h2,h3⟩:=h Af;refine⟨bB,off,cs,t,fz,h1,h2,λj row hj=>h3 j row ?_⟩;rw[EY] at hj
 split at hj
 ·exact hj
 ·cases hj
theorem Va{l':List Ab}(h:MO l a n k rows)(hl: ∀c,c∈l->c∈l'):MO l' a n k rows:=λh0=>by obtain⟨bB,off,cs,t,fz,h1,h2,h3⟩:=h h0;exact⟨bB,off,cs,t,fz,h1,hl _ h2,h3⟩
theorem sv(c:Ab)(cs lw l:List Ab):Keep (cs++(lw++(c::l))) (lw++l):=AY (c::cs)
set_option maxHeartbeats 4000000 in
theorem Vb(F C T:Int)(sh:Bool)(es:List LT)(a:Option Addr)(n cap:Nat)(l:List Ab)(hin:MO l a n 15 (es.map WM))(hlen:es.length=n)(hn:n<=100)(he: ∀e,e∈es->cQ e):
 Fn prog 29 [nt F C T sh,.slice a n cap] l (uy F C T sh es l):=by
 refine AO func29 ntmps29 λE=>?_;refine Aj ?_;refine AS (CR rfl) ?_;rintro _ _ ⟨b2,_,rfl,rfl⟩;refine Aj ?_;refine AS (Az (vs:=[nt F C T sh]) rfl rfl (WT F C T sh _)) ?_;rintro _ _ (⟨hmay,rfl,rfl⟩|⟨hmay,wb,lw,rfl,hW,rfl⟩)
 ·refine Aj ?_;exact Cy _ .refl (.drop .refl) (.inl ⟨hmay,rfl,rfl⟩)
 obtain⟨S0,hS0⟩: ∃S,KD F.toNat C.toNat T.toNat sh=S:=⟨_,rfl⟩
 rw[hS0] at hW;refine Aj ?_;refine Cu (α:=Nat×List Ab) (λx=>[(6,pV wb),(18,.slice a n cap),(19,.int .i64 (n:Nat)),(20,.int .i64 x.1)]) (λx=>x.2++l) (λx=>x.1<=n/\U9 F.toNat C.toNat (840-O2 (es.take x.1)) (WV S0 (es.take x.1)) (cT F.toNat T.toNat sh) (Iq S0 (es.take x.1)) wb x.2) (λx=>n-x.1) (0,lw) ⟨Bf _,hW⟩ ⟨rfl,rfl,rfl,rfl,trivial⟩ ((Keep.of_perm AH).trans (.drop .refl)) ?_;rintro⟨i,lw⟩ ⟨hi,hW⟩;simp only at hi hW⊢;by_cases hlt:i<n
 ·obtain⟨e,hie⟩: ∃e,es[i]?=some e:=⟨_,Am Af⟩
  have hel:=he e (A9 hie);have htk:es.take (i+1)=es.take i++[e]:=by rw[B0,hie];rfl
  obtain⟨bB,off,cs,t,fz,rfl,hmr,hrow⟩:=hin Af;obtain⟨x1,x2,_⟩:=hrow i (WM e) (by rw[A0,hie];rfl);have hmr2:(bB,Obj.cells cs t fz)∈lw++l:=Aa _ hmr;have hc1:=WW (es.take (i+1));rw[htk,T9,Ah,BU] at hc1;simp only[Bl] at hc1;obtain⟨k',hk'⟩: ∃k',840-O2 (es.take i)=k'+WS e:=⟨840-O2 (es.take i)-WS e,Af⟩
  rw[hk'] at hW;have hpl:(Iq S0 (es.take i)).length+1<=100000:=by rw[Pw,BU];omega
  have hdo:=λG=>QC e hel hW hpl G (BW (WU _ _) AW);refine Aj ?_;refine Bc (Dm rfl hmr2 x1 x2) ?_;refine AQ λb9=>?_;refine Bk (l':=lw++(NF b9 e::l)) (.of_perm AH.symm) ?_;refine AS (Az (vs:=[pV wb,OX e]) rfl rfl (hdo _)) ?_;rintro _ _ ⟨sl,c2,lw2,rfl,ho2,hW2,rfl⟩;refine Aj ?_;refine BS (i+1,lw2) ⟨by simp only;omega,?_⟩ (by simp only;omega) ⟨rfl,rfl,rfl,rfl,trivial⟩ (sv ..);simp only;rw[htk,cU,YJ,T9];rw[show 840-(O2 (es.take i)+WS e)=k' by omega];exact hW2
 ·obtain rfl:i=n:=by omega
  rw[Bz Af] at hW;obtain⟨b,kb,p,s,vt,vs,ct,cs,rows,cn,hK,ht,hs,hst,_,rfl⟩:=hW.ex;have hvs:=hs.one;rw[Pw] at hs;simp only[Ad];refine Aj ?_;exact AU (vs:=[vs,iV 0]) [] _ rfl .refl (by exact A7) (l':=cs++(cn++l)) (by simp only[Al];exact AY (cR wb kb vt vs::Oc kb b::(ct++Av b p s (WV S0 es) []))) (.inr ⟨hmay,vs,rows,cs,cn,rfl,hs,by rw[hS0];exact hst,rfl⟩)
theorem cV(a:Addr):a.add 0=a:=by cases a;simp[Addr.add]
theorem YK{P:Program}{ro:Option Nat}{N:Nat}{fr:Fr}{R:List Ab}{d:Option Nat}{ty:TypeId}{pos:String}{aft:Array Edge}{g:Option (Nat×Bool)}{x:Operand}{e yb h0:Nat}{hi:Option Operand}(hx:ev fr x=some (.slice a n cap))[c:ST P T e k yb](hh:YY fr hi n h0)(h1:h0<=cap):
 OpQ P ro N fr R ⟨d,.slice T x none hi none,ty,pos,aft,g⟩ (.slice a h0 cap):=BL rfl λρ l hρ _=>by
 obtain⟨inf,u1,u2,u3,_⟩:=Ev c.out;simp only[execOp,hρ x _ hx];rw[AB];unfold Instr.sliceAt;rw[BX u1];show sl P (Instr.slice T _ _ _ _) l _;unfold Instr.slice;rw[BX u1];simp only[AB];rw[JM hρ (.none:YY fr none 0 0) hh (.none:YY fr none cap cap) (by intro h;cases h) (Bf _) h1 (A5 _)];simp only;rw[GG u2];simp only[Bj,u3];refine⟨?_,trivial⟩;cases a with
 |none=>simp
 |some a=>simp[cV]
theorem LSet.mid: ∀(A C:List Value) (x v:Value) {k:Nat},A.length=k->LSet (A++x::C) k v (A++v::C)
 |[],C,x,v,_,h=>by subst h;exact .zero
 |a::A,C,x,v,_,h=>by subst h;exact .succ (LSet.mid A C x v rfl)
theorem LGet.mid: ∀(A C:List Value) (v:Value) {k:Nat},A.length=k->LGet (A++v::C) k v
 |[],C,v,_,h=>by subst h;exact .zero
 |a::A,C,v,_,h=>by subst h;exact .succ (LGet.mid A C v rfl)
theorem LSetA.all: ∀(B vs C:List Value),B.length=vs.length->LSetA (B++C) 0 vs (vs++C)
 |[],[],C,_=> .done
 |b::B,v::vs,C,h=> .put (LSetA.all B vs C (by simpa using h))
 |[],v::vs,C,h=>by cases h
 |b::B,[],C,h=>by cases h
theorem LSetA.mid: ∀(A B vs C:List Value) {k:Nat},A.length=k->B.length=vs.length->LSetA (A++(B++C)) k vs (A++(vs++C))
 |[],B,vs,C,_,h,h2=>by subst h;exact LSetA.all B vs C h2
 |a::A,B,vs,C,_,h,h2=>by subst h;exact .skip (LSetA.mid A B vs C rfl h2)
def WX(N:As.ASt):List Value:=(List.range 80).map N.at
theorem G8(N:As.ASt):(WX N).length=80:=by simp[WX]
theorem cW(N:As.ASt):N.cells.extract 0 80=toArray (WX N):=by
 apply Dk;intro j;rw[EI];unfold WX;simp only[As.ASt.cells_size,AE,A0];by_cases h:j<80
 ·rw[Ae Af,Bw,As.ASt.cells_get N j Af,EE h];rfl
 ·rw[Ac Af,Bb (by simp;omega)];rfl
theorem QD(N:As.ASt): ∀v,v∈WX N->v.oneCell'=true:=by
 intro v hv;obtain⟨j,hj,rfl⟩:=Au.1 hv;unfold As.ASt.at
 repeat' split
 all_goals rfl
structure VwL where
 vo:Value
 vc:Value
 vt:Value
 vh:Value
 vr:Value
 vq:Value
 co:List Ab
 cc:List Ab
 ct:List Ab
 ch:List Ab
 cr:List Ab
 cq:List Ab
abbrev WY(vo vc vt vh:Value)(N:As.ASt)(vr vq:Value):List Value:=vo::vc::vt::vh::(WX N++[vr,vq])
def s7(X:Nat->List Int):List Int:=Qu.allX X (Qu.fallT (Qu.neX X) 0)
structure iE(C:Nat)(S:KT)(x:VwL):Prop where
 o:OwnSl 100 9 x.vo S.A.os.length (Ar.ocs S.A.os) x.co
 c:OwnSl 132 10 x.vc (DC S.H.1).length (MM (DC S.H.1)) x.cc
 t:OwnSl 130 3 x.vt S.H.2.length (Tr.ncs S.H.2) x.ct
 h:OwnSl 79 24 x.vh S.T.length (Th.thcs S.T) x.ch
 r:OwnSl 3 1 x.vr C (S.U.map CA) x.cr
 q:OwnSl 3 1 x.vq (s7 S.Q).length ((s7 S.Q).map CA) x.cq
abbrev iY(B:Nat)(vo vc vt vh:Value)(N:As.ASt)(vr vq:Value):Ab:=(B,.cells (toArray (WY vo vc vt vh N vr vq)) 52 (0,0))
def nu:List Value:=[.int .i64 0,.bool false,.int .i64 0,.int .i64 0,.int .i64 0,.int .i64 0,.int .i64 0,.int .i64 0,.int .i64 0,.int .i64 0]
def O3:List Value:=nu++(nu++(nu++(nu++(nu++(nu++(nu++nu))))))
abbrev C5:Value:= .slice none 0 0
theorem iF{vo vc vt vh vq:Value}(N:As.ASt)(h1:vo.oneCell'=true)(h2:vc.oneCell'=true)(h3:vt.oneCell'=true)(h4:vh.oneCell'=true)(h5:vq.oneCell'=true):BuildS prog 52 (C5::C5::C5::C5::(O3++[C5,C5])) [(0,vo),(1,vc),(2,vt),(3,vh),(4,.agg (toArray (WX N))),(6,vq)] (WY vo vc vt vh N C5 vq):=by refine .one inferInstance inferInstance h1 .zero (.one inferInstance inferInstance h2 (.succ .zero) (.one inferInstance inferInstance h3 (.succ (.succ .zero)) (.one inferInstance inferInstance h4 (.succ (.succ (.succ .zero))) (.agg inferInstance inferInstance (G8 N) (LSetA.mid [vo,vc,vt,vh] O3 (WX N) [C5,C5] rfl (G8 N).symm) (.one inferInstance inferInstance h5 ?_ .nil)))));have:=LSet.mid (vo::vc::vt::vh::(WX N++[C5])) [] C5 vq (k:=85) (by simp[G8]);simpa[WY] using this
theorem v7(m v rb z:Ab)(cr cq ch ct cc co L:List Ab):Keep (m::v::(cr++rb::(cq++(ch++(ct++(cc++(co++z::L))))))) (z::v::m::(co++(cc++(ct++(ch++(cr++(cq++L))))))):=AY [rb]
theorem v8(m v z:Ab)(L:List Ab):Keep (z::v::m::L) ([m]++(z::L)):=AY [v]
set_option maxHeartbeats 4000000 in
theorem pT{b:Nat}(hK:IsK F C k S p s)(G:List Ab):Fn prog 56 [pV b] (Av b p s S G) λv l'=>
 ∃x:VwL,v= .agg (toArray (WY x.vo x.vc x.vt x.vh S.N x.vr x.vq))/\iE C S x/\l'=x.co++(x.cc++(x.ct++(x.ch++(x.cr++(x.cq++Av b p s S G))))):=by
 obtain⟨L,hL⟩: ∃L,L=Av b p s S G:=⟨_,rfl⟩
 have hmr:Co b p∈L:=by rw[hL];exact .head _
 have hmn:As.asA p.n S.N∈L:=by rw[hL];exact .tail _ (.head _)
 have hma: ∀c,c∈s.A->c∈L:=λc hc=>by rw[hL];unfold Av;simp[hc]
 have hmh: ∀c,c∈s.H->c∈L:=λc hc=>by rw[hL];unfold Av;simp[hc]
 have hmt: ∀c,c∈s.T->c∈L:=λc hc=>by rw[hL];unfold Av;simp[hc]
 have hmq: ∀c,c∈s.Q->c∈L:=λc hc=>by rw[hL];unfold Av;simp[hc]
 have hmv: ∀c,c∈s.V->c∈L:=λc hc=>by rw[hL];unfold Av;simp[hc]
 rw[<-hL];obtain⟨m9,hm9,hi9⟩:=hK.inv;obtain⟨hs1,hs2,_⟩:=hi9.small Af;have hT:S.T.length<=900000:=by have:=hK.tl;omega
 have hul:=hK.ul;refine AO func56 ntmps56 λE=>?_;refine AQ λb2=>?_;have hsub: ∀(c:Ab),c∈[Co b p]->c∈(b2,Obj.cells (toArray (C5::C5::C5::C5::(O3++[C5,C5]))) 52 (0,0))::L:=λc hc=>by rw[AA.1 hc];exact .tail _ hmr
 refine Qc [(0,true),(1,true),(2,true),(3,true),(5,true),(6,true),(7,true),(8,true),(10,true),(11,true),(12,true),(13,true),(15,true),(16,true),(17,true),(18,true),(20,true),(21,true),(22,true),(23,true),(25,true),(26,true),(27,true),(28,true),(4,false),(9,false),(14,false),(19,false),(24,false),(29,false),(30,true),(31,false),(32,false)] [[],[0],[0,1],[0,1,2],[0,1,2,3],[],[5],[5,6],[5,6,7],[0,1,2,3,4,5,6,7,8],[],[10],[10,11],[10,11,12],[0,1,2,3,4,5,6,7,8,9,10,11,12,13],[],[15],[15,16],[15,16,17],[0,1,2,3,4,5,6,7,8,9,10,11,12,13,14,15,16,17,18],[],[20],[20,21],[20,21,22],[0,1,2,3,4,5,6,7,8,9,10,11,12,13,14,15,16,17,18,19,20,21,22,23],[],[25],[25,26],[25,26,27],[0,1,2,3,4,5,6,7,8,9,10,11,12,13,14,15,16,17,18,19,20,21,22,23,24,25,26,27,28],[0,1,2,3,4,5,6,7,8,9,10,11,12,13,14,15,16,17,18,19,20,21,22,23,24,25,26,27,28,29],[],[0,1,2,3,4,5,6,7,8,9,10,11,12,13,14,15,16,17,18,19,20,21,22,23,24,25,26,27,28,29,30,31]] (some [(4,31),(9,31),(14,31),(19,31),(24,31),(29,31)]) ([Co b p]) Bv Bv Gh (hsub) ?_;refine BI ?_;refine km [(4,_,λv cs=>OwnSl 100 9 v S.A.os.length (Ar.ocs S.A.os) cs),(9,_,λv cs=>OwnSl 132 10 v (DC S.H.1).length (MM (DC S.H.1)) cs),(14,_,λv cs=>OwnSl 130 3 v S.H.2.length (Tr.ncs S.H.2) cs),(19,_,λv cs=>OwnSl 79 24 v S.T.length (Th.thcs S.T) cs),(24,_,λv cs=>v= .agg (toArray (WX S.N))/\cs=[]),(29,_,λv cs=>OwnSl 3 1 v (s7 S.Q).length ((s7 S.Q).map CA) cs)] [(30,_)] (31,_,λv cs=> ∃b,v= .pointer (some ⟨b,0,none⟩)/\cs=[(b,.cells (toArray (C5::C5::C5::C5::(O3++[C5,C5]))) 52 (0,0))]) 3 rfl rfl rfl hsub (λ_ h=>by cases h) ⟨Nq rfl rfl (λl' hl=>Ar.all_any p.a S.A s.A hK.ar l' λc hc=>hl _ (.tail _ (hma c hc))) rfl rfl,Nq rfl rfl (λl' hl=>TC p.h S.H s.H hK.ho hs1 l' λc hc=>hl _ (.tail _ (hmh c hc))) rfl rfl,Nq rfl rfl (λl' hl=>aT p.h S.H s.H hK.ho hs2 l' λc hc=>hl _ (.tail _ (hmh c hc))) rfl rfl,Nq rfl rfl (λl' hl=>Th.all_any p.t S.T s.T hK.th hT l' λc hc=>hl _ (.tail _ (hmt c hc))) rfl rfl,Nq rfl rfl (λl' hl=>(As.pools_any p.n S.N (WX S.N) (cW S.N) (G8 S.N) (QD S.N) l' (hl _ (.tail _ hmn))).mono λv l2 h=>⟨[],⟨h.1,rfl⟩,h.2⟩) rfl rfl,Nq rfl rfl (λl' hl=>Qu.all_any p.q S.Q s.Q hK.qu (λj hj=>by have:=hK.ql j hj;omega) l' λc hc=>hl _ (.tail _ (hmq c hc))) rfl rfl,trivial⟩ (fE rfl rfl) Bv Bv rfl rfl ?_;intro vo co ho vc cc hc vt ct ht vh ch hh vp cp hp vq cq hq;obtain⟨rfl,rfl⟩:=hp;refine⟨_,_,YW rfl (iF S.N ho.one hc.one ht.one hh.one hq.one),rfl,rfl,rfl,?_⟩;rintro v3 c3 ⟨b3,rfl,rfl⟩;simp only[Hn,AddK];simp only at ho hc ht hh hq;apply Mu
 ·refine Ee (cs:=toArray (C5::C5::C5::C5::(O3++[C5,C5]))) (T:=52) (l':=iY b3 vo vc vt vh S.N C5 vq::(cq++(ch++(ct++(cc++(co++(b2,Obj.cells (toArray (C5::C5::C5::C5::(O3++[C5,C5]))) 52 (0,0))::L)))))) rfl rfl ?_ ?_ ?_ ?_
  ·show(WY vo vc vt vh S.N C5 vq).length=86;simp[G8]
  ·intro v hv;simp only[DM,Aq,AF,BK,Ec] at hv;rcases hv with rfl|rfl|rfl|rfl|hv|rfl|rfl
   ·exact ho.one
   ·exact hc.one
   ·exact ht.one
   ·exact hh.one
   ·exact QD _ v hv
   ·rfl
   ·exact hq.one
  ·rw[DM,As.setFrom_all _ _ (by simp[G8];rfl)];exact .here
  ·show 0+86<=(C5::C5::C5::C5::(O3++[C5,C5])).length;decide
 ·rfl
 ·rfl
 ·rintro _ _ ⟨_,rfl⟩ c hc;rw[AA.1 hc];simp[hmr]
 rintro _ _ ⟨rfl,rfl⟩;refine BI ?_;refine Aj ?_;refine AS (Az rfl rfl (Nu b _)) ?_;rintro _ _ ⟨B,rfl,rfl⟩;refine Aj ?_;obtain⟨gL,hgl⟩: ∃gL,gL=cq++(ch++(ct++(cc++(co++(b2,Obj.cells (toArray (C5::C5::C5::C5::(O3++[C5,C5]))) 52 (0,0))::L)))):=⟨_,rfl⟩
 have hLg: ∀c,c∈L->c∈gL:=λc hc=>by rw[hgl];simp[hc]
 rw[<-hgl];have hC1:=hK.c1;obtain⟨bv,cap,sp,hv,hV,_⟩:=hK.cur;have hmB: ∀c,c∈[rB B b,Co b p]->c∈rB B b::gL:=λc hc=>by
  rcases Aq.1 hc with rfl|hc
  ·exact .head _
  ·rw[AA.1 hc];exact .tail _ (hLg _ hmr)
 have hmc:(bv,Obj.cells (toArray (S.U.map CA++sp)) 3 (0,0))∈L:=hmv _ (by rw[hV];exact .head _);have h84: ∀(N:As.ASt),(vo::vc::vt::vh::WX N).length=84:=λN=>by simp[G8]
 refine CU (α:=Nat) (ps:=[42,43]) (lb:=[pV B]) rfl (LL B b p bv C cap Af hv) (λ_=>rfl) rfl
  (λpre l=> ∃vr cr,OwnSl 3 1 vr pre.length ((S.U.take pre.length).map CA) cr/\l=iY b3 vo vc vt vh S.N vr vq::cr) (λc pre l=>False) [iY b3 vo vc vt vh S.N C5 vq] (rB B b::gL)
  (λpre l2 X2 hX h=>⟨Aa _ (hX _ (.head _)),Aa _ (hX _ (.tail _ (hLg _ hmr)))⟩) (.of_perm (.swap _ _ _)) ⟨_,[],OwnSl.nil _ _,rfl⟩ ?_ ?_ ?_
 ·rintro E r0 rec pre x l' T ⟨fn,tmps,D,rfl⟩ hT ⟨vr,cr,hown,rfl⟩ hsp;obtain⟨rfl,hx,_⟩:=ZM hsp rfl;have c0:=PK (U:=S.U) (sp:=sp) (i:=pre.length) Af;obtain⟨u,hu⟩: ∃u,S.U.getD pre.length 0=u:=⟨_,rfl⟩
  rw[hu] at c0;have hv1:vr.oneCell'=true:=hown.one;simp only[Du,Ad,Ag];refine Aj ?_;refine Cp (.there (Fa _ _ _ _ _)) ?_;generalize hX1:(r0,Obj.loop (Dp fn tmps _ _ _ D .busy none))::T=X1;have hmX:(bv,Obj.cells (toArray (S.U.map CA++sp)) 3 (0,0))∈X1:=by rw[<-hX1];exact .tail _ (hT _ (.tail _ (hLg _ hmc)))
  refine Aj ?_;refine Ce [5,6,8] 9 ([]) ?_;refine BI ?_;apply FD (S:=[iY b3 vo vc vt vh S.N vr vq])
  ·exact Dv rfl (.head _) (Ms (LGet.mid (vo::vc::vt::vh::WX S.N) [vq] vr (h84 _)))
  ·exact CM (.head _)
  ·rfl
  ·rfl
  ·rfl
  refine BI ?_;apply FD (S:=[(bv,Obj.cells (toArray (S.U.map CA++sp)) 3 (0,0))])
  ·exact Dv (v:=iV u) rfl (.head _) (by first|exact c0|(rw[Dh];exact c0))
  ·exact CM (.tail _ (Aa _ hmX))
  ·rfl
  ·rfl
  ·rfl
  refine BI ?_;apply Gq
  ·exact JL (v:=iV u) rfl rfl
  ·rfl
  ·rfl
  ·rfl
  ·intro _ _ _ c hc;cases hc
  ·rintro _ _ ⟨bl,_,rfl,rfl⟩ x hx _ c hc;simp only[Aq,BK,Ec] at hx;rcases hx with rfl|rfl<;>simp only[Aq,BK,Ec] at hc<;>subst hc
   ·exact .tail _ (.tail _ (Aa _ hmX))
   ·exact .tail _ (.head _)
  rintro _ _ ⟨bl,_,rfl,rfl⟩;refine BI ?_;apply Gq
  ·apply GI (k:=1) (X:=[iY b3 vo vc vt vh S.N vr vq]) (cs:=cr) (xs:=(S.U.take pre.length).map CA) (n:=pre.length) (zs:=[.int .i64 0]) (ws:=[iV u])
   ·rfl
   ·rfl
   ·rfl
   ·exact hown
   ·rfl
   ·simp[Value.oneCell']
   ·omega
   ·decide
  ·rfl
  ·rfl
  ·rfl
  ·intro _ _ _ c hc;cases hc
  ·exact λ_ _ _ x hx ha=>CV Bv hx ha
  rintro v' _ ⟨c2,ho2,rfl⟩;have hv1:v'.oneCell'=true:=ho2.one;simp only[Ad,Ag];refine BI ?_;apply GH
  ·apply FP (cs:=WY vo vc vt vh S.N vr vq) (cs':=WY vo vc vt vh S.N v' vq)
   ·rfl
   ·rfl
   ·exact hv1
   ·exact .head _
   ·exact LSet.mid (vo::vc::vt::vh::WX S.N) [vq] vr v' (h84 _)
   ·exact .here
  ·rfl
  ·rfl
  ·intro _ _ _ c hc;cases hc
  ·exact λ_ _ _ x hx ha=>CV Bv hx ha
  rintro _ _ ⟨rfl,rfl⟩;refine BI ?_;refine Aj ?_;rw[<-hX1];refine B9 _ (.refl) ⟨v',c2,?_,rfl⟩;rw[Ah,Bl,B0,Ap,Am Af];rw[List.getD,Am Af,Dn] at hu;rw[hu];exact ho2
 ·rintro D xs l' rfl ⟨vr,cr,hown,rfl⟩;rw[EC,Bz Af] at hown;have hv1:vr.oneCell'=true:=hown.one;refine Aj ?_;have hlv:(WY vo vc vt vh S.N vr vq).length=86:=by simp[G8]
  refine Bc (IR rfl (.tail _ (.head _)) (As.LSub.of_all (n:=86) _ hlv)) ?_;rw[hgl];refine Bk (v7 ..) ?_;apply LV
  ·refine Ee (cs:=toArray (C5::C5::C5::C5::(O3++[C5,C5]))) (T:=52) (l':=iY b2 vo vc vt vh S.N vr vq::iY b3 vo vc vt vh S.N vr vq::Cd D::(co++(cc++(ct++(ch++(cr++(cq++L))))))) rfl rfl hlv ?_ ?_ ?_
   ·intro v hv;simp only[DM,Aq,AF,BK,Ec] at hv;rcases hv with rfl|rfl|rfl|rfl|hv|rfl|rfl
    ·exact ho.one
    ·exact hc.one
    ·exact ht.one
    ·exact hh.one
    ·exact QD _ v hv
    ·exact hv1
    ·exact hq.one
   ·rw[DM,As.setFrom_all _ _ (by simp[G8];rfl)];exact .here
   ·show 0+86<=(C5::C5::C5::C5::(O3++[C5,C5])).length;decide
  ·rfl
  ·rfl
  rintro _ _ ⟨rfl,rfl⟩;refine Aj ?_;exact AU [D] (iY b2 vo vc vt vh S.N vr vq::(co++(cc++(ct++(ch++(cr++(cq++L))))))) rfl (v8 ..) (Cq rfl (.head _) (As.LSub.of_all (n:=86) _ hlv) .nil) (.drop .refl) ⟨⟨vo,vc,vt,vh,vr,vq,co,cc,ct,ch,cr,cq⟩,rfl,⟨ho,hc,ht,hh,hown,hq⟩,rfl⟩
 ·rintro D c pre l' hsp h;exact h.elim
end Go.Proofs.YtlkgekpmileobaaGreat
