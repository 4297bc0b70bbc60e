/- Laws. -/
import Derived.Test.YtlifcingifodfaaGreatGd8
set_option maxHeartbeats 4000000
set_option linter.all false
namespace Go.Proofs.YtlifcingifodfaaGreat
open Tryz
open List renaming toArray→τ
variable{n m b bs bt:Nat}{s t a:Ch}{D:SD}{c:CapT}{ls lq:Ac}{T:Tr.DT}
namespace Tr
open Go.RowKit
set_option maxRecDepth 20000
variable{F:Nat->NdT}{D:DT}{n p m clock b rb q:Nat}{s a c:SlotT}{B os A pre:List Nat}{es:List (Hu SlotT)}{lq:Ac}
theorem Da{c:Bh}{l:Ac}(h:c∈l): ∀x,x∈[c]->x∈l:=λx hx=>by rw[Ay.1 hx];exact h
abbrev Dz(B:Nat)(s:SlotT):Bh:=(B,.cells (τ (Cd s)) 61 (0,0))
def hasD(D:DT)(s:SlotT):Bool:=(splitD s D).isSome
def rootD(D:DT)(s:SlotT):Int×DT:=if hasD D s=true then(11,D) else(0,D++[(s,0)])
def childD(D:DT)(par s:SlotT):Int×DT:=match splitD par D with
 |none=>(10,D)
 |some (A,d,B)=>if hasD D s=true then(11,D) else(0,A++(par,d)::(s,d+1)::B)
theorem ND:hasD (FH F os) s=(blk F os s).isSome:=by
 unfold hasD;cases h:blk F os s with
 |none=>rw[J7 h];rfl
 |some p=>obtain⟨A,B,_,h2⟩:=Hn h;rw[h2];rfl
def SmallD(D:DT):Prop:= ∀x,x∈D-> -1000000<=x.2/\x.2<=1000000
theorem nD(p:Nat):(FH F (A++p::B)).take (A.length+1)=FH F A++[((F p).sl,(F p).dp)]:=by unfold FH;rw[At,AK,List.take_append,BD (by simp)];simp
theorem nE(p:Nat):(FH F (A++p::B)).drop (A.length+1)=FH F B:=by unfold FH;rw[At,AK,JU,DL (by simp)];simp
theorem root_any(b:Nat)(D:DT)(lq:Ac)(hq:IsT b D lq)(s:SlotT)(G:Ac):
 Fn prog 187 [π b,.agg (τ (Cd s))] (lq++G) λv l'=>v= ι (rootD D s).1/\ ∃DI,IsT b (rootD D s).2 DI/\l'=DI++G:=by
 obtain⟨rb,m,F,all,os,es,clock,rfl,hT⟩:=hq;refine AO func187 ntmps187 λE=>?_;refine gz ?_;refine AP (Cw rfl) ?_;rintro _ _ ⟨b3,hb3,rfl,rfl⟩;refine Bt (Keep.of_perm (l':=lq++(Dz b3 s::G)) AJ.symm) ?_;have CJ: ∀c,c∈lq->c∈lq++(Dz b3 s::G):=λc hc=>Ai _ hc;have hbm:Dz b3 s∈lq++(Dz b3 s::G):=Aa _ (.head _);refine gz ?_;refine Be (AI (R:=lq++(Dz b3 s::G)) rfl rfl λl2 JP=>of_any b rb m F all os es clock lq s hT l2 λc hc=>JP c (CJ c hc)) ?_;cases hbk:blk F os s with
 |some p=>rw[show rootD (FH F os) s=(11,FH F os) by unfold rootD;rw[ND,hbk];rfl];simp only[NB];refine gz ?_;exact Bc (l':=lq++G) (Keep.trans (.of_perm AJ) ζ) ⟨rfl,lq,⟨rb,m,F,all,os,es,clock,rfl,hT⟩,rfl⟩
 |none=>
  rw[show rootD (FH F os) s=(0,FH F os++[(s,0)]) by unfold rootD;rw[ND,hbk];rfl];simp only[NB];obtain⟨X,p,hX⟩: ∃X p,rb::os=X++[p]:=⟨_,_,(Hf (MI rb os)).symm⟩
  have hpv:(F rb).pv=p:=hT.prv (Y:=[]) hX;have hXl:X.length=os.length:=by have:=BM List.length hX;simp at this;omega
  refine gz ?_;refine Ct [9] 10 ([]) ?_;refine pz ?_;apply Gy (S:=[Lu b rb m]);(·exact VE);(·exact Da (CJ _ hT.m1));(·rfl);(·rfl);(·rfl);refine pz ?_;apply Gy (S:=[OU rb (F rb)]);(·exact VE);(·exact Da (CJ _ (hT.m3 hT.rin)));(·rfl);(·rfl);(·rfl);refine pz ?_;rw[hpv];apply Gy (S:=[Dz b3 s]);(·exact VE);(·exact Da (hbm));(·rfl);(·rfl);(·rfl);refine pz ?_;apply Hi
  ·exact Az rfl rfl (fD b rb m F all os es clock lq hT X [] p hX s 0 hbk (Dz b3 s::G))
  (·rfl);(·rfl);(·rfl);(·intro _ _ _ c hc;cases hc);(·exact λ_ _ _ x hx ha=>Dk Bu hx ha)
  rintro _ _ ⟨rfl,DI,hq',rfl⟩;refine pz ?_;refine gz ?_;refine Bc (l':=DI++G) (Keep.trans (.of_perm AJ) ζ) ⟨rfl,DI,?_,rfl⟩;rw[hXl,BD (by simp[FH]),DL (by simp[FH])] at hq';exact hq'
theorem child_any(b:Nat)(D:DT)(lq:Ac)(hq:IsT b D lq)(hd:SmallD D)(par s:SlotT)(G:Ac):
 Fn prog 313 [π b,.agg (τ (Cd par)),.agg (τ (Cd s))] (lq++G) λv l'=>v= ι (childD D par s).1/\ ∃DI,IsT b (childD D par s).2 DI/\l'=DI++G:=by
 obtain⟨rb,m,F,all,os,es,clock,rfl,hT⟩:=hq;refine AO func313 ntmps313 λE=>?_;refine gz ?_;refine AP (Cw rfl) ?_;rintro _ _ ⟨b4,hb4,rfl,rfl⟩;refine gz ?_;refine AP (Cw rfl) ?_;rintro _ _ ⟨b5,hb5,rfl,rfl⟩;have LH: ∀lq:Ac,Keep (lq++(Dz b5 s::Dz b4 par::G)) (lq++G):=λlq=>Keep.trans (.of_perm (AC lq [Dz b5 s,Dz b4 par] G)) θ;refine Bt (Keep.of_perm (l':=lq++(Dz b5 s::Dz b4 par::G)) (AC [Dz b5 s,Dz b4 par] lq G)) ?_;have CJ: ∀c,c∈lq->c∈lq++(Dz b5 s::Dz b4 par::G):=λc hc=>Ai _ hc;have hm4:Dz b4 par∈lq++(Dz b5 s::Dz b4 par::G):=Aa _ ν;have lG:Dz b5 s∈lq++(Dz b5 s::Dz b4 par::G):=Aa _ (.head _);refine gz ?_;refine Be (AI (R:=lq++(Dz b5 s::Dz b4 par::G)) rfl rfl λl2 JP=>of_any b rb m F all os es clock lq par hT l2 λc hc=>JP c (CJ c hc)) ?_;cases ej:blk F os par with
 |none=>rw[show childD (FH F os) par s=(10,FH F os) by unfold childD;rw[J7 ej]];simp only[NB];refine gz ?_;exact Bc (l':=lq++G) (LH lq) ⟨rfl,lq,⟨rb,m,F,all,os,es,clock,rfl,hT⟩,rfl⟩
 |some p=>
  simp only[NB];refine gz ?_;refine Be (AI (R:=lq++(Dz b5 s::Dz b4 par::G)) rfl rfl λl2 JP=>of_any b rb m F all os es clock lq s hT l2 λc hc=>JP c (CJ c hc)) ?_;cases hbk:blk F os s with
  |some q=>rw[show childD (FH F os) par s=(11,FH F os) by unfold childD;obtain⟨A,B,_,h2⟩:=Hn ej;rw[h2];simp only;rw[ND,hbk];rfl];simp only[NB];refine gz ?_;exact Bc (l':=lq++G) (LH lq) ⟨rfl,lq,⟨rb,m,F,all,os,es,clock,rfl,hT⟩,rfl⟩
  |none=>
   obtain⟨A,B,N6,h2⟩:=Hn ej;have N3:=(IJ ej).2;have vF:=(IJ ej).1;rw[show childD (FH F os) par s=(0,FH F A++(par,(F p).dp)::(s,(F p).dp+1)::FH F B) by unfold childD;rw[h2];simp only;rw[ND,hbk];rfl];have hX:rb::os=(rb::A)++p::B:=by rw[N6];rfl
   have hr:=hd _ (Ax.2 ⟨p,vF,rfl⟩);simp only at hr;simp only[NB];refine gz ?_;refine Ct [8] 9 ([]) ?_;refine pz ?_;apply Gy (S:=[Dz b5 s]);(·exact VE);(·exact Da (lG));(·rfl);(·rfl);(·rfl);refine pz ?_;apply Gy (S:=[OU p (F p)]);(·exact VE);(·exact Da (CJ _ (hT.m3 (hT.sub p vF))));(·rfl);(·rfl);(·rfl);refine pz ?_;apply Hi
   ·exact Az rfl rfl (fD b rb m F all os es clock lq hT (rb::A) B p hX s _ hbk (Dz b5 s::Dz b4 par::G))
   (·rfl);(·rfl);(·rfl);(·intro _ _ _ c hc;cases hc);(·exact λ_ _ _ x hx ha=>Dk Bu hx ha)
   rintro _ _ ⟨rfl,DI,hq',rfl⟩;refine pz ?_;refine gz ?_;refine Bc (l':=DI++G) (LH DI) ⟨rfl,DI,?_,rfl⟩;rw[By,N6,nD,nE,N3] at hq';simpa using hq'
open Go.RowKit
set_option maxRecDepth 20000
theorem Ik:blk F os s=none<-> ∀p,p∈os->(F p).sl≠s:=
 ⟨Kq,λh=>Bp.2 λq hq=>by simpa using h q hq⟩
theorem XA:blk F (A++p::B) s=(blk F A s).or (if(F p).sl=s then some p else blk F B s):=by
 unfold blk;rw[Ek,BH];congr 1;by_cases h:(F p).sl=s
 ·rw[Aq h,Ad h]
 ·rw[Av h,Ab h]
theorem Pn{F F':Nat->NdT}{s:SlotT}: ∀{os:List Nat},(∀q,q∈os->(F' q).sl=(F q).sl)->blk F' os s=blk F os s
 |[],_=>rfl
 |q::os,h=>by have ih:=Pn (s:=s) (os:=os) λz hz=>h z (An _ hz);unfold blk at ih⊢;rw[BH,BH,h q Al,ih]
theorem Po{F':Nat->NdT}(h: ∀q,q∈os->(F' q).sl=(F q).sl/\(F' q).dp=(F q).dp):FH F' os=FH F os:=by unfold FH;exact Bs λq hq=>by rw[(h q hq).1,(h q hq).2]
theorem TB.uniq{all:List Nat}(h:TB b rb m F all (A++p::B) es clock lq):(∀q,q∈A->(F q).sl≠(F p).sl)/\(∀q,q∈B->(F q).sl≠(F p).sl):=by
 have hn:=h.snd;rw[At,AK] at hn;refine⟨λq hq e=>?_,λq hq e=>?_⟩
 ·exact(BC.1 hn).2.2 _ (Ax.2 ⟨q,hq,rfl⟩) _ Al e
 ·exact(AQ.1 (BC.1 hn).2.1).1 (Ax.2 ⟨q,hq,e⟩)
theorem TB.out{all:List Nat}(h:TB b rb m F all (A++p::B) es clock lq):p∉A/\p∉B/\rb∉A/\rb∉B/\p≠rb:=by have hn:=AQ.1 h.ond;have h2:=BC.1 hn.2;refine⟨λhp=>h2.2.2 p hp p Al rfl,(AQ.1 h2.2.1).1,λhr=>hn.1 (Ai _ hr),λhr=>hn.1 (Aa _ (.tail _ hr)),λe=>hn.1 (by rw[<-e];simp)⟩
def moveD(D:DT)(a c:SlotT):Int×DT:=match splitD a D with
 |none=>(10,D)
 |some (A,d,B)=>if hasD D c=true then(11,D) else(0,A++(c,d)::B)
open Go.RowKit
set_option maxRecDepth 20000
def decW(d:Int)(B:DT):DT:=(B.takeWhile λx=>decide (d<x.2)).map (λx=>(x.1,x.2-1))++B.dropWhile λx=>decide (d<x.2)
def removeD(D:DT)(s:SlotT):Int×DT:=match splitD s D with
 |none=>(10,D)
 |some (A,d,B)=>(0,A++decW d B)
def NE(F:Nat->NdT)(pre:List Nat):Nat->NdT:=λq=>if q∈pre then{F q with dp:=(F q).dp-1} else F q
theorem MZ(h:q∉pre):NE F pre q=F q:=Ab h
theorem i7{y:Nat}(h:y∉pre):upd (NE F pre) y {F y with dp:=(F y).dp-1}=NE F (pre++[y]):=by
 funext q;unfold upd NE;by_cases e:q=y
 ·subst e;simp[h]
 ·simp[e]
theorem Up(F:Nat->NdT)(pre:List Nat)(q:Nat):(NE F pre q).sl=(F q).sl/\(NE F pre q).nx=(F q).nx/\(NE F pre q).pv=(F q).pv:=by unfold NE;split<;>exact⟨rfl,rfl,rfl⟩
theorem sZ{d:Int}(hn:B.Nodup):FH (NE F (B.takeWhile λq=>decide (d<(F q).dp))) B=decW d (FH F B):=by
 have e1:(FH F B).takeWhile (λx=>decide (d<x.2))=FH F (B.takeWhile λq=>decide (d<(F q).dp)):=by unfold FH;rw[List.takeWhile_map];rfl
 have e2:(FH F B).dropWhile (λx=>decide (d<x.2))=FH F (B.dropWhile λq=>decide (d<(F q).dp)):=by unfold FH;rw[List.dropWhile_map];rfl
 unfold decW;rw[e1,e2];obtain⟨tw,JL⟩: ∃tw,tw=B.takeWhile λq=>decide (d<(F q).dp):=⟨_,rfl⟩
 obtain⟨dw,hdw⟩: ∃dw,dw=B.dropWhile λq=>decide (d<(F q).dp):=⟨_,rfl⟩
 have hB:B=tw++dw:=by rw[JL,hdw,Ci]
 rw[<-JL,<-hdw,hB];unfold FH;rw[At,CO];congr 1
 ·apply Bs;intro q hq;unfold NE;rw[Ad hq];rfl
 ·apply Bs;intro q hq;rw[hB] at hn;rw[MZ λh=>(BC.1 hn).2.2 q h q hq rfl]
theorem Qc{F F':Nat->NdT}{p x n:Nat}{Z:List Nat}: ∀{X:List Nat},sW F (X++p::x::n::Z)->(X++p::x::n::Z).dropLast.Nodup->(X++p::x::n::Z).tail.Nodup->
 (∀u,u≠p->(F' u).nx=(F u).nx)->(∀v,v≠n->(F' v).pv=(F v).pv)->(F' p).nx=n->(F' n).pv=p->sW F' (X++p::n::Z)
 |[],⟨h1,h2,h3,h4,h5⟩,hs,ht,hn,hp,k1,k2=>by
  refine⟨k1,k2,OW h5 (λu hu=>hn u ?_) λv hv=>hp v ?_⟩
  ·rintro rfl;have:(u::x::(n::Z).dropLast).Nodup:=by simpa using hs
   exact(AQ.1 this).1 (.tail _ hu)
  ·rintro rfl;have:(x::v::Z).Nodup:=by simpa using ht
   exact(AQ.1 (AQ.1 this).2).1 hv
 |[a],⟨h1,h2,h3⟩,hs,ht,hn,hp,k1,k2=>by
  have Nc:(a::(p::x::n::Z).dropLast).Nodup:=by simpa using hs
  have Ol:=AQ.1 Nc;have aQ:(p::x::n::Z).Nodup:=by simpa using ht
  have aR:=AQ.1 aQ;refine⟨by rw[hn a (λe=>Ol.1 (by rw[e];simp[List.dropLast]))];exact h1,by rw[hp p (λe=>aR.1 (by rw[e];simp))];exact h2,?_⟩;exact Qc (X:=[]) h3 Ol.2 aR.2 hn hp k1 k2
 |a::b::X,⟨h1,h2,h3⟩,hs,ht,hn,hp,k1,k2=>by
  have Nc:(a::((b::X)++p::x::n::Z).dropLast).Nodup:=by have:((a::b::X)++p::x::n::Z).dropLast=a::((b::X)++p::x::n::Z).dropLast:=He (by simp);rwa [this] at hs
  have Ol:=AQ.1 Nc;have aQ:(b::(X++p::x::n::Z)).Nodup:=ht;have aR:=AQ.1 aQ;have hpd:p∈((b::X)++p::x::n::Z).dropLast:=by rw[JV (by simp)];exact Aa _ (by simp[List.dropLast])
  refine⟨by rw[hn a (λe=>Ol.1 (by rw[e];exact hpd))];exact h1,by rw[hp b (λe=>aR.1 (by rw[e];simp))];exact h2,?_⟩;exact Qc (X:=b::X) h3 Ol.2 aR.2 hn hp k1 k2
open Go.RowKit
set_option maxRecDepth 20000
section
variable{P:Program}{ro:Option Nat}{N:Nat}{fr:Fr}{R:Ac}{d:Option Nat}{ty t t2:TypeId}{pos:String}{aft:Array Edge}{g:Option (Nat×Bool)}{x y:Operand}
theorem nG{p:Option Addr}{e:Nat}(hx:ev fr x=some (.pointer none))(hy:ev fr y=some (.pointer p))[c:PT P t e]:OpQ P ro N fr R ⟨d,.binOp .eql t x y t2,ty,pos,aft,g⟩ (.bool p.isNone):=BO rfl λρ l hρ _=>by simp only[execOp,hρ x _ hx,hρ y _ hy,AE,Kk,Bq,binOp];unfold Op.equal Op.maxDepth Op.equalIn;rw[Cg (Ox c.out)];cases p<;>exact⟨rfl,rfl⟩
end
theorem AcM(q:Nat):decide ((⟨q,0,none⟩:Addr)=⟨q,0,none⟩)=true:=Aq rfl
theorem AcN{r:Nat}(h:q≠r):decide ((⟨q,0,none⟩:Addr)=⟨r,0,none⟩)=false:=Av λe=>h (by injection e)
theorem fF{κ:Type}[DecidableEq κ]{a:κ}{u:Value}{es:List (Hu κ)}(hk:KeysOk es clock)(h:Ih a es=some u)(v:Value): ∃A e B,es=A++e::B/\e.1=a/\(∀x∈A,x.1≠a)/\(∀x∈A,x.2.2≠e.2.2)/\A++(e.1,v,e.2.2)::B=(LN a v clock es).1/\(LN a v clock es).2=clock:=by
 unfold Ih at h;cases hf:E4 a es 0 with
 |none=>rw[hf] at h;cases h
 |some p=>
  obtain⟨k,w⟩:=p;obtain⟨A,e,B,rfl,rfl,h1,h2,h3⟩:=HO hf;have hm:(A++e::B).modify A.length (λx=>(x.1,v,x.2.2))=A++(e.1,v,e.2.2)::B:=HN _ e B A;refine⟨A,e,B,rfl,h1,h3,λx hx e'=>?_,?_,?_⟩
  ·have hs:=hk.stamps;rw[At,AK] at hs;exact(BC.1 hs).2.2 _ (Ax.2 ⟨x,hx,rfl⟩) _ Al e'
  ·unfold LN;rw[hf];exact hm.symm
  ·unfold LN;rw[hf]
def M0(a c:SlotT)(x:SlotT×Int):SlotT×Int:=if x.1=a then(c,x.2) else if x.1=c then(a,x.2) else x
def swapD(D:DT)(a c:SlotT):DT:=D.map (M0 a c)
theorem i8(a:SlotT)(x:SlotT×Int):M0 a a x=x:=by
 unfold M0;by_cases h:x.1=a
 ·rw[Ad h,<-h]
 ·rw[Ab h,Ab h]
def swf(a c s:SlotT):SlotT:=if s=a then c else if s=c then a else s
theorem swpS_fst(a c:SlotT)(x:SlotT×Int):(M0 a c x).1=swf a c x.1:=by
 unfold M0 swf;by_cases h:x.1=a
 ·rw[Ad h,Ad h]
 ·rw[Ab h,Ab h];by_cases h2:x.1=c
  ·rw[Ad h2,Ad h2]
  ·rw[Ab h2,Ab h2]
theorem swf_swf(a c s:SlotT):swf a c (swf a c s)=s:=by
 unfold swf;by_cases h:s=a
 ·rw[Ad h];by_cases h3:c=a
  ·rw[Ad h3,h,h3]
  ·rw[Ab h3,Ad rfl,h]
 ·rw[Ab h];by_cases h2:s=c
  ·rw[Ad h2,Ad rfl,h2]
  ·rw[Ab h2,Ab h,Ab h2]
theorem Zw{x y:SlotT×Int}(h:(M0 a c x).1=(M0 a c y).1):x.1=y.1:=by rw[swpS_fst,swpS_fst] at h;rw[<-swf_swf a c x.1,h,swf_swf]
theorem i9(a c:SlotT)(x:SlotT×Int):M0 a c x=M0 c a x:=by
 unfold M0;by_cases h:x.1=a
 ·by_cases h2:x.1=c
  ·rw[Ad h,Ad h2,<-h,<-h2]
  ·rw[Ad h,Ab h2,Ad h]
 ·rw[Ab h,Ab h]
theorem cf(D:DT)(a c:SlotT):swapD D a c=swapD D c a:=Bs λx _=>i9 a c x
theorem Uq(ha: ∀q,q∈os->(F q).sl≠a)(hc: ∀q,q∈os->(F q).sl≠c):swapD (FH F os) a c=FH F os:=by
 unfold swapD FH;rw[CO];exact Bs λq hq=>by show M0 a c ((F q).sl,(F q).dp)=_;unfold M0;rw[Ab (ha q hq),Ab (hc q hq)]
theorem Ws{all:List Nat}(hT:TB b rb m F all os es clock lq)(h1:blk F os a=some p)(h2:blk F os c=none):moveD (FH F os) a c=(0,swapD (FH F os) a c):=by
 unfold moveD;obtain⟨A,B,rfl,hs⟩:=Hn h1;have N3:=(IJ h1).2;rw[hs];simp only;rw[ND,h2];simp only[FL,Bn,C0];obtain⟨uA,uB⟩:=hT.uniq;rw[N3] at uA uB;have HI:=Kq h2;have e:swapD (FH F (A++p::B)) a c=swapD (FH F A) a c++M0 a c ((F p).sl,(F p).dp)::swapD (FH F B) a c:=by unfold swapD FH;rw[At,AK,At,AK]
 rw[e,Uq uA λq hq=>HI q (Ai _ hq),Uq uB λq hq=>HI q (Aa _ (.tail _ hq))];congr 3;unfold M0;rw[Ad N3]
open Go.RowKit
set_option maxRecDepth 20000
def DepOk:Int->DT->Prop
 |_,[]=>True
 |e,x::r=>0<=x.2/\x.2<=e/\DepOk (x.2+1) r
theorem DepOk.mono: ∀{D:DT} {e f:Int},DepOk e D->e<=f->DepOk f D
 |[],_,_,_,_=>trivial
 |x::r,e,f,⟨h1,h2,h3⟩,h=>⟨h1,Af,h3⟩
theorem DepOk.bound: ∀{D:DT} {e:Int},DepOk e D-> ∀x,x∈D->0<=x.2/\x.2<=e+D.length
 |[],_,_,x,hx=>by cases hx
 |y::r,e,⟨h1,h2,h3⟩,x,hx=>by
  rw[By];rcases Au.1 hx with rfl|hx
  ·exact⟨h1,Af⟩
  ·have:=DepOk.bound h3 x hx;exact⟨this.1,Af⟩
def Zx:Int->DT->Int
 |e,[]=>e
 |_,x::r=>Zx (x.2+1) r
theorem DepOk.app: ∀{A B:DT} {e:Int},DepOk e (A++B)<->DepOk e A/\DepOk (Zx e A) B
 |[],B,e=>⟨λh=>⟨trivial,h⟩,λh=>h.2⟩
 |x::A,B,e=>by show 0<=x.2/\x.2<=e/\DepOk (x.2+1) (A++B)<->(0<=x.2/\x.2<=e/\DepOk (x.2+1) A)/\DepOk (Zx (x.2+1) A) B;rw[DepOk.app (A:=A)];exact⟨λ⟨h1,h2,h3,h4⟩=>⟨⟨h1,h2,h3⟩,h4⟩,λ⟨⟨h1,h2,h3⟩,h4⟩=>⟨h1,h2,h3,h4⟩⟩
theorem DepOk.last: ∀{A:DT} {e:Int},DepOk e A->0<=e->0<=Zx e A
 |[],_,_,h=>h
 |x::A,e,⟨h1,_,h3⟩,_=>by show 0<=Zx (x.2+1) A;exact DepOk.last h3 Af
theorem DepOk.dec{d:Int}(hd:0<=d): ∀{B:DT} {e f:Int},DepOk e B->e<=f+1->d<=f->DepOk f (decW d B)
 |[],_,_,_,_,_=>trivial
 |x::r,e,f,⟨h1,h2,h3⟩,he,hf=>by
  by_cases h:d<x.2
  ·have e1:decW d (x::r)=(x.1,x.2-1)::decW d r:=by
    unfold decW;rw[HE (by simpa using h),List.dropWhile_cons_of_pos (by simpa using h)];rfl
   rw[e1];refine⟨by simp only;omega,by simp only;omega,?_⟩;exact DepOk.dec hd h3 (by simp only;omega) (by simp only;omega)
  ·have e1:decW d (x::r)=x::r:=by
    unfold decW;rw[FK (by simpa using h),HC (by simpa using h)];rfl
   rw[e1];exact⟨h1,Af,h3⟩
theorem decW_fst(d:Int)(B:DT):(decW d B).map Prod.fst=B.map Prod.fst:=by unfold decW;rw[At,CO];have:(List.takeWhile (λx:SlotT×Int=>decide (d<x.2)) B).map (Prod.fst∘λx=>(x.1,x.2-1))=(List.takeWhile (λx:SlotT×Int=>decide (d<x.2)) B).map Prod.fst:=rfl;rw[this,<-At,Ci]
theorem Ur(d:Int)(B:DT):(decW d B).length=B.length:=by have:=BM List.length (decW_fst d B);simpa using this
structure GoodT(D:DT)(n:Nat):Prop where
 nd:(D.map Prod.fst).Nodup
 dep:DepOk 0 D
 len:D.length<=n
theorem GoodT.small(h:GoodT D n)(hn:n<=1000000):SmallD D:=λx hx=>by have:=h.dep.bound x hx;have:=h.len;omega
theorem splitD_some{s:SlotT}: ∀{D A B:DT} {d:Int},splitD s D=some (A,d,B)->D=A++(s,d)::B/\ ∀x,x∈A->x.1≠s
 |[],_,_,_,h=>by cases h
 |y::r,A,B,d,h=>by
  unfold splitD at h;by_cases e:y.1=s
  ·rw[Ad e] at h;cases h;refine⟨by rw[<-e];rfl,by simp⟩
  ·rw[Ab e] at h;cases h2:splitD s r with
   |none=>rw[h2] at h;cases h
   |some z=>
    rw[h2] at h;obtain⟨A',d',B'⟩:=z;cases h;obtain⟨rfl,h3⟩:=splitD_some h2;refine⟨rfl,λx hx=>?_⟩;rcases Au.1 hx with rfl|hx
    ·exact e
    ·exact h3 x hx
theorem OX{s:SlotT}: ∀{D:DT},splitD s D=none<-> ∀x,x∈D->x.1≠s
 |[]=>⟨λ_ x hx=>(by cases hx),λ_=>rfl⟩
 |y::r=>by
  unfold splitD;by_cases e:y.1=s
  ·rw[Ad e];exact⟨λh=>(by cases h),λh=>absurd e (h y Al)⟩
  ·rw[Ab e];constructor
   ·intro h x hx;have h2:splitD s r=none:=by cases h2:splitD s r with|none=>rfl|some z=>rw[h2] at h;cases h
    rcases Au.1 hx with rfl|hx
    ·exact e
    ·exact OX.1 h2 x hx
   ·intro h;rw[OX.2 λx hx=>h x (An _ hx)];rfl
theorem splitD_of{d:Int}{A B:DT}(h: ∀x,x∈A->x.1≠s):splitD s (A++(s,d)::B)=some (A,d,B):=by
 induction A with
 |nil=>show splitD s ((s,d)::B)=_;unfold splitD;rw[Ad rfl]
 |cons y A ih=>show splitD s (y::(A++(s,d)::B))=_;unfold splitD;rw[Ab (h y Al),ih λx hx=>h x (An _ hx)];rfl
theorem hasD_no:hasD D s=false<-> ∀x,x∈D->x.1≠s:=by unfold hasD;rw[<-OX];cases splitD s D<;>simp
theorem hasD_yes:hasD D s=true<->s∈D.map Prod.fst:=by
 constructor
 ·intro h;unfold hasD at h;cases h2:splitD s D with
  |none=>rw[h2] at h;cases h
  |some z=>obtain⟨A,d,B⟩:=z;rw[(splitD_some h2).1];simp
 ·intro h;cases h2:hasD D s with
  |true=>rfl
  |false=>obtain⟨x,hx,rfl⟩:=Ax.1 h;exact absurd rfl (hasD_no.1 h2 x hx)
theorem GoodT.mono(h:GoodT D n)(hm:n<=m):GoodT D m:=⟨h.nd,h.dep,B9 h.len hm⟩
theorem GoodT.root(h:GoodT D n)(s:SlotT):GoodT (rootD D s).2 (n+1):=by
 unfold rootD;by_cases hs:hasD D s=true
 ·rw[Ad hs];exact h.mono Af
 ·rw[Ab hs];have HI:=hasD_no.1 (by simpa using hs);refine⟨?_,DepOk.app.2 ⟨h.dep,by simp only;omega,h.dep.last Af,trivial⟩,by have:=h.len;simp;omega⟩;rw[At,BC];refine⟨h.nd,by simp,λa ha c hc e=>?_⟩;obtain⟨x,hx,rfl⟩:=Ax.1 ha;exact HI x hx (by rw[e];simpa using hc)
theorem GoodT.child(h:GoodT D n)(p s:SlotT):GoodT (childD D p s).2 (n+1):=by
 unfold childD;cases h2:splitD p D with
 |none=>exact h.mono Af
 |some z=>
  obtain⟨A,d,B⟩:=z;simp only;by_cases hs:hasD D s=true
  ·rw[Ad hs];exact h.mono Af
  ·rw[Ab hs];have HI:=hasD_no.1 (by simpa using hs);obtain⟨rfl,hA⟩:=splitD_some h2;obtain⟨h3,h4,h5,h6⟩:=DepOk.app.1 h.dep;refine⟨?_,DepOk.app.2 ⟨h3,h4,h5,by simp only;omega,by simp only;omega,h6.mono (by simp only;omega)⟩,by have:=h.len;simp at this⊢;omega⟩;have hp:((A++(p,d)::(s,d+1)::B).map Prod.fst).Perm (s::(A++(p,d)::B).map Prod.fst):=by
    have:(A++(p,d)::(s,d+1)::B).Perm ((s,d+1)::(A++(p,d)::B)):=by
     have e:A++(p,d)::(s,d+1)::B=(A++[(p,d)])++(s,d+1)::B:=by simp
     have e2:A++(p,d)::B=(A++[(p,d)])++B:=by simp
     rw[e,e2];exact AJ
    exact this.map _
   rw[hp.nodup_iff,AQ];refine⟨λhm=>?_,h.nd⟩;obtain⟨x,hx,e⟩:=Ax.1 hm;exact HI x hx e
theorem GoodT.remove(h:GoodT D n)(s:SlotT):GoodT (removeD D s).2 n:=by
 unfold removeD;cases h2:splitD s D with
 |none=>exact h
 |some z=>obtain⟨A,d,B⟩:=z;simp only;obtain⟨rfl,hA⟩:=splitD_some h2;obtain⟨h3,h4,h5,h6⟩:=DepOk.app.1 h.dep;refine⟨?_,DepOk.app.2 ⟨h3,h6.dec h4 (by simp only at h5⊢;omega) h5⟩,by have:=h.len;rw[Ah,Ur];simp at this⊢;omega⟩;rw[At,decW_fst,<-At];exact h.nd.sublist ((Gu (Ec _ _) _).map _)
theorem GoodT.move(h:GoodT D n)(a c:SlotT):GoodT (moveD D a c).2 n:=by
 unfold moveD;cases h2:splitD a D with
 |none=>exact h
 |some z=>
  obtain⟨A,d,B⟩:=z;simp only;by_cases hs:hasD D c=true
  ·rw[Ad hs];exact h
  ·rw[Ab hs];have HI:=hasD_no.1 (by simpa using hs);obtain⟨rfl,hA⟩:=splitD_some h2;obtain⟨h3,h4,h5,h6⟩:=DepOk.app.1 h.dep;refine⟨?_,DepOk.app.2 ⟨h3,h4,h5,h6⟩,by have:=h.len;simp at this⊢;omega⟩;have hn:=h.nd;rw[At,AK] at hn⊢;have kI:=AQ.1 (AJ.nodup_iff.1 hn);refine AJ.nodup_iff.2 (AQ.2 ⟨λhm=>?_,kI.2⟩);rcases AB.1 hm with hm|hm
   ·obtain⟨x,hx,e⟩:=Ax.1 hm;exact HI x (Ai _ hx) e
   ·obtain⟨x,hx,e⟩:=Ax.1 hm;exact HI x (Aa _ (.tail _ hx)) e
theorem DepOk.map{f:SlotT×Int->SlotT×Int}(hf: ∀x,(f x).2=x.2): ∀{D:DT} {e:Int},DepOk e D->DepOk e (D.map f)
 |[],_,_=>trivial
 |x::r,e,⟨h1,h2,h3⟩=>by refine⟨by rw[hf];exact h1,by rw[hf];exact h2,?_⟩;rw[hf];exact DepOk.map hf h3
theorem nH(a c:SlotT)(x:SlotT×Int):(M0 a c x).2=x.2:=by unfold M0;split<;>(try split)<;>rfl
theorem GoodT.swap(h:GoodT D n)(a c:SlotT):GoodT (swapD D a c) n:=by refine⟨?_,h.dep.map (nH a c),by unfold swapD;rw[A5];exact h.len⟩;unfold swapD;rw[CO,D6,Cz];have hn:=h.nd;rw[D6,Cz] at hn;exact hn.imp λGS e=>GS (Zw e)
theorem GoodT.none:GoodT [] 0:=⟨by simp,trivial,by simp⟩
end Tr
open Go.RowKit
set_option maxRecDepth 20000
abbrev HS:=SD×Tr.DT
variable{H:HS}
def KV(c:CapT):Bool:=E5 c&&!decide (c.kind=0)
def GD(H:HS)(s:Ch)(c:CapT):Int×HS:=
 if E0 H.1 s=false then(3,H) else if KV c=false then(5,H) else if(Dv H.1 s).kind≠0 then(11,H) else(0,(Fc H.1 s c,(Tr.rootD H.2 s).2))
def It(H:HS)(p s:Ch)(c:CapT):Int×HS:=
 if E0 H.1 p=false\/E0 H.1 s=false then(3,H) else if KV c=false then(5,H) else if(Dv H.1 p).kind=0 then(10,H) else if(Dv H.1 s).kind≠0 then(11,H) else(0,(Fc H.1 s c,(Tr.childD H.2 p s).2))
def PG(H:HS)(s:Ch)(c:CapT):Int×HS:=
 if E0 H.1 s=false then(3,H) else if(Dv H.1 s).kind=0 then(10,H) else if HQ (Dv H.1 s) c=false then(5,H) else(0,(Fc H.1 s c,H.2))
def Hk(H:HS)(a b:Ch):Int:=
 if E0 H.1 a=false\/E0 H.1 b=false then 3 else if(Dv H.1 a).kind=0 then 10 else if(Dv H.1 b).kind≠0 then 11 else 0
def F7(H:HS)(a b:Ch)(r:CapT×Int):Int×HS:=if Hk H a b≠0 then(Hk H a b,H) else if r.2≠0 then(r.2,H) else It H a b r.1
def JR(H:HS)(a b:Ch):Int×HS:=if Hk H a b≠0 then(Hk H a b,H) else(0,(Fc (Fc H.1 a Cu) b (Dv H.1 a),(Tr.moveD H.2 a b).2))
def Mh(H:HS)(a b:Ch):Int×HS:=if E0 H.1 a=false\/E0 H.1 b=false then(3,H) else(0,(Fc (Fc H.1 a (Dv H.1 b)) b (Dv H.1 a),Tr.swapD H.2 a b))
def D3(H:HS)(s:Ch):(CapT×Int)×HS:=if E0 H.1 s=false then((Cu,3),H) else if(Dv H.1 s).kind=0 then((Cu,10),H) else((Dv H.1 s,0),(Fc H.1 s Cu,(Tr.removeD H.2 s).2))
def J8(H:HS)(s:Ch):Bool:=E0 H.1 s&&!decide ((Dv H.1 s).kind=0)&&(CI H.1).all λx=>decide (x.1=s)||!HQ x.2 (Dv H.1 s)
structure InvH(H:HS)(n:Nat):Prop where
 tree:Tr.GoodT H.2 n
 asc:H.1.Pairwise λx y=>x.1<y.1
 val: ∀x,x∈H.1-> ∀c,c∈x.2->E5 c=true/\JA c
 link: ∀s,Tr.hasD H.2 s=true<->E0 H.1 s=true/\(Dv H.1 s).kind≠0
 len:H.1.length<=n+3
theorem Mi:E5 Cu=true/\JA Cu:=⟨rfl,by decide,by decide⟩
theorem InvH.at(h:InvH H n)(s:Ch):E5 (Dv H.1 s)=true/\JA (Dv H.1 s):=by
 unfold Dv
 split
 ·rename_i x hx;have hm:=(Fb hx).1;rw[A4];cases hk:x.2[s.2.toNat]? with
  |none=>exact Mi
  |some c=>exact h.val x hm c (Bg hk)
 ·exact Mi
theorem InvH.zero(h:InvH H n)(hk:(Dv H.1 s).kind=0):Dv H.1 s=Cu:=nh (h.at s).1 hk
theorem InvH.mono(h:InvH H n)(hm:n<=m):InvH H m:=⟨h.tree.mono hm,h.asc,h.val,h.link,B9 h.len Af⟩
theorem XC(h:D.Pairwise λx y=>x.1<y.1)(s:Ch)(c:CapT):(Fc D s c).Pairwise λx y=>x.1<y.1:=by
 have e:(Fc D s c).map Prod.fst=D.map Prod.fst:=by
  unfold Fc;rw[CO];apply Bs;intro x _;show(if x.1=s.1 then(x.1,x.2.set s.2.toNat c) else x).1=x.1
  split<;>rfl
 have h2:(D.map Prod.fst).Pairwise (· < ·):=Cz.2 h;rw[<-e] at h2;exact Cz.1 h2
theorem XD(h: ∀x,x∈D-> ∀c,c∈x.2->E5 c=true/\JA c)(s:Ch)(hc:E5 c=true/\JA c): ∀x,x∈Fc D s c-> ∀d,d∈x.2->E5 d=true/\JA d:=by
 intro x hx y hy;obtain⟨z,hz,rfl⟩:=Ax.1 hx
 split at hy
 ·rcases CS hy with hy|rfl
  ·exact h z hz y hy
  ·exact hc
 ·exact h z hz y hy
theorem XE(D:SD)(s:Ch)(c:CapT):(Fc D s c).length=D.length:=by simp[Fc]
theorem fG(h:E0 D s=true):0<=s.2:=by unfold E0 at h;rw[AM,A3] at h;exact h.1
theorem Pp(hs:E0 D s=true)(ht:E0 D t=true):Dv (Fc D s c) t=if t=s then c else Dv D t:=by
 by_cases h:t=s
 ·rw[Ad h,h,nw hs]
 ·rw[Ab h,Wr (fG hs) (fG ht) h]
theorem Lv(h:E0 D s=true)(hc:E5 c=true):setD D s c=(0,Fc D s c):=by unfold setD;rw[Ad h,Ad hc]
theorem InvH.put(h:InvH H n)(hm:n<=m)(hs:E0 H.1 s=true)(hc:E5 c=true/\JA c)(hT:Tr.GoodT T m)(hl: ∀t,Tr.hasD T t=true<->E0 H.1 t=true/\(if t=s then c else Dv H.1 t).kind≠0):InvH (Fc H.1 s c,T) m:=
 ⟨hT,XC h.asc s c,XD h.val s hc,λt=>by
   rw[hl t,Nz];constructor
   ·rintro⟨h1,h2⟩;exact⟨h1,by rw[Pp hs h1];exact h2⟩
   ·rintro⟨h1,h2⟩;exact⟨h1,by rw[Pp hs h1] at h2;exact h2⟩,by rw[XE];have:=h.len;omega⟩
theorem InvH.put2(h:InvH H n)(hm:n<=m){u:Ch}{d:CapT}(hs:E0 H.1 s=true)(hu:E0 H.1 u=true)(hc:E5 c=true/\JA c)(hd:E5 d=true/\JA d)(hT:Tr.GoodT T m)(hl: ∀t,Tr.hasD T t=true<->E0 H.1 t=true/\(if t=u then d else if t=s then c else Dv H.1 t).kind≠0):InvH (Fc (Fc H.1 s c) u d,T) m:=
 ⟨hT,XC (XC h.asc s c) u d,XD (XD h.val s hc) u hd,λt=>by
   have hu':E0 (Fc H.1 s c) u=true:=by rw[Nz];exact hu
   rw[hl t,Nz,Nz];constructor
   ·rintro⟨h1,h2⟩;exact⟨h1,by rw[Pp hu' (by rw[Nz];exact h1),Pp hs h1];exact h2⟩
   ·rintro⟨h1,h2⟩;exact⟨h1,by rw[Pp hu' (by rw[Nz];exact h1),Pp hs h1] at h2;exact h2⟩,by rw[XE,XE];have:=h.len;omega⟩
theorem ck(h:KV c=true):E5 c=true/\c.kind≠0:=by unfold KV at h;rw[AM] at h;exact⟨h.1,by simpa using h.2⟩
theorem Kd{D:Tr.DT}:Tr.hasD D s=true<->s∈D.map Prod.fst:=Tr.hasD_yes
theorem Zy{D:Tr.DT}(h:Tr.hasD D s=false):(Tr.rootD D s).1=0/\(Tr.hasD (Tr.rootD D s).2 t=true<->t=s\/Tr.hasD D t=true):=by
 have e:Tr.rootD D s=(0,D++[(s,0)]):=by unfold Tr.rootD;rw[h];rfl
 rw[e];refine⟨rfl,?_⟩;rw[Kd,Kd];simp only[At,AK,CZ,AB,Ay];exact Or.comm
theorem Wt{D:Tr.DT}{p:Ch}(hp:Tr.hasD D p=true)(h:Tr.hasD D s=false):(Tr.childD D p s).1=0/\(Tr.hasD (Tr.childD D p s).2 t=true<->t=s\/Tr.hasD D t=true):=by
 unfold Tr.hasD at hp;cases h2:Tr.splitD p D with
 |none=>rw[h2] at hp;cases hp
 |some z=>
  obtain⟨A,d,B⟩:=z;have e:Tr.childD D p s=(0,A++(p,d)::(s,d+1)::B):=by unfold Tr.childD;rw[h2];simp only;rw[Ab (by rw[h];decide)]
  rw[e];refine⟨rfl,?_⟩;have hD:=(Tr.splitD_some h2).1;rw[Kd,Kd,hD];simp only[At,AK,AB,Au];constructor
  ·rintro(h|h|h|h)
   ·exact .inr (.inl h)
   ·exact .inr (.inr (.inl h))
   ·exact .inl h
   ·exact .inr (.inr (.inr h))
  ·rintro(h|h|h|h)
   ·exact .inr (.inr (.inl h))
   ·exact .inl h
   ·exact .inr (.inl h)
   ·exact .inr (.inr (.inr h))
theorem nI{A B:List Ch}(h:(A++s::B).Nodup):t∈A++B<->t∈A++s::B/\t≠s:=by
 have h1:=AQ.1 (AJ.nodup_iff.1 h);constructor
 ·intro ht;refine⟨AJ.symm.mem_iff.1 (.tail _ ht),λe=>h1.1 (e▸ht)⟩
 ·rintro⟨h2,h3⟩;rcases Au.1 (AJ.mem_iff.1 h2) with h4|h4
  ·exact absurd h4 h3
  ·exact h4
theorem cm{D:Tr.DT}(hg:Tr.GoodT D n)(h:Tr.hasD D s=true):(Tr.removeD D s).1=0/\(Tr.hasD (Tr.removeD D s).2 t=true<->Tr.hasD D t=true/\t≠s):=by
 unfold Tr.hasD at h;cases h2:Tr.splitD s D with
 |none=>rw[h2] at h;cases h
 |some z=>
  obtain⟨A,d,B⟩:=z;have e:Tr.removeD D s=(0,A++Tr.decW d B):=by unfold Tr.removeD;rw[h2]
  rw[e];refine⟨rfl,?_⟩;have hD:=(Tr.splitD_some h2).1;have hn:=hg.nd;rw[Kd,Kd];rw[hD] at hn⊢;rw[At,AK] at hn;rw[At,At,AK,Tr.decW_fst];exact nI hn
theorem Zz{D:Tr.DT}(hg:Tr.GoodT D n){b:Ch}(ha:Tr.hasD D a=true)(hb:Tr.hasD D b=false):(Tr.moveD D a b).1=0/\(Tr.hasD (Tr.moveD D a b).2 t=true<->t=b\/(Tr.hasD D t=true/\t≠a)):=by
 unfold Tr.hasD at ha;cases h2:Tr.splitD a D with
 |none=>rw[h2] at ha;cases ha
 |some z=>
  obtain⟨A,d,B⟩:=z;have e:Tr.moveD D a b=(0,A++(b,d)::B):=by unfold Tr.moveD;rw[h2];simp only;rw[Ab (by rw[hb];decide)]
  rw[e];refine⟨rfl,?_⟩;have hD:=(Tr.splitD_some h2).1;have hn:=hg.nd;rw[Kd,Kd];rw[hD] at hn⊢;rw[At,AK] at hn;rw[At,At,AK,AK,<-nI hn,AJ.mem_iff,Au]
theorem nJ(D:Tr.DT)(a b t:Ch):Tr.hasD (Tr.swapD D a b) t=Tr.hasD D (Tr.swf a b t):=by
 rw[KD,Kd,Kd];unfold Tr.swapD;rw[CO];simp only[Ax,Function.comp_apply,Tr.swpS_fst];constructor
 ·rintro⟨x,hx,rfl⟩;exact⟨x,hx,(Tr.swf_swf a b x.1).symm⟩
 ·rintro⟨x,hx,he⟩;exact⟨x,hx,by rw[he,Tr.swf_swf]⟩
theorem InvH.no(h:InvH H n)(hk:(Dv H.1 s).kind=0):Tr.hasD H.2 s=false:=by
 cases e:Tr.hasD H.2 s with
 |false=>rfl
 |true=>exact absurd hk ((h.link s).1 e).2
theorem InvH.root(h:InvH H n)(s:Ch)(c:CapT)(hw:JA c):InvH (GD H s c).2 (n+1):=by
 unfold GD;by_cases h1:E0 H.1 s=false
 ·rw[Ad h1];exact h.mono Af
 rw[Ab h1];by_cases h2:KV c=false
 ·rw[Ad h2];exact h.mono Af
 rw[Ab h2];by_cases h3:(Dv H.1 s).kind≠0
 ·rw[Ad h3];exact h.mono Af
 rw[Ab h3];obtain⟨c1,c2⟩:=ck (by simpa using h2);have Dh:E0 H.1 s=true:=by simpa using h1
 refine h.put Af Dh ⟨c1,hw⟩ (h.tree.root s) λt=>?_;rw[(Zy (h.no (by simpa using h3))).2,h.link];by_cases e:t=s
 ·subst e;simp[Dh,c2]
 ·simp[e]
theorem InvH.child(h:InvH H n)(p s:Ch)(c:CapT)(hw:JA c):InvH (It H p s c).2 (n+1):=by
 unfold It;by_cases h1:E0 H.1 p=false\/E0 H.1 s=false
 ·rw[Ad h1];exact h.mono Af
 rw[Ab h1];by_cases h2:KV c=false
 ·rw[Ad h2];exact h.mono Af
 rw[Ab h2];by_cases h3:(Dv H.1 p).kind=0
 ·rw[Ad h3];exact h.mono Af
 rw[Ab h3];by_cases h4:(Dv H.1 s).kind≠0
 ·rw[Ad h4];exact h.mono Af
 rw[Ab h4];obtain⟨c1,c2⟩:=ck (by simpa using h2);have Dh:E0 H.1 s=true:=by cases e:E0 H.1 s<;>simp_all
 have AeZ:E0 H.1 p=true:=by cases e:E0 H.1 p<;>simp_all
 refine h.put Af Dh ⟨c1,hw⟩ (h.tree.child p s) λt=>?_;rw[(Wt ((h.link p).2 ⟨AeZ,h3⟩) (h.no (by simpa using h4))).2,h.link];by_cases e:t=s
 ·subst e;simp[Dh,c2]
 ·simp[e]
theorem InvH.set(h:InvH H n)(s:Ch)(c:CapT)(hw:JA c):InvH (PG H s c).2 n:=by
 unfold PG;by_cases h1:E0 H.1 s=false
 ·rw[Ad h1];exact h
 rw[Ab h1];by_cases h2:(Dv H.1 s).kind=0
 ·rw[Ad h2];exact h
 rw[Ab h2];by_cases h3:HQ (Dv H.1 s) c=false
 ·rw[Ad h3];exact h
 rw[Ab h3];have h3':HQ (Dv H.1 s) c=true:=by simpa using h3
 unfold HQ at h3';simp only[AM,Ei,A3,Fp] at h3';obtain⟨⟨⟨⟨a1,a2⟩,a3⟩,a4⟩,a5⟩:=h3';refine h.put (Bf _) (by simpa using h1) ⟨a2,hw⟩ h.tree λt=>?_;rw[h.link];by_cases e:t=s
 ·subst e;simp[h2,<-a4]
 ·simp[e]
theorem nK{b:Ch}(h:Hk H a b=0):E0 H.1 a=true/\E0 H.1 b=true/\(Dv H.1 a).kind≠0/\(Dv H.1 b).kind=0:=by
 unfold Hk at h
 split at h
 ·cases h
 rename_i h1
 split at h
 ·cases h
 rename_i h2
 split at h
 ·cases h
 rename_i h3;exact⟨by cases e:E0 H.1 a<;>simp_all,by cases e:E0 H.1 b<;>simp_all,h2,by simpa using h3⟩
theorem InvH.der(h:InvH H n)(a b:Ch)(r:CapT×Int)(hw:JA r.1):InvH (F7 H a b r).2 (n+1):=by
 unfold F7
 split
 ·exact h.mono Af
 split
 ·exact h.mono Af
 ·exact h.child a b _ hw
theorem InvH.move(h:InvH H n)(a b:Ch):InvH (JR H a b).2 n:=by
 unfold JR;by_cases h0:Hk H a b=0
 ·rw[Ab (by simpa using h0)];obtain⟨h1,h2,h3,h4⟩:=nK h0;have GS:a≠b:=λe=>h3 (e▸h4);refine h.put2 (Bf _) h1 h2 Mi (h.at a) (h.tree.move a b) λt=>?_;rw[(Zz h.tree ((h.link a).2 ⟨h1,h3⟩) (h.no h4)).2,h.link];by_cases e:t=b
  ·subst e;simp[h2,h3]
  ·by_cases e2:t=a
   ·subst e2;simp[e]
   ·simp[e,e2]
 ·rw[Ad h0];exact h
theorem InvH.swap(h:InvH H n)(a b:Ch):InvH (Mh H a b).2 n:=by
 unfold Mh;by_cases h1:E0 H.1 a=false\/E0 H.1 b=false
 ·rw[Ad h1];exact h
 rw[Ab h1];have ha:E0 H.1 a=true:=by cases e:E0 H.1 a<;>simp_all
 have hb:E0 H.1 b=true:=by cases e:E0 H.1 b<;>simp_all
 refine h.put2 (Bf _) ha hb (h.at b) (h.at a) (h.tree.swap a b) λt=>?_;rw[nJ,h.link];unfold Tr.swf;by_cases e:t=a
 ·by_cases e2:t=b
  ·subst e;subst e2;simp
  ·subst e;simp[e2,ha,hb]
 ·by_cases e2:t=b
  ·subst e2;simp[e,ha,hb]
  ·simp[e,e2]
theorem InvH.clear(h:InvH H n)(s:Ch):InvH (D3 H s).2 n:=by
 unfold D3;by_cases h1:E0 H.1 s=false
 ·rw[Ad h1];exact h
 rw[Ab h1];by_cases h2:(Dv H.1 s).kind=0
 ·rw[Ad h2];exact h
 rw[Ab h2];have Dh:E0 H.1 s=true:=by simpa using h1
 refine h.put (Bf _) Dh Mi (h.tree.remove s) λt=>?_;rw[(cm h.tree ((h.link s).2 ⟨Dh,h2⟩)).2,h.link];by_cases e:t=s
 ·subst e;simp
 ·simp[e]
theorem nL(h:D.Pairwise λx y=>x.1<y.1){x:Int×List CapT}(hn:D9 Prod.fst D x.1=none)(a:Int):D9 Prod.fst (MY Prod.fst D x) a=if a=x.1 then some x else D9 Prod.fst D a:=by
 have ha:=S9 (key:=Prod.fst) h hn;by_cases e:a=x.1
 ·rw[Ad e,e];exact Uk ha (Pm.2 (.inl rfl))
 ·rw[Ab e];cases hf:D9 Prod.fst D a with
  |none=>
   refine Gz.2 λy hy=>?_;rcases Pm.1 hy with rfl|hy
   ·exact λe2=>e e2.symm
   ·exact Gz.1 hf y hy
  |some y=>obtain⟨h1,h2⟩:=Fb hf;rw[<-h2];exact Uk ha (Pm.2 (.inr h1))
theorem InvH.add(h:InvH H n)(id k:Int):InvH ((Hv H.1 id k).2,H.2) (n+1):=by
 unfold Hv
 split
 ·exact h.mono Af
 split
 ·exact h.mono Af
 rename_i h1 h2;have hn:D9 Prod.fst H.1 id=none:=by cases e:D9 Prod.fst H.1 id<;>simp_all
 have hf:=nL h.asc (x:=(id,List.replicate k.toNat Cu)) hn;refine⟨h.tree.mono Af,S9 h.asc hn,λx hx c hc=>?_,λs=>?_,?_⟩
 ·rcases Pm.1 hx with rfl|hx
  ·rw[Et hc];exact Mi
  ·exact h.val x hx c hc
 ·rw[h.link];have e1:II H.1 id=0:=by unfold II;rw[hn]
  unfold E0 II Dv;simp only;rw[hf];by_cases e:s.1=id
  ·rw[Ad e,e,hn];simp;intro _ _;have:List.getD (List.replicate k.toNat Cu) s.2.toNat Cu=Cu:=by
    rw[A4];cases e3:(List.replicate k.toNat Cu)[s.2.toNat]? with
    |none=>rfl
    |some c=>rw[Et (Bg e3)];rfl
   rw[A4] at this;rw[this]
  ·rw[Ab e]
 ·show(MY Prod.fst H.1 (id,_)).length<=_;rw[Xt];have:=h.len;omega
theorem InvH.drop(h:InvH H n)(a:Int):InvH ((HR H.1 a).2,H.2) n:=by
 unfold HR
 split
 ·exact h
 split
 ·rename_i x hx GK;rw[AS] at GK;have hf: ∀b,D9 Prod.fst (H.1.filter λx=>decide (x.1≠a)) b=if b=a then none else D9 Prod.fst H.1 b:=λb=>by
   by_cases e:b=a
   ·rw[Ad e];refine Gz.2 λy hy=>?_;have:=(Cr.1 hy).2;rw[e];simpa using this
   ·rw[Ab e];cases hb:D9 Prod.fst H.1 b with
    |none=>exact Gz.2 λy hy=>Gz.1 hb y (Cr.1 hy).1
    |some y=>obtain⟨h1,h2⟩:=Fb hb;rw[<-h2];exact Uk (h.asc.filter _) (Cr.2 ⟨h1,by rw[h2];simpa using e⟩)
  refine⟨h.tree,h.asc.filter _,λy hy=>h.val y (Cr.1 hy).1,λs=>?_,B9 (Db ..) h.len⟩;rw[h.link];unfold E0 II Dv;simp only;rw[hf];by_cases e:s.1=a
  ·rw[Ad e,e,hx];simp;intro h0 h1;have Yn:x.2[s.2.toNat]?=some (x.2[s.2.toNat]'Af):=Ak Af;have h3:=GK _ (Bg Yn);rw[Pk] at h3;rw[Yn,h3];rfl
  ·rw[Ab e]
 ·exact h
abbrev M1(b bs bt:Nat):Bh:=(b,.cells (τ [π bs,π bt]) 234 (0,0))
structure HB(b bs bt:Nat)(H:HS)(ls lt lq:Ac):Prop where
 eq:lq=M1 b bs bt::(ls++lt)
 s:IsS bs H.1 ls
 t:Tr.IsT bt H.2 lt
def IsH(b:Nat)(H:HS)(lq:Ac):Prop:= ∃bs bt ls lt,HB b bs bt H ls lt lq
theorem HB.h{lt:Ac}(h:HB b bs bt H ls lt lq):M1 b bs bt∈lq:=by rw[h.eq];exact .head _
theorem HB.m1{lt:Ac}(h:HB b bs bt H ls lt lq): ∀c,c∈ls->c∈lq:=λc hc=>by rw[h.eq];exact .tail _ (Ai _ hc)
theorem HB.m2{lt:Ac}(h:HB b bs bt H ls lt lq): ∀c,c∈lt->c∈lq:=λc hc=>by rw[h.eq];exact .tail _ (Aa _ hc)
theorem InvH.small(h:InvH H n)(hn:n<=1000):H.1.length<=2000/\H.2.length<=1000/\Tr.SmallD H.2:=⟨by have:=h.len;omega,by have:=h.tree.len;omega,h.tree.small Af⟩
theorem ZA(l:Ac):Fn prog 129 [] l λv l'=> ∃b,v= π b/\ ∃lq,IsH b ([],[]) lq/\l'=lq++l:=by refine AO func129 ntmps129 λE=>?_;refine Aj ?_;refine AP (Az rfl rfl (new_any _)) ?_;rintro _ _ ⟨bs,rfl,ls,hs,rfl⟩;refine Aj ?_;refine AP (Az rfl rfl (Tr.new_any _)) ?_;rintro _ _ ⟨bt,rfl,lt,ht,rfl⟩;refine AR λb=>?_;exact Bc (l':=(M1 b bs bt::(ls++lt))++l) (A9 (A:=M1 b bs bt::(lt++(ls++l))) []) ⟨b,rfl,_,⟨bs,bt,ls,lt,rfl,hs,ht⟩,rfl⟩
theorem Lw(b bs bt:Nat)(l:Ac)(hm:M1 b bs bt∈l):Fn prog 114 [π b] l λv l'=>v= π bs/\l'=l:=by refine AO func114 ntmps114 λE=>?_;exact Fd
theorem Pq(b:Nat)(H:HS)(lq:Ac)(hq:IsH b H lq)(id n:Int)(G:Ac):
 Fn prog 139 [π b,ι id,ι n] (lq++G) λv l'=>v= ι (Hv H.1 id n).1/\ ∃DI,IsH b ((Hv H.1 id n).2,H.2) DI/\l'=DI++G:=by
 obtain⟨bs,bt,ls,lt,rfl,hs,ht⟩:=hq;refine AO func139 ntmps139 λE=>?_;simp only[Ae,Am];refine Aj ?_;refine Be (AI rfl rfl λl2 hl=>Lw b bs bt l2 (hl _ (.head _))) ?_;refine Aj ?_;refine AP (Dr rfl rfl (Fn.mvP (λA=>M1 b bs bt::(A++(lt++G))) (add_any bs H.1 ls hs id n (M1 b bs bt::(lt++G))))) ?_;rintro _ _ ⟨rfl,ls',hs',rfl⟩;refine Aj ?_;exact Bc (l':=(M1 b bs bt::(ls'++lt))++G) (.of_perm (.of_eq (by simp))) ⟨rfl,_,⟨bs,bt,ls',lt,rfl,hs',ht⟩,rfl⟩
theorem JB(b:Nat)(H:HS)(lq:Ac)(hq:IsH b H lq)(s:Ch)(l:Ac)(CJ: ∀c,c∈lq->c∈l):
 Fn prog 165 [π b,.agg (τ (Cd s))] l λv l'=>v= .tuple #[.agg (τ (Cb (getD' H.1 s).1)),ι (getD' H.1 s).2]/\l'=l:=by
 obtain⟨bs,bt,ls,lt,hb⟩:=hq;refine AO func165 ntmps165 λE=>?_;refine AR λb3=>?_;refine AR λb4=>?_;refine Ct [6] 8 (Dz b3 s::l) ?_;refine BJ ?_;refine N9 (AI rfl rfl λl2 hl=>Lw b bs bt l2 (hl _ (.tail _ (CJ _ hb.h)))) rfl rfl rfl ?_;refine BJ ?_;refine N9 (AI rfl rfl λl2 hl=>get_any bs H.1 ls hb.s s l2 λc hc=>hl _ (.tail _ (CJ _ (hb.m1 c hc)))) rfl rfl rfl ?_;refine BJ ?_;refine Aj ?_;exact CY (l':=l) (Bw b4 (getD' H.1 s).1::Dz b3 s::l) .refl θ ⟨rfl,rfl⟩
def Wu(D:SD)(a c:Ch):Int:=if(getD' D a).2=0 then(getD' D c).2 else(getD' D a).2
theorem Pr(b:Nat)(H:HS)(lq:Ac)(hq:IsH b H lq)(a c:Ch)(l:Ac)(CJ: ∀c,c∈lq->c∈l):
 Fn prog 249 [π b,.agg (τ (Cd a)),.agg (τ (Cd c))] l λv l'=>v= .tuple #[.agg (τ (Cb (getD' H.1 a).1)),.agg (τ (Cb (getD' H.1 c).1)),ι (Wu H.1 a c)]/\l'=l:=by
 refine AO func249 ntmps249 λE=>?_;refine AR λb4=>?_;refine AR λb5=>?_;refine AR λb6=>?_;refine AR λb7=>?_;refine Be (AI rfl rfl λl2 hl=>JB b H lq hq a l2 λc hc=>hl c (.tail _ (.tail _ (.tail _ (.tail _ (CJ c hc)))))) ?_;refine AR λb9=>?_;refine Be (AI rfl rfl λl2 hl=>JB b H lq hq c l2 λc hc=>hl c (.tail _ (.tail _ (.tail _ (.tail _ (.tail _ (CJ c hc))))))) ?_;refine AR λMs=>?_;unfold Wu;by_cases h:(getD' H.1 a).2=0
 case' pos=>rw[Ad h]
 case' neg=>rw[Ab h]
 all_goals
  refine Aj ?_;refine Ct [3,4] 6 ([Bw Ms (getD' H.1 c).1,Bw b9 (getD' H.1 a).1]) ?_;refine BJ ?_;refine Aj ?_;exact CY (l':=l) (Bw b7 (getD' H.1 c).1::Bw b6 (getD' H.1 a).1::l) (.drop (.drop (.pick .here (.pick .here θ)))) θ ⟨rfl,rfl⟩
theorem Wv(b:Nat)(H:HS)(lq:Ac)(hq:IsH b H lq)(hn:H.1.length<=2000)(l:Ac)(CJ: ∀c,c∈lq->c∈l):
 Fn prog 74 [π b] l λv l'=> ∃cs,OwnSl 131 10 v (CI H.1).length (OR (CI H.1)) cs/\l'=cs++l:=by
 obtain⟨bs,bt,ls,lt,hb⟩:=hq;refine AO func74 ntmps74 λE=>?_;refine Aj ?_;refine Be (AI rfl rfl λl2 hl=>Lw b bs bt l2 (hl _ (CJ _ hb.h))) ?_;refine Aj ?_;refine AP (Az rfl rfl (all_any bs H.1 ls hb.s Af _ λc hc=>CJ _ (hb.m1 c hc))) ?_;rintro v _ ⟨cs,ho,rfl⟩;refine Aj ?_;refine Bc (l':=cs++l) .refl ?_;exact⟨cs,ho,rfl⟩
theorem ja(b:Nat)(H:HS)(lq:Ac)(hq:IsH b H lq)(hn:H.2.length<=1000)(l:Ac)(CJ: ∀c,c∈lq->c∈l):
 Fn prog 75 [π b] l λv l'=> ∃cs,OwnSl 129 3 v H.2.length (Tr.ncs H.2) cs/\l'=cs++l:=by
 obtain⟨bs,bt,ls,lt,hb⟩:=hq;have hm:=CJ _ hb.h;refine AO func75 ntmps75 λE=>?_;refine Aj ?_;refine AP (Az rfl rfl (Tr.all_any bt H.2 lt hb.t Af _ λc hc=>CJ _ (hb.m2 c hc))) ?_;rintro v _ ⟨cs,ho,rfl⟩;refine Aj ?_;refine Bc (l':=cs++l) .refl ?_;exact⟨cs,ho,rfl⟩
theorem AcO:(E0 D s=true/\getD' D s=(Dv D s,0))\/(E0 D s=false/\getD' D s=(Cu,3)):=by
 unfold getD';cases E0 D s with
 |false=>exact .inr ⟨rfl,rfl⟩
 |true=>exact .inl ⟨rfl,rfl⟩
theorem Mj(h:E0 D s=true):getD' D s=(Dv D s,0):=by unfold getD';rw[h];rfl
theorem Ww(h:E0 D s=false):getD' D s=(Cu,3):=by unfold getD';rw[h];rfl
theorem XF{c:Ch}(ha:E0 D a=true)(hc:E0 D c=true):Wu D a c=0:=by unfold Wu;rw[Mj ha,Mj hc];rfl
theorem XG{c:Ch}(h:E0 D a=false\/E0 D c=false):Wu D a c=3:=by
 unfold Wu;rcases h with h|h
 ·rw[Ww h];rfl
 ·rw[Ww h];split
  ·rfl
  ·rename_i h2;rcases AcO (D:=D) (s:=a) with⟨_,h3⟩|⟨_,h3⟩
   ·rw[h3] at h2;exact absurd rfl h2
   ·rw[h3]
theorem fH{c:Ch}(h:¬(E0 D a=false\/E0 D c=false)):E0 D a=true/\E0 D c=true:=by cases h1:E0 D a<;>cases h2:E0 D c<;>simp_all
theorem Gi(b:Nat)(H:HS)(n:Nat)(hI:InvH H n)(lq:Ac)(hq:IsH b H lq)(s:Ch)(c:CapT)(G:Ac):
 Fn prog 144 [π b,.agg (τ (Cd s)),.agg (τ (Cb c))] (lq++G) λv l'=>v= ι (GD H s c).1/\ ∃DI,IsH b (GD H s c).2 DI/\l'=DI++G:=by
 have Nf:=hq;refine AO func144 ntmps144 λE=>?_;refine AR λb4=>?_;refine AR λb5=>?_;refine Be (AI rfl rfl λl2 hl=>JB b H lq hq s l2 λc hc=>hl c (.tail _ (.tail _ (Ai _ hc)))) ?_;have KF: ∀(d:CapT) (B:Nat),Keep (Bw B d::Bw b5 c::Dz b4 s::(lq++G)) (lq++G):=λ_ _=> .drop θ;cases Dh:E0 H.1 s with
 |false=>rw[Ww Dh,show GD H s c=(3,H) by unfold GD;rw[Ad Dh]];refine AR λb7=>?_;exact Bc (KF _ _) ⟨rfl,_,Nf,rfl⟩
 |true=>
 rw[Mj Dh];have e0:GD H s c=if KV c=false then(5,H) else if(Dv H.1 s).kind≠0 then(11,H) else(0,(Fc H.1 s c,(Tr.rootD H.2 s).2)):=by unfold GD;rw[Ab (by rw[Dh];decide)]
 rw[e0];refine AR λb7=>?_;refine Be (AI rfl rfl λl2 hl=>IH c l2) ?_;cases hm:E5 c with
 |false=>rw[Ad (by unfold KV;rw[hm];rfl)];refine Aj ?_;exact Bc (KF _ _) ⟨rfl,_,Nf,rfl⟩
 |true=>
 by_cases hk:c.kind=0
 ·rw[Ad (by unfold KV;rw[Aq hk,hm];rfl)];refine Aj ?_;exact Bc (KF _ _) ⟨rfl,_,Nf,rfl⟩
 rw[Ab (by unfold KV;rw[Av hk,hm];decide)];by_cases hw:(Dv H.1 s).kind≠0
 ·rw[Ad hw];refine Aj ?_;exact Bc (KF _ _) ⟨rfl,_,Nf,rfl⟩
 rw[Ab hw];obtain⟨bs,bt,ls,lt,rfl,hs,ht⟩:=hq;have eh:=(Zy (t:=s) (hI.no (by simpa using hw))).1;have H1:=Fn.mvP (λA=>Bw b7 (Dv H.1 s)::Bw b5 c::Dz b4 s::M1 b bs bt::(A++(lt++G))) (set_any bs H.1 ls hs s c (Bw b7 (Dv H.1 s)::Bw b5 c::Dz b4 s::M1 b bs bt::(lt++G)));have H2:=λls=>Fn.mvP (λA=>Bw b7 (Dv H.1 s)::Bw b5 c::Dz b4 s::M1 b bs bt::(ls++(A++G))) (Tr.root_any bt H.2 lt ht s (Bw b7 (Dv H.1 s)::Bw b5 c::Dz b4 s::M1 b bs bt::(ls++G)));rw[Lv Dh hm] at H1;rw[eh] at H2;simp only[Ae,Am];refine Aj ?_;refine Ct [6] 7 ([Bw b5 c,Dz b4 s,M1 b bs bt]) ?_;refine BJ ?_;apply CX
 ·exact Dr rfl rfl H1
 ·rfl
 ·rfl
 ·rfl
 ·rintro _ _ ⟨_,ls',_,rfl⟩;exact Vq
 rintro _ _ ⟨rfl,ls',hs',rfl⟩;refine BJ ?_;refine Aj ?_;refine Ct [5] 7 ([Dz b4 s,M1 b bs bt]) ?_;refine BJ ?_;apply CX
 ·exact Dr rfl rfl (H2 ls')
 ·rfl
 ·rfl
 ·rfl
 ·rintro _ _ ⟨_,lt',_,rfl⟩;exact Vq
 rintro _ _ ⟨rfl,lt',PJ,rfl⟩;refine BJ ?_;refine Aj ?_;exact Bc (l':=(M1 b bs bt::(ls'++lt'))++G) (.drop (.drop (.drop (.of_perm (.of_eq (by simp)))))) ⟨rfl,_,⟨bs,bt,ls',lt',rfl,hs',PJ⟩,rfl⟩
theorem Us(b:Nat)(H:HS)(n:Nat)(hI:InvH H n)(hn:n<=1000)(lq:Ac)(hq:IsH b H lq)(p s:Ch)(c:CapT)(G:Ac):
 Fn prog 250 [π b,.agg (τ (Cd p)),.agg (τ (Cd s)),.agg (τ (Cb c))] (lq++G) λv l'=>v= ι (It H p s c).1/\ ∃DI,IsH b (It H p s c).2 DI/\l'=DI++G:=by
 have Nf:=hq;refine AO func250 ntmps250 λE=>?_;refine AR λb5=>?_;refine AR λb6=>?_;refine AR λb7=>?_;refine Be (AI rfl rfl λl2 hl=>Pr b H lq hq p s l2 λc hc=>hl c (.tail _ (.tail _ (.tail _ (Ai _ hc))))) ?_;have KF: ∀(d e:CapT) (B C:Nat),Keep (Bw B d::Bw C e::Bw b7 c::Dz b6 s::Dz b5 p::(lq++G)) (lq++G):=λ_ _ _ _=> .drop φ;by_cases Dh:E0 H.1 p=false\/E0 H.1 s=false
 ·rw[XG Dh,show It H p s c=(3,H) by unfold It;rw[Ad Dh]];refine Aj ?_;refine AP e_alloc ?_;rintro _ _ ⟨b9,_,rfl,rfl⟩;refine AR λGW=>?_;exact Bc (KF _ _ _ _) ⟨rfl,_,Nf,rfl⟩
 obtain⟨okp,oks⟩:=fH Dh;rw[XF okp oks,Mj okp,Mj oks];have e0:It H p s c=if KV c=false then(5,H) else if(Dv H.1 p).kind=0 then(10,H) else if(Dv H.1 s).kind≠0 then(11,H) else(0,(Fc H.1 s c,(Tr.childD H.2 p s).2)):=by unfold It;rw[Ab Dh]
 rw[e0];refine Aj ?_;refine AP e_alloc ?_;rintro _ _ ⟨b9,_,rfl,rfl⟩;refine AR λGW=>?_;refine Be (AI rfl rfl λl2 hl=>IH c l2) ?_;cases hm:E5 c with
 |false=>rw[Ad (by unfold KV;rw[hm];rfl)];refine Aj ?_;exact Bc (KF _ _ _ _) ⟨rfl,_,Nf,rfl⟩
 |true=>
 by_cases hk:c.kind=0
 ·rw[Ad (by unfold KV;rw[Aq hk,hm];rfl)];refine Aj ?_;exact Bc (KF _ _ _ _) ⟨rfl,_,Nf,rfl⟩
 rw[Ab (by unfold KV;rw[Av hk,hm];decide)];by_cases hp:(Dv H.1 p).kind=0
 ·rw[Ad hp];refine Aj ?_;exact Bc (KF _ _ _ _) ⟨rfl,_,Nf,rfl⟩
 rw[Ab hp];by_cases hw:(Dv H.1 s).kind≠0
 ·rw[Ad hw];refine Aj ?_;exact Bc (KF _ _ _ _) ⟨rfl,_,Nf,rfl⟩
 rw[Ab hw];obtain⟨bs,bt,ls,lt,rfl,hs,ht⟩:=hq;have eh:=(Wt (t:=s) ((hI.link p).2 ⟨okp,hp⟩) (hI.no (by simpa using hw))).1;obtain⟨X,hX⟩: ∃X,X=[Bw GW (Dv H.1 s),Bw b9 (Dv H.1 p),Bw b7 c,Dz b6 s,Dz b5 p,M1 b bs bt]:=⟨_,rfl⟩
 have H1:=Fn.mvP (λA=>X++(A++(lt++G))) (set_any bs H.1 ls hs s c (X++(lt++G)));have H2:=λls=>Fn.mvP (λA=>X++(ls++(A++G))) (Tr.child_any bt H.2 lt ht (hI.small hn).2.2 p s (X++(ls++G)));rw[Lv oks hm] at H1;rw[eh] at H2;rw[hX] at H1 H2;simp only[Ae,Am,Ag] at H1 H2⊢;refine Aj ?_;refine Ct [6] 7 ([Bw b7 c,Dz b6 s,M1 b bs bt]) ?_;refine BJ ?_;apply CX
 ·exact Dr rfl rfl H1
 ·rfl
 ·rfl
 ·rfl
 ·rintro _ _ ⟨_,ls',_,rfl⟩;exact Vq
 rintro _ _ ⟨rfl,ls',hs',rfl⟩;refine BJ ?_;refine Aj ?_;refine Ct [6] 8 ([Dz b6 s,Dz b5 p,M1 b bs bt]) ?_;refine BJ ?_;apply CX
 ·exact Dr rfl rfl (H2 ls')
 ·rfl
 ·rfl
 ·rfl
 ·rintro _ _ ⟨_,lt',_,rfl⟩;exact Vq
 rintro _ _ ⟨rfl,lt',PJ,rfl⟩;refine BJ ?_;refine Aj ?_;exact Bc (l':=(M1 b bs bt::(ls'++lt'))++G) (.drop (.drop (.drop (.drop (.drop (.of_perm (.of_eq (by simp)))))))) ⟨rfl,_,⟨bs,bt,ls',lt',rfl,hs',PJ⟩,rfl⟩
theorem jc{a:CapT}(h:HQ a c=true):E5 c=true:=by unfold HQ at h;simp only[AM] at h;exact h.1.1.1.2
theorem Q4(b:Nat)(H:HS)(n:Nat)(hI:InvH H n)(hn:n<=1000)(lq:Ac)(hq:IsH b H lq)(a c:Ch)(gf:Nat)[EN prog gf](cs:Ap)(r:CapT->CapT×Int)(hr: ∀d,JA d->JA (r d).1)(X:Ac)
 (hf: ∀d l2,JA d->(∀x,x∈X->x∈l2)->Fn prog gf ([.agg (τ (Cb d))]++cs) l2 λv l'=>v= .tuple #[.agg (τ (Cb (r d).1)),ι (r d).2]/\l'=l2)(G:Ac)(hX: ∀x,x∈X->x∈G):
 Fn prog 188 [π b,.agg (τ (Cd a)),.agg (τ (Cd c)),.func (.func gf) #[] (τ cs)] (lq++G) λv l'=>v= ι (F7 H a c (r (Dv H.1 a))).1/\ ∃DI,IsH b (F7 H a c (r (Dv H.1 a))).2 DI/\l'=DI++G:=by
 refine AO func188 ntmps188 λE=>?_;refine AR λb5=>?_;refine AR λb6=>?_;refine Be (AI rfl rfl λl2 hl=>Pr b H lq hq a c l2 λc hc=>hl c (.tail _ (.tail _ (Ai _ hc)))) ?_;have KF: ∀(d e:CapT) (B C:Nat),Keep (Bw B d::Bw C e::Dz b6 c::Dz b5 a::(lq++G)) (lq++G):=λ_ _ _ _=> .drop σ;by_cases Dh:E0 H.1 a=false\/E0 H.1 c=false
 ·rw[XG Dh];have e1:Hk H a c=3:=by unfold Hk;rw[Ad Dh]
  rw[show F7 H a c (r (Dv H.1 a))=(3,H) by unfold F7;rw[Ad (by rw[e1];decide),e1]];refine Aj ?_;refine AP e_alloc ?_;rintro _ _ ⟨b9,_,rfl,rfl⟩;refine AR λGW=>?_;exact Bc (KF _ _ _ _) ⟨rfl,_,hq,rfl⟩
 obtain⟨lI,okc⟩:=fH Dh;rw[XF lI okc,Mj lI,Mj okc];refine Aj ?_;refine AP e_alloc ?_;rintro _ _ ⟨b9,_,rfl,rfl⟩;refine AR λGW=>?_;by_cases hp:(Dv H.1 a).kind=0
 ·have e1:Hk H a c=10:=by unfold Hk;rw[Ab Dh,Ad hp]
  rw[show F7 H a c (r (Dv H.1 a))=(10,H) by unfold F7;rw[Ad (by rw[e1];decide),e1]];refine Aj ?_;exact Bc (KF _ _ _ _) ⟨rfl,_,hq,rfl⟩
 by_cases hw:(Dv H.1 c).kind≠0
 ·have e1:Hk H a c=11:=by unfold Hk;rw[Ab Dh,Ab hp,Ad hw]
  rw[show F7 H a c (r (Dv H.1 a))=(11,H) by unfold F7;rw[Ad (by rw[e1];decide),e1]];refine Aj ?_;exact Bc (KF _ _ _ _) ⟨rfl,_,hq,rfl⟩
 have e1:Hk H a c=0:=by unfold Hk;rw[Ab Dh,Ab hp,Ab hw]
 have hwa:=(hI.at a).2;have hwr:=hr _ hwa;refine Aj ?_;refine Be (FY rfl rfl λl2 hl=>by simpa using hf (Dv H.1 a) l2 hwa λx hx=>hl x (.tail _ (.tail _ (.tail _ (.tail _ (Aa _ (hX x hx))))))) ?_;by_cases he:(r (Dv H.1 a)).2≠0
 ·rw[show F7 H a c (r (Dv H.1 a))=((r (Dv H.1 a)).2,H) by unfold F7;rw[Ab (by rw[e1];decide),Ad he]];refine AR λTy=>?_;exact Bc (.drop (KF _ _ _ _)) ⟨rfl,_,hq,rfl⟩
 have he0:(r (Dv H.1 a)).2=0:=by simpa using he
 rw[show F7 H a c (r (Dv H.1 a))=It H a c (r (Dv H.1 a)).1 by unfold F7;rw[Ab (by rw[e1];decide),Ab he]];rw[he0];refine AR λTy=>?_;refine AP (Dr rfl rfl (Fn.mvP (λA=>Bw Ty (r (Dv H.1 a)).1::Bw GW (Dv H.1 c)::Bw b9 (Dv H.1 a)::Dz b6 c::Dz b5 a::(A++G)) (Us b H n hI hn lq hq a c (r (Dv H.1 a)).1 (Bw Ty (r (Dv H.1 a)).1::Bw GW (Dv H.1 c)::Bw b9 (Dv H.1 a)::Dz b6 c::Dz b5 a::G)))) ?_;rintro _ _ ⟨rfl,DI,hq',rfl⟩;refine Aj ?_;exact Bc (l':=DI++G) ψ ⟨rfl,_,hq',rfl⟩
theorem cx(c:CapT)(hw:JA c)(b1:Nat)(DH:Int)(l:Ac)(hm:GT b1 DH∈l):
 Fn prog 189 ([.agg (τ (Cb c))]++[π b1]) l λv l'=>v= .tuple #[.agg (τ (Cb (Ea c DH).1)),ι (Ea c DH).2]/\l'=l:=by
 rw[show[Value.agg (τ (Cb c))]++[π b1]=[.agg (τ (Cb c)),π b1] from rfl];refine AO func189 ntmps189 λE=>?_;refine Aj ?_
 (first|refine AP (EA rfl rfl) ?_|refine AP (Cw rfl) ?_);rintro _ _ ⟨b2,_,rfl,rfl⟩
 have Vo:GT b1 DH∈Bw b2 c::l:= .tail _ hm;refine Aj ?_;refine AP e_alloc ?_;rintro _ _ ⟨b3,_,rfl,rfl⟩;have rL:GT b1 DH∈Bw b3 Cu::Bw b2 c::l:= .tail _ (.tail _ hm);refine Aj ?_;refine Be (AI rfl rfl λl2 hl=>OQ c hw DH l2) ?_;refine Aj ?_;exact CY (l':=l) (Bw b3 (Ea c DH).1::Bw b2 c::l) .refl θ ⟨rfl,rfl⟩
theorem cy(c:CapT)(hw:JA c)(b1 b2:Nat)(DH:Int)(Ez:Nat)(hd:Ez<18446744073709551616)(l:Ac)(hm:GT b1 DH∈l)(W9:RM b2 Ez∈l):
 Fn prog 195 ([.agg (τ (Cb c))]++[π b1,π b2]) l λv l'=>v= .tuple #[.agg (τ (Cb (HT c DH Ez).1)),ι (HT c DH Ez).2]/\l'=l:=by
 rw[show[Value.agg (τ (Cb c))]++[π b1,π b2]=[.agg (τ (Cb c)),π b1,π b2] from rfl];refine AO func195 ntmps195 λE=>?_;refine AR λb3=>?_;refine AP e_alloc ?_;rintro _ _ ⟨b4,_,rfl,rfl⟩;have rL:GT b1 DH∈Bw b4 Cu::Bw b3 c::l:= .tail _ (.tail _ hm);have hm4:RM b2 Ez∈Bw b4 Cu::Bw b3 c::l:= .tail _ (.tail _ W9);refine Aj ?_;refine Be (AI rfl rfl λl2 hl=>np c hw DH Ez hd l2) ?_;refine Aj ?_;exact CY (l':=l) (Bw b4 (HT c DH Ez).1::Bw b3 c::l) .refl θ ⟨rfl,rfl⟩
theorem M2(b:Nat)(H:HS)(n:Nat)(hI:InvH H n)(hn:n<=1000)(lq:Ac)(hq:IsH b H lq)(a c:Ch)(DH:Int)(G:Ac):
 Fn prog 145 [π b,.agg (τ (Cd a)),.agg (τ (Cd c)),ι DH] (lq++G) λv l'=>v= ι (F7 H a c (Ea (Dv H.1 a) DH)).1/\ ∃DI,IsH b (F7 H a c (Ea (Dv H.1 a) DH)).2 DI/\l'=DI++G:=by
 refine AO func145 ntmps145 λE=>?_;refine AR λb5=>?_;refine AR λb6=>?_;refine AR λb7=>?_;refine AP (Dr (vs:=[π b,.agg (τ (Cd a)),.agg (τ (Cd c)),.func (.func 189) #[] (τ [π b7])]) rfl rfl (Fn.mvP (λA=>GT b7 DH::Dz b6 c::Dz b5 a::(A++G)) (Q4 b H n hI hn lq hq a c 189 [π b7] (λd=>Ea d DH) (λd h=>Nw h DH) [GT b7 DH] (λd l2 hd hx=>cx d hd b7 DH l2 (hx _ (.head _))) (GT b7 DH::Dz b6 c::Dz b5 a::G) (Da (.head _))))) ?_;rintro _ _ ⟨rfl,DI,hq',rfl⟩;refine Aj ?_;exact Bc (l':=DI++G) σ ⟨rfl,_,hq',rfl⟩
theorem RR(b:Nat)(H:HS)(n:Nat)(hI:InvH H n)(hn:n<=1000)(lq:Ac)(hq:IsH b H lq)(a c:Ch)(DH:Int)(Ez:Nat)(hd:Ez<18446744073709551616)(G:Ac):
 Fn prog 149 [π b,.agg (τ (Cd a)),.agg (τ (Cd c)),ι DH,υ (Ez:Nat)] (lq++G) λv l'=>v= ι (F7 H a c (HT (Dv H.1 a) DH Ez)).1/\ ∃DI,IsH b (F7 H a c (HT (Dv H.1 a) DH Ez)).2 DI/\l'=DI++G:=by
 refine AO func149 ntmps149 λE=>?_;refine AR λb5=>?_;refine AR λb6=>?_;refine AR λb7=>?_;refine AR λb8=>?_;refine AP (Dr (vs:=[π b,.agg (τ (Cd a)),.agg (τ (Cd c)),.func (.func 195) #[] (τ [π b7,π b8])]) rfl rfl (Fn.mvP (λA=>RM b8 Ez::GT b7 DH::Dz b6 c::Dz b5 a::(A++G)) (Q4 b H n hI hn lq hq a c 195 [π b7,π b8] (λd=>HT d DH Ez) (λd h=>Uf h DH Ez) [GT b7 DH,RM b8 Ez] (λd l2 hd2 hx=>cy d hd2 b7 b8 DH Ez hd l2 (hx _ (.head _)) (hx _ ν)) (RM b8 Ez::GT b7 DH::Dz b6 c::Dz b5 a::G) (λx hx=>by
  rcases Au.1 hx with rfl|hx
  ·exact .tail _ (.head _)
  ·rw[Ay.1 hx];exact .head _)))) ?_
 rintro _ _ ⟨rfl,DI,hq',rfl⟩;refine Aj ?_;exact Bc (l':=DI++G) φ ⟨rfl,_,hq',rfl⟩
namespace Th
variable{es:List LK}{clock:Nat}{a:Int}
structure ThT where
 id:Int
 st:Int
 pr:Int
 m0:Int
 m1:Int
 m2:Int
 m3:Int
 bd:Int
 got:Bool
 ca:Int
 wa:Int
 o0:Int
 o1:Int
 o2:Int
 o3:Int
 ob:Int
 gv:Int
 inn:Int
 cl:Bool
 fa:Bool
 hs:Bool
 wr:Bool
 va:Int
 vl:Int
variable{t:ThT}
abbrev encH(t:ThT):Ap:=[ι t.id,ι t.st,ι t.pr,υ t.m0,υ t.m1,υ t.m2,υ t.m3,υ t.bd,.bool t.got,ι t.ca,ι t.wa,υ t.o0,υ t.o1,υ t.o2,υ t.o3,υ t.ob,ι t.gv,ι t.inn,.bool t.cl,.bool t.fa,.bool t.hs,.bool t.wr,υ t.va,υ t.vl]
abbrev thK:List (Option IntKind):=[some .i64,some .i64,some .i64,some .u64,some .u64,some .u64,some .u64,some .u64,none,some .i64,some .i64,some .u64,some .u64,some .u64,some .u64,some .u64,some .i64,some .i64,none,none,none,none,some .u64,some .u64]
theorem encH_k(t:ThT):AllK thK (encH t):=⟨_,_,rfl,⟨_,rfl⟩,_,_,rfl,⟨_,rfl⟩,_,_,rfl,⟨_,rfl⟩,_,_,rfl,⟨_,rfl⟩,_,_,rfl,⟨_,rfl⟩,_,_,rfl,⟨_,rfl⟩,_,_,rfl,⟨_,rfl⟩,_,_,rfl,⟨_,rfl⟩,_,_,rfl,⟨_,rfl⟩,_,_,rfl,⟨_,rfl⟩,_,_,rfl,⟨_,rfl⟩,_,_,rfl,⟨_,rfl⟩,_,_,rfl,⟨_,rfl⟩,_,_,rfl,⟨_,rfl⟩,_,_,rfl,⟨_,rfl⟩,_,_,rfl,⟨_,rfl⟩,_,_,rfl,⟨_,rfl⟩,_,_,rfl,⟨_,rfl⟩,_,_,rfl,⟨_,rfl⟩,_,_,rfl,⟨_,rfl⟩,_,_,rfl,⟨_,rfl⟩,_,_,rfl,⟨_,rfl⟩,_,_,rfl,⟨_,rfl⟩,_,_,rfl,⟨_,rfl⟩,rfl⟩
theorem encH_inj: ∀x y,encH x=encH y->x=y:=λx y h=>by cases x;cases y;simp only[encH,Cj,Value.int.injEq,Value.bool.injEq,GH,IC] at h;simp only[ThT.mk.injEq];exact h
instance:EQ prog 79 thK:=⟨Bu⟩
abbrev thZ:ThT:=⟨0,0,0,0,0,0,0,0,false,0,0,0,0,0,0,0,0,0,false,false,false,false,0,0⟩
abbrev nM(id:Int):ThT:=⟨id,0,0,0,0,0,0,0,false,0,0,0,0,0,0,0,4096,4096,false,false,false,false,0,0⟩
def mayH(t:ThT):Bool:=decide (1<=t.id)&&decide (0<=t.st)&&decide (t.st<=4)&&decide (0<=t.pr)&&decide (t.pr<=7)&&decide (0<=t.ca)&&decide (0<=t.wa)&&decide (0<=t.gv)&&decide (t.gv<=4096)&&decide (0<=t.inn)&&decide (t.inn<=4096)
abbrev TL:=List ThT
variable{L:TL}
def findH(L:TL)(a:Int):Option ThT:=L.find? λt=>decide (t.id=a)
theorem K4(a:Int): ∀(es:List LK) (i:Nat),Hj a es i=E4 a es i
 |[],i=>rfl
 |e::es,i=>by unfold Hj E4;rw[K4 a es (i+1)]
theorem J5(a:Int)(es:List LK):LL a es=Ih a es:=by unfold LL Ih;rw[K4]
theorem Xv(a:Int)(v:Value)(clock:Nat)(es:List LK):OD a v clock es=LN a v clock es:=by unfold OD LN;rw[K4]<;>rfl
theorem bW(a:Int)(es:List LK):P4 a es=PF a es:=by unfold P4 PF;rw[K4]<;>rfl
theorem Ua:a∈es.map (·.1)<->(Ih a es).isSome=true:=by
 unfold Ih;cases h:E4 a es 0 with
 |none=>
  simp only[DP,FL,Bn,iff_false];exact λhm=>by obtain⟨e,he,h2⟩:=Ax.1 hm;exact IX.1 h e he h2
 |some p=>obtain⟨A,e,B,rfl,_,h1,_⟩:=HO (k:=p.1) (v:=p.2) h;simp[h1]
structure XB(L:TL)(es:List LK)(clock:Nat):Prop where
 ok:KeysOk es clock
 get: ∀a,LL a es=(findH L a).map λt=> .agg (τ (encH t))
 asc:L.Pairwise λx y=>x.id<y.id
theorem XB.zero:XB [] [] 0:=⟨⟨by simp,by simp,by simp⟩,λa=>rfl,by simp⟩
theorem findH_some(h:findH L a=some t):t∈L/\t.id=a:=⟨BE h,by simpa using Eb h⟩
theorem Qd:findH L a=none<-> ∀t,t∈L->t.id≠a:=by unfold findH;rw[Bp];simp
theorem XB.nd(h:XB L es clock):(L.map ThT.id).Nodup:=by refine(Cz.2 (h.asc.imp λVm=>?_));omega
theorem XB.keys(h:XB L es clock):(es.map (·.1)).Perm (L.map ThT.id):=by
 refine(FM h.ok.keys h.nd).2 λa=>?_;rw[Ua,<-J5,h.get];cases hf:findH L a with
 |none=>
  simp only[DP,FL,Bn,false_iff];exact λhm=>by obtain⟨t,ht,h2⟩:=Ax.1 hm;exact Qd.1 hf t ht h2
 |some t=>obtain⟨h1,h2⟩:=findH_some hf;simp only[BY,IU,true_iff];exact Ax.2 ⟨t,h1,h2⟩
theorem XB.len(h:XB L es clock):es.length=L.length:=by simpa using h.keys.length_eq
theorem XB.at_(h:XB L es clock)(ht:t∈L):findH L t.id=some t:=by
 cases hf:findH L t.id with
 |none=>exact absurd rfl (Qd.1 hf t ht)
 |some u=>obtain⟨h1,h2⟩:=findH_some hf;rw[OI h.nd h1 ht h2]
def insH(L:TL)(t:ThT):TL:=L.takeWhile (λx=>decide (x.id<t.id))++t::L.dropWhile λx=>decide (x.id<t.id)
theorem Lt{α:Type}{p q:α->Bool}: ∀{l:List α},(∀x,x∈l->p x=q x)->l.find? p=l.find? q
 |[],_=>rfl
 |x::l,h=>by rw[BH,BH,h x Al,Lt λy hy=>h y (An _ hy)]
def addD(L:TL)(id:Int):Int×TL:=if id<1 then(2,L) else if(findH L id).isSome=true then(11,L) else(0,insH L (nM id))
def dropD(L:TL)(id:Int):Int×TL:=if(findH L id).isSome=true then(0,L.filter λx=>decide (x.id≠id)) else(2,L)
def putH(L:TL)(t:ThT):TL:=L.map λx=>if x.id=t.id then t else x
def setD(L:TL)(t:ThT):Int×TL:=if(findH L t.id).isSome=true/\mayH t=true then(0,putH L t) else(2,L)
def serverD(L:TL)(id:Int):Int:=if id=0 then 0 else match L.find? (λt=>decide (t.ca=id)) with
 |some t=>t.id
 |none=>0
theorem FG{α:Type}(p:α->Bool): ∀(A B:List α),(A++B).find? p=(A.find? p).or (B.find? p)
 |[],B=>rfl
 |x::A,B=>by
  rw[Ae,BH,BH];cases p x with
  |true=>rfl
  |false=>exact FG p A B
theorem XB.add(h:XB L es clock)(hn:findH L t.id=none):XB (insH L t) (OD t.id (.agg (τ (encH t))) clock es).1 (OD t.id (.agg (τ (encH t))) clock es).2:=by
 have GS:=Qd.1 hn;have GK: ∀x,x∈L.takeWhile (λx=>decide (x.id<t.id))->x.id<t.id:=λx hx=>by simpa using AS.1 (IV (l:=L) (p:=λx=>decide (x.id<t.id))) x hx
 have hL:L.takeWhile (λx=>decide (x.id<t.id))++L.dropWhile (λx=>decide (x.id<t.id))=L:=Ci ..;have hs:=h.asc;rw[<-hL,Br] at hs;have YB: ∀x,x∈L.dropWhile (λx=>decide (x.id<t.id))->t.id<x.id:=λx hx=>by
  cases hd:L.dropWhile (λx=>decide (x.id<t.id)) with
  |nil=>rw[hd] at hx;cases hx
  |cons y r=>
   have hy:¬y.id<t.id:=by have:=List.head?_dropWhile_not (λx:ThT=>decide (x.id<t.id)) L;rw[hd] at this;simpa using this
   have hyL:y∈L:=(Jp _).subset (by rw[hd];exact Al);have:=GS y hyL;rw[hd] at hx;rcases Au.1 hx with rfl|hx
   ·omega
   ·have h2:=hs.2.1;rw[hd] at h2;have:=(Ck.1 h2).1 x hx;omega
 rw[Xv];refine⟨h.ok.set _ _,λa=>?_,?_⟩
 ·rw[J5,Ko,<-J5,h.get];unfold insH findH;rw[FG,BH];have e0:L.find? (λt=>decide (t.id=a))=((L.takeWhile (λx=>decide (x.id<t.id))).find? (λt=>decide (t.id=a))).or ((L.dropWhile (λx=>decide (x.id<t.id))).find? (λt=>decide (t.id=a))):=by rw[<-FG,hL]
  rw[e0];by_cases ha:a=t.id
  ·subst ha;rw[Ad rfl,Aq rfl];have:(L.takeWhile (λx=>decide (x.id<t.id))).find? (λx=>decide (x.id=t.id))=none:=Bp.2 λx hx=>by have:=GK x hx;simp;omega
   rw[this];rfl
  ·rw[Ab ha,Av λe=>ha e.symm]
 ·unfold insH;refine Br.2 ⟨hs.1,Ck.2 ⟨λx hx=>YB x hx,hs.2.1⟩,λx hx y hy=>?_⟩;have h1:=GK x hx;rcases Au.1 hy with rfl|hy
  ·exact h1
  ·have:=YB y hy;omega
theorem XB.drop(h:XB L es clock)(a:Int):XB (L.filter λx=>decide (x.id≠a)) (P4 a es) clock:=by
 rw[bW];refine⟨h.ok.del a,λc=>?_,h.asc.filter _⟩;rw[J5,QJ h.ok,<-J5,h.get];unfold findH;rw[List.find?_filter];by_cases hc:c=a
 ·subst hc;rw[Ad rfl];rw[show L.find? (λx=>decide (decide (x.id≠c)=true/\decide (x.id=c)=true))=none from Bp.2 λx _=>by simp];rfl
 ·rw[Ab hc];congr 1;apply Lt;intro x _;by_cases hx:x.id=c
  ·simp[hx,hc]
  ·simp[hx]
theorem nN(L:TL)(t:ThT):(putH L t).map ThT.id=L.map ThT.id:=by
 unfold putH;rw[CO];apply Bs;intro x _;show(if x.id=t.id then t else x).id=x.id
 split
 ·rename_i h;exact h.symm
 ·rfl
theorem OT(L:TL)(t:ThT)(a:Int):findH (putH L t) a=if a=t.id then(findH L a).map λ_=>t else findH L a:=by
 unfold findH putH
 induction L with
 |nil=>split<;>rfl
 |cons x L ih=>
  rw[AK,BH,BH];by_cases hx:x.id=t.id
  ·rw[Ad hx,hx];by_cases ha:t.id=a
   ·rw[Aq ha,Ad ha.symm];rfl
   ·rw[Av ha,Ab λe=>ha e.symm];rw[Ab λe=>ha e.symm] at ih;exact ih
  ·rw[Ab hx];by_cases ha:x.id=a
   ·rw[Aq ha,Ab λe=>hx (ha.trans e)]
   ·rw[Av ha];exact ih
theorem XB.put(h:XB L es clock)(hn:(findH L t.id).isSome=true):XB (putH L t) (OD t.id (.agg (τ (encH t))) clock es).1 (OD t.id (.agg (τ (encH t))) clock es).2:=by
 rw[Xv];refine⟨h.ok.set _ _,λa=>?_,?_⟩
 ·rw[J5,Ko,<-J5,h.get,OT];by_cases ha:a=t.id
  ·rw[Ad ha,Ad ha,ha];obtain⟨u,hu⟩:=IB.1 hn;rw[hu];rfl
  ·rw[Ab ha,Ab ha]
 ·have h2:(L.map ThT.id).Pairwise (λx y=>x<y):=Cz.2 h.asc;rw[<-nN L t] at h2;exact Cz.1 h2
abbrev xC(b m:Nat):Bh:=(b,.cells (τ [.map (some m)]) 277 (0,0))
def IsX(b:Nat)(L:TL)(lq:Ac):Prop:= ∃m es clock,lq=[xC b m,(m,Ge .i64 es clock)]/\XB L es clock
abbrev thV(t:ThT):Value:= .agg (τ (encH t))
abbrev thC(B:Nat)(t:ThT):Bh:=(B,.cells (τ (encH t)) 79 (0,0))
theorem new_any(l:Ac):Fn prog 131 [] l λv l'=> ∃b,v= π b/\ ∃lq,IsX b [] lq/\l'=lq++l:=by refine AO func131 ntmps131 λE=>?_;refine gz ?_;refine AP Pd ?_;rintro _ _ ⟨m,hm,rfl,rfl⟩;refine Iy λb=>?_;exact Bc .refl ⟨b,rfl,_,⟨m,[],0,rfl,XB.zero⟩,rfl⟩
theorem QR(t:ThT)(l:Ac):Fn prog 150 [thV t] l λv l'=>v= .bool (mayH t)/\l'=l:=by
 refine AO func150 ntmps150 λE=>?_;refine gz ?_
 (first|refine AP (EA rfl rfl) ?_|refine AP (Cw rfl) ?_);rintro _ _ ⟨b,_,rfl,rfl⟩
 by_cases h0:1<=t.id
 case neg=>
  have e:mayH t=false:=by unfold mayH;rw[Av h0];simp
  rw[e];exact Fd
 by_cases h1:0<=t.st
 case neg=>
  have e:mayH t=false:=by unfold mayH;rw[Av h1];simp
  rw[e];exact Fd
 by_cases h2:t.st<=4
 case neg=>
  have e:mayH t=false:=by unfold mayH;rw[Av h2];simp
  rw[e];exact Fd
 by_cases h3:0<=t.pr
 case neg=>
  have e:mayH t=false:=by unfold mayH;rw[Av h3];simp
  rw[e];exact Fd
 by_cases h4:t.pr<=7
 case neg=>
  have e:mayH t=false:=by unfold mayH;rw[Av h4];simp
  rw[e];exact Fd
 by_cases h5:0<=t.ca
 case neg=>
  have e:mayH t=false:=by unfold mayH;rw[Av h5];simp
  rw[e];exact Fd
 by_cases h6:0<=t.wa
 case neg=>
  have e:mayH t=false:=by unfold mayH;rw[Av h6];simp
  rw[e];exact Fd
 by_cases h7:0<=t.gv
 case neg=>
  have e:mayH t=false:=by unfold mayH;rw[Av h7];simp
  rw[e];exact Fd
 by_cases h8:t.gv<=4096
 case neg=>
  have e:mayH t=false:=by unfold mayH;rw[Av h8];simp
  rw[e];exact Fd
 by_cases h9:0<=t.inn
 case neg=>
  have e:mayH t=false:=by unfold mayH;rw[Av h9];simp
  rw[e];exact Fd
 have e:mayH t=decide (t.inn<=4096):=by unfold mayH;rw[Aq h0,Aq h1,Aq h2,Aq h3,Aq h4,Aq h5,Aq h6,Aq h7,Aq h8,Aq h9];simp
 rw[e];exact Fd
theorem XB.look(h:XB L es clock)(a:Int):(LL a es).getD (thV thZ)=thV ((findH L a).getD thZ):=by rw[h.get];cases findH L a<;>rfl
theorem XB.has(h:XB L es clock)(a:Int):(LL a es).isSome=(findH L a).isSome:=by rw[h.get];cases findH L a<;>rfl
theorem add_any(b:Nat)(L:TL)(lq:Ac)(hq:IsX b L lq)(id:Int)(G:Ac):
 Fn prog 140 [π b,ι id] (lq++G) λv l'=>v= ι (addD L id).1/\ ∃DI,IsX b (addD L id).2 DI/\l'=DI++G:=by
 have Nf:=hq;obtain⟨m,es,clock,rfl,hX⟩:=hq;refine AO func140 ntmps140 λE=>?_;by_cases h1:id<1
 ·rw[show addD L id=(2,L) by unfold addD;rw[Ad h1]];refine gz ?_;exact Bc .refl ⟨rfl,_,Nf,rfl⟩
 simp only[Ae,Ag];refine gz ?_;rw[hX.look,hX.has];refine gz ?_;refine AP e_alloc ?_;rintro _ _ ⟨b5,_,rfl,rfl⟩;iterate 4 refine gzS ?_
 cases hf:findH L id with
 |some t=>rw[show addD L id=(11,L) by unfold addD;rw[Ab h1,hf];rfl];refine gz ?_;exact Bc ζ ⟨rfl,_,Nf,rfl⟩
 |none=>rw[show addD L id=(0,insH L (nM id)) by unfold addD;rw[Ab h1,hf];rfl];refine gz ?_;refine Nk (Ma (a:=id) (es:=es) (clock:=clock) rfl rfl rfl D1) rfl rfl ?_;rintro _ _ ⟨rfl,rfl⟩;refine gz ?_;exact Bc ζ ⟨rfl,_,⟨m,_,_,rfl,hX.add (t:=nM id) hf⟩,rfl⟩
theorem get_any(b:Nat)(L:TL)(lq:Ac)(hq:IsX b L lq)(id:Int)(l:Ac)(CJ: ∀c,c∈lq->c∈l):
 Fn prog 95 [π b,ι id] l λv l'=>v= .tuple #[thV ((findH L id).getD thZ),.bool (findH L id).isSome]/\l'=l:=by
 obtain⟨m,es,clock,rfl,hX⟩:=hq;have Ym:=CJ _ (.head _);have Vo:=CJ _ ν;refine AO func95 ntmps95 λE=>?_;refine Iy λb4=>?_;rw[hX.look,hX.has];refine Iy λb6=>?_;exact CY (l':=l) (thC b6 ((findH L id).getD thZ)::thC b4 ((findH L id).getD thZ)::l) .refl θ ⟨rfl,rfl⟩
theorem set_any(b:Nat)(L:TL)(lq:Ac)(hq:IsX b L lq)(t:ThT)(G:Ac):
 Fn prog 96 [π b,thV t] (lq++G) λv l'=>v= ι (setD L t).1/\ ∃DI,IsX b (setD L t).2 DI/\l'=DI++G:=by
 have Nf:=hq;obtain⟨m,es,clock,rfl,hX⟩:=hq;refine AO func96 ntmps96 λE=>?_;simp only[Ae,Ag];refine Iy λb3=>?_;refine Ct [10,11] 13 _ ?_ (hR:=(λ_ h=>h));refine pz ?_;rw[hX.look,hX.has];refine pz ?_;apply CX
 ·exact e_alloc
 ·rfl
 ·rfl
 ·rfl
 ·rintro _ _ ⟨b5,_,_,rfl⟩ c hc;exact .tail _ hc
 rintro _ _ ⟨b5,_,rfl,rfl⟩;refine pz ?_;cases hf:findH L t.id with
 |none=>rw[show setD L t=(2,L) by unfold setD;rw[hf];simp];refine gz ?_;exact Bc θ ⟨rfl,_,Nf,rfl⟩
 |some u=>
  cases hM:mayH t with
  |false=>rw[show setD L t=(2,L) by unfold setD;rw[hf,hM];simp];refine gz ?_;refine MU (AI rfl rfl λl2 hl=>QR t l2) rfl rfl rfl ?_;rw[hM];refine gz ?_;exact Bc θ ⟨rfl,_,Nf,rfl⟩
  |true=>
   rw[show setD L t=(0,putH L t) by unfold setD;rw[hf,hM];simp];refine gz ?_;refine MU (AI rfl rfl λl2 hl=>QR t l2) rfl rfl rfl ?_;rw[hM];refine gz ?_;refine Ct [7] 8 ([thC b3 t,xC b m]) ?_;refine pz ?_;apply Oy
   ·exact Ma (a:=t.id) (es:=es) (clock:=clock) rfl rfl rfl D1
   ·rfl
   ·rfl
   ·rintro _ _ ⟨rfl,rfl⟩;exact Cm MV
   rintro _ _ ⟨rfl,rfl⟩;refine pz ?_;refine gz ?_;exact BF [] rfl θ Ba ⟨rfl,_,⟨m,_,_,rfl,hX.put (by rw[hf];rfl)⟩,rfl⟩
end Th
end Go.Proofs.YtlifcingifodfaaGreat
