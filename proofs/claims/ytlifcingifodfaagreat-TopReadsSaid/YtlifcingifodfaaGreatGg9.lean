/- Laws that the statement's proof leans on (joined out of several texts). -/
import Derived.Test.YtlifcingifodfaaGreatGg8
set_option maxHeartbeats 4000000
set_option linter.unusedVariables false
set_option linter.unusedSimpArgs false
namespace Go.Proofs.YtlifcingifodfaaGreat
open Tryz
open List(toArray)
variable{n m b bs bt:Nat}{s t a:Cs}{D:SD}{c:CapT}{ls lq:Ac}{T:Tr.DT}
namespace Tr
open Go.RowKit
set_option maxRecDepth 20000
variable{F:Nat->NdT}{D:DT}{n p m clock b rb q:Nat}{B os A pre:List Nat}{s a c:SlotT}{es:List (Hm SlotT)}{lq:Ac}
theorem C7{c:Bd}{l:Ac}(h:c∈l): ∀x,x∈[c]->x∈l:=λx hx=>by rw[AC.1 hx];exact h
abbrev Dv(B:Nat)(s:SlotT):Bd:=(B,.cells (toArray (Cw s)) 61 (0,0))
def hasD(D:DT)(s:SlotT):Bool:=(splitD s D).isSome
def rootD(D:DT)(s:SlotT):Int×DT:=if hasD D s=true then(11,D) else(0,D++[(s,0)])
def childD(D:DT)(par s:SlotT):Int×DT:=match splitD par D with
 |none=>(10,D)
 |some (A,d,B)=>if hasD D s=true then(11,D) else(0,A++(par,d)::(s,d+1)::B)
theorem Nq:hasD (Ft F os) s=(blk F os s).isSome:=by
 unfold hasD;cases h:blk F os s with
 |none=>rw[JY h];rfl
 |some p=>obtain⟨A,B,_,h2⟩:=Hf h;rw[h2];rfl
def SmallD(D:DT):Prop:= ∀x,x∈D-> -1000000<=x.2/\x.2<=1000000
theorem mp(p:Nat):(Ft F (A++p::B)).take (A.length+1)=Ft F A++[((F p).sl,(F p).dp)]:=by unfold Ft;rw[Aq,AJ,List.take_append,BD (by simp)];simp
theorem mq(p:Nat):(Ft F (A++p::B)).drop (A.length+1)=Ft F B:=by unfold Ft;rw[Aq,AJ,JM,DH (by simp)];simp
theorem root_any(b:Nat)(D:DT)(lq:Ac)(hq:IsT b D lq)(s:SlotT)(G:Ac):
 Fn prog 187 [.pointer (some ⟨b,0,none⟩),.agg (toArray (Cw s))] (lq++G) λv l'=>v= .int .i64 (rootD D s).1/\ ∃DF,IsT b (rootD D s).2 DF/\l'=DF++G:=by
 obtain⟨rb,m,F,all,os,es,clock,rfl,hT⟩:=hq;refine AN func187 ntmps187 λE=>?_;refine gz ?_;refine AS (CH rfl) ?_;rintro _ _ ⟨b3,hb3,rfl,rfl⟩;refine Bs (Keep.of_perm (l':=lq++(Dv b3 s::G)) AI.symm) ?_;have CG: ∀c,c∈lq->c∈lq++(Dv b3 s::G):=λc hc=>Ai _ hc;have hbm:Dv b3 s∈lq++(Dv b3 s::G):=Aa _ (.head _);refine gz ?_;refine Bh (AL (R:=lq++(Dv b3 s::G)) rfl rfl λl2 Lf=>of_any b rb m F all os es clock lq s hT l2 λc hc=>Lf c (CG c hc)) ?_;cases hbk:blk F os s with
 |some p=>rw[show rootD (Ft F os) s=(11,Ft F os) by unfold rootD;rw[Nq,hbk];rfl];simp only[No];refine gz ?_;exact Bb (l':=lq++G) (Keep.trans (.of_perm AI) (.drop .refl)) ⟨rfl,lq,⟨rb,m,F,all,os,es,clock,rfl,hT⟩,rfl⟩
 |none=>
  rw[show rootD (Ft F os) s=(0,Ft F os++[(s,0)]) by unfold rootD;rw[Nq,hbk];rfl];simp only[No];obtain⟨X,p,hX⟩: ∃X p,rb::os=X++[p]:=⟨_,_,(G6 (Mw rb os)).symm⟩
  have hpv:(F rb).pv=p:=hT.prv (Y:=[]) hX;have hXl:X.length=os.length:=by have:=BI List.length hX;simp at this;omega
  refine gz ?_;refine Cm [9] 10 ([]) ?_;refine pz ?_;apply Gp (S:=[Lp b rb m]);(·exact Vb);(·exact C7 (CG _ hT.m1));(·rfl);(·rfl);(·rfl);refine pz ?_;apply Gp (S:=[OF rb (F rb)]);(·exact Vb);(·exact C7 (CG _ (hT.m3 hT.rin)));(·rfl);(·rfl);(·rfl);refine pz ?_;rw[hpv];apply Gp (S:=[Dv b3 s]);(·exact Vb);(·exact C7 (hbm));(·rfl);(·rfl);(·rfl);refine pz ?_;apply G9
  ·exact Az rfl rfl (eu b rb m F all os es clock lq hT X [] p hX s 0 hbk (Dv b3 s::G))
  (·rfl);(·rfl);(·rfl);(·intro _ _ _ c hc;cases hc);(·exact λ_ _ _ x hx ha=>Dh BA hx ha)
  rintro _ _ ⟨rfl,DF,hq',rfl⟩;refine pz ?_;refine gz ?_;refine Bb (l':=DF++G) (Keep.trans (.of_perm AI) (.drop .refl)) ⟨rfl,DF,?_,rfl⟩;rw[hXl,BD (by simp[Ft]),DH (by simp[Ft])] at hq';exact hq'
theorem child_any(b:Nat)(D:DT)(lq:Ac)(hq:IsT b D lq)(hd:SmallD D)(par s:SlotT)(G:Ac):
 Fn prog 313 [.pointer (some ⟨b,0,none⟩),.agg (toArray (Cw par)),.agg (toArray (Cw s))] (lq++G) λv l'=>v= .int .i64 (childD D par s).1/\ ∃DF,IsT b (childD D par s).2 DF/\l'=DF++G:=by
 obtain⟨rb,m,F,all,os,es,clock,rfl,hT⟩:=hq;refine AN func313 ntmps313 λE=>?_;refine gz ?_;refine AS (CH rfl) ?_;rintro _ _ ⟨b4,hb4,rfl,rfl⟩;refine gz ?_;refine AS (CH rfl) ?_;rintro _ _ ⟨b5,zG,rfl,rfl⟩;have LA: ∀lq:Ac,Keep (lq++(Dv b5 s::Dv b4 par::G)) (lq++G):=λlq=>Keep.trans (.of_perm (AA lq [Dv b5 s,Dv b4 par] G)) (.drop (.drop .refl));refine Bs (Keep.of_perm (l':=lq++(Dv b5 s::Dv b4 par::G)) (AA [Dv b5 s,Dv b4 par] lq G)) ?_;have CG: ∀c,c∈lq->c∈lq++(Dv b5 s::Dv b4 par::G):=λc hc=>Ai _ hc;have hm4:Dv b4 par∈lq++(Dv b5 s::Dv b4 par::G):=Aa _ (.tail _ (.head _));have kD:Dv b5 s∈lq++(Dv b5 s::Dv b4 par::G):=Aa _ (.head _);refine gz ?_;refine Bh (AL (R:=lq++(Dv b5 s::Dv b4 par::G)) rfl rfl λl2 Lf=>of_any b rb m F all os es clock lq par hT l2 λc hc=>Lf c (CG c hc)) ?_;cases dB:blk F os par with
 |none=>rw[show childD (Ft F os) par s=(10,Ft F os) by unfold childD;rw[JY dB]];simp only[No];refine gz ?_;exact Bb (l':=lq++G) (LA lq) ⟨rfl,lq,⟨rb,m,F,all,os,es,clock,rfl,hT⟩,rfl⟩
 |some p=>
  simp only[No];refine gz ?_;refine Bh (AL (R:=lq++(Dv b5 s::Dv b4 par::G)) rfl rfl λl2 Lf=>of_any b rb m F all os es clock lq s hT l2 λc hc=>Lf c (CG c hc)) ?_;cases hbk:blk F os s with
  |some q=>rw[show childD (Ft F os) par s=(11,Ft F os) by unfold childD;obtain⟨A,B,_,h2⟩:=Hf dB;rw[h2];simp only;rw[Nq,hbk];rfl];simp only[No];refine gz ?_;exact Bb (l':=lq++G) (LA lq) ⟨rfl,lq,⟨rb,m,F,all,os,es,clock,rfl,hT⟩,rfl⟩
  |none=>
   obtain⟨A,B,NQ,h2⟩:=Hf dB;have NO:=(Iu dB).2;have uh:=(Iu dB).1;rw[show childD (Ft F os) par s=(0,Ft F A++(par,(F p).dp)::(s,(F p).dp+1)::Ft F B) by unfold childD;rw[h2];simp only;rw[Nq,hbk];rfl];have hX:rb::os=(rb::A)++p::B:=by rw[NQ];rfl
   have hr:=hd _ (Av.2 ⟨p,uh,rfl⟩);simp only at hr;simp only[No];refine gz ?_;refine Cm [8] 9 ([]) ?_;refine pz ?_;apply Gp (S:=[Dv b5 s]);(·exact Vb);(·exact C7 (kD));(·rfl);(·rfl);(·rfl);refine pz ?_;apply Gp (S:=[OF p (F p)]);(·exact Vb);(·exact C7 (CG _ (hT.m3 (hT.sub p uh))));(·rfl);(·rfl);(·rfl);refine pz ?_;apply G9
   ·exact Az rfl rfl (eu b rb m F all os es clock lq hT (rb::A) B p hX s _ hbk (Dv b5 s::Dv b4 par::G))
   (·rfl);(·rfl);(·rfl);(·intro _ _ _ c hc;cases hc);(·exact λ_ _ _ x hx ha=>Dh BA hx ha)
   rintro _ _ ⟨rfl,DF,hq',rfl⟩;refine pz ?_;refine gz ?_;refine Bb (l':=DF++G) (LA DF) ⟨rfl,DF,?_,rfl⟩;rw[Bu,NQ,mp,mq,NO] at hq';simpa using hq'
open Go.RowKit
set_option maxRecDepth 20000
theorem H0:blk F os s=none<-> ∀p,p∈os->(F p).sl≠s:=
 ⟨Kk,λh=>Bq.2 λq hq=>by simpa using h q hq⟩
theorem W3:blk F (A++p::B) s=(blk F A s).or (if(F p).sl=s then some p else blk F B s):=by
 unfold blk;rw[Eg,BJ];congr 1;by_cases h:(F p).sl=s
 ·rw[Au h,Ad h]
 ·rw[Aw h,Ab h]
theorem O6{F F':Nat->NdT}{s:SlotT}: ∀{os:List Nat},(∀q,q∈os->(F' q).sl=(F q).sl)->blk F' os s=blk F os s
 |[],_=>rfl
 |q::os,h=>by have ih:=O6 (s:=s) (os:=os) λz hz=>h z (An _ hz);unfold blk at ih⊢;rw[BJ,BJ,h q Ak,ih]
theorem O7{F':Nat->NdT}(h: ∀q,q∈os->(F' q).sl=(F q).sl/\(F' q).dp=(F q).dp):Ft F' os=Ft F os:=by unfold Ft;exact By λq hq=>by rw[(h q hq).1,(h q hq).2]
theorem TB.uniq{all:List Nat}(h:TB b rb m F all (A++p::B) es clock lq):(∀q,q∈A->(F q).sl≠(F p).sl)/\(∀q,q∈B->(F q).sl≠(F p).sl):=by
 have hn:=h.snd;rw[Aq,AJ] at hn;refine⟨λq hq e=>?_,λq hq e=>?_⟩
 ·exact(BC.1 hn).2.2 _ (Av.2 ⟨q,hq,rfl⟩) _ Ak e
 ·exact(AP.1 (BC.1 hn).2.1).1 (Av.2 ⟨q,hq,e⟩)
theorem TB.out{all:List Nat}(h:TB b rb m F all (A++p::B) es clock lq):p∉A/\p∉B/\rb∉A/\rb∉B/\p≠rb:=by have hn:=AP.1 h.ond;have h2:=BC.1 hn.2;refine⟨λhp=>h2.2.2 p hp p Ak rfl,(AP.1 h2.2.1).1,λhr=>hn.1 (Ai _ hr),λhr=>hn.1 (Aa _ (.tail _ hr)),λe=>hn.1 (by rw[<-e];simp)⟩
def moveD(D:DT)(a c:SlotT):Int×DT:=match splitD a D with
 |none=>(10,D)
 |some (A,d,B)=>if hasD D c=true then(11,D) else(0,A++(c,d)::B)
open Go.RowKit
set_option maxRecDepth 20000
def decW(d:Int)(B:DT):DT:=(B.takeWhile λx=>decide (d<x.2)).map (λx=>(x.1,x.2-1))++B.dropWhile λx=>decide (d<x.2)
def removeD(D:DT)(s:SlotT):Int×DT:=match splitD s D with
 |none=>(10,D)
 |some (A,d,B)=>(0,A++decW d B)
def Nr(F:Nat->NdT)(pre:List Nat):Nat->NdT:=λq=>if q∈pre then{F q with dp:=(F q).dp-1} else F q
theorem ML(h:q∉pre):Nr F pre q=F q:=Ab h
theorem ij{y:Nat}(h:y∉pre):upd (Nr F pre) y {F y with dp:=(F y).dp-1}=Nr F (pre++[y]):=by
 funext q;unfold upd Nr;by_cases e:q=y
 ·subst e;simp[h]
 ·simp[e]
theorem T4(F:Nat->NdT)(pre:List Nat)(q:Nat):(Nr F pre q).sl=(F q).sl/\(Nr F pre q).nx=(F q).nx/\(Nr F pre q).pv=(F q).pv:=by unfold Nr;split<;>exact⟨rfl,rfl,rfl⟩
theorem rO{d:Int}(hn:B.Nodup):Ft (Nr F (B.takeWhile λq=>decide (d<(F q).dp))) B=decW d (Ft F B):=by
 have e1:(Ft F B).takeWhile (λx=>decide (d<x.2))=Ft F (B.takeWhile λq=>decide (d<(F q).dp)):=by unfold Ft;rw[List.takeWhile_map];rfl
 have e2:(Ft F B).dropWhile (λx=>decide (d<x.2))=Ft F (B.dropWhile λq=>decide (d<(F q).dp)):=by unfold Ft;rw[List.dropWhile_map];rfl
 unfold decW;rw[e1,e2];obtain⟨tw,JA⟩: ∃tw,tw=B.takeWhile λq=>decide (d<(F q).dp):=⟨_,rfl⟩
 obtain⟨dw,hdw⟩: ∃dw,dw=B.dropWhile λq=>decide (d<(F q).dp):=⟨_,rfl⟩
 have hB:B=tw++dw:=by rw[JA,hdw,Cd]
 rw[<-JA,<-hdw,hB];unfold Ft;rw[Aq,CY];congr 1
 ·apply By;intro q hq;unfold Nr;rw[Ad hq];rfl
 ·apply By;intro q hq;rw[hB] at hn;rw[ML λh=>(BC.1 hn).2.2 q h q hq rfl]
theorem PQ{F F':Nat->NdT}{p x n:Nat}{Z:List Nat}: ∀{X:List Nat},rL F (X++p::x::n::Z)->(X++p::x::n::Z).dropLast.Nodup->(X++p::x::n::Z).tail.Nodup->
 (∀u,u≠p->(F' u).nx=(F u).nx)->(∀v,v≠n->(F' v).pv=(F v).pv)->(F' p).nx=n->(F' n).pv=p->rL F' (X++p::n::Z)
 |[],⟨h1,h2,h3,h4,h5⟩,hs,ht,hn,hp,k1,k2=>by
  refine⟨k1,k2,OH h5 (λu hu=>hn u ?_) λv hv=>hp v ?_⟩
  ·rintro rfl;have:(u::x::(n::Z).dropLast).Nodup:=by simpa using hs
   exact(AP.1 this).1 (.tail _ hu)
  ·rintro rfl;have:(x::v::Z).Nodup:=by simpa using ht
   exact(AP.1 (AP.1 this).2).1 hv
 |[a],⟨h1,h2,h3⟩,hs,ht,hn,hp,k1,k2=>by
  have Sn:(a::(p::x::n::Z).dropLast).Nodup:=by simpa using hs
  have M1:=AP.1 Sn;have ag:(p::x::n::Z).Nodup:=by simpa using ht
  have ah:=AP.1 ag;refine⟨by rw[hn a (λe=>M1.1 (by rw[e];simp[List.dropLast]))];exact h1,by rw[hp p (λe=>ah.1 (by rw[e];simp))];exact h2,?_⟩;exact PQ (X:=[]) h3 M1.2 ah.2 hn hp k1 k2
 |a::b::X,⟨h1,h2,h3⟩,hs,ht,hn,hp,k1,k2=>by
  have Sn:(a::((b::X)++p::x::n::Z).dropLast).Nodup:=by have:((a::b::X)++p::x::n::Z).dropLast=a::((b::X)++p::x::n::Z).dropLast:=G5 (by simp);rwa [this] at hs
  have M1:=AP.1 Sn;have ag:(b::(X++p::x::n::Z)).Nodup:=ht;have ah:=AP.1 ag;have zD:p∈((b::X)++p::x::n::Z).dropLast:=by rw[JO (by simp)];exact Aa _ (by simp[List.dropLast])
  refine⟨by rw[hn a (λe=>M1.1 (by rw[e];exact zD))];exact h1,by rw[hp b (λe=>ah.1 (by rw[e];simp))];exact h2,?_⟩;exact PQ (X:=b::X) h3 M1.2 ah.2 hn hp k1 k2
open Go.RowKit
set_option maxRecDepth 20000
section
variable{P:Program}{ro:Option Nat}{N:Nat}{fr:Fr}{R:Ac}{d:Option Nat}{ty t t2:TypeId}{pos:String}{aft:Array Edge}{g:Option (Nat×Bool)}{x y:Operand}
theorem mu{p:Option Addr}{e:Nat}(hx:ev fr x=some (.pointer none))(hy:ev fr y=some (.pointer p))[c:PT P t e]:OpQ P ro N fr R ⟨d,.binOp .eql t x y t2,ty,pos,aft,g⟩ (.bool p.isNone):=BN rfl λρ l hρ _=>by simp only[execOp,hρ x _ hx,hρ y _ hy,AB,Kd,Bn,binOp];unfold Op.equal Op.maxDepth Op.equalIn;rw[Cc (Od c.out)];cases p<;>exact⟨rfl,rfl⟩
end
theorem AbJ(q:Nat):decide ((⟨q,0,none⟩:Addr)=⟨q,0,none⟩)=true:=Au rfl
theorem AbK{r:Nat}(h:q≠r):decide ((⟨q,0,none⟩:Addr)=⟨r,0,none⟩)=false:=Aw λe=>h (by injection e)
theorem ey{κ:Type}[DecidableEq κ]{a:κ}{u:Value}{es:List (Hm κ)}(hk:KeysOk es clock)(h:HW a es=some u)(v:Value): ∃A e B,es=A++e::B/\e.1=a/\(∀x∈A,x.1≠a)/\(∀x∈A,x.2.2≠e.2.2)/\A++(e.1,v,e.2.2)::B=(LI a v clock es).1/\(LI a v clock es).2=clock:=by
 unfold HW at h;cases hf:E0 a es 0 with
 |none=>rw[hf] at h;cases h
 |some p=>
  obtain⟨k,w⟩:=p;obtain⟨A,e,B,rfl,rfl,h1,h2,h3⟩:=HC hf;have hm:(A++e::B).modify A.length (λx=>(x.1,v,x.2.2))=A++(e.1,v,e.2.2)::B:=HA _ e B A;refine⟨A,e,B,rfl,h1,h3,λx hx e'=>?_,?_,?_⟩
  ·have hs:=hk.stamps;rw[Aq,AJ] at hs;exact(BC.1 hs).2.2 _ (Av.2 ⟨x,hx,rfl⟩) _ Ak e'
  ·unfold LI;rw[hf];exact hm.symm
  ·unfold LI;rw[hf]
def MM(a c:SlotT)(x:SlotT×Int):SlotT×Int:=if x.1=a then(c,x.2) else if x.1=c then(a,x.2) else x
def swapD(D:DT)(a c:SlotT):DT:=D.map (MM a c)
theorem ik(a:SlotT)(x:SlotT×Int):MM a a x=x:=by
 unfold MM;by_cases h:x.1=a
 ·rw[Ad h,<-h]
 ·rw[Ab h,Ab h]
def swf(a c s:SlotT):SlotT:=if s=a then c else if s=c then a else s
theorem swpS_fst(a c:SlotT)(x:SlotT×Int):(MM a c x).1=swf a c x.1:=by
 unfold MM swf;by_cases h:x.1=a
 ·rw[Ad h,Ad h]
 ·rw[Ab h,Ab h];by_cases h2:x.1=c
  ·rw[Ad h2,Ad h2]
  ·rw[Ab h2,Ab h2]
theorem swf_swf(a c s:SlotT):swf a c (swf a c s)=s:=by
 unfold swf;by_cases h:s=a
 ·rw[Ad h];by_cases h3:c=a
  ·rw[Ad h3,h,h3]
  ·rw[Ab h3,Ad rfl,h]
 ·rw[Ab h];by_cases h2:s=c
  ·rw[Ad h2,Ad rfl,h2]
  ·rw[Ab h2,Ab h,Ab h2]
theorem YV{x y:SlotT×Int}(h:(MM a c x).1=(MM a c y).1):x.1=y.1:=by rw[swpS_fst,swpS_fst] at h;rw[<-swf_swf a c x.1,h,swf_swf]
theorem il(a c:SlotT)(x:SlotT×Int):MM a c x=MM c a x:=by
 unfold MM;by_cases h:x.1=a
 ·by_cases h2:x.1=c
  ·rw[Ad h,Ad h2,<-h,<-h2]
  ·rw[Ad h,Ab h2,Ad h]
 ·rw[Ab h,Ab h]
theorem bf(D:DT)(a c:SlotT):swapD D a c=swapD D c a:=By λx _=>il a c x
theorem T5(ha: ∀q,q∈os->(F q).sl≠a)(hc: ∀q,q∈os->(F q).sl≠c):swapD (Ft F os) a c=Ft F os:=by
 unfold swapD Ft;rw[CY];exact By λq hq=>by show MM a c ((F q).sl,(F q).dp)=_;unfold MM;rw[Ab (ha q hq),Ab (hc q hq)]
theorem VY{all:List Nat}(hT:TB b rb m F all os es clock lq)(h1:blk F os a=some p)(h2:blk F os c=none):moveD (Ft F os) a c=(0,swapD (Ft F os) a c):=by
 unfold moveD;obtain⟨A,B,rfl,hs⟩:=Hf h1;have NO:=(Iu h1).2;rw[hs];simp only;rw[Nq,h2];simp only[FA,Bm,C6];obtain⟨uA,uB⟩:=hT.uniq;rw[NO] at uA uB;have IU:=Kk h2;have e:swapD (Ft F (A++p::B)) a c=swapD (Ft F A) a c++MM a c ((F p).sl,(F p).dp)::swapD (Ft F B) a c:=by unfold swapD Ft;rw[Aq,AJ,Aq,AJ]
 rw[e,T5 uA λq hq=>IU q (Ai _ hq),T5 uB λq hq=>IU q (Aa _ (.tail _ hq))];congr 3;unfold MM;rw[Ad NO]
open Go.RowKit
set_option maxRecDepth 20000
def DepOk:Int->DT->Prop
 |_,[]=>True
 |e,x::r=>0<=x.2/\x.2<=e/\DepOk (x.2+1) r
theorem DepOk.mono: ∀{D:DT} {e f:Int},DepOk e D->e<=f->DepOk f D
 |[],_,_,_,_=>trivial
 |x::r,e,f,⟨h1,h2,h3⟩,h=>⟨h1,Af,h3⟩
theorem DepOk.bound: ∀{D:DT} {e:Int},DepOk e D-> ∀x,x∈D->0<=x.2/\x.2<=e+D.length
 |[],_,_,x,hx=>by cases hx
 |y::r,e,⟨h1,h2,h3⟩,x,hx=>by
  rw[Bu];rcases At.1 hx with rfl|hx
  ·exact⟨h1,Af⟩
  ·have:=DepOk.bound h3 x hx;exact⟨this.1,Af⟩
def YW:Int->DT->Int
 |e,[]=>e
 |_,x::r=>YW (x.2+1) r
theorem DepOk.app: ∀{A B:DT} {e:Int},DepOk e (A++B)<->DepOk e A/\DepOk (YW e A) B
 |[],B,e=>⟨λh=>⟨trivial,h⟩,λh=>h.2⟩
 |x::A,B,e=>by show 0<=x.2/\x.2<=e/\DepOk (x.2+1) (A++B)<->(0<=x.2/\x.2<=e/\DepOk (x.2+1) A)/\DepOk (YW (x.2+1) A) B;rw[DepOk.app (A:=A)];exact⟨λ⟨h1,h2,h3,h4⟩=>⟨⟨h1,h2,h3⟩,h4⟩,λ⟨⟨h1,h2,h3⟩,h4⟩=>⟨h1,h2,h3,h4⟩⟩
theorem DepOk.last: ∀{A:DT} {e:Int},DepOk e A->0<=e->0<=YW e A
 |[],_,_,h=>h
 |x::A,e,⟨h1,_,h3⟩,_=>by show 0<=YW (x.2+1) A;exact DepOk.last h3 Af
theorem DepOk.dec{d:Int}(hd:0<=d): ∀{B:DT} {e f:Int},DepOk e B->e<=f+1->d<=f->DepOk f (decW d B)
 |[],_,_,_,_,_=>trivial
 |x::r,e,f,⟨h1,h2,h3⟩,he,hf=>by
  by_cases h:d<x.2
  ·have e1:decW d (x::r)=(x.1,x.2-1)::decW d r:=by
    unfold decW;rw[Ht (by simpa using h),List.dropWhile_cons_of_pos (by simpa using h)];rfl
   rw[e1];refine⟨by simp only;omega,by simp only;omega,?_⟩;exact DepOk.dec hd h3 (by simp only;omega) (by simp only;omega)
  ·have e1:decW d (x::r)=x::r:=by
    unfold decW;rw[Fz (by simpa using h),Hs (by simpa using h)];rfl
   rw[e1];exact⟨h1,Af,h3⟩
theorem decW_fst(d:Int)(B:DT):(decW d B).map Prod.fst=B.map Prod.fst:=by unfold decW;rw[Aq,CY];have:(List.takeWhile (λx:SlotT×Int=>decide (d<x.2)) B).map (Prod.fst∘λx=>(x.1,x.2-1))=(List.takeWhile (λx:SlotT×Int=>decide (d<x.2)) B).map Prod.fst:=rfl;rw[this,<-Aq,Cd]
theorem T6(d:Int)(B:DT):(decW d B).length=B.length:=by have:=BI List.length (decW_fst d B);simpa using this
structure GoodT(D:DT)(n:Nat):Prop where
 nd:(D.map Prod.fst).Nodup
 dep:DepOk 0 D
 len:D.length<=n
theorem GoodT.small(h:GoodT D n)(hn:n<=1000000):SmallD D:=λx hx=>by have:=h.dep.bound x hx;have:=h.len;omega
theorem splitD_some{s:SlotT}: ∀{D A B:DT} {d:Int},splitD s D=some (A,d,B)->D=A++(s,d)::B/\ ∀x,x∈A->x.1≠s
 |[],_,_,_,h=>by cases h
 |y::r,A,B,d,h=>by
  unfold splitD at h;by_cases e:y.1=s
  ·rw[Ad e] at h;cases h;refine⟨by rw[<-e];rfl,by simp⟩
  ·rw[Ab e] at h;cases h2:splitD s r with
   |none=>rw[h2] at h;cases h
   |some z=>
    rw[h2] at h;obtain⟨A',d',B'⟩:=z;cases h;obtain⟨rfl,h3⟩:=splitD_some h2;refine⟨rfl,λx hx=>?_⟩;rcases At.1 hx with rfl|hx
    ·exact e
    ·exact h3 x hx
theorem OI{s:SlotT}: ∀{D:DT},splitD s D=none<-> ∀x,x∈D->x.1≠s
 |[]=>⟨λ_ x hx=>(by cases hx),λ_=>rfl⟩
 |y::r=>by
  unfold splitD;by_cases e:y.1=s
  ·rw[Ad e];exact⟨λh=>(by cases h),λh=>absurd e (h y Ak)⟩
  ·rw[Ab e];constructor
   ·intro h x hx;have h2:splitD s r=none:=by cases h2:splitD s r with|none=>rfl|some z=>rw[h2] at h;cases h
    rcases At.1 hx with rfl|hx
    ·exact e
    ·exact OI.1 h2 x hx
   ·intro h;rw[OI.2 λx hx=>h x (An _ hx)];rfl
theorem hasD_no:hasD D s=false<-> ∀x,x∈D->x.1≠s:=by unfold hasD;rw[<-OI];cases splitD s D<;>simp
theorem hasD_yes:hasD D s=true<->s∈D.map Prod.fst:=by
 constructor
 ·intro h;unfold hasD at h;cases h2:splitD s D with
  |none=>rw[h2] at h;cases h
  |some z=>obtain⟨A,d,B⟩:=z;rw[(splitD_some h2).1];simp
 ·intro h;cases h2:hasD D s with
  |true=>rfl
  |false=>obtain⟨x,hx,rfl⟩:=Av.1 h;exact absurd rfl (hasD_no.1 h2 x hx)
theorem GoodT.mono(h:GoodT D n)(hm:n<=m):GoodT D m:=⟨h.nd,h.dep,BV h.len hm⟩
theorem GoodT.root(h:GoodT D n)(s:SlotT):GoodT (rootD D s).2 (n+1):=by
 unfold rootD;by_cases hs:hasD D s=true
 ·rw[Ad hs];exact h.mono Af
 ·rw[Ab hs];have IU:=hasD_no.1 (by simpa using hs);refine⟨?_,DepOk.app.2 ⟨h.dep,by simp only;omega,h.dep.last Af,trivial⟩,by have:=h.len;simp;omega⟩;rw[Aq,BC];refine⟨h.nd,by simp,λa ha c hc e=>?_⟩;obtain⟨x,hx,rfl⟩:=Av.1 ha;exact IU x hx (by rw[e];simpa using hc)
theorem GoodT.child(h:GoodT D n)(p s:SlotT):GoodT (childD D p s).2 (n+1):=by
 unfold childD;cases h2:splitD p D with
 |none=>exact h.mono Af
 |some z=>
  obtain⟨A,d,B⟩:=z;simp only;by_cases hs:hasD D s=true
  ·rw[Ad hs];exact h.mono Af
  ·rw[Ab hs];have IU:=hasD_no.1 (by simpa using hs);obtain⟨rfl,hA⟩:=splitD_some h2;obtain⟨h3,h4,h5,h6⟩:=DepOk.app.1 h.dep;refine⟨?_,DepOk.app.2 ⟨h3,h4,h5,by simp only;omega,by simp only;omega,h6.mono (by simp only;omega)⟩,by have:=h.len;simp at this⊢;omega⟩;have hp:((A++(p,d)::(s,d+1)::B).map Prod.fst).Perm (s::(A++(p,d)::B).map Prod.fst):=by
    have:(A++(p,d)::(s,d+1)::B).Perm ((s,d+1)::(A++(p,d)::B)):=by
     have e:A++(p,d)::(s,d+1)::B=(A++[(p,d)])++(s,d+1)::B:=by simp
     have e2:A++(p,d)::B=(A++[(p,d)])++B:=by simp
     rw[e,e2];exact AI
    exact this.map _
   rw[hp.nodup_iff,AP];refine⟨λhm=>?_,h.nd⟩;obtain⟨x,hx,e⟩:=Av.1 hm;exact IU x hx e
theorem GoodT.remove(h:GoodT D n)(s:SlotT):GoodT (removeD D s).2 n:=by
 unfold removeD;cases h2:splitD s D with
 |none=>exact h
 |some z=>obtain⟨A,d,B⟩:=z;simp only;obtain⟨rfl,hA⟩:=splitD_some h2;obtain⟨h3,h4,h5,h6⟩:=DepOk.app.1 h.dep;refine⟨?_,DepOk.app.2 ⟨h3,h6.dec h4 (by simp only at h5⊢;omega) h5⟩,by have:=h.len;rw[Ah,T6];simp at this⊢;omega⟩;rw[Aq,decW_fst,<-Aq];exact h.nd.sublist ((Gk (D9 _ _) _).map _)
theorem GoodT.move(h:GoodT D n)(a c:SlotT):GoodT (moveD D a c).2 n:=by
 unfold moveD;cases h2:splitD a D with
 |none=>exact h
 |some z=>
  obtain⟨A,d,B⟩:=z;simp only;by_cases hs:hasD D c=true
  ·rw[Ad hs];exact h
  ·rw[Ab hs];have IU:=hasD_no.1 (by simpa using hs);obtain⟨rfl,hA⟩:=splitD_some h2;obtain⟨h3,h4,h5,h6⟩:=DepOk.app.1 h.dep;refine⟨?_,DepOk.app.2 ⟨h3,h4,h5,h6⟩,by have:=h.len;simp at this⊢;omega⟩;have hn:=h.nd;rw[Aq,AJ] at hn⊢;have kh:=AP.1 (AI.nodup_iff.1 hn);refine AI.nodup_iff.2 (AP.2 ⟨λhm=>?_,kh.2⟩);rcases AF.1 hm with hm|hm
   ·obtain⟨x,hx,e⟩:=Av.1 hm;exact IU x (Ai _ hx) e
   ·obtain⟨x,hx,e⟩:=Av.1 hm;exact IU x (Aa _ (.tail _ hx)) e
theorem DepOk.map{f:SlotT×Int->SlotT×Int}(hf: ∀x,(f x).2=x.2): ∀{D:DT} {e:Int},DepOk e D->DepOk e (D.map f)
 |[],_,_=>trivial
 |x::r,e,⟨h1,h2,h3⟩=>by refine⟨by rw[hf];exact h1,by rw[hf];exact h2,?_⟩;rw[hf];exact DepOk.map hf h3
theorem my(a c:SlotT)(x:SlotT×Int):(MM a c x).2=x.2:=by unfold MM;split<;>(try split)<;>rfl
theorem GoodT.swap(h:GoodT D n)(a c:SlotT):GoodT (swapD D a c) n:=by refine⟨?_,h.dep.map (my a c),by unfold swapD;rw[A7];exact h.len⟩;unfold swapD;rw[CY,D3,Cx];have hn:=h.nd;rw[D3,Cx] at hn;exact hn.imp λHe e=>He (YV e)
theorem GoodT.none:GoodT [] 0:=⟨by simp,trivial,by simp⟩
end Tr
open Go.RowKit
set_option maxRecDepth 20000
abbrev HS:=SD×Tr.DT
variable{H:HS}
def Ma(c:CapT):Bool:=FG c&&!decide (c.kind=0)
def Gt(H:HS)(s:Cs)(c:CapT):Int×HS:=
 if FM H.1 s=false then(3,H) else if Ma c=false then(5,H) else if(D5 H.1 s).kind≠0 then(11,H) else(0,(Gu H.1 s c,(Tr.rootD H.2 s).2))
def IK(H:HS)(p s:Cs)(c:CapT):Int×HS:=
 if FM H.1 p=false\/FM H.1 s=false then(3,H) else if Ma c=false then(5,H) else if(D5 H.1 p).kind=0 then(10,H) else if(D5 H.1 s).kind≠0 then(11,H) else(0,(Gu H.1 s c,(Tr.childD H.2 p s).2))
def Pp(H:HS)(s:Cs)(c:CapT):Int×HS:=
 if FM H.1 s=false then(3,H) else if(D5 H.1 s).kind=0 then(10,H) else if IJ (D5 H.1 s) c=false then(5,H) else(0,(Gu H.1 s c,H.2))
def HJ(H:HS)(a b:Cs):Int:=
 if FM H.1 a=false\/FM H.1 b=false then 3 else if(D5 H.1 a).kind=0 then 10 else if(D5 H.1 b).kind≠0 then 11 else 0
def Gv(H:HS)(a b:Cs)(r:CapT×Int):Int×HS:=if HJ H a b≠0 then(HJ H a b,H) else if r.2≠0 then(r.2,H) else IK H a b r.1
def JJ(H:HS)(a b:Cs):Int×HS:=if HJ H a b≠0 then(HJ H a b,H) else(0,(Gu (Gu H.1 a CO) b (D5 H.1 a),(Tr.moveD H.2 a b).2))
def Mb(H:HS)(a b:Cs):Int×HS:=if FM H.1 a=false\/FM H.1 b=false then(3,H) else(0,(Gu (Gu H.1 a (D5 H.1 b)) b (D5 H.1 a),Tr.swapD H.2 a b))
def Eb(H:HS)(s:Cs):(CapT×Int)×HS:=if FM H.1 s=false then((CO,3),H) else if(D5 H.1 s).kind=0 then((CO,10),H) else((D5 H.1 s,0),(Gu H.1 s CO,(Tr.removeD H.2 s).2))
def Ml(H:HS)(s:Cs):Bool:=FM H.1 s&&!decide ((D5 H.1 s).kind=0)&&(DM H.1).all λx=>decide (x.1=s)||!IJ x.2 (D5 H.1 s)
structure InvH(H:HS)(n:Nat):Prop where
 tree:Tr.GoodT H.2 n
 asc:H.1.Pairwise λx y=>x.1<y.1
 val: ∀x,x∈H.1-> ∀c,c∈x.2->FG c=true/\Jn c
 link: ∀s,Tr.hasD H.2 s=true<->FM H.1 s=true/\(D5 H.1 s).kind≠0
 len:H.1.length<=n+3
theorem Mc:FG CO=true/\Jn CO:=⟨rfl,by decide,by decide⟩
theorem InvH.at(h:InvH H n)(s:Cs):FG (D5 H.1 s)=true/\Jn (D5 H.1 s):=by
 unfold D5
 split
 ·rename_i x hx;have hm:=(Ff hx).1;rw[AO];cases hk:x.2[s.2.toNat]? with
  |none=>exact Mc
  |some c=>exact h.val x hm c (Bc hk)
 ·exact Mc
theorem InvH.mono(h:InvH H n)(hm:n<=m):InvH H m:=⟨h.tree.mono hm,h.asc,h.val,h.link,BV h.len Af⟩
theorem W4(h:D.Pairwise λx y=>x.1<y.1)(s:Cs)(c:CapT):(Gu D s c).Pairwise λx y=>x.1<y.1:=by
 have e:(Gu D s c).map Prod.fst=D.map Prod.fst:=by
  unfold Gu;rw[CY];apply By;intro x _;show(if x.1=s.1 then(x.1,x.2.set s.2.toNat c) else x).1=x.1
  split<;>rfl
 have h2:(D.map Prod.fst).Pairwise (· < ·):=Cx.2 h;rw[<-e] at h2;exact Cx.1 h2
theorem W5(h: ∀x,x∈D-> ∀c,c∈x.2->FG c=true/\Jn c)(s:Cs)(hc:FG c=true/\Jn c): ∀x,x∈Gu D s c-> ∀d,d∈x.2->FG d=true/\Jn d:=by
 intro x hx y hy;obtain⟨z,hz,rfl⟩:=Av.1 hx
 split at hy
 ·rcases CQ hy with hy|rfl
  ·exact h z hz y hy
  ·exact hc
 ·exact h z hz y hy
theorem W6(D:SD)(s:Cs)(c:CapT):(Gu D s c).length=D.length:=by simp[Gu]
theorem u9(h:FM D s=true):0<=s.2:=by unfold FM at h;rw[AV,Bk] at h;exact h.1
theorem O8(hs:FM D s=true)(ht:FM D t=true):D5 (Gu D s c) t=if t=s then c else D5 D t:=by
 by_cases h:t=s
 ·rw[Ad h,h,xH hs]
 ·rw[Ab h,ii (u9 hs) (u9 ht) h]
theorem Lq(h:FM D s=true)(hc:FG c=true):setD D s c=(0,Gu D s c):=by unfold setD;rw[Ad h,Ad hc]
theorem InvH.put(h:InvH H n)(hm:n<=m)(hs:FM H.1 s=true)(hc:FG c=true/\Jn c)(hT:Tr.GoodT T m)(hl: ∀t,Tr.hasD T t=true<->FM H.1 t=true/\(if t=s then c else D5 H.1 t).kind≠0):InvH (Gu H.1 s c,T) m:=
 ⟨hT,W4 h.asc s c,W5 h.val s hc,λt=>by
   rw[hl t,OE];constructor
   ·rintro⟨h1,h2⟩;exact⟨h1,by rw[O8 hs h1];exact h2⟩
   ·rintro⟨h1,h2⟩;exact⟨h1,by rw[O8 hs h1] at h2;exact h2⟩,by rw[W6];have:=h.len;omega⟩
theorem InvH.put2(h:InvH H n)(hm:n<=m){u:Cs}{d:CapT}(hs:FM H.1 s=true)(hu:FM H.1 u=true)(hc:FG c=true/\Jn c)(hd:FG d=true/\Jn d)(hT:Tr.GoodT T m)(hl: ∀t,Tr.hasD T t=true<->FM H.1 t=true/\(if t=u then d else if t=s then c else D5 H.1 t).kind≠0):InvH (Gu (Gu H.1 s c) u d,T) m:=
 ⟨hT,W4 (W4 h.asc s c) u d,W5 (W5 h.val s hc) u hd,λt=>by
   have hu':FM (Gu H.1 s c) u=true:=by rw[OE];exact hu
   rw[hl t,OE,OE];constructor
   ·rintro⟨h1,h2⟩;exact⟨h1,by rw[O8 hu' (by rw[OE];exact h1),O8 hs h1];exact h2⟩
   ·rintro⟨h1,h2⟩;exact⟨h1,by rw[O8 hu' (by rw[OE];exact h1),O8 hs h1] at h2;exact h2⟩,by rw[W6,W6];have:=h.len;omega⟩
theorem mz(h:Ma c=true):FG c=true/\c.kind≠0:=by unfold Ma at h;rw[AV] at h;exact⟨h.1,by simpa using h.2⟩
theorem J7{D:Tr.DT}:Tr.hasD D s=true<->s∈D.map Prod.fst:=Tr.hasD_yes
theorem YX{D:Tr.DT}(h:Tr.hasD D s=false):(Tr.rootD D s).1=0/\(Tr.hasD (Tr.rootD D s).2 t=true<->t=s\/Tr.hasD D t=true):=by
 have e:Tr.rootD D s=(0,D++[(s,0)]):=by unfold Tr.rootD;rw[h];rfl
 rw[e];refine⟨rfl,?_⟩;rw[J7,J7];simp only[Aq,AJ,CX,AF,AC];exact Or.comm
theorem VZ{D:Tr.DT}{p:Cs}(hp:Tr.hasD D p=true)(h:Tr.hasD D s=false):(Tr.childD D p s).1=0/\(Tr.hasD (Tr.childD D p s).2 t=true<->t=s\/Tr.hasD D t=true):=by
 unfold Tr.hasD at hp;cases h2:Tr.splitD p D with
 |none=>rw[h2] at hp;cases hp
 |some z=>
  obtain⟨A,d,B⟩:=z;have e:Tr.childD D p s=(0,A++(p,d)::(s,d+1)::B):=by unfold Tr.childD;rw[h2];simp only;rw[Ab (by rw[h];decide)]
  rw[e];refine⟨rfl,?_⟩;have hD:=(Tr.splitD_some h2).1;rw[J7,J7,hD];simp only[Aq,AJ,AF,At];constructor
  ·rintro(h|h|h|h)
   ·exact .inr (.inl h)
   ·exact .inr (.inr (.inl h))
   ·exact .inl h
   ·exact .inr (.inr (.inr h))
  ·rintro(h|h|h|h)
   ·exact .inr (.inr (.inl h))
   ·exact .inl h
   ·exact .inr (.inl h)
   ·exact .inr (.inr (.inr h))
theorem mB{A B:List Cs}(h:(A++s::B).Nodup):t∈A++B<->t∈A++s::B/\t≠s:=by
 have h1:=AP.1 (AI.nodup_iff.1 h);constructor
 ·intro ht;refine⟨AI.symm.mem_iff.1 (.tail _ ht),λe=>h1.1 (e▸ht)⟩
 ·rintro⟨h2,h3⟩;rcases At.1 (AI.mem_iff.1 h2) with h4|h4
  ·exact absurd h4 h3
  ·exact h4
theorem bg{D:Tr.DT}(hg:Tr.GoodT D n)(h:Tr.hasD D s=true):(Tr.removeD D s).1=0/\(Tr.hasD (Tr.removeD D s).2 t=true<->Tr.hasD D t=true/\t≠s):=by
 unfold Tr.hasD at h;cases h2:Tr.splitD s D with
 |none=>rw[h2] at h;cases h
 |some z=>
  obtain⟨A,d,B⟩:=z;have e:Tr.removeD D s=(0,A++Tr.decW d B):=by unfold Tr.removeD;rw[h2]
  rw[e];refine⟨rfl,?_⟩;have hD:=(Tr.splitD_some h2).1;have hn:=hg.nd;rw[J7,J7];rw[hD] at hn⊢;rw[Aq,AJ] at hn;rw[Aq,Aq,AJ,Tr.decW_fst];exact mB hn
theorem YY{D:Tr.DT}(hg:Tr.GoodT D n){b:Cs}(ha:Tr.hasD D a=true)(hb:Tr.hasD D b=false):(Tr.moveD D a b).1=0/\(Tr.hasD (Tr.moveD D a b).2 t=true<->t=b\/(Tr.hasD D t=true/\t≠a)):=by
 unfold Tr.hasD at ha;cases h2:Tr.splitD a D with
 |none=>rw[h2] at ha;cases ha
 |some z=>
  obtain⟨A,d,B⟩:=z;have e:Tr.moveD D a b=(0,A++(b,d)::B):=by unfold Tr.moveD;rw[h2];simp only;rw[Ab (by rw[hb];decide)]
  rw[e];refine⟨rfl,?_⟩;have hD:=(Tr.splitD_some h2).1;have hn:=hg.nd;rw[J7,J7];rw[hD] at hn⊢;rw[Aq,AJ] at hn;rw[Aq,Aq,AJ,AJ,<-mB hn,AI.mem_iff,At]
theorem mD(D:Tr.DT)(a b t:Cs):Tr.hasD (Tr.swapD D a b) t=Tr.hasD D (Tr.swf a b t):=by
 rw[Kt,J7,J7];unfold Tr.swapD;rw[CY];simp only[Av,Function.comp_apply,Tr.swpS_fst];constructor
 ·rintro⟨x,hx,rfl⟩;exact⟨x,hx,(Tr.swf_swf a b x.1).symm⟩
 ·rintro⟨x,hx,he⟩;exact⟨x,hx,by rw[he,Tr.swf_swf]⟩
theorem InvH.no(h:InvH H n)(hk:(D5 H.1 s).kind=0):Tr.hasD H.2 s=false:=by
 cases e:Tr.hasD H.2 s with
 |false=>rfl
 |true=>exact absurd hk ((h.link s).1 e).2
theorem InvH.root(h:InvH H n)(s:Cs)(c:CapT)(hw:Jn c):InvH (Gt H s c).2 (n+1):=by
 unfold Gt;by_cases h1:FM H.1 s=false
 ·rw[Ad h1];exact h.mono Af
 rw[Ab h1];by_cases h2:Ma c=false
 ·rw[Ad h2];exact h.mono Af
 rw[Ab h2];by_cases h3:(D5 H.1 s).kind≠0
 ·rw[Ad h3];exact h.mono Af
 rw[Ab h3];obtain⟨c1,c2⟩:=mz (by simpa using h2);have Dm:FM H.1 s=true:=by simpa using h1
 refine h.put Af Dm ⟨c1,hw⟩ (h.tree.root s) λt=>?_;rw[(YX (h.no (by simpa using h3))).2,h.link];by_cases e:t=s
 ·subst e;simp[Dm,c2]
 ·simp[e]
theorem InvH.child(h:InvH H n)(p s:Cs)(c:CapT)(hw:Jn c):InvH (IK H p s c).2 (n+1):=by
 unfold IK;by_cases h1:FM H.1 p=false\/FM H.1 s=false
 ·rw[Ad h1];exact h.mono Af
 rw[Ab h1];by_cases h2:Ma c=false
 ·rw[Ad h2];exact h.mono Af
 rw[Ab h2];by_cases h3:(D5 H.1 p).kind=0
 ·rw[Ad h3];exact h.mono Af
 rw[Ab h3];by_cases h4:(D5 H.1 s).kind≠0
 ·rw[Ad h4];exact h.mono Af
 rw[Ab h4];obtain⟨c1,c2⟩:=mz (by simpa using h2);have Dm:FM H.1 s=true:=by cases e:FM H.1 s<;>simp_all
 have AdW:FM H.1 p=true:=by cases e:FM H.1 p<;>simp_all
 refine h.put Af Dm ⟨c1,hw⟩ (h.tree.child p s) λt=>?_;rw[(VZ ((h.link p).2 ⟨AdW,h3⟩) (h.no (by simpa using h4))).2,h.link];by_cases e:t=s
 ·subst e;simp[Dm,c2]
 ·simp[e]
theorem InvH.set(h:InvH H n)(s:Cs)(c:CapT)(hw:Jn c):InvH (Pp H s c).2 n:=by
 unfold Pp;by_cases h1:FM H.1 s=false
 ·rw[Ad h1];exact h
 rw[Ab h1];by_cases h2:(D5 H.1 s).kind=0
 ·rw[Ad h2];exact h
 rw[Ab h2];by_cases h3:IJ (D5 H.1 s) c=false
 ·rw[Ad h3];exact h
 rw[Ab h3];have h3':IJ (D5 H.1 s) c=true:=by simpa using h3
 unfold IJ at h3';simp only[AV,DU,Bk,EF] at h3';obtain⟨⟨⟨⟨a1,a2⟩,a3⟩,a4⟩,a5⟩:=h3';refine h.put (Bf _) (by simpa using h1) ⟨a2,hw⟩ h.tree λt=>?_;rw[h.link];by_cases e:t=s
 ·subst e;simp[h2,<-a4]
 ·simp[e]
theorem xK{b:Cs}(h:HJ H a b=0):FM H.1 a=true/\FM H.1 b=true/\(D5 H.1 a).kind≠0/\(D5 H.1 b).kind=0:=by
 unfold HJ at h
 split at h
 ·cases h
 rename_i h1
 split at h
 ·cases h
 rename_i h2
 split at h
 ·cases h
 rename_i h3;exact⟨by cases e:FM H.1 a<;>simp_all,by cases e:FM H.1 b<;>simp_all,h2,by simpa using h3⟩
theorem InvH.der(h:InvH H n)(a b:Cs)(r:CapT×Int)(hw:Jn r.1):InvH (Gv H a b r).2 (n+1):=by
 unfold Gv
 split
 ·exact h.mono Af
 split
 ·exact h.mono Af
 ·exact h.child a b _ hw
theorem InvH.move(h:InvH H n)(a b:Cs):InvH (JJ H a b).2 n:=by
 unfold JJ;by_cases h0:HJ H a b=0
 ·rw[Ab (by simpa using h0)];obtain⟨h1,h2,h3,h4⟩:=xK h0;have He:a≠b:=λe=>h3 (e▸h4);refine h.put2 (Bf _) h1 h2 Mc (h.at a) (h.tree.move a b) λt=>?_;rw[(YY h.tree ((h.link a).2 ⟨h1,h3⟩) (h.no h4)).2,h.link];by_cases e:t=b
  ·subst e;simp[h2,h3]
  ·by_cases e2:t=a
   ·subst e2;simp[e]
   ·simp[e,e2]
 ·rw[Ad h0];exact h
theorem InvH.swap(h:InvH H n)(a b:Cs):InvH (Mb H a b).2 n:=by
 unfold Mb;by_cases h1:FM H.1 a=false\/FM H.1 b=false
 ·rw[Ad h1];exact h
 rw[Ab h1];have ha:FM H.1 a=true:=by cases e:FM H.1 a<;>simp_all
 have hb:FM H.1 b=true:=by cases e:FM H.1 b<;>simp_all
 refine h.put2 (Bf _) ha hb (h.at b) (h.at a) (h.tree.swap a b) λt=>?_;rw[mD,h.link];unfold Tr.swf;by_cases e:t=a
 ·by_cases e2:t=b
  ·subst e;subst e2;simp
  ·subst e;simp[e2,ha,hb]
 ·by_cases e2:t=b
  ·subst e2;simp[e,ha,hb]
  ·simp[e,e2]
theorem InvH.clear(h:InvH H n)(s:Cs):InvH (Eb H s).2 n:=by
 unfold Eb;by_cases h1:FM H.1 s=false
 ·rw[Ad h1];exact h
 rw[Ab h1];by_cases h2:(D5 H.1 s).kind=0
 ·rw[Ad h2];exact h
 rw[Ab h2];have Dm:FM H.1 s=true:=by simpa using h1
 refine h.put (Bf _) Dm Mc (h.tree.remove s) λt=>?_;rw[(bg h.tree ((h.link s).2 ⟨Dm,h2⟩)).2,h.link];by_cases e:t=s
 ·subst e;simp
 ·simp[e]
theorem mF(h:D.Pairwise λx y=>x.1<y.1){x:Int×List CapT}(hn:D7 Prod.fst D x.1=none)(a:Int):D7 Prod.fst (MK Prod.fst D x) a=if a=x.1 then some x else D7 Prod.fst D a:=by
 have ha:=SF (key:=Prod.fst) h hn;by_cases e:a=x.1
 ·rw[Ad e,e];exact aZ ha (O5.2 (.inl rfl))
 ·rw[Ab e];cases hf:D7 Prod.fst D a with
  |none=>
   refine Gq.2 λy hy=>?_;rcases O5.1 hy with rfl|hy
   ·exact λe2=>e e2.symm
   ·exact Gq.1 hf y hy
  |some y=>obtain⟨h1,h2⟩:=Ff hf;rw[<-h2];exact aZ ha (O5.2 (.inr h1))
theorem InvH.add(h:InvH H n)(id k:Int):InvH ((Hn H.1 id k).2,H.2) (n+1):=by
 unfold Hn
 split
 ·exact h.mono Af
 split
 ·exact h.mono Af
 rename_i h1 h2;have hn:D7 Prod.fst H.1 id=none:=by cases e:D7 Prod.fst H.1 id<;>simp_all
 have hf:=mF h.asc (x:=(id,List.replicate k.toNat CO)) hn;refine⟨h.tree.mono Af,SF h.asc hn,λx hx c hc=>?_,λs=>?_,?_⟩
 ·rcases O5.1 hx with rfl|hx
  ·rw[El hc];exact Mc
  ·exact h.val x hx c hc
 ·rw[h.link];have e1:JI H.1 id=0:=by unfold JI;rw[hn]
  unfold FM JI D5;simp only;rw[hf];by_cases e:s.1=id
  ·rw[Ad e,e,hn];simp;intro _ _;have:List.getD (List.replicate k.toNat CO) s.2.toNat CO=CO:=by
    rw[AO];cases e3:(List.replicate k.toNat CO)[s.2.toNat]? with
    |none=>rfl
    |some c=>rw[El (Bc e3)];rfl
   rw[AO] at this;rw[this]
  ·rw[Ab e]
 ·show(MK Prod.fst H.1 (id,_)).length<=_;rw[WS];have:=h.len;omega
theorem InvH.drop(h:InvH H n)(a:Int):InvH ((HF H.1 a).2,H.2) n:=by
 unfold HF
 split
 ·exact h
 split
 ·rename_i x hx GD;rw[A5] at GD;have hf: ∀b,D7 Prod.fst (H.1.filter λx=>decide (x.1≠a)) b=if b=a then none else D7 Prod.fst H.1 b:=λb=>by
   by_cases e:b=a
   ·rw[Ad e];refine Gq.2 λy hy=>?_;have:=(BY.1 hy).2;rw[e];simpa using this
   ·rw[Ab e];cases hb:D7 Prod.fst H.1 b with
    |none=>exact Gq.2 λy hy=>Gq.1 hb y (BY.1 hy).1
    |some y=>obtain⟨h1,h2⟩:=Ff hb;rw[<-h2];exact aZ (h.asc.filter _) (BY.2 ⟨h1,by rw[h2];simpa using e⟩)
  refine⟨h.tree,h.asc.filter _,λy hy=>h.val y (BY.1 hy).1,λs=>?_,BV (C8 ..) h.len⟩;rw[h.link];unfold FM JI D5;simp only;rw[hf];by_cases e:s.1=a
  ·rw[Ad e,e,hx];simp;intro h0 h1;have XL:x.2[s.2.toNat]?=some (x.2[s.2.toNat]'Af):=Al Af;have h3:=GD _ (Bc XL);rw[WU] at h3;rw[XL,h3];rfl
  ·rw[Ab e]
 ·exact h
abbrev MN(b bs bt:Nat):Bd:=(b,.cells (toArray [.pointer (some ⟨bs,0,none⟩),.pointer (some ⟨bt,0,none⟩)]) 234 (0,0))
structure HB(b bs bt:Nat)(H:HS)(ls lt lq:Ac):Prop where
 eq:lq=MN b bs bt::(ls++lt)
 s:IsS bs H.1 ls
 t:Tr.IsT bt H.2 lt
def IsH(b:Nat)(H:HS)(lq:Ac):Prop:= ∃bs bt ls lt,HB b bs bt H ls lt lq
theorem HB.h{lt:Ac}(h:HB b bs bt H ls lt lq):MN b bs bt∈lq:=by rw[h.eq];exact .head _
theorem HB.m1{lt:Ac}(h:HB b bs bt H ls lt lq): ∀c,c∈ls->c∈lq:=λc hc=>by rw[h.eq];exact .tail _ (Ai _ hc)
theorem HB.m2{lt:Ac}(h:HB b bs bt H ls lt lq): ∀c,c∈lt->c∈lq:=λc hc=>by rw[h.eq];exact .tail _ (Aa _ hc)
theorem InvH.small(h:InvH H n)(hn:n<=1000):H.1.length<=2000/\H.2.length<=1000/\Tr.SmallD H.2:=⟨by have:=h.len;omega,by have:=h.tree.len;omega,h.tree.small Af⟩
theorem YZ(l:Ac):Fn prog 129 [] l λv l'=> ∃b,v= .pointer (some ⟨b,0,none⟩)/\ ∃lq,IsH b ([],[]) lq/\l'=lq++l:=by refine AN func129 ntmps129 λE=>?_;refine Aj ?_;refine AS (Az rfl rfl (new_any _)) ?_;rintro _ _ ⟨bs,rfl,ls,hs,rfl⟩;refine Aj ?_;refine AS (Az rfl rfl (Tr.new_any _)) ?_;rintro _ _ ⟨bt,rfl,lt,ht,rfl⟩;refine AQ λb=>?_;exact Bb (l':=(MN b bs bt::(ls++lt))++l) (A8 (A:=MN b bs bt::(lt++(ls++l))) []) ⟨b,rfl,_,⟨bs,bt,ls,lt,rfl,hs,ht⟩,rfl⟩
theorem Lr(b bs bt:Nat)(l:Ac)(hm:MN b bs bt∈l):Fn prog 114 [.pointer (some ⟨b,0,none⟩)] l λv l'=>v= .pointer (some ⟨bs,0,none⟩)/\l'=l:=by refine AN func114 ntmps114 λE=>?_;exact E3
theorem O9(b:Nat)(H:HS)(lq:Ac)(hq:IsH b H lq)(id n:Int)(G:Ac):
 Fn prog 139 [.pointer (some ⟨b,0,none⟩),.int .i64 id,.int .i64 n] (lq++G) λv l'=>v= .int .i64 (Hn H.1 id n).1/\ ∃DF,IsH b ((Hn H.1 id n).2,H.2) DF/\l'=DF++G:=by
 obtain⟨bs,bt,ls,lt,rfl,hs,ht⟩:=hq;refine AN func139 ntmps139 λE=>?_;simp only[Ae,Am];refine Aj ?_;refine Bh (AL rfl rfl λl2 hl=>Lr b bs bt l2 (hl _ (.head _))) ?_;refine Aj ?_;refine AS (Dn rfl rfl (Fn.mvP (λA=>MN b bs bt::(A++(lt++G))) (add_any bs H.1 ls hs id n (MN b bs bt::(lt++G))))) ?_;rintro _ _ ⟨rfl,ls',hs',rfl⟩;refine Aj ?_;exact Bb (l':=(MN b bs bt::(ls'++lt))++G) (.of_perm (.of_eq (by simp))) ⟨rfl,_,⟨bs,bt,ls',lt,rfl,hs',ht⟩,rfl⟩
theorem Jo(b:Nat)(H:HS)(lq:Ac)(hq:IsH b H lq)(s:Cs)(l:Ac)(CG: ∀c,c∈lq->c∈l):
 Fn prog 165 [.pointer (some ⟨b,0,none⟩),.agg (toArray (Cw s))] l λv l'=>v= .tuple #[.agg (toArray (B0 (getD' H.1 s).1)),.int .i64 (getD' H.1 s).2]/\l'=l:=by
 obtain⟨bs,bt,ls,lt,hb⟩:=hq;refine AN func165 ntmps165 λE=>?_;refine AQ λb3=>?_;refine AQ λb4=>?_;refine Cm [6] 8 (Dv b3 s::l) ?_;refine BM ?_;refine aB (AL rfl rfl λl2 hl=>Lr b bs bt l2 (hl _ (.tail _ (CG _ hb.h)))) rfl rfl rfl ?_;refine BM ?_;refine aB (AL rfl rfl λl2 hl=>get_any bs H.1 ls hb.s s l2 λc hc=>hl _ (.tail _ (CG _ (hb.m1 c hc)))) rfl rfl rfl ?_;refine BM ?_;refine Aj ?_;exact CT (l':=l) (Bz b4 (getD' H.1 s).1::Dv b3 s::l) .refl (.drop (.drop .refl)) ⟨rfl,rfl⟩
def V0(D:SD)(a c:Cs):Int:=if(getD' D a).2=0 then(getD' D c).2 else(getD' D a).2
theorem Pa(b:Nat)(H:HS)(lq:Ac)(hq:IsH b H lq)(a c:Cs)(l:Ac)(CG: ∀c,c∈lq->c∈l):
 Fn prog 249 [.pointer (some ⟨b,0,none⟩),.agg (toArray (Cw a)),.agg (toArray (Cw c))] l λv l'=>v= .tuple #[.agg (toArray (B0 (getD' H.1 a).1)),.agg (toArray (B0 (getD' H.1 c).1)),.int .i64 (V0 H.1 a c)]/\l'=l:=by
 refine AN func249 ntmps249 λE=>?_;refine AQ λb4=>?_;refine AQ λb5=>?_;refine AQ λb6=>?_;refine AQ λb7=>?_;refine Bh (AL rfl rfl λl2 hl=>Jo b H lq hq a l2 λc hc=>hl c (.tail _ (.tail _ (.tail _ (.tail _ (CG c hc)))))) ?_;refine AQ λb9=>?_;refine Bh (AL rfl rfl λl2 hl=>Jo b H lq hq c l2 λc hc=>hl c (.tail _ (.tail _ (.tail _ (.tail _ (.tail _ (CG c hc))))))) ?_;refine AQ λM4=>?_;unfold V0;by_cases h:(getD' H.1 a).2=0
 case' pos=>rw[Ad h]
 case' neg=>rw[Ab h]
 all_goals
  refine Aj ?_;refine Cm [3,4] 6 ([Bz M4 (getD' H.1 c).1,Bz b9 (getD' H.1 a).1]) ?_;refine BM ?_;refine Aj ?_;exact CT (l':=l) (Bz b7 (getD' H.1 c).1::Bz b6 (getD' H.1 a).1::l) (.drop (.drop (.pick .here (.pick .here (.drop (.drop .refl)))))) (.drop (.drop .refl)) ⟨rfl,rfl⟩
theorem V1(b:Nat)(H:HS)(lq:Ac)(hq:IsH b H lq)(hn:H.1.length<=2000)(l:Ac)(CG: ∀c,c∈lq->c∈l):
 Fn prog 74 [.pointer (some ⟨b,0,none⟩)] l λv l'=> ∃cs,OwnSl 131 10 v (DM H.1).length (Oz (DM H.1)) cs/\l'=cs++l:=by
 obtain⟨bs,bt,ls,lt,hb⟩:=hq;refine AN func74 ntmps74 λE=>?_;refine Aj ?_;refine Bh (AL rfl rfl λl2 hl=>Lr b bs bt l2 (hl _ (CG _ hb.h))) ?_;refine Aj ?_;refine AS (Az rfl rfl (all_any bs H.1 ls hb.s Af _ λc hc=>CG _ (hb.m1 c hc))) ?_;rintro v _ ⟨cs,ho,rfl⟩;refine Aj ?_;refine Bb (l':=cs++l) .refl ?_;exact⟨cs,ho,rfl⟩
theorem im(b:Nat)(H:HS)(lq:Ac)(hq:IsH b H lq)(hn:H.2.length<=1000)(l:Ac)(CG: ∀c,c∈lq->c∈l):
 Fn prog 75 [.pointer (some ⟨b,0,none⟩)] l λv l'=> ∃cs,OwnSl 129 3 v H.2.length (Tr.ncs H.2) cs/\l'=cs++l:=by
 obtain⟨bs,bt,ls,lt,hb⟩:=hq;have hm:=CG _ hb.h;refine AN func75 ntmps75 λE=>?_;refine Aj ?_;refine AS (Az rfl rfl (Tr.all_any bt H.2 lt hb.t Af _ λc hc=>CG _ (hb.m2 c hc))) ?_;rintro v _ ⟨cs,ho,rfl⟩;refine Aj ?_;refine Bb (l':=cs++l) .refl ?_;exact⟨cs,ho,rfl⟩
theorem AbL:(FM D s=true/\getD' D s=(D5 D s,0))\/(FM D s=false/\getD' D s=(CO,3)):=by
 unfold getD';cases FM D s with
 |false=>exact .inr ⟨rfl,rfl⟩
 |true=>exact .inl ⟨rfl,rfl⟩
theorem Md(h:FM D s=true):getD' D s=(D5 D s,0):=by unfold getD';rw[h];rfl
theorem V2(h:FM D s=false):getD' D s=(CO,3):=by unfold getD';rw[h];rfl
theorem W7{c:Cs}(ha:FM D a=true)(hc:FM D c=true):V0 D a c=0:=by unfold V0;rw[Md ha,Md hc];rfl
theorem W8{c:Cs}(h:FM D a=false\/FM D c=false):V0 D a c=3:=by
 unfold V0;rcases h with h|h
 ·rw[V2 h];rfl
 ·rw[V2 h];split
  ·rfl
  ·rename_i h2;rcases AbL (D:=D) (s:=a) with⟨_,h3⟩|⟨_,h3⟩
   ·rw[h3] at h2;exact absurd rfl h2
   ·rw[h3]
theorem ez{c:Cs}(h:¬(FM D a=false\/FM D c=false)):FM D a=true/\FM D c=true:=by cases h1:FM D a<;>cases h2:FM D c<;>simp_all
theorem F5(b:Nat)(H:HS)(n:Nat)(hI:InvH H n)(lq:Ac)(hq:IsH b H lq)(s:Cs)(c:CapT)(G:Ac):
 Fn prog 144 [.pointer (some ⟨b,0,none⟩),.agg (toArray (Cw s)),.agg (toArray (B0 c))] (lq++G) λv l'=>v= .int .i64 (Gt H s c).1/\ ∃DF,IsH b (Gt H s c).2 DF/\l'=DF++G:=by
 have M3:=hq;refine AN func144 ntmps144 λE=>?_;refine AQ λb4=>?_;refine AQ λb5=>?_;refine Bh (AL rfl rfl λl2 hl=>Jo b H lq hq s l2 λc hc=>hl c (.tail _ (.tail _ (Ai _ hc)))) ?_;have Kw: ∀(d:CapT) (B:Nat),Keep (Bz B d::Bz b5 c::Dv b4 s::(lq++G)) (lq++G):=λ_ _=> .drop (.drop (.drop .refl));cases Dm:FM H.1 s with
 |false=>rw[V2 Dm,show Gt H s c=(3,H) by unfold Gt;rw[Ad Dm]];refine AQ λb7=>?_;exact Bb (Kw _ _) ⟨rfl,_,M3,rfl⟩
 |true=>
 rw[Md Dm];have e0:Gt H s c=if Ma c=false then(5,H) else if(D5 H.1 s).kind≠0 then(11,H) else(0,(Gu H.1 s c,(Tr.rootD H.2 s).2)):=by unfold Gt;rw[Ab (by rw[Dm];decide)]
 rw[e0];refine AQ λb7=>?_;refine Bh (AL rfl rfl λl2 hl=>It c l2) ?_;cases hm:FG c with
 |false=>rw[Ad (by unfold Ma;rw[hm];rfl)];refine Aj ?_;exact Bb (Kw _ _) ⟨rfl,_,M3,rfl⟩
 |true=>
 by_cases hk:c.kind=0
 ·rw[Ad (by unfold Ma;rw[Au hk,hm];rfl)];refine Aj ?_;exact Bb (Kw _ _) ⟨rfl,_,M3,rfl⟩
 rw[Ab (by unfold Ma;rw[Aw hk,hm];decide)];by_cases hw:(D5 H.1 s).kind≠0
 ·rw[Ad hw];refine Aj ?_;exact Bb (Kw _ _) ⟨rfl,_,M3,rfl⟩
 rw[Ab hw];obtain⟨bs,bt,ls,lt,rfl,hs,ht⟩:=hq;have dz:=(YX (t:=s) (hI.no (by simpa using hw))).1;have H1:=Fn.mvP (λA=>Bz b7 (D5 H.1 s)::Bz b5 c::Dv b4 s::MN b bs bt::(A++(lt++G))) (set_any bs H.1 ls hs s c (Bz b7 (D5 H.1 s)::Bz b5 c::Dv b4 s::MN b bs bt::(lt++G)));have H2:=λls=>Fn.mvP (λA=>Bz b7 (D5 H.1 s)::Bz b5 c::Dv b4 s::MN b bs bt::(ls++(A++G))) (Tr.root_any bt H.2 lt ht s (Bz b7 (D5 H.1 s)::Bz b5 c::Dv b4 s::MN b bs bt::(ls++G)));rw[Lq Dm hm] at H1;rw[dz] at H2;simp only[Ae,Am];refine Aj ?_;refine Cm [6] 7 ([Bz b5 c,Dv b4 s,MN b bs bt]) ?_;refine BM ?_;apply CM
 ·exact Dn rfl rfl H1
 ·rfl
 ·rfl
 ·rfl
 ·rintro _ _ ⟨_,ls',_,rfl⟩;exact UX
 rintro _ _ ⟨rfl,ls',hs',rfl⟩;refine BM ?_;refine Aj ?_;refine Cm [5] 7 ([Dv b4 s,MN b bs bt]) ?_;refine BM ?_;apply CM
 ·exact Dn rfl rfl (H2 ls')
 ·rfl
 ·rfl
 ·rfl
 ·rintro _ _ ⟨_,lt',_,rfl⟩;exact UX
 rintro _ _ ⟨rfl,lt',ht',rfl⟩;refine BM ?_;refine Aj ?_;exact Bb (l':=(MN b bs bt::(ls'++lt'))++G) (.drop (.drop (.drop (.of_perm (.of_eq (by simp)))))) ⟨rfl,_,⟨bs,bt,ls',lt',rfl,hs',ht'⟩,rfl⟩
theorem T7(b:Nat)(H:HS)(n:Nat)(hI:InvH H n)(hn:n<=1000)(lq:Ac)(hq:IsH b H lq)(p s:Cs)(c:CapT)(G:Ac):
 Fn prog 250 [.pointer (some ⟨b,0,none⟩),.agg (toArray (Cw p)),.agg (toArray (Cw s)),.agg (toArray (B0 c))] (lq++G) λv l'=>v= .int .i64 (IK H p s c).1/\ ∃DF,IsH b (IK H p s c).2 DF/\l'=DF++G:=by
 have M3:=hq;refine AN func250 ntmps250 λE=>?_;refine AQ λb5=>?_;refine AQ λb6=>?_;refine AQ λb7=>?_;refine Bh (AL rfl rfl λl2 hl=>Pa b H lq hq p s l2 λc hc=>hl c (.tail _ (.tail _ (.tail _ (Ai _ hc))))) ?_;have Kw: ∀(d e:CapT) (B C:Nat),Keep (Bz B d::Bz C e::Bz b7 c::Dv b6 s::Dv b5 p::(lq++G)) (lq++G):=λ_ _ _ _=> .drop (.drop (.drop (.drop (.drop .refl))));by_cases Dm:FM H.1 p=false\/FM H.1 s=false
 ·rw[W8 Dm,show IK H p s c=(3,H) by unfold IK;rw[Ad Dm]];refine Aj ?_;refine AS e_alloc ?_;rintro _ _ ⟨b9,_,rfl,rfl⟩;refine AQ λGd=>?_;exact Bb (Kw _ _ _ _) ⟨rfl,_,M3,rfl⟩
 obtain⟨okp,oks⟩:=ez Dm;rw[W7 okp oks,Md okp,Md oks];have e0:IK H p s c=if Ma c=false then(5,H) else if(D5 H.1 p).kind=0 then(10,H) else if(D5 H.1 s).kind≠0 then(11,H) else(0,(Gu H.1 s c,(Tr.childD H.2 p s).2)):=by unfold IK;rw[Ab Dm]
 rw[e0];refine Aj ?_;refine AS e_alloc ?_;rintro _ _ ⟨b9,_,rfl,rfl⟩;refine AQ λGd=>?_;refine Bh (AL rfl rfl λl2 hl=>It c l2) ?_;cases hm:FG c with
 |false=>rw[Ad (by unfold Ma;rw[hm];rfl)];refine Aj ?_;exact Bb (Kw _ _ _ _) ⟨rfl,_,M3,rfl⟩
 |true=>
 by_cases hk:c.kind=0
 ·rw[Ad (by unfold Ma;rw[Au hk,hm];rfl)];refine Aj ?_;exact Bb (Kw _ _ _ _) ⟨rfl,_,M3,rfl⟩
 rw[Ab (by unfold Ma;rw[Aw hk,hm];decide)];by_cases hp:(D5 H.1 p).kind=0
 ·rw[Ad hp];refine Aj ?_;exact Bb (Kw _ _ _ _) ⟨rfl,_,M3,rfl⟩
 rw[Ab hp];by_cases hw:(D5 H.1 s).kind≠0
 ·rw[Ad hw];refine Aj ?_;exact Bb (Kw _ _ _ _) ⟨rfl,_,M3,rfl⟩
 rw[Ab hw];obtain⟨bs,bt,ls,lt,rfl,hs,ht⟩:=hq;have dz:=(VZ (t:=s) ((hI.link p).2 ⟨okp,hp⟩) (hI.no (by simpa using hw))).1;obtain⟨X,hX⟩: ∃X,X=[Bz Gd (D5 H.1 s),Bz b9 (D5 H.1 p),Bz b7 c,Dv b6 s,Dv b5 p,MN b bs bt]:=⟨_,rfl⟩
 have H1:=Fn.mvP (λA=>X++(A++(lt++G))) (set_any bs H.1 ls hs s c (X++(lt++G)));have H2:=λls=>Fn.mvP (λA=>X++(ls++(A++G))) (Tr.child_any bt H.2 lt ht (hI.small hn).2.2 p s (X++(ls++G)));rw[Lq oks hm] at H1;rw[dz] at H2;rw[hX] at H1 H2;simp only[Ae,Am,Ag] at H1 H2⊢;refine Aj ?_;refine Cm [6] 7 ([Bz b7 c,Dv b6 s,MN b bs bt]) ?_;refine BM ?_;apply CM
 ·exact Dn rfl rfl H1
 ·rfl
 ·rfl
 ·rfl
 ·rintro _ _ ⟨_,ls',_,rfl⟩;exact UX
 rintro _ _ ⟨rfl,ls',hs',rfl⟩;refine BM ?_;refine Aj ?_;refine Cm [6] 8 ([Dv b6 s,Dv b5 p,MN b bs bt]) ?_;refine BM ?_;apply CM
 ·exact Dn rfl rfl (H2 ls')
 ·rfl
 ·rfl
 ·rfl
 ·rintro _ _ ⟨_,lt',_,rfl⟩;exact UX
 rintro _ _ ⟨rfl,lt',ht',rfl⟩;refine BM ?_;refine Aj ?_;exact Bb (l':=(MN b bs bt::(ls'++lt'))++G) (.drop (.drop (.drop (.drop (.drop (.of_perm (.of_eq (by simp)))))))) ⟨rfl,_,⟨bs,bt,ls',lt',rfl,hs',ht'⟩,rfl⟩
theorem io{a:CapT}(h:IJ a c=true):FG c=true:=by unfold IJ at h;simp only[AV] at h;exact h.1.1.1.2
theorem Qy(b:Nat)(H:HS)(n:Nat)(hI:InvH H n)(hn:n<=1000)(lq:Ac)(hq:IsH b H lq)(a c:Cs)(gf:Nat)[EN prog gf](cs:Ap)(r:CapT->CapT×Int)(hr: ∀d,Jn d->Jn (r d).1)(X:Ac)
 (hf: ∀d l2,Jn d->(∀x,x∈X->x∈l2)->Fn prog gf ([.agg (toArray (B0 d))]++cs) l2 λv l'=>v= .tuple #[.agg (toArray (B0 (r d).1)),.int .i64 (r d).2]/\l'=l2)(G:Ac)(hX: ∀x,x∈X->x∈G):
 Fn prog 188 [.pointer (some ⟨b,0,none⟩),.agg (toArray (Cw a)),.agg (toArray (Cw c)),.func (.func gf) #[] (toArray cs)] (lq++G) λv l'=>v= .int .i64 (Gv H a c (r (D5 H.1 a))).1/\ ∃DF,IsH b (Gv H a c (r (D5 H.1 a))).2 DF/\l'=DF++G:=by
 refine AN func188 ntmps188 λE=>?_;refine AQ λb5=>?_;refine AQ λb6=>?_;refine Bh (AL rfl rfl λl2 hl=>Pa b H lq hq a c l2 λc hc=>hl c (.tail _ (.tail _ (Ai _ hc)))) ?_;have Kw: ∀(d e:CapT) (B C:Nat),Keep (Bz B d::Bz C e::Dv b6 c::Dv b5 a::(lq++G)) (lq++G):=λ_ _ _ _=> .drop (.drop (.drop (.drop .refl)));by_cases Dm:FM H.1 a=false\/FM H.1 c=false
 ·rw[W8 Dm];have e1:HJ H a c=3:=by unfold HJ;rw[Ad Dm]
  rw[show Gv H a c (r (D5 H.1 a))=(3,H) by unfold Gv;rw[Ad (by rw[e1];decide),e1]];refine Aj ?_;refine AS e_alloc ?_;rintro _ _ ⟨b9,_,rfl,rfl⟩;refine AQ λGd=>?_;exact Bb (Kw _ _ _ _) ⟨rfl,_,hq,rfl⟩
 obtain⟨kE,okc⟩:=ez Dm;rw[W7 kE okc,Md kE,Md okc];refine Aj ?_;refine AS e_alloc ?_;rintro _ _ ⟨b9,_,rfl,rfl⟩;refine AQ λGd=>?_;by_cases hp:(D5 H.1 a).kind=0
 ·have e1:HJ H a c=10:=by unfold HJ;rw[Ab Dm,Ad hp]
  rw[show Gv H a c (r (D5 H.1 a))=(10,H) by unfold Gv;rw[Ad (by rw[e1];decide),e1]];refine Aj ?_;exact Bb (Kw _ _ _ _) ⟨rfl,_,hq,rfl⟩
 by_cases hw:(D5 H.1 c).kind≠0
 ·have e1:HJ H a c=11:=by unfold HJ;rw[Ab Dm,Ab hp,Ad hw]
  rw[show Gv H a c (r (D5 H.1 a))=(11,H) by unfold Gv;rw[Ad (by rw[e1];decide),e1]];refine Aj ?_;exact Bb (Kw _ _ _ _) ⟨rfl,_,hq,rfl⟩
 have e1:HJ H a c=0:=by unfold HJ;rw[Ab Dm,Ab hp,Ab hw]
 have hwa:=(hI.at a).2;have hwr:=hr _ hwa;refine Aj ?_;refine Bh (FL rfl rfl λl2 hl=>by simpa using hf (D5 H.1 a) l2 hwa λx hx=>hl x (.tail _ (.tail _ (.tail _ (.tail _ (Aa _ (hX x hx))))))) ?_;by_cases he:(r (D5 H.1 a)).2≠0
 ·rw[show Gv H a c (r (D5 H.1 a))=((r (D5 H.1 a)).2,H) by unfold Gv;rw[Ab (by rw[e1];decide),Ad he]];refine AQ λTb=>?_;exact Bb (.drop (Kw _ _ _ _)) ⟨rfl,_,hq,rfl⟩
 have zC:(r (D5 H.1 a)).2=0:=by simpa using he
 rw[show Gv H a c (r (D5 H.1 a))=IK H a c (r (D5 H.1 a)).1 by unfold Gv;rw[Ab (by rw[e1];decide),Ab he]];rw[zC];refine AQ λTb=>?_;refine AS (Dn rfl rfl (Fn.mvP (λA=>Bz Tb (r (D5 H.1 a)).1::Bz Gd (D5 H.1 c)::Bz b9 (D5 H.1 a)::Dv b6 c::Dv b5 a::(A++G)) (T7 b H n hI hn lq hq a c (r (D5 H.1 a)).1 (Bz Tb (r (D5 H.1 a)).1::Bz Gd (D5 H.1 c)::Bz b9 (D5 H.1 a)::Dv b6 c::Dv b5 a::G)))) ?_;rintro _ _ ⟨rfl,DF,hq',rfl⟩;refine Aj ?_;exact Bb (l':=DF++G) (.drop (.drop (.drop (.drop (.drop .refl))))) ⟨rfl,_,hq',rfl⟩
theorem bi(c:CapT)(hw:Jn c)(b1:Nat)(DC:Int)(l:Ac)(hm:GJ b1 DC∈l):
 Fn prog 189 ([.agg (toArray (B0 c))]++[.pointer (some ⟨b1,0,none⟩)]) l λv l'=>v= .tuple #[.agg (toArray (B0 (Er c DC).1)),.int .i64 (Er c DC).2]/\l'=l:=by
 rw[show[Value.agg (toArray (B0 c))]++[.pointer (some ⟨b1,0,none⟩)]=[.agg (toArray (B0 c)),.pointer (some ⟨b1,0,none⟩)] from rfl];refine AN func189 ntmps189 λE=>?_;refine Aj ?_
 (first|refine AS (Ez rfl rfl) ?_|refine AS (CH rfl) ?_);rintro _ _ ⟨b2,_,rfl,rfl⟩
 have UW:GJ b1 DC∈Bz b2 c::l:= .tail _ hm;refine Aj ?_;refine AS e_alloc ?_;rintro _ _ ⟨b3,_,rfl,rfl⟩;have qE:GJ b1 DC∈Bz b3 CO::Bz b2 c::l:= .tail _ (.tail _ hm);refine Aj ?_;refine Bh (AL rfl rfl λl2 hl=>Ox c hw DC l2) ?_;refine Aj ?_;exact CT (l':=l) (Bz b3 (Er c DC).1::Bz b2 c::l) .refl (.drop (.drop .refl)) ⟨rfl,rfl⟩
theorem bj(c:CapT)(hw:Jn c)(b1 b2:Nat)(DC:Int)(Ey:Nat)(hd:Ey<18446744073709551616)(l:Ac)(hm:GJ b1 DC∈l)(dy:Rj b2 Ey∈l):
 Fn prog 195 ([.agg (toArray (B0 c))]++[.pointer (some ⟨b1,0,none⟩),.pointer (some ⟨b2,0,none⟩)]) l λv l'=>v= .tuple #[.agg (toArray (B0 (HH c DC Ey).1)),.int .i64 (HH c DC Ey).2]/\l'=l:=by
 rw[show[Value.agg (toArray (B0 c))]++[.pointer (some ⟨b1,0,none⟩),.pointer (some ⟨b2,0,none⟩)]=[.agg (toArray (B0 c)),.pointer (some ⟨b1,0,none⟩),.pointer (some ⟨b2,0,none⟩)] from rfl];refine AN func195 ntmps195 λE=>?_;refine AQ λb3=>?_;refine AS e_alloc ?_;rintro _ _ ⟨b4,_,rfl,rfl⟩;have qE:GJ b1 DC∈Bz b4 CO::Bz b3 c::l:= .tail _ (.tail _ hm);have hm4:Rj b2 Ey∈Bz b4 CO::Bz b3 c::l:= .tail _ (.tail _ dy);refine Aj ?_;refine Bh (AL rfl rfl λl2 hl=>l6 c hw DC Ey hd l2) ?_;refine Aj ?_;exact CT (l':=l) (Bz b4 (HH c DC Ey).1::Bz b3 c::l) .refl (.drop (.drop .refl)) ⟨rfl,rfl⟩
theorem MO(b:Nat)(H:HS)(n:Nat)(hI:InvH H n)(hn:n<=1000)(lq:Ac)(hq:IsH b H lq)(a c:Cs)(DC:Int)(G:Ac):
 Fn prog 145 [.pointer (some ⟨b,0,none⟩),.agg (toArray (Cw a)),.agg (toArray (Cw c)),.int .i64 DC] (lq++G) λv l'=>v= .int .i64 (Gv H a c (Er (D5 H.1 a) DC)).1/\ ∃DF,IsH b (Gv H a c (Er (D5 H.1 a) DC)).2 DF/\l'=DF++G:=by
 refine AN func145 ntmps145 λE=>?_;refine AQ λb5=>?_;refine AQ λb6=>?_;refine AQ λb7=>?_;refine AS (Dn (vs:=[.pointer (some ⟨b,0,none⟩),.agg (toArray (Cw a)),.agg (toArray (Cw c)),.func (.func 189) #[] (toArray [.pointer (some ⟨b7,0,none⟩)])]) rfl rfl (Fn.mvP (λA=>GJ b7 DC::Dv b6 c::Dv b5 a::(A++G)) (Qy b H n hI hn lq hq a c 189 [.pointer (some ⟨b7,0,none⟩)] (λd=>Er d DC) (λd h=>Ow h DC) [GJ b7 DC] (λd l2 hd hx=>bi d hd b7 DC l2 (hx _ (.head _))) (GJ b7 DC::Dv b6 c::Dv b5 a::G) (C7 (.head _))))) ?_;rintro _ _ ⟨rfl,DF,hq',rfl⟩;refine Aj ?_;exact Bb (l':=DF++G) (.drop (.drop (.drop .refl))) ⟨rfl,_,hq',rfl⟩
theorem Rn(b:Nat)(H:HS)(n:Nat)(hI:InvH H n)(hn:n<=1000)(lq:Ac)(hq:IsH b H lq)(a c:Cs)(DC:Int)(Ey:Nat)(hd:Ey<18446744073709551616)(G:Ac):
 Fn prog 149 [.pointer (some ⟨b,0,none⟩),.agg (toArray (Cw a)),.agg (toArray (Cw c)),.int .i64 DC,.int .u64 (Ey:Nat)] (lq++G) λv l'=>v= .int .i64 (Gv H a c (HH (D5 H.1 a) DC Ey)).1/\ ∃DF,IsH b (Gv H a c (HH (D5 H.1 a) DC Ey)).2 DF/\l'=DF++G:=by
 refine AN func149 ntmps149 λE=>?_;refine AQ λb5=>?_;refine AQ λb6=>?_;refine AQ λb7=>?_;refine AQ λb8=>?_;refine AS (Dn (vs:=[.pointer (some ⟨b,0,none⟩),.agg (toArray (Cw a)),.agg (toArray (Cw c)),.func (.func 195) #[] (toArray [.pointer (some ⟨b7,0,none⟩),.pointer (some ⟨b8,0,none⟩)])]) rfl rfl (Fn.mvP (λA=>Rj b8 Ey::GJ b7 DC::Dv b6 c::Dv b5 a::(A++G)) (Qy b H n hI hn lq hq a c 195 [.pointer (some ⟨b7,0,none⟩),.pointer (some ⟨b8,0,none⟩)] (λd=>HH d DC Ey) (λd h=>TU h DC Ey) [GJ b7 DC,Rj b8 Ey] (λd l2 hd2 hx=>bj d hd2 b7 b8 DC Ey hd l2 (hx _ (.head _)) (hx _ (.tail _ (.head _)))) (Rj b8 Ey::GJ b7 DC::Dv b6 c::Dv b5 a::G) (λx hx=>by
  rcases At.1 hx with rfl|hx
  ·exact .tail _ (.head _)
  ·rw[AC.1 hx];exact .head _)))) ?_
 rintro _ _ ⟨rfl,DF,hq',rfl⟩;refine Aj ?_;exact Bb (l':=DF++G) (.drop (.drop (.drop (.drop .refl)))) ⟨rfl,_,hq',rfl⟩
namespace Th
variable{es:List LE}{clock:Nat}{a:Int}
structure ThT where
 id:Int
 st:Int
 pr:Int
 m0:Int
 m1:Int
 m2:Int
 m3:Int
 bd:Int
 got:Bool
 ca:Int
 wa:Int
 o0:Int
 o1:Int
 o2:Int
 o3:Int
 ob:Int
 gv:Int
 inn:Int
 cl:Bool
 fa:Bool
 hs:Bool
 wr:Bool
 va:Int
 vl:Int
variable{t:ThT}
abbrev encH(t:ThT):Ap:=[.int .i64 t.id,.int .i64 t.st,.int .i64 t.pr,.int .u64 t.m0,.int .u64 t.m1,.int .u64 t.m2,.int .u64 t.m3,.int .u64 t.bd,.bool t.got,.int .i64 t.ca,.int .i64 t.wa,.int .u64 t.o0,.int .u64 t.o1,.int .u64 t.o2,.int .u64 t.o3,.int .u64 t.ob,.int .i64 t.gv,.int .i64 t.inn,.bool t.cl,.bool t.fa,.bool t.hs,.bool t.wr,.int .u64 t.va,.int .u64 t.vl]
abbrev thK:List (Option IntKind):=[some .i64,some .i64,some .i64,some .u64,some .u64,some .u64,some .u64,some .u64,none,some .i64,some .i64,some .u64,some .u64,some .u64,some .u64,some .u64,some .i64,some .i64,none,none,none,none,some .u64,some .u64]
theorem encH_k(t:ThT):AllK thK (encH t):=⟨_,_,rfl,⟨_,rfl⟩,_,_,rfl,⟨_,rfl⟩,_,_,rfl,⟨_,rfl⟩,_,_,rfl,⟨_,rfl⟩,_,_,rfl,⟨_,rfl⟩,_,_,rfl,⟨_,rfl⟩,_,_,rfl,⟨_,rfl⟩,_,_,rfl,⟨_,rfl⟩,_,_,rfl,⟨_,rfl⟩,_,_,rfl,⟨_,rfl⟩,_,_,rfl,⟨_,rfl⟩,_,_,rfl,⟨_,rfl⟩,_,_,rfl,⟨_,rfl⟩,_,_,rfl,⟨_,rfl⟩,_,_,rfl,⟨_,rfl⟩,_,_,rfl,⟨_,rfl⟩,_,_,rfl,⟨_,rfl⟩,_,_,rfl,⟨_,rfl⟩,_,_,rfl,⟨_,rfl⟩,_,_,rfl,⟨_,rfl⟩,_,_,rfl,⟨_,rfl⟩,_,_,rfl,⟨_,rfl⟩,_,_,rfl,⟨_,rfl⟩,_,_,rfl,⟨_,rfl⟩,rfl⟩
theorem encH_inj: ∀x y,encH x=encH y->x=y:=λx y h=>by cases x;cases y;simp only[encH,Co,Value.int.injEq,Value.bool.injEq,Io,Jg] at h;simp only[ThT.mk.injEq];exact h
instance:EQ prog 79 thK:=⟨BA⟩
abbrev thZ:ThT:=⟨0,0,0,0,0,0,0,0,false,0,0,0,0,0,0,0,0,0,false,false,false,false,0,0⟩
abbrev mI(id:Int):ThT:=⟨id,0,0,0,0,0,0,0,false,0,0,0,0,0,0,0,4096,4096,false,false,false,false,0,0⟩
def mayH(t:ThT):Bool:=decide (1<=t.id)&&decide (0<=t.st)&&decide (t.st<=4)&&decide (0<=t.pr)&&decide (t.pr<=7)&&decide (0<=t.ca)&&decide (0<=t.wa)&&decide (0<=t.gv)&&decide (t.gv<=4096)&&decide (0<=t.inn)&&decide (t.inn<=4096)
abbrev TL:=List ThT
variable{L:TL}
def findH(L:TL)(a:Int):Option ThT:=L.find? λt=>decide (t.id=a)
theorem KS(a:Int): ∀(es:List LE) (i:Nat),Ha a es i=E0 a es i
 |[],i=>rfl
 |e::es,i=>by unfold Ha E0;rw[KS a es (i+1)]
theorem JV(a:Int)(es:List LE):LF a es=HW a es:=by unfold LF HW;rw[KS]
theorem WV(a:Int)(v:Value)(clock:Nat)(es:List LE):Og a v clock es=LI a v clock es:=by unfold Og LI;rw[KS]<;>rfl
theorem aV(a:Int)(es:List LE):PJ a es=Po a es:=by unfold PJ Po;rw[KS]<;>rfl
theorem TP:a∈es.map (·.1)<->(HW a es).isSome=true:=by
 unfold HW;cases h:E0 a es 0 with
 |none=>
  simp only[DK,FA,Bm,iff_false];exact λhm=>by obtain⟨e,he,h2⟩:=Av.1 hm;exact IH.1 h e he h2
 |some p=>obtain⟨A,e,B,rfl,_,h1,_⟩:=HC (k:=p.1) (v:=p.2) h;simp[h1]
structure XB(L:TL)(es:List LE)(clock:Nat):Prop where
 ok:KeysOk es clock
 get: ∀a,LF a es=(findH L a).map λt=> .agg (toArray (encH t))
 asc:L.Pairwise λx y=>x.id<y.id
theorem XB.zero:XB [] [] 0:=⟨⟨by simp,by simp,by simp⟩,λa=>rfl,by simp⟩
theorem findH_some(h:findH L a=some t):t∈L/\t.id=a:=⟨Bt h,by simpa using Et h⟩
theorem PR:findH L a=none<-> ∀t,t∈L->t.id≠a:=by unfold findH;rw[Bq];simp
theorem XB.nd(h:XB L es clock):(L.map ThT.id).Nodup:=by refine(Cx.2 (h.asc.imp λUT=>?_));omega
theorem XB.keys(h:XB L es clock):(es.map (·.1)).Perm (L.map ThT.id):=by
 refine(FB h.ok.keys h.nd).2 λa=>?_;rw[TP,<-JV,h.get];cases hf:findH L a with
 |none=>
  simp only[DK,FA,Bm,false_iff];exact λhm=>by obtain⟨t,ht,h2⟩:=Av.1 hm;exact PR.1 hf t ht h2
 |some t=>obtain⟨h1,h2⟩:=findH_some hf;simp only[BU,IE,true_iff];exact Av.2 ⟨t,h1,h2⟩
theorem XB.len(h:XB L es clock):es.length=L.length:=by simpa using h.keys.length_eq
theorem XB.at_(h:XB L es clock)(ht:t∈L):findH L t.id=some t:=by
 cases hf:findH L t.id with
 |none=>exact absurd rfl (PR.1 hf t ht)
 |some u=>obtain⟨h1,h2⟩:=findH_some hf;rw[Om h.nd h1 ht h2]
def insH(L:TL)(t:ThT):TL:=L.takeWhile (λx=>decide (x.id<t.id))++t::L.dropWhile λx=>decide (x.id<t.id)
theorem Lo{α:Type}{p q:α->Bool}: ∀{l:List α},(∀x,x∈l->p x=q x)->l.find? p=l.find? q
 |[],_=>rfl
 |x::l,h=>by rw[BJ,BJ,h x Ak,Lo λy hy=>h y (An _ hy)]
def addD(L:TL)(id:Int):Int×TL:=if id<1 then(2,L) else if(findH L id).isSome=true then(11,L) else(0,insH L (mI id))
def dropD(L:TL)(id:Int):Int×TL:=if(findH L id).isSome=true then(0,L.filter λx=>decide (x.id≠id)) else(2,L)
def putH(L:TL)(t:ThT):TL:=L.map λx=>if x.id=t.id then t else x
def setD(L:TL)(t:ThT):Int×TL:=if(findH L t.id).isSome=true/\mayH t=true then(0,putH L t) else(2,L)
def serverD(L:TL)(id:Int):Int:=if id=0 then 0 else match L.find? (λt=>decide (t.ca=id)) with
 |some t=>t.id
 |none=>0
theorem Fs{α:Type}(p:α->Bool): ∀(A B:List α),(A++B).find? p=(A.find? p).or (B.find? p)
 |[],B=>rfl
 |x::A,B=>by
  rw[Ae,BJ,BJ];cases p x with
  |true=>rfl
  |false=>exact Fs p A B
theorem XB.add(h:XB L es clock)(hn:findH L t.id=none):XB (insH L t) (Og t.id (.agg (toArray (encH t))) clock es).1 (Og t.id (.agg (toArray (encH t))) clock es).2:=by
 have He:=PR.1 hn;have GD: ∀x,x∈L.takeWhile (λx=>decide (x.id<t.id))->x.id<t.id:=λx hx=>by simpa using A5.1 (IF (l:=L) (p:=λx=>decide (x.id<t.id))) x hx
 have hL:L.takeWhile (λx=>decide (x.id<t.id))++L.dropWhile (λx=>decide (x.id<t.id))=L:=Cd ..;have hs:=h.asc;rw[<-hL,Br] at hs;have XW: ∀x,x∈L.dropWhile (λx=>decide (x.id<t.id))->t.id<x.id:=λx hx=>by
  cases hd:L.dropWhile (λx=>decide (x.id<t.id)) with
  |nil=>rw[hd] at hx;cases hx
  |cons y r=>
   have hy:¬y.id<t.id:=by have:=List.head?_dropWhile_not (λx:ThT=>decide (x.id<t.id)) L;rw[hd] at this;simpa using this
   have hyL:y∈L:=(Je _).subset (by rw[hd];exact Ak);have:=He y hyL;rw[hd] at hx;rcases At.1 hx with rfl|hx
   ·omega
   ·have h2:=hs.2.1;rw[hd] at h2;have:=(Cf.1 h2).1 x hx;omega
 rw[WV];refine⟨h.ok.set _ _,λa=>?_,?_⟩
 ·rw[JV,Kh,<-JV,h.get];unfold insH findH;rw[Fs,BJ];have e0:L.find? (λt=>decide (t.id=a))=((L.takeWhile (λx=>decide (x.id<t.id))).find? (λt=>decide (t.id=a))).or ((L.dropWhile (λx=>decide (x.id<t.id))).find? (λt=>decide (t.id=a))):=by rw[<-Fs,hL]
  rw[e0];by_cases ha:a=t.id
  ·subst ha;rw[Ad rfl,Au rfl];have:(L.takeWhile (λx=>decide (x.id<t.id))).find? (λx=>decide (x.id=t.id))=none:=Bq.2 λx hx=>by have:=GD x hx;simp;omega
   rw[this];rfl
  ·rw[Ab ha,Aw λe=>ha e.symm]
 ·unfold insH;refine Br.2 ⟨hs.1,Cf.2 ⟨λx hx=>XW x hx,hs.2.1⟩,λx hx y hy=>?_⟩;have h1:=GD x hx;rcases At.1 hy with rfl|hy
  ·exact h1
  ·have:=XW y hy;omega
theorem XB.drop(h:XB L es clock)(a:Int):XB (L.filter λx=>decide (x.id≠a)) (PJ a es) clock:=by
 rw[aV];refine⟨h.ok.del a,λc=>?_,h.asc.filter _⟩;rw[JV,Qg h.ok,<-JV,h.get];unfold findH;rw[List.find?_filter];by_cases hc:c=a
 ·subst hc;rw[Ad rfl];rw[show L.find? (λx=>decide (decide (x.id≠c)=true/\decide (x.id=c)=true))=none from Bq.2 λx _=>by simp];rfl
 ·rw[Ab hc];congr 1;apply Lo;intro x _;by_cases hx:x.id=c
  ·simp[hx,hc]
  ·simp[hx]
theorem mJ(L:TL)(t:ThT):(putH L t).map ThT.id=L.map ThT.id:=by
 unfold putH;rw[CY];apply By;intro x _;show(if x.id=t.id then t else x).id=x.id
 split
 ·rename_i h;exact h.symm
 ·rfl
theorem OD(L:TL)(t:ThT)(a:Int):findH (putH L t) a=if a=t.id then(findH L a).map λ_=>t else findH L a:=by
 unfold findH putH
 induction L with
 |nil=>split<;>rfl
 |cons x L ih=>
  rw[AJ,BJ,BJ];by_cases hx:x.id=t.id
  ·rw[Ad hx,hx];by_cases ha:t.id=a
   ·rw[Au ha,Ad ha.symm];rfl
   ·rw[Aw ha,Ab λe=>ha e.symm];rw[Ab λe=>ha e.symm] at ih;exact ih
  ·rw[Ab hx];by_cases ha:x.id=a
   ·rw[Au ha,Ab λe=>hx (ha.trans e)]
   ·rw[Aw ha];exact ih
theorem XB.put(h:XB L es clock)(hn:(findH L t.id).isSome=true):XB (putH L t) (Og t.id (.agg (toArray (encH t))) clock es).1 (Og t.id (.agg (toArray (encH t))) clock es).2:=by
 rw[WV];refine⟨h.ok.set _ _,λa=>?_,?_⟩
 ·rw[JV,Kh,<-JV,h.get,OD];by_cases ha:a=t.id
  ·rw[Ad ha,Ad ha,ha];obtain⟨u,hu⟩:=Ip.1 hn;rw[hu];rfl
  ·rw[Ab ha,Ab ha]
 ·have h2:(L.map ThT.id).Pairwise (λx y=>x<y):=Cx.2 h.asc;rw[<-mJ L t] at h2;exact Cx.1 h2
abbrev xC(b m:Nat):Bd:=(b,.cells (toArray [.map (some m)]) 277 (0,0))
def IsX(b:Nat)(L:TL)(lq:Ac):Prop:= ∃m es clock,lq=[xC b m,(m,FX .i64 es clock)]/\XB L es clock
abbrev thV(t:ThT):Value:= .agg (toArray (encH t))
abbrev thC(B:Nat)(t:ThT):Bd:=(B,.cells (toArray (encH t)) 79 (0,0))
theorem new_any(l:Ac):Fn prog 131 [] l λv l'=> ∃b,v= .pointer (some ⟨b,0,none⟩)/\ ∃lq,IsX b [] lq/\l'=lq++l:=by refine AN func131 ntmps131 λE=>?_;refine gz ?_;refine AS OY ?_;rintro _ _ ⟨m,hm,rfl,rfl⟩;refine Im λb=>?_;exact Bb .refl ⟨b,rfl,_,⟨m,[],0,rfl,XB.zero⟩,rfl⟩
theorem Qm(t:ThT)(l:Ac):Fn prog 150 [thV t] l λv l'=>v= .bool (mayH t)/\l'=l:=by
 refine AN func150 ntmps150 λE=>?_;refine gz ?_
 (first|refine AS (Ez rfl rfl) ?_|refine AS (CH rfl) ?_);rintro _ _ ⟨b,_,rfl,rfl⟩
 by_cases h0:1<=t.id
 case neg=>
  have e:mayH t=false:=by unfold mayH;rw[Aw h0];simp
  rw[e];exact E3
 by_cases h1:0<=t.st
 case neg=>
  have e:mayH t=false:=by unfold mayH;rw[Aw h1];simp
  rw[e];exact E3
 by_cases h2:t.st<=4
 case neg=>
  have e:mayH t=false:=by unfold mayH;rw[Aw h2];simp
  rw[e];exact E3
 by_cases h3:0<=t.pr
 case neg=>
  have e:mayH t=false:=by unfold mayH;rw[Aw h3];simp
  rw[e];exact E3
 by_cases h4:t.pr<=7
 case neg=>
  have e:mayH t=false:=by unfold mayH;rw[Aw h4];simp
  rw[e];exact E3
 by_cases h5:0<=t.ca
 case neg=>
  have e:mayH t=false:=by unfold mayH;rw[Aw h5];simp
  rw[e];exact E3
 by_cases h6:0<=t.wa
 case neg=>
  have e:mayH t=false:=by unfold mayH;rw[Aw h6];simp
  rw[e];exact E3
 by_cases h7:0<=t.gv
 case neg=>
  have e:mayH t=false:=by unfold mayH;rw[Aw h7];simp
  rw[e];exact E3
 by_cases h8:t.gv<=4096
 case neg=>
  have e:mayH t=false:=by unfold mayH;rw[Aw h8];simp
  rw[e];exact E3
 by_cases h9:0<=t.inn
 case neg=>
  have e:mayH t=false:=by unfold mayH;rw[Aw h9];simp
  rw[e];exact E3
 have e:mayH t=decide (t.inn<=4096):=by unfold mayH;rw[Au h0,Au h1,Au h2,Au h3,Au h4,Au h5,Au h6,Au h7,Au h8,Au h9];simp
 rw[e];exact E3
theorem XB.look(h:XB L es clock)(a:Int):(LF a es).getD (thV thZ)=thV ((findH L a).getD thZ):=by rw[h.get];cases findH L a<;>rfl
theorem XB.has(h:XB L es clock)(a:Int):(LF a es).isSome=(findH L a).isSome:=by rw[h.get];cases findH L a<;>rfl
theorem add_any(b:Nat)(L:TL)(lq:Ac)(hq:IsX b L lq)(id:Int)(G:Ac):
 Fn prog 140 [.pointer (some ⟨b,0,none⟩),.int .i64 id] (lq++G) λv l'=>v= .int .i64 (addD L id).1/\ ∃DF,IsX b (addD L id).2 DF/\l'=DF++G:=by
 have M3:=hq;obtain⟨m,es,clock,rfl,hX⟩:=hq;refine AN func140 ntmps140 λE=>?_;by_cases h1:id<1
 ·rw[show addD L id=(2,L) by unfold addD;rw[Ad h1]];refine gz ?_;exact Bb .refl ⟨rfl,_,M3,rfl⟩
 simp only[Ae,Ag];refine gz ?_;rw[hX.look,hX.has];refine gz ?_;refine AS e_alloc ?_;rintro _ _ ⟨b5,_,rfl,rfl⟩;iterate 4 refine gzS ?_
 cases hf:findH L id with
 |some t=>rw[show addD L id=(11,L) by unfold addD;rw[Ab h1,hf];rfl];refine gz ?_;exact Bb (.drop .refl) ⟨rfl,_,M3,rfl⟩
 |none=>rw[show addD L id=(0,insH L (mI id)) by unfold addD;rw[Ab h1,hf];rfl];refine gz ?_;refine M9 (LW (a:=id) (es:=es) (clock:=clock) rfl rfl rfl (by exact DY)) rfl rfl ?_;rintro _ _ ⟨rfl,rfl⟩;refine gz ?_;exact Bb (.drop .refl) ⟨rfl,_,⟨m,_,_,rfl,hX.add (t:=mI id) hf⟩,rfl⟩
theorem get_any(b:Nat)(L:TL)(lq:Ac)(hq:IsX b L lq)(id:Int)(l:Ac)(CG: ∀c,c∈lq->c∈l):
 Fn prog 95 [.pointer (some ⟨b,0,none⟩),.int .i64 id] l λv l'=>v= .tuple #[thV ((findH L id).getD thZ),.bool (findH L id).isSome]/\l'=l:=by
 obtain⟨m,es,clock,rfl,hX⟩:=hq;have XK:=CG _ (.head _);have UW:=CG _ (.tail _ (.head _));refine AN func95 ntmps95 λE=>?_;refine Im λb4=>?_;rw[hX.look,hX.has];refine Im λb6=>?_;exact CT (l':=l) (thC b6 ((findH L id).getD thZ)::thC b4 ((findH L id).getD thZ)::l) .refl (.drop (.drop .refl)) ⟨rfl,rfl⟩
theorem set_any(b:Nat)(L:TL)(lq:Ac)(hq:IsX b L lq)(t:ThT)(G:Ac):
 Fn prog 96 [.pointer (some ⟨b,0,none⟩),thV t] (lq++G) λv l'=>v= .int .i64 (setD L t).1/\ ∃DF,IsX b (setD L t).2 DF/\l'=DF++G:=by
 have M3:=hq;obtain⟨m,es,clock,rfl,hX⟩:=hq;refine AN func96 ntmps96 λE=>?_;simp only[Ae,Ag];refine Im λb3=>?_;refine Cm [10,11] 13 _ ?_ (hR:=(λ_ h=>h));refine pz ?_;rw[hX.look,hX.has];refine pz ?_;apply CM
 ·exact e_alloc
 ·rfl
 ·rfl
 ·rfl
 ·rintro _ _ ⟨b5,_,_,rfl⟩ c hc;exact .tail _ hc
 rintro _ _ ⟨b5,_,rfl,rfl⟩;refine pz ?_;cases hf:findH L t.id with
 |none=>rw[show setD L t=(2,L) by unfold setD;rw[hf];simp];refine gz ?_;exact Bb (.drop (.drop .refl)) ⟨rfl,_,M3,rfl⟩
 |some u=>
  cases hM:mayH t with
  |false=>rw[show setD L t=(2,L) by unfold setD;rw[hf,hM];simp];refine gz ?_;refine NY (AL rfl rfl λl2 hl=>Qm t l2) rfl rfl rfl ?_;rw[hM];refine gz ?_;exact Bb (.drop (.drop .refl)) ⟨rfl,_,M3,rfl⟩
  |true=>
   rw[show setD L t=(0,putH L t) by unfold setD;rw[hf,hM];simp];refine gz ?_;refine NY (AL rfl rfl λl2 hl=>Qm t l2) rfl rfl rfl ?_;rw[hM];refine gz ?_;refine Cm [7] 8 ([thC b3 t,xC b m]) ?_;refine pz ?_;apply Oe
   ·exact LW (a:=t.id) (es:=es) (clock:=clock) rfl rfl rfl (by exact DY)
   ·rfl
   ·rfl
   ·rintro _ _ ⟨rfl,rfl⟩;exact Cg (by exact MG)
   rintro _ _ ⟨rfl,rfl⟩;refine pz ?_;refine gz ?_;exact BE [] rfl (.drop (.drop .refl)) (by exact Ba) ⟨rfl,_,⟨m,_,_,rfl,hX.put (by rw[hf];rfl)⟩,rfl⟩
end Th
end Go.Proofs.YtlifcingifodfaaGreat
