/- Laws that the statement's proof leans on (joined out of several texts). -/
import Derived.Test.YtlifcingifodfaaGreatGc19
set_option maxHeartbeats 4000000
set_option linter.unusedVariables false
set_option linter.unusedSimpArgs false
namespace Go.Proofs.YtlifcingifodfaaGreat
open Tryz
namespace Tr
open Go.RowKit
set_option maxRecDepth 20000
variable{F:Nat->NdT}{D:DT}{n p m clock b rb q:Nat}{B os A pre:List Nat}{s a c:CO}{es:List (Hf CO)}{lq:Ad}
theorem C5{c:Bg}{l:Ad}(h:c∈l): ∀x,x∈[c]->x∈l:=λx hx=>by rw[AE.1 hx];exact h
abbrev Dv(B:Nat)(s:CO):Bg:=(B,.cells (List.toArray (Ct s)) 61 (0,0))
def hasD(D:DT)(s:CO):Bool:=(splitD s D).isSome
def rootD(D:DT)(s:CO):Int×DT:=if hasD D s=true then(11,D) else(0,D++[(s,0)])
def childD(D:DT)(par s:CO):Int×DT:=match splitD par D with
 |none=>(10,D)
 |some (A,d,B)=>if hasD D s=true then(11,D) else(0,A++(par,d)::(s,d+1)::B)
theorem M3:hasD (Ft F os) s=(blk F os s).isSome:=by
 unfold hasD;cases h:blk F os s with
 |none=>rw[JL h];rfl
 |some p=>obtain⟨A,B,_,h2⟩:=G6 h;rw[h2];rfl
def SmallD(D:DT):Prop:= ∀x,x∈D-> -1000000<=x.2/\x.2<=1000000
theorem lz(p:Nat):(Ft F (A++p::B)).take (A.length+1)=Ft F A++[((F p).sl,(F p).dp)]:=by unfold Ft;rw[Aq,AJ,List.take_append,Bz (by simp)];simp
theorem lB(p:Nat):(Ft F (A++p::B)).drop (A.length+1)=Ft F B:=by unfold Ft;rw[Aq,AJ,JA,DG (by simp)];simp
theorem root_any(b:Nat)(D:DT)(lq:Ad)(hq:IsT b D lq)(s:CO)(G:Ad):
 Fn prog 187 [.pointer (some ⟨b,0,none⟩),.agg (List.toArray (Ct s))] (lq++G) λv l'=>v= .int .i64 (rootD D s).1/\ ∃DD,IsT b (rootD D s).2 DD/\l'=DD++G:=by
 obtain⟨rb,m,F,all,os,es,clock,rfl,hT⟩:=hq;refine AO func187 ntmps187 λE=>?_;refine gz ?_;refine AR (C4 rfl) ?_;rintro _ _ ⟨b3,hb3,rfl,rfl⟩;refine Bq (Keep.of_perm (l':=lq++(Dv b3 s::G)) AI.symm) ?_;have CE: ∀c,c∈lq->c∈lq++(Dv b3 s::G):=λc hc=>Ai _ hc;have hbm:Dv b3 s∈lq++(Dv b3 s::G):=Aa _ (.head _);refine gz ?_;refine Be (AL (R:=lq++(Dv b3 s::G)) rfl rfl λl2 Lf=>of_any b rb m F all os es clock lq s hT l2 λc hc=>Lf c (CE c hc)) ?_;cases hbk:blk F os s with
 |some p=>rw[show rootD (Ft F os) s=(11,Ft F os) by unfold rootD;rw[M3,hbk];rfl];simp only[M1];refine gz ?_;exact Bb (l':=lq++G) (Keep.trans (.of_perm AI) (.drop .refl)) ⟨rfl,lq,⟨rb,m,F,all,os,es,clock,rfl,hT⟩,rfl⟩
 |none=>
  rw[show rootD (Ft F os) s=(0,Ft F os++[(s,0)]) by unfold rootD;rw[M3,hbk];rfl];simp only[M1];obtain⟨X,p,hX⟩: ∃X p,rb::os=X++[p]:=⟨_,_,(GU (Mg rb os)).symm⟩
  have hpv:(F rb).pv=p:=hT.prv (Y:=[]) hX;have hXl:X.length=os.length:=by have:=BO List.length hX;simp at this;omega
  refine gz ?_;refine Cn [9] 10 ([]) ?_;refine pz ?_;apply Gi (S:=[K0 b rb m]);(·exact UV);(·exact C5 (CE _ hT.m1));(·rfl);(·rfl);(·rfl);refine pz ?_;apply Gi (S:=[Ol rb (F rb)]);(·exact UV);(·exact C5 (CE _ (hT.m3 hT.rin)));(·rfl);(·rfl);(·rfl);refine pz ?_;rw[hpv];apply Gi (S:=[Dv b3 s]);(·exact UV);(·exact C5 (hbm));(·rfl);(·rfl);(·rfl);refine pz ?_;apply Hb
  ·exact AA rfl rfl (dC b rb m F all os es clock lq hT X [] p hX s 0 hbk (Dv b3 s::G))
  (·rfl);(·rfl);(·rfl);(·intro _ _ _ c hc;cases hc);(·exact λ_ _ _ x hx ha=>Dg BB hx ha)
  rintro _ _ ⟨rfl,DD,hq',rfl⟩;refine pz ?_;refine gz ?_;refine Bb (l':=DD++G) (Keep.trans (.of_perm AI) (.drop .refl)) ⟨rfl,DD,?_,rfl⟩;rw[hXl,Bz (by simp[Ft]),DG (by simp[Ft])] at hq';exact hq'
theorem child_any(b:Nat)(D:DT)(lq:Ad)(hq:IsT b D lq)(hd:SmallD D)(par s:CO)(G:Ad):
 Fn prog 313 [.pointer (some ⟨b,0,none⟩),.agg (List.toArray (Ct par)),.agg (List.toArray (Ct s))] (lq++G) λv l'=>v= .int .i64 (childD D par s).1/\ ∃DD,IsT b (childD D par s).2 DD/\l'=DD++G:=by
 obtain⟨rb,m,F,all,os,es,clock,rfl,hT⟩:=hq;refine AO func313 ntmps313 λE=>?_;refine gz ?_;refine AR (C4 rfl) ?_;rintro _ _ ⟨b4,hb4,rfl,rfl⟩;refine gz ?_;refine AR (C4 rfl) ?_;rintro _ _ ⟨b5,yp,rfl,rfl⟩;have Le: ∀lq:Ad,Keep (lq++(Dv b5 s::Dv b4 par::G)) (lq++G):=λlq=>Keep.trans (.of_perm (Az lq [Dv b5 s,Dv b4 par] G)) (.drop (.drop .refl));refine Bq (Keep.of_perm (l':=lq++(Dv b5 s::Dv b4 par::G)) (Az [Dv b5 s,Dv b4 par] lq G)) ?_;have CE: ∀c,c∈lq->c∈lq++(Dv b5 s::Dv b4 par::G):=λc hc=>Ai _ hc;have zl:Dv b4 par∈lq++(Dv b5 s::Dv b4 par::G):=Aa _ (.tail _ (.head _));have jJ:Dv b5 s∈lq++(Dv b5 s::Dv b4 par::G):=Aa _ (.head _);refine gz ?_;refine Be (AL (R:=lq++(Dv b5 s::Dv b4 par::G)) rfl rfl λl2 Lf=>of_any b rb m F all os es clock lq par hT l2 λc hc=>Lf c (CE c hc)) ?_;cases cM:blk F os par with
 |none=>rw[show childD (Ft F os) par s=(10,Ft F os) by unfold childD;rw[JL cM]];simp only[M1];refine gz ?_;exact Bb (l':=lq++G) (Le lq) ⟨rfl,lq,⟨rb,m,F,all,os,es,clock,rfl,hT⟩,rfl⟩
 |some p=>
  simp only[M1];refine gz ?_;refine Be (AL (R:=lq++(Dv b5 s::Dv b4 par::G)) rfl rfl λl2 Lf=>of_any b rb m F all os es clock lq s hT l2 λc hc=>Lf c (CE c hc)) ?_;cases hbk:blk F os s with
  |some q=>rw[show childD (Ft F os) par s=(11,Ft F os) by unfold childD;obtain⟨A,B,_,h2⟩:=G6 cM;rw[h2];simp only;rw[M3,hbk];rfl];simp only[M1];refine gz ?_;exact Bb (l':=lq++G) (Le lq) ⟨rfl,lq,⟨rb,m,F,all,os,es,clock,rfl,hT⟩,rfl⟩
  |none=>
   obtain⟨A,B,Nv,h2⟩:=G6 cM;have Nt:=(Ip cM).2;have s7:=(Ip cM).1;rw[show childD (Ft F os) par s=(0,Ft F A++(par,(F p).dp)::(s,(F p).dp+1)::Ft F B) by unfold childD;rw[h2];simp only;rw[M3,hbk];rfl];have hX:rb::os=(rb::A)++p::B:=by rw[Nv];rfl
   have hr:=hd _ (Au.2 ⟨p,s7,rfl⟩);simp only at hr;simp only[M1];refine gz ?_;refine Cn [8] 9 ([]) ?_;refine pz ?_;apply Gi (S:=[Dv b5 s]);(·exact UV);(·exact C5 (jJ));(·rfl);(·rfl);(·rfl);refine pz ?_;apply Gi (S:=[Ol p (F p)]);(·exact UV);(·exact C5 (CE _ (hT.m3 (hT.sub p s7))));(·rfl);(·rfl);(·rfl);refine pz ?_;apply Hb
   ·exact AA rfl rfl (dC b rb m F all os es clock lq hT (rb::A) B p hX s _ hbk (Dv b5 s::Dv b4 par::G))
   (·rfl);(·rfl);(·rfl);(·intro _ _ _ c hc;cases hc);(·exact λ_ _ _ x hx ha=>Dg BB hx ha)
   rintro _ _ ⟨rfl,DD,hq',rfl⟩;refine pz ?_;refine gz ?_;refine Bb (l':=DD++G) (Le DD) ⟨rfl,DD,?_,rfl⟩;rw[BC,Nv,lz,lB,Nt] at hq';simpa using hq'
open Go.RowKit
set_option maxRecDepth 20000
theorem HU:blk F os s=none<-> ∀p,p∈os->(F p).sl≠s:=
 ⟨J6,λh=>Br.2 λq hq=>by simpa using h q hq⟩
theorem WI:blk F (A++p::B) s=(blk F A s).or (if(F p).sl=s then some p else blk F B s):=by
 unfold blk;rw[Eh,BG];congr 1;by_cases h:(F p).sl=s
 ·rw[Av h,Ac h]
 ·rw[Ax h,Ab h]
theorem OU{F F':Nat->NdT}{s:CO}: ∀{os:List Nat},(∀q,q∈os->(F' q).sl=(F q).sl)->blk F' os s=blk F os s
 |[],_=>rfl
 |q::os,h=>by have ih:=OU (s:=s) (os:=os) λz hz=>h z (An _ hz);unfold blk at ih⊢;rw[BG,BG,h q Ak,ih]
theorem OV{F':Nat->NdT}(h: ∀q,q∈os->(F' q).sl=(F q).sl/\(F' q).dp=(F q).dp):Ft F' os=Ft F os:=by unfold Ft;exact BA λq hq=>by rw[(h q hq).1,(h q hq).2]
theorem TB.uniq{all:List Nat}(h:TB b rb m F all (A++p::B) es clock lq):(∀q,q∈A->(F q).sl≠(F p).sl)/\(∀q,q∈B->(F q).sl≠(F p).sl):=by
 have hn:=h.snd;rw[Aq,AJ] at hn;refine⟨λq hq e=>?_,λq hq e=>?_⟩
 ·exact(By.1 hn).2.2 _ (Au.2 ⟨q,hq,rfl⟩) _ Ak e
 ·exact(AP.1 (By.1 hn).2.1).1 (Au.2 ⟨q,hq,e⟩)
theorem TB.out{all:List Nat}(h:TB b rb m F all (A++p::B) es clock lq):p∉A/\p∉B/\rb∉A/\rb∉B/\p≠rb:=by have hn:=AP.1 h.ond;have h2:=By.1 hn.2;refine⟨λhp=>h2.2.2 p hp p Ak rfl,(AP.1 h2.2.1).1,λhr=>hn.1 (Ai _ hr),λhr=>hn.1 (Aa _ (.tail _ hr)),λe=>hn.1 (by rw[<-e];simp)⟩
def moveD(D:DT)(a c:CO):Int×DT:=match splitD a D with
 |none=>(10,D)
 |some (A,d,B)=>if hasD D c=true then(11,D) else(0,A++(c,d)::B)
open Go.RowKit
set_option maxRecDepth 20000
def decW(d:Int)(B:DT):DT:=(B.takeWhile λx=>decide (d<x.2)).map (λx=>(x.1,x.2-1))++B.dropWhile λx=>decide (d<x.2)
def removeD(D:DT)(s:CO):Int×DT:=match splitD s D with
 |none=>(10,D)
 |some (A,d,B)=>(0,A++decW d B)
def M4(F:Nat->NdT)(pre:List Nat):Nat->NdT:=λq=>if q∈pre then{F q with dp:=(F q).dp-1} else F q
theorem Mu(h:q∉pre):M4 F pre q=F q:=Ab h
theorem gF{y:Nat}(h:y∉pre):upd (M4 F pre) y {F y with dp:=(F y).dp-1}=M4 F (pre++[y]):=by
 funext q;unfold upd M4;by_cases e:q=y
 ·subst e;simp[h]
 ·simp[e]
theorem TP(F:Nat->NdT)(pre:List Nat)(q:Nat):(M4 F pre q).sl=(F q).sl/\(M4 F pre q).nx=(F q).nx/\(M4 F pre q).pv=(F q).pv:=by unfold M4;split<;>exact⟨rfl,rfl,rfl⟩
theorem qQ{d:Int}(hn:B.Nodup):Ft (M4 F (B.takeWhile λq=>decide (d<(F q).dp))) B=decW d (Ft F B):=by
 have e1:(Ft F B).takeWhile (λx=>decide (d<x.2))=Ft F (B.takeWhile λq=>decide (d<(F q).dp)):=by unfold Ft;rw[List.takeWhile_map];rfl
 have e2:(Ft F B).dropWhile (λx=>decide (d<x.2))=Ft F (B.dropWhile λq=>decide (d<(F q).dp)):=by unfold Ft;rw[List.dropWhile_map];rfl
 unfold decW;rw[e1,e2];obtain⟨tw,Jq⟩: ∃tw,tw=B.takeWhile λq=>decide (d<(F q).dp):=⟨_,rfl⟩
 obtain⟨dw,hdw⟩: ∃dw,dw=B.dropWhile λq=>decide (d<(F q).dp):=⟨_,rfl⟩
 have hB:B=tw++dw:=by rw[Jq,hdw,Cb]
 rw[<-Jq,<-hdw,hB];unfold Ft;rw[Aq,CR];congr 1
 ·apply BA;intro q hq;unfold M4;rw[Ac hq];rfl
 ·apply BA;intro q hq;rw[hB] at hn;rw[Mu λh=>(By.1 hn).2.2 q h q hq rfl]
theorem PE{F F':Nat->NdT}{p x n:Nat}{Z:List Nat}: ∀{X:List Nat},qN F (X++p::x::n::Z)->(X++p::x::n::Z).dropLast.Nodup->(X++p::x::n::Z).tail.Nodup->
 (∀u,u≠p->(F' u).nx=(F u).nx)->(∀v,v≠n->(F' v).pv=(F v).pv)->(F' p).nx=n->(F' n).pv=p->qN F' (X++p::n::Z)
 |[],⟨h1,h2,h3,h4,h5⟩,hs,ht,hn,hp,k1,k2=>by
  refine⟨k1,k2,On h5 (λu hu=>hn u ?_) λv hv=>hp v ?_⟩
  ·rintro rfl;have:(u::x::(n::Z).dropLast).Nodup:=by simpa using hs
   exact(AP.1 this).1 (.tail _ hu)
  ·rintro rfl;have:(x::v::Z).Nodup:=by simpa using ht
   exact(AP.1 (AP.1 this).2).1 hv
 |[a],⟨h1,h2,h3⟩,hs,ht,hn,hp,k1,k2=>by
  have R8:(a::(p::x::n::Z).dropLast).Nodup:=by simpa using hs
  have NM:=AP.1 R8;have ZJ:(p::x::n::Z).Nodup:=by simpa using ht
  have ZK:=AP.1 ZJ;refine⟨by rw[hn a (λe=>NM.1 (by rw[e];simp[List.dropLast]))];exact h1,by rw[hp p (λe=>ZK.1 (by rw[e];simp))];exact h2,?_⟩;exact PE (X:=[]) h3 NM.2 ZK.2 hn hp k1 k2
 |a::b::X,⟨h1,h2,h3⟩,hs,ht,hn,hp,k1,k2=>by
  have R8:(a::((b::X)++p::x::n::Z).dropLast).Nodup:=by have:((a::b::X)++p::x::n::Z).dropLast=a::((b::X)++p::x::n::Z).dropLast:=GT (by simp);rwa [this] at hs
  have NM:=AP.1 R8;have ZJ:(b::(X++p::x::n::Z)).Nodup:=ht;have ZK:=AP.1 ZJ;have ym:p∈((b::X)++p::x::n::Z).dropLast:=by rw[JC (by simp)];exact Aa _ (by simp[List.dropLast])
  refine⟨by rw[hn a (λe=>NM.1 (by rw[e];exact ym))];exact h1,by rw[hp b (λe=>ZK.1 (by rw[e];simp))];exact h2,?_⟩;exact PE (X:=b::X) h3 NM.2 ZK.2 hn hp k1 k2
open Go.RowKit
set_option maxRecDepth 20000
section
variable{P:Program}{ro:Option Nat}{N:Nat}{fr:Fr}{R:Ad}{d:Option Nat}{ty t t2:TypeId}{pos:String}{aft:Array Edge}{g:Option (Nat×Bool)}{x y:Operand}
theorem lC{p:Option Addr}{e:Nat}(hx:ev fr x=some (.pointer none))(hy:ev fr y=some (.pointer p))[c:PT P t e]:OpQ P ro N fr R ⟨d,.binOp .eql t x y t2,ty,pos,aft,g⟩ (.bool p.isNone):=BM rfl λρ l hρ _=>by simp only[execOp,hρ x _ hx,hρ y _ hy,AC,JZ,Bn,binOp];unfold Op.equal Op.maxDepth Op.equalIn;rw[Cc (NY c.out)];cases p<;>exact⟨rfl,rfl⟩
end
theorem AaC(q:Nat):decide ((⟨q,0,none⟩:Addr)=⟨q,0,none⟩)=true:=Av rfl
theorem AaD{r:Nat}(h:q≠r):decide ((⟨q,0,none⟩:Addr)=⟨r,0,none⟩)=false:=Ax λe=>h (by injection e)
theorem dD{κ:Type}[DecidableEq κ]{a:κ}{u:Value}{es:List (Hf κ)}(hk:KeysOk es clock)(h:HQ a es=some u)(v:Value): ∃A e B,es=A++e::B/\e.1=a/\(∀x∈A,x.1≠a)/\(∀x∈A,x.2.2≠e.2.2)/\A++(e.1,v,e.2.2)::B=(Lk a v clock es).1/\(Lk a v clock es).2=clock:=by
 unfold HQ at h;cases hf:EZ a es 0 with
 |none=>rw[hf] at h;cases h
 |some p=>
  obtain⟨k,w⟩:=p;obtain⟨A,e,B,rfl,rfl,h1,h2,h3⟩:=Hv hf;have hm:(A++e::B).modify A.length (λx=>(x.1,v,x.2.2))=A++(e.1,v,e.2.2)::B:=Hu _ e B A;refine⟨A,e,B,rfl,h1,h3,λx hx e'=>?_,?_,?_⟩
  ·have hs:=hk.stamps;rw[Aq,AJ] at hs;exact(By.1 hs).2.2 _ (Au.2 ⟨x,hx,rfl⟩) _ Ak e'
  ·unfold Lk;rw[hf];exact hm.symm
  ·unfold Lk;rw[hf]
def Mv(a c:CO)(x:CO×Int):CO×Int:=if x.1=a then(c,x.2) else if x.1=c then(a,x.2) else x
def swapD(D:DT)(a c:CO):DT:=D.map (Mv a c)
theorem gG(a:CO)(x:CO×Int):Mv a a x=x:=by
 unfold Mv;by_cases h:x.1=a
 ·rw[Ac h,<-h]
 ·rw[Ab h,Ab h]
def swf(a c s:CO):CO:=if s=a then c else if s=c then a else s
theorem swpS_fst(a c:CO)(x:CO×Int):(Mv a c x).1=swf a c x.1:=by
 unfold Mv swf;by_cases h:x.1=a
 ·rw[Ac h,Ac h]
 ·rw[Ab h,Ab h];by_cases h2:x.1=c
  ·rw[Ac h2,Ac h2]
  ·rw[Ab h2,Ab h2]
theorem swf_swf(a c s:CO):swf a c (swf a c s)=s:=by
 unfold swf;by_cases h:s=a
 ·rw[Ac h];by_cases h3:c=a
  ·rw[Ac h3,h,h3]
  ·rw[Ab h3,Ac rfl,h]
 ·rw[Ab h];by_cases h2:s=c
  ·rw[Ac h2,Ac rfl,h2]
  ·rw[Ab h2,Ab h,Ab h2]
theorem YA{x y:CO×Int}(h:(Mv a c x).1=(Mv a c y).1):x.1=y.1:=by rw[swpS_fst,swpS_fst] at h;rw[<-swf_swf a c x.1,h,swf_swf]
theorem gH(a c:CO)(x:CO×Int):Mv a c x=Mv c a x:=by
 unfold Mv;by_cases h:x.1=a
 ·by_cases h2:x.1=c
  ·rw[Ac h,Ac h2,<-h,<-h2]
  ·rw[Ac h,Ab h2,Ac h]
 ·rw[Ab h,Ab h]
theorem ay(D:DT)(a c:CO):swapD D a c=swapD D c a:=BA λx _=>gH a c x
theorem TQ(ha: ∀q,q∈os->(F q).sl≠a)(hc: ∀q,q∈os->(F q).sl≠c):swapD (Ft F os) a c=Ft F os:=by
 unfold swapD Ft;rw[CR];exact BA λq hq=>by show Mv a c ((F q).sl,(F q).dp)=_;unfold Mv;rw[Ab (ha q hq),Ab (hc q hq)]
theorem VJ{all:List Nat}(hT:TB b rb m F all os es clock lq)(h1:blk F os a=some p)(h2:blk F os c=none):moveD (Ft F os) a c=(0,swapD (Ft F os) a c):=by
 unfold moveD;obtain⟨A,B,rfl,hs⟩:=G6 h1;have Nt:=(Ip h1).2;rw[hs];simp only;rw[M3,h2];simp only[Fy,Bl,C3];obtain⟨uA,uB⟩:=hT.uniq;rw[Nt] at uA uB;have I8:=J6 h2;have e:swapD (Ft F (A++p::B)) a c=swapD (Ft F A) a c++Mv a c ((F p).sl,(F p).dp)::swapD (Ft F B) a c:=by unfold swapD Ft;rw[Aq,AJ,Aq,AJ]
 rw[e,TQ uA λq hq=>I8 q (Ai _ hq),TQ uB λq hq=>I8 q (Aa _ (.tail _ hq))];congr 3;unfold Mv;rw[Ac Nt]
open Go.RowKit
set_option maxRecDepth 20000
def DepOk:Int->DT->Prop
 |_,[]=>True
 |e,x::r=>0<=x.2/\x.2<=e/\DepOk (x.2+1) r
theorem DepOk.mono: ∀{D:DT} {e f:Int},DepOk e D->e<=f->DepOk f D
 |[],_,_,_,_=>trivial
 |x::r,e,f,⟨h1,h2,h3⟩,h=>⟨h1,Af,h3⟩
theorem DepOk.bound: ∀{D:DT} {e:Int},DepOk e D-> ∀x,x∈D->0<=x.2/\x.2<=e+D.length
 |[],_,_,x,hx=>by cases hx
 |y::r,e,⟨h1,h2,h3⟩,x,hx=>by
  rw[BC];rcases At.1 hx with rfl|hx
  ·exact⟨h1,Af⟩
  ·have:=DepOk.bound h3 x hx;exact⟨this.1,Af⟩
def YB:Int->DT->Int
 |e,[]=>e
 |_,x::r=>YB (x.2+1) r
theorem DepOk.app: ∀{A B:DT} {e:Int},DepOk e (A++B)<->DepOk e A/\DepOk (YB e A) B
 |[],B,e=>⟨λh=>⟨trivial,h⟩,λh=>h.2⟩
 |x::A,B,e=>by show 0<=x.2/\x.2<=e/\DepOk (x.2+1) (A++B)<->(0<=x.2/\x.2<=e/\DepOk (x.2+1) A)/\DepOk (YB (x.2+1) A) B;rw[DepOk.app (A:=A)];exact⟨λ⟨h1,h2,h3,h4⟩=>⟨⟨h1,h2,h3⟩,h4⟩,λ⟨⟨h1,h2,h3⟩,h4⟩=>⟨h1,h2,h3,h4⟩⟩
theorem DepOk.last: ∀{A:DT} {e:Int},DepOk e A->0<=e->0<=YB e A
 |[],_,_,h=>h
 |x::A,e,⟨h1,_,h3⟩,_=>by show 0<=YB (x.2+1) A;exact DepOk.last h3 Af
theorem DepOk.dec{d:Int}(hd:0<=d): ∀{B:DT} {e f:Int},DepOk e B->e<=f+1->d<=f->DepOk f (decW d B)
 |[],_,_,_,_,_=>trivial
 |x::r,e,f,⟨h1,h2,h3⟩,he,hf=>by
  by_cases h:d<x.2
  ·have e1:decW d (x::r)=(x.1,x.2-1)::decW d r:=by
    unfold decW;rw[Hn (by simpa using h),List.dropWhile_cons_of_pos (by simpa using h)];rfl
   rw[e1];refine⟨by simp only;omega,by simp only;omega,?_⟩;exact DepOk.dec hd h3 (by simp only;omega) (by simp only;omega)
  ·have e1:decW d (x::r)=x::r:=by
    unfold decW;rw[Fx (by simpa using h),Hm (by simpa using h)];rfl
   rw[e1];exact⟨h1,Af,h3⟩
theorem decW_fst(d:Int)(B:DT):(decW d B).map Prod.fst=B.map Prod.fst:=by unfold decW;rw[Aq,CR];have:(List.takeWhile (λx:CO×Int=>decide (d<x.2)) B).map (Prod.fst∘λx=>(x.1,x.2-1))=(List.takeWhile (λx:CO×Int=>decide (d<x.2)) B).map Prod.fst:=rfl;rw[this,<-Aq,Cb]
theorem TR(d:Int)(B:DT):(decW d B).length=B.length:=by have:=BO List.length (decW_fst d B);simpa using this
structure GoodT(D:DT)(n:Nat):Prop where
 nd:(D.map Prod.fst).Nodup
 dep:DepOk 0 D
 len:D.length<=n
theorem GoodT.small(h:GoodT D n)(hn:n<=1000000):SmallD D:=λx hx=>by have:=h.dep.bound x hx;have:=h.len;omega
theorem splitD_some{s:CO}: ∀{D A B:DT} {d:Int},splitD s D=some (A,d,B)->D=A++(s,d)::B/\ ∀x,x∈A->x.1≠s
 |[],_,_,_,h=>by cases h
 |y::r,A,B,d,h=>by
  unfold splitD at h;by_cases e:y.1=s
  ·rw[Ac e] at h;cases h;refine⟨by rw[<-e];rfl,by simp⟩
  ·rw[Ab e] at h;cases h2:splitD s r with
   |none=>rw[h2] at h;cases h
   |some z=>
    rw[h2] at h;obtain⟨A',d',B'⟩:=z;cases h;obtain⟨rfl,h3⟩:=splitD_some h2;refine⟨rfl,λx hx=>?_⟩;rcases At.1 hx with rfl|hx
    ·exact e
    ·exact h3 x hx
theorem Oo{s:CO}: ∀{D:DT},splitD s D=none<-> ∀x,x∈D->x.1≠s
 |[]=>⟨λ_ x hx=>(by cases hx),λ_=>rfl⟩
 |y::r=>by
  unfold splitD;by_cases e:y.1=s
  ·rw[Ac e];exact⟨λh=>(by cases h),λh=>absurd e (h y Ak)⟩
  ·rw[Ab e];constructor
   ·intro h x hx;have h2:splitD s r=none:=by cases h2:splitD s r with|none=>rfl|some z=>rw[h2] at h;cases h
    rcases At.1 hx with rfl|hx
    ·exact e
    ·exact Oo.1 h2 x hx
   ·intro h;rw[Oo.2 λx hx=>h x (An _ hx)];rfl
theorem hasD_no:hasD D s=false<-> ∀x,x∈D->x.1≠s:=by unfold hasD;rw[<-Oo];cases splitD s D<;>simp
theorem hasD_yes:hasD D s=true<->s∈D.map Prod.fst:=by
 constructor
 ·intro h;unfold hasD at h;cases h2:splitD s D with
  |none=>rw[h2] at h;cases h
  |some z=>obtain⟨A,d,B⟩:=z;rw[(splitD_some h2).1];simp
 ·intro h;cases h2:hasD D s with
  |true=>rfl
  |false=>obtain⟨x,hx,rfl⟩:=Au.1 h;exact absurd rfl (hasD_no.1 h2 x hx)
theorem GoodT.mono(h:GoodT D n)(hm:n<=m):GoodT D m:=⟨h.nd,h.dep,BY h.len hm⟩
theorem GoodT.root(h:GoodT D n)(s:CO):GoodT (rootD D s).2 (n+1):=by
 unfold rootD;by_cases hs:hasD D s=true
 ·rw[Ac hs];exact h.mono Af
 ·rw[Ab hs];have I8:=hasD_no.1 (by simpa using hs);refine⟨?_,DepOk.app.2 ⟨h.dep,by simp only;omega,h.dep.last Af,trivial⟩,by have:=h.len;simp;omega⟩;rw[Aq,By];refine⟨h.nd,by simp,λa ha c hc e=>?_⟩;obtain⟨x,hx,rfl⟩:=Au.1 ha;exact I8 x hx (by rw[e];simpa using hc)
theorem GoodT.child(h:GoodT D n)(p s:CO):GoodT (childD D p s).2 (n+1):=by
 unfold childD;cases h2:splitD p D with
 |none=>exact h.mono Af
 |some z=>
  obtain⟨A,d,B⟩:=z;simp only;by_cases hs:hasD D s=true
  ·rw[Ac hs];exact h.mono Af
  ·rw[Ab hs];have I8:=hasD_no.1 (by simpa using hs);obtain⟨rfl,hA⟩:=splitD_some h2;obtain⟨h3,h4,h5,h6⟩:=DepOk.app.1 h.dep;refine⟨?_,DepOk.app.2 ⟨h3,h4,h5,by simp only;omega,by simp only;omega,h6.mono (by simp only;omega)⟩,by have:=h.len;simp at this⊢;omega⟩;have hp:((A++(p,d)::(s,d+1)::B).map Prod.fst).Perm (s::(A++(p,d)::B).map Prod.fst):=by
    have:(A++(p,d)::(s,d+1)::B).Perm ((s,d+1)::(A++(p,d)::B)):=by
     have e:A++(p,d)::(s,d+1)::B=(A++[(p,d)])++(s,d+1)::B:=by simp
     have e2:A++(p,d)::B=(A++[(p,d)])++B:=by simp
     rw[e,e2];exact AI
    exact this.map _
   rw[hp.nodup_iff,AP];refine⟨λhm=>?_,h.nd⟩;obtain⟨x,hx,e⟩:=Au.1 hm;exact I8 x hx e
theorem GoodT.remove(h:GoodT D n)(s:CO):GoodT (removeD D s).2 n:=by
 unfold removeD;cases h2:splitD s D with
 |none=>exact h
 |some z=>obtain⟨A,d,B⟩:=z;simp only;obtain⟨rfl,hA⟩:=splitD_some h2;obtain⟨h3,h4,h5,h6⟩:=DepOk.app.1 h.dep;refine⟨?_,DepOk.app.2 ⟨h3,h6.dec h4 (by simp only at h5⊢;omega) h5⟩,by have:=h.len;rw[Ah,TR];simp at this⊢;omega⟩;rw[Aq,decW_fst,<-Aq];exact h.nd.sublist ((Ge (D8 _ _) _).map _)
theorem GoodT.move(h:GoodT D n)(a c:CO):GoodT (moveD D a c).2 n:=by
 unfold moveD;cases h2:splitD a D with
 |none=>exact h
 |some z=>
  obtain⟨A,d,B⟩:=z;simp only;by_cases hs:hasD D c=true
  ·rw[Ac hs];exact h
  ·rw[Ab hs];have I8:=hasD_no.1 (by simpa using hs);obtain⟨rfl,hA⟩:=splitD_some h2;obtain⟨h3,h4,h5,h6⟩:=DepOk.app.1 h.dep;refine⟨?_,DepOk.app.2 ⟨h3,h4,h5,h6⟩,by have:=h.len;simp at this⊢;omega⟩;have hn:=h.nd;rw[Aq,AJ] at hn⊢;have jz:=AP.1 (AI.nodup_iff.1 hn);refine AI.nodup_iff.2 (AP.2 ⟨λhm=>?_,jz.2⟩);rcases AH.1 hm with hm|hm
   ·obtain⟨x,hx,e⟩:=Au.1 hm;exact I8 x (Ai _ hx) e
   ·obtain⟨x,hx,e⟩:=Au.1 hm;exact I8 x (Aa _ (.tail _ hx)) e
theorem DepOk.map{f:CO×Int->CO×Int}(hf: ∀x,(f x).2=x.2): ∀{D:DT} {e:Int},DepOk e D->DepOk e (D.map f)
 |[],_,_=>trivial
 |x::r,e,⟨h1,h2,h3⟩=>by refine⟨by rw[hf];exact h1,by rw[hf];exact h2,?_⟩;rw[hf];exact DepOk.map hf h3
theorem lD(a c:CO)(x:CO×Int):(Mv a c x).2=x.2:=by unfold Mv;split<;>(try split)<;>rfl
theorem GoodT.swap(h:GoodT D n)(a c:CO):GoodT (swapD D a c) n:=by refine⟨?_,h.dep.map (lD a c),by unfold swapD;rw[A7];exact h.len⟩;unfold swapD;rw[CR,D3,Cu];have hn:=h.nd;rw[D3,Cu] at hn;exact hn.imp λG5 e=>G5 (YA e)
theorem GoodT.none:GoodT [] 0:=⟨by simp,trivial,by simp⟩
end Tr
end Go.Proofs.YtlifcingifodfaaGreat
