/- Laws that the statement's proof leans on (joined out of several texts). -/
import Derived.Test.YtlkgekpmileobaaGreatGb8
import Derived.Test.YtlkgekpmileobaaGreatGb19
import Derived.Test.YtlkgekpmileobaaGreatGb10
set_option linter.unusedVariables false
set_option linter.unusedSimpArgs false
namespace Go.Proofs.YtlkgekpmileobaaGreat.Tr
open Tryz
open Go.RowKit
set_option maxRecDepth 20000
variable{F:Nat->NdT}{D:DT}{n p m clock b rb q:Nat}{B os A pre:List Nat}{s a c:CC}{es:List (Gv CC)}{lq:List Ab}
theorem CM{c:Ab}{l:List Ab}(h:c∈l): ∀x,x∈[c]->x∈l:=λx hx=>by rw[AA.1 hx];exact h
abbrev C8(B:Nat)(s:CC):Ab:=(B,.cells (List.toArray (Cj s)) 61 (0,0))
def hasD(D:DT)(s:CC):Bool:=(splitD s D).isSome
def rootD(D:DT)(s:CC):Int×DT:=if hasD D s=true then(11,D) else(0,D++[(s,0)])
def childD(D:DT)(par s:CC):Int×DT:=match splitD par D with
 |none=>(10,D)
 |some (A,d,B)=>if hasD D s=true then(11,D) else(0,A++(par,d)::(s,d+1)::B)
theorem LC:hasD (ER F os) s=(blk F os s).isSome:=by
 unfold hasD;cases h:blk F os s with
 |none=>rw[IL h];rfl
 |some p=>obtain⟨A,B,_,h2⟩:=Gl h;rw[h2];rfl
def SmallD(D:DT):Prop:= ∀x,x∈D-> -1000000<=x.2/\x.2<=1000000
theorem eP(p:Nat):(ER F (A++p::B)).take (A.length+1)=ER F A++[((F p).sl,(F p).dp)]:=by unfold ER;rw[Ap,AJ,List.take_append,Bz (by simp)];simp
theorem eR(p:Nat):(ER F (A++p::B)).drop (A.length+1)=ER F B:=by unfold ER;rw[Ap,AJ,IC,Dj (by simp)];simp
set_option maxHeartbeats 400000
theorem root_any(b:Nat)(D:DT)(lq:List Ab)(hq:IsT b D lq)(s:CC)(G:List Ab):
 Fn prog 188 [.pointer (some ⟨b,0,none⟩),.agg (List.toArray (Cj s))] (lq++G) λv l'=>v= .int .i64 (rootD D s).1/\ ∃lq',IsT b (rootD D s).2 lq'/\l'=lq'++G:=by
 obtain⟨rb,m,F,all,os,es,clock,rfl,hT⟩:=hq;refine AO func188 ntmps188 λE=>?_;refine gz ?_;refine AS (CR rfl) ?_;rintro _ _ ⟨b3,hb3,rfl,rfl⟩;refine Bk (Keep.of_perm (l':=lq++(C8 b3 s::G)) AH.symm) ?_;have hsub: ∀c,c∈lq->c∈lq++(C8 b3 s::G):=λc hc=>Ai _ hc;have hbm:C8 b3 s∈lq++(C8 b3 s::G):=Aa _ (.head _);refine gz ?_;refine Bc (AK (R:=lq++(C8 b3 s::G)) rfl rfl λl2 hl2=>of_any b rb m F all os es clock lq s hT l2 λc hc=>hl2 c (hsub c hc)) ?_;cases hbk:blk F os s with
 |some p=>rw[show rootD (ER F os) s=(11,ER F os) by unfold rootD;rw[LC,hbk];rfl];simp only[LA];refine gz ?_;exact A8 (l':=lq++G) (Keep.trans (.of_perm AH) (.drop .refl)) ⟨rfl,lq,⟨rb,m,F,all,os,es,clock,rfl,hT⟩,rfl⟩
 |none=>
  rw[show rootD (ER F os) s=(0,ER F os++[(s,0)]) by unfold rootD;rw[LC,hbk];rfl];simp only[LA];obtain⟨X,p,hX⟩: ∃X p,rb::os=X++[p]:=⟨_,_,(Gd (KX rb os)).symm⟩
  have hpv:(F rb).pv=p:=hT.prv (Y:=[]) hX;have hXl:X.length=os.length:=by have:=BM List.length hX;simp at this;omega
  refine gz ?_;refine Ce [9] 10 ([]) ?_;refine pz ?_;apply FD (S:=[JS b rb m]);(·exact SA);(·exact CM (hsub _ hT.m1));(·rfl);(·rfl);(·rfl);refine pz ?_;apply FD (S:=[MS rb (F rb)]);(·exact SA);(·exact CM (hsub _ (hT.m3 hT.rin)));(·rfl);(·rfl);(·rfl);refine pz ?_;rw[hpv];apply FD (S:=[C8 b3 s]);(·exact SA);(·exact CM (hbm));(·rfl);(·rfl);(·rfl);refine pz ?_;apply Gq
  ·exact Az rfl rfl (Zj b rb m F all os es clock lq hT X [] p hX s 0 hbk (C8 b3 s::G))
  (·rfl);(·rfl);(·rfl);(·intro _ _ _ c hc;cases hc);(·exact λ_ _ _ x hx ha=>CV Bv hx ha)
  rintro _ _ ⟨rfl,lq',hq',rfl⟩;refine pz ?_;refine gz ?_;refine A8 (l':=lq'++G) (Keep.trans (.of_perm AH) (.drop .refl)) ⟨rfl,lq',?_,rfl⟩;rw[hXl,Bz (by simp[ER]),Dj (by simp[ER])] at hq';exact hq'
theorem child_any(b:Nat)(D:DT)(lq:List Ab)(hq:IsT b D lq)(hd:SmallD D)(par s:CC)(G:List Ab):
 Fn prog 314 [.pointer (some ⟨b,0,none⟩),.agg (List.toArray (Cj par)),.agg (List.toArray (Cj s))] (lq++G) λv l'=>v= .int .i64 (childD D par s).1/\ ∃lq',IsT b (childD D par s).2 lq'/\l'=lq'++G:=by
 obtain⟨rb,m,F,all,os,es,clock,rfl,hT⟩:=hq;refine AO func314 ntmps314 λE=>?_;refine gz ?_;refine AS (CR rfl) ?_;rintro _ _ ⟨b4,hb4,rfl,rfl⟩;refine gz ?_;refine AS (CR rfl) ?_;rintro _ _ ⟨b5,hb5,rfl,rfl⟩;have hk2: ∀lq:List Ab,Keep (lq++(C8 b5 s::C8 b4 par::G)) (lq++G):=λlq=>Keep.trans (.of_perm (Ay lq [C8 b5 s,C8 b4 par] G)) (.drop (.drop .refl));refine Bk (Keep.of_perm (l':=lq++(C8 b5 s::C8 b4 par::G)) (Ay [C8 b5 s,C8 b4 par] lq G)) ?_;have hsub: ∀c,c∈lq->c∈lq++(C8 b5 s::C8 b4 par::G):=λc hc=>Ai _ hc;have hm4:C8 b4 par∈lq++(C8 b5 s::C8 b4 par::G):=Aa _ (.tail _ (.head _));have hm5:C8 b5 s∈lq++(C8 b5 s::C8 b4 par::G):=Aa _ (.head _);refine gz ?_;refine Bc (AK (R:=lq++(C8 b5 s::C8 b4 par::G)) rfl rfl λl2 hl2=>of_any b rb m F all os es clock lq par hT l2 λc hc=>hl2 c (hsub c hc)) ?_;cases hbp:blk F os par with
 |none=>rw[show childD (ER F os) par s=(10,ER F os) by unfold childD;rw[IL hbp]];simp only[LA];refine gz ?_;exact A8 (l':=lq++G) (hk2 lq) ⟨rfl,lq,⟨rb,m,F,all,os,es,clock,rfl,hT⟩,rfl⟩
 |some p=>
  simp only[LA];refine gz ?_;refine Bc (AK (R:=lq++(C8 b5 s::C8 b4 par::G)) rfl rfl λl2 hl2=>of_any b rb m F all os es clock lq s hT l2 λc hc=>hl2 c (hsub c hc)) ?_;cases hbk:blk F os s with
  |some q=>rw[show childD (ER F os) par s=(11,ER F os) by unfold childD;obtain⟨A,B,_,h2⟩:=Gl hbp;rw[h2];simp only;rw[LC,hbk];rfl];simp only[LA];refine gz ?_;exact A8 (l':=lq++G) (hk2 lq) ⟨rfl,lq,⟨rb,m,F,all,os,es,clock,rfl,hT⟩,rfl⟩
  |none=>
   obtain⟨A,B,hos,h2⟩:=Gl hbp;have hps:=(Hr hbp).2;have hpo:=(Hr hbp).1;rw[show childD (ER F os) par s=(0,ER F A++(par,(F p).dp)::(s,(F p).dp+1)::ER F B) by unfold childD;rw[h2];simp only;rw[LC,hbk];rfl];have hX:rb::os=(rb::A)++p::B:=by rw[hos];rfl
   have hr:=hd _ (Au.2 ⟨p,hpo,rfl⟩);simp only at hr;simp only[LA];refine gz ?_;refine Ce [8] 9 ([]) ?_;refine pz ?_;apply FD (S:=[C8 b5 s]);(·exact SA);(·exact CM (hm5));(·rfl);(·rfl);(·rfl);refine pz ?_;apply FD (S:=[MS p (F p)]);(·exact SA);(·exact CM (hsub _ (hT.m3 (hT.sub p hpo))));(·rfl);(·rfl);(·rfl);refine pz ?_;apply Gq
   ·exact Az rfl rfl (Zj b rb m F all os es clock lq hT (rb::A) B p hX s _ hbk (C8 b5 s::C8 b4 par::G))
   (·rfl);(·rfl);(·rfl);(·intro _ _ _ c hc;cases hc);(·exact λ_ _ _ x hx ha=>CV Bv hx ha)
   rintro _ _ ⟨rfl,lq',hq',rfl⟩;refine pz ?_;refine gz ?_;refine A8 (l':=lq'++G) (hk2 lq') ⟨rfl,lq',?_,rfl⟩;rw[Bi,hos,eP,eR,hps] at hq';simpa using hq'
theorem G5:blk F os s=none<-> ∀p,p∈os->(F p).sl≠s:=
 ⟨Jb,λh=>Bu.2 λq hq=>by simpa using h q hq⟩
theorem Uz:blk F (A++p::B) s=(blk F A s).or (if(F p).sl=s then some p else blk F B s):=by
 unfold blk;rw[DP,BB];congr 1;by_cases h:(F p).sl=s
 ·rw[At h,Ae h]
 ·rw[Aw h,Ac h]
theorem Ni{F F':Nat->NdT}{s:CC}: ∀{os:List Nat},(∀q,q∈os->(F' q).sl=(F q).sl)->blk F' os s=blk F os s
 |[],_=>rfl
 |q::os,h=>by have ih:=Ni (s:=s) (os:=os) λz hz=>h z (An _ hz);unfold blk at ih⊢;rw[BB,BB,h q Ak,ih]
theorem Nj{F':Nat->NdT}(h: ∀q,q∈os->(F' q).sl=(F q).sl/\(F' q).dp=(F q).dp):ER F' os=ER F os:=by unfold ER;exact Bt λq hq=>by rw[(h q hq).1,(h q hq).2]
theorem TB.uniq{all:List Nat}(h:TB b rb m F all (A++p::B) es clock lq):(∀q,q∈A->(F q).sl≠(F p).sl)/\(∀q,q∈B->(F q).sl≠(F p).sl):=by
 have hn:=h.snd;rw[Ap,AJ] at hn;refine⟨λq hq e=>?_,λq hq e=>?_⟩
 ·exact(Bs.1 hn).2.2 _ (Au.2 ⟨q,hq,rfl⟩) _ Ak e
 ·exact(AM.1 (Bs.1 hn).2.1).1 (Au.2 ⟨q,hq,e⟩)
theorem TB.out{all:List Nat}(h:TB b rb m F all (A++p::B) es clock lq):p∉A/\p∉B/\rb∉A/\rb∉B/\p≠rb:=by have hn:=AM.1 h.ond;have h2:=Bs.1 hn.2;refine⟨λhp=>h2.2.2 p hp p Ak rfl,(AM.1 h2.2.1).1,λhr=>hn.1 (Ai _ hr),λhr=>hn.1 (Aa _ (.tail _ hr)),λe=>hn.1 (by rw[<-e];simp)⟩
def moveD(D:DT)(a c:CC):Int×DT:=match splitD a D with
 |none=>(10,D)
 |some (A,d,B)=>if hasD D c=true then(11,D) else(0,A++(c,d)::B)
def decW(d:Int)(B:DT):DT:=(B.takeWhile λx=>decide (d<x.2)).map (λx=>(x.1,x.2-1))++B.dropWhile λx=>decide (d<x.2)
def removeD(D:DT)(s:CC):Int×DT:=match splitD s D with
 |none=>(10,D)
 |some (A,d,B)=>(0,A++decW d B)
def LD(F:Nat->NdT)(pre:List Nat):Nat->NdT:=λq=>if q∈pre then{F q with dp:=(F q).dp-1} else F q
theorem La(h:q∉pre):LD F pre q=F q:=Ac h
theorem aQ{y:Nat}(h:y∉pre):upd (LD F pre) y {F y with dp:=(F y).dp-1}=LD F (pre++[y]):=by
 funext q;unfold upd LD;by_cases e:q=y
 ·subst e;simp[h]
 ·simp[e]
theorem Rw(F:Nat->NdT)(pre:List Nat)(q:Nat):(LD F pre q).sl=(F q).sl/\(LD F pre q).nx=(F q).nx/\(LD F pre q).pv=(F q).pv:=by unfold LD;split<;>exact⟨rfl,rfl,rfl⟩
theorem jJ{d:Int}(hn:B.Nodup):ER (LD F (B.takeWhile λq=>decide (d<(F q).dp))) B=decW d (ER F B):=by
 have e1:(ER F B).takeWhile (λx=>decide (d<x.2))=ER F (B.takeWhile λq=>decide (d<(F q).dp)):=by unfold ER;rw[List.takeWhile_map];rfl
 have e2:(ER F B).dropWhile (λx=>decide (d<x.2))=ER F (B.dropWhile λq=>decide (d<(F q).dp)):=by unfold ER;rw[List.dropWhile_map];rfl
 unfold decW;rw[e1,e2];obtain⟨tw,htw⟩: ∃tw,tw=B.takeWhile λq=>decide (d<(F q).dp):=⟨_,rfl⟩
 obtain⟨dw,hdw⟩: ∃dw,dw=B.dropWhile λq=>decide (d<(F q).dp):=⟨_,rfl⟩
 have hB:B=tw++dw:=by rw[htw,hdw,BV]
 rw[<-htw,<-hdw,hB];unfold ER;rw[Ap,CD];congr 1
 ·apply Bt;intro q hq;unfold LD;rw[Ae hq];rfl
 ·apply Bt;intro q hq;rw[hB] at hn;rw[La λh=>(Bs.1 hn).2.2 q h q hq rfl]
theorem N0{F F':Nat->NdT}{p x n:Nat}{Z:List Nat}: ∀{X:List Nat},jG F (X++p::x::n::Z)->(X++p::x::n::Z).dropLast.Nodup->(X++p::x::n::Z).tail.Nodup->
 (∀u,u≠p->(F' u).nx=(F u).nx)->(∀v,v≠n->(F' v).pv=(F v).pv)->(F' p).nx=n->(F' n).pv=p->jG F' (X++p::n::Z)
 |[],⟨h1,h2,h3,h4,h5⟩,hs,ht,hn,hp,k1,k2=>by
  refine⟨k1,k2,MV h5 (λu hu=>hn u ?_) λv hv=>hp v ?_⟩
  ·rintro rfl;have:(u::x::(n::Z).dropLast).Nodup:=by simpa using hs
   exact(AM.1 this).1 (.tail _ hu)
  ·rintro rfl;have:(x::v::Z).Nodup:=by simpa using ht
   exact(AM.1 (AM.1 this).2).1 hv
 |[a],⟨h1,h2,h3⟩,hs,ht,hn,hp,k1,k2=>by
  have hs1:(a::(p::x::n::Z).dropLast).Nodup:=by simpa using hs
  have hs2:=AM.1 hs1;have ht1:(p::x::n::Z).Nodup:=by simpa using ht
  have ht2:=AM.1 ht1;refine⟨by rw[hn a (λe=>hs2.1 (by rw[e];simp[List.dropLast]))];exact h1,by rw[hp p (λe=>ht2.1 (by rw[e];simp))];exact h2,?_⟩;exact N0 (X:=[]) h3 hs2.2 ht2.2 hn hp k1 k2
 |a::b::X,⟨h1,h2,h3⟩,hs,ht,hn,hp,k1,k2=>by
  have hs1:(a::((b::X)++p::x::n::Z).dropLast).Nodup:=by have:((a::b::X)++p::x::n::Z).dropLast=a::((b::X)++p::x::n::Z).dropLast:=Gc (by simp);rwa [this] at hs
  have hs2:=AM.1 hs1;have ht1:(b::(X++p::x::n::Z)).Nodup:=ht;have ht2:=AM.1 ht1;have hpd:p∈((b::X)++p::x::n::Z).dropLast:=by rw[IE (by simp)];exact Aa _ (by simp[List.dropLast])
  refine⟨by rw[hn a (λe=>hs2.1 (by rw[e];exact hpd))];exact h1,by rw[hp b (λe=>ht2.1 (by rw[e];simp))];exact h2,?_⟩;exact N0 (X:=b::X) h3 hs2.2 ht2.2 hn hp k1 k2
section
variable{P:Program}{ro:Option Nat}{N:Nat}{fr:Fr}{R:List Ab}{d:Option Nat}{ty t t2:TypeId}{pos:String}{aft:Array Edge}{g:Option (Nat×Bool)}{x y:Operand}
theorem eU{p:Option Addr}{e:Nat}(hx:ev fr x=some (.pointer none))(hy:ev fr y=some (.pointer p))[c:PT P t e]:OpQ P ro N fr R ⟨d,.binOp .eql t x y t2,ty,pos,aft,g⟩ (.bool p.isNone):=BL rfl λρ l hρ _=>by simp only[execOp,hρ x _ hx,hρ y _ hy,AB,I6,Bj,binOp];unfold Op.equal Op.maxDepth Op.equalIn;rw[BX (Mt c.out)];cases p<;>exact⟨rfl,rfl⟩
end
theorem rh(q:Nat):decide ((⟨q,0,none⟩:Addr)=⟨q,0,none⟩)=true:=At rfl
theorem rk{r:Nat}(h:q≠r):decide ((⟨q,0,none⟩:Addr)=⟨r,0,none⟩)=false:=Aw λe=>h (by injection e)
theorem Zk{κ:Type}[DecidableEq κ]{a:κ}{u:Value}{es:List (Gv κ)}(hk:KeysOk es clock)(h:GZ a es=some u)(v:Value): ∃A e B,es=A++e::B/\e.1=a/\(∀x∈A,x.1≠a)/\(∀x∈A,x.2.2≠e.2.2)/\A++(e.1,v,e.2.2)::B=(J6 a v clock es).1/\(J6 a v clock es).2=clock:=by
 unfold GZ at h;cases hf:Ep a es 0 with
 |none=>rw[hf] at h;cases h
 |some p=>
  obtain⟨k,w⟩:=p;obtain⟨A,e,B,rfl,rfl,h1,h2,h3⟩:=GK hf;have hm:(A++e::B).modify A.length (λx=>(x.1,v,x.2.2))=A++(e.1,v,e.2.2)::B:=GJ _ e B A;refine⟨A,e,B,rfl,h1,h3,λx hx e'=>?_,?_,?_⟩
  ·have hs:=hk.stamps;rw[Ap,AJ] at hs;exact(Bs.1 hs).2.2 _ (Au.2 ⟨x,hx,rfl⟩) _ Ak e'
  ·unfold J6;rw[hf];exact hm.symm
  ·unfold J6;rw[hf]
def Lb(a c:CC)(x:CC×Int):CC×Int:=if x.1=a then(c,x.2) else if x.1=c then(a,x.2) else x
def swapD(D:DT)(a c:CC):DT:=D.map (Lb a c)
theorem aR(a:CC)(x:CC×Int):Lb a a x=x:=by
 unfold Lb;by_cases h:x.1=a
 ·rw[Ae h,<-h]
 ·rw[Ac h,Ac h]
def swf(a c s:CC):CC:=if s=a then c else if s=c then a else s
theorem swpS_fst(a c:CC)(x:CC×Int):(Lb a c x).1=swf a c x.1:=by
 unfold Lb swf;by_cases h:x.1=a
 ·rw[Ae h,Ae h]
 ·rw[Ac h,Ac h];by_cases h2:x.1=c
  ·rw[Ae h2,Ae h2]
  ·rw[Ac h2,Ac h2]
theorem swf_swf(a c s:CC):swf a c (swf a c s)=s:=by
 unfold swf;by_cases h:s=a
 ·rw[Ae h];by_cases h3:c=a
  ·rw[Ae h3,h,h3]
  ·rw[Ac h3,Ae rfl,h]
 ·rw[Ac h];by_cases h2:s=c
  ·rw[Ae h2,Ae rfl,h2]
  ·rw[Ac h2,Ac h,Ac h2]
theorem V4{x y:CC×Int}(h:(Lb a c x).1=(Lb a c y).1):x.1=y.1:=by rw[swpS_fst,swpS_fst] at h;rw[<-swf_swf a c x.1,h,swf_swf]
theorem aS(a c:CC)(x:CC×Int):Lb a c x=Lb c a x:=by
 unfold Lb;by_cases h:x.1=a
 ·by_cases h2:x.1=c
  ·rw[Ae h,Ae h2,<-h,<-h2]
  ·rw[Ae h,Ac h2,Ae h]
 ·rw[Ac h,Ac h]
theorem XF(D:DT)(a c:CC):swapD D a c=swapD D c a:=Bt λx _=>aS a c x
theorem Rx(ha: ∀q,q∈os->(F q).sl≠a)(hc: ∀q,q∈os->(F q).sl≠c):swapD (ER F os) a c=ER F os:=by
 unfold swapD ER;rw[CD];exact Bt λq hq=>by show Lb a c ((F q).sl,(F q).dp)=_;unfold Lb;rw[Ac (ha q hq),Ac (hc q hq)]
theorem Ty{all:List Nat}(hT:TB b rb m F all os es clock lq)(h1:blk F os a=some p)(h2:blk F os c=none):moveD (ER F os) a c=(0,swapD (ER F os) a c):=by
 unfold moveD;obtain⟨A,B,rfl,hs⟩:=Gl h1;have hps:=(Hr h1).2;rw[hs];simp only;rw[LC,h2];simp only[E0,Bg,CS];obtain⟨uA,uB⟩:=hT.uniq;rw[hps] at uA uB;have hno:=Jb h2;have e:swapD (ER F (A++p::B)) a c=swapD (ER F A) a c++Lb a c ((F p).sl,(F p).dp)::swapD (ER F B) a c:=by unfold swapD ER;rw[Ap,AJ,Ap,AJ]
 rw[e,Rx uA λq hq=>hno q (Ai _ hq),Rx uB λq hq=>hno q (Aa _ (.tail _ hq))];congr 3;unfold Lb;rw[Ae hps]
def DepOk:Int->DT->Prop
 |_,[]=>True
 |e,x::r=>0<=x.2/\x.2<=e/\DepOk (x.2+1) r
theorem DepOk.mono: ∀{D:DT} {e f:Int},DepOk e D->e<=f->DepOk f D
 |[],_,_,_,_=>trivial
 |x::r,e,f,⟨h1,h2,h3⟩,h=>⟨h1,Af,h3⟩
theorem DepOk.bound: ∀{D:DT} {e:Int},DepOk e D-> ∀x,x∈D->0<=x.2/\x.2<=e+D.length
 |[],_,_,x,hx=>by cases hx
 |y::r,e,⟨h1,h2,h3⟩,x,hx=>by
  rw[Bi];rcases Aq.1 hx with rfl|hx
  ·exact⟨h1,Af⟩
  ·have:=DepOk.bound h3 x hx;exact⟨this.1,Af⟩
def V5:Int->DT->Int
 |e,[]=>e
 |_,x::r=>V5 (x.2+1) r
theorem DepOk.app: ∀{A B:DT} {e:Int},DepOk e (A++B)<->DepOk e A/\DepOk (V5 e A) B
 |[],B,e=>⟨λh=>⟨trivial,h⟩,λh=>h.2⟩
 |x::A,B,e=>by show 0<=x.2/\x.2<=e/\DepOk (x.2+1) (A++B)<->(0<=x.2/\x.2<=e/\DepOk (x.2+1) A)/\DepOk (V5 (x.2+1) A) B;rw[DepOk.app (A:=A)];exact⟨λ⟨h1,h2,h3,h4⟩=>⟨⟨h1,h2,h3⟩,h4⟩,λ⟨⟨h1,h2,h3⟩,h4⟩=>⟨h1,h2,h3,h4⟩⟩
theorem DepOk.last: ∀{A:DT} {e:Int},DepOk e A->0<=e->0<=V5 e A
 |[],_,_,h=>h
 |x::A,e,⟨h1,_,h3⟩,_=>by show 0<=V5 (x.2+1) A;exact DepOk.last h3 Af
theorem DepOk.dec{d:Int}(hd:0<=d): ∀{B:DT} {e f:Int},DepOk e B->e<=f+1->d<=f->DepOk f (decW d B)
 |[],_,_,_,_,_=>trivial
 |x::r,e,f,⟨h1,h2,h3⟩,he,hf=>by
  by_cases h:d<x.2
  ·have e1:decW d (x::r)=(x.1,x.2-1)::decW d r:=by
    unfold decW;rw[GC (by simpa using h),List.dropWhile_cons_of_pos (by simpa using h)];rfl
   rw[e1];refine⟨by simp only;omega,by simp only;omega,?_⟩;exact DepOk.dec hd h3 (by simp only;omega) (by simp only;omega)
  ·have e1:decW d (x::r)=x::r:=by
    unfold decW;rw[EZ (by simpa using h),GB (by simpa using h)];rfl
   rw[e1];exact⟨h1,Af,h3⟩
theorem decW_fst(d:Int)(B:DT):(decW d B).map Prod.fst=B.map Prod.fst:=by unfold decW;rw[Ap,CD];have:(List.takeWhile (λx:CC×Int=>decide (d<x.2)) B).map (Prod.fst∘λx=>(x.1,x.2-1))=(List.takeWhile (λx:CC×Int=>decide (d<x.2)) B).map Prod.fst:=rfl;rw[this,<-Ap,BV]
theorem Ry(d:Int)(B:DT):(decW d B).length=B.length:=by have:=BM List.length (decW_fst d B);simpa using this
structure GoodT(D:DT)(n:Nat):Prop where
 nd:(D.map Prod.fst).Nodup
 dep:DepOk 0 D
 len:D.length<=n
theorem GoodT.small(h:GoodT D n)(hn:n<=1000000):SmallD D:=λx hx=>by have:=h.dep.bound x hx;have:=h.len;omega
theorem splitD_some{s:CC}: ∀{D A B:DT} {d:Int},splitD s D=some (A,d,B)->D=A++(s,d)::B/\ ∀x,x∈A->x.1≠s
 |[],_,_,_,h=>by cases h
 |y::r,A,B,d,h=>by
  unfold splitD at h;by_cases e:y.1=s
  ·rw[Ae e] at h;cases h;refine⟨by rw[<-e];rfl,by simp⟩
  ·rw[Ac e] at h;cases h2:splitD s r with
   |none=>rw[h2] at h;cases h
   |some z=>
    rw[h2] at h;obtain⟨A',d',B'⟩:=z;cases h;obtain⟨rfl,h3⟩:=splitD_some h2;refine⟨rfl,λx hx=>?_⟩;rcases Aq.1 hx with rfl|hx
    ·exact e
    ·exact h3 x hx
theorem MW{s:CC}: ∀{D:DT},splitD s D=none<-> ∀x,x∈D->x.1≠s
 |[]=>⟨λ_ x hx=>(by cases hx),λ_=>rfl⟩
 |y::r=>by
  unfold splitD;by_cases e:y.1=s
  ·rw[Ae e];exact⟨λh=>(by cases h),λh=>absurd e (h y Ak)⟩
  ·rw[Ac e];constructor
   ·intro h x hx;have h2:splitD s r=none:=by cases h2:splitD s r with|none=>rfl|some z=>rw[h2] at h;cases h
    rcases Aq.1 hx with rfl|hx
    ·exact e
    ·exact MW.1 h2 x hx
   ·intro h;rw[MW.2 λx hx=>h x (An _ hx)];rfl
theorem hasD_no:hasD D s=false<-> ∀x,x∈D->x.1≠s:=by unfold hasD;rw[<-MW];cases splitD s D<;>simp
theorem hasD_yes:hasD D s=true<->s∈D.map Prod.fst:=by
 constructor
 ·intro h;unfold hasD at h;cases h2:splitD s D with
  |none=>rw[h2] at h;cases h
  |some z=>obtain⟨A,d,B⟩:=z;rw[(splitD_some h2).1];simp
 ·intro h;cases h2:hasD D s with
  |true=>rfl
  |false=>obtain⟨x,hx,rfl⟩:=Au.1 h;exact absurd rfl (hasD_no.1 h2 x hx)
theorem GoodT.mono(h:GoodT D n)(hm:n<=m):GoodT D m:=⟨h.nd,h.dep,BW h.len hm⟩
theorem GoodT.root(h:GoodT D n)(s:CC):GoodT (rootD D s).2 (n+1):=by
 unfold rootD;by_cases hs:hasD D s=true
 ·rw[Ae hs];exact h.mono Af
 ·rw[Ac hs];have hno:=hasD_no.1 (by simpa using hs);refine⟨?_,DepOk.app.2 ⟨h.dep,by simp only;omega,h.dep.last Af,trivial⟩,by have:=h.len;simp;omega⟩;rw[Ap,Bs];refine⟨h.nd,by simp,λa ha c hc e=>?_⟩;obtain⟨x,hx,rfl⟩:=Au.1 ha;exact hno x hx (by rw[e];simpa using hc)
theorem GoodT.child(h:GoodT D n)(p s:CC):GoodT (childD D p s).2 (n+1):=by
 unfold childD;cases h2:splitD p D with
 |none=>exact h.mono Af
 |some z=>
  obtain⟨A,d,B⟩:=z;simp only;by_cases hs:hasD D s=true
  ·rw[Ae hs];exact h.mono Af
  ·rw[Ac hs];have hno:=hasD_no.1 (by simpa using hs);obtain⟨rfl,hA⟩:=splitD_some h2;obtain⟨h3,h4,h5,h6⟩:=DepOk.app.1 h.dep;refine⟨?_,DepOk.app.2 ⟨h3,h4,h5,by simp only;omega,by simp only;omega,h6.mono (by simp only;omega)⟩,by have:=h.len;simp at this⊢;omega⟩;have hp:((A++(p,d)::(s,d+1)::B).map Prod.fst).Perm (s::(A++(p,d)::B).map Prod.fst):=by
    have:(A++(p,d)::(s,d+1)::B).Perm ((s,d+1)::(A++(p,d)::B)):=by
     have e:A++(p,d)::(s,d+1)::B=(A++[(p,d)])++(s,d+1)::B:=by simp
     have e2:A++(p,d)::B=(A++[(p,d)])++B:=by simp
     rw[e,e2];exact AH
    exact this.map _
   rw[hp.nodup_iff,AM];refine⟨λhm=>?_,h.nd⟩;obtain⟨x,hx,e⟩:=Au.1 hm;exact hno x hx e
theorem GoodT.remove(h:GoodT D n)(s:CC):GoodT (removeD D s).2 n:=by
 unfold removeD;cases h2:splitD s D with
 |none=>exact h
 |some z=>obtain⟨A,d,B⟩:=z;simp only;obtain⟨rfl,hA⟩:=splitD_some h2;obtain⟨h3,h4,h5,h6⟩:=DepOk.app.1 h.dep;refine⟨?_,DepOk.app.2 ⟨h3,h6.dec h4 (by simp only at h5⊢;omega) h5⟩,by have:=h.len;rw[Ah,Ry];simp at this⊢;omega⟩;rw[Ap,decW_fst,<-Ap];exact h.nd.sublist ((FB (DI _ _) _).map _)
theorem GoodT.move(h:GoodT D n)(a c:CC):GoodT (moveD D a c).2 n:=by
 unfold moveD;cases h2:splitD a D with
 |none=>exact h
 |some z=>
  obtain⟨A,d,B⟩:=z;simp only;by_cases hs:hasD D c=true
  ·rw[Ae hs];exact h
  ·rw[Ac hs];have hno:=hasD_no.1 (by simpa using hs);obtain⟨rfl,hA⟩:=splitD_some h2;obtain⟨h3,h4,h5,h6⟩:=DepOk.app.1 h.dep;refine⟨?_,DepOk.app.2 ⟨h3,h4,h5,h6⟩,by have:=h.len;simp at this⊢;omega⟩;have hn:=h.nd;rw[Ap,AJ] at hn⊢;have hn2:=AM.1 (AH.nodup_iff.1 hn);refine AH.nodup_iff.2 (AM.2 ⟨λhm=>?_,hn2.2⟩);rcases AF.1 hm with hm|hm
   ·obtain⟨x,hx,e⟩:=Au.1 hm;exact hno x (Ai _ hx) e
   ·obtain⟨x,hx,e⟩:=Au.1 hm;exact hno x (Aa _ (.tail _ hx)) e
theorem DepOk.map{f:CC×Int->CC×Int}(hf: ∀x,(f x).2=x.2): ∀{D:DT} {e:Int},DepOk e D->DepOk e (D.map f)
 |[],_,_=>trivial
 |x::r,e,⟨h1,h2,h3⟩=>by refine⟨by rw[hf];exact h1,by rw[hf];exact h2,?_⟩;rw[hf];exact DepOk.map hf h3
theorem eV(a c:CC)(x:CC×Int):(Lb a c x).2=x.2:=by unfold Lb;split<;>(try split)<;>rfl
theorem GoodT.swap(h:GoodT D n)(a c:CC):GoodT (swapD D a c) n:=by refine⟨?_,h.dep.map (eV a c),by unfold swapD;rw[AZ];exact h.len⟩;unfold swapD;rw[CD,Dz,Ck];have hn:=h.nd;rw[Dz,Ck] at hn;exact hn.imp λhne e=>hne (V4 e)
theorem GoodT.none:GoodT [] 0:=⟨by simp,trivial,by simp⟩
end Go.Proofs.YtlkgekpmileobaaGreat.Tr
