/- Laws that the statement's proof leans on (joined out of several texts). -/
import Derived.Test.YtlifcingifodfaaGreatGc21
set_option maxHeartbeats 4000000
set_option linter.unusedVariables false
set_option linter.unusedSimpArgs false
namespace Go.Proofs.YtlifcingifodfaaGreat
open Tryz
open List(toArray)
namespace Th
open Go.RowKit
set_option maxRecDepth 20000
variable{es:List Lx}{clock:Nat}{a id:Int}{xs:A4}
structure ThT where
 id:Int
 st:Int
 pr:Int
 m0:Int
 m1:Int
 m2:Int
 m3:Int
 bd:Int
 got:Bool
 ca:Int
 wa:Int
 o0:Int
 o1:Int
 o2:Int
 o3:Int
 ob:Int
 gv:Int
 inn:Int
 cl:Bool
 fa:Bool
 hs:Bool
 wr:Bool
 va:Int
 vl:Int
variable{t:ThT}
abbrev encH(t:ThT):Ap:=[.int .i64 t.id,.int .i64 t.st,.int .i64 t.pr,.int .u64 t.m0,.int .u64 t.m1,.int .u64 t.m2,.int .u64 t.m3,.int .u64 t.bd,.bool t.got,.int .i64 t.ca,.int .i64 t.wa,.int .u64 t.o0,.int .u64 t.o1,.int .u64 t.o2,.int .u64 t.o3,.int .u64 t.ob,.int .i64 t.gv,.int .i64 t.inn,.bool t.cl,.bool t.fa,.bool t.hs,.bool t.wr,.int .u64 t.va,.int .u64 t.vl]
abbrev thZ:ThT:=⟨0,0,0,0,0,0,0,0,false,0,0,0,0,0,0,0,0,0,false,false,false,false,0,0⟩
abbrev lK(id:Int):ThT:=⟨id,0,0,0,0,0,0,0,false,0,0,0,0,0,0,0,4096,4096,false,false,false,false,0,0⟩
def mayH(t:ThT):Bool:=decide (1<=t.id)&&decide (0<=t.st)&&decide (t.st<=4)&&decide (0<=t.pr)&&decide (t.pr<=7)&&decide (0<=t.ca)&&decide (0<=t.wa)&&decide (0<=t.gv)&&decide (t.gv<=4096)&&decide (0<=t.inn)&&decide (t.inn<=4096)
abbrev TL:=List ThT
variable{L:TL}
def findH(L:TL)(a:Int):Option ThT:=L.find? λt=>decide (t.id=a)
theorem Kw(a:Int): ∀(es:List Lx) (i:Nat),GY a es i=EZ a es i
 |[],i=>rfl
 |e::es,i=>by unfold GY EZ;rw[Kw a es (i+1)]
theorem JJ(a:Int)(es:List Lx):Li a es=HQ a es:=by unfold Li HQ;rw[Kw]
theorem WE(a:Int)(v:Value)(clock:Nat)(es:List Lx):N2 a v clock es=Lk a v clock es:=by unfold N2 Lk;rw[Kw]<;>rfl
theorem aq(a:Int)(es:List Lx):Py a es=Pc a es:=by unfold Py Pc;rw[Kw]<;>rfl
theorem TA:a∈es.map (·.1)<->(HQ a es).isSome=true:=by
 unfold HQ;cases h:EZ a es 0 with
 |none=>
  simp only[DJ,Fy,Bl,iff_false];exact λhm=>by obtain⟨e,he,h2⟩:=Au.1 hm;exact IA.1 h e he h2
 |some p=>obtain⟨A,e,B,rfl,_,h1,_⟩:=Hv (k:=p.1) (v:=p.2) h;simp[h1]
structure XB(L:TL)(es:List Lx)(clock:Nat):Prop where
 ok:KeysOk es clock
 get: ∀a,Li a es=(findH L a).map λt=> .agg (toArray (encH t))
 asc:L.Pairwise λx y=>x.id<y.id
theorem XB.zero:XB [] [] 0:=⟨⟨by simp,by simp,by simp⟩,λa=>rfl,by simp⟩
theorem findH_some(h:findH L a=some t):t∈L/\t.id=a:=⟨BK h,by simpa using Er h⟩
theorem PF:findH L a=none<-> ∀t,t∈L->t.id≠a:=by unfold findH;rw[Br];simp
theorem XB.nd(h:XB L es clock):(L.map ThT.id).Nodup:=by refine(Cu.2 (h.asc.imp λUJ=>?_));omega
theorem XB.keys(h:XB L es clock):(es.map (·.1)).Perm (L.map ThT.id):=by
 refine(Fz h.ok.keys h.nd).2 λa=>?_;rw[TA,<-JJ,h.get];cases hf:findH L a with
 |none=>
  simp only[DJ,Fy,Bl,false_iff];exact λhm=>by obtain⟨t,ht,h2⟩:=Au.1 hm;exact PF.1 hf t ht h2
 |some t=>obtain⟨h1,h2⟩:=findH_some hf;simp only[BQ,Iw,true_iff];exact Au.2 ⟨t,h1,h2⟩
theorem XB.len(h:XB L es clock):es.length=L.length:=by simpa using h.keys.length_eq
theorem XB.at_(h:XB L es clock)(ht:t∈L):findH L t.id=some t:=by
 cases hf:findH L t.id with
 |none=>exact absurd rfl (PF.1 hf t ht)
 |some u=>obtain⟨h1,h2⟩:=findH_some hf;rw[N7 h.nd h1 ht h2]
def insH(L:TL)(t:ThT):TL:=L.takeWhile (λx=>decide (x.id<t.id))++t::L.dropWhile λx=>decide (x.id<t.id)
theorem KZ{α:Type}{p q:α->Bool}: ∀{l:List α},(∀x,x∈l->p x=q x)->l.find? p=l.find? q
 |[],_=>rfl
 |x::l,h=>by rw[BG,BG,h x Ak,KZ λy hy=>h y (An _ hy)]
def addD(L:TL)(id:Int):Int×TL:=if id<1 then(2,L) else if(findH L id).isSome=true then(11,L) else(0,insH L (lK id))
def dropD(L:TL)(id:Int):Int×TL:=if(findH L id).isSome=true then(0,L.filter λx=>decide (x.id≠id)) else(2,L)
def putH(L:TL)(t:ThT):TL:=L.map λx=>if x.id=t.id then t else x
def setD(L:TL)(t:ThT):Int×TL:=if(findH L t.id).isSome=true/\mayH t=true then(0,putH L t) else(2,L)
def serverD(L:TL)(id:Int):Int:=if id=0 then 0 else match L.find? (λt=>decide (t.ca=id)) with
 |some t=>t.id
 |none=>0
theorem Fs{α:Type}(p:α->Bool): ∀(A B:List α),(A++B).find? p=(A.find? p).or (B.find? p)
 |[],B=>rfl
 |x::A,B=>by
  rw[Ae,BG,BG];cases p x with
  |true=>rfl
  |false=>exact Fs p A B
theorem XB.add(h:XB L es clock)(hn:findH L t.id=none):XB (insH L t) (N2 t.id (.agg (toArray (encH t))) clock es).1 (N2 t.id (.agg (toArray (encH t))) clock es).2:=by
 have G5:=PF.1 hn;have Gv: ∀x,x∈L.takeWhile (λx=>decide (x.id<t.id))->x.id<t.id:=λx hx=>by simpa using A3.1 (Iy (l:=L) (p:=λx=>decide (x.id<t.id))) x hx
 have hL:L.takeWhile (λx=>decide (x.id<t.id))++L.dropWhile (λx=>decide (x.id<t.id))=L:=Cb ..;have hs:=h.asc;rw[<-hL,Bp] at hs;have XF: ∀x,x∈L.dropWhile (λx=>decide (x.id<t.id))->t.id<x.id:=λx hx=>by
  cases hd:L.dropWhile (λx=>decide (x.id<t.id)) with
  |nil=>rw[hd] at hx;cases hx
  |cons y r=>
   have hy:¬y.id<t.id:=by have:=List.head?_dropWhile_not (λx:ThT=>decide (x.id<t.id)) L;rw[hd] at this;simpa using this
   have hyL:y∈L:=(I6 _).subset (by rw[hd];exact Ak);have:=G5 y hyL;rw[hd] at hx;rcases At.1 hx with rfl|hx
   ·omega
   ·have h2:=hs.2.1;rw[hd] at h2;have:=(Cd.1 h2).1 x hx;omega
 rw[WE];refine⟨h.ok.set _ _,λa=>?_,?_⟩
 ·rw[JJ,J4,<-JJ,h.get];unfold insH findH;rw[Fs,BG];have e0:L.find? (λt=>decide (t.id=a))=((L.takeWhile (λx=>decide (x.id<t.id))).find? (λt=>decide (t.id=a))).or ((L.dropWhile (λx=>decide (x.id<t.id))).find? (λt=>decide (t.id=a))):=by rw[<-Fs,hL]
  rw[e0];by_cases ha:a=t.id
  ·subst ha;rw[Ac rfl,Av rfl];have:(L.takeWhile (λx=>decide (x.id<t.id))).find? (λx=>decide (x.id=t.id))=none:=Br.2 λx hx=>by have:=Gv x hx;simp;omega
   rw[this];rfl
  ·rw[Ab ha,Ax λe=>ha e.symm]
 ·unfold insH;refine Bp.2 ⟨hs.1,Cd.2 ⟨λx hx=>XF x hx,hs.2.1⟩,λx hx y hy=>?_⟩;have h1:=Gv x hx;rcases At.1 hy with rfl|hy
  ·exact h1
  ·have:=XF y hy;omega
theorem XB.drop(h:XB L es clock)(a:Int):XB (L.filter λx=>decide (x.id≠a)) (Py a es) clock:=by
 rw[aq];refine⟨h.ok.del a,λc=>?_,h.asc.filter _⟩;rw[JJ,P5 h.ok,<-JJ,h.get];unfold findH;rw[List.find?_filter];by_cases hc:c=a
 ·subst hc;rw[Ac rfl];rw[show L.find? (λx=>decide (decide (x.id≠c)=true/\decide (x.id=c)=true))=none from Br.2 λx _=>by simp];rfl
 ·rw[Ab hc];congr 1;apply KZ;intro x _;by_cases hx:x.id=c
  ·simp[hx,hc]
  ·simp[hx]
theorem lL(L:TL)(t:ThT):(putH L t).map ThT.id=L.map ThT.id:=by
 unfold putH;rw[CR];apply BA;intro x _;show(if x.id=t.id then t else x).id=x.id
 split
 ·rename_i h;exact h.symm
 ·rfl
theorem Oi(L:TL)(t:ThT)(a:Int):findH (putH L t) a=if a=t.id then(findH L a).map λ_=>t else findH L a:=by
 unfold findH putH
 induction L with
 |nil=>split<;>rfl
 |cons x L ih=>
  rw[AJ,BG,BG];by_cases hx:x.id=t.id
  ·rw[Ac hx,hx];by_cases ha:t.id=a
   ·rw[Av ha,Ac ha.symm];rfl
   ·rw[Ax ha,Ab λe=>ha e.symm];rw[Ab λe=>ha e.symm] at ih;exact ih
  ·rw[Ab hx];by_cases ha:x.id=a
   ·rw[Av ha,Ab λe=>hx (ha.trans e)]
   ·rw[Ax ha];exact ih
theorem XB.put(h:XB L es clock)(hn:(findH L t.id).isSome=true):XB (putH L t) (N2 t.id (.agg (toArray (encH t))) clock es).1 (N2 t.id (.agg (toArray (encH t))) clock es).2:=by
 rw[WE];refine⟨h.ok.set _ _,λa=>?_,?_⟩
 ·rw[JJ,J4,<-JJ,h.get,Oi];by_cases ha:a=t.id
  ·rw[Ac ha,Ac ha,ha];obtain⟨u,hu⟩:=Ik.1 hn;rw[hu];rfl
  ·rw[Ab ha,Ab ha]
 ·have h2:(L.map ThT.id).Pairwise (λx y=>x<y):=Cu.2 h.asc;rw[<-lL L t] at h2;exact Cu.1 h2
open Go.RowKit
set_option maxRecDepth 20000
abbrev xC(b m:Nat):Bg:=(b,.cells (toArray [.map (some m)]) 277 (0,0))
def IsX(b:Nat)(L:TL)(lq:Ad):Prop:= ∃m es clock,lq=[xC b m,(m,FU .i64 es clock)]/\XB L es clock
abbrev thV(t:ThT):Value:= .agg (toArray (encH t))
abbrev thC(B:Nat)(t:ThT):Bg:=(B,.cells (toArray (encH t)) 79 (0,0))
theorem new_any(l:Ad):Fn prog 131 [] l λv l'=> ∃b,v= .pointer (some ⟨b,0,none⟩)/\ ∃lq,IsX b [] lq/\l'=lq++l:=by refine AO func131 ntmps131 λE=>?_;refine gz ?_;refine AR OM ?_;rintro _ _ ⟨m,hm,rfl,rfl⟩;refine Ih λb=>?_;exact Bb .refl ⟨b,rfl,_,⟨m,[],0,rfl,XB.zero⟩,rfl⟩
theorem Qb(t:ThT)(l:Ad):Fn prog 150 [thV t] l λv l'=>v= .bool (mayH t)/\l'=l:=by
 refine AO func150 ntmps150 λE=>?_;refine gz ?_
 (first|refine AR (Ex rfl rfl) ?_|refine AR (C4 rfl) ?_);rintro _ _ ⟨b,_,rfl,rfl⟩
 by_cases h0:1<=t.id
 case neg=>
  have e:mayH t=false:=by unfold mayH;rw[Ax h0];simp
  rw[e];exact E4
 by_cases h1:0<=t.st
 case neg=>
  have e:mayH t=false:=by unfold mayH;rw[Ax h1];simp
  rw[e];exact E4
 by_cases h2:t.st<=4
 case neg=>
  have e:mayH t=false:=by unfold mayH;rw[Ax h2];simp
  rw[e];exact E4
 by_cases h3:0<=t.pr
 case neg=>
  have e:mayH t=false:=by unfold mayH;rw[Ax h3];simp
  rw[e];exact E4
 by_cases h4:t.pr<=7
 case neg=>
  have e:mayH t=false:=by unfold mayH;rw[Ax h4];simp
  rw[e];exact E4
 by_cases h5:0<=t.ca
 case neg=>
  have e:mayH t=false:=by unfold mayH;rw[Ax h5];simp
  rw[e];exact E4
 by_cases h6:0<=t.wa
 case neg=>
  have e:mayH t=false:=by unfold mayH;rw[Ax h6];simp
  rw[e];exact E4
 by_cases h7:0<=t.gv
 case neg=>
  have e:mayH t=false:=by unfold mayH;rw[Ax h7];simp
  rw[e];exact E4
 by_cases h8:t.gv<=4096
 case neg=>
  have e:mayH t=false:=by unfold mayH;rw[Ax h8];simp
  rw[e];exact E4
 by_cases h9:0<=t.inn
 case neg=>
  have e:mayH t=false:=by unfold mayH;rw[Ax h9];simp
  rw[e];exact E4
 have e:mayH t=decide (t.inn<=4096):=by unfold mayH;rw[Av h0,Av h1,Av h2,Av h3,Av h4,Av h5,Av h6,Av h7,Av h8,Av h9];simp
 rw[e];exact E4
open Go.RowKit
set_option maxRecDepth 20000
theorem XB.look(h:XB L es clock)(a:Int):(Li a es).getD (thV thZ)=thV ((findH L a).getD thZ):=by rw[h.get];cases findH L a<;>rfl
theorem XB.has(h:XB L es clock)(a:Int):(Li a es).isSome=(findH L a).isSome:=by rw[h.get];cases findH L a<;>rfl
theorem add_any(b:Nat)(L:TL)(lq:Ad)(hq:IsX b L lq)(id:Int)(G:Ad):
 Fn prog 140 [.pointer (some ⟨b,0,none⟩),.int .i64 id] (lq++G) λv l'=>v= .int .i64 (addD L id).1/\ ∃DD,IsX b (addD L id).2 DD/\l'=DD++G:=by
 have MJ:=hq;obtain⟨m,es,clock,rfl,hX⟩:=hq;refine AO func140 ntmps140 λE=>?_;by_cases h1:id<1
 ·rw[show addD L id=(2,L) by unfold addD;rw[Ac h1]];refine gz ?_;exact Bb .refl ⟨rfl,_,MJ,rfl⟩
 simp only[Ae,Ag];refine gz ?_;rw[hX.look,hX.has];refine gz ?_;refine AR e_alloc ?_;rintro _ _ ⟨b5,_,rfl,rfl⟩;iterate 4 refine gzS ?_
 cases hf:findH L id with
 |some t=>rw[show addD L id=(11,L) by unfold addD;rw[Ab h1,hf];rfl];refine gz ?_;exact Bb (.drop .refl) ⟨rfl,_,MJ,rfl⟩
 |none=>rw[show addD L id=(0,insH L (lK id)) by unfold addD;rw[Ab h1,hf];rfl];refine gz ?_;refine ME (Lz (a:=id) (es:=es) (clock:=clock) rfl rfl rfl (by exact DX)) rfl rfl ?_;rintro _ _ ⟨rfl,rfl⟩;refine gz ?_;exact Bb (.drop .refl) ⟨rfl,_,⟨m,_,_,rfl,hX.add (t:=lK id) hf⟩,rfl⟩
theorem get_any(b:Nat)(L:TL)(lq:Ad)(hq:IsX b L lq)(id:Int)(l:Ad)(CE: ∀c,c∈lq->c∈l):
 Fn prog 95 [.pointer (some ⟨b,0,none⟩),.int .i64 id] l λv l'=>v= .tuple #[thV ((findH L id).getD thZ),.bool (findH L id).isSome]/\l'=l:=by
 obtain⟨m,es,clock,rfl,hX⟩:=hq;have Xr:=CE _ (.head _);have UL:=CE _ (.tail _ (.head _));refine AO func95 ntmps95 λE=>?_;refine Ih λb4=>?_;rw[hX.look,hX.has];refine Ih λb6=>?_;exact CM (l':=l) (thC b6 ((findH L id).getD thZ)::thC b4 ((findH L id).getD thZ)::l) .refl (.drop (.drop .refl)) ⟨rfl,rfl⟩
theorem set_any(b:Nat)(L:TL)(lq:Ad)(hq:IsX b L lq)(t:ThT)(G:Ad):
 Fn prog 96 [.pointer (some ⟨b,0,none⟩),thV t] (lq++G) λv l'=>v= .int .i64 (setD L t).1/\ ∃DD,IsX b (setD L t).2 DD/\l'=DD++G:=by
 have MJ:=hq;obtain⟨m,es,clock,rfl,hX⟩:=hq;refine AO func96 ntmps96 λE=>?_;simp only[Ae,Ag];refine Ih λb3=>?_;refine Cn [10,11] 13 _ ?_ (hR:=(λ_ h=>h));refine pz ?_;rw[hX.look,hX.has];refine pz ?_;apply CS
 ·exact e_alloc
 ·rfl
 ·rfl
 ·rfl
 ·rintro _ _ ⟨b5,_,_,rfl⟩ c hc;exact .tail _ hc
 rintro _ _ ⟨b5,_,rfl,rfl⟩;refine pz ?_;cases hf:findH L t.id with
 |none=>rw[show setD L t=(2,L) by unfold setD;rw[hf];simp];refine gz ?_;exact Bb (.drop (.drop .refl)) ⟨rfl,_,MJ,rfl⟩
 |some u=>
  cases hM:mayH t with
  |false=>rw[show setD L t=(2,L) by unfold setD;rw[hf,hM];simp];refine gz ?_;refine QO (AL rfl rfl λl2 hl=>Qb t l2) rfl rfl rfl ?_;rw[hM];refine gz ?_;exact Bb (.drop (.drop .refl)) ⟨rfl,_,MJ,rfl⟩
  |true=>
   rw[show setD L t=(0,putH L t) by unfold setD;rw[hf,hM];simp];refine gz ?_;refine QO (AL rfl rfl λl2 hl=>Qb t l2) rfl rfl rfl ?_;rw[hM];refine gz ?_;refine Cn [7] 8 ([thC b3 t,xC b m]) ?_;refine pz ?_;apply NZ
   ·exact Lz (a:=t.id) (es:=es) (clock:=clock) rfl rfl rfl (by exact DX)
   ·rfl
   ·rfl
   ·rintro _ _ ⟨rfl,rfl⟩;exact Ce (by exact Mq)
   rintro _ _ ⟨rfl,rfl⟩;refine pz ?_;refine gz ?_;exact BD [] rfl (.drop (.drop .refl)) (by exact Ba) ⟨rfl,_,⟨m,_,_,rfl,hX.put (by rw[hf];rfl)⟩,rfl⟩
open Go.RowKit
set_option maxRecDepth 20000
abbrev xB(B:Nat)(v:Value):Bg:=(B,.cells #[v] 158 (0,0))
abbrev GA(B:Nat)(x:Int):Bg:=(B,.cells #[.int .i64 x] 3 (0,0))
theorem Jf(v:Value)(h1:v.oneCell'=true)(l:Ad):Fn prog 118 [v] l λr l'=> ∃B,r= .func (.func 173) #[] #[.pointer (some ⟨B,0,none⟩)]/\l'=xB B v::l:=by refine AO func118 ntmps118 λE=>?_;refine gz ?_;refine AR (Ex rfl h1) ?_;rintro _ _ ⟨B,hB,rfl,rfl⟩;refine gz ?_;exact Bb .refl ⟨B,rfl,rfl⟩
def thcs(L:TL):Ap:=L.flatMap encH
theorem gK(L:TL)(t:ThT):thcs (L++[t])=thcs L++encH t:=by simp[thcs]
theorem YF(gf:Nat)[EN prog gf](lb:Ap)(S Sp:TL->Prop)(Need:TL->Ad->Prop)(hit:FA prog gf lb (λt:ThT=>[thV t]) S Sp Need)(n:Nat)(DB: ∀pre,Sp pre->pre.length<=n)(hn:n<=900000)(l:Ad)(Ca: ∀pre l2,(∀c,c∈l->c∈l2)->Need pre l2):
 Fn prog 172 [.slice none 0 0,.func (.func gf) #[] lb.toArray] l λv l'=> ∃xs cs,S xs/\OwnSl 79 24 v xs.length (thcs xs) cs/\l'=cs++l:=by
 refine AO func172 ntmps172 λE=>?_;refine gz ?_;refine AR (Ex rfl rfl) ?_;rintro _ _ ⟨b2,Wf,rfl,rfl⟩;refine gz ?_;refine Df (α:=ThT) (ps:=[7]) (lb:=lb) rfl hit (λ_=>rfl) rfl
  (λpre l=> ∃v cs,OwnSl 79 24 v pre.length (thcs pre) cs/\l=[(b2,.cells #[v] 46 (0,0))]++cs)
  (λc pre l=>False)
  _ l (λpre l2 X2 hX h=>by obtain⟨v,cs,_,rfl⟩:=h;exact Ca _ _ λc hc=>Aa _ (hX _ hc)) (by exact AU) ⟨_,[],OwnSl.nil _ _,rfl⟩ ?_ ?_ ?_
 ·rintro E r0 FS pre y l' T ⟨fn,tmps,Dd,rfl⟩ QY ⟨v,cs',ET,rfl⟩ hsp0;have Xo:=DB _ hsp0;rw[Ah] at Xo;simp only[DU,Ae,Ag];refine Ih λb5=>?_;refine CH (.there (.there (FH _ _ _ _ _))) ?_;generalize hX1:(r0,Obj.loop (DN fn tmps _ _ _ Dd .busy none))::T=X1;refine gz ?_;refine AR (FB (k:=24) rfl rfl rfl AZ AZ) ?_;rintro _ _ ⟨bl,_,rfl,rfl⟩;refine AR (Ht (k:=24) (X:=[thC b5 y,(b2,.cells #[v] 46 (0,0))]) (cs:=cs') (F:=X1) (xs:=thcs pre) (n:=pre.length) (ws:=encH y) rfl rfl rfl ET rfl (by simp[Value.oneCell']) Af AZ) ?_;rintro v' _ ⟨c2,FK,rfl⟩;have Ju:v'.oneCell'=true:=FK.one;simp only[Ae,Ag];refine gz ?_;rw[<-hX1];refine Cg _ (.drop .refl) ⟨v',c2,?_,rfl⟩;rw[Ah,gK];exact FK
 ·rintro Dd xs l' hS ⟨v,cs',ET,rfl⟩;have Ju:v.oneCell'=true:=ET.one;simp only[Ae,Ag];refine gz ?_;refine AV [Dd] (cs'++l) rfl (l':=cs'++l) (by exact AU) (by exact Ba) .refl ?_;exact⟨xs,cs',hS,ET,rfl⟩
 ·rintro Dd c pre l' DB h;exact h.elim
theorem WO(gf:Nat)[EN prog gf](lb:Ap)(S Sp:TL->Prop)(Need:TL->Ad->Prop)(hit:FA prog gf lb (λt:ThT=>[thV t]) S Sp Need)(n:Nat)(DB: ∀pre,Sp pre->pre.length<=n)(hn:n<=900000)(l:Ad)(Ca: ∀pre l2,(∀c,c∈l->c∈l2)->Need pre l2):
 Fn prog 117 [.func (.func gf) #[] lb.toArray] l λv l'=> ∃xs cs,S xs/\OwnSl 79 24 v xs.length (thcs xs) cs/\l'=cs++l:=by
 refine AO func117 ntmps117 λE=>?_;refine gz ?_;refine AR (AA rfl rfl (YF gf lb S Sp Need hit n DB hn l Ca)) ?_;rintro v _ ⟨xs,cs,hS,ho,rfl⟩;have Ju:v.oneCell'=true:=ho.one;refine gz ?_;refine Bb .refl ?_;exact⟨xs,cs,hS,ho,rfl⟩
open Go.RowKit
set_option maxRecDepth 20000
theorem TH(mb:Option Nat)(l:Ad):Fn prog 175 [.map mb] l λv l'=> ∃B,v= .func (.func 237) #[] #[.pointer (some ⟨B,0,none⟩)]/\l'=(B,.cells #[.map mb] 275 (0,0))::l:=by refine AO func175 ntmps175 λE=>?_;refine gz ?_;refine AR (Ex rfl rfl) ?_;rintro _ _ ⟨B,hB,rfl,rfl⟩;refine gz ?_;exact Bb .refl ⟨B,rfl,rfl⟩
theorem Ra(B m clock:Nat)(es:List Lx)(KP:(es.map (·.2.2)).Nodup)(Mi: ∀e,e∈es->e.2.2<clock):
 FA prog 237 [.pointer (some ⟨B,0,none⟩)] (λk:Int=>[.int .i64 k]) (λxs=>xs.Perm (es.map (·.1))) (λpre=>pre.length<=es.length)
  (λ_ l=>(B,.cells #[.map (some m)] 275 (0,0))∈l/\(m,FU .i64 es clock)∈l):=by
 refine⟨λq I Ix G0 Ca hY l G hG h0=>?_⟩;refine AO func237 ntmps237 λE=>?_;exact zKI
theorem Oh(B m clock:Nat)(es:List Lx)(KP:(es.map (·.2.2)).Nodup)(Mi: ∀e,e∈es->e.2.2<clock)(hn:es.length<=900000)(l:Ad)(h1:(B,Obj.cells #[.map (some m)] 275 (0,0))∈l)(h2:(m,FU .i64 es clock)∈l):
 Fn prog 174 [.func (.func 237) #[] #[.pointer (some ⟨B,0,none⟩)]] l λv l'=> ∃xs cs,xs.Perm (es.map (·.1))/\OwnSl 3 1 v (UX xs).length ((UX xs).map MV) cs/\l'=cs++l:=
 TI 237 [.pointer (some ⟨B,0,none⟩)] _ es.length _ (Ra B m clock es KP Mi) hn (λxs h=>by rw[h.length_eq];simp) l λ_ l2 hl=>⟨hl _ h1,hl _ h2⟩
open Go.RowKit
set_option maxRecDepth 20000
theorem XB.sorted(h:XB L es clock)(hx:xs.Perm (es.map (·.1))):UX xs=L.map ThT.id:=by
 have h1:(UX xs).Perm (L.map ThT.id):=(List.mergeSort_perm ..).trans (hx.trans h.keys);have h2:(UX xs).Pairwise (λx y=>x<=y):=by have:=List.pairwise_mergeSort (le:=λx y:Int=>decide (x<=y)) (λa b c h1 h2=>by simp at*;omega) (λa b=>by simp;omega) xs;exact this.imp λh=>by simpa using h
 have h3:(L.map ThT.id).Pairwise (λx y=>x<=y):=Cu.2 (h.asc.imp λUJ=>by omega);exact h1.eq_of_pairwise (λa b _ _ h1 h2=>by omega) h2 h3
theorem OwnSl.ints{e:Nat}{v:Value}{cs l:Ad}(h:OwnSl e 1 v xs.length (xs.map MV) cs)(hs: ∀c,c∈cs->c∈l): ∃p cap,v= .slice p xs.length cap/\(0<xs.length-> ∃b cl t fz,p=some ⟨b,0,none⟩/\(b,Obj.cells cl t fz)∈l/\ ∀i x,xs[i]?=some x->cl[i*1]?=some (.int .i64 x)):=by
 rcases h.2 with⟨rfl,h0,rfl⟩|⟨b,cap,sp,rfl,rfl,_⟩
 ·exact⟨none,0,by rw[h0],λh=>by omega⟩
 ·refine⟨_,cap,rfl,λh0=>⟨b,_,e,(0,0),rfl,hs _ Ak,λi x hx=>?_⟩⟩;have Dc:=(Ay.1 hx).1;rw[Dq,AF,AB (by simpa using Dc),A5,hx];rfl
theorem HR(B b:Nat)(L:TL)(lq:Ad)(hq:IsX b L lq)(hn:L.length<=900000):
 FA prog 173 [.pointer (some ⟨B,0,none⟩)] (λt:ThT=>[thV t]) (λxs=>xs=L) (λpre=>pre<+:L)
  (λ_ l=>xB B (.pointer (some ⟨b,0,none⟩))∈l/\ ∀c,c∈lq->c∈l):=by
 refine⟨λr I Ix G0 Ca hY l G hG h0=>?_⟩;obtain⟨m,es,clock,rfl,hX⟩:=hq;obtain⟨n1,n2⟩:=Ca _ _ G hG h0;have n3:=n2 _ (.head _);have n4:=n2 _ (.tail _ (.head _));refine AO func173 ntmps173 λE=>?_;refine gz ?_;refine AR (AA rfl rfl (TH (some m) _)) ?_;rintro _ _ ⟨B',rfl,rfl⟩;refine gz ?_;refine AR (AA rfl rfl (Oh B' m clock es hX.ok.stamps hX.ok.below (by rw[hX.len];exact hn) _ (.head _) (.tail _ n4))) ?_;rintro v _ ⟨xs,cs,QX,ho,rfl⟩;rw[hX.sorted QX] at ho;have Ju:v.oneCell'=true:=ho.one;obtain⟨p,cap,rfl,hR⟩:=OwnSl.ints ho (l:=cs) λc hc=>hc;have Ei:(L.map ThT.id).length=L.length:=A7 ..;refine gz ?_;refine CF (α:=Nat×Ad) (λx=>[(0,.func (.yield r) #[] #[]),(1,.pointer (some ⟨B,0,none⟩)),(12,.slice p (L.map ThT.id).length cap),(13,.int .i64 (L.map ThT.id).length),(14,.int .i64 x.1)]) (λx=>x.2++(cs++G)) (λx=>x.1<=L.length/\I (L.take x.1) x.2) (λx=>L.length-x.1) (0,l) ⟨Bm _,h0⟩ ⟨rfl,rfl,rfl,rfl,rfl,trivial⟩ ?_ ?_
 ·exact Keep.trans (Keep.in_mid cs [_] (l++G)) (.drop (Keep.in_mid cs l G))
 clear n1 n2 n3 n4;rintro⟨k,l⟩ ⟨hk,hI⟩;simp only at hk hI⊢;obtain⟨n1,n2⟩:=Ca _ _ (cs++G) (λc hc=>Aa _ (hG c hc)) hI;have n3:=n2 _ (.head _);have n4:=n2 _ (.tail _ (.head _));by_cases Dc:k<L.length
 ·obtain⟨b9,cl,t9,fz,rfl,pL,Nu⟩:=hR Af;have ji:(b9,Obj.cells cl t9 fz)∈l++(cs++G):=Aa _ (Ai _ pL);obtain⟨t,ht⟩: ∃t,L[k]?=some t:=⟨_,Al Dc⟩
  have hc:=Nu k t.id (by rw[A5,ht];rfl);have pO:L.take (k+1)=L.take k++[t]:=by rw[Cf,ht];rfl
  have ZI:(Li t.id es).getD (thV thZ)=thV t:=by rw[hX.look,hX.at_ (A6 ht)];rfl
  refine gz ?_;rw[ZI];have hy:=hY (L.take k) t l (cs++G) (λc hc=>Aa _ (hG c hc)) hI (by rw[<-pO];exact BI _ _);refine AR (C0 rfl rfl hy) ?_;rintro v l' ⟨l1,rfl,⟨rfl,Lg⟩|⟨rfl,hx⟩⟩
  ·refine gz ?_;exact BR (k+1,l1) ⟨by simp only;omega,by simp only;rw[pO];exact Lg⟩ (by simp only;omega) ⟨rfl,rfl,rfl,rfl,rfl,trivial⟩ .refl
  ·refine gz ?_;exact BD [] rfl (Keep.trans (Keep.in_mid l1 cs G) (Keep.dropL cs .refl)) (by exact Ba) ⟨l1,rfl,.inr ⟨_,by rw[<-pO];exact BI _ _,hx⟩⟩
 ·obtain rfl:k=L.length:=by omega
  rw[D7] at hI;refine gz ?_;exact Bb (Keep.trans (Keep.in_mid l cs G) (Keep.dropL cs .refl)) ⟨l,rfl,.inl ⟨_,rfl,hI⟩⟩
theorem all_any(b:Nat)(L:TL)(lq:Ad)(hq:IsX b L lq)(hn:L.length<=900000)(l:Ad)(CE: ∀c,c∈lq->c∈l):
 Fn prog 76 [.pointer (some ⟨b,0,none⟩)] l λv l'=> ∃cs,OwnSl 79 24 v L.length (thcs L) cs/\l'=cs++l:=by
 refine AO func76 ntmps76 λE=>?_;refine gz ?_;refine AR (AA rfl rfl (Jf _ rfl _)) ?_;rintro _ _ ⟨B,rfl,rfl⟩;refine gz ?_;refine AR (AA rfl rfl (WO 173 [.pointer (some ⟨B,0,none⟩)] _ _ _ (HR B b L lq hq hn) L.length (λpre h=>h.length_le) hn _ λ_ l2 hl=>⟨hl _ (.head _),λc hc=>hl _ (.tail _ (CE c hc))⟩)) ?_;rintro v _ ⟨_,cs,rfl,ho,rfl⟩;have Ju:v.oneCell'=true:=ho.one;refine gz ?_;refine Bb (l':=cs++l) (Keep.trans (.of_perm AI) (.drop .refl)) ?_;exact⟨cs,ho,rfl⟩
theorem lM{pre:TL}(hL:pre++[t]<+:L)(h0:id≠0)(hp: ∀x,x∈pre->¬x.ca=id)(ht:t.ca=id):serverD L id=t.id:=by unfold serverD;rw[Ab h0];obtain⟨r,rfl⟩:=hL;rw[Am,Fs,Br.2 λx hx=>by simpa using hp x hx];rw[Option.none_or,Ci,BG,Av ht]
theorem gM(hp: ∀x,x∈L->¬(id≠0/\x.ca=id)):serverD L id=0:=by
 unfold serverD;by_cases h0:id=0
 ·rw[Ac h0]
 ·rw[Ab h0,Br.2 λx hx=>by simpa using λh=>hp x hx ⟨h0,h⟩]
end Th
end Go.Proofs.YtlifcingifodfaaGreat
