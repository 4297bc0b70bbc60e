/- Laws that the statement's proof leans on (joined out of several texts). -/
import Derived.Test.YtlkgekpmileobaaGreatGb9
import Derived.Test.YtlkgekpmileobaaGreatGb8
import Derived.Test.YtlkgekpmileobaaGreatGb10
import Derived.Test.YtlkgekpmileobaaGreatGb11
import Derived.Test.YtlkgekpmileobaaGreatGb18
set_option linter.unusedVariables false
set_option linter.unusedSimpArgs false
namespace Go.Proofs.YtlkgekpmileobaaGreat.Th
open Tryz
open List(toArray)
open Go.RowKit
set_option maxRecDepth 20000
variable{es:List Kl}{clock:Nat}{a id:Int}{xs:List Int}
structure ThT where
 id:Int
 st:Int
 pr:Int
 m0:Int
 m1:Int
 m2:Int
 m3:Int
 bd:Int
 got:Bool
 ca:Int
 wa:Int
 o0:Int
 o1:Int
 o2:Int
 o3:Int
 ob:Int
 gv:Int
 inn:Int
 cl:Bool
 fa:Bool
 hs:Bool
 wr:Bool
 va:Int
 vl:Int
variable{t:ThT}
abbrev encH(t:ThT):List Value:=[.int .i64 t.id,.int .i64 t.st,.int .i64 t.pr,.int .u64 t.m0,.int .u64 t.m1,.int .u64 t.m2,.int .u64 t.m3,.int .u64 t.bd,.bool t.got,.int .i64 t.ca,.int .i64 t.wa,.int .u64 t.o0,.int .u64 t.o1,.int .u64 t.o2,.int .u64 t.o3,.int .u64 t.ob,.int .i64 t.gv,.int .i64 t.inn,.bool t.cl,.bool t.fa,.bool t.hs,.bool t.wr,.int .u64 t.va,.int .u64 t.vl]
abbrev thZ:ThT:=⟨0,0,0,0,0,0,0,0,false,0,0,0,0,0,0,0,0,0,false,false,false,false,0,0⟩
abbrev fb(id:Int):ThT:=⟨id,0,0,0,0,0,0,0,false,0,0,0,0,0,0,0,4096,4096,false,false,false,false,0,0⟩
def mayH(t:ThT):Bool:=decide (1<=t.id)&&decide (0<=t.st)&&decide (t.st<=4)&&decide (0<=t.pr)&&decide (t.pr<=7)&&decide (0<=t.ca)&&decide (0<=t.wa)&&decide (0<=t.gv)&&decide (t.gv<=4096)&&decide (0<=t.inn)&&decide (t.inn<=4096)
abbrev TL:=List ThT
variable{L:TL}
def findH(L:TL)(a:Int):Option ThT:=L.find? λt=>decide (t.id=a)
theorem Jw(a:Int): ∀(es:List Kl) (i:Nat),Gg a es i=Ep a es i
 |[],i=>rfl
 |e::es,i=>by unfold Gg Ep;rw[Jw a es (i+1)]
theorem IJ(a:Int)(es:List Kl):J4 a es=GZ a es:=by unfold J4 GZ;rw[Jw]
theorem Uv(a:Int)(v:Value)(clock:Nat)(es:List Kl):Mw a v clock es=J6 a v clock es:=by unfold Mw J6;rw[Jw];rfl
theorem XA(a:Int)(es:List Kl):NT a es=NC a es:=by unfold NT NC;rw[Jw];rfl
theorem Rk:a∈es.map (·.1)<->(GZ a es).isSome=true:=by
 unfold GZ;cases h:Ep a es 0 with
 |none=>
  simp only[DF,E0,Bg,iff_false];exact λhm=>by obtain⟨e,he,h2⟩:=Au.1 hm;exact HC.1 h e he h2
 |some p=>obtain⟨A,e,B,rfl,_,h1,_⟩:=GK (k:=p.1) (v:=p.2) h;simp[h1]
structure XB(L:TL)(es:List Kl)(clock:Nat):Prop where
 ok:KeysOk es clock
 get: ∀a,J4 a es=(findH L a).map λt=> .agg (toArray (encH t))
 asc:L.Pairwise λx y=>x.id<y.id
theorem XB.zero:XB [] [] 0:=⟨⟨by simp,by simp,by simp⟩,λa=>rfl,by simp⟩
theorem findH_some(h:findH L a=some t):t∈L/\t.id=a:=⟨BN h,by simpa using Ei h⟩
theorem N1:findH L a=none<-> ∀t,t∈L->t.id≠a:=by unfold findH;rw[Bu];simp
theorem XB.nd(h:XB L es clock):(L.map ThT.id).Nodup:=by refine(Ck.2 (h.asc.imp λhxy=>?_));omega
theorem XB.keys(h:XB L es clock):(es.map (·.1)).Perm (L.map ThT.id):=by
 refine(E1 h.ok.keys h.nd).2 λa=>?_;rw[Rk,<-IJ,h.get];cases hf:findH L a with
 |none=>
  simp only[DF,E0,Bg,false_iff];exact λhm=>by obtain⟨t,ht,h2⟩:=Au.1 hm;exact N1.1 hf t ht h2
 |some t=>obtain⟨h1,h2⟩:=findH_some hf;simp only[BH,Hy,true_iff];exact Au.2 ⟨t,h1,h2⟩
theorem XB.len(h:XB L es clock):es.length=L.length:=by simpa using h.keys.length_eq
theorem XB.at_(h:XB L es clock)(ht:t∈L):findH L t.id=some t:=by
 cases hf:findH L t.id with
 |none=>exact absurd rfl (N1.1 hf t ht)
 |some u=>obtain⟨h1,h2⟩:=findH_some hf;rw[MC h.nd h1 ht h2]
def insH(L:TL)(t:ThT):TL:=L.takeWhile (λx=>decide (x.id<t.id))++t::L.dropWhile λx=>decide (x.id<t.id)
theorem JR{α:Type}{p q:α->Bool}: ∀{l:List α},(∀x,x∈l->p x=q x)->l.find? p=l.find? q
 |[],_=>rfl
 |x::l,h=>by rw[BB,BB,h x Ak,JR λy hy=>h y (An _ hy)]
def addD(L:TL)(id:Int):Int×TL:=if id<1 then(2,L) else if(findH L id).isSome=true then(11,L) else(0,insH L (fb id))
def dropD(L:TL)(id:Int):Int×TL:=if(findH L id).isSome=true then(0,L.filter λx=>decide (x.id≠id)) else(2,L)
def putH(L:TL)(t:ThT):TL:=L.map λx=>if x.id=t.id then t else x
def setD(L:TL)(t:ThT):Int×TL:=if(findH L t.id).isSome=true/\mayH t=true then(0,putH L t) else(2,L)
def serverD(L:TL)(id:Int):Int:=if id=0 then 0 else match L.find? (λt=>decide (t.ca=id)) with
 |some t=>t.id
 |none=>0
theorem EP{α:Type}(p:α->Bool): ∀(A B:List α),(A++B).find? p=(A.find? p).or (B.find? p)
 |[],B=>rfl
 |x::A,B=>by
  rw[Ad,BB,BB];cases p x with
  |true=>rfl
  |false=>exact EP p A B
theorem XB.add(h:XB L es clock)(hn:findH L t.id=none):XB (insH L t) (Mw t.id (.agg (toArray (encH t))) clock es).1 (Mw t.id (.agg (toArray (encH t))) clock es).2:=by
 have hne:=N1.1 hn;have hall: ∀x,x∈L.takeWhile (λx=>decide (x.id<t.id))->x.id<t.id:=λx hx=>by simpa using A6.1 (Hz (l:=L) (p:=λx=>decide (x.id<t.id))) x hx
 have hL:L.takeWhile (λx=>decide (x.id<t.id))++L.dropWhile (λx=>decide (x.id<t.id))=L:=BV ..;have hs:=h.asc;rw[<-hL,Bh] at hs;have hgt: ∀x,x∈L.dropWhile (λx=>decide (x.id<t.id))->t.id<x.id:=λx hx=>by
  cases hd:L.dropWhile (λx=>decide (x.id<t.id)) with
  |nil=>rw[hd] at hx;cases hx
  |cons y r=>
   have hy:¬y.id<t.id:=by have:=List.head?_dropWhile_not (λx:ThT=>decide (x.id<t.id)) L;rw[hd] at this;simpa using this
   have hyL:y∈L:=(Ic _).subset (by rw[hd];exact Ak);have:=hne y hyL;rw[hd] at hx;rcases Aq.1 hx with rfl|hx
   ·omega
   ·have h2:=hs.2.1;rw[hd] at h2;have:=(BY.1 h2).1 x hx;omega
 rw[Uv];refine⟨h.ok.set _ _,λa=>?_,?_⟩
 ·rw[IJ,I9,<-IJ,h.get];unfold insH findH;rw[EP,BB];have e0:L.find? (λt=>decide (t.id=a))=((L.takeWhile (λx=>decide (x.id<t.id))).find? (λt=>decide (t.id=a))).or ((L.dropWhile (λx=>decide (x.id<t.id))).find? (λt=>decide (t.id=a))):=by rw[<-EP,hL]
  rw[e0];by_cases ha:a=t.id
  ·subst ha;rw[Ae rfl,At rfl];have:(L.takeWhile (λx=>decide (x.id<t.id))).find? (λx=>decide (x.id=t.id))=none:=Bu.2 λx hx=>by have:=hall x hx;simp;omega
   rw[this];rfl
  ·rw[Ac ha,Aw λe=>ha e.symm]
 ·unfold insH;refine Bh.2 ⟨hs.1,BY.2 ⟨λx hx=>hgt x hx,hs.2.1⟩,λx hx y hy=>?_⟩;have h1:=hall x hx;rcases Aq.1 hy with rfl|hy
  ·exact h1
  ·have:=hgt y hy;omega
theorem XB.drop(h:XB L es clock)(a:Int):XB (L.filter λx=>decide (x.id≠a)) (NT a es) clock:=by
 rw[XA];refine⟨h.ok.del a,λc=>?_,h.asc.filter _⟩;rw[IJ,Om h.ok,<-IJ,h.get];unfold findH;rw[List.find?_filter];by_cases hc:c=a
 ·subst hc;rw[Ae rfl];rw[show L.find? (λx=>decide (decide (x.id≠c)=true/\decide (x.id=c)=true))=none from Bu.2 λx _=>by simp];rfl
 ·rw[Ac hc];congr 1;apply JR;intro x _;by_cases hx:x.id=c
  ·simp[hx,hc]
  ·simp[hx]
theorem fc(L:TL)(t:ThT):(putH L t).map ThT.id=L.map ThT.id:=by
 unfold putH;rw[CD];apply Bt;intro x _;show(if x.id=t.id then t else x).id=x.id
 split
 ·rename_i h;exact h.symm
 ·rfl
theorem MQ(L:TL)(t:ThT)(a:Int):findH (putH L t) a=if a=t.id then(findH L a).map λ_=>t else findH L a:=by
 unfold findH putH
 induction L with
 |nil=>split<;>rfl
 |cons x L ih=>
  rw[AJ,BB,BB];by_cases hx:x.id=t.id
  ·rw[Ae hx,hx];by_cases ha:t.id=a
   ·rw[At ha,Ae ha.symm];rfl
   ·rw[Aw ha,Ac λe=>ha e.symm];rw[Ac λe=>ha e.symm] at ih;exact ih
  ·rw[Ac hx];by_cases ha:x.id=a
   ·rw[At ha,Ac λe=>hx (ha.trans e)]
   ·rw[Aw ha];exact ih
theorem XB.put(h:XB L es clock)(hn:(findH L t.id).isSome=true):XB (putH L t) (Mw t.id (.agg (toArray (encH t))) clock es).1 (Mw t.id (.agg (toArray (encH t))) clock es).2:=by
 rw[Uv];refine⟨h.ok.set _ _,λa=>?_,?_⟩
 ·rw[IJ,I9,<-IJ,h.get,MQ];by_cases ha:a=t.id
  ·rw[Ae ha,Ae ha,ha];obtain⟨u,hu⟩:=Hl.1 hn;rw[hu];rfl
  ·rw[Ac ha,Ac ha]
 ·have h2:(L.map ThT.id).Pairwise (λx y=>x<y):=Ck.2 h.asc;rw[<-fc L t] at h2;exact Ck.1 h2
abbrev xC(b m:Nat):Ab:=(b,.cells (toArray [.map (some m)]) 278 (0,0))
def IsX(b:Nat)(L:TL)(lq:List Ab):Prop:= ∃m es clock,lq=[xC b m,(m,Fh .i64 es clock)]/\XB L es clock
abbrev thV(t:ThT):Value:= .agg (toArray (encH t))
abbrev thC(B:Nat)(t:ThT):Ab:=(B,.cells (toArray (encH t)) 79 (0,0))
set_option maxHeartbeats 400000
theorem new_any(l:List Ab):Fn prog 132 [] l λv l'=> ∃b,v= .pointer (some ⟨b,0,none⟩)/\ ∃lq,IsX b [] lq/\l'=lq++l:=by refine AO func132 ntmps132 λE=>?_;refine gz ?_;refine AS Na ?_;rintro _ _ ⟨m,hm,rfl,rfl⟩;refine Hj λb=>?_;exact A8 .refl ⟨b,rfl,_,⟨m,[],0,rfl,XB.zero⟩,rfl⟩
theorem Ov(t:ThT)(l:List Ab):Fn prog 151 [thV t] l λv l'=>v= .bool (mayH t)/\l'=l:=by
 refine AO func151 ntmps151 λE=>?_;refine gz ?_
 (first|refine AS (DZ rfl rfl) ?_|refine AS (CR rfl) ?_);rintro _ _ ⟨b,_,rfl,rfl⟩
 by_cases h0:1<=t.id
 case neg=>
  have e:mayH t=false:=by unfold mayH;rw[Aw h0];simp
  rw[e];exact Es
 by_cases h1:0<=t.st
 case neg=>
  have e:mayH t=false:=by unfold mayH;rw[Aw h1];simp
  rw[e];exact Es
 by_cases h2:t.st<=4
 case neg=>
  have e:mayH t=false:=by unfold mayH;rw[Aw h2];simp
  rw[e];exact Es
 by_cases h3:0<=t.pr
 case neg=>
  have e:mayH t=false:=by unfold mayH;rw[Aw h3];simp
  rw[e];exact Es
 by_cases h4:t.pr<=7
 case neg=>
  have e:mayH t=false:=by unfold mayH;rw[Aw h4];simp
  rw[e];exact Es
 by_cases h5:0<=t.ca
 case neg=>
  have e:mayH t=false:=by unfold mayH;rw[Aw h5];simp
  rw[e];exact Es
 by_cases h6:0<=t.wa
 case neg=>
  have e:mayH t=false:=by unfold mayH;rw[Aw h6];simp
  rw[e];exact Es
 by_cases h7:0<=t.gv
 case neg=>
  have e:mayH t=false:=by unfold mayH;rw[Aw h7];simp
  rw[e];exact Es
 by_cases h8:t.gv<=4096
 case neg=>
  have e:mayH t=false:=by unfold mayH;rw[Aw h8];simp
  rw[e];exact Es
 by_cases h9:0<=t.inn
 case neg=>
  have e:mayH t=false:=by unfold mayH;rw[Aw h9];simp
  rw[e];exact Es
 have e:mayH t=decide (t.inn<=4096):=by unfold mayH;rw[At h0,At h1,At h2,At h3,At h4,At h5,At h6,At h7,At h8,At h9];simp
 rw[e];exact Es
theorem XB.look(h:XB L es clock)(a:Int):(J4 a es).getD (thV thZ)=thV ((findH L a).getD thZ):=by rw[h.get];cases findH L a<;>rfl
theorem XB.has(h:XB L es clock)(a:Int):(J4 a es).isSome=(findH L a).isSome:=by rw[h.get];cases findH L a<;>rfl
theorem add_any(b:Nat)(L:TL)(lq:List Ab)(hq:IsX b L lq)(id:Int)(G:List Ab):
 Fn prog 141 [.pointer (some ⟨b,0,none⟩),.int .i64 id] (lq++G) λv l'=>v= .int .i64 (addD L id).1/\ ∃lq',IsX b (addD L id).2 lq'/\l'=lq'++G:=by
 have hq0:=hq;obtain⟨m,es,clock,rfl,hX⟩:=hq;refine AO func141 ntmps141 λE=>?_;by_cases h1:id<1
 ·rw[show addD L id=(2,L) by unfold addD;rw[Ae h1]];refine gz ?_;exact A8 .refl ⟨rfl,_,hq0,rfl⟩
 simp only[Ad,Ag];refine gz ?_;rw[hX.look,hX.has];refine gz ?_;refine AS e_alloc ?_;rintro _ _ ⟨b5,_,rfl,rfl⟩;iterate 4 refine qO ?_
 cases hf:findH L id with
 |some t=>rw[show addD L id=(11,L) by unfold addD;rw[Ac h1,hf];rfl];refine gz ?_;exact A8 (.drop .refl) ⟨rfl,_,hq0,rfl⟩
 |none=>rw[show addD L id=(0,insH L (fb id)) by unfold addD;rw[Ac h1,hf];rfl];refine gz ?_;refine LV (Kn (a:=id) (es:=es) (clock:=clock) rfl rfl rfl (by exact Dw)) rfl rfl ?_;rintro _ _ ⟨rfl,rfl⟩;refine gz ?_;exact A8 (.drop .refl) ⟨rfl,_,⟨m,_,_,rfl,hX.add (t:=fb id) hf⟩,rfl⟩
theorem get_any(b:Nat)(L:TL)(lq:List Ab)(hq:IsX b L lq)(id:Int)(l:List Ab)(hsub: ∀c,c∈lq->c∈l):
 Fn prog 96 [.pointer (some ⟨b,0,none⟩),.int .i64 id] l λv l'=>v= .tuple #[thV ((findH L id).getD thZ),.bool (findH L id).isSome]/\l'=l:=by
 obtain⟨m,es,clock,rfl,hX⟩:=hq;have hm1:=hsub _ (.head _);have hm2:=hsub _ (.tail _ (.head _));refine AO func96 ntmps96 λE=>?_;refine Hj λb4=>?_;rw[hX.look,hX.has];refine Hj λb6=>?_;exact Cy (l':=l) (thC b6 ((findH L id).getD thZ)::thC b4 ((findH L id).getD thZ)::l) .refl (.drop (.drop .refl)) ⟨rfl,rfl⟩
theorem set_any(b:Nat)(L:TL)(lq:List Ab)(hq:IsX b L lq)(t:ThT)(G:List Ab):
 Fn prog 97 [.pointer (some ⟨b,0,none⟩),thV t] (lq++G) λv l'=>v= .int .i64 (setD L t).1/\ ∃lq',IsX b (setD L t).2 lq'/\l'=lq'++G:=by
 have hq0:=hq;obtain⟨m,es,clock,rfl,hX⟩:=hq;refine AO func97 ntmps97 λE=>?_;simp only[Ad,Ag];refine Hj λb3=>?_;refine Ce [10,11] 13 _ ?_ (hR:=(λ_ h=>h));refine pz ?_;rw[hX.look,hX.has];refine pz ?_;apply CE
 ·exact e_alloc
 ·rfl
 ·rfl
 ·rfl
 ·rintro _ _ ⟨b5,_,_,rfl⟩ c hc;exact .tail _ hc
 rintro _ _ ⟨b5,_,rfl,rfl⟩;refine pz ?_;cases hf:findH L t.id with
 |none=>rw[show setD L t=(2,L) by unfold setD;rw[hf];simp];refine gz ?_;exact A8 (.drop (.drop .refl)) ⟨rfl,_,hq0,rfl⟩
 |some u=>
  cases hM:mayH t with
  |false=>rw[show setD L t=(2,L) by unfold setD;rw[hf,hM];simp];refine gz ?_;refine N9 (AK rfl rfl λl2 hl=>Ov t l2) rfl rfl rfl ?_;rw[hM];refine gz ?_;exact A8 (.drop (.drop .refl)) ⟨rfl,_,hq0,rfl⟩
  |true=>
   rw[show setD L t=(0,putH L t) by unfold setD;rw[hf,hM];simp];refine gz ?_;refine N9 (AK rfl rfl λl2 hl=>Ov t l2) rfl rfl rfl ?_;rw[hM];refine gz ?_;refine Ce [7] 8 ([thC b3 t,xC b m]) ?_;refine pz ?_;apply Mu
   ·exact Kn (a:=t.id) (es:=es) (clock:=clock) rfl rfl rfl (by exact Dw)
   ·rfl
   ·rfl
   ·rintro _ _ ⟨rfl,rfl⟩;exact BZ (by exact K5)
   rintro _ _ ⟨rfl,rfl⟩;refine pz ?_;refine gz ?_;exact By [] rfl (.drop (.drop .refl)) (by exact A7) ⟨rfl,_,⟨m,_,_,rfl,hX.put (by rw[hf];rfl)⟩,rfl⟩
abbrev xB(B:Nat)(v:Value):Ab:=(B,.cells #[v] 159 (0,0))
abbrev FR(B:Nat)(x:Int):Ab:=(B,.cells #[.int .i64 x] 3 (0,0))
theorem Ij(v:Value)(h1:v.oneCell'=true)(l:List Ab):Fn prog 119 [v] l λr l'=> ∃B,r= .func (.func 174) #[] #[.pointer (some ⟨B,0,none⟩)]/\l'=xB B v::l:=by refine AO func119 ntmps119 λE=>?_;refine gz ?_;refine AS (DZ rfl h1) ?_;rintro _ _ ⟨B,hB,rfl,rfl⟩;refine gz ?_;exact A8 .refl ⟨B,rfl,rfl⟩
def thcs(L:TL):List Value:=L.flatMap encH
theorem aV(L:TL)(t:ThT):thcs (L++[t])=thcs L++encH t:=by simp[thcs]
theorem V9(gf:Nat)[EN prog gf](lb:List Value)(S Sp:TL->Prop)(Need:TL->List Ab->Prop)(hit:E2 prog gf lb (λt:ThT=>[thV t]) S Sp Need)(n:Nat)(hsp: ∀pre,Sp pre->pre.length<=n)(hn:n<=900000)(l:List Ab)(hneed: ∀pre l2,(∀c,c∈l->c∈l2)->Need pre l2):
 Fn prog 173 [.slice none 0 0,.func (.func gf) #[] lb.toArray] l λv l'=> ∃xs cs,S xs/\OwnSl 79 24 v xs.length (thcs xs) cs/\l'=cs++l:=by
 refine AO func173 ntmps173 λE=>?_;refine gz ?_;refine AS (DZ rfl rfl) ?_;rintro _ _ ⟨b2,hb2,rfl,rfl⟩;refine gz ?_;refine CU (α:=ThT) (ps:=[7]) (lb:=lb) rfl hit (λ_=>rfl) rfl
  (λpre l=> ∃v cs,OwnSl 79 24 v pre.length (thcs pre) cs/\l=[(b2,.cells #[v] 46 (0,0))]++cs)
  (λc pre l=>False)
  _ l (λpre l2 X2 hX h=>by obtain⟨v,cs,_,rfl⟩:=h;exact hneed _ _ λc hc=>Aa _ (hX _ hc)) (by exact AR) ⟨_,[],OwnSl.nil _ _,rfl⟩ ?_ ?_ ?_
 ·rintro E r0 rec pre y l' T ⟨fn,tmps,Dd,rfl⟩ hT0 ⟨v,cs',hown,rfl⟩ hsp0;have hpl:=hsp _ hsp0;rw[Ah] at hpl;simp only[Du,Ad,Ag];refine Hj λb5=>?_;refine Cp (.there (.there (Fa _ _ _ _ _))) ?_;generalize hX1:(r0,Obj.loop (Dp fn tmps _ _ _ Dd .busy none))::T=X1;refine gz ?_;refine AS (E3 (k:=24) rfl rfl rfl AW AW) ?_;rintro _ _ ⟨bl,_,rfl,rfl⟩;refine AS (GI (k:=24) (X:=[thC b5 y,(b2,.cells #[v] 46 (0,0))]) (cs:=cs') (F:=X1) (xs:=thcs pre) (n:=pre.length) (ws:=encH y) rfl rfl rfl hown rfl (by simp[Value.oneCell']) Af AW) ?_;rintro v' _ ⟨c2,ho2,rfl⟩;have hv1:v'.oneCell'=true:=ho2.one;simp only[Ad,Ag];refine gz ?_;rw[<-hX1];refine B9 _ (.drop .refl) ⟨v',c2,?_,rfl⟩;rw[Ah,aV];exact ho2
 ·rintro Dd xs l' hS ⟨v,cs',hown,rfl⟩;have hv1:v.oneCell'=true:=hown.one;simp only[Ad,Ag];refine gz ?_;refine AU [Dd] (cs'++l) rfl (l':=cs'++l) (by exact AR) (by exact A7) .refl ?_;exact⟨xs,cs',hS,hown,rfl⟩
 ·rintro Dd c pre l' hsp h;exact h.elim
theorem UF(gf:Nat)[EN prog gf](lb:List Value)(S Sp:TL->Prop)(Need:TL->List Ab->Prop)(hit:E2 prog gf lb (λt:ThT=>[thV t]) S Sp Need)(n:Nat)(hsp: ∀pre,Sp pre->pre.length<=n)(hn:n<=900000)(l:List Ab)(hneed: ∀pre l2,(∀c,c∈l->c∈l2)->Need pre l2):
 Fn prog 118 [.func (.func gf) #[] lb.toArray] l λv l'=> ∃xs cs,S xs/\OwnSl 79 24 v xs.length (thcs xs) cs/\l'=cs++l:=by
 refine AO func118 ntmps118 λE=>?_;refine gz ?_;refine AS (Az rfl rfl (V9 gf lb S Sp Need hit n hsp hn l hneed)) ?_;rintro v _ ⟨xs,cs,hS,ho,rfl⟩;have hv1:v.oneCell'=true:=ho.one;refine gz ?_;refine A8 .refl ?_;exact⟨xs,cs,hS,ho,rfl⟩
theorem Rp(mb:Option Nat)(l:List Ab):Fn prog 176 [.map mb] l λv l'=> ∃B,v= .func (.func 238) #[] #[.pointer (some ⟨B,0,none⟩)]/\l'=(B,.cells #[.map mb] 276 (0,0))::l:=by refine AO func176 ntmps176 λE=>?_;refine gz ?_;refine AS (DZ rfl rfl) ?_;rintro _ _ ⟨B,hB,rfl,rfl⟩;refine gz ?_;exact A8 .refl ⟨B,rfl,rfl⟩
theorem Pf(B m clock:Nat)(es:List Kl)(hnd:(es.map (·.2.2)).Nodup)(hst: ∀e,e∈es->e.2.2<clock):
 E2 prog 238 [.pointer (some ⟨B,0,none⟩)] (λk:Int=>[.int .i64 k]) (λxs=>xs.Perm (es.map (·.1))) (λpre=>pre.length<=es.length)
  (λ_ l=>(B,.cells #[.map (some m)] 276 (0,0))∈l/\(m,Fh .i64 es clock)∈l):=by
 refine⟨λq I Ix G0 hneed hY l G hG h0=>?_⟩;refine AO func238 ntmps238 λE=>?_;exact uL
theorem MN(B m clock:Nat)(es:List Kl)(hnd:(es.map (·.2.2)).Nodup)(hst: ∀e,e∈es->e.2.2<clock)(hn:es.length<=900000)(l:List Ab)(h1:(B,Obj.cells #[.map (some m)] 276 (0,0))∈l)(h2:(m,Fh .i64 es clock)∈l):
 Fn prog 175 [.func (.func 238) #[] #[.pointer (some ⟨B,0,none⟩)]] l λv l'=> ∃xs cs,xs.Perm (es.map (·.1))/\OwnSl 3 1 v (SE xs).length ((SE xs).map Lu) cs/\l'=cs++l:=
 Rq 238 [.pointer (some ⟨B,0,none⟩)] _ es.length _ (Pf B m clock es hnd hst) hn (λxs h=>by rw[h.length_eq];simp) l λ_ l2 hl=>⟨hl _ h1,hl _ h2⟩
theorem XB.sorted(h:XB L es clock)(hx:xs.Perm (es.map (·.1))):SE xs=L.map ThT.id:=by
 have h1:(SE xs).Perm (L.map ThT.id):=(List.mergeSort_perm ..).trans (hx.trans h.keys);have h2:(SE xs).Pairwise (λx y=>x<=y):=by have:=List.pairwise_mergeSort (le:=λx y:Int=>decide (x<=y)) (λa b c h1 h2=>by simp at*;omega) (λa b=>by simp;omega) xs;exact this.imp λh=>by simpa using h
 have h3:(L.map ThT.id).Pairwise (λx y=>x<=y):=Ck.2 (h.asc.imp λhxy=>by omega);exact h1.eq_of_pairwise (λa b _ _ h1 h2=>by omega) h2 h3
theorem OwnSl.ints{e:Nat}{v:Value}{cs l:List Ab}(h:OwnSl e 1 v xs.length (xs.map Lu) cs)(hs: ∀c,c∈cs->c∈l): ∃p cap,v= .slice p xs.length cap/\(0<xs.length-> ∃b cl t fz,p=some ⟨b,0,none⟩/\(b,Obj.cells cl t fz)∈l/\ ∀i x,xs[i]?=some x->cl[i*1]?=some (.int .i64 x)):=by
 rcases h.2 with⟨rfl,h0,rfl⟩|⟨b,cap,sp,rfl,rfl,_⟩
 ·exact⟨none,0,by rw[h0],λh=>by omega⟩
 ·refine⟨_,cap,rfl,λh0=>⟨b,_,e,(0,0),rfl,hs _ Ak,λi x hx=>?_⟩⟩;have hlt:=(Ax.1 hx).1;rw[Dh,AE,AC (by simpa using hlt),A0,hx];rfl
theorem G1(B b:Nat)(L:TL)(lq:List Ab)(hq:IsX b L lq)(hn:L.length<=900000):
 E2 prog 174 [.pointer (some ⟨B,0,none⟩)] (λt:ThT=>[thV t]) (λxs=>xs=L) (λpre=>pre<+:L)
  (λ_ l=>xB B (.pointer (some ⟨b,0,none⟩))∈l/\ ∀c,c∈lq->c∈l):=by
 refine⟨λr I Ix G0 hneed hY l G hG h0=>?_⟩;obtain⟨m,es,clock,rfl,hX⟩:=hq;obtain⟨n1,n2⟩:=hneed _ _ G hG h0;have n3:=n2 _ (.head _);have n4:=n2 _ (.tail _ (.head _));refine AO func174 ntmps174 λE=>?_;refine gz ?_;refine AS (Az rfl rfl (Rp (some m) _)) ?_;rintro _ _ ⟨B',rfl,rfl⟩;refine gz ?_;refine AS (Az rfl rfl (MN B' m clock es hX.ok.stamps hX.ok.below (by rw[hX.len];exact hn) _ (.head _) (.tail _ n4))) ?_;rintro v _ ⟨xs,cs,hxs,ho,rfl⟩;rw[hX.sorted hxs] at ho;have hv1:v.oneCell'=true:=ho.one;obtain⟨p,cap,rfl,hR⟩:=OwnSl.ints ho (l:=cs) λc hc=>hc;have hlen:(L.map ThT.id).length=L.length:=AZ ..;refine gz ?_;refine Cu (α:=Nat×List Ab) (λx=>[(0,.func (.yield r) #[] #[]),(1,.pointer (some ⟨B,0,none⟩)),(12,.slice p (L.map ThT.id).length cap),(13,.int .i64 (L.map ThT.id).length),(14,.int .i64 x.1)]) (λx=>x.2++(cs++G)) (λx=>x.1<=L.length/\I (L.take x.1) x.2) (λx=>L.length-x.1) (0,l) ⟨Bf _,h0⟩ ⟨rfl,rfl,rfl,rfl,rfl,trivial⟩ ?_ ?_
 ·exact Keep.trans (Keep.in_mid cs [_] (l++G)) (.drop (Keep.in_mid cs l G))
 clear n1 n2 n3 n4;rintro⟨k,l⟩ ⟨hk,hI⟩;simp only at hk hI⊢;obtain⟨n1,n2⟩:=hneed _ _ (cs++G) (λc hc=>Aa _ (hG c hc)) hI;have n3:=n2 _ (.head _);have n4:=n2 _ (.tail _ (.head _));by_cases hlt:k<L.length
 ·obtain⟨b9,cl,t9,fz,rfl,hmc,hcl⟩:=hR Af;have hm':(b9,Obj.cells cl t9 fz)∈l++(cs++G):=Aa _ (Ai _ hmc);obtain⟨t,ht⟩: ∃t,L[k]?=some t:=⟨_,Am hlt⟩
  have hc:=hcl k t.id (by rw[A0,ht];rfl);have htk:L.take (k+1)=L.take k++[t]:=by rw[B0,ht];rfl
  have hlk:(J4 t.id es).getD (thV thZ)=thV t:=by rw[hX.look,hX.at_ (A9 ht)];rfl
  refine gz ?_;rw[hlk];have hy:=hY (L.take k) t l (cs++G) (λc hc=>Aa _ (hG c hc)) hI (by rw[<-htk];exact BD _ _);refine AS (CK rfl rfl hy) ?_;rintro v l' ⟨l1,rfl,⟨rfl,hI'⟩|⟨rfl,hx⟩⟩
  ·refine gz ?_;exact BS (k+1,l1) ⟨by simp only;omega,by simp only;rw[htk];exact hI'⟩ (by simp only;omega) ⟨rfl,rfl,rfl,rfl,rfl,trivial⟩ .refl
  ·refine gz ?_;exact By [] rfl (Keep.trans (Keep.in_mid l1 cs G) (Keep.dropL cs .refl)) (by exact A7) ⟨l1,rfl,.inr ⟨_,by rw[<-htk];exact BD _ _,hx⟩⟩
 ·obtain rfl:k=L.length:=by omega
  rw[D1] at hI;refine gz ?_;exact A8 (Keep.trans (Keep.in_mid l cs G) (Keep.dropL cs .refl)) ⟨l,rfl,.inl ⟨_,rfl,hI⟩⟩
theorem all_any(b:Nat)(L:TL)(lq:List Ab)(hq:IsX b L lq)(hn:L.length<=900000)(l:List Ab)(hsub: ∀c,c∈lq->c∈l):
 Fn prog 77 [.pointer (some ⟨b,0,none⟩)] l λv l'=> ∃cs,OwnSl 79 24 v L.length (thcs L) cs/\l'=cs++l:=by
 refine AO func77 ntmps77 λE=>?_;refine gz ?_;refine AS (Az rfl rfl (Ij _ rfl _)) ?_;rintro _ _ ⟨B,rfl,rfl⟩;refine gz ?_;refine AS (Az rfl rfl (UF 174 [.pointer (some ⟨B,0,none⟩)] _ _ _ (G1 B b L lq hq hn) L.length (λpre h=>h.length_le) hn _ λ_ l2 hl=>⟨hl _ (.head _),λc hc=>hl _ (.tail _ (hsub c hc))⟩)) ?_;rintro v _ ⟨_,cs,rfl,ho,rfl⟩;have hv1:v.oneCell'=true:=ho.one;refine gz ?_;refine A8 (l':=cs++l) (Keep.trans (.of_perm AH) (.drop .refl)) ?_;exact⟨cs,ho,rfl⟩
theorem fe{pre:TL}(hL:pre++[t]<+:L)(h0:id≠0)(hp: ∀x,x∈pre->¬x.ca=id)(ht:t.ca=id):serverD L id=t.id:=by unfold serverD;rw[Ac h0];obtain⟨r,rfl⟩:=hL;rw[Al,EP,Bu.2 λx hx=>by simpa using hp x hx];rw[Option.none_or,Ca,BB,At ht]
theorem aW(hp: ∀x,x∈L->¬(id≠0/\x.ca=id)):serverD L id=0:=by
 unfold serverD;by_cases h0:id=0
 ·rw[Ae h0]
 ·rw[Ac h0,Bu.2 λx hx=>by simpa using λh=>hp x hx ⟨h0,h⟩]
end Go.Proofs.YtlkgekpmileobaaGreat.Th
