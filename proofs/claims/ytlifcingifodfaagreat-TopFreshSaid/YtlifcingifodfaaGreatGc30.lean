/- Laws that the statement's proof leans on (joined out of several texts). -/
import Derived.Test.YtlifcingifodfaaGreatGc29
set_option maxHeartbeats 4000000
set_option linter.unusedVariables false
set_option linter.unusedSimpArgs false
namespace Go.Proofs.YtlifcingifodfaaGreat
open Tryz
open List(toArray replicate)
open Go.RowKit
variable{W:A4}{l R G:Ad}{f N e i n k b F C j:Nat}{P:Program}{ro:Option Nat}{E:World}{ops:Array Oper}{Q:Exit->Act->World->Prop}{tbl:List (List Nat)}{sp:FM}{ds:List Deferred}{A0 pl:List BH}{fr' fr0:Fr}{K:Value->Ad->Prop}{v:Value}{ty:TypeId}{pos:String}{x:Operand}{vs:Ap}{S:KT}{p:RP}{s:RL}
section
theorem dM{sw:Sw}{fr:Fr}{l':Ad}(p:l.Perm l')(h:PlanS P ro N E ops Q R tbl sw sp pl fr ds l):PlanS P ro N E ops Q R tbl sw sp pl fr ds l':=by
 induction h generalizing l' with
 |nil h=>exact .nil (Kf (.of_perm p.symm) h)
 |q h1 h2 h3 _ ih=>exact .q h1 h2 h3 (ih p)
 |gq h1 h2 h3 h4 h5 h6 _ ih=>exact .gq h1 h2 h3 h4 h5 h6 (ih p)
 |gs h1 h2 h3 h4 h5 h6 h7 h8 h9 _ ih=>exact .gs h1 h2 h3 h4 h5 h6 (λc hc=>p.mem_iff.1 (h7 c hc)) h8 (λhk x hx ha c hc=>p.mem_iff.1 (h9 hk x hx ha c hc)) (ih p)
 |gu h1 h2 h3 h4 h5 h7 h8 h9 _ ih=>exact .gu h1 h2 h3 h4 h5 (λc hc=>p.mem_iff.1 (h7 c hc)) h8 (λhk x hx ha c hc=>p.mem_iff.1 (h9 hk x hx ha c hc)) (ih p)
 |e h1 h2 h3 h4 h5 h6 ih=>exact .e (OpE.re (.of_perm p.symm) h1 λv l2 hk=>⟨l2,.refl,hk⟩) h2 h3 h4 h5 h6
 |ge h1 h2 h3 h4 h5 h6 h7 h8 h9 ih=>exact .ge (OpE.re (.of_perm p.symm) h1 λv l2 hk=>⟨l2,.refl,hk⟩) h2 h3 h4 h5 h6 h7 h8 h9
 |weak h1 _ ih=>exact .weak h1 (ih p)
 |sq h1 h2 h3 h4 _ ih=>exact .sq h1 (λc hc=>p.mem_iff.1 (h2 c hc)) h3 h4 (ih p)
 |alt oo K rf sf h1 h2 h3 h4 ih=>exact .alt oo K rf sf h1 (λj hj=>⟨OpE.re (.of_perm p.symm) (h2 j hj).1 λv l2 hk=>⟨l2,.refl,hk⟩,(h2 j hj).2⟩) h3 h4
 |alt2 h1 h2 h3 h4 _ _ ih1 ih2=>exact .alt2 h1 h2 h3 h4 (ih1 p) (ih2 p)
abbrev VV:=Nat×Oper×(Value->Ad->Prop)
abbrev U0(x:VV):BH:=(x.1,false,x.2.1)
def FLe(fr fr':Fr):Prop:= ∀d v,BX fr d=some v->BX fr' d=some v
structure IsAd(P:Program)(ro:Option Nat)(N:Nat)(fr:Fr)(l:Ad)(x:VV):Prop where
 law': ∀l',(∀c,c∈l->c∈l')->OpE P ro N fr l' x.2.1 λv l2=> ∃cs,x.2.2 v cs/\l2=cs++l'
 guard:x.2.1.guard=none
 dst: ∃d,x.2.1.dst=some d/\Nat.blt d N=true/\BX fr d=none
theorem OpE.le{fr:Fr}{o:Oper}(h:FLe fr fr')(ho:OpE P ro N fr l o K):OpE P ro N fr' l o K:=⟨ho.nodef,λE a W hf hs=>ho.val E a W (hf.sub h) hs⟩
theorem OpQ.le{fr fr':Fr}{l:Ad}{o:Oper}{v:Value}(h:FLe fr fr')(ho:OpQ P ro N fr l o v):OpQ P ro N fr' l o v:=⟨λl' hl=>(ho.run l' hl).le h⟩
theorem IsAd.law{fr:Fr}{x:VV}(h:IsAd P ro N fr l x)(fr':Fr)(l':Ad)(h1:FLe fr fr')(h2: ∀c,c∈l->c∈l'):OpE P ro N fr' l' x.2.1 λv l2=> ∃cs,x.2.2 v cs/\l2=cs++l':=(h.law' l' h2).le h1
def AddK:List VV->Fr->Ad->(Fr->Ad->Prop)->Prop
 |[],fr,l,k=>k fr l
 |x::xs,fr,l,k=> ∀v cs,x.2.2 v cs->AddK xs (Il x.2.1.dst v fr) (cs++l) k
theorem AddK.mono{k k':Fr->Ad->Prop}(h: ∀fr l,k fr l->k' fr l): ∀{xs:List VV} {fr:Fr} {l:Ad},AddK xs fr l k->AddK xs fr l k'
 |[],_,_,hk=>h _ _ hk
 |x::xs,_,_,hk=>λv cs hx=>AddK.mono h (hk v cs hx)
def Inv(k:Fr->Ad->Prop):Prop:= ∀fr fr' l l',FLe fr fr'->l.Perm l'->k fr l->k fr' l'
theorem HE{d:Nat}{fr:Fr}:BX (Il (some d) v fr) e=if d=e then some v else BX fr e:=by
 show(bif Nat.beq d e then some v else BX fr e)=_;by_cases h:d=e
 ·subst h;simp
 ·rw[Ab h];have:Nat.beq d e=false:=by cases hb:Nat.beq d e;rfl;exact absurd (FF hb) h
  rw[this];rfl
theorem FLe.put{fr:Fr}(h:FLe fr fr')(d:Option Nat)(v:Value):FLe (Il d v fr) (Il d v fr'):=by
 cases d with
 |none=>exact h
 |some d=>intro e u hu;rw[HE] at hu⊢;split at hu<;>simp_all [FLe]
theorem AddK.inv{k:Fr->Ad->Prop}(hk:Inv k): ∀{xs:List VV} {fr fr':Fr} {l l':Ad},FLe fr fr'->l.Perm l'->AddK xs fr l k->AddK xs fr' l' k
 |[],_,_,_,_,h1,h2,h=>hk _ _ _ _ h1 h2 h
 |x::xs,_,_,_,_,h1,h2,h=>λv cs hx=>AddK.inv hk (h1.put _ _) (h2.append_left cs) (h v cs hx)
theorem YN{d:Nat}(h:d≠e)(u v:Value)(fr:Fr):FLe (Il (some d) u (Il (some e) v fr)) (Il (some e) v (Il (some d) u fr)):=by
 intro k w hw;simp only[HE] at hw⊢;by_cases h1:d=k
 ·subst h1;rw[Ac rfl] at hw;rw[Ab (FG h),Ac rfl];exact hw
 ·rw[Ab h1] at hw;rw[Ab h1];exact hw
theorem AddK.first{k:Fr->Ad->Prop}(hk:Inv k){a:VV}{da:Nat}(ha:a.2.1.dst=some da): ∀{xs:List VV} {fr:Fr} {l:Ad},(∀x,x∈xs-> ∃d,x.2.1.dst=some d/\d≠da)->AddK (xs++[a]) fr l k->AddK (a::xs) fr l k
 |[],_,_,_,h=>h
 |x::xs,fr,l,hx,h=>λv cs hv u us hu=>by
  have h1:=AddK.first hk ha (λy hy=>hx y (An _ hy)) (h u us hu) v cs hv;obtain⟨d,hd,G5⟩:=hx x Ak;refine AddK.inv hk ?_ ?_ h1
  ·rw[hd,ha];exact YN (FG G5) _ _ _
  ·exact Az cs us l
theorem dN{sp:FM}{ds:List Deferred}{A0:List BH}: ∀(xs:List VV) {fr0 fr:Fr} {l0 l:Ad},FLe fr0 fr->(∀c,c∈l0->c∈l)->(∀x,x∈xs->IsAd P ro N fr0 l0 x)->(xs.map λx=>x.2.1.dst).Nodup->(∀x,x∈xs-> ∀d,x.2.1.dst=some d->BX fr0 d=none)->(∀c,c∈R->c∈l0)->(∀x,x∈sp-> ∀c,c∈x.2->c∈l0)->
 AddK xs fr l (λfr' l'=>PlanS P ro N E ops Q R tbl none sp A0 fr' ds l')->PlanS P ro N E ops Q R tbl none sp (xs.map U0++A0) fr ds l
 |[],_,_,_,_,_,_,_,_,_,_,_,h=>h
 |x::xs,fr0,fr,l0,l,h1,h2,hx,hn,hf,hR,hS,h=>by
  have hI:=hx x Ak;obtain⟨d,hd,hb,ZH⟩:=hI.dst;refine .e (hI.law fr l h1 h2) hI.guard (by rw[hd];exact hb) ?_ ?_ ?_
  ·rintro v l' ⟨cs,_,rfl⟩ c hc;exact Aa _ (h2 _ (hR c hc))
  ·rintro v l' ⟨cs,_,rfl⟩ y hy _ c hc;exact Aa _ (h2 _ (hS y hy c hc))
  ·rintro v l' ⟨cs,hk,rfl⟩;refine dN xs (fr0:=fr0) ?_ (λc hc=>Aa _ (h2 c hc)) (λy hy=>hx y (An _ hy)) (AP.1 hn).2 (λy hy=>hf y (An _ hy)) hR hS (h v cs hk);intro e u hu;show BX (Il x.2.1.dst v fr) e=_;rw[hd,HE]
   split
   ·rename_i e1;subst e1;rw[ZH] at hu;cases hu
   ·exact h1 e u hu
abbrev ph(x:Nat×Oper):BH:=(x.1,true,x.2)
def QK(P:Program)(ro:Option Nat)(N:Nat)(R:Ad):List (Nat×Oper)->Fr->(Fr->Prop)->Prop
 |[],fr,k=>k fr
 |x::xs,fr,k=> ∃v d,OpQ P ro N fr R x.2 v/\x.2.guard=none/\x.2.dst=some d/\Nat.blt d N=true/\QK P ro N R xs ((d,v)::fr) k
theorem QK.plan{sw:Sw}{sp:FM}{ds:List Deferred}{A0:List BH}{l:Ad}: ∀{qs:List (Nat×Oper)} {fr:Fr},QK P ro N R qs fr (λfr'=>PlanS P ro N E ops Q R tbl sw sp A0 fr' ds l)->PlanS P ro N E ops Q R tbl sw sp (qs.map ph++A0) fr ds l
 |[],_,h=>h
 |x::qs,fr,h=>by obtain⟨v,d,h1,h2,h3,h4,h5⟩:=h;exact .q h1 h2 (by rw[h3];exact h4) (by rw[h3];exact QK.plan h5)
theorem QK.mono{k k':Fr->Prop}(h: ∀fr,k fr->k' fr): ∀{qs:List (Nat×Oper)} {fr:Fr},QK P ro N R qs fr k->QK P ro N R qs fr k'
 |[],_,hk=>h _ hk
 |x::qs,_,⟨v,d,h1,h2,h3,h4,h5⟩=>⟨v,d,h1,h2,h3,h4,QK.mono h h5⟩
theorem QK.le{k:Fr->Prop}(hk: ∀fr fr',FLe fr fr'->k fr->k fr'): ∀{qs:List (Nat×Oper)} {fr fr':Fr},FLe fr fr'->QK P ro N R qs fr k->QK P ro N R qs fr' k
 |[],_,_,h,hq=>hk _ _ h hq
 |x::qs,_,_,h,⟨v,d,h1,h2,h3,h4,h5⟩=>⟨v,d,h1.le h,h2,h3,h4,QK.le hk (h.put (some d) v) h5⟩
theorem FLe.low{fr:Fr}{d:Nat}(h1:FLe fr0 fr)(hd:BX fr0 d=none):FLe fr0 (Il (some d) v fr):=λe u hu=>by
 rw[HE]
 split
 ·rename_i e1;subst e1;rw[hd] at hu;cases hu
 ·exact h1 e u hu
theorem QK.low{fr0:Fr}{k:Fr->Prop}: ∀{qs:List (Nat×Oper)} {fr:Fr},(∀x,x∈qs-> ∀d,x.2.dst=some d->BX fr0 d=none)->FLe fr0 fr->QK P ro N R qs fr k->QK P ro N R qs fr (λcO=>FLe fr0 cO/\k cO)
 |[],_,_,h,hk=>⟨h,hk⟩
 |x::qs,_,hq,h,⟨v,d,h1,h2,h3,h4,h5⟩=>⟨v,d,h1,h2,h3,h4,QK.low (λy hy=>hq y (An _ hy)) (h.low (hq x Ak d h3)) h5⟩
theorem QK.first{k:Fr->Ad->Prop}(hk:Inv k){a:VV}{da:Nat}(ha:a.2.1.dst=some da): ∀{qs:List (Nat×Oper)} {fr:Fr} {l:Ad},BX fr da=none->(∀x,x∈qs->x.2.dst≠some da)->QK P ro N R qs fr (λfr'=>AddK [a] fr' l k)->AddK [a] fr l (λfr' l'=>QK P ro N R qs fr' (λcO=>k cO l'))
 |[],_,_,_,_,h=>h
 |x::qs,fr,l,hn,hx,⟨v,d,h1,h2,h3,h4,h5⟩=>by
  have G5:d≠da:=λe=>hx x Ak (by rw[h3,e]);intro u us hu;show QK P ro N R (x::qs) (Il a.2.1.dst u fr) _;rw[ha];refine⟨v,d,h1.le ?_,h2,h3,h4,?_⟩
  ·intro e w hw;rw[HE]
   split
   ·rename_i e1;subst e1;rw[hn] at hw;cases hw
   ·exact hw
  ·have h6:=QK.first hk ha (fr:=(d,v)::fr) (by show BX (Il (some d) v fr) da=none;rw[HE,Ab G5];exact hn) (λy hy=>hx y (An _ hy)) h5 u us hu;have h7:QK P ro N R qs (Il a.2.1.dst u ((d,v)::fr)) (λcO=>k cO (us++l)):=h6;rw[ha] at h7;exact QK.le (λfr fr' h h'=>hk _ _ _ _ h (.refl _) h') (YN (FG G5) u v fr) h7
def WU(ops:Array Oper)(tbl:List (List Nat))(qs:List BH)(a:BH)(A0:List BH):List BH->Bool
 |[]=>Gq ops tbl none A0
 |x::xs=>x.1 !=a.1&&Gq ops tbl (some (xs.map λy=>(y.1,a.1))) (xs++(qs++a::A0))&&Gq ops tbl none (x::xs++(qs++A0))&&WU ops tbl qs a A0 xs
theorem gZ{a:BH}(xs:List VV):UT (some (xs.map λy=>(y.1,a.1))) (xs.map U0++A0)=true:=by show(xs.map λy=>(y.1,a.1)).all _=true;rw[A3];intro p hp;obtain⟨y,hy,rfl⟩:=Au.1 hp;rw[HJ];exact⟨U0 y,Ai _ (List.mem_map_of_mem hy),by simp⟩
theorem AddK.snoc{a:VV}{k:Fr->Ad->Prop}: ∀{xs:List VV} {fr:Fr} {l:Ad},AddK xs fr l (λfr' l'=>AddK [a] fr' l' k)->AddK (xs++[a]) fr l k
 |[],_,_,h=>h
 |x::xs,_,_,h=>λv cs hv=>AddK.snoc (h v cs hv)
theorem AddK.none'{fr0:Fr}{da:Nat}: ∀{xs:List VV} {fr:Fr} {l:Ad} {k:Fr->Ad->Prop},BX fr da=none->(∀x,x∈xs-> ∃d,x.2.1.dst=some d/\d≠da)->AddK xs fr l k->AddK xs fr l (λfr' l'=>BX fr' da=none/\k fr' l')
 |[],_,_,_,h,_,hk=>⟨h,hk⟩
 |x::xs,fr,l,k,h,hx,hk=>λv cs hv=>by obtain⟨d,hd,G5⟩:=hx x Ak;exact AddK.none' (fr0:=fr0) (by rw[hd,HE,Ab G5];exact h) (λy hy=>hx y (An _ hy)) (hk v cs hv)
theorem md{qs:List (Nat×Oper)}{a:VV}{l0:Ad}(hR: ∀c,c∈R->c∈l0)(hS: ∀x,x∈sp-> ∀c,c∈x.2->c∈l0)(ha:IsAd P ro N fr0 l0 a){da:Nat}(pR:a.2.1.dst=some da)(hq: ∀x,x∈qs->x.2.dst≠some da)(uN: ∀x,x∈qs-> ∀d,x.2.dst=some d->BX fr0 d=none): ∀(xs:List VV) {fr:Fr} {l:Ad},FLe fr0 fr->BX fr da=none->(∀c,c∈l0->c∈l)->(∀x,x∈xs->IsAd P ro N fr0 l0 x)->((xs++[a]).map λx=>x.2.1.dst).Nodup->WU ops tbl (qs.map ph) (U0 a) A0 (xs.map U0)=true->
 AddK xs fr l (λfr1 l1=>QK P ro N R qs fr1 λcO=>AddK [a] cO l1 (λfr' l'=>PlanS P ro N E ops Q R tbl none sp A0 fr' ds l'))->PlanS P ro N E ops Q R tbl (some (xs.map λx=>(x.1,a.1))) sp (xs.map U0++(qs.map ph++U0 a::A0)) fr ds l:=by
 have AcW:Inv (λfr' l'=>PlanS P ro N E ops Q R tbl none sp A0 fr' ds l'):=λfr fr' l l' h1 h2 h=>dM h2 (.weak h1 h);obtain⟨da',hda',hba,hfa⟩:=ha.dst;obtain rfl:da=da':=by rw[pR] at hda';cases hda';rfl
 have low: ∀{fr:Fr} {d:Nat} {v:Value},FLe fr0 fr->BX fr0 d=none->FLe fr0 (Il (some d) v fr):=λ{fr d v} h1 hd=>h1.low hd;intro xs
 induction xs with
 |nil=>
  intro fr l h1 h0 h2 hx hn Dm hk;refine QK.plan (QK.mono ?_ (QK.low uN h1 hk))
  ·rintro cO ⟨Lf,Le⟩;have ho:=ha.law cO l Lf h2;refine .alt (λ_=>a.2.1) (λ_ v l2=> ∃cs,a.2.2 v cs/\l2=cs++l) (λ_=>A0) (λ_=>none) (λj hj=>?_) (λj hj=>⟨ho,by rw[ha.guard];rfl,by rw[pR];exact hba⟩) (λj hj=>?_) λj hj=>?_
   ·rcases hj with rfl|⟨h,_⟩
    ·exact⟨.refl _,Dm,rfl⟩
    ·simp[Pa] at h
   ·rintro v l' ⟨cs,_,rfl⟩;exact⟨λc hc=>Aa _ (h2 _ (hR c hc)),λy hy _ c hc=>Aa _ (h2 _ (hS y hy c hc))⟩
   ·rintro v l' ⟨cs,hv,rfl⟩;exact Le v cs hv
 |cons x xs ih=>
  intro fr l h1 h0 h2 hx hn Dm hk;have hI:=hx x Ak;obtain⟨d,hd,hb,ZH⟩:=hI.dst;simp only[AJ,WU,AW,Pv,ne_eq] at Dm;obtain⟨⟨⟨G5,jN⟩,QN⟩,Dm⟩:=Dm;have U9: ∀j,Pb tbl (some ((x::xs).map λx=>(x.1,a.1))) x.1 (xs.map U0++(qs.map ph++U0 a::A0)) j->j=x.1\/j=a.1:=λj hj=>by
   rcases hj with h|⟨h,_⟩
   ·exact .inl h
   ·simp only[Pa,Js,Au,Prod.mk.injEq] at h;obtain⟨y,_,_,h⟩:=h;exact .inr h.symm
  have pD: ∀y,y∈x::xs-> ∃d,y.2.1.dst=some d/\d≠da:=λy hy=>by obtain⟨d',pF,_⟩:=(hx y hy).dst;refine⟨d',pF,λe=>?_⟩;rw[Aq,By] at hn;exact hn.2.2 y.2.1.dst (Au.2 ⟨y,hy,rfl⟩) a.2.1.dst (Au.2 ⟨a,Ak,rfl⟩) (by rw[pF,pR,e])
  refine .alt (λk=>if k=x.1 then x.2.1 else a.2.1) (λk v l2=>if k=x.1 then∃cs,x.2.2 v cs/\l2=cs++l else∃cs,a.2.2 v cs/\l2=cs++l) (λk=>if k=x.1 then xs.map U0++(qs.map ph++U0 a::A0) else(x::xs).map U0++(qs.map ph++A0)) (λk=>if k=x.1 then some (xs.map λx=>(x.1,a.1)) else none) (λk hk=>?_) (λk hk=>?_) (λk hk=>?_) λk hk=>?_;all_goals rcases U9 k hk with h|h
  ·subst h;simp only[C6];exact⟨.refl _,by rw[CR] at jN;exact jN,gZ (a:=U0 a) xs⟩
  ·subst h;simp only[Ab (FG G5)];refine⟨?_,QN,rfl⟩;show(U0 a::((x::xs).map U0++(qs.map ph++A0))).Perm ((x::xs).map U0++(qs.map ph++U0 a::A0));rw[<-Am,<-Am];exact AI.symm
  ·subst h;simp only[C6];exact⟨hI.law fr l h1 h2,by rw[hI.guard];rfl,by rw[hd];exact hb⟩
  ·subst h;simp only[Ab (FG G5)];exact⟨ha.law fr l h1 h2,by rw[ha.guard];rfl,by rw[pR];exact hba⟩
  ·subst h;simp only[C6];rintro v l' ⟨cs,_,rfl⟩;exact⟨λc hc=>Aa _ (h2 _ (hR c hc)),λy hy _ c hc=>Aa _ (h2 _ (hS y hy c hc))⟩
  ·subst h;simp only[Ab (FG G5)];rintro v l' ⟨cs,_,rfl⟩;exact⟨λc hc=>Aa _ (h2 _ (hR c hc)),λy hy _ c hc=>Aa _ (h2 _ (hS y hy c hc))⟩
  ·subst h;simp only[C6];rintro v l' ⟨cs,hv,rfl⟩;rename_i hk0;obtain⟨d',pF,pI⟩:=pD x Ak;exact ih (by rw[hd];exact low h1 ZH) (by rw[pF,HE,Ab pI];exact h0) (λc hc=>Aa _ (h2 c hc)) (λy hy=>hx y (An _ hy)) (AP.1 hn).2 Dm (hk0 v cs hv)
  ·subst h;simp only[Ab (FG G5)];rintro v l' ⟨cs,hv,rfl⟩;rename_i hk0;rw[Aq,By] at hn;refine dN (x::xs) (by rw[pR];exact low h1 hfa) (λc hc=>Aa _ (h2 c hc)) hx hn.1 (λy hy d hd=>by obtain⟨d',pF,_,h⟩:=(hx y hy).dst;rw[hd] at pF;cases pF;exact h) hR hS ?_;have h8:=AddK.mono (λfr l h=>QK.first AcW pR h.1 hq h.2) (AddK.none' (fr0:=fr0) h0 pD hk0);have zA:Inv (λfr' l'=>QK P ro N R qs fr' λcO=>PlanS P ro N E ops Q R tbl none sp A0 cO ds l'):=λfr fr' l l' h1 h2 h=>QK.le (λ_ _ h h'=> .weak h h') h1 (QK.mono (λ_ h=>dM h2 h) h);have h9:=AddK.first zA pR pD (AddK.snoc h8) v cs hv;exact AddK.mono (λ_ _ h=>QK.plan h) h9
def AllAd(P:Program)(ro:Option Nat)(N:Nat)(fr:Fr)(l:Ad):List VV->Prop
 |[]=>True
 |x::xs=>IsAd P ro N fr l x/\AllAd P ro N fr l xs
theorem AllAd.mem{fr:Fr}{l:Ad}: ∀{xs:List VV},AllAd P ro N fr l xs-> ∀x,x∈xs->IsAd P ro N fr l x
 |[],_,x,hx=>by cases hx
 |y::ys,h,x,hx=>by
  rcases At.1 hx with rfl|hx
  ·exact h.1
  ·exact AllAd.mem h.2 x hx
def ndB:List (Option Nat)->Bool
 |[]=>true
 |x::xs=>!xs.contains x&&ndB xs
theorem YO: ∀{xs:List (Option Nat)},ndB xs=true->xs.Nodup
 |[],_=>List.nodup_nil
 |x::xs,h=>by simp only[ndB,AW,Ef,List.contains_eq_mem,Fb] at h;exact AP.2 ⟨h.1,YO h.2⟩
def Ub(fr:Fr):List (Option Nat)->Bool
 |[]=>true
 |some d::r=>(BX fr d).isNone&&Ub fr r
 |none::r=>Ub fr r
theorem LM{fr:Fr}: ∀{xs:List (Option Nat)},Ub fr xs=true-> ∀d,some d∈xs->BX fr d=none
 |[],_,d,h=>by cases h
 |some e::r,h,d,hd=>by
  simp only[Ub,AW,Option.isNone_iff_eq_none] at h;rcases At.1 hd with h2|h2
  ·cases h2;exact h.1
  ·exact LM h.2 d h2
 |none::r,h,d,hd=>by
  rcases At.1 hd with h2|h2
  ·cases h2
  ·exact LM (xs:=r) h d h2
theorem ru{L:List (Nat×Nat)}{fr:Fr}(xs:List VV)(qs:List (Nat×Oper))(a:VV)(da:Nat)(hL:xs.map (λx=>(x.1,a.1))=L)(Xo:xs.map U0++(qs.map ph++U0 a::A0)=pl)(pR:a.2.1.dst=some da)(hR: ∀c,c∈R->c∈l)(hS: ∀x,x∈sp-> ∀c,c∈x.2->c∈l)(hx:AllAd P ro N fr l xs)(ha:IsAd P ro N fr l a)(hn:ndB ((xs++[a]).map λx=>x.2.1.dst)=true)(Dm:WU ops tbl (qs.map ph) (U0 a) A0 (xs.map U0)=true)
 (hqd:(qs.all λx=>x.2.dst !=some da)=true)(uN:Ub fr (some da::qs.map λx=>x.2.dst)=true)
 (hk:AddK xs fr l (λfr1 l1=>QK P ro N R qs fr1 λcO=>AddK [a] cO l1 (λfr' l'=>PlanS P ro N E ops Q R tbl none sp A0 fr' ds l'))):PlanS P ro N E ops Q R tbl (some L) sp pl fr ds l:=by
 subst hL Xo;exact md hR hS ha pR (λx hx=>by simpa using A3.1 hqd x hx) (λx hx d hd=>LM uN d (An _ (Au.2 ⟨x,hx,hd⟩))) xs (λ_ _ h=>h) (LM uN da Ak) (λ_ h=>h) hx.mem (YO hn) Dm hk
variable{fr:Fr}{d:Nat}{aft:Array Edge}
theorem O2{xs:List Operand}{at_:Array TypeId}(hx:ev fr x=some (.func (.func f) #[] #[]))(hy:RS fr xs=some vs)[c:EN P f](h: ∀l',(∀c,c∈l->c∈l')->Fn P f vs l' λv l2=> ∃cs,K v cs/\l2=cs++l')(hb:Nat.blt d N=true)(hf:BX fr d=none):IsAd P ro N fr l (i,⟨some d,.call {callee:= .value x,args:=xs.toArray,argTypes:=at_},ty,pos,aft,none⟩,K):=
 ⟨λl' h2=>AA hx hy (h l' h2),rfl,d,rfl,hb,hf⟩
theorem me{t:TypeId}{zs:Ap}[c:ZV P t zs](hb:Nat.blt d N=true)(hf:BX fr d=none):IsAd P ro N fr l (i,⟨some d,.alloc t,ty,pos,aft,none⟩,λv cs=> ∃b,v= .pointer (some ⟨b,0,none⟩)/\cs=[(b,.cells zs.toArray t (0,0))]):=
 ⟨λl' h2=>e_alloc.mono (by rintro v l2 ⟨b,_,h3,h4⟩;exact⟨_,⟨b,h3,rfl⟩,h4⟩),rfl,d,rfl,hb,hf⟩
end
section
end
section
variable{fr:Fr}{d:Option Nat}{aft:Array Edge}{g:Option (Nat×Bool)}
theorem mf{T off:Nat}(hx:ev fr x=some (.pointer (some ⟨b,off,none⟩)))[c:AT P T n e k]:OpQ P ro N fr R ⟨d,.slice T x none none none,ty,pos,aft,g⟩ (.slice (some ⟨b,off,none⟩) n n):=BM rfl λρ l hρ _=>by
 obtain⟨Hp,u1,u2,u3⟩:=Mn c.out;simp only[execOp,hρ x _ hx];rw[AC];unfold Instr.sliceAt;rw[Cc u1];simp only[Instr.sureAddr,AC,Bn,DJ,Instr.sliceBounds];rw[Hr u2];simp only[Bn,u3];refine⟨?_,trivial⟩
 split<;>simp[Gw]
end
set_option maxRecDepth 20000
def rv(gb:Nat)(W:A4)(a:Int):Value:= .pointer (if Ot W a=0 then some ⟨gb,(a/8).toNat,none⟩ else none)
theorem dO(b gb F:Nat)(W:A4)(h1:F<=64)(hW:W.length=F*8)(a:Int)(a0:0<=a)(a1:a<18446744073709551616)(l:Ad)(hm:Pn b gb F∈l):Fn prog 258 [pV b,Bc a] l λv l'=>v= .tuple #[rv gb W a,.int .i64 (Ot W a)]/\l'=l:=by
 unfold rv Ot;rw[hW];refine AO func258 ntmps258 λE=>?_;by_cases h8:a%8=0
 case neg=>rw[Ac h8];exact E4
 rw[Ab (Gf h8)];by_cases hr:a>=((F*8:Nat):Int)*8
 ·rw[Ac hr];exact E4
 rw[Ab hr];refine Aj ?_;refine Bb .refl ⟨?_,rfl⟩;exact BO (λx=>Value.tuple #[.pointer (some ⟨gb,x,none⟩),.int .i64 0]) Af
theorem AaM(h:i<W.length):(toArray (W.map Bc))[i]?=some (Bc (W.getD i 0)):=by rw[AF,A5,Al h,List.getD,Al h];rfl
theorem tZ{a:Int}(a0:0<=a)(hc:Ot W a=0):(a/8).toNat<W.length:=by
 unfold Ot at hc
 (repeat' split at hc)<;>omega
theorem dP(b gb F:Nat)(W:A4)(h1:F<=64)(hW:W.length=F*8)(a:Int)(a0:0<=a)(a1:a<18446744073709551616)(l:Ad)(m1:Pn b gb F∈l)(m2:T3 gb W∈l):Fn prog 202 [pV b,Bc a] l λv l'=>v= .tuple #[Bc (O1 W a).1,iV (O1 W a).2]/\l'=l:=by
 unfold O1;refine AO func202 ntmps202 λE=>?_;refine Aj ?_;refine Be (AL rfl rfl λl2 Lf=>dO b gb F W h1 hW a a0 a1 l2 (Lf _ m1)) ?_;unfold rv;by_cases hc:Ot W a=0
 ·have hv:=AaM (tZ a0 hc);rw[Ac hc,Ac hc,hc];refine Aj ?_;exact qr
 ·rw[Ab hc,Ab hc];refine Aj ?_;exact qr
section
theorem ia(h:IsK F C k S p s)(a:Int)(a0:0<=a)(a1:a<18446744073709551616)(l:Ad)(hl: ∀c,c∈Aw b p s S G->c∈l):Fn prog 202 [pV p.m,Bc a] l λv l'=>v= .tuple #[Bc (O1 S.W a).1,iV (O1 S.W a).2]/\l'=l:=by obtain⟨gb,f1,f2,hW,hu,hM⟩:=h.mem;exact dP p.m gb F S.W f2 hW a a0 a1 l (mM hl _ (by rw[hM];simp)) (mM hl _ (by rw[hM];simp))
theorem AaN(W:A4)(i:Nat)(v:Int):(toArray (W.map Bc)).setIfInBounds i (Bc v)=toArray ((W.set i v).map Bc):=by simp[HN]
theorem ib{v:Int}(h: ∀w,w∈W->K6 w)(hv:K6 v): ∀w,w∈W.set i v->K6 w:=λw hw=>by
 rcases Cq hw with h1|h1
 ·exact h w h1
 ·rw[h1];exact hv
theorem lfM{k':Nat}{x:Value}{W':A4}(hK:IsK F C k S p s)(hk:k'<=k)(h: ∀gb G,S.W.length=F*8->F<=64->(∀w,w∈S.W->K6 w)->Fn prog f vs (Pn p.m gb F::T3 gb S.W::G) λv l'=>v=x/\W'.length=F*8/\(∀w,w∈W'->K6 w)/\ ∃X,l'=X++Pn p.m gb F::T3 gb W'::G):Fn prog f vs (Aw b p s S G) (KK F C b p k' x {S with W:=W'} G):=by obtain⟨gb,f1,f2,hW,hu,hM⟩:=hK.mem;exact Fn.re (.of_perm (by unfold Aw;rw[hM];exact B0)) (h gb (CD b p::As.asA p.n S.N::(s.C++(s.A++(s.H++(s.T++(s.Q++(s.E++(s.V++G)))))))) hW f2 hu) λv l' ⟨h1,h2,h3,X,h4⟩=>⟨Aw b p {s with M:=[Pn p.m gb F,T3 gb W']} {S with W:=W'} (X++G),by rw[h4];unfold Aw;exact A8 [],h1,{s with M:=[Pn p.m gb F,T3 gb W']},_,{hK.mono hk with mem:=⟨gb,f1,f2,h2,h3,rfl⟩},⟨X,rfl⟩,rfl⟩
theorem aS(hK:IsK F C k S p s)(a v:Int)(a0:0<=a)(a1:a<18446744073709551616)(hv:K6 v):Fn prog 201 [pV p.m,Bc a,Bc v] (Aw b p s S G) (KK F C b p k (iV (gX S.W a v).1) {S with W:=(gX S.W a v).2} G):=by
 refine lfM hK (Bd _) λgb G hW f2 hu=>?_;have hA:=dO p.m gb F S.W f2 hW a a0 a1;refine AO func201 ntmps201 λE=>?_;refine Aj ?_;refine Be (AL rfl rfl λl2 Lf=>hA l2 (Lf _ (.head _))) ?_;unfold rv gX;by_cases hc:Ot S.W a=0
 ·have Dc:=tZ a0 hc;rw[Ac hc,Ac hc,hc];refine Aj ?_;refine ME (Du (l':=Pn p.m gb F::T3 gb (S.W.set (a/8).toNat v)::G) rfl rfl rfl (by rw[AaN];exact .there .here) (by simpa using Dc)) rfl rfl ?_;rintro _ _ ⟨rfl,rfl⟩;refine Aj ?_;exact BD [] rfl .refl (by exact Ba) ⟨rfl,by simpa using hW,ib hu hv,[],rfl⟩
 ·rw[Ab hc,Ab hc];refine Aj ?_;exact Bb .refl ⟨rfl,hW,hu,[],rfl⟩
theorem Rx(b gb F:Nat)(l:Ad)(m1:Pn b gb F∈l):Fn prog 344 [pV b] l λv l'=>v=iV (F:Nat)/\l'=l:=by refine AO func344 ntmps344 λE=>?_;refine Aj ?_;exact qr
end
def WV(W:A4)(f j:Nat):A4:=W.take (8*f)++(replicate (8*j) 0++W.drop (8*(f+j)))
theorem AaO(W:A4)(f:Nat):WV W f 0=W:=by simp[WV]
theorem WW(hW:W.length=n*8)(h:f+j<=n):(WV W f j).length=n*8:=by unfold WV;simp;omega
theorem t6(f j:Nat)(h: ∀w,w∈W->K6 w): ∀w,w∈WV W f j->K6 w:=λw hw=>by
 rcases AH.1 hw with hw|hw
 ·exact h w (List.mem_of_mem_take hw)
 rcases AH.1 hw with hw|hw
 ·rw[(List.mem_replicate.1 hw).2];exact⟨by decide,by decide⟩
 ·exact h w (List.mem_of_mem_drop hw)
theorem rx(hW:W.length=n*8)(h:f+j<n):C8 (toArray ((WV W f j).map Bc)) ((f+j)*8) z8=toArray ((WV W f (j+1)).map Bc):=by
 have e1:(WV W f j).map Bc=(W.take (8*f)++replicate (8*j) 0).map Bc++((W.drop (8*(f+j))).take 8).map Bc++(W.drop (8*(f+j)+8)).map Bc:=by rw[<-Aq,<-Aq];congr 1;unfold WV;rw[Am,Am,<-KM,Cj]
 have e2:(WV W f (j+1)).map Bc=(W.take (8*f)++replicate (8*j) 0).map Bc++z8++(W.drop (8*(f+j)+8)).map Bc:=by rw[show z8=(replicate 8 (0:Int)).map Bc from rfl,<-Aq,<-Aq];congr 1;unfold WV;rw[Am,Am,show 8*(j+1)=8*j+8 by omega,<-Jp,Am];rfl
 rw[e1,e2,show(f+j)*8=((W.take (8*f)++replicate (8*j) 0).map Bc).length by simp;omega];exact Ar.setFrom_mid _ _ _ _ (by simp;omega)
section
theorem mi(hK:IsK F C k S p s)(f n:Int):Fn prog 138 [pV p.m,.int .i64 f,.int .i64 n] (Aw b p s S G) (KK F C b p k (iV (YK S.W f n).1) {S with W:=(YK S.W f n).2} G):=by
 refine lfM hK (Bd _) λgb G hW f2 hu=>?_;unfold YK;rw[show nF S.W=F by unfold nF;omega];refine AO func138 ntmps138 λE=>?_;refine Aj ?_;refine AR (Ex rfl rfl) ?_;rintro _ _ ⟨b4,_,rfl,rfl⟩;refine AR (Ex rfl rfl) ?_;rintro _ _ ⟨b5,_,rfl,rfl⟩;refine Aj ?_;refine Cn [] 27 _ ?_ (hR:=(λ_ h=>h));by_cases ZQ:f<0\/f>=F\/n<0\/n>F-f
 ·rw[Ac ZQ];by_cases h1:f<0<;>by_cases h2:f>=F<;>by_cases h3:n<0<;>by_cases h4:n>F-f;all_goals first
   |(exfalso;omega)
   |(refine BS ?_
     refine Aj ?_;exact Bb (.drop (.drop .refl)) ⟨rfl,hW,hu,[],rfl⟩)
 rw[Ab ZQ];obtain⟨f,rfl⟩: ∃q:Nat,f=q:=⟨f.toNat,Af⟩
 obtain⟨n,rfl⟩: ∃q:Nat,n=q:=⟨n.toNat,Af⟩
 refine BS ?_;refine Aj ?_;refine AR (AA rfl rfl (Yc p.m f _)) ?_;rintro _ _ ⟨B1,B2,rfl,rfl⟩;refine Aj ?_;refine Df (α:=Nat) (ps:=[42,43]) (lb:=[.pointer (some ⟨B1,0,none⟩),.pointer (some ⟨B2,0,none⟩)]) rfl (Vt B1 B2 p.m gb F f Af f2) (λ_=>rfl) rfl
  (λpre l=>pre.length<=n/\l=[BP B1 f,Xt B2 p.m,BP b5 n,BP b4 f,Pn p.m gb F,T3 gb (WV S.W f pre.length)])
  (λc pre l=>c= .exit 1/\l=[BP B1 f,Xt B2 p.m,BP b5 n,BP b4 f,Pn p.m gb F,T3 gb (WV S.W f n)])
  _ G (λpre l2 X2 hX h=>by rw[h.2];exact⟨Ai _ (by exact BW),Ai _ (by exact BW),Ai _ (by exact BW)⟩) (by rw[Ff,AaO];exact AU) ⟨Bm _,rfl⟩ ?_ ?_ ?_
 ·rintro E r0 FS pre x l' T ⟨fn,tmps,D,rfl⟩ hT ⟨hj,rfl⟩ DB;obtain⟨j,hj2⟩: ∃j,pre.length=j:=⟨_,rfl⟩
  obtain⟨hx,hxF⟩:x=f+j/\x<F:=by have h3:=Jt DB (i:=j) (by simp;omega);rw[HZ Af] at h3;have h4:=DB.length_le;simp[hj2] at h3 h4;omega
  subst hx;rw[hj2] at hj⊢;simp only[DU,Ae,Ag];refine Aj ?_;refine CH (by exact DX) ?_;refine Aj ?_;by_cases hb:((f+j:Nat):Int)-f>=n
  ·have:j=n:=by omega
   subst this;refine Aj ?_;refine E2 [BP B1 f,Xt B2 p.m,BP b5 j,BP b4 f,Pn p.m gb F,T3 gb (WV S.W f j)] (by exact AU) ⟨rfl,rfl⟩
  ·refine Aj ?_;refine Be (GL (zs:=z8) (cs:=z8) rfl rfl) ?_;refine Aam ?_;refine ME (El (cs:=toArray ((WV S.W f j).map Bc)) (ws:=toArray z8) (n:=8) (off:=(f+j)*8) (l':=BP B1 f::Xt B2 p.m::BP b5 n::BP b4 f::Pn p.m gb F::T3 gb (WV S.W f (j+1))::_) rfl rfl rfl (by simp[Value.oneCell']) (by rw[rx hW hxF];exact DX) (by simp[WW hW (by omega:f+j<=F)];omega)) rfl rfl ?_;rintro _ _ ⟨rfl,rfl⟩;refine Aj ?_;exact Cg [BP B1 f,Xt B2 p.m,BP b5 n,BP b4 f,Pn p.m gb F,T3 gb (WV S.W f (j+1))] .refl ⟨by simp;omega,by simp[hj2]⟩
 ·rintro D xs l' rfl ⟨hj,rfl⟩;rw[List.length_range'] at hj⊢;have:F-f=n:=by omega
  rw[this];simp only[Ae,Ag];refine Aj ?_;exact AV [D] _ rfl (l':=Pn p.m gb F::T3 gb (WV S.W f n)::G) (by exact AU) (by exact Ba) (by exact AU) ⟨rfl,WW hW Af,t6 f n hu,[],rfl⟩
 ·rintro D c pre l' DB ⟨rfl,rfl⟩;simp only[Ae,Ag];refine Aj ?_;exact AV [D] _ rfl (l':=Pn p.m gb F::T3 gb (WV S.W f n)::G) (by exact AU) (by exact Ba) (by exact AU) ⟨rfl,WW hW Af,t6 f n hu,[],rfl⟩
instance{f n:Int}:EK prog F C b p 138 [pV p.m,.int .i64 f,.int .i64 n] k S k (iV (YK S.W f n).1) {S with W:=(YK S.W f n).2}:=⟨λs G h=>mi h f n⟩
theorem AaP{α:Type}: ∀(D:List α),D.length=8-> ∃a b c d e f g i,D=[a,b,c,d,e,f,g,i]
 |[a,b,c,d,e,f,g,i],_=>⟨a,b,c,d,e,f,g,i,rfl⟩
abbrev w8C(B:Nat)(ws:A4):Bg:=(B,.cells (toArray (ws.map Bc)) 254 (0,0))
def IsWd(W:A4)(f:Int)(sl:Value)(X:Ad):Prop:=if 0<=f/\f<nF W then∃B,sl= .slice (some ⟨B,0,none⟩) 8 8/\X=[w8C B ((W.drop (8*f.toNat)).take 8)] else sl= .slice none 0 0/\X=[]
theorem aT(h:IsK F C k S p s)(f:Int):Fn prog 87 [pV p.m,.int .i64 f] (Aw b p s S G) λv l'=> ∃sl X e,v= .tuple #[sl,iV e]/\IsWd S.W f sl X/\l'=X++Aw b p s S G:=by
 obtain⟨gb,f1,f2,hW,hu,hM⟩:=h.mem;have m1:Pn p.m gb F∈Aw b p s S G:=mM (λ_ h=>h) _ (by rw[hM];simp);have m2:T3 gb S.W∈Aw b p s S G:=mM (λ_ h=>h) _ (by rw[hM];simp);have eF:nF S.W=F:=by unfold nF;omega
 refine AO func87 ntmps87 λE=>?_;by_cases h1:f<0
 ·refine Aj ?_;exact BD [] rfl .refl (by exact Ba) ⟨_,[],_,rfl,by unfold IsWd;rw[eF,Ab Af];exact⟨rfl,rfl⟩,rfl⟩
 by_cases h2:f>=F
 ·refine Aj ?_;exact BD [] rfl .refl (by exact Ba) ⟨_,[],_,rfl,by unfold IsWd;rw[eF,Ab Af];exact⟨rfl,rfl⟩,rfl⟩
 obtain⟨f,rfl⟩: ∃q:Nat,f=q:=⟨f.toNat,Af⟩
 obtain⟨D,hD⟩: ∃D,(S.W.drop (8*f)).take 8=D:=⟨_,rfl⟩
 have hx:(toArray (S.W.map Bc)).extract (f*8) (f*8+8)=toArray (D.map Bc):=by rw[<-hD];simp only[E5,Cp];rw[G4,List.map_drop,CG,MH f 8]
 obtain⟨d0,d1,d2,d3,d4,d5,d6,d7,rfl⟩:=AaP D (by rw[<-hD];simp;omega);simp only[AJ,CQ] at hx;refine Aj ?_;refine Be (Dt (n:=8) rfl m2 (by simp;omega) hx) ?_;refine AQ λB=>?_;refine Be (mf rfl) ?_;refine Aj ?_;exact BD [] rfl .refl (by exact Ba) ⟨_,[w8C B [d0,d1,d2,d3,d4,d5,d6,d7]],_,rfl,by unfold IsWd;rw[eF,Ac Af];exact⟨B,rfl,by rw[AY,hD]⟩,rfl⟩
end
def G1(va:Int):Int×Int:=if va>=32768 then(0,3) else(va/64,0)
theorem ic(va:Int)(a0:0<=va)(a1:va<18446744073709551616)(l:Ad):Fn prog 257 [Bc va] l λv l'=>v= .tuple #[iV (G1 va).1,iV (G1 va).2]/\l'=l:=by
 unfold G1;refine AO func257 ntmps257 λE=>?_;by_cases h:va>=32768
 ·rw[Ac h];exact E4
 ·rw[Ab h];exact E4
theorem aU(pg lv:Int)(l:Ad):Fn prog 373 [.int .i64 pg,.int .i64 lv] l λv l'=>v=iV (rc pg lv)/\l'=l:=by
 unfold rc;refine AO func373 ntmps373 λE=>?_;by_cases hb:pg<0\/pg>=512\/lv<1\/lv>3
 ·rw[Ac hb];by_cases h1:pg<0<;>by_cases h2:pg>=512<;>by_cases h3:lv<1<;>by_cases h4:lv>3;all_goals first
   |(exfalso;omega)
   |(refine Aj ?_
     exact Bb .refl ⟨rfl,rfl⟩)
 rw[Ab hb];obtain rfl|rfl|rfl:lv=1\/lv=2\/lv=3:=by omega
 ·refine Aj ?_;refine H9 3 ?_;refine Aj ?_;refine E8 ?_;refine Aj ?_;refine E8 ?_;refine Aj ?_;refine Bb .refl ⟨?_,rfl⟩;simp[Jv];omega
 ·refine Aj ?_;refine H9 3 ?_;refine Aj ?_;refine E8 ?_;refine Aj ?_;refine Bb .refl ⟨?_,rfl⟩;simp[Jv]
 ·refine Aj ?_;refine H9 3 ?_;refine Aj ?_;refine Bb .refl ⟨?_,rfl⟩;simp[Jv]
instance{pg lv:Int}{l:Ad}:QF prog 373 [.int .i64 pg,.int .i64 lv] l (iV (rc pg lv)):=⟨λl _=>aU pg lv l⟩
theorem YP(w a n v:Nat)(hw:w<18446744073709551616)(h1:1<=n)(h2:n<=63)(h3:a+n<=64)(hv:v<2^n)(l:Ad):
 Fn prog 333 [.int .u64 (w:Nat),.int .i64 (a:Nat),.int .i64 (n:Nat),.int .u64 (v:Nat)] l λr l'=>r= .tuple #[.int .u64 (Po w a n v:Nat),.int .i64 0]/\l'=l:=by
 have zB:v<18446744073709551616:=Ev hv (CT (n:=2) Af (show n<=64 by omega));have hf:KY v ((n:Nat):Int)=true:=by rw[Yr zB Af];exact Av hv
 have e1:IntKind.u64.wrap (((2^n-1:Nat):Int)*2^a)=(((2^n-1)*2^a:Nat):Int):=by rw[show(2:Int)^a=((2^a:Nat):Int) by simp,<-Kb,Vq (Qi h3)]
 have e2:IntKind.u64.wrap (((v:Nat):Int)*2^a)=((v*2^a:Nat):Int):=by rw[show(2:Int)^a=((2^a:Nat):Int) by simp,<-Kb,Vq (dB h3 hv)]
 refine AO func333 ntmps333 λE=>?_;refine gz ?_;refine Be (AL rfl rfl λl2 _=>Yu a n h1 h3 l2) ?_;refine gz ?_;refine Be (AL rfl rfl λl2 _=>Qh v zB n l2) ?_;rw[hf];refine gz ?_;refine Be (AL rfl rfl λl2 _=>VH n h1 h2 l2) ?_;refine gz ?_;refine Be (Tj (n:=a) (i:=((2^n-1:Nat):Int)) rfl rfl (by show a<=64;omega)) ?_;rw[e1];refine Be (kZ rfl rfl hw (Qi h3)) ?_;refine gz ?_;refine Be (Tj (n:=a) (i:=((v:Nat):Int)) rfl rfl (by show a<=64;omega)) ?_;rw[e2];refine Be (AdI rfl rfl (Et Ka hw) (dB h3 hv)) ?_;rw[qL hw h3 hv];exact E4
end Go.Proofs.YtlifcingifodfaaGreat
