/- Laws that the statement's proof leans on (joined out of several texts). -/
import Derived.Test.YtlkgekpmileobaaGreatGb9
import Derived.Test.YtlkgekpmileobaaGreatGb6
import Derived.Test.YtlkgekpmileobaaGreatGb8
import Derived.Test.YtlkgekpmileobaaGreatGb28
import Derived.Test.YtlkgekpmileobaaGreatGb29
import Derived.Test.YtlkgekpmileobaaGreatGb10
import Derived.Test.YtlkgekpmileobaaGreatGb17
import Derived.Test.YtlkgekpmileobaaGreatGb7
import Derived.Laws.Externs
set_option linter.unusedVariables false
set_option linter.unusedSimpArgs false
namespace Go.Proofs.YtlkgekpmileobaaGreat
open Tryz
open List(toArray replicate)
open Go.RowKit
variable{fr fr' fr0:Fr}{l R G:List Ab}{W:List Int}{i N e f k n b F C k' j:Nat}{P:Program}{ro:Option Nat}{E:World}{ops:Array Oper}{Q:Exit->Act->World->Prop}{tbl:List (List Nat)}{sp:Fd}{ds:List Deferred}{v:Value}{rest pl:List BC}{ty t:TypeId}{pos:String}{K:Value->List Ab->Prop}{x:Operand}{vs cs:List Value}{g:Option (Nat×Bool)}{S:KT}{p:RP}{s:RL}{ki:IntKind}
section
theorem Zv{sw:Sw}{l':List Ab}(p:l.Perm l')(h:PlanS P ro N E ops Q R tbl sw sp pl fr ds l):PlanS P ro N E ops Q R tbl sw sp pl fr ds l':=by
 induction h generalizing l' with
 |nil h=>exact .nil (Jh (.of_perm p.symm) h)
 |q h1 h2 h3 _ ih=>exact .q h1 h2 h3 (ih p)
 |gq h1 h2 h3 h4 h5 h6 _ ih=>exact .gq h1 h2 h3 h4 h5 h6 (ih p)
 |gs h1 h2 h3 h4 h5 h6 h7 h8 h9 _ ih=>exact .gs h1 h2 h3 h4 h5 h6 (λc hc=>p.mem_iff.1 (h7 c hc)) h8 (λhk x hx ha c hc=>p.mem_iff.1 (h9 hk x hx ha c hc)) (ih p)
 |gu h1 h2 h3 h4 h5 h7 h8 h9 _ ih=>exact .gu h1 h2 h3 h4 h5 (λc hc=>p.mem_iff.1 (h7 c hc)) h8 (λhk x hx ha c hc=>p.mem_iff.1 (h9 hk x hx ha c hc)) (ih p)
 |e h1 h2 h3 h4 h5 h6 ih=>exact .e (OpE.re (.of_perm p.symm) h1 λv l2 hk=>⟨l2,.refl,hk⟩) h2 h3 h4 h5 h6
 |ge h1 h2 h3 h4 h5 h6 h7 h8 h9 ih=>exact .ge (OpE.re (.of_perm p.symm) h1 λv l2 hk=>⟨l2,.refl,hk⟩) h2 h3 h4 h5 h6 h7 h8 h9
 |weak h1 _ ih=>exact .weak h1 (ih p)
 |sq h1 h2 h3 h4 _ ih=>exact .sq h1 (λc hc=>p.mem_iff.1 (h2 c hc)) h3 h4 (ih p)
 |alt oo K rf sf h1 h2 h3 h4 ih=>exact .alt oo K rf sf h1 (λj hj=>⟨OpE.re (.of_perm p.symm) (h2 j hj).1 λv l2 hk=>⟨l2,.refl,hk⟩,(h2 j hj).2⟩) h3 h4
 |alt2 h1 h2 h3 h4 _ _ ih1 ih2=>exact .alt2 h1 h2 h3 h4 (ih1 p) (ih2 p)
abbrev TN:=Nat×Oper×(Value->List Ab->Prop)
abbrev SH(x:TN):BC:=(x.1,false,x.2.1)
def FLe(fr fr':Fr):Prop:= ∀d v,BP fr d=some v->BP fr' d=some v
structure IsAd(P:Program)(ro:Option Nat)(N:Nat)(fr:Fr)(l:List Ab)(x:TN):Prop where
 law': ∀l',(∀c,c∈l->c∈l')->OpE P ro N fr l' x.2.1 λv l2=> ∃cs,x.2.2 v cs/\l2=cs++l'
 guard:x.2.1.guard=none
 dst: ∃d,x.2.1.dst=some d/\Nat.blt d N=true/\BP fr d=none
theorem OpE.le{o:Oper}(h:FLe fr fr')(ho:OpE P ro N fr l o K):OpE P ro N fr' l o K:=⟨ho.nodef,λE a W hf hs=>ho.val E a W (hf.sub h) hs⟩
theorem OpQ.le{fr fr':Fr}{l:List Ab}{o:Oper}{v:Value}(h:FLe fr fr')(ho:OpQ P ro N fr l o v):OpQ P ro N fr' l o v:=⟨λl' hl=>(ho.run l' hl).le h⟩
theorem IsAd.law{x:TN}(h:IsAd P ro N fr l x)(fr':Fr)(l':List Ab)(h1:FLe fr fr')(h2: ∀c,c∈l->c∈l'):OpE P ro N fr' l' x.2.1 λv l2=> ∃cs,x.2.2 v cs/\l2=cs++l':=(h.law' l' h2).le h1
def AddK:List TN->Fr->List Ab->(Fr->List Ab->Prop)->Prop
 |[],fr,l,k=>k fr l
 |x::xs,fr,l,k=> ∀v cs,x.2.2 v cs->AddK xs (Hn x.2.1.dst v fr) (cs++l) k
theorem AddK.mono{k k':Fr->List Ab->Prop}(h: ∀fr l,k fr l->k' fr l): ∀{xs:List TN} {fr:Fr} {l:List Ab},AddK xs fr l k->AddK xs fr l k'
 |[],_,_,hk=>h _ _ hk
 |x::xs,_,_,hk=>λv cs hx=>AddK.mono h (hk v cs hx)
def rx(k:Fr->List Ab->Prop):Prop:= ∀fr fr' l l',FLe fr fr'->l.Perm l'->k fr l->k fr' l'
theorem GP{d:Nat}:BP (Hn (some d) v fr) e=if d=e then some v else BP fr e:=by
 show(bif Nat.beq d e then some v else BP fr e)=_;by_cases h:d=e
 ·subst h;simp
 ·rw[Ac h];have:Nat.beq d e=false:=by cases hb:Nat.beq d e;rfl;exact absurd (E8 hb) h
  rw[this];rfl
theorem FLe.put(h:FLe fr fr')(d:Option Nat)(v:Value):FLe (Hn d v fr) (Hn d v fr'):=by
 cases d with
 |none=>exact h
 |some d=>intro e u hu;rw[GP] at hu⊢;split at hu<;>simp_all [FLe]
theorem AddK.inv{k:Fr->List Ab->Prop}(hk:rx k): ∀{xs:List TN} {fr fr':Fr} {l l':List Ab},FLe fr fr'->l.Perm l'->AddK xs fr l k->AddK xs fr' l' k
 |[],_,_,_,_,h1,h2,h=>hk _ _ _ _ h1 h2 h
 |x::xs,_,_,_,_,h1,h2,h=>λv cs hx=>AddK.inv hk (h1.put _ _) (h2.append_left cs) (h v cs hx)
theorem Wh{d:Nat}(h:d≠e)(u v:Value)(fr:Fr):FLe (Hn (some d) u (Hn (some e) v fr)) (Hn (some e) v (Hn (some d) u fr)):=by
 intro k w hw;simp only[GP] at hw⊢;by_cases h1:d=k
 ·subst h1;rw[Ae rfl] at hw;rw[Ac (Gn h),Ae rfl];exact hw
 ·rw[Ac h1] at hw;rw[Ac h1];exact hw
theorem AddK.first{k:Fr->List Ab->Prop}(hk:rx k){a:TN}{da:Nat}(ha:a.2.1.dst=some da): ∀{xs:List TN} {fr:Fr} {l:List Ab},(∀x,x∈xs-> ∃d,x.2.1.dst=some d/\d≠da)->AddK (xs++[a]) fr l k->AddK (a::xs) fr l k
 |[],_,_,_,h=>h
 |x::xs,fr,l,hx,h=>λv cs hv u us hu=>by
  have h1:=AddK.first hk ha (λy hy=>hx y (An _ hy)) (h u us hu) v cs hv;obtain⟨d,hd,hne⟩:=hx x Ak;refine AddK.inv hk ?_ ?_ h1
  ·rw[hd,ha];exact Wh (Gn hne) _ _ _
  ·exact Ay cs us l
theorem Zw{sp:Fd}{ds:List Deferred}{rest:List BC}: ∀(xs:List TN) {fr0 fr:Fr} {l0 l:List Ab},FLe fr0 fr->(∀c,c∈l0->c∈l)->(∀x,x∈xs->IsAd P ro N fr0 l0 x)->(xs.map λx=>x.2.1.dst).Nodup->(∀x,x∈xs-> ∀d,x.2.1.dst=some d->BP fr0 d=none)->(∀c,c∈R->c∈l0)->(∀x,x∈sp-> ∀c,c∈x.2->c∈l0)->
 AddK xs fr l (λfr' l'=>PlanS P ro N E ops Q R tbl none sp rest fr' ds l')->PlanS P ro N E ops Q R tbl none sp (xs.map SH++rest) fr ds l
 |[],_,_,_,_,_,_,_,_,_,_,_,h=>h
 |x::xs,fr0,fr,l0,l,h1,h2,hx,hn,hf,hR,hS,h=>by
  have hI:=hx x Ak;obtain⟨d,hd,hb,hfd⟩:=hI.dst;refine .e (hI.law fr l h1 h2) hI.guard (by rw[hd];exact hb) ?_ ?_ ?_
  ·rintro v l' ⟨cs,_,rfl⟩ c hc;exact Aa _ (h2 _ (hR c hc))
  ·rintro v l' ⟨cs,_,rfl⟩ y hy _ c hc;exact Aa _ (h2 _ (hS y hy c hc))
  ·rintro v l' ⟨cs,hk,rfl⟩;refine Zw xs (fr0:=fr0) ?_ (λc hc=>Aa _ (h2 c hc)) (λy hy=>hx y (An _ hy)) (AM.1 hn).2 (λy hy=>hf y (An _ hy)) hR hS (h v cs hk);intro e u hu;show BP (Hn x.2.1.dst v fr) e=_;rw[hd,GP]
   split
   ·rename_i e1;subst e1;rw[hfd] at hu;cases hu
   ·exact h1 e u hu
abbrev iM(x:Nat×Oper):BC:=(x.1,true,x.2)
def QK(P:Program)(ro:Option Nat)(N:Nat)(R:List Ab):List (Nat×Oper)->Fr->(Fr->Prop)->Prop
 |[],fr,k=>k fr
 |x::xs,fr,k=> ∃v d,OpQ P ro N fr R x.2 v/\x.2.guard=none/\x.2.dst=some d/\Nat.blt d N=true/\QK P ro N R xs ((d,v)::fr) k
theorem QK.plan{sw:Sw}{sp:Fd}{ds:List Deferred}{rest:List BC}{l:List Ab}: ∀{qs:List (Nat×Oper)} {fr:Fr},QK P ro N R qs fr (λfr'=>PlanS P ro N E ops Q R tbl sw sp rest fr' ds l)->PlanS P ro N E ops Q R tbl sw sp (qs.map iM++rest) fr ds l
 |[],_,h=>h
 |x::qs,fr,h=>by obtain⟨v,d,h1,h2,h3,h4,h5⟩:=h;exact .q h1 h2 (by rw[h3];exact h4) (by rw[h3];exact QK.plan h5)
theorem QK.mono{k k':Fr->Prop}(h: ∀fr,k fr->k' fr): ∀{qs:List (Nat×Oper)} {fr:Fr},QK P ro N R qs fr k->QK P ro N R qs fr k'
 |[],_,hk=>h _ hk
 |x::qs,_,⟨v,d,h1,h2,h3,h4,h5⟩=>⟨v,d,h1,h2,h3,h4,QK.mono h h5⟩
theorem QK.le{k:Fr->Prop}(hk: ∀fr fr',FLe fr fr'->k fr->k fr'): ∀{qs:List (Nat×Oper)} {fr fr':Fr},FLe fr fr'->QK P ro N R qs fr k->QK P ro N R qs fr' k
 |[],_,_,h,hq=>hk _ _ h hq
 |x::qs,_,_,h,⟨v,d,h1,h2,h3,h4,h5⟩=>⟨v,d,h1.le h,h2,h3,h4,QK.le hk (h.put (some d) v) h5⟩
theorem FLe.low{d:Nat}(h1:FLe fr0 fr)(hd:BP fr0 d=none):FLe fr0 (Hn (some d) v fr):=λe u hu=>by
 rw[GP]
 split
 ·rename_i e1;subst e1;rw[hd] at hu;cases hu
 ·exact h1 e u hu
theorem QK.low{fr0:Fr}{k:Fr->Prop}: ∀{qs:List (Nat×Oper)} {fr:Fr},(∀x,x∈qs-> ∀d,x.2.dst=some d->BP fr0 d=none)->FLe fr0 fr->QK P ro N R qs fr k->QK P ro N R qs fr (λfr2=>FLe fr0 fr2/\k fr2)
 |[],_,_,h,hk=>⟨h,hk⟩
 |x::qs,_,hq,h,⟨v,d,h1,h2,h3,h4,h5⟩=>⟨v,d,h1,h2,h3,h4,QK.low (λy hy=>hq y (An _ hy)) (h.low (hq x Ak d h3)) h5⟩
theorem QK.first{k:Fr->List Ab->Prop}(hk:rx k){a:TN}{da:Nat}(ha:a.2.1.dst=some da): ∀{qs:List (Nat×Oper)} {fr:Fr} {l:List Ab},BP fr da=none->(∀x,x∈qs->x.2.dst≠some da)->QK P ro N R qs fr (λfr'=>AddK [a] fr' l k)->AddK [a] fr l (λfr' l'=>QK P ro N R qs fr' (λfr2=>k fr2 l'))
 |[],_,_,_,_,h=>h
 |x::qs,fr,l,hn,hx,⟨v,d,h1,h2,h3,h4,h5⟩=>by
  have hne:d≠da:=λe=>hx x Ak (by rw[h3,e]);intro u us hu;show QK P ro N R (x::qs) (Hn a.2.1.dst u fr) _;rw[ha];refine⟨v,d,h1.le ?_,h2,h3,h4,?_⟩
  ·intro e w hw;rw[GP]
   split
   ·rename_i e1;subst e1;rw[hn] at hw;cases hw
   ·exact hw
  ·have h6:=QK.first hk ha (fr:=(d,v)::fr) (by show BP (Hn (some d) v fr) da=none;rw[GP,Ac hne];exact hn) (λy hy=>hx y (An _ hy)) h5 u us hu;have h7:QK P ro N R qs (Hn a.2.1.dst u ((d,v)::fr)) (λfr2=>k fr2 (us++l)):=h6;rw[ha] at h7;exact QK.le (λfr fr' h h'=>hk _ _ _ _ h (.refl _) h') (Wh (Gn hne) u v fr) h7
def UL(ops:Array Oper)(tbl:List (List Nat))(qs:List BC)(a:BC)(rest:List BC):List BC->Bool
 |[]=>FI ops tbl none rest
 |x::xs=>x.1 !=a.1&&FI ops tbl (some (xs.map λy=>(y.1,a.1))) (xs++(qs++a::rest))&&FI ops tbl none (x::xs++(qs++rest))&&UL ops tbl qs a rest xs
theorem bF{a:BC}(xs:List TN):Sy (some (xs.map λy=>(y.1,a.1))) (xs.map SH++rest)=true:=by show(xs.map λy=>(y.1,a.1)).all _=true;rw[A6];intro p hp;obtain⟨y,hy,rfl⟩:=Au.1 hp;rw[GU];exact⟨SH y,Ai _ (List.mem_map_of_mem hy),by simp⟩
theorem AddK.snoc{a:TN}{k:Fr->List Ab->Prop}: ∀{xs:List TN} {fr:Fr} {l:List Ab},AddK xs fr l (λfr' l'=>AddK [a] fr' l' k)->AddK (xs++[a]) fr l k
 |[],_,_,h=>h
 |x::xs,_,_,h=>λv cs hv=>AddK.snoc (h v cs hv)
theorem AddK.none'{fr0:Fr}{da:Nat}: ∀{xs:List TN} {fr:Fr} {l:List Ab} {k:Fr->List Ab->Prop},BP fr da=none->(∀x,x∈xs-> ∃d,x.2.1.dst=some d/\d≠da)->AddK xs fr l k->AddK xs fr l (λfr' l'=>BP fr' da=none/\k fr' l')
 |[],_,_,_,h,_,hk=>⟨h,hk⟩
 |x::xs,fr,l,k,h,hx,hk=>λv cs hv=>by obtain⟨d,hd,hne⟩:=hx x Ak;exact AddK.none' (fr0:=fr0) (by rw[hd,GP,Ac hne];exact h) (λy hy=>hx y (An _ hy)) (hk v cs hv)
theorem fD{qs:List (Nat×Oper)}{a:TN}{l0:List Ab}(hR: ∀c,c∈R->c∈l0)(hS: ∀x,x∈sp-> ∀c,c∈x.2->c∈l0)(ha:IsAd P ro N fr0 l0 a){da:Nat}(hda:a.2.1.dst=some da)(hq: ∀x,x∈qs->x.2.dst≠some da)(hqf: ∀x,x∈qs-> ∀d,x.2.dst=some d->BP fr0 d=none): ∀(xs:List TN) {fr:Fr} {l:List Ab},FLe fr0 fr->BP fr da=none->(∀c,c∈l0->c∈l)->(∀x,x∈xs->IsAd P ro N fr0 l0 x)->((xs++[a]).map λx=>x.2.1.dst).Nodup->UL ops tbl (qs.map iM) (SH a) rest (xs.map SH)=true->
 AddK xs fr l (λfr1 l1=>QK P ro N R qs fr1 λfr2=>AddK [a] fr2 l1 (λfr' l'=>PlanS P ro N E ops Q R tbl none sp rest fr' ds l'))->PlanS P ro N E ops Q R tbl (some (xs.map λx=>(x.1,a.1))) sp (xs.map SH++(qs.map iM++SH a::rest)) fr ds l:=by
 have hInv:rx (λfr' l'=>PlanS P ro N E ops Q R tbl none sp rest fr' ds l'):=λfr fr' l l' h1 h2 h=>Zv h2 (.weak h1 h);obtain⟨da',hda',hba,hfa⟩:=ha.dst;obtain rfl:da=da':=by rw[hda] at hda';cases hda';rfl
 have low: ∀{fr:Fr} {d:Nat} {v:Value},FLe fr0 fr->BP fr0 d=none->FLe fr0 (Hn (some d) v fr):=λ{fr d v} h1 hd=>h1.low hd;intro xs
 induction xs with
 |nil=>
  intro fr l h1 h0 h2 hx hn hok hk;refine QK.plan (QK.mono ?_ (QK.low hqf h1 hk))
  ·rintro fr2 ⟨hl2,hk2⟩;have ho:=ha.law fr2 l hl2 h2;refine .alt (λ_=>a.2.1) (λ_ v l2=> ∃cs,a.2.2 v cs/\l2=cs++l) (λ_=>rest) (λ_=>none) (λj hj=>?_) (λj hj=>⟨ho,by rw[ha.guard];rfl,by rw[hda];exact hba⟩) (λj hj=>?_) λj hj=>?_
   ·rcases hj with rfl|⟨h,_⟩
    ·exact⟨.refl _,hok,rfl⟩
    ·simp[NA] at h
   ·rintro v l' ⟨cs,_,rfl⟩;exact⟨λc hc=>Aa _ (h2 _ (hR c hc)),λy hy _ c hc=>Aa _ (h2 _ (hS y hy c hc))⟩
   ·rintro v l' ⟨cs,hv,rfl⟩;exact hk2 v cs hv
 |cons x xs ih=>
  intro fr l h1 h0 h2 hx hn hok hk;have hI:=hx x Ak;obtain⟨d,hd,hb,hfd⟩:=hI.dst;simp only[AJ,UL,AX,bne_iff_ne,ne_eq] at hok;obtain⟨⟨⟨hne,hp1⟩,hp2⟩,hok⟩:=hok;have hcand: ∀j,NB tbl (some ((x::xs).map λx=>(x.1,a.1))) x.1 (xs.map SH++(qs.map iM++SH a::rest)) j->j=x.1\/j=a.1:=λj hj=>by
   rcases hj with h|⟨h,_⟩
   ·exact .inl h
   ·simp only[NA,Iu,Au,Prod.mk.injEq] at h;obtain⟨y,_,_,h⟩:=h;exact .inr h.symm
  have hna: ∀y,y∈x::xs-> ∃d,y.2.1.dst=some d/\d≠da:=λy hy=>by obtain⟨d',hd',_⟩:=(hx y hy).dst;refine⟨d',hd',λe=>?_⟩;rw[Ap,Bs] at hn;exact hn.2.2 y.2.1.dst (Au.2 ⟨y,hy,rfl⟩) a.2.1.dst (Au.2 ⟨a,Ak,rfl⟩) (by rw[hd',hda,e])
  refine .alt (λk=>if k=x.1 then x.2.1 else a.2.1) (λk v l2=>if k=x.1 then∃cs,x.2.2 v cs/\l2=cs++l else∃cs,a.2.2 v cs/\l2=cs++l) (λk=>if k=x.1 then xs.map SH++(qs.map iM++SH a::rest) else(x::xs).map SH++(qs.map iM++rest)) (λk=>if k=x.1 then some (xs.map λx=>(x.1,a.1)) else none) (λk hk=>?_) (λk hk=>?_) (λk hk=>?_) λk hk=>?_;all_goals rcases hcand k hk with h|h
  ·subst h;simp only[CT];exact⟨.refl _,by rw[CD] at hp1;exact hp1,bF (a:=SH a) xs⟩
  ·subst h;simp only[Ac (Gn hne)];refine⟨?_,hp2,rfl⟩;show(SH a::((x::xs).map SH++(qs.map iM++rest))).Perm ((x::xs).map SH++(qs.map iM++SH a::rest));rw[<-Al,<-Al];exact AH.symm
  ·subst h;simp only[CT];exact⟨hI.law fr l h1 h2,by rw[hI.guard];rfl,by rw[hd];exact hb⟩
  ·subst h;simp only[Ac (Gn hne)];exact⟨ha.law fr l h1 h2,by rw[ha.guard];rfl,by rw[hda];exact hba⟩
  ·subst h;simp only[CT];rintro v l' ⟨cs,_,rfl⟩;exact⟨λc hc=>Aa _ (h2 _ (hR c hc)),λy hy _ c hc=>Aa _ (h2 _ (hS y hy c hc))⟩
  ·subst h;simp only[Ac (Gn hne)];rintro v l' ⟨cs,_,rfl⟩;exact⟨λc hc=>Aa _ (h2 _ (hR c hc)),λy hy _ c hc=>Aa _ (h2 _ (hS y hy c hc))⟩
  ·subst h;simp only[CT];rintro v l' ⟨cs,hv,rfl⟩;rename_i hk0;obtain⟨d',hd',hne'⟩:=hna x Ak;exact ih (by rw[hd];exact low h1 hfd) (by rw[hd',GP,Ac hne'];exact h0) (λc hc=>Aa _ (h2 c hc)) (λy hy=>hx y (An _ hy)) (AM.1 hn).2 hok (hk0 v cs hv)
  ·subst h;simp only[Ac (Gn hne)];rintro v l' ⟨cs,hv,rfl⟩;rename_i hk0;rw[Ap,Bs] at hn;refine Zw (x::xs) (by rw[hda];exact low h1 hfa) (λc hc=>Aa _ (h2 c hc)) hx hn.1 (λy hy d hd=>by obtain⟨d',hd',_,h⟩:=(hx y hy).dst;rw[hd] at hd';cases hd';exact h) hR hS ?_;have h8:=AddK.mono (λfr l h=>QK.first hInv hda h.1 hq h.2) (AddK.none' (fr0:=fr0) h0 hna hk0);have hInv2:rx (λfr' l'=>QK P ro N R qs fr' λfr2=>PlanS P ro N E ops Q R tbl none sp rest fr2 ds l'):=λfr fr' l l' h1 h2 h=>QK.le (λ_ _ h h'=> .weak h h') h1 (QK.mono (λ_ h=>Zv h2 h) h);have h9:=AddK.first hInv2 hda hna (AddK.snoc h8) v cs hv;exact AddK.mono (λ_ _ h=>QK.plan h) h9
def AllAd(P:Program)(ro:Option Nat)(N:Nat)(fr:Fr)(l:List Ab):List TN->Prop
 |[]=>True
 |x::xs=>IsAd P ro N fr l x/\AllAd P ro N fr l xs
theorem AllAd.mem{fr:Fr}{l:List Ab}: ∀{xs:List TN},AllAd P ro N fr l xs-> ∀x,x∈xs->IsAd P ro N fr l x
 |[],_,x,hx=>by cases hx
 |y::ys,h,x,hx=>by
  rcases Aq.1 hx with rfl|hx
  ·exact h.1
  ·exact AllAd.mem h.2 x hx
def sQ:List (Option Nat)->Bool
 |[]=>true
 |x::xs=>!xs.contains x&&sQ xs
theorem Wi: ∀{xs:List (Option Nat)},sQ xs=true->xs.Nodup
 |[],_=>List.nodup_nil
 |x::xs,h=>by simp only[sQ,AX,Ex,List.contains_eq_mem,HL] at h;exact AM.2 ⟨h.1,Wi h.2⟩
def RR(fr:Fr):List (Option Nat)->Bool
 |[]=>true
 |some d::r=>(BP fr d).isNone&&RR fr r
 |none::r=>RR fr r
theorem Kz{fr:Fr}: ∀{xs:List (Option Nat)},RR fr xs=true-> ∀d,some d∈xs->BP fr d=none
 |[],_,d,h=>by cases h
 |some e::r,h,d,hd=>by
  simp only[RR,AX,Option.isNone_iff_eq_none] at h;rcases Aq.1 hd with h2|h2
  ·cases h2;exact h.1
  ·exact Kz h.2 d h2
 |none::r,h,d,hd=>by
  rcases Aq.1 hd with h2|h2
  ·cases h2
  ·exact Kz (xs:=r) h d h2
theorem km{L:List (Nat×Nat)}(xs:List TN)(qs:List (Nat×Oper))(a:TN)(da:Nat)(hL:xs.map (λx=>(x.1,a.1))=L)(hpl:xs.map SH++(qs.map iM++SH a::rest)=pl)(hda:a.2.1.dst=some da)(hR: ∀c,c∈R->c∈l)(hS: ∀x,x∈sp-> ∀c,c∈x.2->c∈l)(hx:AllAd P ro N fr l xs)(ha:IsAd P ro N fr l a)(hn:sQ ((xs++[a]).map λx=>x.2.1.dst)=true)(hok:UL ops tbl (qs.map iM) (SH a) rest (xs.map SH)=true)
 (hqd:(qs.all λx=>x.2.dst !=some da)=true)(hqf:RR fr (some da::qs.map λx=>x.2.dst)=true)
 (hk:AddK xs fr l (λfr1 l1=>QK P ro N R qs fr1 λfr2=>AddK [a] fr2 l1 (λfr' l'=>PlanS P ro N E ops Q R tbl none sp rest fr' ds l'))):PlanS P ro N E ops Q R tbl (some L) sp pl fr ds l:=by
 subst hL hpl;exact fD hR hS ha hda (λx hx=>by simpa using A6.1 hqd x hx) (λx hx d hd=>Kz hqf d (An _ (Au.2 ⟨x,hx,hd⟩))) xs (λ_ _ h=>h) (Kz hqf da Ak) (λ_ h=>h) hx.mem (Wi hn) hok hk
variable{d:Nat}{aft:Array Edge}
theorem Nq{xs:List Operand}{at_:Array TypeId}(hx:ev fr x=some (.func (.func f) #[] #[]))(hy:PX fr xs=some vs)[c:EN P f](h: ∀l',(∀c,c∈l->c∈l')->Fn P f vs l' λv l2=> ∃cs,K v cs/\l2=cs++l')(hb:Nat.blt d N=true)(hf:BP fr d=none):IsAd P ro N fr l (i,⟨some d,.call {callee:= .value x,args:=xs.toArray,argTypes:=at_},ty,pos,aft,none⟩,K):=
 ⟨λl' h2=>Az hx hy (h l' h2),rfl,d,rfl,hb,hf⟩
theorem fE{zs:List Value}[c:ZV P t zs](hb:Nat.blt d N=true)(hf:BP fr d=none):IsAd P ro N fr l (i,⟨some d,.alloc t,ty,pos,aft,none⟩,λv cs=> ∃b,v= .pointer (some ⟨b,0,none⟩)/\cs=[(b,.cells zs.toArray t (0,0))]):=
 ⟨λl' h2=>e_alloc.mono (by rintro v l2 ⟨b,_,h3,h4⟩;exact⟨_,⟨b,h3,rfl⟩,h4⟩),rfl,d,rfl,hb,hf⟩
end
section
end
section
variable{d:Option Nat}{aft:Array Edge}
end
set_option maxRecDepth 20000
def ko(gb:Nat)(W:List Int)(a:Int):Value:= .pointer (if MY W a=0 then some ⟨gb,(a/8).toNat,none⟩ else none)
theorem Zx(b gb F:Nat)(W:List Int)(h1:F<=64)(hW:W.length=F*8)(a:Int)(a0:0<=a)(a1:a<18446744073709551616)(l:List Ab)(hm:NW b gb F∈l):Fn prog 259 [pV b,Ba a] l λv l'=>v= .tuple #[ko gb W a,.int .i64 (MY W a)]/\l'=l:=by
 unfold ko MY;rw[hW];refine AO func259 ntmps259 λE=>?_;by_cases h8:a%8=0
 case neg=>rw[Ae h8];exact Es
 rw[Ac (FC h8)];by_cases hr:a>=((F*8:Nat):Int)*8
 ·rw[Ae hr];exact Es
 rw[Ac hr];refine Aj ?_;refine A8 .refl ⟨?_,rfl⟩;exact BM (λx=>Value.tuple #[.pointer (some ⟨gb,x,none⟩),.int .i64 0]) Af
theorem ry(h:i<W.length):(toArray (W.map Ba))[i]?=some (Ba (W.getD i 0)):=by rw[AE,A0,Am h,List.getD,Am h];rfl
theorem my{a:Int}(a0:0<=a)(hc:MY W a=0):(a/8).toNat<W.length:=by
 unfold MY at hc
 (repeat' split at hc)<;>omega
theorem Zy(b gb F:Nat)(W:List Int)(h1:F<=64)(hW:W.length=F*8)(a:Int)(a0:0<=a)(a1:a<18446744073709551616)(l:List Ab)(m1:NW b gb F∈l)(m2:So gb W∈l):Fn prog 203 [pV b,Ba a] l λv l'=>v= .tuple #[Ba (Np W a).1,iV (Np W a).2]/\l'=l:=by
 unfold Np;refine AO func203 ntmps203 λE=>?_;refine Aj ?_;refine Bc (AK rfl rfl λl2 hl2=>Zx b gb F W h1 hW a a0 a1 l2 (hl2 _ m1)) ?_;unfold ko;by_cases hc:MY W a=0
 ·have hv:=ry (my a0 hc);rw[Ae hc,Ae hc,hc];refine Aj ?_;exact qr
 ·rw[Ac hc,Ac hc];refine Aj ?_;exact qr
section
theorem bG(h:IsK F C k S p s)(a:Int)(a0:0<=a)(a1:a<18446744073709551616)(l:List Ab)(hl: ∀c,c∈Av b p s S G->c∈l):Fn prog 203 [pV p.m,Ba a] l λv l'=>v= .tuple #[Ba (Np S.W a).1,iV (Np S.W a).2]/\l'=l:=by obtain⟨gb,f1,f2,hW,hu,hM⟩:=h.mem;exact Zy p.m gb F S.W f2 hW a a0 a1 l (mM hl _ (by rw[hM];simp)) (mM hl _ (by rw[hM];simp))
theorem rz(W:List Int)(i:Nat)(v:Int):(toArray (W.map Ba)).setIfInBounds i (Ba v)=toArray ((W.set i v).map Ba):=by simp[GX]
theorem bH{v:Int}(h: ∀w,w∈W->JW w)(hv:JW v): ∀w,w∈W.set i v->JW w:=λw hw=>by
 rcases Ek hw with h1|h1
 ·exact h w h1
 ·rw[h1];exact hv
theorem uN{x:Value}{W':List Int}(hK:IsK F C k S p s)(hk:k'<=k)(h: ∀gb G,S.W.length=F*8->F<=64->(∀w,w∈S.W->JW w)->Fn prog f vs (NW p.m gb F::So gb S.W::G) λv l'=>v=x/\W'.length=F*8/\(∀w,w∈W'->JW w)/\ ∃X,l'=X++NW p.m gb F::So gb W'::G):Fn prog f vs (Av b p s S G) (KK F C b p k' x {S with W:=W'} G):=by obtain⟨gb,f1,f2,hW,hu,hM⟩:=hK.mem;exact Fn.re (.of_perm (by unfold Av;rw[hM];exact Cc)) (h gb (Co b p::As.asA p.n S.N::(s.C++(s.A++(s.H++(s.T++(s.Q++(s.E++(s.V++G)))))))) hW f2 hu) λv l' ⟨h1,h2,h3,X,h4⟩=>⟨Av b p {s with M:=[NW p.m gb F,So gb W']} {S with W:=W'} (X++G),by rw[h4];unfold Av;exact AY [],h1,{s with M:=[NW p.m gb F,So gb W']},_,{hK.mono hk with mem:=⟨gb,f1,f2,h2,h3,rfl⟩},⟨X,rfl⟩,rfl⟩
theorem XZ(hK:IsK F C k S p s)(a v:Int)(a0:0<=a)(a1:a<18446744073709551616)(hv:JW v):Fn prog 202 [pV p.m,Ba a,Ba v] (Av b p s S G) (KK F C b p k (iV (bD S.W a v).1) {S with W:=(bD S.W a v).2} G):=by
 refine uN hK (A5 _) λgb G hW f2 hu=>?_;have hA:=Zx p.m gb F S.W f2 hW a a0 a1;refine AO func202 ntmps202 λE=>?_;refine Aj ?_;refine Bc (AK rfl rfl λl2 hl2=>hA l2 (hl2 _ (.head _))) ?_;unfold ko bD;by_cases hc:MY S.W a=0
 ·have hlt:=my a0 hc;rw[Ae hc,Ae hc,hc];refine Aj ?_;refine LV (C7 (l':=NW p.m gb F::So gb (S.W.set (a/8).toNat v)::G) rfl rfl rfl (by rw[rz];exact .there .here) (by simpa using hlt)) rfl rfl ?_;rintro _ _ ⟨rfl,rfl⟩;refine Aj ?_;exact By [] rfl .refl (by exact A7) ⟨rfl,by simpa using hW,bH hu hv,[],rfl⟩
 ·rw[Ac hc,Ac hc];refine Aj ?_;exact A8 .refl ⟨rfl,hW,hu,[],rfl⟩
theorem PG(b gb F:Nat)(l:List Ab)(m1:NW b gb F∈l):Fn prog 345 [pV b] l λv l'=>v=iV (F:Nat)/\l'=l:=by refine AO func345 ntmps345 λE=>?_;refine Aj ?_;exact qr
end
def UM(W:List Int)(f j:Nat):List Int:=W.take (8*f)++(replicate (8*j) 0++W.drop (8*(f+j)))
theorem rC(W:List Int)(f:Nat):UM W f 0=W:=by simp[UM]
theorem UN(hW:W.length=n*8)(h:f+j<=n):(UM W f j).length=n*8:=by unfold UM;simp;omega
theorem mz(f j:Nat)(h: ∀w,w∈W->JW w): ∀w,w∈UM W f j->JW w:=λw hw=>by
 rcases AF.1 hw with hw|hw
 ·exact h w (GE hw)
 rcases AF.1 hw with hw|hw
 ·rw[(List.mem_replicate.1 hw).2];exact⟨by decide,by decide⟩
 ·exact h w (List.mem_of_mem_drop hw)
theorem kq(hW:W.length=n*8)(h:f+j<n):CO (toArray ((UM W f j).map Ba)) ((f+j)*8) z8=toArray ((UM W f (j+1)).map Ba):=by
 have e1:(UM W f j).map Ba=(W.take (8*f)++replicate (8*j) 0).map Ba++((W.drop (8*(f+j))).take 8).map Ba++(W.drop (8*(f+j)+8)).map Ba:=by rw[<-Ap,<-Ap];congr 1;unfold UM;rw[Al,Al,<-JI,Cb]
 have e2:(UM W f (j+1)).map Ba=(W.take (8*f)++replicate (8*j) 0).map Ba++z8++(W.drop (8*(f+j)+8)).map Ba:=by rw[show z8=(replicate 8 (0:Int)).map Ba from rfl,<-Ap,<-Ap];congr 1;unfold UM;rw[Al,Al,show 8*(j+1)=8*j+8 by omega,<-Is,Al];rfl
 rw[e1,e2,show(f+j)*8=((W.take (8*f)++replicate (8*j) 0).map Ba).length by simp;omega];exact Ar.setFrom_mid _ _ _ _ (by simp;omega)
section
set_option maxHeartbeats 1000000 in
theorem fF(hK:IsK F C k S p s)(f n:Int):Fn prog 139 [pV p.m,.int .i64 f,.int .i64 n] (Av b p s S G) (KK F C b p k (iV (jV S.W f n).1) {S with W:=(jV S.W f n).2} G):=by
 refine uN hK (A5 _) λgb G hW f2 hu=>?_;unfold jV;rw[show nF S.W=F by unfold nF;omega];refine AO func139 ntmps139 λE=>?_;refine Aj ?_;refine AS (DZ rfl rfl) ?_;rintro _ _ ⟨b4,_,rfl,rfl⟩;refine AS (DZ rfl rfl) ?_;rintro _ _ ⟨b5,_,rfl,rfl⟩;refine Aj ?_;refine Ce [] 27 _ ?_ (hR:=(λ_ h=>h));by_cases hbad:f<0\/f>=F\/n<0\/n>F-f
 ·rw[Ae hbad];by_cases h1:f<0<;>by_cases h2:f>=F<;>by_cases h3:n<0<;>by_cases h4:n>F-f;all_goals first
   |(exfalso;omega)
   |(refine BI ?_
     refine Aj ?_;exact A8 (.drop (.drop .refl)) ⟨rfl,hW,hu,[],rfl⟩)
 rw[Ac hbad];obtain⟨f,rfl⟩: ∃q:Nat,f=q:=⟨f.toNat,Af⟩
 obtain⟨n,rfl⟩: ∃q:Nat,n=q:=⟨n.toNat,Af⟩
 refine BI ?_;refine Aj ?_;refine AS (Az rfl rfl (VF p.m f _)) ?_;rintro _ _ ⟨B1,B2,rfl,rfl⟩;refine Aj ?_;refine CU (α:=Nat) (ps:=[42,43]) (lb:=[.pointer (some ⟨B1,0,none⟩),.pointer (some ⟨B2,0,none⟩)]) rfl (Tg B1 B2 p.m gb F f Af f2) (λ_=>rfl) rfl
  (λpre l=>pre.length<=n/\l=[BG B1 f,Vd B2 p.m,BG b5 n,BG b4 f,NW p.m gb F,So gb (UM S.W f pre.length)])
  (λc pre l=>c= .exit 1/\l=[BG B1 f,Vd B2 p.m,BG b5 n,BG b4 f,NW p.m gb F,So gb (UM S.W f n)])
  _ G (λpre l2 X2 hX h=>by rw[h.2];exact⟨Ai _ (by exact BO),Ai _ (by exact BO),Ai _ (by exact BO)⟩) (by rw[Eh,rC];exact AR) ⟨Bf _,rfl⟩ ?_ ?_ ?_
 ·rintro E r0 rec pre x l' T ⟨fn,tmps,D,rfl⟩ hT ⟨hj,rfl⟩ hsp;obtain⟨j,hj2⟩: ∃j,pre.length=j:=⟨_,rfl⟩
  obtain⟨hx,hxF⟩:x=f+j/\x<F:=by have h3:=Iv hsp (i:=j) (by simp;omega);rw[Ha Af] at h3;have h4:=hsp.length_le;simp[hj2] at h3 h4;omega
  subst hx;rw[hj2] at hj⊢;simp only[Du,Ad,Ag];refine Aj ?_;refine Cp (by exact Dw) ?_;refine Aj ?_;by_cases hb:((f+j:Nat):Int)-f>=n
  ·have:j=n:=by omega
   subst this;refine Aj ?_;refine Et [BG B1 f,Vd B2 p.m,BG b5 j,BG b4 f,NW p.m gb F,So gb (UM S.W f j)] (by exact AR) ⟨rfl,rfl⟩
  ·refine Aj ?_;refine Bc (F5 (zs:=z8) (cs:=z8) rfl rfl) ?_;refine qP ?_;refine LV (Ee (cs:=toArray ((UM S.W f j).map Ba)) (ws:=toArray z8) (n:=8) (off:=(f+j)*8) (l':=BG B1 f::Vd B2 p.m::BG b5 n::BG b4 f::NW p.m gb F::So gb (UM S.W f (j+1))::_) rfl rfl rfl (by simp[Value.oneCell']) (by rw[kq hW hxF];exact Dw) (by simp[UN hW (by omega:f+j<=F)];omega)) rfl rfl ?_;rintro _ _ ⟨rfl,rfl⟩;refine Aj ?_;exact B9 [BG B1 f,Vd B2 p.m,BG b5 n,BG b4 f,NW p.m gb F,So gb (UM S.W f (j+1))] .refl ⟨by simp;omega,by simp[hj2]⟩
 ·rintro D xs l' rfl ⟨hj,rfl⟩;rw[List.length_range'] at hj⊢;have:F-f=n:=by omega
  rw[this];simp only[Ad,Ag];refine Aj ?_;exact AU [D] _ rfl (l':=NW p.m gb F::So gb (UM S.W f n)::G) (by exact AR) (by exact A7) (by exact AR) ⟨rfl,UN hW Af,mz f n hu,[],rfl⟩
 ·rintro D c pre l' hsp ⟨rfl,rfl⟩;simp only[Ad,Ag];refine Aj ?_;exact AU [D] _ rfl (l':=NW p.m gb F::So gb (UM S.W f n)::G) (by exact AR) (by exact A7) (by exact AR) ⟨rfl,UN hW Af,mz f n hu,[],rfl⟩
instance{f n:Int}:EK prog F C b p 139 [pV p.m,.int .i64 f,.int .i64 n] k S k (iV (jV S.W f n).1) {S with W:=(jV S.W f n).2}:=⟨λs G h=>fF h f n⟩
end
def Gr(va:Int):Int×Int:=if va>=32768 then(0,3) else(va/64,0)
theorem bI(va:Int)(a0:0<=va)(a1:va<18446744073709551616)(l:List Ab):Fn prog 258 [Ba va] l λv l'=>v= .tuple #[iV (Gr va).1,iV (Gr va).2]/\l'=l:=by
 unfold Gr;refine AO func258 ntmps258 λE=>?_;by_cases h:va>=32768
 ·rw[Ae h];exact Es
 ·rw[Ac h];exact Es
theorem X5(pg lv:Int)(l:List Ab):Fn prog 374 [.int .i64 pg,.int .i64 lv] l λv l'=>v=iV (jW pg lv)/\l'=l:=by
 unfold jW;refine AO func374 ntmps374 λE=>?_;by_cases hb:pg<0\/pg>=512\/lv<1\/lv>3
 ·rw[Ae hb];by_cases h1:pg<0<;>by_cases h2:pg>=512<;>by_cases h3:lv<1<;>by_cases h4:lv>3;all_goals first
   |(exfalso;omega)
   |(refine Aj ?_
     exact A8 .refl ⟨rfl,rfl⟩)
 rw[Ac hb];obtain rfl|rfl|rfl:lv=1\/lv=2\/lv=3:=by omega
 ·refine Aj ?_;refine Hb 3 ?_;refine Aj ?_;refine Ew ?_;refine Aj ?_;refine Ew ?_;refine Aj ?_;refine A8 .refl ⟨?_,rfl⟩;simp[Iw];omega
 ·refine Aj ?_;refine Hb 3 ?_;refine Aj ?_;refine Ew ?_;refine Aj ?_;refine A8 .refl ⟨?_,rfl⟩;simp[Iw]
 ·refine Aj ?_;refine Hb 3 ?_;refine Aj ?_;refine A8 .refl ⟨?_,rfl⟩;simp[Iw]
instance{pg lv:Int}{l:List Ab}:QF prog 374 [.int .i64 pg,.int .i64 lv] l (iV (jW pg lv)):=⟨λl _=>X5 pg lv l⟩
set_option maxHeartbeats 400000
theorem Wj(w a n v:Nat)(hw:w<18446744073709551616)(h1:1<=n)(h2:n<=63)(h3:a+n<=64)(hv:v<2^n)(l:List Ab):
 Fn prog 334 [.int .u64 (w:Nat),.int .i64 (a:Nat),.int .i64 (n:Nat),.int .u64 (v:Nat)] l λr l'=>r= .tuple #[.int .u64 (NK w a n v:Nat),.int .i64 0]/\l'=l:=by
 have hv64:v<18446744073709551616:=DY hv (CG (n:=2) Af (show n<=64 by omega));have hf:JQ v ((n:Nat):Int)=true:=by rw[VV hv64 Af];exact At hv
 have e1:IntKind.u64.wrap (((2^n-1:Nat):Int)*2^a)=(((2^n-1)*2^a:Nat):Int):=by rw[show(2:Int)^a=((2^a:Nat):Int) by simp,<-Je,Td (OF h3)]
 have e2:IntKind.u64.wrap (((v:Nat):Int)*2^a)=((v*2^a:Nat):Int):=by rw[show(2:Int)^a=((2^a:Nat):Int) by simp,<-Je,Td (Zi h3 hv)]
 refine AO func334 ntmps334 λE=>?_;refine gz ?_;refine Bc (AK rfl rfl λl2 _=>VY a n h1 h3 l2) ?_;refine gz ?_;refine Bc (AK rfl rfl λl2 _=>OD v hv64 n l2) ?_;rw[hf];refine gz ?_;refine Bc (AK rfl rfl λl2 _=>Tw n h1 h2 l2) ?_;refine gz ?_;refine Bc (Q4 (n:=a) (i:=((2^n-1:Nat):Int)) rfl rfl (by show a<=64;omega)) ?_;rw[e1];refine Bc (eu rfl rfl hw (OF h3)) ?_;refine gz ?_;refine Bc (Q4 (n:=a) (i:=((v:Nat):Int)) rfl rfl (by show a<=64;omega)) ?_;rw[e2];refine Bc (tI rfl rfl (DW Jd hw) (Zi h3 hv)) ?_;rw[jE hw h3 hv];exact Es
section
variable{d:Option Nat}{aft:Array Edge}{y z:Operand}{u w:Value}{m:Nat}{t2 T kt et:TypeId}
theorem X6{ws:List Value}(hx:ev fr x=some (.agg (toArray cs)))(hy:ev fr y=some (.int ki (i:Nat)))[c:AT P t n e k][c2:AG P e k'](hi:i<n)(hw:(cs.drop (i*k)).take k=ws):OpQ P ro N fr R ⟨d,.index t x y,ty,pos,aft,g⟩ (.agg (toArray ws)):=BL rfl λρ l hρ _=>by obtain⟨inf,h1,h2,h3⟩:=Mr c.out;obtain⟨u,inf2,u1,u2,u3,u4⟩:=JJ c2.out;rw[h2] at u3;cases u3;subst hw;simp only[execOp,hρ x _ hx,hρ y _ hy];rw[AB];unfold Instr.index;simp only[asIntOf,AB,Bj];rw[<-AB,BX h1];simp only;rw[Ae ⟨Af,Af⟩,EW h2];have:=Ta (P:=P) (f:=λv=>(pure v:Sem Value)) (l:=l) (Q:=λa l'=>sl P (pure (Next.value a)) l' λnx l'=>nx= .value (.agg (toArray ((cs.drop (i*k)).take k)))/\l'=l) u1 u2 h2 cs (i*k);rw[AB] at this;rw[A3,h3];rw[h3] at this;exact this.2 ⟨rfl,rfl⟩
theorem X9(hx:ev fr x=some (.agg (toArray cs)))(hy:ev fr y=some (.int ki (i:Nat)))[c:AT P t n e k][c2:OC P e](hi:i<n)(hv:cs[i*k]?=some v):OpQ P ro N fr R ⟨d,.index t x y,ty,pos,aft,g⟩ v:=BL rfl λρ l hρ _=>by obtain⟨inf,h1,h2,h3⟩:=Mr c.out;obtain⟨u,inf2,u1,u2,_,_⟩:=K3 c2.out;simp only[execOp,hρ x _ hx,hρ y _ hy];rw[AB];unfold Instr.index;simp only[asIntOf,AB,Bj];rw[<-AB,BX h1];simp only;rw[Ae ⟨Af,Af⟩,EW h2];have:=Tb (P:=P) (f:=λv=>(pure v:Sem Value)) (l:=l) (Q:=λa l'=>sl P (pure (Next.value a)) l' λnx l'=>nx= .value v/\l'=l) u1 u2 cs (i*k) hv;rw[AB] at this;rw[A3,h3];exact this.2 ⟨rfl,rfl⟩
end
end Go.Proofs.YtlkgekpmileobaaGreat
