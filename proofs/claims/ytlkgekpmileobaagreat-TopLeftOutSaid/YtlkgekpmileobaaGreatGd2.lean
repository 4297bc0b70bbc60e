/- Laws that the statement's proof leans on (joined out of several texts). -/
import Derived.Test.YtlkgekpmileobaaGreatGd1
import Derived.OrdersIn
import Derived.Laws.AppendOwn
import Derived.Test.YtlkgekpmileobaaGreatProg
import Derived.KernelRfl
set_option maxHeartbeats 4000000
set_option linter.unusedVariables false
set_option linter.unusedSimpArgs false
namespace Go.Proofs.YtlkgekpmileobaaGreat
open Tryz
open List(toArray replicate)
open Go.RowKit
variable{e k T n j yb N i b cap t m dj kk l0 h0 m0 since:Nat}{tbl:List (List Nat)}{a:Act}{W E:World}{listed:Array Bool}{o oj:Oper}{v u z0:Value}{cs zs vs ws xs news:List Value}{P:Program}{ro:Option Nat}{ds:List Deferred}{R l' F:List Ab}{Φ:Act->Prop}{ct ty t2:TypeId}{fz:Nat×Nat}{os:List Oper}{y z s:Operand}{ops:Array Oper}{Q:Exit->Act->World->Prop}{K:Value->List Ab->Prop}{pos:String}{g:Option (Nat×Bool)}{α:Type}{rs:List ResultVar}{r:List (Nat×Bool)}{p:Prop}{ρ:Operand->Value}{ps:List (Nat×Value)}{cl:Array Value}{lo hi mx:Option Operand}{seen:Array Nat}
abbrev BF:=Nat×Bool×Oper
variable{pl rest:List BF}{x:BF}{pend:List (BF×Value)}
section
def StepV(P:Program)(ro:Option Nat)(ops:Array Oper)(o:Oper)(a:Act)(W:World)(K:Value->World->Prop):Prop:=
 if Region.wanted o (yielded ops a.tmps) then OpVal P ro o a.eval W K else K undef W
theorem StepV.mono{K K':Value->World->Prop}(hk: ∀v w,K v w->K' v w)(h:StepV P ro ops o a W K):StepV P ro ops o a W K':=by
 unfold StepV at*
 split
 ·rename_i hw;rw[Ad hw] at h;exact h.mono hk
 ·rename_i hw;rw[Ac hw] at h;exact hk _ _ h
theorem StepV.put{K:Value->World->Prop}{d:Option Nat}(hs: ∀cs b,o.op≠ .select cs b)(hd: ∀t,d=some t->t∉o.looksAt ops):StepV P ro ops o (a.put d u) W K<->StepV P ro ops o a W K:=by unfold StepV OpVal;rw[wanted_put o a d u hd,execOp_put o hs a d u hd]
theorem StepV.op{K:Value->World->Prop}{next:Act->World->Prop}(hi:ops[i]?=some o)(hd:IG o.op=true)(h:StepV P ro ops o a W K)(hk: ∀v w,K v w->next (a.put o.dst v) w):wpOpIn (Fw ro) 0 P ops Q i next a W:=by
 unfold wpOpIn;rw[hi];unfold StepV at h;simp only
 split
 ·rename_i hw;rw[Ad hw] at h;exact h.wpIn hd hk
 ·rename_i hw;rw[Ac hw] at h;exact⟨λ_ _=>trivial,hk _ _ h⟩
def Fl(tbl:List (List Nat))(j i:Nat):Bool:=((tbl[j]?).getD []).contains i
abbrev Fj:=List (Nat×List Ab)
abbrev Sw:=Option (List (Nat×Nat))
def N7(sw:Sw)(i j:Nat):Bool:=match sw with
 |some L=>L.contains (i,j)
 |none=>false
def LU(P:Program)(ro:Option Nat)(E:World)(ops:Array Oper)(R:List Ab)(tbl:List (List Nat))(sp:Fj)(i:Nat)(o:Oper)(Φ:Act->Prop)(l:List Ab)(K:Act->Value->List Ab->Prop):Prop:=
 ∀a W,Φ a->Sat E l W->StepV P ro ops o a W (λv W'=> ∃l',K a v l'/\(∀c,c∈R->c∈l')/\(∀x,x∈sp->Fl tbl i x.1=false-> ∀c,c∈x.2->c∈l')/\Sat E l' W')
def LV(ops:Array Oper)(tbl:List (List Nat))(sw:Sw)(x y:BF):Bool:=
 (((x.2.1&&x.2.2.apart ops y.2.2)||Fl tbl y.1 x.1)||N7 sw x.1 y.1)&&(x.2.2.after.all λe=>!Region.binds .any e||e.on !=y.1)&&x.1 !=y.1
def Rj(ops:Array Oper)(x:BF):Bool:=(x.2.2.after.all λe=>!Region.binds .any e||(e.on !=x.1&&decide (e.on<ops.size)))&&IG x.2.2.op&&(match x.2.2.op with| .select ..=>false|_=>true)
def FT(ops:Array Oper)(tbl:List (List Nat))(sw:Sw):List BF->Bool
 |[]=>true
 |x::r=>Rj ops x&&r.all (LV ops tbl sw x)&&FT ops tbl sw r
def Td(sw:Sw)(pl:List BF):Bool:=match sw with
 |some L=>L.all λp=>pl.any λx=>x.1==p.1&&!x.2.1
 |none=>true
def N8(tbl:List (List Nat))(sw:Sw)(i:Nat)(rest:List BF)(j:Nat):Prop:=j=i\/(N7 sw i j=true/\(∀y,y∈rest->Fl tbl j y.1=false)/\ ∃y,y∈rest/\y.1=j)
inductive SemPlan(P:Program)(ro:Option Nat)(E:World)(ops:Array Oper)(Q:Exit->Act->World->Prop)(R:List Ab)(tbl:List (List Nat)):Sw->Fj->List BF->(Act->Prop)->List Ab->Prop
 |nil {sw:Sw} {sp:Fj} {Φ:Act->Prop} {l:List Ab}:(∀a W,Φ a->Sat E l W->Q .normal a W)->SemPlan P ro E ops Q R tbl sw sp [] Φ l
 |quiet {sw:Sw} {sp:Fj} {i:Nat} {o:Oper} {rest:List BF} {Φ:Act->Prop} {l:List Ab} (v:Value) (S:List Ab):(∀c,c∈S->c∈l)->(∀a,Φ a-> ∀E' l' W,(∀c,c∈R->c∈l')->(∀c,c∈S->c∈l')->Sat E' l' W->StepV P ro ops o a W (λu W'=>u=v/\Sat E' l' W'))->SemPlan P ro E ops Q R tbl sw ((i,S)::sp) rest (λa'=> ∃a,Φ a/\a'=a.put o.dst v) l->SemPlan P ro E ops Q R tbl sw sp ((i,true,o)::rest) Φ l
 |eff {sw:Sw} {sp:Fj} {i:Nat} {o:Oper} {rest:List BF} {Φ:Act->Prop} {l:List Ab} (oo:Nat->Oper) (K:Nat->Act->Value->List Ab->Prop) (rf:Nat->List BF) (sf:Nat->Sw):
   (∀j,N8 tbl sw i rest j->((j,false,oo j)::rf j).Perm ((i,false,o)::rest)/\((j=i/\sf j=sw/\rf j=rest)\/(FT ops tbl (sf j) (rf j)=true/\Td (sf j) (rf j)=true)))->
   (∀j,N8 tbl sw i rest j->LU P ro E ops R tbl sp j (oo j) Φ l (K j))->
   (∀j,N8 tbl sw i rest j-> ∀a v l',K j a v l'->SemPlan P ro E ops Q R tbl (sf j) sp (rf j) (λa'=>a'=a.put (oo j).dst v) l')->SemPlan P ro E ops Q R tbl sw sp ((i,false,o)::rest) Φ l
def putAll:List (BF×Value)->Act->Act
 |[],a=>a
 |(p,v)::r,a=>putAll r (a.put p.2.2.dst v)
theorem Jk(x y:List (BF×Value))(a:Act):putAll (x++y) a=putAll y (putAll x a):=by
 induction x generalizing a with
 |nil=>rfl
 |cons p x ih=>exact ih _
theorem Rk{x:List (BF×Value)}{d:Option Nat}(h: ∀p,p∈x-> ∀t,d=some t->p.1.2.2.dst≠some t):putAll x (a.put d v)=(putAll x a).put d v:=by
 induction x generalizing a with
 |nil=>rfl
 |cons p x ih=>obtain⟨p,u⟩:=p;simp only[putAll];rw[Act.put_comm a v u (λt ht=>h _ Ak t ht)];exact ih λq hq=>h q (An _ hq)
theorem StepV.putAll{o:Oper}{W:World}{K:Value->World->Prop}(hs: ∀cs b,o.op≠ .select cs b): ∀{x:List (BF×Value)} {a:Act},(∀p,p∈x-> ∀t,p.1.2.2.dst=some t->t∉o.looksAt ops)->(StepV P ro ops o (putAll x a) W K<->StepV P ro ops o a W K)
 |[],a,_=>Do
 |(p,v)::x,a,h=>by simp only[Go.Proofs.YtlkgekpmileobaaGreat.putAll];rw[StepV.putAll hs (λq hq=>h q (An _ hq)),StepV.put hs (λt ht=>h _ Ak t ht)]
def Rl(ops:Array Oper)(tbl:List (List Nat)):Bool:=
 (List.range ops.size).all λj=>((tbl[j]?).getD []).all λi=>match ops[j]? with
   |some o=>o.after.any λe=>Region.binds .any e&&(e.on==i||(decide (e.on<j)&&Fl tbl e.on i))
   |none=>false
def lL(ops:Array Oper)(listed:Array Bool):Prop:= ∀j o,ops[j]?=some o->listed.getD j false=true-> ∀e∈o.after,Region.binds .any e=true->listed.getD e.on false=true
theorem XN(ht:Rl ops tbl=true)(hd:lL ops listed): ∀(n j:Nat) (o:Oper),j<=n->ops[j]?=some o->(∀e∈o.after,Region.binds .any e=true->listed.getD e.on false=true)-> ∀i,Fl tbl j i=true->listed.getD i false=true:=by
 intro n
 induction n with
 |zero=>
  intro j o hj ho hall i hi;obtain rfl:j=0:=by omega
  have hlt:0<ops.size:=(BD.1 ho).1;have h1:=AZ.1 ht 0 (by simpa using hlt);have h2:=AZ.1 h1 i (by simpa[Fl] using hi);rw[ho] at h2;simp only[Array.any_eq_true,AR,D6,I5,Bg] at h2;obtain⟨k,hk,hb,he|⟨hlt',_⟩⟩:=h2
  ·rw[<-he];exact hall _ (KH hk) hb
  ·omega
 |succ n ih=>
  intro j o hj ho hall i hi;have hlt:j<ops.size:=(BD.1 ho).1;have h1:=AZ.1 ht j (by simpa using hlt);have h2:=AZ.1 h1 i (by simpa[Fl] using hi);rw[ho] at h2;simp only[Array.any_eq_true,AR,D6,I5,Bg] at h2;obtain⟨k,hk,hb,he|⟨hlt',ha⟩⟩:=h2
  ·rw[<-he];exact hall _ (KH hk) hb
  ·have hl:=hall _ (KH hk) hb;have hs:o.after[k].on<ops.size:=by omega
   exact ih _ _ Af (CB hs) (hd _ _ (CB hs) hl) i ha
theorem F8(h:Rj ops x=true):(∀e∈x.2.2.after,Region.binds .any e=true->e.on≠x.1/\e.on<ops.size)/\IG x.2.2.op=true/\ ∀cs b,x.2.2.op≠ .select cs b:=by unfold Rj at h;simp only[AR] at h;obtain⟨⟨h1,h2⟩,h3⟩:=h;refine⟨λe he hb=>?_,h2,λcs b hc=>by rw[hc] at h3;cases h3⟩;obtain⟨k,hk,rfl⟩:=Array.getElem_of_mem he;have:=Array.all_eq_true.1 h1 k hk;rw[hb] at this;simpa using this
theorem E1{sw:Sw}{y:BF}(h:LV ops tbl sw x y=true):((x.2.1=true/\x.2.2.apart ops y.2.2=true)\/Fl tbl y.1 x.1=true\/N7 sw x.1 y.1=true)/\(∀e∈x.2.2.after,Region.binds .any e=true->e.on≠y.1)/\x.1≠y.1:=by unfold LV at h;simp only[AR,D6,bne_iff_ne,ne_eq] at h;obtain⟨⟨h1,h2⟩,h3⟩:=h;refine⟨by rcases h1 with(h1|h1)|h1;exact .inl h1;exact .inr (.inl h1);exact .inr (.inr h1),λe he hb=>?_,h3⟩;obtain⟨k,hk,rfl⟩:=Array.getElem_of_mem he;have:=Array.all_eq_true.1 h2 k hk;rw[hb] at this;simpa using this
theorem LW{tbl:List (List Nat)}{sw:Sw}: ∀{l:List BF},FT ops tbl sw l=true->(∀x,x∈l->Rj ops x=true)/\l.Pairwise (λx y=>LV ops tbl sw x y=true)
 |[],_=>⟨by simp,.nil⟩
 |x::r,h=>by simp only[FT,AR] at h;obtain⟨⟨h1,h2⟩,h3⟩:=h;obtain⟨k1,k2⟩:=LW h3;exact⟨λy hy=>by rcases Ap.1 hy with rfl|hy;exact h1;exact k1 y hy,BY.2 ⟨λy hy=>AZ.1 h2 y hy,k2⟩⟩
structure Way(P:Program)(ro:Option Nat)(E:World)(ops:Array Oper)(Q:Exit->Act->World->Prop)(R:List Ab)(tbl:List (List Nat))(sw:Sw)(sp:Fj)(listed:Array Bool)(pend:List (BF×Value))(rest:List BF)(Φ:Act->Prop)(l:List Ab)(a:Act)(W:World):Prop where
 phi:Φ (putAll pend a)
 sub: ∀c,c∈R->c∈l
 sat:Sat E l W
 plan:SemPlan P ro E ops Q R tbl sw sp rest Φ l
 quiet: ∀p1 x v p2,pend=p1++(x,v)::p2->x.2.1=true/\ ∃S,(x.1,S)∈sp/\(∀c,c∈S->c∈l)/\ ∀E' l' W,(∀c,c∈R->c∈l')->(∀c,c∈S->c∈l')->Sat E' l' W->StepV P ro ops x.2.2 (putAll p1 a) W (λu W'=>u=v/\Sat E' l' W')
 size:listed.size=ops.size
 un: ∀i,i<ops.size->(listed.getD i true=false<-> ∃x,x∈pend.map Prod.fst++rest/\x.1=i)
 num: ∀x,x∈pend.map Prod.fst++rest->ops[x.1]?=some x.2.2
 self: ∀x,x∈pend.map Prod.fst++rest->Rj ops x=true
 pairs:(pend.map Prod.fst++rest).Pairwise (λx y=>LV ops tbl sw x y=true)
 swf: ∀x,x∈pend.map Prod.fst++rest-> ∀j,N7 sw x.1 j=true->x.2.1=false
 down:lL ops listed
theorem ZE(h:i<listed.size):listed.getD i true=listed.getD i false:=by simp[Db,CB h]
theorem Way.notAnc{sw:Sw}{sp:Fj}{l:List Ab}(h:Way P ro E ops Q R tbl sw sp listed pend rest Φ l a W)(ht:Rl ops tbl=true)(hr:j∈Region.ready .any ops listed)(hx:x∈pend.map Prod.fst++rest):Fl tbl j x.1=false:=by
 obtain⟨h0,o,ho,hall⟩:=mem_ready.1 hr;cases hc:Fl tbl j x.1
 ·rfl
 ·have h1:=XN ht h.down j j o (A7 _) ho hall x.1 hc;have hlt:x.1<ops.size:=(BD.1 (h.num x hx)).1;have h2:=(h.un x.1 hlt).2 ⟨x,hx,rfl⟩;rw[ZE (by rw[h.size];exact hlt),h1] at h2;cases h2
theorem Te(h:j<listed.size)(d:Bool):(listed.setIfInBounds j true).getD j d=true:=by simp[Db,h]
theorem Way.down'{tbl:List (List Nat)}(hd:lL ops listed)(hsz:listed.size=ops.size)(hr:j∈Region.ready .any ops listed):lL ops (listed.setIfInBounds j true):=by
 obtain⟨h0,o,ho,hall⟩:=mem_ready.1 hr;intro i oi hi hl e he hb;by_cases e1:i=j
 ·subst e1;rw[ho] at hi;cases hi;exact getD_set_true (hall e he hb)
 ·rw[getD_set_ne _ (Ff e1)] at hl;exact getD_set_true (hd i oi hi hl e he hb)
theorem VY{p q:List BF}(hsz:listed.size=ops.size)(hx:x.1<ops.size)(hne: ∀y,y∈p++q->y.1≠x.1)(h: ∀i,i<ops.size->(listed.getD i true=false<-> ∃y,y∈p++x::q/\y.1=i)):
 ∀i,i<ops.size->((listed.setIfInBounds x.1 true).getD i true=false<-> ∃y,y∈p++q/\y.1=i):=by
 intro i hi;by_cases e:i=x.1
 ·subst e;rw[Te (by rw[hsz];exact hx)];constructor
  ·intro h0;cases h0
  ·rintro⟨y,hy,hyi⟩;exact absurd hyi (hne y hy)
 ·rw[getD_set_ne _ (Ff e),h i hi];constructor
  ·rintro⟨y,hy,rfl⟩;refine⟨y,?_,rfl⟩;rcases AE.1 hy with hy|hy
   ·exact Ah _ hy
   ·rcases Ap.1 hy with rfl|hy
    ·exact absurd rfl e
    ·exact Aa _ hy
  ·rintro⟨y,hy,rfl⟩;refine⟨y,?_,rfl⟩;rcases AE.1 hy with hy|hy
   ·exact Ah _ hy
   ·exact Aa _ (An _ hy)
theorem Way.pend_step{sw:Sw}{sp:Fj}{p1 p2:List (BF×Value)}{l:List Ab}(ht:Rl ops tbl=true)(h:Way P ro E ops Q R tbl sw sp listed (p1++(x,v)::p2) rest Φ l a W)(hr:x.1∈Region.ready .any ops listed):
 StepV P ro ops x.2.2 a W (λu W'=>Way P ro E ops Q R tbl sw sp (listed.setIfInBounds x.1 true) (p1++p2) rest Φ l (a.put x.2.2.dst u) W'):=by
 have hxm:x∈(p1++(x,v)::p2).map Prod.fst++rest:=by simp
 have hap: ∀q,q∈p1->q.1.2.2.apart ops x.2.2=true:=by
  intro q hq;have hp:=h.pairs;simp only[Aq,AI,Am,Ae] at hp;have:=(Bm.1 hp).2.2 q.1 (Au.2 ⟨q,hq,rfl⟩) x Ak;rcases(E1 this).1 with⟨_,h1⟩|h1|h1
  ·exact h1
  ·have:=h.notAnc ht hr (x:=q.1) (Ah _ (Au.2 ⟨q,by simp[hq],rfl⟩));rw[this] at h1;cases h1
  ·obtain⟨q1,q2,rfl⟩:=Ga hq;have hqt:=(h.quiet q1 q.1 q.2 (q2++(x,v)::p2) (by simp)).1;have hqf:=h.swf q.1 (Ah _ (Au.2 ⟨q,by simp,rfl⟩)) _ h1;rw[hqt] at hqf;cases hqf
 have hsel:=(F8 (h.self x hxm)).2.2;obtain⟨hxt,S,hSp,hSl,hq⟩:=h.quiet p1 x v p2 rfl;have h1:=hq E l W h.sub hSl h.sat;rw[StepV.putAll hsel (λq hqm t ht'=>(Oper.apart_spec (hap q hqm)).1 t ht')] at h1;refine h1.mono ?_;rintro u W' ⟨rfl,hs'⟩;have hcomm: ∀q1:List (BF×Value),(∀q,q∈q1->q∈p1)->putAll q1 (a.put x.2.2.dst u)=(putAll q1 a).put x.2.2.dst u:=λq1 hq1=>Rk λq hqm t ht' hc=>(Oper.apart_spec (hap q (hq1 q hqm))).2.1 t hc ht';have hlt:x.1<ops.size:=(BD.1 (h.num x hxm)).1;have hsub:((p1++p2).map Prod.fst++rest).Sublist ((p1++(x,u)::p2).map Prod.fst++rest):=by simp only[Aq,AI];exact JK (JK (Em _) (DQ _ _)) (Em _)
 refine⟨?_,h.sub,hs',h.plan,?_,by simpa using h.size,?_,λy hy=>h.num y (hsub.subset hy),λy hy=>h.self y (hsub.subset hy),h.pairs.sublist hsub,λy hy=>h.swf y (hsub.subset hy),Way.down' (tbl:=tbl) h.down h.size hr⟩
 ·have:=h.phi;rw[Jk] at this⊢;rw[hcomm p1 λ_ hq=>hq];exact this
 ·intro q1 y w q2 hsp;rcases List.append_eq_append_iff.1 hsp with⟨m,e1,e2⟩|⟨m,e1,e2⟩
  ·
   subst e1;have hsp':p1++(x,u)::p2=(p1++(x,u)::m)++(y,w)::q2:=by simp[e2]
   obtain⟨k1,k2⟩:=h.quiet _ y w q2 hsp';refine⟨k1,?_⟩;rw[Jk] at k2⊢;rw[hcomm p1 λ_ hq=>hq];exact k2
  ·cases m with
   |nil=>
    simp only[Bf,Ag] at e1 e2;subst e1;have hsp':p1++(x,u)::p2=(p1++[(x,u)])++(y,w)::q2:=by simp[e2]
    obtain⟨k1,k2⟩:=h.quiet _ y w q2 hsp';refine⟨k1,?_⟩;rw[Jk] at k2;rw[hcomm p1 λ_ hq=>hq];exact k2
   |cons z m=>
    simp only[Ae,Cc] at e2;obtain⟨e3,e4⟩:=e2;subst e3;have hsp':p1++(x,u)::p2=q1++(y,w)::(m++(x,u)::p2):=by rw[e1];simp
    obtain⟨k1,S2,k3,k4,k2⟩:=h.quiet _ y w _ hsp';refine⟨k1,S2,k3,k4,λE' l' W2 hR hS2 hs2=>?_⟩;rw[hcomm q1 (λq hq=>by rw[e1];exact Ah _ hq)];have hym:y∈(p1++(x,u)::p2).map Prod.fst++rest:=by rw[e1];simp
    rw[StepV.put (F8 (h.self y hym)).2.2 (λt ht'=>(Oper.apart_spec (hap (y,w) (by rw[e1];simp))).2.2 t ht')];exact k2 E' l' W2 hR hS2 hs2
 ·have hne: ∀y,y∈p1.map Prod.fst++(p2.map Prod.fst++rest)->y.1≠x.1:=by
   intro y hy;have hp:=h.pairs;simp only[Aq,AI,Am,Ae] at hp;rcases AE.1 hy with hy|hy
   ·exact(E1 ((Bm.1 hp).2.2 y hy x Ak)).2.2
   ·exact λe=>(E1 ((BY.1 (Bm.1 hp).2.1).1 y hy)).2.2 e.symm
  have:=VY (p:=p1.map Prod.fst) (q:=p2.map Prod.fst++rest) h.size hlt hne (by simpa using h.un);simpa using this
theorem Way.pass{sw:Sw}{sp:Fj}{l:List Ab}(h:Way P ro E ops Q R tbl sw sp listed pend ((i,true,o)::rest) Φ l a W):
 ∃v Φ' sp',Way P ro E ops Q R tbl sw sp' listed (pend++[((i,true,o),v)]) rest Φ' l a W:=by
 obtain⟨v,S,hSl,hv,hp⟩: ∃v S,(∀c,c∈S->c∈l)/\(∀a,Φ a-> ∀E' l' W,(∀c,c∈R->c∈l')->(∀c,c∈S->c∈l')->Sat E' l' W->StepV P ro ops o a W (λu W'=>u=v/\Sat E' l' W'))/\SemPlan P ro E ops Q R tbl sw ((i,S)::sp) rest (λa'=> ∃a,Φ a/\a'=a.put o.dst v) l:=by
  cases h.plan with
  |quiet v S h1 h2 h3=>exact⟨v,S,h1,h2,h3⟩
 have e:(pend++[((i,true,o),v)]).map Prod.fst++rest=pend.map Prod.fst++(i,true,o)::rest:=by simp
 refine⟨v,_,_,⟨_,h.phi,by rw[Jk];rfl⟩,h.sub,h.sat,hp,?_,h.size,by rw[e];exact h.un,by rw[e];exact h.num,by rw[e];exact h.self,by rw[e];exact h.pairs,by rw[e];exact h.swf,h.down⟩
 ·intro p1 x u p2 hsp;rcases List.append_eq_append_iff.1 hsp with⟨m,e1,e2⟩|⟨m,e1,e2⟩
  ·cases m with
   |nil=>simp only[Ag,Cc,Bf] at e1 e2;obtain⟨e3,_⟩:=e2;cases e3;subst e1;exact⟨rfl,S,Ak,hSl,hv _ h.phi⟩
   |cons z m=>simp at e2
  ·cases m with
   |nil=>simp only[Ag,Cc,Bf] at e1 e2;obtain⟨e3,_⟩:=e2;cases e3;subst e1;exact⟨rfl,S,Ak,hSl,hv _ h.phi⟩
   |cons z m=>simp only[Ae,Cc] at e2;obtain⟨e3,e4⟩:=e2;subst e3;obtain⟨q1,S2,q2,q3,q4⟩:=h.quiet p1 x u m e1;exact⟨q1,S2,An _ q2,q3,q4⟩
theorem Ty{sw sw':Sw}{y:BF}(h:LV ops tbl sw x y=true)(hn:N7 sw x.1 y.1=false):LV ops tbl sw' x y=true:=by
 unfold LV at h⊢;simp only[AR,D6] at h⊢;obtain⟨⟨h1,h2⟩,h3⟩:=h;refine⟨⟨.inl ?_,h2⟩,h3⟩;rcases h1 with h1|h1
 ·exact h1
 ·rw[hn] at h1;cases h1
theorem Tz{sw:Sw}(h:Td sw pl=true)(hs:N7 sw i j=true): ∃x,x∈pl/\x.1=i/\x.2.1=false:=by
 cases sw with
 |none=>cases hs
 |some L=>simp only[N7,IV] at hs;have h1:=AZ.1 h _ hs;obtain⟨x,hx,h2⟩:=Hf.1 h1;simp only[AR,I5,DC] at h2;exact⟨x,hx,h2.1,h2.2⟩
theorem UH: ∀(l:List BF),(l.map (λx:BF=>x.1)).Nodup-> ∀{x y:BF},x∈l->y∈l->x.1=y.1->x=y
 |[],_,_,_,hx,_,_=>by cases hx
 |z::l,h,x,y,hx,hy,e=>by
  rw[AI,AN] at h;rcases Ap.1 hx with h1|h1<;>rcases Ap.1 hy with h2|h2
  ·rw[h1,h2]
  ·exact(h.1 (Au.2 ⟨y,h2,by rw[<-e,h1]⟩)).elim
  ·exact(h.1 (Au.2 ⟨x,h1,by rw[e,h2]⟩)).elim
  ·exact UH l h.2 h1 h2 e
theorem Way.eff_step{sw:Sw}{sp:Fj}{l:List Ab}(ht:Rl ops tbl=true)(h:Way P ro E ops Q R tbl sw sp listed pend ((i,false,o)::rest) Φ l a W)(hr:j∈Region.ready .any ops listed)(hj: ∃x,x∈(i,false,o)::rest/\x.1=j):
 ∃oj,ops[j]?=some oj/\IG oj.op=true/\StepV P ro ops oj a W (λu W'=> ∃sw' rest' Φ' l',Way P ro E ops Q R tbl sw' sp (listed.setIfInBounds j true) pend rest' Φ' l' (a.put oj.dst u) W'/\rest'.length=rest.length):=by
 have hcand:N8 tbl sw i rest j:=by
  obtain⟨x,hx,hxj⟩:=hj;rcases Ap.1 hx with rfl|hx
  ·exact .inl hxj.symm
  ·by_cases hij:j=i
   ·exact .inl hij
   refine .inr ⟨?_,λy hy=>h.notAnc ht hr (x:=y) (by simp[hy]),x,hx,hxj⟩;have hp:=(BY.1 (Bm.1 h.pairs).2.1).1 x hx;rcases(E1 hp).1 with⟨h1,_⟩|h1|h1
   ·cases h1
   ·have:=h.notAnc ht hr (x:=(i,false,o)) (by simp);simp only[hxj] at h1;rw[this] at h1;cases h1
   ·rw[hxj] at h1;exact h1
 obtain⟨oj,Kj,rj,swj,hperm,hok,hst,hpl⟩: ∃(oj:Oper) (Kj:Act->Value->List Ab->Prop) (rj:List BF) (swj:Sw),((j,false,oj)::rj).Perm ((i,false,o)::rest)/\((j=i/\swj=sw/\rj=rest)\/(FT ops tbl swj rj=true/\Td swj rj=true))/\LU P ro E ops R tbl sp j oj Φ l Kj/\ ∀a v l',Kj a v l'->SemPlan P ro E ops Q R tbl swj sp rj (λa'=>a'=a.put oj.dst v) l':=by
  cases h.plan with
  |eff oo K rf sf h1 h2 h3=>exact⟨oo j,K j,rf j,sf j,(h1 j hcand).1,(h1 j hcand).2,h2 j hcand,h3 j hcand⟩
 have hmem: ∀x,x∈pend.map Prod.fst++(j,false,oj)::rj<->x∈pend.map Prod.fst++(i,false,o)::rest:=λx=>by rw[AE,AE,hperm.mem_iff]
 have hxm:(j,false,oj)∈pend.map Prod.fst++(i,false,o)::rest:=(hmem _).1 (by simp);have hsubm: ∀x,x∈pend.map Prod.fst++rj->x∈pend.map Prod.fst++(i,false,o)::rest:=λx hx=>(hmem x).1 (by
  rcases AE.1 hx with hx|hx
  ·exact Ah _ hx
  ·exact Aa _ (An _ hx))
 have hq: ∀q,q∈pend->q.1.2.1=true:=λq hq=>by obtain⟨q1,q2,rfl⟩:=Ga hq;exact(h.quiet q1 q.1 q.2 q2 rfl).1
 have hqs: ∀q,q∈pend-> ∀y,N7 sw q.1.1 y=false:=λq hqm y=>by
  cases hc:N7 sw q.1.1 y with
  |false=>rfl
  |true=>have:=h.swf q.1 (Ah _ (Au.2 ⟨q,hqm,rfl⟩)) _ hc;rw[hq q hqm] at this;cases this
 have hcross: ∀q,q∈pend-> ∀y,y∈(i,false,o)::rest->LV ops tbl sw q.1 y=true:=λq hqm y hy=>(Bm.1 h.pairs).2.2 q.1 (Au.2 ⟨q,hqm,rfl⟩) y hy;have hjr:(j,false,oj)∈(i,false,o)::rest:=hperm.mem_iff.1 (by simp);have hna: ∀q,q∈pend->Fl tbl j q.1.1=false:=λq hq=>h.notAnc ht hr (x:=q.1) (Ah _ (Au.2 ⟨q,hq,rfl⟩));have hap: ∀q,q∈pend->q.1.2.2.apart ops oj=true:=by
  intro q hqm;rcases(E1 (hcross q hqm _ hjr)).1 with⟨_,h1⟩|h1|h1
  ·exact h1
  ·simp only at h1;rw[hna q hqm] at h1;cases h1
  ·rw[hqs q hqm] at h1;cases h1
 have hsel:=(F8 (h.self _ hxm)).2.2;refine⟨oj,h.num _ hxm,(F8 (h.self _ hxm)).2.1,?_⟩;have h1:=hst _ W h.phi h.sat;rw[StepV.putAll hsel (λq hqm t ht'=>(Oper.apart_spec (hap q hqm)).1 t ht')] at h1;refine h1.mono ?_;rintro u W' ⟨l',hk,hR',hsp',hs'⟩;have hp':=hpl _ _ _ hk;have hcomm: ∀q1:List (BF×Value),(∀q,q∈q1->q∈pend)->putAll q1 (a.put oj.dst u)=(putAll q1 a).put oj.dst u:=λq1 hq1=>Rk λq hqm t ht' hc=>(Oper.apart_spec (hap q (hq1 q hqm))).2.1 t hc ht';have hlt:j<ops.size:=(BD.1 (h.num _ hxm)).1;have hnd:(((i,false,o)::rest).map (λx:BF=>x.1)).Nodup:=by rw[DM,Cp];exact(Bm.1 h.pairs).2.1.imp λhp=>(E1 hp).2.2
 have hndj: ∀y,y∈rj->y.1≠j:=by rw[<-(hperm.map (λx:BF=>x.1)).nodup_iff,AI,AN] at hnd;exact λy hy e=>hnd.1 (Au.2 ⟨y,hy,e⟩)
 have hlen:rj.length=rest.length:=by have:=hperm.length_eq;simpa using this
 refine⟨swj,rj,_,l',⟨?_,hR',hs',hp',?_,by simpa using h.size,?_,λy hy=>h.num y (hsubm y hy),λy hy=>h.self y (hsubm y hy),?_,λy hy k hk=>?_,Way.down' (tbl:=tbl) h.down h.size hr⟩,hlen⟩
 ·exact hcomm pend λ_ hq=>hq
 ·intro q1 y w q2 hsp;obtain⟨k1,S2,k3,k4,k2⟩:=h.quiet q1 y w q2 hsp;refine⟨k1,S2,k3,hsp' _ k3 (hna (y,w) (by rw[hsp];simp)),λE' l2 W2 hR hS2 hs2=>?_⟩;rw[hcomm q1 (λq hq=>by rw[hsp];exact Ah _ hq)];have hym:y∈pend.map Prod.fst++(i,false,o)::rest:=by rw[hsp];simp
  rw[StepV.put (F8 (h.self y hym)).2.2 (λt ht'=>(Oper.apart_spec (hap (y,w) (by rw[hsp];simp))).2.2 t ht')];exact k2 E' l2 W2 hR hS2 hs2
 ·have hne: ∀y,y∈pend.map Prod.fst++rj->y.1≠j:=by
   intro y hy;rcases AE.1 hy with hy|hy
   ·obtain⟨q,hqm,rfl⟩:=Au.1 hy;exact(E1 (hcross q hqm _ hjr)).2.2
   ·exact hndj y hy
  refine VY (x:=(j,false,oj)) h.size hlt hne λk hk=>?_;rw[h.un k hk];exact⟨λ⟨x,hx,e⟩=>⟨x,(hmem x).2 hx,e⟩,λ⟨x,hx,e⟩=>⟨x,(hmem x).1 hx,e⟩⟩
 ·obtain⟨p1,p2,p3⟩:=Bm.1 h.pairs;rcases hok with⟨_,rfl,rfl⟩|⟨hok,_⟩
  ·exact h.pairs.sublist (JK (Em _) (DQ _ _))
  ·refine Bm.2 ⟨?_,(LW hok).2,λx hx y hy=>?_⟩
   ·refine List.Pairwise.imp_of_mem (λ{x y} hx hy hxy=>?_) p1;obtain⟨q,hqm,rfl⟩:=Au.1 hx;exact Ty hxy (hqs q hqm _)
   ·obtain⟨q,hqm,rfl⟩:=Au.1 hx;exact Ty (hcross q hqm y (hperm.mem_iff.1 (An _ hy))) (hqs q hqm _)
 ·rcases hok with⟨_,rfl,rfl⟩|⟨_,hin⟩
  ·exact h.swf y (by
    rcases AE.1 hy with hy|hy
    ·exact Ah _ hy
    ·exact Aa _ (An _ hy)) k hk
  ·obtain⟨x,hx,e1,e2⟩:=Tz hin hk;rcases AE.1 hy with hy|hy
   ·exfalso;obtain⟨q,hqm,rfl⟩:=Au.1 hy;exact(E1 (hcross q hqm x (hperm.mem_iff.1 (An _ hx)))).2.2 e1.symm
   ·have hn2:(rj.map (λx:BF=>x.1)).Nodup:=by
     rw[<-(hperm.map (λx:BF=>x.1)).nodup_iff,AI,AN] at hnd;exact hnd.2
    rw[<-UH rj hn2 hx hy e1];exact e2
theorem Way.reach{tbl:List (List Nat)}{sw:Sw}{listed:Array Bool}{l:List Ab}{a:Act}{W:World}{j:Nat}(ht:Rl ops tbl=true)(hr:j∈Region.ready .any ops listed): ∀(rest:List BF) (sp:Fj) (pend:List (BF×Value)) (Φ:Act->Prop),Way P ro E ops Q R tbl sw sp listed pend rest Φ l a W->(∃x,x∈rest/\x.1=j)->
 ∃(o:Oper) (next:Value->World->Prop),ops[j]?=some o/\IG o.op=true/\StepV P ro ops o a W (λu W'=>next u W')/\ ∀u W',next u W'-> ∃sw' sp' pend' rest' Φ' l',Way P ro E ops Q R tbl sw' sp' (listed.setIfInBounds j true) pend' rest' Φ' l' (a.put o.dst u) W'/\pend'.length+rest'.length+1=pend.length+rest.length
 |[],_,_,_,_,⟨x,hx,_⟩=>by cases hx
 |(i,true,o)::rest,sp,pend,Φ,h,⟨x,hx,hxj⟩=>by
  have him:(i,true,o)∈pend.map Prod.fst++(i,true,o)::rest:=by simp
  obtain⟨v,Φ',sp',h'⟩:=h.pass;by_cases hij:i=j
  ·subst hij;refine⟨o,_,h.num _ him,(F8 (h.self _ him)).2.1,Way.pend_step (p1:=pend) (p2:=[]) (x:=(i,true,o)) ht h' hr,λu W' hw=>⟨_,_,_,_,_,_,hw,by simp;omega⟩⟩
  ·have hxr:x∈rest:=by
    rcases Ap.1 hx with rfl|hx
    ·exact absurd hxj hij
    ·exact hx
   obtain⟨o',next,k1,k2,k3,k4⟩:=Way.reach ht hr rest _ _ Φ' h' ⟨x,hxr,hxj⟩;refine⟨o',next,k1,k2,k3,λu W' hw=>?_⟩;obtain⟨sw2,sp2,p',r',Φ2,l2,hw2,hlen⟩:=k4 u W' hw;exact⟨sw2,sp2,p',r',Φ2,l2,hw2,by simp at hlen⊢;omega⟩
 |(i,false,o)::rest,sp,pend,Φ,h,hx=>by obtain⟨oj,k1,k2,k3⟩:=h.eff_step ht hr hx;exact⟨oj,_,k1,k2,k3,λu W' ⟨sw',rest',Φ',l',hw,hl⟩=>⟨_,_,_,_,_,_,hw,by simp;omega⟩⟩
theorem Way.fin{sw:Sw}{sp:Fj}{l:List Ab}(h:Way P ro E ops Q R tbl sw sp listed pend rest Φ l a W)(h0:Region.ready .any ops listed=[]):Q .normal a W:=by
 have hnil:pend=[]/\rest=[]:=by
  have key:pend.map Prod.fst++rest=[]:=by
   cases hpr:pend.map Prod.fst++rest with
   |nil=>rfl
   |cons x r=>
    exfalso;have hxm:x∈pend.map Prod.fst++rest:=by rw[hpr];exact Ak
    have hlt:x.1<ops.size:=(BD.1 (h.num x hxm)).1;have hmem:x.1∈Region.ready .any ops listed:=by
     refine mem_ready.2 ⟨(h.un x.1 hlt).2 ⟨x,hxm,rfl⟩,x.2.2,h.num x hxm,λe he hb=>?_⟩;obtain⟨h1,h2⟩:=(F8 (h.self x hxm)).1 e he hb;cases hg:listed.getD e.on false
     ·exfalso;obtain⟨y,hy,hye⟩:=(h.un e.on h2).1 (by rw[ZE (by rw[h.size];exact h2)];exact hg);have hp:=h.pairs;rw[hpr] at hp hy;rcases Ap.1 hy with rfl|hy
      ·exact h1 hye.symm
      ·exact(E1 ((BY.1 hp).1 y hy)).2.1 e he hb hye.symm
     ·rfl
    rw[h0] at hmem;cases hmem
  have h1:=List.append_eq_nil_iff.1 key;exact⟨List.map_eq_nil_iff.1 h1.1,h1.2⟩
 obtain⟨rfl,rfl⟩:=hnil;cases h.plan with
 |nil h2=>exact h2 a W h.phi h.sat
theorem Way.any{tbl:List (List Nat)}(ht:Rl ops tbl=true): ∀(fuel:Nat) (sw:Sw) (sp:Fj) (listed:Array Bool) (pend:List (BF×Value)) (rest:List BF) (Φ:Act->Prop) (l:List Ab) (a:Act) (W:World),Way P ro E ops Q R tbl sw sp listed pend rest Φ l a W->pend.length+rest.length<=fuel->wpAnyIn (Fw ro) 0 P .any ops Q fuel listed a W:=by
 intro fuel
 induction fuel with
 |zero=>
  intro sw sp listed pend rest Φ l a W h hl;have hp:pend=[]:=FW.1 Af;have hr:rest=[]:=FW.1 Af;subst hp hr;have h0:Region.ready .any ops listed=[]:=by
   cases hrd:Region.ready .any ops listed with
   |nil=>rfl
   |cons j r=>
    exfalso;have hj:j∈Region.ready .any ops listed:=by rw[hrd];exact Ak
    obtain⟨h1,o,ho,_⟩:=mem_ready.1 hj;obtain⟨x,hx,_⟩:=(h.un j (BD.1 ho).1).1 h1;simp at hx
  exact⟨h0,h.fin h0⟩
 |succ fuel ih=>
  intro sw sp listed pend rest Φ l a W h hl;refine⟨λh0=>h.fin h0,λj hj=>?_⟩;obtain⟨h1,o,ho,hall⟩:=mem_ready.1 hj;obtain⟨x,hx,hxj⟩:=(h.un j (BD.1 ho).1).1 h1;rcases AE.1 hx with hxp|hxr
  ·obtain⟨⟨x',v⟩,hm,rfl⟩:=Au.1 hxp;obtain⟨p1,p2,rfl⟩:=Ga hm;simp only at hxj hx;subst hxj;refine StepV.op (h.num x' hx) (F8 (h.self x' hx)).2.1 (h.pend_step ht hj) λu W' hw=>ih _ _ _ _ _ _ _ _ _ hw (by simp at hl⊢;omega)
  ·obtain⟨o',next,k1,k2,k3,k4⟩:=Way.reach ht hj rest _ pend Φ h ⟨x,hxr,hxj⟩;refine StepV.op k1 k2 k3 λu W' hw=>?_;obtain⟨sw2,sp2,p',r',Φ2,l2,hw2,hlen⟩:=k4 u W' hw;exact ih _ _ _ _ _ _ _ _ _ hw2 Af
theorem VZ{fr:Fr}{d:Nat}(hf:FSat N fr a)(hj:ops[j]?=some oj)(hd:oj.dst=some d)(hb:BU fr d=some undef):yielded ops a.tmps j=none:=by have:=hf.at_ d _ hb;simp[yielded,hj,hd,this,undef]
inductive PlanS(P:Program)(ro:Option Nat)(N:Nat)(E:World)(ops:Array Oper)(Q:Exit->Act->World->Prop)(R:List Ab)(tbl:List (List Nat)):Sw->Fj->List BF->Fr->List Deferred->List Ab->Prop
 |nil {sw:Sw} {sp:Fj} {fr:Fr} {ds:List Deferred} {l:List Ab}:CO N E Q .normal fr ds l->PlanS P ro N E ops Q R tbl sw sp [] fr ds l
 |q {sw:Sw} {sp:Fj} {i:Nat} {o:Oper} {v:Value} {rest:List BF} {fr:Fr} {ds:List Deferred} {l:List Ab}:OpQ P ro N fr R o v->o.guard=none->Jr N o.dst=true->PlanS P ro N E ops Q R tbl sw sp rest (HI o.dst v fr) ds l->PlanS P ro N E ops Q R tbl sw sp ((i,true,o)::rest) fr ds l
 |gq {sw:Sw} {sp:Fj} {i j dj:Nat} {o oj:Oper} {b:Bool} {v:Value} {rest:List BF} {fr:Fr} {ds:List Deferred} {l:List Ab}:OpQ P ro N fr R o v->o.guard=some (j,b)->ops[j]?=some oj->oj.dst=some dj->BU fr dj=some (.bool b)->Jr N o.dst=true->PlanS P ro N E ops Q R tbl sw sp rest (HI o.dst v fr) ds l->PlanS P ro N E ops Q R tbl sw sp ((i,true,o)::rest) fr ds l
 |gs {sw:Sw} {sp:Fj} {i j dj:Nat} {o oj:Oper} {b b':Bool} {rest:List BF} {fr:Fr} {ds:List Deferred} {l:List Ab} {k:Bool}:o.guard=some (j,b)->ops[j]?=some oj->oj.dst=some dj->BU fr dj=some (.bool b')->(b'==b)=false->Jr N o.dst=true->(∀c,c∈R->c∈l)->(k=false->sw=none)->(k=false-> ∀x,x∈sp->Fl tbl i x.1=false-> ∀c,c∈x.2->c∈l)->PlanS P ro N E ops Q R tbl sw sp rest (HI o.dst undef fr) ds l->PlanS P ro N E ops Q R tbl sw sp ((i,k,o)::rest) fr ds l
 |gu {sw:Sw} {sp:Fj} {i j dj:Nat} {o oj:Oper} {b:Bool} {rest:List BF} {fr:Fr} {ds:List Deferred} {l:List Ab} {k:Bool}:o.guard=some (j,b)->ops[j]?=some oj->oj.dst=some dj->BU fr dj=some undef->Jr N o.dst=true->(∀c,c∈R->c∈l)->(k=false->sw=none)->(k=false-> ∀x,x∈sp->Fl tbl i x.1=false-> ∀c,c∈x.2->c∈l)->PlanS P ro N E ops Q R tbl sw sp rest (HI o.dst undef fr) ds l->PlanS P ro N E ops Q R tbl sw sp ((i,k,o)::rest) fr ds l
 |e {sp:Fj} {i:Nat} {o:Oper} {K:Value->List Ab->Prop} {rest:List BF} {fr:Fr} {ds:List Deferred} {l:List Ab}:OpE P ro N fr l o K->o.guard=none->Jr N o.dst=true->(∀v l',K v l'->(∀c,c∈R->c∈l'))->(∀v l',K v l'-> ∀x,x∈sp->Fl tbl i x.1=false-> ∀c,c∈x.2->c∈l')->(∀v l',K v l'->PlanS P ro N E ops Q R tbl none sp rest (HI o.dst v fr) ds l')->PlanS P ro N E ops Q R tbl none sp ((i,false,o)::rest) fr ds l
 |ge {sp:Fj} {i j dj:Nat} {o oj:Oper} {b:Bool} {K:Value->List Ab->Prop} {rest:List BF} {fr:Fr} {ds:List Deferred} {l:List Ab}:OpE P ro N fr l o K->o.guard=some (j,b)->ops[j]?=some oj->oj.dst=some dj->BU fr dj=some (.bool b)->Jr N o.dst=true->(∀v l',K v l'->(∀c,c∈R->c∈l'))->(∀v l',K v l'-> ∀x,x∈sp->Fl tbl i x.1=false-> ∀c,c∈x.2->c∈l')->(∀v l',K v l'->PlanS P ro N E ops Q R tbl none sp rest (HI o.dst v fr) ds l')->PlanS P ro N E ops Q R tbl none sp ((i,false,o)::rest) fr ds l
 |weak {sw:Sw} {sp:Fj} {pl:List BF} {fr fr':Fr} {ds:List Deferred} {l:List Ab}:(∀d v,BU fr' d=some v->BU fr d=some v)->PlanS P ro N E ops Q R tbl sw sp pl fr' ds l->PlanS P ro N E ops Q R tbl sw sp pl fr ds l
 |sq {sw:Sw} {sp:Fj} {i:Nat} {o:Oper} {v:Value} {S:List Ab} {rest:List BF} {fr:Fr} {ds:List Deferred} {l:List Ab}:OpQ P ro N fr S o v->(∀c,c∈S->c∈l)->o.guard=none->Jr N o.dst=true->PlanS P ro N E ops Q R tbl sw ((i,S)::sp) rest (HI o.dst v fr) ds l->PlanS P ro N E ops Q R tbl sw sp ((i,true,o)::rest) fr ds l
 |alt {L:List (Nat×Nat)} {sp:Fj} {i:Nat} {o:Oper} {rest:List BF} {fr:Fr} {ds:List Deferred} {l:List Ab} (oo:Nat->Oper) (K:Nat->Value->List Ab->Prop) (rf:Nat->List BF) (sf:Nat->Sw):
   (∀j,N8 tbl (some L) i rest j->((j,false,oo j)::rf j).Perm ((i,false,o)::rest)/\FT ops tbl (sf j) (rf j)=true/\Td (sf j) (rf j)=true)->
   (∀j,N8 tbl (some L) i rest j->OpE P ro N fr l (oo j) (K j)/\P6 ops fr (oo j).guard=some true/\Jr N (oo j).dst=true)->
   (∀j,N8 tbl (some L) i rest j-> ∀v l',K j v l'->(∀c,c∈R->c∈l')/\(∀x,x∈sp->Fl tbl j x.1=false-> ∀c,c∈x.2->c∈l'))->
   (∀j,N8 tbl (some L) i rest j-> ∀v l',K j v l'->PlanS P ro N E ops Q R tbl (sf j) sp (rf j) (HI (oo j).dst v fr) ds l')->PlanS P ro N E ops Q R tbl (some L) sp ((i,false,o)::rest) fr ds l
 |alt2 {i j:Nat} {sp:Fj} {o oj:Oper} {rest rj:List BF} {fr:Fr} {ds:List Deferred} {l:List Ab}:j≠i->((j,false,oj)::rj).Perm ((i,false,o)::rest)->FT ops tbl none rj=true->(∀x,x∈rest->x.1≠i)->PlanS P ro N E ops Q R tbl none sp ((i,false,o)::rest) fr ds l->PlanS P ro N E ops Q R tbl none sp ((j,false,oj)::rj) fr ds l->PlanS P ro N E ops Q R tbl (some [(i,j)]) sp ((i,false,o)::rest) fr ds l
theorem SemPlan.weak{sw:Sw}{sp:Fj}{Φ':Act->Prop}{l:List Ab}(h: ∀a,Φ' a->Φ a)(hp:SemPlan P ro E ops Q R tbl sw sp pl Φ l):SemPlan P ro E ops Q R tbl sw sp pl Φ' l:=by
 induction hp generalizing Φ' with
 |nil hp=>exact .nil λa W ha hs=>hp a W (h a ha) hs
 |quiet v S h0 h1 _ ih=>exact .quiet v S h0 (λa ha=>h1 a (h a ha)) (ih λa' ⟨a,ha,e⟩=>⟨a,h a ha,e⟩)
 |eff oo K rf sf h1 h2 h3 ih=>exact .eff oo K rf sf h1 (λj hj a W ha hs=>h2 j hj a W (h a ha) hs) h3
def SpLe(sp' sp:Fj):Prop:= ∀x,x∈sp'->x∈sp\/x.2=[]
theorem SpLe.none{sp' sp:Fj}(h:SpLe sp' sp)(i:Nat):SpLe ((i,[])::sp') sp:=λx hx=>by
 rcases Ap.1 hx with rfl|hx
 ·exact .inr rfl
 ·exact h x hx
theorem SpLe.one{sp' sp:Fj}(h:SpLe sp' sp)(x:Nat×List Ab):SpLe (x::sp') (x::sp):=λy hy=>by
 rcases Ap.1 hy with rfl|hy
 ·exact .inl Ak
 ·exact(h y hy).imp (An _) id
theorem SemPlan.one{tbl:List (List Nat)}{sw:Sw}{sp:Fj}{i:Nat}{o:Oper}{rest:List BF}{Φ:Act->Prop}{l:List Ab}(hno: ∀j,N7 sw i j=false)(K:Act->Value->List Ab->Prop)(h2:LU P ro E ops R tbl sp i o Φ l K)(h3: ∀a v l',K a v l'->SemPlan P ro E ops Q R tbl sw sp rest (λa'=>a'=a.put o.dst v) l'):SemPlan P ro E ops Q R tbl sw sp ((i,false,o)::rest) Φ l:=by
 have key: ∀j,N8 tbl sw i rest j->j=i:=λj hj=>by
  rcases hj with rfl|⟨h,_⟩
  ·rfl
  ·rw[hno] at h;cases h
 exact .eff (λ_=>o) (λ_=>K) (λ_=>rest) (λ_=>sw) (λj hj=>by obtain rfl:=key j hj;exact⟨.refl _,.inl ⟨rfl,rfl,rfl⟩⟩) (λj hj=>by obtain rfl:=key j hj;exact h2) λj hj=>h3
theorem SemPlan.free{sw:Sw}{sp:Fj}{l:List Ab}{n:Sw}(h:SemPlan P ro E ops Q R tbl n sp pl Φ l):n=none->(∀x,x∈pl-> ∀j,N7 sw x.1 j=false)->SemPlan P ro E ops Q R tbl sw sp pl Φ l:=by
 induction h with
 |nil h=>exact λ_ _=> .nil h
 |quiet v S h0 h1 _ ih=>exact λhn hx=> .quiet v S h0 h1 (ih hn λx hx'=>hx x (An _ hx'))
 |eff oo K rf sf h1 h2 h3 ih=>
  rename_i n sp i o rest Φ l;intro hn hx;subst hn;have hc:N8 tbl none i rest i:= .inl rfl;obtain⟨p1,p2⟩:=h1 i hc;have key: ∀j,N8 tbl sw i rest j->j=i:=λj hj=>by
   rcases hj with rfl|⟨h,_⟩
   ·rfl
   ·rw[hx _ Ak] at h;cases h
  rcases p2 with⟨_,p3,p4⟩|⟨p3,p4⟩
  ·refine .eff oo K rf (λ_=>sw) (λj hj=>?_) (λj hj=>?_) λj hj=>?_;all_goals obtain rfl:=key j hj
   ·exact⟨p1,.inl ⟨rfl,rfl,p4⟩⟩
   ·exact h2 _ hc
   ·exact λa v l' k=>ih _ hc a v l' k p3 λx hx'=>hx x (An _ (by rw[p4] at hx';exact hx'))
  ·refine .eff oo K rf sf (λj hj=>?_) (λj hj=>?_) λj hj=>?_;all_goals obtain rfl:=key j hj
   ·exact⟨p1,.inr ⟨p3,p4⟩⟩
   ·exact h2 _ hc
   ·exact h3 _ hc
theorem XO{fr:Fr}(h1:FSat N fr a)(h:P6 ops fr o.guard=some true):Region.wanted o (yielded ops a.tmps)=true:=by
 rcases Kf h with⟨hg,_⟩|⟨j,b,oj,dj,b',hg,hj,hjd,hb,he⟩
 ·simp[Region.wanted,hg]
 ·have hy:=Ja (ops:=ops) h1 hj hjd hb;simpa[Region.wanted,hg,hy] using he
theorem PlanS.sem{sw:Sw}{sp:Fj}{fr:Fr}{l:List Ab}(h:PlanS P ro N E ops Q R tbl sw sp pl fr ds l): ∀sp',SpLe sp' sp->SemPlan P ro E ops Q R tbl sw sp' pl (λa=>FSat N fr a/\a.defers=ds) l:=by
 have step: ∀{o:Oper} {K:Value->List Ab->Prop} {fr:Fr} {l:List Ab} {sp sp':Fj} {i:Nat} {ds:List Deferred},OpE P ro N fr l o K->(∀a,FSat N fr a->Region.wanted o (yielded ops a.tmps)=true)->(∀v l',K v l'->(∀c,c∈R->c∈l'))->(∀v l',K v l'-> ∀x,x∈sp->Fl tbl i x.1=false-> ∀c,c∈x.2->c∈l')->SpLe sp' sp->LU P ro E ops R tbl sp' i o (λa=>FSat N fr a/\a.defers=ds) l (λa v l'=>(FSat N fr a/\a.defers=ds)/\K v l'):=by
  intro o K fr l sp sp' i ds ho hw hR hS hle a W ⟨h1,h2⟩ hs;unfold StepV;rw[Ad (hw a h1)];refine(ho.val E a W h1 hs).mono λv w ⟨l',k1,k2⟩=>⟨l',⟨⟨h1,h2⟩,k1⟩,hR v l' k1,λx hx ha c hc=>?_,k2⟩
  rcases hle x hx with h|h
  ·exact hS v l' k1 x h ha c hc
  ·rw[h] at hc;cases hc
 induction h with
 |nil h=>exact λsp' _=> .nil λa W ⟨h1,h2⟩ hs=>h.run a W h1 h2 hs
 |q ho hg hd _ ih=>rename_i sw sp i o v rest fr ds l _;intro sp' hle;refine .quiet v [] (by simp) (λa ⟨h1,h2⟩ E' l' W hR _ hs=>?_) ((ih _ (hle.none i)).weak λa' ⟨a,⟨h1,h2⟩,he⟩=>by subst he;exact⟨h1.put v hd,(Es _ _ _).trans h2⟩);unfold StepV;rw[Ad (by simp[Region.wanted,hg])];exact((ho.run l' hR).val E' a W h1 hs).mono λu w ⟨l2,⟨k1,k2⟩,k3⟩=>⟨k1,by rw[<-k2];exact k3⟩
 |gq ho hg hj hjd hb hd _ ih=>rename_i sw sp i j dj o oj b v rest fr ds l _;intro sp' hle;refine .quiet v [] (by simp) (λa ⟨h1,h2⟩ E' l' W hR _ hs=>?_) ((ih _ (hle.none i)).weak λa' ⟨a,⟨h1,h2⟩,he⟩=>by subst he;exact⟨h1.put v hd,(Es _ _ _).trans h2⟩);unfold StepV;have hy:=Ja (ops:=ops) h1 hj hjd hb;rw[Ad (by simp[Region.wanted,hg,hy])];exact((ho.run l' hR).val E' a W h1 hs).mono λu w ⟨l2,⟨k1,k2⟩,k3⟩=>⟨k1,by rw[<-k2];exact k3⟩
 |gs hg hj hjd hb hne hd hR0 hswn hspl _ ih=>
  rename_i sw sp i j dj o oj b b' rest fr ds l k _;intro sp' hle;have hw: ∀a,FSat N fr a->¬Region.wanted o (yielded ops a.tmps)=true:=λa h1=>by have hy:=Ja (ops:=ops) h1 hj hjd hb;simp[Region.wanted,hg,hy];intro e;rw[e] at hne;simp at hne
  cases k with
  |true=>refine .quiet undef [] (by simp) (λa ⟨h1,h2⟩ E' l' W hR _ hs=>?_) ((ih _ (hle.none i)).weak λa' ⟨a,⟨h1,h2⟩,he⟩=>by subst he;exact⟨h1.put undef hd,(Es _ _ _).trans h2⟩);unfold StepV;rw[Ac (hw a h1)];exact⟨rfl,hs⟩
  |false=>
   refine .one (λj=>by rw[hswn rfl];rfl) (λa v l'=>(FSat N fr a/\a.defers=ds)/\v=undef/\l'=l) (λa W ⟨h1,h2⟩ hs=>?_) ?_
   ·unfold StepV;rw[Ac (hw a h1)];refine⟨l,⟨⟨h1,h2⟩,rfl,rfl⟩,hR0,λx hx ha c hc=>?_,hs⟩;rcases hle x hx with h|h
    ·exact hspl rfl x h ha c hc
    ·rw[h] at hc;cases hc
   ·rintro a _ _ ⟨⟨h1,h2⟩,rfl,rfl⟩;exact(ih _ hle).weak λa' he=>by subst he;exact⟨h1.put undef hd,(Es _ _ _).trans h2⟩
 |gu hg hj hjd hb hd hR0 hswn hspl _ ih=>
  rename_i sw sp i j dj o oj b rest fr ds l k _;intro sp' hle;have hw: ∀a,FSat N fr a->¬Region.wanted o (yielded ops a.tmps)=true:=λa h1=>by have hy:=VZ h1 hj hjd hb;simp[Region.wanted,hg,hy]
  cases k with
  |true=>refine .quiet undef [] (by simp) (λa ⟨h1,h2⟩ E' l' W hR _ hs=>?_) ((ih _ (hle.none i)).weak λa' ⟨a,⟨h1,h2⟩,he⟩=>by subst he;exact⟨h1.put undef hd,(Es _ _ _).trans h2⟩);unfold StepV;rw[Ac (hw a h1)];exact⟨rfl,hs⟩
  |false=>
   refine .one (λj=>by rw[hswn rfl];rfl) (λa v l'=>(FSat N fr a/\a.defers=ds)/\v=undef/\l'=l) (λa W ⟨h1,h2⟩ hs=>?_) ?_
   ·unfold StepV;rw[Ac (hw a h1)];refine⟨l,⟨⟨h1,h2⟩,rfl,rfl⟩,hR0,λx hx ha c hc=>?_,hs⟩;rcases hle x hx with h|h
    ·exact hspl rfl x h ha c hc
    ·rw[h] at hc;cases hc
   ·rintro a _ _ ⟨⟨h1,h2⟩,rfl,rfl⟩;exact(ih _ hle).weak λa' he=>by subst he;exact⟨h1.put undef hd,(Es _ _ _).trans h2⟩
 |e ho hg hd hR hS _ ih=>rename_i sp i o K rest fr ds l _;intro sp' hle;refine .one (λ_=>rfl) _ (step ho (λa _=>by simp[Region.wanted,hg]) hR hS hle) ?_;rintro a v l' ⟨⟨h1,h2⟩,k1⟩;exact(ih v l' k1 _ hle).weak λa' he=>by subst he;exact⟨h1.put v hd,(Es _ _ _).trans h2⟩
 |ge ho hg hj hjd hb hd hR hS _ ih=>
  rename_i sp i j dj o oj b K rest fr ds l _;intro sp' hle;refine .one (λ_=>rfl) _ (step ho (λa h1=>by have hy:=Ja (ops:=ops) h1 hj hjd hb;simp[Region.wanted,hg,hy]) hR hS hle) ?_
  rintro a v l' ⟨⟨h1,h2⟩,k1⟩;exact(ih v l' k1 _ hle).weak λa' he=>by subst he;exact⟨h1.put v hd,(Es _ _ _).trans h2⟩
 |weak hw _ ih=>exact λsp' hle=>(ih sp' hle).weak λa ⟨h1,h2⟩=>⟨h1.sub hw,h2⟩
 |sq ho hSl hg hd _ ih=>rename_i sw sp i o v S rest fr ds l _;intro sp' hle;refine .quiet v S hSl (λa ⟨h1,h2⟩ E' l' W hR hS hs=>?_) ((ih _ (hle.one (i,S))).weak λa' ⟨a,⟨h1,h2⟩,he⟩=>by subst he;exact⟨h1.put v hd,(Es _ _ _).trans h2⟩);unfold StepV;rw[Ad (by simp[Region.wanted,hg])];exact((ho.run l' hS).val E' a W h1 hs).mono λu w ⟨l2,⟨k1,k2⟩,k3⟩=>⟨k1,by rw[<-k2];exact k3⟩
 |alt oo K rf sf hpm hop hRS _ ih=>
  rename_i L sp i o rest fr ds l _;intro sp' hle;refine .eff oo (λj a v l'=>(FSat N fr a/\a.defers=ds)/\K j v l') rf sf (λj hj=>⟨(hpm j hj).1,.inr (hpm j hj).2⟩) (λj hj=>?_) λj hj=>?_
  ·obtain⟨ho,hw,_⟩:=hop j hj;exact step ho (λa h1=>XO h1 hw) (λv l' k=>(hRS j hj v l' k).1) (λv l' k=>(hRS j hj v l' k).2) hle
  ·rintro a v l' ⟨⟨h1,h2⟩,k1⟩;exact(ih j hj v l' k1 _ hle).weak λa' he=>by subst he;exact⟨h1.put v (hop j hj).2.2,(Es _ _ _).trans h2⟩
 |alt2 hij hp hpo hni _ _ ih1 ih2=>
  rename_i i j sp o oj rest rj fr ds l _ _;intro sp' hle;have g1:=ih1 sp' hle;have g2:=ih2 sp' hle;have hj: ∀k,N8 tbl (some [(i,j)]) i rest k->k=i\/k=j:=λk hk=>by
   rcases hk with h|⟨h,_⟩
   ·exact .inl h
   ·refine .inr ?_;simpa[N7] using h
  cases g1 with
  |eff oo1 K1 rf1 sf1 a1 a2 a3=>
   cases g2 with
   |eff oo2 K2 rf2 sf2 b1 b2 b3=>
    have ci:N8 tbl none i rest i:= .inl rfl;have cj:N8 tbl none j rj j:= .inl rfl;obtain⟨sw1,c1,c2⟩: ∃sw1,((i=i/\sw1=some [(i,j)]/\rf1 i=rest)\/(FT ops tbl sw1 (rf1 i)=true/\Td sw1 (rf1 i)=true))/\ ∀a v l',K1 i a v l'->SemPlan P ro E ops Q R tbl sw1 sp' (rf1 i) (λa'=>a'=a.put (oo1 i).dst v) l':=by
     rcases(a1 i ci).2 with⟨_,e1,e2⟩|h
     ·refine⟨some [(i,j)],.inl ⟨rfl,rfl,e2⟩,λa v l' k=>?_⟩;have:=a3 i ci a v l' k;rw[e1,e2] at this;rw[e2];refine this.free rfl λx hx k=>?_;have:=hni x hx;simp[N7,this]
     ·exact⟨sf1 i,.inr h,a3 i ci⟩
    obtain⟨d1,d2⟩:FT ops tbl (sf2 j) (rf2 j)=true/\Td (sf2 j) (rf2 j)=true:=by
     rcases(b1 j cj).2 with⟨_,e1,e2⟩|h
     ·rw[e1,e2];exact⟨hpo,rfl⟩
     ·exact h
    refine .eff (λk=>if k=i then oo1 i else oo2 j) (λk=>if k=i then K1 i else K2 j) (λk=>if k=i then rf1 i else rf2 j) (λk=>if k=i then sw1 else sf2 j) (λk hk=>?_) (λk hk=>?_) λk hk=>?_
    ·rcases hj k hk with h|h
     ·subst h;simp only[CT,HF];simp only[HF] at c1;exact⟨(a1 k ci).1,c1⟩
     ·subst h;simp only[Ac hij];exact⟨(b1 k cj).1.trans hp,.inr ⟨d1,d2⟩⟩
    ·rcases hj k hk with h|h
     ·subst h;simp only[CT];exact a2 k ci
     ·subst h;simp only[Ac hij];exact b2 k cj
    ·rcases hj k hk with h|h
     ·subst h;simp only[CT];exact c2
     ·subst h;simp only[Ac hij];exact b3 k cj
inductive Attach(os:List Oper):List (Nat×Bool)->List BF->Prop
 |nil:Attach os [] []
 |cons {i:Nat} {b:Bool} {o:Oper} {r:List (Nat×Bool)} {pl:List BF}:os[i]?=some o->Attach os r pl->Attach os ((i,b)::r) ((i,b,o)::pl)
theorem Attach.spec(h:Attach os r pl):(∀x,x∈pl->os.toArray[x.1]?=some x.2.2)/\pl.map (λx=>x.1)=r.map Prod.fst:=by
 induction h with
 |nil=>exact⟨by simp,rfl⟩
 |cons h1 _ ih=>
  refine⟨λx hx=>?_,by simp[ih.2]⟩;rcases Ap.1 hx with rfl|hx
  ·simpa using h1
  ·exact ih.1 x hx
def HR(os:List Oper):List (Nat×Bool)->List BF
 |[]=>[]
 |(i,b)::r=>match os[i]? with
  |some o=>(i,b,o)::HR os r
  |none=>[]
theorem Attach.fun_eq(h:Attach os r pl):HR os r=pl:=by
 induction h with
 |nil=>rfl
 |cons h1 _ ih=>unfold HR;rw[h1,ih]
def QB(os:List Oper)(plan:List (Nat×Bool))(tbl:List (List Nat))(sw:Sw):Bool:=
 Rl os.toArray tbl&&FT os.toArray tbl sw (HR os plan)&&decide (plan.length<=os.length)&&((List.range os.length).all λi=>(plan.map Prod.fst).contains i)&&Td sw (HR os plan)
def UI(os:List Oper)(plan:List (Nat×Bool))(tbl:List (List Nat)):Bool:=QB os plan tbl none
theorem QC{fr:Fr}{l:List Ab}(plan:List (Nat×Bool))(tbl:List (List Nat))(sw:Sw)(R:List Ab)(hm:P.follows .mixedOrders=true)(hv:QB os plan tbl sw=true)(ha:Attach os plan pl)(hR: ∀c,c∈R->c∈l)
 (h:PlanS P ro N E os.toArray Q R tbl sw [] pl fr ds l):BH P ro N E (.region k os.toArray true) Q fr ds l:=by
 unfold QB at hv;simp only[AR] at hv;obtain⟨⟨⟨⟨ht,hp⟩,hle⟩,hall⟩,hin⟩:=hv;rw[ha.fun_eq] at hp hin;obtain⟨h1,h2⟩:=LW hp;obtain⟨n1,n2⟩:=ha.spec;refine⟨λa W hf hds hs=>wpIn_region_any hm ?_⟩;have hpl:pl.length<=os.toArray.size:=by have h3:=BN List.length n2;simp only[A3] at h3;rw[h3];simpa using hle
 have hnd:(pl.map (λx:BF=>x.1)).Nodup:=by rw[DM,Cp];exact h2.imp λhp=>(E1 hp).2.2
 refine Way.any ht _ sw [] _ [] pl (λa=>FSat N fr a/\a.defers=ds) l a _ ⟨⟨hf,hds⟩,hR,hs.drawn _,h.sem [] (λx hx=>by cases hx),λp1 x v p2 e=>by simp at e,by simp,?_,by simpa using n1,by simpa using h1,by simpa using h2,(λx hx j e=>?_),?_⟩ (by simpa using hpl)
 ·intro i hi;have hi':i<os.length:=by simpa using hi
  have e:(Array.replicate os.toArray.size false).getD i true=false:=by simp[Db,Array.getElem?_replicate,hi']
  rw[e];simp only[CI,Ag,true_iff];have:=AZ.1 hall i (by simpa using hi);rw[<-n2] at this;simp only[IV,Au] at this;exact this
 ·obtain⟨y,hy,e1,e2⟩:=Tz hin e;rw[<-UH pl hnd hy (by simpa using hx) e1];exact e2
 ·intro j o _ hl;exfalso;simp[Db,Array.getElem?_replicate] at hl
  split at hl<;>simp at hl
theorem Ld{fr:Fr}{l:List Ab}(plan:List (Nat×Bool))(tbl:List (List Nat))(R:List Ab)(hm:P.follows .mixedOrders=true)(hv:UI os plan tbl=true)(ha:Attach os plan pl)(hR: ∀c,c∈R->c∈l)
 (h:PlanS P ro N E os.toArray Q R tbl none [] pl fr ds l):BH P ro N E (.region k os.toArray true) Q fr ds l:=QC plan tbl none R hm hv ha hR h
end
variable{sp:Fj}
section
variable{sw:Sw}{fr fr':Fr}{l:List Ab}{k:Bool}
theorem XP(h:CO N E Q .normal fr ds l):PlanS P ro N E ops Q R tbl sw sp [] fr ds l:= .nil h
theorem Ej{d:Nat}(h:OpQ P ro N fr R o v)(hw:o.guard=none)(hd:o.dst=some d)(hb:Nat.blt d N=true)(hk:PlanS P ro N E ops Q R tbl sw sp pl ((d,v)::fr) ds l):PlanS P ro N E ops Q R tbl sw sp ((i,true,o)::pl) fr ds l:=
 .q h hw (by rw[hd];exact hb) (by rw[hd];exact hk)
theorem V0{d:Nat}{b:Bool}(h:OpQ P ro N fr R o v)(hw:o.guard=some (j,b))(hj:ops[j]?=some oj)(hjd:oj.dst=some dj)(hb:BU fr dj=some (.bool b))(hd:o.dst=some d)(hbl:Nat.blt d N=true)(hk:PlanS P ro N E ops Q R tbl sw sp pl ((d,v)::fr) ds l):PlanS P ro N E ops Q R tbl sw sp ((i,true,o)::pl) fr ds l:=
 .gq h hw hj hjd hb (by rw[hd];exact hbl) (by rw[hd];exact hk)
theorem tE{d:Nat}{b b':Bool}(hR: ∀c,c∈R->c∈l)(hw:o.guard=some (j,b))(hj:ops[j]?=some oj)(hjd:oj.dst=some dj)(hb:BU fr dj=some (.bool b'))(hne:(b'==b)=false)(hd:o.dst=some d)(hbl:Nat.blt d N=true)(hk:PlanS P ro N E ops Q R tbl none [] pl ((d,undef)::fr) ds l):PlanS P ro N E ops Q R tbl none [] ((i,k,o)::pl) fr ds l:=
 .gs hw hj hjd hb hne (by rw[hd];exact hbl) hR (λ_=>rfl) (λ_ x hx=>by cases hx) (by rw[hd];exact hk)
theorem CM{d:Nat}(h:OpE P ro N fr l o K)(hw:o.guard=none)(hd:o.dst=some d)(hb:Nat.blt d N=true)(hR: ∀v l',K v l'->(∀c,c∈R->c∈l'))(hk: ∀v l',K v l'->PlanS P ro N E ops Q R tbl none [] pl ((d,v)::fr) ds l'):PlanS P ro N E ops Q R tbl none [] ((i,false,o)::pl) fr ds l:=
 .e h hw (by rw[hd];exact hb) hR (λ_ _ _ x hx=>by cases hx) λv l' hkv=>by rw[hd];exact hk v l' hkv
theorem M2(h:OpE P ro N fr l o K)(hw:o.guard=none)(hd:o.dst=none)(hR: ∀v l',K v l'->(∀c,c∈R->c∈l'))(hk: ∀v l',K v l'->PlanS P ro N E ops Q R tbl none [] pl fr ds l'):PlanS P ro N E ops Q R tbl none [] ((i,false,o)::pl) fr ds l:=
 .e h hw (by rw[hd];rfl) hR (λ_ _ _ x hx=>by cases hx) λv l' hkv=>by rw[hd];exact hk v l' hkv
theorem tF{d:Nat}{b:Bool}(h:OpE P ro N fr l o K)(hw:o.guard=some (j,b))(hj:ops[j]?=some oj)(hjd:oj.dst=some dj)(hb:BU fr dj=some (.bool b))(hd:o.dst=some d)(hbl:Nat.blt d N=true)(hR: ∀v l',K v l'->(∀c,c∈R->c∈l'))(hk: ∀v l',K v l'->PlanS P ro N E ops Q R tbl none [] pl ((d,v)::fr) ds l'):PlanS P ro N E ops Q R tbl none [] ((i,false,o)::pl) fr ds l:=
 .ge h hw hj hjd hb (by rw[hd];exact hbl) hR (λ_ _ _ x hx=>by cases hx) λv l' hkv=>by rw[hd];exact hk v l' hkv
theorem GC{d:Nat}(h:OpE P ro N fr l o K)(hw:o.guard=none)(hd:o.dst=some d)(hb:Nat.blt d N=true)(hR: ∀v l',K v l'->(∀c,c∈R->c∈l'))(hS: ∀v l',K v l'-> ∀x,x∈sp->Fl tbl i x.1=false-> ∀c,c∈x.2->c∈l')(hk: ∀v l',K v l'->PlanS P ro N E ops Q R tbl none sp pl ((d,v)::fr) ds l'):PlanS P ro N E ops Q R tbl none sp ((i,false,o)::pl) fr ds l:=
 .e h hw (by rw[hd];exact hb) hR hS λv l' hkv=>by rw[hd];exact hk v l' hkv
theorem GW(h:OpE P ro N fr l o K)(hw:o.guard=none)(hd:o.dst=none)(hR: ∀v l',K v l'->(∀c,c∈R->c∈l'))(hS: ∀v l',K v l'-> ∀x,x∈sp->Fl tbl i x.1=false-> ∀c,c∈x.2->c∈l')(hk: ∀v l',K v l'->PlanS P ro N E ops Q R tbl none sp pl fr ds l'):PlanS P ro N E ops Q R tbl none sp ((i,false,o)::pl) fr ds l:=
 .e h hw (by rw[hd];rfl) hR hS λv l' hkv=>by rw[hd];exact hk v l' hkv
theorem C3(h:(sp.map Prod.fst).all (λq=>Fl tbl i q)=true){x:Nat×List Ab}(hx:x∈sp)(ha:Fl tbl i x.1=false): ∀c,c∈x.2->c∈l':=by have:=AZ.1 h x.1 (Au.2 ⟨x,hx,rfl⟩);rw[ha] at this;cases this
theorem FM{d:Nat}{S:List Ab}(h:OpQ P ro N fr S o v)(hS: ∀c,c∈S->c∈l)(hw:o.guard=none)(hd:o.dst=some d)(hb:Nat.blt d N=true)(hk:PlanS P ro N E ops Q R tbl sw ((i,S)::sp) pl ((d,v)::fr) ds l):PlanS P ro N E ops Q R tbl sw sp ((i,true,o)::pl) fr ds l:=
 .sq h hS hw (by rw[hd];exact hb) (by rw[hd];exact hk)
theorem tH{d:Nat}(h:OpQ P ro N fr l o v)(hw:o.guard=none)(hd:o.dst=some d)(hb:Nat.blt d N=true)(hR: ∀c,c∈R->c∈l)(hk:PlanS P ro N E ops Q R tbl none [] pl ((d,v)::fr) ds l):PlanS P ro N E ops Q R tbl none [] ((i,false,o)::pl) fr ds l:=by
 refine CM (h.run l λ_ h=>h) hw hd hb ?_ ?_
 ·rintro _ _ ⟨rfl,rfl⟩;exact hR
 ·rintro _ _ ⟨rfl,rfl⟩;exact hk
theorem XQ{d:Nat}(h:OpQ P ro N fr R o v)(hw:P6 ops fr o.guard=some true)(hd:o.dst=some d)(hb:Nat.blt d N=true)(hk:PlanS P ro N E ops Q R tbl sw sp pl ((d,v)::fr) ds l):PlanS P ro N E ops Q R tbl sw sp ((i,true,o)::pl) fr ds l:=by
 rcases Kf hw with⟨h1,_⟩|⟨j,b,oj,dj,b',h1,h2,h3,h4,h5⟩
 ·exact Ej h h1 hd hb hk
 ·have:b'=b:=by simpa using h5
  subst this;exact V0 h h1 h2 h3 h4 hd hb hk
theorem tI{d:Nat}(hR: ∀c,c∈R->c∈l)(hw:P6 ops fr o.guard=some false)(hd:o.dst=some d)(hb:Nat.blt d N=true)(hk:PlanS P ro N E ops Q R tbl none [] pl ((d,undef)::fr) ds l):PlanS P ro N E ops Q R tbl none [] ((i,k,o)::pl) fr ds l:=by
 rcases Kf hw with⟨_,h1⟩|⟨j,b,oj,dj,b',h1,h2,h3,h4,h5⟩
 ·cases h1
 ·exact tE hR h1 h2 h3 h4 h5 hd hb hk
theorem fL{w:Bool}{ip:Decidable p}(hw:o.guard=some (j,w))(hj:ops[j]?=some oj)(hjd:oj.dst=some t)(hc:BU fr t=some (.bool (@decide p ip)))(hp:p)(h:PlanS P ro N E ops Q R tbl sw sp ((i,k,o)::pl) ((t,.bool true)::fr) ds l):PlanS P ro N E ops Q R tbl sw sp ((i,k,o)::pl) fr ds l:=
 .weak (Gd (by rw[hc,At hp])) h
theorem fM{w:Bool}{ip:Decidable p}(hw:o.guard=some (j,w))(hj:ops[j]?=some oj)(hjd:oj.dst=some t)(hc:BU fr t=some (.bool (@decide p ip)))(hp:¬p)(h:PlanS P ro N E ops Q R tbl sw sp ((i,k,o)::pl) ((t,.bool false)::fr) ds l):PlanS P ro N E ops Q R tbl sw sp ((i,k,o)::pl) fr ds l:=
 .weak (Gd (by rw[hc,Av hp])) h
end
section
def lM(os:List Oper)(plan:List (Nat×Bool))(tbl:List (List Nat))(i j:Nat):Bool:=QB os plan tbl (some [(i,j)])
theorem KQ{fr:Fr}{l:List Ab}(plan:List (Nat×Bool))(tbl:List (List Nat))(i j:Nat)(R:List Ab)(hm:P.follows .mixedOrders=true)(hv:lM os plan tbl i j=true)(ha:Attach os plan pl)(hR: ∀c,c∈R->c∈l)
 (h:PlanS P ro N E os.toArray Q R tbl (some [(i,j)]) [] pl fr ds l):BH P ro N E (.region k os.toArray true) Q fr ds l:=QC plan tbl (some [(i,j)]) R hm hv ha hR h
def o4(os:List Oper)(tbl:List (List Nat))(plan2:List (Nat×Bool))(i j:Nat):Bool:=
 FT os.toArray tbl none (HR os plan2).tail&&plan2.head?==some (j,false)&&(plan2.map Prod.fst).count i==1&&j !=i
theorem M3{alt:List BF}{fr:Fr}{l:List Ab}(plan2:List (Nat×Bool))(ha:Attach os plan2 alt)(hp:alt.Perm ((i,false,o)::rest))(hpo:o4 os tbl plan2 i j=true)
 (h1:PlanS P ro N E os.toArray Q R tbl none sp ((i,false,o)::rest) fr ds l)(h2:PlanS P ro N E os.toArray Q R tbl none sp alt fr ds l):PlanS P ro N E os.toArray Q R tbl (some [(i,j)]) sp ((i,false,o)::rest) fr ds l:=by
 unfold o4 at hpo;simp only[AR,I5,bne_iff_ne,ne_eq] at hpo;obtain⟨⟨⟨p1,p2⟩,p3⟩,p4⟩:=hpo;have hcnt:(((i,false,o)::rest).map (λx:BF=>x.1)).count i=1:=by rw[<-(hp.map _).count_eq,ha.spec.2];exact p3
 have hni: ∀x,x∈rest->x.1≠i:=λx hx e=>by rw[AI,List.count_cons_self] at hcnt;have:0<(rest.map (λx:BF=>x.1)).count i:=List.count_pos_iff.2 (Au.2 ⟨x,hx,e⟩);omega
 rw[ha.fun_eq] at p1;cases ha with
 |nil=>cases p2
 |cons h0 hr=>simp only[List.head?_cons,IA] at p2;cases p2;exact .alt2 p4 hp p1 hni h1 h2
end
def wo(P:Program)(t:Nat):Bool:=match P.underlying t with
 |some (.struct fs)=>fs.all λf=>(P.info? f.type).isSome
 |_=>false
class BT(P:Program)(t:Nat):Prop where out:wo P t=true
section
variable{fr:Fr}{l:List Ab}{d:Option Nat}{aft:Array Edge}{x:Operand}{w:Value}{off:Nat}{t:TypeId}
theorem ZF{α β:Type}{f:α->Sem β}{h:α->β}{Q:List β->List Ab->Prop}: ∀{xs:List α},(∀x,x∈xs-> ∀(Q:β->List Ab->Prop) l,sl P (f x) l Q<->Q (h x) l)->(sl P (xs.mapM f) l Q<->Q (xs.map h) l)
 |[],_=>by simp only[List.mapM_nil,CI];exact Do
 |x::xs,hx=>by rw[List.mapM_cons,AB,hx x Ak,AB,ZF (h:=h) λy hy=>hx y (An _ hy)];exact Do
def XR(fr:Fr):List (Nat×Operand)->Option (List (Nat×Value))
 |[]=>some []
 |(i,x)::r=>match ev fr x,XR fr r with
  |some v,some vs=>some ((i,v)::vs)
  |_,_=>none
theorem Agrees.parts(h:Agrees fr ρ): ∀{xs:List (Nat×Operand)} {vs:List (Nat×Value)},XR fr xs=some vs->(xs.map λ(i,x)=>(i,ρ x))=vs
 |[],vs,e=>by cases e;rfl
 |(i,x)::r,vs,e=>by
  unfold XR at e
  split at e
  ·rename_i v us h1 h2;cases e;rw[AI,h.parts h2];show(i,ρ x)::us=_;rw[h x v h1]
  ·cases e
inductive BuildS(P:Program)(t:Nat):List Value->List (Nat×Value)->List Value->Prop
 |nil {cs:List Value}:BuildS P t cs [] cs
 |one {cs cs1 cs2:List Value} {i off ft:Nat} {v:Value} {r:List (Nat×Value)} (c:FV P t i off ft) (c2:OC P ft):v.oneCell'=true->LSet cs off v cs1->BuildS P t cs1 r cs2->BuildS P t cs ((i,v)::r) cs2
 |agg {cs cs1 cs2 ws:List Value} {i off ft n:Nat} {r:List (Nat×Value)} (c:FV P t i off ft) (c2:AG P ft n):ws.length=n->LSetA cs off ws cs1->BuildS P t cs1 r cs2->BuildS P t cs ((i,.agg (toArray ws))::r) cs2
theorem XS(vs:List Value): ∀(cs:Array Value) (off k:Nat),(vs.zipIdx k).foldl (λcs (c,j)=>cs.setIfInBounds (off+j) c) cs=CV cs (off+k) vs:=by
 induction vs with
 |nil=>intro cs off k;rfl
 |cons v vs ih=>intro cs off k;rw[List.zipIdx_cons,D5,ih];rfl
theorem Jl(vs cs:Array Value)(off:Nat):vs.zipIdx.foldl (λcs (c,j)=>cs.setIfInBounds (off+j) c) cs=CV cs off vs.toList:=by rw[<-Array.foldl_toList,Array.toList_zipIdx,XS];rfl
theorem V1{fs:Array Field}(hu:P.underlying t=some (.struct fs)){place:Nat->Option (Nat×Nat)}(hp: ∀i fd inf,fs[i]?=some fd->P.info? fd.type=some inf->place i=some (fd.offset,inf.size)){cs2:List Value}{parts:List (Nat×Value)}(h:BuildS P t cs parts cs2):
 Instr.fill place (toArray cs) parts=some (toArray cs2):=by
 induction h with
 |nil=>rfl
 | @one cs cs1 cs2 i off ft v r c c2 h1 hs _ ih=>obtain⟨fs',fd,k1,k2,k3,k4⟩:=VV c.out;rw[hu] at k1;cases k1;obtain⟨ud,inf,_,_,i1,i2⟩:=Lw c2.out;rw[<-k4] at i1;unfold Instr.fill;rw[hp _ _ _ k2 i1,k3,i2,NJ h1];have hlt:=hs.spec.2;simp only;rw[Ac (by simp;omega),Jl #[v] (toArray cs) off];simp only[CV,Bt,hs.spec.1];exact ih
 | @agg cs cs1 cs2 ws i off ft n r c c2 hn hs _ ih=>obtain⟨fs',fd,k1,k2,k3,k4⟩:=VV c.out;rw[hu] at k1;cases k1;obtain⟨ud,inf,_,_,i1,i2⟩:=Ke c2.out;rw[<-k4] at i1;unfold Instr.fill;rw[hp _ _ _ k2 i1,k3,i2];have hlt:=hs.spec.2;have e:(Value.agg (toArray ws)).cells=toArray ws:=rfl;simp only[e];rw[Ac (by simp[hn];omega),Jl (toArray ws) (toArray cs) off];have:=hs.spec.1;simp only at this⊢;rw[this];exact ih
theorem ZG{xs:List (Nat×Operand)}(hx:XR fr xs=some ps)[c:ZV P t zs][cb:BT P t](hb:BuildS P t zs ps cs):OpQ P ro N fr R ⟨d,.build t (toArray xs),ty,pos,aft,g⟩ (.agg (toArray cs)):=BK rfl λρ l hρ _=>by
 obtain⟨i,zv,h1,h2,h3⟩:=Jt c.out;have hbt:=cb.out;unfold wo at hbt
 split at hbt
 ·rename_i fs hu;simp only[execOp,AB,Instr.build,zeroValue,C5,hρ.parts hx];rw[<-AB,Jj h1,h2];simp only[Bj];rw[EC hu];simp only[AB];have hfm:fs=toArray fs.toList:=by simp
  rw[hfm,List.mapM_toArray,map_eq_pure_bind,AB,ZF (h:=λf=>(f.offset,((P.info? f.type).map (·.size)).getD 0)) (by
   intro f hf Q l;have:=Array.all_eq_true'.1 hbt f (by simpa using hf);cases hi:P.info? f.type with
   |none=>rw[hi] at this;cases this
   |some inf=>rw[AB,GV hi];exact Do)]
  simp only[Bj];have hfill:=V1 (place:=λi=>(toArray (fs.toList.map λf=>(f.offset,((P.info? f.type).map (·.size)).getD 0)))[i]?) hu (by intro i fd inf k1 k2;simp[k1,k2]) hb
  have hz:zv.cells=toArray zs:=by rw[<-h3]
  rw[hz,hfill];exact⟨rfl,rfl⟩
 ·cases hbt
theorem TA{T:TypeId}{ud:TypeDesc}(h:P.underlying T=some ud)(W:World):(isAgg T).run P W= .ok (MZ ud) W:=by unfold isAgg;rw[Sem.run_bind,run_underlying h];cases ud<;>rfl
theorem UJ{T:TypeId}(hc:ly P T=true)(hs:Sat E l W)(hm:(b,Obj.cells (toArray cs) ct fz)∈l)(hv:XK cs off=some v):(loadVar T ⟨b,off,none⟩).run P W= .ok v W:=by obtain⟨ud,i,e1,e2,_,_⟩:=Lw hc;have hcell:=hs.cell hm off;rw[VS hv] at hcell;unfold loadVar;rw[Sem.run_bind,TA e1,e2];simp[Result.andThen,hcell]
theorem UK(hc:p7 P T=some n)(hs:Sat E l W)(hm:(b,Obj.cells (toArray cs) ct fz)∈l)(hv:LSub cs off n ws):(loadVar T ⟨b,off,none⟩).run P W= .ok (.agg (toArray ws)) W:=by
 obtain⟨ud,i,e1,e2,e3,e4⟩:=Ke hc;have hsz:(sizeOf T).run P W= .ok n W:=by unfold sizeOf typeInfo;simp[Sem.run_bind,Result.andThen,program,Sem.run,e3,e4]
 obtain⟨hv1,hv2⟩:=hv.spec;have hlen:ws.length=n:=by rw[<-hv1];simp;omega
 unfold loadVar;rw[Sem.run_bind,TA e1,e2];simp only[Result.andThen,CT];rw[Sem.run_bind,hsz];simp only[Result.andThen];rw[Sem.run_bind];have:=run_loadCells_list (P:=P) (w:=W) ⟨b,off,none⟩ ws (λj u hj=>by
  rw[FZ,hs.cell hm];rw[<-hv1] at hj;simp only[AC];rw[HX] at hj
  split at hj
  ·simpa[J7] using hj
  ·cases hj)
 rw[hlen] at this;rw[this];rfl
theorem qe{t:Nat}(h1:BU fr t=some v)(h:ResS P fr l rs vs):ResS P fr l (.tmp t::rs) (v::vs):= .tmp h1 h
theorem fO{T:TypeId}(h1:BU fr k=some (.pointer (some ⟨b,off,none⟩)))[c:OC P T](hm:(b,Obj.cells (toArray cs) ct fz)∈l)(hv:XK cs off=some v)(h:ResS P fr l rs vs):ResS P fr l (.cell k T::rs) (v::vs):=
 .cell h1 (λE W hs=>UJ c.out hs hm hv) h
theorem Cz(h1:BU fr k=some (.pointer (some ⟨b,off,none⟩)))[c:AG P T n](hm:(b,Obj.cells (toArray cs) ct fz)∈l)(hv:LSub cs off n ws)(h:ResS P fr l rs vs):ResS P fr l (.cell k T::rs) (.agg (toArray ws)::vs):=
 .cell h1 (λE W hs=>UK c.out hs hm hv) h
theorem Fh{f:Nat}{xs:List Operand}{fs:List Value}{at_:Array TypeId}(hx:ev fr x=some (.func (.func f) (toArray fs) (toArray cs)))(hy:Qm fr xs=some vs)[c:EN P f](h: ∀l,(∀c,c∈R->c∈l)->Fn P f (fs++vs++cs) l (λv' l'=>v'=v/\l'=l)):OpQ P ro N fr R ⟨d,.call {callee:= .value x,args:=xs.toArray,argTypes:=at_},ty,pos,aft,g⟩ v:=
 ⟨λl hl=>Da hx hy (by simpa using h l hl)⟩
end
def OwnSl(e k:Nat)(v:Value)(n:Nat)(xs:List Value)(cs:List Ab):Prop:=
 xs.length=n*k/\((v= .slice none 0 0/\n=0/\cs=[])\/(∃b cap sp,v= .slice (some ⟨b,0,none⟩) n cap/\cs=[(b,.cells (toArray (xs++sp)) e (0,0))]/\n<=cap/\cap<=maxLen/\(xs++sp).length=cap*k))
theorem OwnSl.nil(e k:Nat):OwnSl e k (.slice none 0 0) 0 [] []:=⟨by simp,.inl ⟨rfl,rfl,rfl⟩⟩
section
variable{fr:Fr}{l:List Ab}{d:Option Nat}{aft:Array Edge}{x:Operand}{w:Value}{off:Nat}{t:TypeId}
theorem Sat.row{cs cs':Array Value}{e:TypeId}(h:Sat E ((b,.cells cs e fz)::F) W):Sat E ((b,.cells cs' e fz)::F) (W.setRow b cs'):=by
 refine⟨h.os,h.tape,h.output,h.nodup,λc hc=>?_⟩;rcases Ap.1 hc with rfl|hc'
 ·exact setRow_heap W b cs cs' e fz (h.has _ Ak)
 ·have hn:=h.nodup;rw[AI,AN] at hn;have hne:c.1≠b:=λe=>hn.1 (Au.2 ⟨c,hc',e⟩);rw[setRow_other W b c.1 cs' hne];exact h.has c (An _ hc')
theorem F4{x:Operand}{cp:Nat}{cs:List Ab}(hx:ev fr s=some v)(hy:ev fr x=some (.slice (some ⟨b,off,none⟩) m cp))[c:ST P T e k yb][cz:ZV P e zs](hzs:zs.length=k)
 (hown:OwnSl e k v n xs cs)(hm:(b,Obj.cells cl ct fz)∈cs++F)(hnews: ∀j u,news[j]?=some u->cl[off+j]?=some u)(hnl:news.length=m*k)(h1: ∀u∈news,u.oneCell'=true)(h63:n+m<=maxLen)(hby:(n+m)*yb<=140737488355328):
 OpE P ro N fr (cs++F) ⟨d,.call {callee:= .builtin .append,args:=#[s,x],argTypes:=#[T,T]},ty,pos,aft,g⟩ (λv' l'=> ∃cs',OwnSl e k v' (n+m) (xs++news) cs'/\l'=cs'++F):=by
 refine⟨rfl,λE a W hf hs=>?_⟩;have hρ:=hf.agrees;obtain⟨inf,u1,u2,u3,u4⟩:=EH c.out;obtain⟨inf',zv,z1,z2,z3⟩:=Jt cz.out;rw[u2] at z1;cases z1;have hex:execOp a.eval ⟨d,.call {callee:= .builtin .append,args:=#[s,x],argTypes:=#[T,T]},ty,pos,aft,g⟩=(do pure (.value (<-Builtin.append_ #[T,T] ty #[v,.slice (some ⟨b,off,none⟩) m cp])):Sem Next):=by simp[execOp,resolve,hρ s _ hx,hρ x _ hy,invoke,builtin]
 unfold OpVal;rw[hex,Sem.run_bind];have hnw: ∀j u,news[j]?=some u->W.cell? ((⟨b,off,none⟩:Addr).add j)=some u:=λj u hj=>by rw[FZ,hs.cell hm];exact hnews j u hj
 have hn':news.length=m*inf.size:=by rw[u3];exact hnl
 have hmx:n+m<=9223372036854775807:=by simp only[maxLen] at h63;omega
 have hlen:(xs++news).length=(n+m)*k:=by rw[Ai,hown.1,hnl,E0]
 have fresh: ∀(old:Nat) (W0:World),Sat E F W0->W0.heap=W.heap-> ∃cs',OwnSl e k (.slice (some ⟨W.heap.size,0,none⟩) (n+m) (grownCap W (n+m) old e)) (n+m) (xs++news) cs'/\Sat E (cs'++F) (W0.drew.alloc (.cells (toArray (xs++news)++Builtin.zeroCells zv.cells (grownCap W (n+m) old e-(n+m))) e)):=by
  intro old W0 hs0 hh;refine⟨_,⟨hlen,.inr ⟨W.heap.size,_,(Builtin.zeroCells zv.cells (grownCap W (n+m) old e-(n+m))).toList,rfl,rfl,grownCap_ge _ _ _ _,grownCap_le_maxLen _ _ _ _ h63,?_⟩⟩,?_⟩
  ·rw[Ai,hlen,Array.length_toList,size_zeroCells];have hzz:zv.cells.size=k:=by rw[<-hzs,<-z3];simp
   rw[hzz,<-E0];congr 1;have:=grownCap_ge W (n+m) old e;omega
  ·have h2:=hs0.drew.alloc (.cells (toArray (xs++news)++Builtin.zeroCells zv.cells (grownCap W (n+m) old e-(n+m))) e);have e1:W0.drew.heap.size=W.heap.size:=by show W0.heap.size=_;rw[hh]
   rw[e1] at h2;have e2:toArray (xs++news++(Builtin.zeroCells zv.cells (grownCap W (n+m) old e-(n+m))).toList)=toArray (xs++news)++Builtin.zeroCells zv.cells (grownCap W (n+m) old e-(n+m)):=by apply BO.1;simp
   rw[e2];exact h2
 rcases hown.2 with⟨rfl,rfl,rfl⟩|⟨gb,cap,sp,rfl,rfl,hnc,hcm,hcl⟩
 ·have hx0:xs=[]:=DY (by simpa using hown.1);subst hx0;by_cases hm0:m=0
  ·subst hm0;have hn0:news=[]:=DY (by simpa using hnl);subst hn0;have hr:(Builtin.append_ #[T,T] ty #[.slice none 0 0,.slice (some ⟨b,off,none⟩) 0 cp]).run P W= .ok (.slice none 0 0) W:=by
    simp[Builtin.append_,run_underlying u1,sizeOf,typeInfo,u2,Builtin.lenOf,Builtin.firstCells,loadCells,loadCellsFrom]
   rw[hr];exact⟨_,⟨[],OwnSl.nil e k,rfl⟩,hs⟩
  ·have hr:=run_append_nil (P:=P) W T ty e inf zv u1 u2 z2 ⟨b,off,none⟩ m cp news hn' hnw Af Af (by rw[u4];simp only[BC] at hby;omega);rw[hr];obtain⟨cs',k1,k2⟩:=fresh 0 W hs rfl;simp only[BC,Ag] at k1 k2;refine⟨_,⟨cs',?_,rfl⟩,k2⟩;simpa using k1
 ·by_cases hroom:n+m<=cap
  ·have hg:=hs.has (gb,_) (Ah _ Ak);have hr:=run_append_room (P:=P) W T ty e inf u1 u2 gb n cap (toArray (xs++sp)) hg ⟨b,off,none⟩ m cp news hn' hnw h1 hroom (by
    rw[hn',u3,<-E0];simp only[Bn];rw[hcl];exact FB _ hroom)
   rw[hr];have e1:(toArray (xs++sp)).toList.take (n*inf.size)=xs:=by rw[u3,<-hown.1];show(xs++sp).take xs.length=xs;simp
   rw[e1];refine⟨_,⟨_,⟨hlen,.inr ⟨gb,cap,(toArray (xs++sp)).toList.drop (n*inf.size+news.length),rfl,rfl,hroom,hcm,?_⟩⟩,rfl⟩,?_⟩
   ·have h3:(xs++sp).length=cap*k:=hcl;have h4:n*k+news.length<=cap*k:=by rw[hnl,<-E0];exact FB _ hroom
    rw[Ai,hlen,Dx];show(n+m)*k+((xs++sp).length-(n*inf.size+news.length))=cap*k;rw[h3,u3,hnl,<-E0];have:=FB k hroom;omega
   ·exact hs.row
  ·have hs':Sat E F W:=hs.tail;have hold: ∀j u,xs[j]?=some u->W.cell? ((⟨gb,0,none⟩:Addr).add j)=some u:=λj u hj=>by
    rw[FZ,hs.cell (Ah _ Ak),BC];have hlt:=(Ay.1 hj).1;simp only[AC];rw[AF hlt];exact hj
   have hr:=run_append_grow (P:=P) W T ty e inf zv u1 u2 z2 ⟨gb,0,none⟩ n cap xs (by rw[u3];exact hown.1) hold ⟨b,off,none⟩ m cp news hn' hnw Af Af (growslice_fits Af (by rw[u4];exact hby));rw[hr];obtain⟨cs',k1,k2⟩:=fresh cap W hs' rfl;refine⟨_,⟨cs',k1,rfl⟩,?_⟩;have e3:xs.toArray++news.toArray=toArray (xs++news):=by simp
   rw[e3];exact k2
theorem Jm{Q:Value->List Ab->Prop}(c:vJ P T=some (e,k,yb))(cz:pZ P e=some zs)(hzs:zs.length=k)(hk:0<n*k)(hsm:n*k<=16777216)
 (hfill:Instr.fill (λi=>some (i*k,k)) (toArray (replicate n zs).flatten) ps=some (toArray cs))(hQ: ∀b,(∀c,c∈l->c.1≠b)->Q (.slice (some ⟨b,0,none⟩) n n) ((b,.cells (toArray cs) e (0,0))::l)):
 sl P (Instr.buildSlice T n (toArray ps)) l Q:=by
 obtain⟨inf,u1,u2,u3,u4⟩:=EH c;obtain⟨inf',zv,z1,z2,z3⟩:=Jt cz;rw[u2] at z1;cases z1;unfold Instr.buildSlice;rw[B9 u1];simp only;rw[EP u2,u3];rw[Ac Af];simp only[show ¬n*k=0 by omega,CR,AB,zeroValue];rw[<-AB,Jj u2,z2];simp only[Bj];have hzv:zv.cells=toArray zs:=by rw[<-z3]
 have hcells:(Array.range (n*k)).map (λj=>zv.cells[j%zv.cells.size]!)=toArray (replicate n zs).flatten:=by
  have hk0:0<k:=J8 λe=>by subst e;simp at hk
  apply BO.1;apply C9;intro j;rw[hzv];have hl:(replicate n zs).flatten.length=n*k:=by simp[hzs]
  by_cases hj:j<n*k
  ·have:(replicate n zs).flatten[j]?=zs[j%k]?:=by
    clear hfill hQ hl hsm hk
    induction n generalizing j with
    |zero=>omega
    |succ n ih=>
     rw[BG,Cq];by_cases hjk:j<k
     ·rw[AF Af,Dj hjk]
     ·rw[AU Af,hzs,ih (j-k) (by have:=FA n k;simp only[JL] at this;omega),<-J9 Af]
   simp only[Lp,Ka,A0,ES hj,BL];rw[this];have hlt:j%k<zs.length:=by rw[hzs];exact GN _ hk0
   simp[hzs,Al hlt,FX]
  ·rw[Bc (by simp;omega),Bc (by rw[hl];omega)]
 rw[hcells,hfill];simp only[newRow,AB];intro b hb;exact hQ b hb
theorem Kg(hy:ev fr y=some v)(h1:v.oneCell'=true)[c:ST P T e 1 yb][cz:ZV P e [z0]]:OpE P ro N fr l ⟨d,.buildSlice T 1 #[(0,y)],ty,pos,aft,g⟩ (λv' l'=> ∃b,(∀c,c∈l->c.1≠b)/\v'= .slice (some ⟨b,0,none⟩) 1 1/\l'=(b,.cells (toArray [v]) e (0,0))::l):=Dy rfl λρ hρ=>by
 simp only[execOp,AB];have e:(#[(0,y)]:Array (Nat×Operand)).map (λ(i,x)=>(i,ρ x))=toArray [(0,v)]:=by simp[hρ y _ hy]
 rw[e];refine Jm (cs:=[v]) c.out cz.out rfl Af Af ?_ λb hb=>⟨b,hb,rfl,rfl⟩
 simp[Instr.fill,NJ h1]
theorem Fb(hy:ev fr y=some (.agg (toArray ws)))[c:ST P T e k yb][cz:ZV P e zs](hz:zs.length=k)(hw:ws.length=k)(hk:0<k)(hk2:k<=16777216):OpE P ro N fr l ⟨d,.buildSlice T 1 #[(0,y)],ty,pos,aft,g⟩ (λv' l'=> ∃b,(∀c,c∈l->c.1≠b)/\v'= .slice (some ⟨b,0,none⟩) 1 1/\l'=(b,.cells (toArray ws) e (0,0))::l):=Dy rfl λρ hρ=>by
 simp only[execOp,AB];have e:(#[(0,y)]:Array (Nat×Operand)).map (λ(i,x)=>(i,ρ x))=toArray [(0,.agg (toArray ws))]:=by simp[hρ y _ hy]
 rw[e];refine Jm (cs:=ws) c.out cz.out hz Af Af ?_ λb hb=>⟨b,hb,rfl,rfl⟩
 unfold Instr.fill;have e2:(Value.agg (toArray ws)).cells=toArray ws:=rfl;simp only[e2];rw[Ac (by simp[hw,hz])];rw[Jl];unfold Instr.fill;congr 1;have key: ∀(vs pre cs:List Value),vs.length=cs.length->CV (toArray (pre++cs)) pre.length vs=toArray (pre++vs):=by
  intro vs
  induction vs with
  |nil=>intro pre cs h;have:cs=[]:=DY (by simpa using h.symm);subst this;rfl
  |cons v vs ih=>
   intro pre cs h;cases cs with
   |nil=>simp at h
   |cons c cs=>simp only[CV,Bt];rw[Cm _ _ (A7 _)];simp only[DD,E6];have:=ih (pre++[v]) cs (by simpa using h);simpa using this
 have:=key ws [] zs Af;simpa using this
end
theorem OwnSl.one{e k n:Nat}{v:Value}{xs:List Value}{cs:List Ab}(h:OwnSl e k v n xs cs):v.oneCell'=true:=by rcases h.2 with⟨rfl,_⟩|⟨b,cap,sp,rfl,_⟩<;>rfl
theorem Keep.dropL{L l:List Ab}(cs:List Ab)(k:Keep L l):Keep (cs++L) l:=by
 induction cs with
 |nil=>exact k
 |cons c cs ih=>exact .drop ih
theorem OwnSl.shape{cs:List Ab}(h:OwnSl e k v n xs cs): ∃p cap,v= .slice p n cap:=by
 rcases h.2 with⟨rfl,rfl,_⟩|⟨b,cap,sp,rfl,_⟩
 ·exact⟨_,_,rfl⟩
 ·exact⟨_,_,rfl⟩
section
variable{fr:Fr}{l:List Ab}
def ZH(N:Nat)(E:World){α:Type}(fx:α->Fr)(ds:List Deferred)(lx:α->List Ab)(pre:α->Prop)(a:Act)(W:World):Prop:=
 ∃y,pre y/\FSat N (fx y) a/\a.defers=ds/\Sat E (lx y) W
theorem XT{c1 c2:Code}(fx:α->Fr)(lx:α->List Ab)(pre:α->Prop)(h1:BH P ro N E c1 (Exit.then (ZH N E fx ds lx pre) Q) fr ds l)(h2: ∀x,pre x->BH P ro N E c2 Q (fx x) ds (lx x)):BH P ro N E (.seq c1 c2) Q fr ds l:=
 ⟨λa W hf hds hs=>wpIn_seq (wpIn_mono (h1.run a W hf hds hs) λe a' W' h=>by
   cases e with
   |normal=>obtain⟨y,h3,h4,h5,h6⟩:=h;exact(h2 y h3).run a' W' h4 h5 h6
   |_=>exact h)⟩
theorem Ek{fx:α->Fr}{lx:α->List Ab}{pre:α->Prop}(y:α)(h1:pre y)(h3:FSub (fx y) fr)(h4:Keep l (lx y)):CO N E (Exit.then (ZH N E fx ds lx pre) Q) .normal fr ds l:=
 ⟨λa W hf hds hs=>⟨y,h1,hf.sub h3.spec,hds,h4.sat hs⟩⟩
end
theorem Rm(zs:List Value)(n:Nat):(Builtin.zeroCells (toArray zs) n).toList=(replicate n zs).flatten:=by
 apply C9;intro j;unfold Builtin.zeroCells;have hl:(replicate n zs).flatten.length=n*zs.length:=by simp
 by_cases hj:j<n*zs.length
 ·have hk0:0<zs.length:=J8 λe=>by rw[e] at hj;simp at hj
  have:(replicate n zs).flatten[j]?=zs[j%zs.length]?:=by
   clear hl
   induction n generalizing j with
   |zero=>omega
   |succ n ih=>
    rw[BG,Cq];by_cases hjk:j<zs.length
    ·rw[AF Af,Dj hjk]
    ·rw[AU Af,ih (j-zs.length) (by have:=FA n zs.length;simp only[JL] at this;omega),<-J9 Af]
  simp only[Lp,Ka,A0,Bn,ES hj,BL];rw[this];have hlt:j%zs.length<zs.length:=GN _ hk0;simp[Al hlt,FX]
 ·rw[Bc (by simp;omega),Bc (by rw[hl];omega)]
inductive fP(fr:Fr):Option Operand->Nat->Nat->Prop
 |none {d:Nat}:fP fr none d d
 |some {o:Operand} {d r:Nat} {k:IntKind} {i:Int}:ev fr o=some (.int k i)->0<=i->i.toNat=r->fP fr (some o) d r
section
variable{fr:Fr}{l:List Ab}{d:Option Nat}{aft:Array Edge}{x:Operand}{w:Value}{off:Nat}{t:TypeId}
theorem EF{Q:Nat->List Ab->Prop}{k:IntKind}{i:Int}{y r:Nat}{code:BoundsCode}(h0:0<=i)(hr:i.toNat=r)(hy:r<=y):sl P (Instr.sliceBound (.int k i) y code) l Q<->Q r l:=by unfold Instr.sliceBound;simp only[asIntOf,AB,Bj];rw[Ad ⟨h0,Af⟩,Bj,hr]
theorem M4{Q:Nat×Nat×Nat->List Ab->Prop}(hρ:Agrees fr ρ)(hl:fP fr lo 0 l0)(hh:fP fr hi n h0)(hm:fP fr mx cap m0)(hno:mx.isSome=true->hi.isSome=true)(h1:l0<=h0)(h2:h0<=m0)(h3:m0<=cap):
 sl P (Instr.sliceBounds true n cap (lo.map ρ) (hi.map ρ) (mx.map ρ)) l Q<->Q (l0,h0,m0) l:=by
 unfold Instr.sliceBounds;cases hm with
 |none=>
  cases hh with
  |none=>
   cases hl with
   |none=>simp only[Dt,AB,Bj]
   |some e i0 ir=>simp only[Dt,BL,AB,Bj,hρ _ _ e];rw[EF i0 ir h1]
  |some e i0 ir=>
   cases hl with
   |none=>simp only[Dt,BL,AB,Bj,hρ _ _ e];rw[EF i0 ir h2]
   |some e' i0' ir'=>simp only[Dt,BL,AB,Bj,hρ _ _ e,hρ _ _ e'];rw[EF i0 ir h2,EF i0' ir' h1]
 |some em m0' mr=>
  cases hh with
  |none=>simp at hno
  |some e i0 ir=>
   cases hl with
   |none=>simp only[Dt,BL,AB,Bj,hρ _ _ e,hρ _ _ em];rw[EF m0' mr h3,EF i0 ir h2]
   |some e' i0' ir'=>simp only[Dt,BL,AB,Bj,hρ _ _ e,hρ _ _ e',hρ _ _ em];rw[EF m0' mr h3,EF i0 ir h2,EF i0' ir' h1]
theorem FF{off' n' c':Nat}(hx:ev fr x=some (.slice (some ⟨b,off,none⟩) n cap))[c:ST P T e k yb](hl:fP fr lo 0 l0)(hh:fP fr hi n h0)(hm:fP fr mx cap m0)(hno:mx.isSome=true->hi.isSome=true)(h1:l0<=h0)(h2:h0<=m0)(h3:m0<=cap)
 (ho:(if m0=l0 then off else off+l0*k)=off')(hn:h0-l0=n')(hc:m0-l0=c'):OpQ P ro N fr R ⟨d,.slice T x lo hi mx,ty,pos,aft,g⟩ (.slice (some ⟨b,off',none⟩) n' c'):=BK rfl λρ l hρ _=>by
 obtain⟨inf,u1,u2,u3,_⟩:=EH c.out;subst ho hn hc;simp only[execOp,hρ x _ hx];rw[AB];unfold Instr.sliceAt;rw[B9 u1];show sl P (Instr.slice T _ _ _ _) l _;unfold Instr.slice;rw[B9 u1];simp only[AB];rw[M4 hρ hl hh hm hno h1 h2 h3];simp only;rw[GV u2];simp only[Bj,u3];refine⟨?_,trivial⟩
 split<;>simp[FZ]
theorem ZI{cp:Nat}{cs:Array Value}(hx:ev fr x=some (.slice (some ⟨b,off,none⟩) m cp))[c:ST P T e k yb][cz:ZV P e zs](hm:0<m)(h1: ∀v,v∈zs->v.oneCell'=true)(hu:Upd l b (.cells cs ct (0,0)) (.cells (CV cs off (replicate m zs).flatten) ct (0,0)) l')(hlt:off+m*zs.length<=cs.size):OpE P ro N fr l ⟨d,.call {callee:= .builtin .clear,args:=#[x],argTypes:=#[T]},ty,pos,aft,g⟩ (λv' l2=>v'= .tuple #[]/\l2=l'):=Dy rfl λρ hρ=>by
 obtain⟨inf,u1,u2,u3,_⟩:=EH c.out;obtain⟨i,zv,z1,z2,z3⟩:=Jt cz.out;rw[u2] at z1;cases z1;obtain⟨m,rfl⟩: ∃m',m=m'+1:=⟨m-1,Af⟩
 simp only[execOp,resolve,AB,Bj,invoke,builtin,C5,AI,CI,hρ x _ hx];unfold Builtin.clear_;simp only[AC,CY,AB];rw[EC u1];simp only[AB,zeroValue];rw[<-AB,Jj u2,z2];simp only[Bj];have hz:zv.cells=toArray zs:=by rw[<-z3]
 have hzz:(Builtin.zeroCells zv.cells (m+1)).toList=(replicate (m+1) zs).flatten:=by rw[hz];exact Rm zs (m+1)
 rw[hzz];have:=Lc (P:=P) (b:=b) (off:=off) (f:=λv=>(pure (.tuple #[]):Sem Value)) (Q:=λa l2=>VP P (λv' l2=>v'= .tuple #[]/\l2=l') (Next.value a) l2) (replicate (m+1) zs).flatten 0 cs l l' (by intro v hv;rw[List.mem_flatten] at hv;obtain⟨r,hr,hv⟩:=hv;rw[D1 hr] at hv;exact h1 v hv) (by simpa using hlt) hu ⟨rfl,rfl⟩
 rw[AB] at this;exact this
theorem TC{x:Operand}{cp gb:Nat}{cur:Array Value}(hs:ev fr s=some (.slice (some ⟨gb,0,none⟩) n cap))(hx:ev fr x=some (.slice (some ⟨b,off,none⟩) m cp))[c:ST P T e k yb]
 (hm:(b,Obj.cells cl ct fz)∈(gb,Obj.cells cur e (0,0))::F)(hnews: ∀j u,news[j]?=some u->cl[off+j]?=some u)(hnl:news.length=m*k)(h1: ∀u∈news,u.oneCell'=true)(hroom:n+m<=cap)(hfit:n*k+news.length<=cur.size):
 OpE P ro N fr ((gb,.cells cur e (0,0))::F) ⟨d,.call {callee:= .builtin .append,args:=#[s,x],argTypes:=#[T,T]},ty,pos,aft,g⟩ (λv' l'=>v'= .slice (some ⟨gb,0,none⟩) (n+m) cap/\l'=(gb,.cells (cur.toList.take (n*k)++news++cur.toList.drop (n*k+news.length)).toArray e (0,0))::F):=by
 refine⟨rfl,λE a W hf hs'=>?_⟩;have hρ:=hf.agrees;obtain⟨inf,u1,u2,u3,u4⟩:=EH c.out;have hex:execOp a.eval ⟨d,.call {callee:= .builtin .append,args:=#[s,x],argTypes:=#[T,T]},ty,pos,aft,g⟩=(do pure (.value (<-Builtin.append_ #[T,T] ty #[.slice (some ⟨gb,0,none⟩) n cap,.slice (some ⟨b,off,none⟩) m cp])):Sem Next):=by simp[execOp,resolve,hρ s _ hs,hρ x _ hx,invoke,builtin]
 unfold OpVal;rw[hex,Sem.run_bind];have hg:=hs'.has (gb,_) Ak;have hr:=run_append_room (P:=P) W T ty e inf u1 u2 gb n cap cur hg ⟨b,off,none⟩ m cp news (by rw[u3];exact hnl) (λj u hj=>by rw[FZ,hs'.cell hm];exact hnews j u hj) h1 hroom (by rw[u3];exact hfit);rw[hr];rw[u3];exact⟨_,⟨rfl,rfl⟩,hs'.row⟩
theorem Ia{rest:List Oper}{d:Nat}(h:OpE P ro N fr l o K)(hw:P6 ops fr o.guard=some true)(hd:o.dst=some d)(hb:Nat.blt d N=true)(hk: ∀v l',K v l'->Dk P ro N E ops Q rest ((d,v)::fr) ds l'):Dk P ro N E ops Q (o::rest) fr ds l:=by
 rcases Kf hw with⟨h1,_⟩|⟨j,b,oj,dj,b',h1,h2,h3,h4,h5⟩
 ·exact fe h h1 hd hb hk
 ·have:b'=b:=by simpa using h5
  subst this;exact wk h h1 h2 h3 h4 hd hb hk
theorem XU{ps:List (Nat×Operand)}{pvs:List (Nat×Value)}(hps:XR fr ps=some pvs)(hn0:0<n)(hn:n<=16777216)[c:ST P T e 1 yb][cz:ZV P e [z0]](hfill:Instr.fill (λi=>some (i*1,1)) (toArray (replicate n [z0]).flatten) pvs=some (toArray cs)):
 OpE P ro N fr l ⟨d,.buildSlice T n ps.toArray,ty,pos,aft,g⟩ (λv' l'=> ∃b,(∀c,c∈l->c.1≠b)/\v'= .slice (some ⟨b,0,none⟩) n n/\l'=(b,.cells (toArray cs) e (0,0))::l):=Dy rfl λρ hρ=>by
 simp only[execOp,AB];have e:ps.toArray.map (λ(i,x)=>(i,ρ x))=toArray pvs:=by rw[<-hρ.parts hps];simp
 rw[e];exact Jm (cs:=cs) c.out cz.out rfl Af Af hfill λb hb=>⟨b,hb,rfl,rfl⟩
theorem OwnSl.lit(h0:0<n)(hl:xs.length=n)(hm:n<=1000000):OwnSl e 1 (.slice (some ⟨b,0,none⟩) n n) n xs [(b,.cells (toArray xs) e (0,0))]:=
 ⟨Af,.inr ⟨b,n,[],rfl,by simp,Af,by unfold maxLen;omega,by simp[hl]⟩⟩
end
abbrev KB:=Int×Value×Nat
def MS(k:IntKind)(x:KB):MapEntry:={key:= .int k x.1,val:=x.2.1,born:=x.2.2}
abbrev Fq(k:IntKind)(es:List KB)(clock:Nat):Obj:= .map (toArray (es.map (MS k))) clock
def sK(P:Program)(t:Nat):Option Value:=match P.info? t with
 |some i=>i.zero
 |none=>none
class ZO(P:Program)(t:Nat)(z:outParam Value):Prop where out:sK P t=some z
def Gs(a:Int):List KB->Nat->Option (Nat×Value)
 |[],_=>none
 |e::es,i=>if a=e.1 then some (i,e.2.1) else Gs a es (i+1)
def KC(a:Int)(es:List KB):Option Value:=(Gs a es 0).map Prod.snd
def M5(a:Int)(v:Value)(clock:Nat)(es:List KB):List KB×Nat:=match Gs a es 0 with
 |some (i,_)=>(es.modify i λx=>(x.1,v,x.2.2),clock)
 |none=>(es++[(a,v,clock)],clock+1)
def Ox(a:Int)(es:List KB):List KB:=match Gs a es 0 with
 |some (i,_)=>es.eraseIdx i
 |none=>es
theorem LX{a:Int}: ∀{es:List KB} {i:Nat},Gs a es i=none<-> ∀e∈es,e.1≠a
 |[],i=>by simp[Gs]
 |e::es,i=>by
  unfold Gs
  split
  ·rename_i h;subst h;simp
  ·rename_i h;rw[LX];simp only[Ap,forall_eq_or_imp];exact⟨λh2=>⟨λe'=>h e'.symm,h2⟩,λh2=>h2.2⟩
theorem Oy{a:Int}: ∀{es:List KB} {i k:Nat} {v:Value},Gs a es i=some (k,v)->i<=k/\ ∃e,es[k-i]?=some e/\e.1=a/\e.2.1=v/\ ∀j,j<k-i-> ∀e',es[j]?=some e'->e'.1≠a
 |[],i,k,v,h=>by simp[Gs] at h
 |e::es,i,k,v,h=>by
  unfold Gs at h
  split at h
  ·rename_i ha;cases h;exact⟨A7 _,e,by simp,ha.symm,rfl,λj hj=>by omega⟩
  ·rename_i ha;obtain⟨h1,e',h2,h3,h4,h5⟩:=Oy h;refine⟨Af,e',?_,h3,h4,λj hj e2 he2=>?_⟩
   ·rw[show k-i=(k-(i+1))+1 by omega];simpa using h2
   ·cases j with
    |zero=>simp only[CY,IA] at he2;subst he2;exact λe'=>ha e'.symm
    |succ j=>exact h5 j Af e2 (by simpa using he2)
theorem Rn(k:IntKind)(a:Int): ∀(es:List KB) (i:Nat),Instr.findNow (.int k) (.int k a) (es.map (MS k)) i=some (Gs a es i)
 |[],i=>rfl
 |e::es,i=>by
  rw[AI];unfold Instr.findNow;simp only[MS,Instr.sameNow,CT];unfold Gs;by_cases h:a=e.1
  ·rw[show(a==e.1)=true by simpa using h,Ad h]
  ·rw[show(a==e.1)=false by simpa using h,Ac h];exact Rn k a es (i+1)
section
variable{fr:Fr}{l:List Ab}{d:Option Nat}{aft:Array Edge}{x:Operand}{w:Value}{t T kt et:TypeId}{k:IntKind}{a:Int}{es:List KB}{clock:Nat}
theorem II{T k:Nat}(h:wj P T=some (k,e)):P.underlying T=some (.map k e):=by unfold wj at h;split at h<;>simp_all
theorem Ro{t:Nat}{k:IntKind}(h:lz P t=some k):P.underlying t=some (.int k):=by unfold lz at h;split at h<;>simp_all
theorem Fc{Q:α->List Ab->Prop}(a:α):sl P (Sem.pure a) l Q<->Q a l:=Do
theorem bN{Q:α->List Ab->Prop}{f:Nat->Sem α}{q:Question}:sl P (choose q>>=f) l Q<-> ∀t,sl P (f (if q.forced=true then 0 else q.cut t)) l Q:=Do
theorem KR{Q:Unit->List Ab->Prop}{empty:Bool}(h:lz P kt=some k):sl P (Instr.checkKey empty (n+1) kt (.int k a)) l Q<->Q () l:=by unfold Instr.checkKey;rw[B9 (Ro h)];exact Do
theorem LY{Q:Option (Nat×Value)->List Ab->Prop}(h:lz P kt=some k):sl P (Instr.findKey kt (.int k a) (es.map (MS k))) l Q<->Q (Gs a es 0) l:=by unfold Instr.findKey;rw[B9 (Ro h),Rn];exact Do
theorem UL{Q:Value->List Ab->Prop}{zv:Value}(h:sK P et=some zv):sl P (zeroValue et) l Q<->Q zv l:=by
 unfold sK at h
 split at h
 ·rename_i i hi;unfold zeroValue;rw[Jj hi,h];exact Do
 ·cases h
theorem fR{zv:Value}(hx:ev fr x=some (.map (some m)))(hy:ev fr y=some (.int k a))[c:MT P T kt et][ci:IT P kt k][cz:ZO P et zv](hm:(m,Fq k es clock)∈R):OpQ P ro N fr R ⟨d,.lookup T x y false,ty,pos,aft,g⟩ ((KC a es).getD zv):=BK rfl λρ l hρ hR=>by
 simp only[execOp,hρ x _ hx,hρ y _ hy,AB];unfold Instr.lookup;rw[B9 (II c.out)];simp only[AB];refine⟨_,hR _ hm,rfl,?_⟩;simp only[Bj,Fc,AB];rw[KR ci.out,LY ci.out];unfold KC;cases h:Gs a es 0 with
 |none=>simp only[AB];rw[UL cz.out];exact⟨rfl,rfl⟩
 |some p=>exact⟨rfl,rfl⟩
theorem bO{zv:Value}(hx:ev fr x=some (.map (some m)))(hy:ev fr y=some (.int k a))[c:MT P T kt et][ci:IT P kt k][cz:ZO P et zv](hm:(m,Fq k es clock)∈R):OpQ P ro N fr R ⟨d,.lookup T x y true,ty,pos,aft,g⟩ (.tuple #[(KC a es).getD zv,.bool (KC a es).isSome]):=BK rfl λρ l hρ hR=>by
 simp only[execOp,hρ x _ hx,hρ y _ hy,AB];unfold Instr.lookup;rw[B9 (II c.out)];simp only[AB];refine⟨_,hR _ hm,rfl,?_⟩;simp only[Bj,Fc,AB];rw[KR ci.out,LY ci.out];unfold KC;cases h:Gs a es 0 with
 |none=>simp only[AB];rw[UL cz.out];exact⟨rfl,rfl⟩
 |some p=>exact⟨rfl,rfl⟩
theorem NK:OpE P ro N fr l ⟨d,.makeMap T none,ty,pos,aft,g⟩ (λv' l'=> ∃b,(∀c,c∈l->c.1≠b)/\v'= .map (some b)/\l'=(b,.map #[] 0)::l):=Dy rfl λρ hρ=>by simp only[execOp,AB];unfold Instr.makeMap;simp only[Dt,AB,Bj];intro b hb;exact⟨b,hb,rfl,rfl⟩
theorem V2{Q:Value->List Ab->Prop}{a:Int}:sl P (Instr.keyThatStays (.int k a) (.int k a)) l Q<->Q (.int k a) l:=by unfold Instr.keyThatStays;rw[Ad (by simp[Instr.sameBits])];exact Do
theorem XV(es:List KB)(i:Nat)(v:Value)(e:KB)(he:es[i]?=some e):(toArray (es.map (MS k))).modify i (λx=>{key:= .int k e.1,val:=v,born:=x.born})=toArray ((es.modify i λx=>(x.1,v,x.2.2)).map (MS k)):=by
 apply BO.1;rw[Hw];simp only;apply C9;intro j;rw[List.getElem?_modify,A0,A0,List.getElem?_modify];by_cases h:i=j
 ·subst h;rw[he];simp[MS]
 ·cases es[j]?<;>simp[h]
theorem KS(hx:ev fr x=some (.map (some m)))(hy:ev fr y=some (.int k a))(hz:ev fr z=some v)[c:MT P T kt et][ci:IT P kt k](hu:Upd l m (Fq k es clock) (Fq k (M5 a v clock es).1 (M5 a v clock es).2) l'):
 OpE P ro N fr l ⟨d,.mapUpdate T x y z,ty,pos,aft,g⟩ (λv' l2=>v'=undef/\l2=l'):=Dy rfl λρ hρ=>by
 simp only[execOp,hρ x _ hx,hρ y _ hy,hρ z _ hz];rw[AB];unfold Instr.mapUpdate;rw[B9 (II c.out)];simp only[AB];refine⟨_,hu.mem,rfl,?_⟩;simp only[Bj,Fc,AB];rw[KR ci.out,LY ci.out];unfold M5 at hu;cases h:Gs a es 0 with
 |none=>
  rw[h] at hu;simp only at hu⊢;refine⟨Fq k es clock,l',?_,rfl,⟨rfl,rfl⟩⟩;have e:(toArray (es.map (MS k))).push {key:= .int k a,val:=v,born:=clock}=toArray ((es++[(a,v,clock)]).map (MS k)):=by simp[MS]
  rw[e];exact hu
 |some p=>
  obtain⟨i,u⟩:=p;rw[h] at hu;simp only at hu⊢;obtain⟨_,e,he,h1,_,_⟩:=Oy h;rw[Nat.sub_zero] at he;subst h1;have hk:(((toArray (es.map (MS k)))[i]?).map (·.key)).getD (.int k e.1)= .int k e.1:=by simp[he,MS]
  simp only[AB];rw[hk,V2];refine⟨Fq k es clock,l',?_,rfl,⟨rfl,rfl⟩⟩;rw[XV es i v e he];exact hu
theorem Rp{T2:TypeId}(hx:ev fr x=some (.map (some m)))(hy:ev fr y=some (.int k a))[c:MT P T kt et][ci:IT P kt k](hu:Upd l m (Fq k es clock) (Fq k (Ox a es) clock) l'):
 OpE P ro N fr l ⟨d,.call {callee:= .builtin .delete,args:=#[x,y],argTypes:=#[T,T2]},ty,pos,aft,g⟩ (λv' l2=>v'= .tuple #[]/\l2=l'):=Dy rfl λρ hρ=>by
 simp only[execOp,resolve,AB,Bj,invoke,builtin,C5,AI,CI,hρ x _ hx,hρ y _ hy];unfold Builtin.delete_;simp only[AC,CY,CX,AB];rw[EC (II c.out)];simp only[AB];refine⟨_,hu.mem,rfl,?_⟩;simp only[Bj,Fc,AB];rw[KR ci.out,LY ci.out];unfold Ox at hu;cases h:Gs a es 0 with
 |none=>rw[h] at hu;exact⟨Fq k es clock,l',hu,rfl,⟨rfl,rfl⟩⟩
 |some p=>
  obtain⟨i,u⟩:=p;rw[h] at hu;refine⟨Fq k es clock,l',?_,rfl,⟨rfl,rfl⟩⟩;have e:(toArray (es.map (MS k))).eraseIdxIfInBounds i=toArray ((es.eraseIdx i).map (MS k)):=by apply BO.1;simp only[IS];rw[Dc,Dc,Aq,Gx,List.map_drop]
  rw[e];exact hu
theorem ZJ(hx:ev fr x=some (.map (some m)))[c:MT P T kt et](hm:(m,Fq k es clock)∈l):OpE P ro N fr l ⟨d,.range T x,ty,pos,aft,g⟩ (λv' l'=> ∃b,(∀c,c∈l->c.1≠b)/\v'= .pointer (some ⟨b,0,none⟩)/\l'=(b,.mapIter (some m) clock #[] clock)::l):=Dy rfl λρ hρ=>by simp only[execOp,hρ x _ hx,AB];unfold Instr.range;rw[AB,EC (II c.out)];simp only[AB];refine⟨_,hm,rfl,?_⟩;simp only[Bj,Fc,AB];intro b hb;exact⟨b,hb,rfl,rfl⟩
theorem fS{last:Nat}(hx:ev fr x=some (.pointer (some ⟨b,0,none⟩)))(hm:(m,Fq k es clock)∈F)(hold: ∀e∈es,e.2.2<since)(hsl:since<=last):
 OpE P ro N fr ((b,.mapIter (some m) since seen last)::F) ⟨d,.next x false,ty,pos,aft,g⟩ (λv' l'=>(v'= .tuple #[.bool false]/\l'=(b,.mapIter (some m) since seen last)::F/\ ∀e∈es,e.2.2∈seen.toList)\/
  ∃e∈es,e.2.2∉seen.toList/\v'= .tuple #[.bool true,.int k e.1,e.2.1]/\l'=(b,.mapIter (some m) since (seen.push e.2.2) clock)::F):=Dy rfl λρ hρ=>by
 simp only[execOp,hρ x _ hx,AB];unfold Instr.next;simp only[AB];refine⟨_,Ak,rfl,?_⟩;simp only[Bj,Fc,AB];refine⟨_,An _ hm,rfl,?_⟩;simp only[Bj,Fc,AB];have hmem: ∀y:MapEntry,y∈es.map (MS k)->y.born<since:=λy hy=>by rw[Au] at hy;obtain⟨e,he,rfl⟩:=hy;exact hold e he
 have hany:(!seen.isEmpty&&!(toArray (es.map (MS k))).isEmpty&&(toArray (es.map (MS k))).all (λe=>decide (e.born>=last)))=false:=by
  cases hes:es with
  |nil=>simp
  |cons e0 r=>
   have:=hold e0 (by rw[hes];exact Ak);have hlt:¬last<=e0.2.2:=by omega
   simp[MS,hlt]
 rw[hany];simp only[Bi,CR];obtain⟨L,hL⟩: ∃L:List KB,L=es.filter λe=>!seen.contains e.2.2:=⟨_,rfl⟩
 have eL:(toArray (es.map (MS k))).filter (λe=>!seen.contains e.born)=toArray (L.map (MS k)):=by apply BO.1;rw[Array.toList_filter];simp only[hL,List.filter_map];congr 1
 have hLm: ∀y:MapEntry,y∈L.map (MS k)->y.born<since:=λy hy=>by rw[Au] at hy;obtain⟨e,he,rfl⟩:=hy;rw[hL] at he;exact hold e (Ci.1 he).1
 rw[eL];have e1:(toArray (L.map (MS k))).filter (λx=>decide (x.born<since))=toArray (L.map (MS k)):=Array.filter_eq_self.2 λy hy=>by simpa using hLm y (by simpa using hy)
 have e2:(toArray (L.map (MS k))).filter (λx=>decide (x.born>=since))=#[]:=by rw[Array.filter_eq_empty_iff];intro y hy;have:=hLm y (by simpa using hy);simp;omega
 simp only[e1,e2,J5];rw[bN];intro tp;cases hLL:L with
 |nil=>
  have hnil:es.filter (λe=>!seen.contains e.2.2)=[]:=by rw[<-hL,hLL]
  have hq:(Question.mapNext 1).forced=true:=by simp[Question.forced]
  simp[hq];refine .inl ⟨rfl,rfl,λe1 e2 e3 he=>?_⟩;have:=List.filter_eq_nil_iff.1 hnil (e1,e2,e3) he;simpa using this
 |cons e0 r=>
  have hne:(toArray ((e0::r).map (MS k))).isEmpty=false:=by simp
  simp only[hne,Bi,CR,J6,Array.size_map];obtain⟨j,hj,hjlt⟩: ∃j,(if(Question.mapNext (toArray ((e0::r).map (MS k))).size).forced=true then 0 else(Question.mapNext (toArray ((e0::r).map (MS k))).size).cut tp)=j/\j<(e0::r).length:=by
   refine⟨_,rfl,?_⟩
   split
   ·simp
   ·simp only[Question.cut,Bn,A3];exact GN _ (by simp)
  rw[hj];have hget:((toArray ((e0::r).map (MS k))).map some)[j]?=some (some (MS k (e0::r)[j])):=by rw[Array.getElem?_map,AC,A0,Al hjlt];rfl
  rw[hget];have hin:(e0::r)[j]∈L:=by rw[hLL];exact Hg hjlt
  rw[hL] at hin;obtain⟨hi1,hi2⟩:=Ci.1 hin;refine⟨.mapIter (some m) since seen last,_,.here,rfl,.inr ⟨_,hi1,by simpa using hi2,rfl,rfl⟩⟩
theorem TD: ∀{es:List KB} {e:KB},e∈es->(es.map (·.2.2)).Nodup->(es.map (MS k)).find? (λx=>x.born==e.2.2)=some (MS k e)
 |[],e,h,_=>by cases h
 |e0::es,e,h,hn=>by
  rw[AI,AN] at hn;rw[AI,BB];rcases Ap.1 h with rfl|h
  ·simp[MS]
  ·have hne:((MS k e0).born==e.2.2)=false:=by
    have:e0.2.2≠e.2.2:=λh2=>hn.1 (by rw[h2];exact Au.2 ⟨e,h,rfl⟩);simpa[MS] using this
   rw[hne];exact TD h hn.2
theorem ZK{e:KB}(hx:ev fr x=some (.pointer (some ⟨b,0,none⟩)))(hi:(b,.mapIter (some m) since (seen.push e.2.2) clock)∈R)(hm:(m,Fq k es clock)∈R)(he:e∈es)(hn:(es.map (·.2.2)).Nodup):
 OpQ P ro N fr R ⟨d,.entry x,ty,pos,aft,g⟩ (.tuple #[.int k e.1,e.2.1]):=BK rfl λρ l hρ hR=>by
 simp only[execOp,hρ x _ hx,AB];unfold Instr.entry;simp only[AB];refine⟨_,hR _ hi,rfl,?_⟩;simp only[Bj,Fc,Array.back?_push,AB];refine⟨_,hR _ hm,rfl,?_⟩;have hf:(toArray (es.map (MS k))).find? (·.born==e.2.2)=some (MS k e):=by rw[<-Array.find?_toList];exact TD he hn
 simp only[Bj,Fc,bne_self_eq_false,Bi,CR,hf];exact⟨rfl,trivial⟩
theorem bP{p:Option Addr}(hx:ev fr x=some (.slice p n cap))(hy:ev fr y=some (.slice none 0 0))[c:ST P t e kk yb]:OpQ P ro N fr R ⟨d,.binOp .eql t x y t2,ty,pos,aft,g⟩ (.bool p.isNone):=BK rfl λρ l hρ _=>by obtain⟨inf,u1,_⟩:=EH c.out;simp only[execOp,hρ x _ hx,hρ y _ hy,AB,XL,Bj,binOp];unfold Op.equal Op.maxDepth Op.equalIn;rw[B9 u1];cases p<;>exact⟨rfl,rfl⟩
theorem fT{T:Nat}[c:ST P T e kk yb]:OpE P ro N fr l ⟨d,.buildSlice T 0 #[],ty,pos,aft,g⟩ (λv' l'=> ∃b,(∀c,c∈l->c.1≠b)/\v'= .slice (some ⟨b,0,none⟩) 0 0/\l'=(b,.cells #[] e (0,0))::l):=Dy rfl λρ hρ=>by
 obtain⟨inf,u1,u2,_⟩:=EH c.out;simp only[execOp,AB];unfold Instr.buildSlice;rw[B9 u1];simp only;rw[EP u2];simp only[Gb,CT,AB];rw[Ac Af];have hf:Instr.fill (λi=>some (i*inf.size,inf.size)) (Array.map (λx=>(#[]:Array Value)[x%(#[]:Array Value).size]!) (Array.range 0)) ((#[]:Array (Nat×Operand)).map λx=>(x.1,ρ x.2)).toList=some #[]:=by simp[Instr.fill]
 simp only[Bj,AB,newRow];rw[hf];simp only[Bj,AB];intro b hb;exact⟨b,hb,rfl,rfl⟩
theorem OwnSl.empty{k:Nat}:OwnSl e k (.slice (some ⟨b,0,none⟩) 0 0) 0 [] [(b,.cells #[] e (0,0))]:=
 ⟨by simp,.inr ⟨b,0,[],rfl,rfl,Af,by unfold maxLen;omega,by simp⟩⟩
theorem V3{p:Option Addr}{T:Nat}(hs:ev fr s=some (.slice p n cap))(hx:ev fr x=some (.slice none 0 0))[c:ST P T e kk yb](hn:n<=cap):
 OpQ P ro N fr R ⟨d,.call {callee:= .builtin .append,args:=#[s,x],argTypes:=#[T,T]},ty,pos,aft,g⟩ (.slice p n cap):=BK rfl λρ l hρ _=>by
 obtain⟨inf,u1,u2,_⟩:=EH c.out;simp only[execOp,resolve,AB,Bj,invoke,builtin,C5,AI,CI,hρ s _ hs,hρ x _ hx];unfold Builtin.append_;simp only[AC,CY,CX,AB];rw[EC u1];simp only;rw[EP u2];simp only[AB];rw[EC u1];simp only[Bj,Bi,CR,Builtin.lenOf,GO,CT,CH,Ad hn,AB,Builtin.firstCells];cases p with
 |none=>exact⟨rfl,rfl⟩
 |some a=>exact⟨rfl,rfl⟩
end
end Go.Proofs.YtlkgekpmileobaaGreat
namespace Go.Proofs.YtlkgekpmileobaaGreat
open Tryz
open List(toArray replicate)
variable{P:Program}{t n f:Nat}
class Vl(a:Nat)(r:outParam Nat):Prop where e:a=r
instance(a:Nat):Vl a a:=⟨rfl⟩
def mkA(p:Nat->Bool)(m:Nat):Nat->Bool
 |0=>true
 |n+1=>(Nat.land (Nat.shiftRight m n) 1==0||p n)&&mkA p m n
theorem mkA.at'{p:Nat->Bool}{m f:Nat}(h:Nat.land (Nat.shiftRight m f) 1=1): ∀n,mkA p m n=true->f<n->p f=true
 |n+1,ha,hf=>by
  unfold mkA at ha;simp only[AR] at ha;rcases Nat.lt_succ_iff_lt_or_eq.1 hf with h1|h1
  ·exact mkA.at' h n ha.2 h1
  ·subst h1;have:=ha.1;rw[h] at this;exact this
theorem TE{p:Nat->Bool}{m:Nat}(hm:Nat.shiftRight m n=0)(ha:mkA p m n=true)(h:Nat.land (Nat.shiftRight m f) 1=1):p f=true:=by
 by_cases hf:f<n
 ·exact mkA.at' h n ha hf
 ·have h2:m>>>f=0:=by
   rw[show f=n+(f-n) by omega,Nat.shiftRight_add,show m>>>n=0 from hm,Nat.zero_shiftRight]
  rw[show Nat.shiftRight m f=0 from h2] at h;cases h
def enB(P:Program)(f:Nat):Bool:=match P.funcs[f]? with
 |some fn=>!(fn.name== "runtime.NumGoroutine")&&!fn.body.isNone
 |none=>false
theorem enB.en(h:enB P f=true):EN P f:=by
 unfold enB at h;cases e:P.funcs[f]? with
 |none=>rw[e] at h;cases h
 |some fn=>rw[e] at h;simp only[AR,DC] at h;refine⟨λargs w=>?_⟩;simp[callFunc,go_sem,e];rw[Ac λh2=>by rw[h2] at h;simp at h,Ac λh2=>by rw[h2] at h;simp at h]
def zoB(P:Program)(q:Value->Bool)(t:Nat):Bool:=match sK P t with
 |some z=>q z
 |none=>false
def qf:Value->Bool
 | .agg _=>true
 |_=>false
def ocB(P:Program)(t:Nat):Bool:=ly P t&&zoB P (λz=>!qf z) t
def zeB:Value->Value->Bool
 | .nilFunc,.nilFunc=>true
 | .pointer none,.pointer none=>true
 | .slice none 0 0,.slice none 0 0=>true
 | .map none,.map none=>true
 |_,_=>false
theorem zoB.out{q:Value->Bool}(h:zoB P q t=true): ∃z,q z=true/\sK P t=some z/\pZ P t=some z.cells.toList:=by
 unfold zoB at h
 split at h
 ·rename_i z hz;refine⟨z,h,hz,?_⟩;unfold sK at hz;unfold pZ;cases hi:P.info? t with
  |none=>rw[hi] at hz;cases hz
  |some i=>rw[hi] at hz;have hz':i.zero=some z:=hz;show(match i.zero with|some z=>some z.cells.toList|none=>none)=_;rw[hz']
 ·cases h
theorem zeB.zv{v:Value}(h:zoB P (zeB v) t=true):ZV P t [v]:=by
 obtain⟨z,h1,_,h3⟩:=zoB.out h;refine⟨?_⟩;rw[h3];unfold zeB at h1
 split at h1<;>first|rfl|cases h1
theorem ocB.zo{z:Value}(h:ocB P t=true)(hz:ZV P t [z]):ZO P t z:=by unfold ocB at h;rw[AR] at h;obtain⟨y,h1,h2,h3⟩:=zoB.out h.2;refine⟨?_⟩;rw[h2];have h4:=hz.out;rw[h3] at h4;cases y<;>first|(cases h1;done)|(cases h4;rfl)
theorem agB.zo{l:List Value}(h:zoB P qf t=true)(hz:ZV P t l):ZO P t (.agg (toArray l)):=by obtain⟨y,h1,h2,h3⟩:=zoB.out h;refine⟨?_⟩;rw[h2];have h4:=hz.out;rw[h3] at h4;cases y<;>first|(cases h1;done)|(cases h4;rfl)
def svB(P:Program)(t n:Nat)(l:List (Nat×Nat)):Bool:=match P.underlying t,P.info? t with
 |some (.struct fs),some j=>fs.toList.map (λf=>(f.offset,f.type))==l&&fs.toList.all (λf=>match P.info? f.type with
  |some i=>!(i.size==0)
  |none=>false)&&j.size==n
 |_,_=>false
class SV(P:Program)(t:Nat)(n:outParam Nat)(l:outParam (List (Nat×Nat))):Prop where out:svB P t n l=true
class LG(l:List (Nat×Nat))(i:Nat)(x:outParam (Nat×Nat)):Prop where out:l[i]?=some x
instance(a:Nat×Nat)(l:List (Nat×Nat)):LG (a::l) 0 a:=⟨rfl⟩
instance(a b:Nat×Nat)(l:List (Nat×Nat))(i:Nat)[h:LG l i b]:LG (a::l) (i+1) b:=⟨h.out⟩
theorem svB.out{l:List (Nat×Nat)}(h:svB P t n l=true): ∃fs j,P.underlying t=some (.struct fs)/\P.info? t=some j/\j.size=n/\fs.toList.map (λf=>(f.offset,f.type))=l/\ ∀f,f∈fs.toList-> ∃i,P.info? f.type=some i/\i.size≠0:=by
 unfold svB at h
 split at h
 ·rename_i fs j h1 h2;rw[AR,AR,AZ] at h;refine⟨fs,j,h1,h2,by simpa using h.2,by simpa using h.1.1,λf hf=>?_⟩;have h3:=h.1.2 f hf
  split at h3
  ·rename_i i hi;exact⟨i,hi,by simpa using h3⟩
  ·cases h3
 ·cases h
theorem LG.at'{l:List (Nat×Nat)}(h:SV P t n l){x:Nat×Nat}(hx:LG l f x): ∃(fs:Array Field) (fd:Field) (i:TypeInfo),P.underlying t=some (.struct fs)/\fs[f]?=some fd/\fd.offset=x.1/\fd.type=x.2/\P.info? fd.type=some i/\i.size≠0:=by
 obtain⟨fs,j,h1,h2,h3,h4,h5⟩:=svB.out h.out;have h6:=hx.out;rw[<-h4,A0] at h6;cases e:fs.toList[f]? with
 |none=>rw[e] at h6;cases h6
 |some fd=>rw[e] at h6;cases h6;obtain⟨i,hi,hz⟩:=h5 fd (A6 e);exact⟨fs,fd,i,h1,by simpa using e,rfl,rfl,hi,hz⟩
instance(P:Program)(s n f k t:Nat)(l:List (Nat×Nat))[h:SV P s n l][hx:LG l f (k,t)]:FV P s f k t:=⟨by obtain⟨fs,fd,i,h1,h2,h3,h4,_⟩:=LG.at' h hx;unfold vH;rw[h1];simp only[h2,BL,h3,h4]⟩
instance(P:Program)(s n f k t:Nat)(l:List (Nat×Nat))[h:SV P s n l][hx:LG l f (k,t)]:FO P s f k:=⟨by obtain⟨fs,fd,i,h1,h2,h3,h4,h5,h6⟩:=LG.at' h hx;unfold vG;rw[h1];simp only[h2,h5,Ac h6,h3]⟩
instance(P:Program)(t n:Nat)(l:List (Nat×Nat))[h:SV P t n l]:BT P t:=⟨by obtain⟨fs,j,h1,_,_,_,h5⟩:=svB.out h.out;unfold wo;rw[h1];show fs.all _=true;rw[<-Array.all_toList,AZ];intro f hf;obtain⟨i,hi,_⟩:=h5 f hf;rw[hi];rfl⟩
instance(P:Program)(t n:Nat)(l:List (Nat×Nat))[h:SV P t n l]:AG P t n:=⟨by obtain⟨fs,j,h1,h2,h3,_⟩:=svB.out h.out;unfold p7;rw[h1,h2];exact BN some h3⟩
theorem Ew{t z}(h:pZ prog t=some z:=by kernel_rfl):ZV prog t z:=⟨h⟩
theorem XW{t z}(h:p7 prog t=some z:=by kernel_rfl):AG prog t z:=⟨h⟩
theorem MJ{t z}(h:vK prog t=some z:=by kernel_rfl):PT prog t z:=⟨h⟩
theorem Fk{t n l}(h:svB prog t n l=true:=by kernel_rfl):SV prog t n l:=⟨h⟩
instance:IT prog 3 .i64:=⟨Bs⟩
instance:ZV prog 3 [.int .i64 0]:=Ew
instance:ZV prog 4 [.bool false]:=Ew
instance:SV prog 23 4 [(0,3),(1,3),(2,3),(3,4)]:=Fk
instance:ZV prog 23 [.int .i64 0,.int .i64 0,.int .i64 0,.bool false]:=Ew
instance:ST prog 24 39 15 120:=⟨Bs⟩
instance:PT prog 27 121:=MJ
instance:ZV prog 29 [.int .i64 0]:=Ew
instance:ST prog 30 69 12 96:=⟨Bs⟩
instance:SV prog 32 2 [(0,29),(1,30)]:=Fk
instance:ZV prog 32 [.int .i64 0,.slice none 0 0]:=Ew
instance:IT prog 34 .u64:=⟨Bs⟩
instance:ZV prog 34 [.int .u64 0]:=Ew
instance:AT prog 35 6 34 1:=⟨Bs⟩
instance:AG prog 35 6:=XW
instance:ZV prog 35 [.int .u64 0,.int .u64 0,.int .u64 0,.int .u64 0,.int .u64 0,.int .u64 0]:=Ew
instance:SV prog 37 7 [(0,34),(1,35)]:=Fk
instance:ZV prog 37 [.int .u64 0,.int .u64 0,.int .u64 0,.int .u64 0,.int .u64 0,.int .u64 0,.int .u64 0]:=Ew
instance:SV prog 39 15 [(0,3),(1,3),(2,3),(3,37),(10,34),(11,34),(12,3),(13,3),(14,3)]:=Fk
instance:ZV prog 39 [.int .i64 0,.int .i64 0,.int .i64 0,.int .u64 0,.int .u64 0,.int .u64 0,.int .u64 0,.int .u64 0,.int .u64 0,.int .u64 0,.int .u64 0,.int .u64 0,.int .i64 0,.int .i64 0,.int .i64 0]:=Ew
instance:ST prog 40 3 1 8:=⟨Bs⟩
instance:ST prog 43 100 9 72:=⟨Bs⟩
instance:ST prog 44 132 10 80:=⟨Bs⟩
instance:ST prog 45 130 3 24:=⟨Bs⟩
instance:ST prog 46 79 24 176:=⟨Bs⟩
instance:AT prog 47 4 3 1:=⟨Bs⟩
instance:AG prog 47 4:=XW
instance:ZV prog 47 [.int .i64 0,.int .i64 0,.int .i64 0,.int .i64 0]:=Ew
instance:SV prog 49 10 [(0,3),(1,4),(2,47),(6,47)]:=Fk
instance:ZV prog 49 [.int .i64 0,.bool false,.int .i64 0,.int .i64 0,.int .i64 0,.int .i64 0,.int .i64 0,.int .i64 0,.int .i64 0,.int .i64 0]:=Ew
instance:AT prog 50 8 49 10:=⟨Bs⟩
instance:AG prog 50 80:=XW
instance:ZV prog 50 [.int .i64 0,.bool false,.int .i64 0,.int .i64 0,.int .i64 0,.int .i64 0,.int .i64 0,.int .i64 0,.int .i64 0,.int .i64 0,.int .i64 0,.bool false,.int .i64 0,.int .i64 0,.int .i64 0,.int .i64 0,.int .i64 0,.int .i64 0,.int .i64 0,.int .i64 0,.int .i64 0,.bool false,.int .i64 0,.int .i64 0,.int .i64 0,.int .i64 0,.int .i64 0,.int .i64 0,.int .i64 0,.int .i64 0,.int .i64 0,.bool false,.int .i64 0,.int .i64 0,.int .i64 0,.int .i64 0,.int .i64 0,.int .i64 0,.int .i64 0,.int .i64 0,.int .i64 0,.bool false,.int .i64 0,.int .i64 0,.int .i64 0,.int .i64 0,.int .i64 0,.int .i64 0,.int .i64 0,.int .i64 0,.int .i64 0,.bool false,.int .i64 0,.int .i64 0,.int .i64 0,.int .i64 0,.int .i64 0,.int .i64 0,.int .i64 0,.int .i64 0,.int .i64 0,.bool false,.int .i64 0,.int .i64 0,.int .i64 0,.int .i64 0,.int .i64 0,.int .i64 0,.int .i64 0,.int .i64 0,.int .i64 0,.bool false,.int .i64 0,.int .i64 0,.int .i64 0,.int .i64 0,.int .i64 0,.int .i64 0,.int .i64 0,.int .i64 0]:=Ew
instance:SV prog 52 86 [(0,43),(1,44),(2,45),(3,46),(4,50),(84,40),(85,40)]:=Fk
instance:ZV prog 52 [.slice none 0 0,.slice none 0 0,.slice none 0 0,.slice none 0 0,.int .i64 0,.bool false,.int .i64 0,.int .i64 0,.int .i64 0,.int .i64 0,.int .i64 0,.int .i64 0,.int .i64 0,.int .i64 0,.int .i64 0,.bool false,.int .i64 0,.int .i64 0,.int .i64 0,.int .i64 0,.int .i64 0,.int .i64 0,.int .i64 0,.int .i64 0,.int .i64 0,.bool false,.int .i64 0,.int .i64 0,.int .i64 0,.int .i64 0,.int .i64 0,.int .i64 0,.int .i64 0,.int .i64 0,.int .i64 0,.bool false,.int .i64 0,.int .i64 0,.int .i64 0,.int .i64 0,.int .i64 0,.int .i64 0,.int .i64 0,.int .i64 0,.int .i64 0,.bool false,.int .i64 0,.int .i64 0,.int .i64 0,.int .i64 0,.int .i64 0,.int .i64 0,.int .i64 0,.int .i64 0,.int .i64 0,.bool false,.int .i64 0,.int .i64 0,.int .i64 0,.int .i64 0,.int .i64 0,.int .i64 0,.int .i64 0,.int .i64 0,.int .i64 0,.bool false,.int .i64 0,.int .i64 0,.int .i64 0,.int .i64 0,.int .i64 0,.int .i64 0,.int .i64 0,.int .i64 0,.int .i64 0,.bool false,.int .i64 0,.int .i64 0,.int .i64 0,.int .i64 0,.int .i64 0,.int .i64 0,.int .i64 0,.int .i64 0,.slice none 0 0,.slice none 0 0]:=Ew
instance:AT prog 54 3 3 1:=⟨Bs⟩
instance:ZV prog 54 [.int .i64 0,.int .i64 0,.int .i64 0]:=Ew
instance:AT prog 55 4 34 1:=⟨Bs⟩
instance:AG prog 55 4:=XW
instance:ZV prog 55 [.int .u64 0,.int .u64 0,.int .u64 0,.int .u64 0]:=Ew
instance:SV prog 57 12 [(0,3),(1,3),(2,3),(3,3),(4,54),(7,34),(8,55)]:=Fk
instance:ZV prog 57 [.int .i64 0,.int .i64 0,.int .i64 0,.int .i64 0,.int .i64 0,.int .i64 0,.int .i64 0,.int .u64 0,.int .u64 0,.int .u64 0,.int .u64 0,.int .u64 0]:=Ew
instance:SV prog 61 2 [(0,3),(1,3)]:=Fk
instance:ZV prog 61 [.int .i64 0,.int .i64 0]:=Ew
instance:ST prog 64 61 2 16:=⟨Bs⟩
instance:SV prog 67 3 [(0,3),(1,34),(2,4)]:=Fk
instance:ZV prog 67 [.int .i64 0,.int .u64 0,.bool false]:=Ew
instance:SV prog 69 12 [(0,3),(1,29),(2,34),(3,55),(7,34),(8,4),(9,67)]:=Fk
instance:ZV prog 69 [.int .i64 0,.int .i64 0,.int .u64 0,.int .u64 0,.int .u64 0,.int .u64 0,.int .u64 0,.int .u64 0,.bool false,.int .i64 0,.int .u64 0,.bool false]:=Ew
instance:SV prog 74 8 [(0,3),(1,3),(2,3),(3,34),(4,3),(5,3),(6,3),(7,3)]:=Fk
instance:ZV prog 74 [.int .i64 0,.int .i64 0,.int .i64 0,.int .u64 0,.int .i64 0,.int .i64 0,.int .i64 0,.int .i64 0]:=Ew
instance:SV prog 77 4 [(0,4),(1,4),(2,34),(3,34)]:=Fk
instance:ZV prog 77 [.bool false,.bool false,.int .u64 0,.int .u64 0]:=Ew
instance:SV prog 79 24 [(0,3),(1,3),(2,3),(3,55),(7,34),(8,4),(9,3),(10,3),(11,55),(15,34),(16,3),(17,3),(18,4),(19,4),(20,77)]:=Fk
instance:ZV prog 79 [.int .i64 0,.int .i64 0,.int .i64 0,.int .u64 0,.int .u64 0,.int .u64 0,.int .u64 0,.int .u64 0,.bool false,.int .i64 0,.int .i64 0,.int .u64 0,.int .u64 0,.int .u64 0,.int .u64 0,.int .u64 0,.int .i64 0,.int .i64 0,.bool false,.bool false,.bool false,.bool false,.int .u64 0,.int .u64 0]:=Ew
instance:ST prog 82 32 2 32:=⟨Bs⟩
instance:ST prog 97 34 1 8:=⟨Bs⟩
instance:SV prog 100 9 [(0,3),(1,3),(2,3),(3,3),(4,3),(5,3),(6,3),(7,3),(8,3)]:=Fk
instance:ZV prog 100 [.int .i64 0,.int .i64 0,.int .i64 0,.int .i64 0,.int .i64 0,.int .i64 0,.int .i64 0,.int .i64 0,.int .i64 0]:=Ew
instance:PT prog 119 153:=MJ
instance:SV prog 121 3 [(0,119),(1,40),(2,82)]:=Fk
instance:ZV prog 121 [.pointer none,.slice none 0 0,.slice none 0 0]:=Ew
instance:IT prog 124 .u64:=⟨Bs⟩
instance:PT prog 125 163:=MJ
instance:SV prog 130 3 [(0,61),(2,3)]:=Fk
instance:ZV prog 130 [.int .i64 0,.int .i64 0,.int .i64 0]:=Ew
instance:SV prog 132 10 [(0,61),(2,74)]:=Fk
instance:ZV prog 132 [.int .i64 0,.int .i64 0,.int .i64 0,.int .i64 0,.int .i64 0,.int .u64 0,.int .i64 0,.int .i64 0,.int .i64 0,.int .i64 0]:=Ew
instance:SV prog 153 1 [(0,125)]:=Fk
instance:ZV prog 153 [.pointer none]:=Ew
instance:PT prog 154 254:=MJ
instance:PT prog 155 283:=MJ
instance:PT prog 156 317:=MJ
instance:PT prog 157 235:=MJ
instance:PT prog 158 242:=MJ
instance:PT prog 159 278:=MJ
instance:PT prog 160 340:=MJ
instance:PT prog 161 345:=MJ
instance:SV prog 163 9 [(0,154),(1,155),(2,156),(3,157),(4,158),(5,159),(6,160),(7,161),(8,40)]:=Fk
instance:ZV prog 163 [.pointer none,.pointer none,.pointer none,.pointer none,.pointer none,.pointer none,.pointer none,.pointer none,.slice none 0 0]:=Ew
instance:PT prog 172 3:=MJ
instance:ST prog 173 184 4 32:=⟨Bs⟩
instance:PT prog 181 184:=MJ
instance:SV prog 184 4 [(0,34),(1,34),(2,172),(3,182)]:=Fk
instance:ZV prog 184 [.int .u64 0,.int .u64 0,.pointer none,.pointer none]:=Ew
instance:ST prog 194 203 5 40:=⟨Bs⟩
instance:SV prog 199 3 [(0,3),(1,3),(2,3)]:=Fk
instance:ZV prog 199 [.int .i64 0,.int .i64 0,.int .i64 0]:=Ew
instance:SV prog 203 5 [(0,3),(1,3),(2,3),(3,3),(4,3)]:=Fk
instance:ZV prog 203 [.int .i64 0,.int .i64 0,.int .i64 0,.int .i64 0,.int .i64 0]:=Ew
instance:PT prog 231 407:=MJ
instance:PT prog 233 329:=MJ
instance:SV prog 235 2 [(0,231),(1,233)]:=Fk
instance:ZV prog 235 [.pointer none,.pointer none]:=Ew
instance:AT prog 240 32 3 1:=⟨Bs⟩
instance:SV prog 242 112 [(0,50),(80,240)]:=Fk
instance:ZV prog 242 [.int .i64 0,.bool false,.int .i64 0,.int .i64 0,.int .i64 0,.int .i64 0,.int .i64 0,.int .i64 0,.int .i64 0,.int .i64 0,.int .i64 0,.bool false,.int .i64 0,.int .i64 0,.int .i64 0,.int .i64 0,.int .i64 0,.int .i64 0,.int .i64 0,.int .i64 0,.int .i64 0,.bool false,.int .i64 0,.int .i64 0,.int .i64 0,.int .i64 0,.int .i64 0,.int .i64 0,.int .i64 0,.int .i64 0,.int .i64 0,.bool false,.int .i64 0,.int .i64 0,.int .i64 0,.int .i64 0,.int .i64 0,.int .i64 0,.int .i64 0,.int .i64 0,.int .i64 0,.bool false,.int .i64 0,.int .i64 0,.int .i64 0,.int .i64 0,.int .i64 0,.int .i64 0,.int .i64 0,.int .i64 0,.int .i64 0,.bool false,.int .i64 0,.int .i64 0,.int .i64 0,.int .i64 0,.int .i64 0,.int .i64 0,.int .i64 0,.int .i64 0,.int .i64 0,.bool false,.int .i64 0,.int .i64 0,.int .i64 0,.int .i64 0,.int .i64 0,.int .i64 0,.int .i64 0,.int .i64 0,.int .i64 0,.bool false,.int .i64 0,.int .i64 0,.int .i64 0,.int .i64 0,.int .i64 0,.int .i64 0,.int .i64 0,.int .i64 0,.int .i64 0,.int .i64 0,.int .i64 0,.int .i64 0,.int .i64 0,.int .i64 0,.int .i64 0,.int .i64 0,.int .i64 0,.int .i64 0,.int .i64 0,.int .i64 0,.int .i64 0,.int .i64 0,.int .i64 0,.int .i64 0,.int .i64 0,.int .i64 0,.int .i64 0,.int .i64 0,.int .i64 0,.int .i64 0,.int .i64 0,.int .i64 0,.int .i64 0,.int .i64 0,.int .i64 0,.int .i64 0,.int .i64 0,.int .i64 0,.int .i64 0,.int .i64 0]:=Ew
instance:ST prog 252 255 8 64:=⟨Bs⟩
instance:SV prog 254 1 [(0,252)]:=Fk
instance:ZV prog 254 [.slice none 0 0]:=Ew
instance:AT prog 255 8 34 1:=⟨Bs⟩
instance:AG prog 255 8:=XW
instance:ZV prog 255 [.int .u64 0,.int .u64 0,.int .u64 0,.int .u64 0,.int .u64 0,.int .u64 0,.int .u64 0,.int .u64 0]:=Ew
instance:MT prog 276 3 79:=⟨Bs⟩
instance:SV prog 278 1 [(0,276)]:=Fk
instance:ZV prog 278 [.map none]:=Ew
instance:ST prog 281 310 3 24:=⟨Bs⟩
instance:SV prog 283 1 [(0,281)]:=Fk
instance:ZV prog 283 [.slice none 0 0]:=Ew
instance:SV prog 293 18 [(0,125),(1,3),(2,57),(14,61),(16,61)]:=Fk
instance:ZV prog 293 [.pointer none,.int .i64 0,.int .i64 0,.int .i64 0,.int .i64 0,.int .i64 0,.int .i64 0,.int .i64 0,.int .i64 0,.int .u64 0,.int .u64 0,.int .u64 0,.int .u64 0,.int .u64 0,.int .i64 0,.int .i64 0,.int .i64 0,.int .i64 0]:=Ew
instance:SV prog 302 5 [(0,3),(1,3),(2,3),(3,4),(4,4)]:=Fk
instance:ZV prog 302 [.int .i64 0,.int .i64 0,.int .i64 0,.bool false,.bool false]:=Ew
instance:PT prog 308 400:=MJ
instance:SV prog 310 3 [(0,3),(1,3),(2,308)]:=Fk
instance:ZV prog 310 [.int .i64 0,.int .i64 0,.pointer none]:=Ew
instance:AT prog 315 64 3 1:=⟨Bs⟩
instance:SV prog 317 66 [(0,3),(1,315),(65,43)]:=Fk
instance:ZV prog 317 [.int .i64 0,.int .i64 0,.int .i64 0,.int .i64 0,.int .i64 0,.int .i64 0,.int .i64 0,.int .i64 0,.int .i64 0,.int .i64 0,.int .i64 0,.int .i64 0,.int .i64 0,.int .i64 0,.int .i64 0,.int .i64 0,.int .i64 0,.int .i64 0,.int .i64 0,.int .i64 0,.int .i64 0,.int .i64 0,.int .i64 0,.int .i64 0,.int .i64 0,.int .i64 0,.int .i64 0,.int .i64 0,.int .i64 0,.int .i64 0,.int .i64 0,.int .i64 0,.int .i64 0,.int .i64 0,.int .i64 0,.int .i64 0,.int .i64 0,.int .i64 0,.int .i64 0,.int .i64 0,.int .i64 0,.int .i64 0,.int .i64 0,.int .i64 0,.int .i64 0,.int .i64 0,.int .i64 0,.int .i64 0,.int .i64 0,.int .i64 0,.int .i64 0,.int .i64 0,.int .i64 0,.int .i64 0,.int .i64 0,.int .i64 0,.int .i64 0,.int .i64 0,.int .i64 0,.int .i64 0,.int .i64 0,.int .i64 0,.int .i64 0,.int .i64 0,.int .i64 0,.slice none 0 0]:=Ew
instance:PT prog 326 331:=MJ
instance:MT prog 327 61 326:=⟨Bs⟩
instance:SV prog 329 2 [(0,326),(1,327)]:=Fk
instance:ZV prog 329 [.pointer none,.map none]:=Ew
instance:SV prog 331 5 [(0,61),(2,3),(3,326),(4,326)]:=Fk
instance:ZV prog 331 [.int .i64 0,.int .i64 0,.int .i64 0,.pointer none,.pointer none]:=Ew
instance:AT prog 338 8 40 1:=⟨Bs⟩
instance:SV prog 340 8 [(0,338)]:=Fk
instance:ZV prog 340 [.slice none 0 0,.slice none 0 0,.slice none 0 0,.slice none 0 0,.slice none 0 0,.slice none 0 0,.slice none 0 0,.slice none 0 0]:=Ew
instance:MT prog 343 3 352:=⟨Bs⟩
instance:SV prog 345 1 [(0,343)]:=Fk
instance:ZV prog 345 [.map none]:=Ew
instance:PT prog 352 354:=MJ
instance:SV prog 354 2 [(0,40),(1,4)]:=Fk
instance:ZV prog 354 [.slice none 0 0,.bool false]:=Ew
instance:SV prog 361 3 [(0,3),(1,3),(2,3)]:=Fk
instance:ZV prog 361 [.int .i64 0,.int .i64 0,.int .i64 0]:=Ew
instance:SV prog 390 5 [(0,4),(1,4),(2,4),(3,4),(4,3)]:=Fk
instance:ZV prog 390 [.bool false,.bool false,.bool false,.bool false,.int .i64 0]:=Ew
instance:AT prog 395 2 302 5:=⟨Bs⟩
instance:AG prog 395 10:=XW
instance:SV prog 397 11 [(0,395),(10,3)]:=Fk
instance:AT prog 398 4 397 11:=⟨Bs⟩
instance:SV prog 400 44 [(0,398)]:=Fk
instance:ZV prog 400 [.int .i64 0,.int .i64 0,.int .i64 0,.bool false,.bool false,.int .i64 0,.int .i64 0,.int .i64 0,.bool false,.bool false,.int .i64 0,.int .i64 0,.int .i64 0,.int .i64 0,.bool false,.bool false,.int .i64 0,.int .i64 0,.int .i64 0,.bool false,.bool false,.int .i64 0,.int .i64 0,.int .i64 0,.int .i64 0,.bool false,.bool false,.int .i64 0,.int .i64 0,.int .i64 0,.bool false,.bool false,.int .i64 0,.int .i64 0,.int .i64 0,.int .i64 0,.bool false,.bool false,.int .i64 0,.int .i64 0,.int .i64 0,.bool false,.bool false,.int .i64 0]:=Ew
instance:MT prog 404 3 405:=⟨Bs⟩
instance:ST prog 405 74 8 64:=⟨Bs⟩
instance:SV prog 407 1 [(0,404)]:=Fk
instance:ZV prog 407 [.map none]:=Ew
instance:SV prog 425 4 [(0,3),(1,3),(2,3),(3,3)]:=Fk
instance:ZV prog 425 [.int .i64 0,.int .i64 0,.int .i64 0,.int .i64 0]:=Ew
instance:SV prog 443 3 [(0,61),(2,3)]:=Fk
instance:ZV prog 443 [.int .i64 0,.int .i64 0,.int .i64 0]:=Ew
instance:SV prog 458 3 [(0,61),(2,3)]:=Fk
instance:ZV prog 458 [.int .i64 0,.int .i64 0,.int .i64 0]:=Ew
instance:AT prog 474 2 4 1:=⟨Bs⟩
instance:ZV prog 474 [.bool false,.bool false]:=Ew
instance:SV prog 492 1 [(0,64)]:=Fk
instance:ZV prog 492 [.slice none 0 0]:=Ew
instance:ST prog 498 458 3 24:=⟨Bs⟩
instance:AT prog 505 4 504 1:=⟨Bs⟩
instance:AG prog 505 4:=XW
instance:ZV prog 505 [.pointer none,.pointer none,.pointer none,.pointer none]:=Ew
instance:SV prog 511 2 [(0,34),(1,29)]:=Fk
instance:ZV prog 511 [.int .u64 0,.int .i64 0]:=Ew
abbrev xR:Nat:=0x7fffffffffffffffffffffffffffffffffffffdfffffffffffffffffffffffffffffffffffffffffffffffffffffffffff8
theorem lN:mkA (enB prog) xR 395=true:=Bs
instance(t:Nat)[h:Vl (Nat.land (Nat.shiftRight xR t) 1) 1]:EN prog t:=enB.en (TE Bs lN h.e)
abbrev wp:Nat:=0x8603fffbff7ff3df7e7effbfff97df3fdb8f77f3e0717ffdaf8f9fce3f0ffc51b1a8b639dffea1ff8f3fdbffbb23eee7fbff3fcdaffe17cdb7fe7bff7098388207f067f30123e
theorem ZL:mkA (ocB prog) wp 564=true:=Bs
instance(t:Nat)[h:Vl (Nat.land (Nat.shiftRight wp t) 1) 1]:OC prog t:=⟨(Bool.and_eq_true_iff.1 (TE Bs ZL h.e)).1⟩
instance(t:Nat)(z:Value)[h:Vl (Nat.land (Nat.shiftRight wp t) 1) 1][hz:ZV prog t [z]]:ZO prog t z:=ocB.zo (TE Bs ZL h.e) hz
abbrev xS:Nat:=0xc2001800040006000c00030000c1f86000000306031c0f00386060300c600000e0070c0000000cc00180000c0300001e030000180000f63c33df80f980c02000
theorem lO:mkA (zoB prog qf) xS 512=true:=Bs
instance(t:Nat)(l:List Value)[h:Vl (Nat.land (Nat.shiftRight xS t) 1) 1][hz:ZV prog t l]:ZO prog t (.agg (toArray l)):=agB.zo (TE Bs lO h.e) hz
abbrev tJ:Nat:=0x84008000000000900040002000000002000004000040000000001800000400012000000000000000002c00000000000611003fc00000020800000000000000000000008000000
theorem fV:mkA (zoB prog (zeB (.pointer none))) tJ 564=true:=Bs
instance(t:Nat)[h:Vl (Nat.land (Nat.shiftRight tJ t) 1) 1]:ZV prog t [.pointer none]:=zeB.zv (TE Bs fV h.e)
abbrev tK:Nat:=0x40000000000000000000000200000000000000000000000000000020000001000000000000004000020000000000000000002000400010000790041000000
theorem fX:mkA (zoB prog (zeB (.slice none 0 0))) tK 499=true:=Bs
instance(t:Nat)[h:Vl (Nat.land (Nat.shiftRight tK t) 1) 1]:ZV prog t [.slice none 0 0]:=zeB.zv (TE Bs fX h.e)
end Go.Proofs.YtlkgekpmileobaaGreat
