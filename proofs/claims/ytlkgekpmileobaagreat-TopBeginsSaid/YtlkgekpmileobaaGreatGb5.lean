/- Laws that the statement's proof leans on (joined out of several texts). -/
import Derived.Test.YtlkgekpmileobaaGreatGb4
import Derived.OrdersIn
import Derived.Test.YtlkgekpmileobaaGreatGb1
set_option linter.unusedVariables false
set_option linter.unusedSimpArgs false
namespace Go.Proofs.YtlkgekpmileobaaGreat
open Go.RowKit
variable{a:Act}{tbl:List (List Nat)}{listed:Array Bool}{l:List Ab}{W:World}{Φ:Act->Prop}{o:Oper}{j i N k:Nat}{fr:Fr}{os:List Oper}{K:Value->World->Prop}{ds:List Deferred}{ops:Array Oper}{v:Value}{r:List (Nat×Bool)}
abbrev BC:=Nat×Bool×Oper
variable{pl rest:List BC}{x y:BC}{pend:List (BC×Value)}
section
variable{P:Program}{ro:Option Nat}{E:World}{Q:Exit->Act->World->Prop}{R:List Ab}
def StepV(P:Program)(ro:Option Nat)(ops:Array Oper)(o:Oper)(a:Act)(W:World)(K:Value->World->Prop):Prop:=
 if Region.wanted o (yielded ops a.tmps) then OpVal P ro o a.eval W K else K undef W
theorem StepV.mono{K':Value->World->Prop}(hk: ∀v w,K v w->K' v w)(h:StepV P ro ops o a W K):StepV P ro ops o a W K':=by
 unfold StepV at*
 split
 ·rename_i hw;rw[Ae hw] at h;exact h.mono hk
 ·rename_i hw;rw[Ac hw] at h;exact hk _ _ h
theorem StepV.put{d:Option Nat}{u:Value}(hs: ∀cs b,o.op≠ .select cs b)(hd: ∀t,d=some t->t∉o.looksAt ops):StepV P ro ops o (a.put d u) W K<->StepV P ro ops o a W K:=by unfold StepV OpVal;rw[wanted_put o a d u hd,execOp_put o hs a d u hd]
theorem StepV.op{next:Act->World->Prop}(hi:ops[i]?=some o)(hd:Ie o.op=true)(h:StepV P ro ops o a W K)(hk: ∀v w,K v w->next (a.put o.dst v) w):wpOpIn (Fw ro) 0 P ops Q i next a W:=by
 unfold wpOpIn;rw[hi];unfold StepV at h;simp only
 split
 ·rename_i hw;rw[Ae hw] at h;exact h.wpIn hd hk
 ·rename_i hw;rw[Ac hw] at h;exact⟨λ_ _=>trivial,hk _ _ h⟩
def Ff(tbl:List (List Nat))(j i:Nat):Bool:=((tbl[j]?).getD []).contains i
abbrev Fd:=List (Nat×List Ab)
abbrev Sw:=Option (List (Nat×Nat))
def NA(sw:Sw)(i j:Nat):Bool:=match sw with
 |some L=>L.contains (i,j)
 |none=>false
def Lo(P:Program)(ro:Option Nat)(E:World)(ops:Array Oper)(R:List Ab)(tbl:List (List Nat))(sp:Fd)(i:Nat)(o:Oper)(Φ:Act->Prop)(l:List Ab)(K:Act->Value->List Ab->Prop):Prop:=
 ∀a W,Φ a->Sat E l W->StepV P ro ops o a W (λv W'=> ∃l',K a v l'/\(∀c,c∈R->c∈l')/\(∀x,x∈sp->Ff tbl i x.1=false-> ∀c,c∈x.2->c∈l')/\Sat E l' W')
def Lp(ops:Array Oper)(tbl:List (List Nat))(sw:Sw)(x y:BC):Bool:=
 (((x.2.1&&x.2.2.apart ops y.2.2)||Ff tbl y.1 x.1)||NA sw x.1 y.1)&&(x.2.2.after.all λe=>!Region.binds .any e||e.on !=y.1)&&x.1 !=y.1
def QR(ops:Array Oper)(x:BC):Bool:=(x.2.2.after.all λe=>!Region.binds .any e||(e.on !=x.1&&decide (e.on<ops.size)))&&Ie x.2.2.op&&(match x.2.2.op with| .select ..=>false|_=>true)
def FI(ops:Array Oper)(tbl:List (List Nat))(sw:Sw):List BC->Bool
 |[]=>true
 |x::r=>QR ops x&&r.all (Lp ops tbl sw x)&&FI ops tbl sw r
def Sy(sw:Sw)(pl:List BC):Bool:=match sw with
 |some L=>L.all λp=>pl.any λx=>x.1==p.1&&!x.2.1
 |none=>true
def NB(tbl:List (List Nat))(sw:Sw)(i:Nat)(rest:List BC)(j:Nat):Prop:=j=i\/(NA sw i j=true/\(∀y,y∈rest->Ff tbl j y.1=false)/\ ∃y,y∈rest/\y.1=j)
inductive SemPlan(P:Program)(ro:Option Nat)(E:World)(ops:Array Oper)(Q:Exit->Act->World->Prop)(R:List Ab)(tbl:List (List Nat)):Sw->Fd->List BC->(Act->Prop)->List Ab->Prop
 |nil {sw:Sw} {sp:Fd} {Φ:Act->Prop} {l:List Ab}:(∀a W,Φ a->Sat E l W->Q .normal a W)->SemPlan P ro E ops Q R tbl sw sp [] Φ l
 |quiet {sw:Sw} {sp:Fd} {i:Nat} {o:Oper} {rest:List BC} {Φ:Act->Prop} {l:List Ab} (v:Value) (S:List Ab):(∀c,c∈S->c∈l)->(∀a,Φ a-> ∀E' l' W,(∀c,c∈R->c∈l')->(∀c,c∈S->c∈l')->Sat E' l' W->StepV P ro ops o a W (λu W'=>u=v/\Sat E' l' W'))->SemPlan P ro E ops Q R tbl sw ((i,S)::sp) rest (λa'=> ∃a,Φ a/\a'=a.put o.dst v) l->SemPlan P ro E ops Q R tbl sw sp ((i,true,o)::rest) Φ l
 |eff {sw:Sw} {sp:Fd} {i:Nat} {o:Oper} {rest:List BC} {Φ:Act->Prop} {l:List Ab} (oo:Nat->Oper) (K:Nat->Act->Value->List Ab->Prop) (rf:Nat->List BC) (sf:Nat->Sw):
   (∀j,NB tbl sw i rest j->((j,false,oo j)::rf j).Perm ((i,false,o)::rest)/\((j=i/\sf j=sw/\rf j=rest)\/(FI ops tbl (sf j) (rf j)=true/\Sy (sf j) (rf j)=true)))->
   (∀j,NB tbl sw i rest j->Lo P ro E ops R tbl sp j (oo j) Φ l (K j))->
   (∀j,NB tbl sw i rest j-> ∀a v l',K j a v l'->SemPlan P ro E ops Q R tbl (sf j) sp (rf j) (λa'=>a'=a.put (oo j).dst v) l')->SemPlan P ro E ops Q R tbl sw sp ((i,false,o)::rest) Φ l
def putAll:List (BC×Value)->Act->Act
 |[],a=>a
 |(p,v)::r,a=>putAll r (a.put p.2.2.dst v)
theorem IS(x y:List (BC×Value))(a:Act):putAll (x++y) a=putAll y (putAll x a):=by
 induction x generalizing a with
 |nil=>rfl
 |cons p x ih=>exact ih _
theorem QU{x:List (BC×Value)}{d:Option Nat}(h: ∀p,p∈x-> ∀t,d=some t->p.1.2.2.dst≠some t):putAll x (a.put d v)=(putAll x a).put d v:=by
 induction x generalizing a with
 |nil=>rfl
 |cons p x ih=>obtain⟨p,u⟩:=p;simp only[putAll];rw[Act.put_comm a v u (λt ht=>h _ Ak t ht)];exact ih λq hq=>h q (An _ hq)
theorem StepV.putAll{o:Oper}{W:World}{K:Value->World->Prop}(hs: ∀cs b,o.op≠ .select cs b): ∀{x:List (BC×Value)} {a:Act},(∀p,p∈x-> ∀t,p.1.2.2.dst=some t->t∉o.looksAt ops)->(StepV P ro ops o (putAll x a) W K<->StepV P ro ops o a W K)
 |[],a,_=>Di
 |(p,v)::x,a,h=>by simp only[Go.Proofs.YtlkgekpmileobaaGreat.putAll];rw[StepV.putAll hs (λq hq=>h q (An _ hq)),StepV.put hs (λt ht=>h _ Ak t ht)]
def QV(ops:Array Oper)(tbl:List (List Nat)):Bool:=
 (List.range ops.size).all λj=>((tbl[j]?).getD []).all λi=>match ops[j]? with
   |some o=>o.after.any λe=>Region.binds .any e&&(e.on==i||(decide (e.on<j)&&Ff tbl e.on i))
   |none=>false
def ji(ops:Array Oper)(listed:Array Bool):Prop:= ∀j o,ops[j]?=some o->listed.getD j false=true-> ∀e∈o.after,Region.binds .any e=true->listed.getD e.on false=true
theorem Xe(ht:QV ops tbl=true)(hd:ji ops listed): ∀(n j:Nat) (o:Oper),j<=n->ops[j]?=some o->(∀e∈o.after,Region.binds .any e=true->listed.getD e.on false=true)-> ∀i,Ff tbl j i=true->listed.getD i false=true:=by
 intro n
 induction n with
 |zero=>
  intro j o hj ho hall i hi;obtain rfl:j=0:=by omega
  have hlt:0<ops.size:=(BA.1 ho).1;have h1:=A6.1 ht 0 (by simpa using hlt);have h2:=A6.1 h1 i (by simpa[Ff] using hi);rw[ho] at h2;simp only[Array.any_eq_true,AX,Fl,JD,Br] at h2;obtain⟨k,hk,hb,he|⟨hlt',_⟩⟩:=h2
  ·rw[<-he];exact hall _ (Kb hk) hb
  ·omega
 |succ n ih=>
  intro j o hj ho hall i hi;have hlt:j<ops.size:=(BA.1 ho).1;have h1:=A6.1 ht j (by simpa using hlt);have h2:=A6.1 h1 i (by simpa[Ff] using hi);rw[ho] at h2;simp only[Array.any_eq_true,AX,Fl,JD,Br] at h2;obtain⟨k,hk,hb,he|⟨hlt',ha⟩⟩:=h2
  ·rw[<-he];exact hall _ (Kb hk) hb
  ·have hl:=hall _ (Kb hk) hb;have hs:o.after[k].on<ops.size:=by omega
   exact ih _ _ Af (Cw hs) (hd _ _ (Cw hs) hl) i ha
theorem FU(h:QR ops x=true):(∀e∈x.2.2.after,Region.binds .any e=true->e.on≠x.1/\e.on<ops.size)/\Ie x.2.2.op=true/\ ∀cs b,x.2.2.op≠ .select cs b:=by unfold QR at h;simp only[AX] at h;obtain⟨⟨h1,h2⟩,h3⟩:=h;refine⟨λe he hb=>?_,h2,λcs b hc=>by rw[hc] at h3;cases h3⟩;obtain⟨k,hk,rfl⟩:=Array.getElem_of_mem he;have:=Array.all_eq_true.1 h1 k hk;rw[hb] at this;simpa using this
theorem EO{sw:Sw}(h:Lp ops tbl sw x y=true):((x.2.1=true/\x.2.2.apart ops y.2.2=true)\/Ff tbl y.1 x.1=true\/NA sw x.1 y.1=true)/\(∀e∈x.2.2.after,Region.binds .any e=true->e.on≠y.1)/\x.1≠y.1:=by unfold Lp at h;simp only[AX,Fl,bne_iff_ne,ne_eq] at h;obtain⟨⟨h1,h2⟩,h3⟩:=h;refine⟨by rcases h1 with(h1|h1)|h1;exact .inl h1;exact .inr (.inl h1);exact .inr (.inr h1),λe he hb=>?_,h3⟩;obtain⟨k,hk,rfl⟩:=Array.getElem_of_mem he;have:=Array.all_eq_true.1 h2 k hk;rw[hb] at this;simpa using this
theorem Lq{tbl:List (List Nat)}{sw:Sw}: ∀{l:List BC},FI ops tbl sw l=true->(∀x,x∈l->QR ops x=true)/\l.Pairwise (λx y=>Lp ops tbl sw x y=true)
 |[],_=>⟨by simp,.nil⟩
 |x::r,h=>by simp only[FI,AX] at h;obtain⟨⟨h1,h2⟩,h3⟩:=h;obtain⟨k1,k2⟩:=Lq h3;exact⟨λy hy=>by rcases Aq.1 hy with rfl|hy;exact h1;exact k1 y hy,BY.2 ⟨λy hy=>A6.1 h2 y hy,k2⟩⟩
structure Way(P:Program)(ro:Option Nat)(E:World)(ops:Array Oper)(Q:Exit->Act->World->Prop)(R:List Ab)(tbl:List (List Nat))(sw:Sw)(sp:Fd)(listed:Array Bool)(pend:List (BC×Value))(rest:List BC)(Φ:Act->Prop)(l:List Ab)(a:Act)(W:World):Prop where
 phi:Φ (putAll pend a)
 sub: ∀c,c∈R->c∈l
 sat:Sat E l W
 plan:SemPlan P ro E ops Q R tbl sw sp rest Φ l
 quiet: ∀p1 x v p2,pend=p1++(x,v)::p2->x.2.1=true/\ ∃S,(x.1,S)∈sp/\(∀c,c∈S->c∈l)/\ ∀E' l' W,(∀c,c∈R->c∈l')->(∀c,c∈S->c∈l')->Sat E' l' W->StepV P ro ops x.2.2 (putAll p1 a) W (λu W'=>u=v/\Sat E' l' W')
 size:listed.size=ops.size
 un: ∀i,i<ops.size->(listed.getD i true=false<-> ∃x,x∈pend.map Prod.fst++rest/\x.1=i)
 num: ∀x,x∈pend.map Prod.fst++rest->ops[x.1]?=some x.2.2
 self: ∀x,x∈pend.map Prod.fst++rest->QR ops x=true
 pairs:(pend.map Prod.fst++rest).Pairwise (λx y=>Lp ops tbl sw x y=true)
 swf: ∀x,x∈pend.map Prod.fst++rest-> ∀j,NA sw x.1 j=true->x.2.1=false
 down:ji ops listed
theorem YU(h:i<listed.size):listed.getD i true=listed.getD i false:=by simp[C0,Cw h]
theorem Way.notAnc{sw:Sw}{sp:Fd}(h:Way P ro E ops Q R tbl sw sp listed pend rest Φ l a W)(ht:QV ops tbl=true)(hr:j∈Region.ready .any ops listed)(hx:x∈pend.map Prod.fst++rest):Ff tbl j x.1=false:=by
 obtain⟨h0,o,ho,hall⟩:=mem_ready.1 hr;cases hc:Ff tbl j x.1
 ·rfl
 ·have h1:=Xe ht h.down j j o (A5 _) ho hall x.1 hc;have hlt:x.1<ops.size:=(BA.1 (h.num x hx)).1;have h2:=(h.un x.1 hlt).2 ⟨x,hx,rfl⟩;rw[YU (by rw[h.size];exact hlt),h1] at h2;cases h2
theorem Sz(h:j<listed.size)(d:Bool):(listed.setIfInBounds j true).getD j d=true:=by simp[C0,h]
theorem Way.down'{tbl:List (List Nat)}(hd:ji ops listed)(hsz:listed.size=ops.size)(hr:j∈Region.ready .any ops listed):ji ops (listed.setIfInBounds j true):=by
 obtain⟨h0,o,ho,hall⟩:=mem_ready.1 hr;intro i oi hi hl e he hb;by_cases e1:i=j
 ·subst e1;rw[ho] at hi;cases hi;exact getD_set_true (hall e he hb)
 ·rw[getD_set_ne _ (Gn e1)] at hl;exact getD_set_true (hd i oi hi hl e he hb)
theorem Vw{p q:List BC}(hsz:listed.size=ops.size)(hx:x.1<ops.size)(hne: ∀y,y∈p++q->y.1≠x.1)(h: ∀i,i<ops.size->(listed.getD i true=false<-> ∃y,y∈p++x::q/\y.1=i)):
 ∀i,i<ops.size->((listed.setIfInBounds x.1 true).getD i true=false<-> ∃y,y∈p++q/\y.1=i):=by
 intro i hi;by_cases e:i=x.1
 ·subst e;rw[Sz (by rw[hsz];exact hx)];constructor
  ·intro h0;cases h0
  ·rintro⟨y,hy,hyi⟩;exact absurd hyi (hne y hy)
 ·rw[getD_set_ne _ (Gn e),h i hi];constructor
  ·rintro⟨y,hy,rfl⟩;refine⟨y,?_,rfl⟩;rcases AF.1 hy with hy|hy
   ·exact Ai _ hy
   ·rcases Aq.1 hy with rfl|hy
    ·exact absurd rfl e
    ·exact Aa _ hy
  ·rintro⟨y,hy,rfl⟩;refine⟨y,?_,rfl⟩;rcases AF.1 hy with hy|hy
   ·exact Ai _ hy
   ·exact Aa _ (An _ hy)
theorem Way.pend_step{sw:Sw}{sp:Fd}{p1 p2:List (BC×Value)}(ht:QV ops tbl=true)(h:Way P ro E ops Q R tbl sw sp listed (p1++(x,v)::p2) rest Φ l a W)(hr:x.1∈Region.ready .any ops listed):
 StepV P ro ops x.2.2 a W (λu W'=>Way P ro E ops Q R tbl sw sp (listed.setIfInBounds x.1 true) (p1++p2) rest Φ l (a.put x.2.2.dst u) W'):=by
 have hxm:x∈(p1++(x,v)::p2).map Prod.fst++rest:=by simp
 have hap: ∀q,q∈p1->q.1.2.2.apart ops x.2.2=true:=by
  intro q hq;have hp:=h.pairs;simp only[Ap,AJ,Al,Ad] at hp;have:=(Bh.1 hp).2.2 q.1 (Au.2 ⟨q,hq,rfl⟩) x Ak;rcases(EO this).1 with⟨_,h1⟩|h1|h1
  ·exact h1
  ·have:=h.notAnc ht hr (x:=q.1) (Ai _ (Au.2 ⟨q,by simp[hq],rfl⟩));rw[this] at h1;cases h1
  ·obtain⟨q1,q2,rfl⟩:=FX hq;have hqt:=(h.quiet q1 q.1 q.2 (q2++(x,v)::p2) (by simp)).1;have hqf:=h.swf q.1 (Ai _ (Au.2 ⟨q,by simp,rfl⟩)) _ h1;rw[hqt] at hqf;cases hqf
 have hsel:=(FU (h.self x hxm)).2.2;obtain⟨hxt,S,hSp,hSl,hq⟩:=h.quiet p1 x v p2 rfl;have h1:=hq E l W h.sub hSl h.sat;rw[StepV.putAll hsel (λq hqm t ht'=>(Oper.apart_spec (hap q hqm)).1 t ht')] at h1;refine h1.mono ?_;rintro u W' ⟨rfl,hs'⟩;have hcomm: ∀q1:List (BC×Value),(∀q,q∈q1->q∈p1)->putAll q1 (a.put x.2.2.dst u)=(putAll q1 a).put x.2.2.dst u:=λq1 hq1=>QU λq hqm t ht' hc=>(Oper.apart_spec (hap q (hq1 q hqm))).2.1 t hc ht';have hlt:x.1<ops.size:=(BA.1 (h.num x hxm)).1;have hsub:((p1++p2).map Prod.fst++rest).Sublist ((p1++(x,u)::p2).map Prod.fst++rest):=by simp only[Ap,AJ];exact Jm (Jm (Eb _) (DI _ _)) (Eb _)
 refine⟨?_,h.sub,hs',h.plan,?_,by simpa using h.size,?_,λy hy=>h.num y (hsub.subset hy),λy hy=>h.self y (hsub.subset hy),h.pairs.sublist hsub,λy hy=>h.swf y (hsub.subset hy),Way.down' (tbl:=tbl) h.down h.size hr⟩
 ·have:=h.phi;rw[IS] at this⊢;rw[hcomm p1 λ_ hq=>hq];exact this
 ·intro q1 y w q2 hsp;rcases List.append_eq_append_iff.1 hsp with⟨m,e1,e2⟩|⟨m,e1,e2⟩
  ·
   subst e1;have hsp':p1++(x,u)::p2=(p1++(x,u)::m)++(y,w)::q2:=by simp[e2]
   obtain⟨k1,k2⟩:=h.quiet _ y w q2 hsp';refine⟨k1,?_⟩;rw[IS] at k2⊢;rw[hcomm p1 λ_ hq=>hq];exact k2
  ·cases m with
   |nil=>
    simp only[Be,Ag] at e1 e2;subst e1;have hsp':p1++(x,u)::p2=(p1++[(x,u)])++(y,w)::q2:=by simp[e2]
    obtain⟨k1,k2⟩:=h.quiet _ y w q2 hsp';refine⟨k1,?_⟩;rw[IS] at k2;rw[hcomm p1 λ_ hq=>hq];exact k2
   |cons z m=>
    simp only[Ad,CJ] at e2;obtain⟨e3,e4⟩:=e2;subst e3;have hsp':p1++(x,u)::p2=q1++(y,w)::(m++(x,u)::p2):=by rw[e1];simp
    obtain⟨k1,S2,k3,k4,k2⟩:=h.quiet _ y w _ hsp';refine⟨k1,S2,k3,k4,λE' l' W2 hR hS2 hs2=>?_⟩;rw[hcomm q1 (λq hq=>by rw[e1];exact Ai _ hq)];have hym:y∈(p1++(x,u)::p2).map Prod.fst++rest:=by rw[e1];simp
    rw[StepV.put (FU (h.self y hym)).2.2 (λt ht'=>(Oper.apart_spec (hap (y,w) (by rw[e1];simp))).2.2 t ht')];exact k2 E' l' W2 hR hS2 hs2
 ·have hne: ∀y,y∈p1.map Prod.fst++(p2.map Prod.fst++rest)->y.1≠x.1:=by
   intro y hy;have hp:=h.pairs;simp only[Ap,AJ,Al,Ad] at hp;rcases AF.1 hy with hy|hy
   ·exact(EO ((Bh.1 hp).2.2 y hy x Ak)).2.2
   ·exact λe=>(EO ((BY.1 (Bh.1 hp).2.1).1 y hy)).2.2 e.symm
  have:=Vw (p:=p1.map Prod.fst) (q:=p2.map Prod.fst++rest) h.size hlt hne (by simpa using h.un);simpa using this
theorem Way.pass{sw:Sw}{sp:Fd}(h:Way P ro E ops Q R tbl sw sp listed pend ((i,true,o)::rest) Φ l a W):
 ∃v Φ' sp',Way P ro E ops Q R tbl sw sp' listed (pend++[((i,true,o),v)]) rest Φ' l a W:=by
 obtain⟨v,S,hSl,hv,hp⟩: ∃v S,(∀c,c∈S->c∈l)/\(∀a,Φ a-> ∀E' l' W,(∀c,c∈R->c∈l')->(∀c,c∈S->c∈l')->Sat E' l' W->StepV P ro ops o a W (λu W'=>u=v/\Sat E' l' W'))/\SemPlan P ro E ops Q R tbl sw ((i,S)::sp) rest (λa'=> ∃a,Φ a/\a'=a.put o.dst v) l:=by
  cases h.plan with
  |quiet v S h1 h2 h3=>exact⟨v,S,h1,h2,h3⟩
 have e:(pend++[((i,true,o),v)]).map Prod.fst++rest=pend.map Prod.fst++(i,true,o)::rest:=by simp
 refine⟨v,_,_,⟨_,h.phi,by rw[IS];rfl⟩,h.sub,h.sat,hp,?_,h.size,by rw[e];exact h.un,by rw[e];exact h.num,by rw[e];exact h.self,by rw[e];exact h.pairs,by rw[e];exact h.swf,h.down⟩
 ·intro p1 x u p2 hsp;rcases List.append_eq_append_iff.1 hsp with⟨m,e1,e2⟩|⟨m,e1,e2⟩
  ·cases m with
   |nil=>simp only[Ag,CJ,Be] at e1 e2;obtain⟨e3,_⟩:=e2;cases e3;subst e1;exact⟨rfl,S,Ak,hSl,hv _ h.phi⟩
   |cons z m=>simp at e2
  ·cases m with
   |nil=>simp only[Ag,CJ,Be] at e1 e2;obtain⟨e3,_⟩:=e2;cases e3;subst e1;exact⟨rfl,S,Ak,hSl,hv _ h.phi⟩
   |cons z m=>simp only[Ad,CJ] at e2;obtain⟨e3,e4⟩:=e2;subst e3;obtain⟨q1,S2,q2,q3,q4⟩:=h.quiet p1 x u m e1;exact⟨q1,S2,An _ q2,q3,q4⟩
theorem SY{sw sw':Sw}(h:Lp ops tbl sw x y=true)(hn:NA sw x.1 y.1=false):Lp ops tbl sw' x y=true:=by
 unfold Lp at h⊢;simp only[AX,Fl] at h⊢;obtain⟨⟨h1,h2⟩,h3⟩:=h;refine⟨⟨.inl ?_,h2⟩,h3⟩;rcases h1 with h1|h1
 ·exact h1
 ·rw[hn] at h1;cases h1
theorem SZ{sw:Sw}(h:Sy sw pl=true)(hs:NA sw i j=true): ∃x,x∈pl/\x.1=i/\x.2.1=false:=by
 cases sw with
 |none=>cases hs
 |some L=>simp only[NA,Iu] at hs;have h1:=A6.1 h _ hs;obtain⟨x,hx,h2⟩:=GU.1 h1;simp only[AX,JD,Ex] at h2;exact⟨x,hx,h2.1,h2.2⟩
theorem Ug: ∀(l:List BC),(l.map (λx:BC=>x.1)).Nodup-> ∀{x y:BC},x∈l->y∈l->x.1=y.1->x=y
 |[],_,_,_,hx,_,_=>by cases hx
 |z::l,h,x,y,hx,hy,e=>by
  rw[AJ,AM] at h;rcases Aq.1 hx with h1|h1<;>rcases Aq.1 hy with h2|h2
  ·rw[h1,h2]
  ·exact(h.1 (Au.2 ⟨y,h2,by rw[<-e,h1]⟩)).elim
  ·exact(h.1 (Au.2 ⟨x,h1,by rw[e,h2]⟩)).elim
  ·exact Ug l h.2 h1 h2 e
theorem Way.eff_step{sw:Sw}{sp:Fd}(ht:QV ops tbl=true)(h:Way P ro E ops Q R tbl sw sp listed pend ((i,false,o)::rest) Φ l a W)(hr:j∈Region.ready .any ops listed)(hj: ∃x,x∈(i,false,o)::rest/\x.1=j):
 ∃oj,ops[j]?=some oj/\Ie oj.op=true/\StepV P ro ops oj a W (λu W'=> ∃sw' rest' Φ' l',Way P ro E ops Q R tbl sw' sp (listed.setIfInBounds j true) pend rest' Φ' l' (a.put oj.dst u) W'/\rest'.length=rest.length):=by
 have hcand:NB tbl sw i rest j:=by
  obtain⟨x,hx,hxj⟩:=hj;rcases Aq.1 hx with rfl|hx
  ·exact .inl hxj.symm
  ·by_cases hij:j=i
   ·exact .inl hij
   refine .inr ⟨?_,λy hy=>h.notAnc ht hr (x:=y) (by simp[hy]),x,hx,hxj⟩;have hp:=(BY.1 (Bh.1 h.pairs).2.1).1 x hx;rcases(EO hp).1 with⟨h1,_⟩|h1|h1
   ·cases h1
   ·have:=h.notAnc ht hr (x:=(i,false,o)) (by simp);simp only[hxj] at h1;rw[this] at h1;cases h1
   ·rw[hxj] at h1;exact h1
 obtain⟨oj,Kj,rj,swj,hperm,hok,hst,hpl⟩: ∃(oj:Oper) (Kj:Act->Value->List Ab->Prop) (rj:List BC) (swj:Sw),((j,false,oj)::rj).Perm ((i,false,o)::rest)/\((j=i/\swj=sw/\rj=rest)\/(FI ops tbl swj rj=true/\Sy swj rj=true))/\Lo P ro E ops R tbl sp j oj Φ l Kj/\ ∀a v l',Kj a v l'->SemPlan P ro E ops Q R tbl swj sp rj (λa'=>a'=a.put oj.dst v) l':=by
  cases h.plan with
  |eff oo K rf sf h1 h2 h3=>exact⟨oo j,K j,rf j,sf j,(h1 j hcand).1,(h1 j hcand).2,h2 j hcand,h3 j hcand⟩
 have hmem: ∀x,x∈pend.map Prod.fst++(j,false,oj)::rj<->x∈pend.map Prod.fst++(i,false,o)::rest:=λx=>by rw[AF,AF,hperm.mem_iff]
 have hxm:(j,false,oj)∈pend.map Prod.fst++(i,false,o)::rest:=(hmem _).1 (by simp);have hsubm: ∀x,x∈pend.map Prod.fst++rj->x∈pend.map Prod.fst++(i,false,o)::rest:=λx hx=>(hmem x).1 (by
  rcases AF.1 hx with hx|hx
  ·exact Ai _ hx
  ·exact Aa _ (An _ hx))
 have hq: ∀q,q∈pend->q.1.2.1=true:=λq hq=>by obtain⟨q1,q2,rfl⟩:=FX hq;exact(h.quiet q1 q.1 q.2 q2 rfl).1
 have hqs: ∀q,q∈pend-> ∀y,NA sw q.1.1 y=false:=λq hqm y=>by
  cases hc:NA sw q.1.1 y with
  |false=>rfl
  |true=>have:=h.swf q.1 (Ai _ (Au.2 ⟨q,hqm,rfl⟩)) _ hc;rw[hq q hqm] at this;cases this
 have hcross: ∀q,q∈pend-> ∀y,y∈(i,false,o)::rest->Lp ops tbl sw q.1 y=true:=λq hqm y hy=>(Bh.1 h.pairs).2.2 q.1 (Au.2 ⟨q,hqm,rfl⟩) y hy;have hjr:(j,false,oj)∈(i,false,o)::rest:=hperm.mem_iff.1 (by simp);have hna: ∀q,q∈pend->Ff tbl j q.1.1=false:=λq hq=>h.notAnc ht hr (x:=q.1) (Ai _ (Au.2 ⟨q,hq,rfl⟩));have hap: ∀q,q∈pend->q.1.2.2.apart ops oj=true:=by
  intro q hqm;rcases(EO (hcross q hqm _ hjr)).1 with⟨_,h1⟩|h1|h1
  ·exact h1
  ·simp only at h1;rw[hna q hqm] at h1;cases h1
  ·rw[hqs q hqm] at h1;cases h1
 have hsel:=(FU (h.self _ hxm)).2.2;refine⟨oj,h.num _ hxm,(FU (h.self _ hxm)).2.1,?_⟩;have h1:=hst _ W h.phi h.sat;rw[StepV.putAll hsel (λq hqm t ht'=>(Oper.apart_spec (hap q hqm)).1 t ht')] at h1;refine h1.mono ?_;rintro u W' ⟨l',hk,hR',hsp',hs'⟩;have hp':=hpl _ _ _ hk;have hcomm: ∀q1:List (BC×Value),(∀q,q∈q1->q∈pend)->putAll q1 (a.put oj.dst u)=(putAll q1 a).put oj.dst u:=λq1 hq1=>QU λq hqm t ht' hc=>(Oper.apart_spec (hap q (hq1 q hqm))).2.1 t hc ht';have hlt:j<ops.size:=(BA.1 (h.num _ hxm)).1;have hnd:(((i,false,o)::rest).map (λx:BC=>x.1)).Nodup:=by rw[Dz,Ck];exact(Bh.1 h.pairs).2.1.imp λhp=>(EO hp).2.2
 have hndj: ∀y,y∈rj->y.1≠j:=by rw[<-(hperm.map (λx:BC=>x.1)).nodup_iff,AJ,AM] at hnd;exact λy hy e=>hnd.1 (Au.2 ⟨y,hy,e⟩)
 have hlen:rj.length=rest.length:=by have:=hperm.length_eq;simpa using this
 refine⟨swj,rj,_,l',⟨?_,hR',hs',hp',?_,by simpa using h.size,?_,λy hy=>h.num y (hsubm y hy),λy hy=>h.self y (hsubm y hy),?_,λy hy k hk=>?_,Way.down' (tbl:=tbl) h.down h.size hr⟩,hlen⟩
 ·exact hcomm pend λ_ hq=>hq
 ·intro q1 y w q2 hsp;obtain⟨k1,S2,k3,k4,k2⟩:=h.quiet q1 y w q2 hsp;refine⟨k1,S2,k3,hsp' _ k3 (hna (y,w) (by rw[hsp];simp)),λE' l2 W2 hR hS2 hs2=>?_⟩;rw[hcomm q1 (λq hq=>by rw[hsp];exact Ai _ hq)];have hym:y∈pend.map Prod.fst++(i,false,o)::rest:=by rw[hsp];simp
  rw[StepV.put (FU (h.self y hym)).2.2 (λt ht'=>(Oper.apart_spec (hap (y,w) (by rw[hsp];simp))).2.2 t ht')];exact k2 E' l2 W2 hR hS2 hs2
 ·have hne: ∀y,y∈pend.map Prod.fst++rj->y.1≠j:=by
   intro y hy;rcases AF.1 hy with hy|hy
   ·obtain⟨q,hqm,rfl⟩:=Au.1 hy;exact(EO (hcross q hqm _ hjr)).2.2
   ·exact hndj y hy
  refine Vw (x:=(j,false,oj)) h.size hlt hne λk hk=>?_;rw[h.un k hk];exact⟨λ⟨x,hx,e⟩=>⟨x,(hmem x).2 hx,e⟩,λ⟨x,hx,e⟩=>⟨x,(hmem x).1 hx,e⟩⟩
 ·obtain⟨p1,p2,p3⟩:=Bh.1 h.pairs;rcases hok with⟨_,rfl,rfl⟩|⟨hok,_⟩
  ·exact h.pairs.sublist (Jm (Eb _) (DI _ _))
  ·refine Bh.2 ⟨?_,(Lq hok).2,λx hx y hy=>?_⟩
   ·refine List.Pairwise.imp_of_mem (λ{x y} hx hy hxy=>?_) p1;obtain⟨q,hqm,rfl⟩:=Au.1 hx;exact SY hxy (hqs q hqm _)
   ·obtain⟨q,hqm,rfl⟩:=Au.1 hx;exact SY (hcross q hqm y (hperm.mem_iff.1 (An _ hy))) (hqs q hqm _)
 ·rcases hok with⟨_,rfl,rfl⟩|⟨_,hin⟩
  ·exact h.swf y (by
    rcases AF.1 hy with hy|hy
    ·exact Ai _ hy
    ·exact Aa _ (An _ hy)) k hk
  ·obtain⟨x,hx,e1,e2⟩:=SZ hin hk;rcases AF.1 hy with hy|hy
   ·exfalso;obtain⟨q,hqm,rfl⟩:=Au.1 hy;exact(EO (hcross q hqm x (hperm.mem_iff.1 (An _ hx)))).2.2 e1.symm
   ·have hn2:(rj.map (λx:BC=>x.1)).Nodup:=by
     rw[<-(hperm.map (λx:BC=>x.1)).nodup_iff,AJ,AM] at hnd;exact hnd.2
    rw[<-Ug rj hn2 hx hy e1];exact e2
theorem Way.reach{tbl:List (List Nat)}{sw:Sw}{listed:Array Bool}{l:List Ab}{a:Act}{W:World}{j:Nat}(ht:QV ops tbl=true)(hr:j∈Region.ready .any ops listed): ∀(rest:List BC) (sp:Fd) (pend:List (BC×Value)) (Φ:Act->Prop),Way P ro E ops Q R tbl sw sp listed pend rest Φ l a W->(∃x,x∈rest/\x.1=j)->
 ∃(o:Oper) (next:Value->World->Prop),ops[j]?=some o/\Ie o.op=true/\StepV P ro ops o a W (λu W'=>next u W')/\ ∀u W',next u W'-> ∃sw' sp' pend' rest' Φ' l',Way P ro E ops Q R tbl sw' sp' (listed.setIfInBounds j true) pend' rest' Φ' l' (a.put o.dst u) W'/\pend'.length+rest'.length+1=pend.length+rest.length
 |[],_,_,_,_,⟨x,hx,_⟩=>by cases hx
 |(i,true,o)::rest,sp,pend,Φ,h,⟨x,hx,hxj⟩=>by
  have him:(i,true,o)∈pend.map Prod.fst++(i,true,o)::rest:=by simp
  obtain⟨v,Φ',sp',h'⟩:=h.pass;by_cases hij:i=j
  ·subst hij;refine⟨o,_,h.num _ him,(FU (h.self _ him)).2.1,Way.pend_step (p1:=pend) (p2:=[]) (x:=(i,true,o)) ht h' hr,λu W' hw=>⟨_,_,_,_,_,_,hw,by simp;omega⟩⟩
  ·have hxr:x∈rest:=by
    rcases Aq.1 hx with rfl|hx
    ·exact absurd hxj hij
    ·exact hx
   obtain⟨o',next,k1,k2,k3,k4⟩:=Way.reach ht hr rest _ _ Φ' h' ⟨x,hxr,hxj⟩;refine⟨o',next,k1,k2,k3,λu W' hw=>?_⟩;obtain⟨sw2,sp2,p',r',Φ2,l2,hw2,hlen⟩:=k4 u W' hw;exact⟨sw2,sp2,p',r',Φ2,l2,hw2,by simp at hlen⊢;omega⟩
 |(i,false,o)::rest,sp,pend,Φ,h,hx=>by obtain⟨oj,k1,k2,k3⟩:=h.eff_step ht hr hx;exact⟨oj,_,k1,k2,k3,λu W' ⟨sw',rest',Φ',l',hw,hl⟩=>⟨_,_,_,_,_,_,hw,by simp;omega⟩⟩
theorem Way.fin{sw:Sw}{sp:Fd}(h:Way P ro E ops Q R tbl sw sp listed pend rest Φ l a W)(h0:Region.ready .any ops listed=[]):Q .normal a W:=by
 have hnil:pend=[]/\rest=[]:=by
  have key:pend.map Prod.fst++rest=[]:=by
   cases hpr:pend.map Prod.fst++rest with
   |nil=>rfl
   |cons x r=>
    exfalso;have hxm:x∈pend.map Prod.fst++rest:=by rw[hpr];exact Ak
    have hlt:x.1<ops.size:=(BA.1 (h.num x hxm)).1;have hmem:x.1∈Region.ready .any ops listed:=by
     refine mem_ready.2 ⟨(h.un x.1 hlt).2 ⟨x,hxm,rfl⟩,x.2.2,h.num x hxm,λe he hb=>?_⟩;obtain⟨h1,h2⟩:=(FU (h.self x hxm)).1 e he hb;cases hg:listed.getD e.on false
     ·exfalso;obtain⟨y,hy,hye⟩:=(h.un e.on h2).1 (by rw[YU (by rw[h.size];exact h2)];exact hg);have hp:=h.pairs;rw[hpr] at hp hy;rcases Aq.1 hy with rfl|hy
      ·exact h1 hye.symm
      ·exact(EO ((BY.1 hp).1 y hy)).2.1 e he hb hye.symm
     ·rfl
    rw[h0] at hmem;cases hmem
  have h1:=List.append_eq_nil_iff.1 key;exact⟨List.map_eq_nil_iff.1 h1.1,h1.2⟩
 obtain⟨rfl,rfl⟩:=hnil;cases h.plan with
 |nil h2=>exact h2 a W h.phi h.sat
theorem Way.any{tbl:List (List Nat)}(ht:QV ops tbl=true): ∀(fuel:Nat) (sw:Sw) (sp:Fd) (listed:Array Bool) (pend:List (BC×Value)) (rest:List BC) (Φ:Act->Prop) (l:List Ab) (a:Act) (W:World),Way P ro E ops Q R tbl sw sp listed pend rest Φ l a W->pend.length+rest.length<=fuel->wpAnyIn (Fw ro) 0 P .any ops Q fuel listed a W:=by
 intro fuel
 induction fuel with
 |zero=>
  intro sw sp listed pend rest Φ l a W h hl;have hp:pend=[]:=FK.1 Af;have hr:rest=[]:=FK.1 Af;subst hp hr;have h0:Region.ready .any ops listed=[]:=by
   cases hrd:Region.ready .any ops listed with
   |nil=>rfl
   |cons j r=>
    exfalso;have hj:j∈Region.ready .any ops listed:=by rw[hrd];exact Ak
    obtain⟨h1,o,ho,_⟩:=mem_ready.1 hj;obtain⟨x,hx,_⟩:=(h.un j (BA.1 ho).1).1 h1;simp at hx
  exact⟨h0,h.fin h0⟩
 |succ fuel ih=>
  intro sw sp listed pend rest Φ l a W h hl;refine⟨λh0=>h.fin h0,λj hj=>?_⟩;obtain⟨h1,o,ho,hall⟩:=mem_ready.1 hj;obtain⟨x,hx,hxj⟩:=(h.un j (BA.1 ho).1).1 h1;rcases AF.1 hx with hxp|hxr
  ·obtain⟨⟨x',v⟩,hm,rfl⟩:=Au.1 hxp;obtain⟨p1,p2,rfl⟩:=FX hm;simp only at hxj hx;subst hxj;refine StepV.op (h.num x' hx) (FU (h.self x' hx)).2.1 (h.pend_step ht hj) λu W' hw=>ih _ _ _ _ _ _ _ _ _ hw (by simp at hl⊢;omega)
  ·obtain⟨o',next,k1,k2,k3,k4⟩:=Way.reach ht hj rest _ pend Φ h ⟨x,hxr,hxj⟩;refine StepV.op k1 k2 k3 λu W' hw=>?_;obtain⟨sw2,sp2,p',r',Φ2,l2,hw2,hlen⟩:=k4 u W' hw;exact ih _ _ _ _ _ _ _ _ _ hw2 Af
theorem Vx{d:Nat}{oj:Oper}(hf:FSat N fr a)(hj:ops[j]?=some oj)(hd:oj.dst=some d)(hb:BP fr d=some undef):yielded ops a.tmps j=none:=by have:=hf.at_ d _ hb;simp[yielded,hj,hd,this,undef]
inductive PlanS(P:Program)(ro:Option Nat)(N:Nat)(E:World)(ops:Array Oper)(Q:Exit->Act->World->Prop)(R:List Ab)(tbl:List (List Nat)):Sw->Fd->List BC->Fr->List Deferred->List Ab->Prop
 |nil {sw:Sw} {sp:Fd} {fr:Fr} {ds:List Deferred} {l:List Ab}:CH N E Q .normal fr ds l->PlanS P ro N E ops Q R tbl sw sp [] fr ds l
 |q {sw:Sw} {sp:Fd} {i:Nat} {o:Oper} {v:Value} {rest:List BC} {fr:Fr} {ds:List Deferred} {l:List Ab}:OpQ P ro N fr R o v->o.guard=none->I5 N o.dst=true->PlanS P ro N E ops Q R tbl sw sp rest (Hn o.dst v fr) ds l->PlanS P ro N E ops Q R tbl sw sp ((i,true,o)::rest) fr ds l
 |gq {sw:Sw} {sp:Fd} {i j dj:Nat} {o oj:Oper} {b:Bool} {v:Value} {rest:List BC} {fr:Fr} {ds:List Deferred} {l:List Ab}:OpQ P ro N fr R o v->o.guard=some (j,b)->ops[j]?=some oj->oj.dst=some dj->BP fr dj=some (.bool b)->I5 N o.dst=true->PlanS P ro N E ops Q R tbl sw sp rest (Hn o.dst v fr) ds l->PlanS P ro N E ops Q R tbl sw sp ((i,true,o)::rest) fr ds l
 |gs {sw:Sw} {sp:Fd} {i j dj:Nat} {o oj:Oper} {b b':Bool} {rest:List BC} {fr:Fr} {ds:List Deferred} {l:List Ab} {k:Bool}:o.guard=some (j,b)->ops[j]?=some oj->oj.dst=some dj->BP fr dj=some (.bool b')->(b'==b)=false->I5 N o.dst=true->(∀c,c∈R->c∈l)->(k=false->sw=none)->(k=false-> ∀x,x∈sp->Ff tbl i x.1=false-> ∀c,c∈x.2->c∈l)->PlanS P ro N E ops Q R tbl sw sp rest (Hn o.dst undef fr) ds l->PlanS P ro N E ops Q R tbl sw sp ((i,k,o)::rest) fr ds l
 |gu {sw:Sw} {sp:Fd} {i j dj:Nat} {o oj:Oper} {b:Bool} {rest:List BC} {fr:Fr} {ds:List Deferred} {l:List Ab} {k:Bool}:o.guard=some (j,b)->ops[j]?=some oj->oj.dst=some dj->BP fr dj=some undef->I5 N o.dst=true->(∀c,c∈R->c∈l)->(k=false->sw=none)->(k=false-> ∀x,x∈sp->Ff tbl i x.1=false-> ∀c,c∈x.2->c∈l)->PlanS P ro N E ops Q R tbl sw sp rest (Hn o.dst undef fr) ds l->PlanS P ro N E ops Q R tbl sw sp ((i,k,o)::rest) fr ds l
 |e {sp:Fd} {i:Nat} {o:Oper} {K:Value->List Ab->Prop} {rest:List BC} {fr:Fr} {ds:List Deferred} {l:List Ab}:OpE P ro N fr l o K->o.guard=none->I5 N o.dst=true->(∀v l',K v l'->(∀c,c∈R->c∈l'))->(∀v l',K v l'-> ∀x,x∈sp->Ff tbl i x.1=false-> ∀c,c∈x.2->c∈l')->(∀v l',K v l'->PlanS P ro N E ops Q R tbl none sp rest (Hn o.dst v fr) ds l')->PlanS P ro N E ops Q R tbl none sp ((i,false,o)::rest) fr ds l
 |ge {sp:Fd} {i j dj:Nat} {o oj:Oper} {b:Bool} {K:Value->List Ab->Prop} {rest:List BC} {fr:Fr} {ds:List Deferred} {l:List Ab}:OpE P ro N fr l o K->o.guard=some (j,b)->ops[j]?=some oj->oj.dst=some dj->BP fr dj=some (.bool b)->I5 N o.dst=true->(∀v l',K v l'->(∀c,c∈R->c∈l'))->(∀v l',K v l'-> ∀x,x∈sp->Ff tbl i x.1=false-> ∀c,c∈x.2->c∈l')->(∀v l',K v l'->PlanS P ro N E ops Q R tbl none sp rest (Hn o.dst v fr) ds l')->PlanS P ro N E ops Q R tbl none sp ((i,false,o)::rest) fr ds l
 |weak {sw:Sw} {sp:Fd} {pl:List BC} {fr fr':Fr} {ds:List Deferred} {l:List Ab}:(∀d v,BP fr' d=some v->BP fr d=some v)->PlanS P ro N E ops Q R tbl sw sp pl fr' ds l->PlanS P ro N E ops Q R tbl sw sp pl fr ds l
 |sq {sw:Sw} {sp:Fd} {i:Nat} {o:Oper} {v:Value} {S:List Ab} {rest:List BC} {fr:Fr} {ds:List Deferred} {l:List Ab}:OpQ P ro N fr S o v->(∀c,c∈S->c∈l)->o.guard=none->I5 N o.dst=true->PlanS P ro N E ops Q R tbl sw ((i,S)::sp) rest (Hn o.dst v fr) ds l->PlanS P ro N E ops Q R tbl sw sp ((i,true,o)::rest) fr ds l
 |alt {L:List (Nat×Nat)} {sp:Fd} {i:Nat} {o:Oper} {rest:List BC} {fr:Fr} {ds:List Deferred} {l:List Ab} (oo:Nat->Oper) (K:Nat->Value->List Ab->Prop) (rf:Nat->List BC) (sf:Nat->Sw):
   (∀j,NB tbl (some L) i rest j->((j,false,oo j)::rf j).Perm ((i,false,o)::rest)/\FI ops tbl (sf j) (rf j)=true/\Sy (sf j) (rf j)=true)->
   (∀j,NB tbl (some L) i rest j->OpE P ro N fr l (oo j) (K j)/\Pz ops fr (oo j).guard=some true/\I5 N (oo j).dst=true)->
   (∀j,NB tbl (some L) i rest j-> ∀v l',K j v l'->(∀c,c∈R->c∈l')/\(∀x,x∈sp->Ff tbl j x.1=false-> ∀c,c∈x.2->c∈l'))->
   (∀j,NB tbl (some L) i rest j-> ∀v l',K j v l'->PlanS P ro N E ops Q R tbl (sf j) sp (rf j) (Hn (oo j).dst v fr) ds l')->PlanS P ro N E ops Q R tbl (some L) sp ((i,false,o)::rest) fr ds l
 |alt2 {i j:Nat} {sp:Fd} {o oj:Oper} {rest rj:List BC} {fr:Fr} {ds:List Deferred} {l:List Ab}:j≠i->((j,false,oj)::rj).Perm ((i,false,o)::rest)->FI ops tbl none rj=true->(∀x,x∈rest->x.1≠i)->PlanS P ro N E ops Q R tbl none sp ((i,false,o)::rest) fr ds l->PlanS P ro N E ops Q R tbl none sp ((j,false,oj)::rj) fr ds l->PlanS P ro N E ops Q R tbl (some [(i,j)]) sp ((i,false,o)::rest) fr ds l
theorem SemPlan.weak{sw:Sw}{sp:Fd}{Φ':Act->Prop}(h: ∀a,Φ' a->Φ a)(hp:SemPlan P ro E ops Q R tbl sw sp pl Φ l):SemPlan P ro E ops Q R tbl sw sp pl Φ' l:=by
 induction hp generalizing Φ' with
 |nil hp=>exact .nil λa W ha hs=>hp a W (h a ha) hs
 |quiet v S h0 h1 _ ih=>exact .quiet v S h0 (λa ha=>h1 a (h a ha)) (ih λa' ⟨a,ha,e⟩=>⟨a,h a ha,e⟩)
 |eff oo K rf sf h1 h2 h3 ih=>exact .eff oo K rf sf h1 (λj hj a W ha hs=>h2 j hj a W (h a ha) hs) h3
def SpLe(sp' sp:Fd):Prop:= ∀x,x∈sp'->x∈sp\/x.2=[]
theorem SpLe.none{sp' sp:Fd}(h:SpLe sp' sp)(i:Nat):SpLe ((i,[])::sp') sp:=λx hx=>by
 rcases Aq.1 hx with rfl|hx
 ·exact .inr rfl
 ·exact h x hx
theorem SpLe.one{sp' sp:Fd}(h:SpLe sp' sp)(x:Nat×List Ab):SpLe (x::sp') (x::sp):=λy hy=>by
 rcases Aq.1 hy with rfl|hy
 ·exact .inl Ak
 ·exact(h y hy).imp (An _) id
theorem SemPlan.one{tbl:List (List Nat)}{sw:Sw}{sp:Fd}{i:Nat}{o:Oper}{rest:List BC}{Φ:Act->Prop}{l:List Ab}(hno: ∀j,NA sw i j=false)(K:Act->Value->List Ab->Prop)(h2:Lo P ro E ops R tbl sp i o Φ l K)(h3: ∀a v l',K a v l'->SemPlan P ro E ops Q R tbl sw sp rest (λa'=>a'=a.put o.dst v) l'):SemPlan P ro E ops Q R tbl sw sp ((i,false,o)::rest) Φ l:=by
 have key: ∀j,NB tbl sw i rest j->j=i:=λj hj=>by
  rcases hj with rfl|⟨h,_⟩
  ·rfl
  ·rw[hno] at h;cases h
 exact .eff (λ_=>o) (λ_=>K) (λ_=>rest) (λ_=>sw) (λj hj=>by obtain rfl:=key j hj;exact⟨.refl _,.inl ⟨rfl,rfl,rfl⟩⟩) (λj hj=>by obtain rfl:=key j hj;exact h2) λj hj=>h3
theorem SemPlan.free{sw:Sw}{sp:Fd}{n:Sw}(h:SemPlan P ro E ops Q R tbl n sp pl Φ l):n=none->(∀x,x∈pl-> ∀j,NA sw x.1 j=false)->SemPlan P ro E ops Q R tbl sw sp pl Φ l:=by
 induction h with
 |nil h=>exact λ_ _=> .nil h
 |quiet v S h0 h1 _ ih=>exact λhn hx=> .quiet v S h0 h1 (ih hn λx hx'=>hx x (An _ hx'))
 |eff oo K rf sf h1 h2 h3 ih=>
  rename_i n sp i o rest Φ l;intro hn hx;subst hn;have hc:NB tbl none i rest i:= .inl rfl;obtain⟨p1,p2⟩:=h1 i hc;have key: ∀j,NB tbl sw i rest j->j=i:=λj hj=>by
   rcases hj with rfl|⟨h,_⟩
   ·rfl
   ·rw[hx _ Ak] at h;cases h
  rcases p2 with⟨_,p3,p4⟩|⟨p3,p4⟩
  ·refine .eff oo K rf (λ_=>sw) (λj hj=>?_) (λj hj=>?_) λj hj=>?_;all_goals obtain rfl:=key j hj
   ·exact⟨p1,.inl ⟨rfl,rfl,p4⟩⟩
   ·exact h2 _ hc
   ·exact λa v l' k=>ih _ hc a v l' k p3 λx hx'=>hx x (An _ (by rw[p4] at hx';exact hx'))
  ·refine .eff oo K rf sf (λj hj=>?_) (λj hj=>?_) λj hj=>?_;all_goals obtain rfl:=key j hj
   ·exact⟨p1,.inr ⟨p3,p4⟩⟩
   ·exact h2 _ hc
   ·exact h3 _ hc
theorem Xf(h1:FSat N fr a)(h:Pz ops fr o.guard=some true):Region.wanted o (yielded ops a.tmps)=true:=by
 rcases JK h with⟨hg,_⟩|⟨j,b,oj,dj,b',hg,hj,hjd,hb,he⟩
 ·simp[Region.wanted,hg]
 ·have hy:=IG (ops:=ops) h1 hj hjd hb;simpa[Region.wanted,hg,hy] using he
theorem PlanS.sem{sw:Sw}{sp:Fd}(h:PlanS P ro N E ops Q R tbl sw sp pl fr ds l): ∀sp',SpLe sp' sp->SemPlan P ro E ops Q R tbl sw sp' pl (λa=>FSat N fr a/\a.defers=ds) l:=by
 have step: ∀{o:Oper} {K:Value->List Ab->Prop} {fr:Fr} {l:List Ab} {sp sp':Fd} {i:Nat} {ds:List Deferred},OpE P ro N fr l o K->(∀a,FSat N fr a->Region.wanted o (yielded ops a.tmps)=true)->(∀v l',K v l'->(∀c,c∈R->c∈l'))->(∀v l',K v l'-> ∀x,x∈sp->Ff tbl i x.1=false-> ∀c,c∈x.2->c∈l')->SpLe sp' sp->Lo P ro E ops R tbl sp' i o (λa=>FSat N fr a/\a.defers=ds) l (λa v l'=>(FSat N fr a/\a.defers=ds)/\K v l'):=by
  intro o K fr l sp sp' i ds ho hw hR hS hle a W ⟨h1,h2⟩ hs;unfold StepV;rw[Ae (hw a h1)];refine(ho.val E a W h1 hs).mono λv w ⟨l',k1,k2⟩=>⟨l',⟨⟨h1,h2⟩,k1⟩,hR v l' k1,λx hx ha c hc=>?_,k2⟩
  rcases hle x hx with h|h
  ·exact hS v l' k1 x h ha c hc
  ·rw[h] at hc;cases hc
 induction h with
 |nil h=>exact λsp' _=> .nil λa W ⟨h1,h2⟩ hs=>h.run a W h1 h2 hs
 |q ho hg hd _ ih=>rename_i sw sp i o v rest fr ds l _;intro sp' hle;refine .quiet v [] (by simp) (λa ⟨h1,h2⟩ E' l' W hR _ hs=>?_) ((ih _ (hle.none i)).weak λa' ⟨a,⟨h1,h2⟩,he⟩=>by subst he;exact⟨h1.put v hd,(Ed _ _ _).trans h2⟩);unfold StepV;rw[Ae (by simp[Region.wanted,hg])];exact((ho.run l' hR).val E' a W h1 hs).mono λu w ⟨l2,⟨k1,k2⟩,k3⟩=>⟨k1,by rw[<-k2];exact k3⟩
 |gq ho hg hj hjd hb hd _ ih=>rename_i sw sp i j dj o oj b v rest fr ds l _;intro sp' hle;refine .quiet v [] (by simp) (λa ⟨h1,h2⟩ E' l' W hR _ hs=>?_) ((ih _ (hle.none i)).weak λa' ⟨a,⟨h1,h2⟩,he⟩=>by subst he;exact⟨h1.put v hd,(Ed _ _ _).trans h2⟩);unfold StepV;have hy:=IG (ops:=ops) h1 hj hjd hb;rw[Ae (by simp[Region.wanted,hg,hy])];exact((ho.run l' hR).val E' a W h1 hs).mono λu w ⟨l2,⟨k1,k2⟩,k3⟩=>⟨k1,by rw[<-k2];exact k3⟩
 |gs hg hj hjd hb hne hd hR0 hswn hspl _ ih=>
  rename_i sw sp i j dj o oj b b' rest fr ds l k _;intro sp' hle;have hw: ∀a,FSat N fr a->¬Region.wanted o (yielded ops a.tmps)=true:=λa h1=>by have hy:=IG (ops:=ops) h1 hj hjd hb;simp[Region.wanted,hg,hy];intro e;rw[e] at hne;simp at hne
  cases k with
  |true=>refine .quiet undef [] (by simp) (λa ⟨h1,h2⟩ E' l' W hR _ hs=>?_) ((ih _ (hle.none i)).weak λa' ⟨a,⟨h1,h2⟩,he⟩=>by subst he;exact⟨h1.put undef hd,(Ed _ _ _).trans h2⟩);unfold StepV;rw[Ac (hw a h1)];exact⟨rfl,hs⟩
  |false=>
   refine .one (λj=>by rw[hswn rfl];rfl) (λa v l'=>(FSat N fr a/\a.defers=ds)/\v=undef/\l'=l) (λa W ⟨h1,h2⟩ hs=>?_) ?_
   ·unfold StepV;rw[Ac (hw a h1)];refine⟨l,⟨⟨h1,h2⟩,rfl,rfl⟩,hR0,λx hx ha c hc=>?_,hs⟩;rcases hle x hx with h|h
    ·exact hspl rfl x h ha c hc
    ·rw[h] at hc;cases hc
   ·rintro a _ _ ⟨⟨h1,h2⟩,rfl,rfl⟩;exact(ih _ hle).weak λa' he=>by subst he;exact⟨h1.put undef hd,(Ed _ _ _).trans h2⟩
 |gu hg hj hjd hb hd hR0 hswn hspl _ ih=>
  rename_i sw sp i j dj o oj b rest fr ds l k _;intro sp' hle;have hw: ∀a,FSat N fr a->¬Region.wanted o (yielded ops a.tmps)=true:=λa h1=>by have hy:=Vx h1 hj hjd hb;simp[Region.wanted,hg,hy]
  cases k with
  |true=>refine .quiet undef [] (by simp) (λa ⟨h1,h2⟩ E' l' W hR _ hs=>?_) ((ih _ (hle.none i)).weak λa' ⟨a,⟨h1,h2⟩,he⟩=>by subst he;exact⟨h1.put undef hd,(Ed _ _ _).trans h2⟩);unfold StepV;rw[Ac (hw a h1)];exact⟨rfl,hs⟩
  |false=>
   refine .one (λj=>by rw[hswn rfl];rfl) (λa v l'=>(FSat N fr a/\a.defers=ds)/\v=undef/\l'=l) (λa W ⟨h1,h2⟩ hs=>?_) ?_
   ·unfold StepV;rw[Ac (hw a h1)];refine⟨l,⟨⟨h1,h2⟩,rfl,rfl⟩,hR0,λx hx ha c hc=>?_,hs⟩;rcases hle x hx with h|h
    ·exact hspl rfl x h ha c hc
    ·rw[h] at hc;cases hc
   ·rintro a _ _ ⟨⟨h1,h2⟩,rfl,rfl⟩;exact(ih _ hle).weak λa' he=>by subst he;exact⟨h1.put undef hd,(Ed _ _ _).trans h2⟩
 |e ho hg hd hR hS _ ih=>rename_i sp i o K rest fr ds l _;intro sp' hle;refine .one (λ_=>rfl) _ (step ho (λa _=>by simp[Region.wanted,hg]) hR hS hle) ?_;rintro a v l' ⟨⟨h1,h2⟩,k1⟩;exact(ih v l' k1 _ hle).weak λa' he=>by subst he;exact⟨h1.put v hd,(Ed _ _ _).trans h2⟩
 |ge ho hg hj hjd hb hd hR hS _ ih=>
  rename_i sp i j dj o oj b K rest fr ds l _;intro sp' hle;refine .one (λ_=>rfl) _ (step ho (λa h1=>by have hy:=IG (ops:=ops) h1 hj hjd hb;simp[Region.wanted,hg,hy]) hR hS hle) ?_
  rintro a v l' ⟨⟨h1,h2⟩,k1⟩;exact(ih v l' k1 _ hle).weak λa' he=>by subst he;exact⟨h1.put v hd,(Ed _ _ _).trans h2⟩
 |weak hw _ ih=>exact λsp' hle=>(ih sp' hle).weak λa ⟨h1,h2⟩=>⟨h1.sub hw,h2⟩
 |sq ho hSl hg hd _ ih=>rename_i sw sp i o v S rest fr ds l _;intro sp' hle;refine .quiet v S hSl (λa ⟨h1,h2⟩ E' l' W hR hS hs=>?_) ((ih _ (hle.one (i,S))).weak λa' ⟨a,⟨h1,h2⟩,he⟩=>by subst he;exact⟨h1.put v hd,(Ed _ _ _).trans h2⟩);unfold StepV;rw[Ae (by simp[Region.wanted,hg])];exact((ho.run l' hS).val E' a W h1 hs).mono λu w ⟨l2,⟨k1,k2⟩,k3⟩=>⟨k1,by rw[<-k2];exact k3⟩
 |alt oo K rf sf hpm hop hRS _ ih=>
  rename_i L sp i o rest fr ds l _;intro sp' hle;refine .eff oo (λj a v l'=>(FSat N fr a/\a.defers=ds)/\K j v l') rf sf (λj hj=>⟨(hpm j hj).1,.inr (hpm j hj).2⟩) (λj hj=>?_) λj hj=>?_
  ·obtain⟨ho,hw,_⟩:=hop j hj;exact step ho (λa h1=>Xf h1 hw) (λv l' k=>(hRS j hj v l' k).1) (λv l' k=>(hRS j hj v l' k).2) hle
  ·rintro a v l' ⟨⟨h1,h2⟩,k1⟩;exact(ih j hj v l' k1 _ hle).weak λa' he=>by subst he;exact⟨h1.put v (hop j hj).2.2,(Ed _ _ _).trans h2⟩
 |alt2 hij hp hpo hni _ _ ih1 ih2=>
  rename_i i j sp o oj rest rj fr ds l _ _;intro sp' hle;have g1:=ih1 sp' hle;have g2:=ih2 sp' hle;have hj: ∀k,NB tbl (some [(i,j)]) i rest k->k=i\/k=j:=λk hk=>by
   rcases hk with h|⟨h,_⟩
   ·exact .inl h
   ·refine .inr ?_;simpa[NA] using h
  cases g1 with
  |eff oo1 K1 rf1 sf1 a1 a2 a3=>
   cases g2 with
   |eff oo2 K2 rf2 sf2 b1 b2 b3=>
    have ci:NB tbl none i rest i:= .inl rfl;have cj:NB tbl none j rj j:= .inl rfl;obtain⟨sw1,c1,c2⟩: ∃sw1,((i=i/\sw1=some [(i,j)]/\rf1 i=rest)\/(FI ops tbl sw1 (rf1 i)=true/\Sy sw1 (rf1 i)=true))/\ ∀a v l',K1 i a v l'->SemPlan P ro E ops Q R tbl sw1 sp' (rf1 i) (λa'=>a'=a.put (oo1 i).dst v) l':=by
     rcases(a1 i ci).2 with⟨_,e1,e2⟩|h
     ·refine⟨some [(i,j)],.inl ⟨rfl,rfl,e2⟩,λa v l' k=>?_⟩;have:=a3 i ci a v l' k;rw[e1,e2] at this;rw[e2];refine this.free rfl λx hx k=>?_;have:=hni x hx;simp[NA,this]
     ·exact⟨sf1 i,.inr h,a3 i ci⟩
    obtain⟨d1,d2⟩:FI ops tbl (sf2 j) (rf2 j)=true/\Sy (sf2 j) (rf2 j)=true:=by
     rcases(b1 j cj).2 with⟨_,e1,e2⟩|h
     ·rw[e1,e2];exact⟨hpo,rfl⟩
     ·exact h
    refine .eff (λk=>if k=i then oo1 i else oo2 j) (λk=>if k=i then K1 i else K2 j) (λk=>if k=i then rf1 i else rf2 j) (λk=>if k=i then sw1 else sf2 j) (λk hk=>?_) (λk hk=>?_) λk hk=>?_
    ·rcases hj k hk with h|h
     ·subst h;simp only[CT,KU];simp only[KU] at c1;exact⟨(a1 k ci).1,c1⟩
     ·subst h;simp only[Ac hij];exact⟨(b1 k cj).1.trans hp,.inr ⟨d1,d2⟩⟩
    ·rcases hj k hk with h|h
     ·subst h;simp only[CT];exact a2 k ci
     ·subst h;simp only[Ac hij];exact b2 k cj
    ·rcases hj k hk with h|h
     ·subst h;simp only[CT];exact c2
     ·subst h;simp only[Ac hij];exact b3 k cj
inductive Attach(os:List Oper):List (Nat×Bool)->List BC->Prop
 |nil:Attach os [] []
 |cons {i:Nat} {b:Bool} {o:Oper} {r:List (Nat×Bool)} {pl:List BC}:os[i]?=some o->Attach os r pl->Attach os ((i,b)::r) ((i,b,o)::pl)
theorem Attach.spec(h:Attach os r pl):(∀x,x∈pl->os.toArray[x.1]?=some x.2.2)/\pl.map (λx=>x.1)=r.map Prod.fst:=by
 induction h with
 |nil=>exact⟨by simp,rfl⟩
 |cons h1 _ ih=>
  refine⟨λx hx=>?_,by simp[ih.2]⟩;rcases Aq.1 hx with rfl|hx
  ·simpa using h1
  ·exact ih.1 x hx
def Hv(os:List Oper):List (Nat×Bool)->List BC
 |[]=>[]
 |(i,b)::r=>match os[i]? with
  |some o=>(i,b,o)::Hv os r
  |none=>[]
theorem Attach.fun_eq(h:Attach os r pl):Hv os r=pl:=by
 induction h with
 |nil=>rfl
 |cons h1 _ ih=>unfold Hv;rw[h1,ih]
def Qb(os:List Oper)(plan:List (Nat×Bool))(tbl:List (List Nat))(sw:Sw):Bool:=
 QV os.toArray tbl&&FI os.toArray tbl sw (Hv os plan)&&decide (plan.length<=os.length)&&((List.range os.length).all λi=>(plan.map Prod.fst).contains i)&&Sy sw (Hv os plan)
def Uh(os:List Oper)(plan:List (Nat×Bool))(tbl:List (List Nat)):Bool:=Qb os plan tbl none
theorem Qc(plan:List (Nat×Bool))(tbl:List (List Nat))(sw:Sw)(R:List Ab)(hm:P.follows .mixedOrders=true)(hv:Qb os plan tbl sw=true)(ha:Attach os plan pl)(hR: ∀c,c∈R->c∈l)
 (h:PlanS P ro N E os.toArray Q R tbl sw [] pl fr ds l):BF P ro N E (.region k os.toArray true) Q fr ds l:=by
 unfold Qb at hv;simp only[AX] at hv;obtain⟨⟨⟨⟨ht,hp⟩,hle⟩,hall⟩,hin⟩:=hv;rw[ha.fun_eq] at hp hin;obtain⟨h1,h2⟩:=Lq hp;obtain⟨n1,n2⟩:=ha.spec;refine⟨λa W hf hds hs=>wpIn_region_any hm ?_⟩;have hpl:pl.length<=os.toArray.size:=by have h3:=BM List.length n2;simp only[AZ] at h3;rw[h3];simpa using hle
 have hnd:(pl.map (λx:BC=>x.1)).Nodup:=by rw[Dz,Ck];exact h2.imp λhp=>(EO hp).2.2
 refine Way.any ht _ sw [] _ [] pl (λa=>FSat N fr a/\a.defers=ds) l a _ ⟨⟨hf,hds⟩,hR,hs.drawn _,h.sem [] (λx hx=>by cases hx),λp1 x v p2 e=>by simp at e,by simp,?_,by simpa using n1,by simpa using h1,by simpa using h2,(λx hx j e=>?_),?_⟩ (by simpa using hpl)
 ·intro i hi;have hi':i<os.length:=by simpa using hi
  have e:(Array.replicate os.toArray.size false).getD i true=false:=by simp[C0,Array.getElem?_replicate,hi']
  rw[e];simp only[CY,Ag,true_iff];have:=A6.1 hall i (by simpa using hi);rw[<-n2] at this;simp only[Iu,Au] at this;exact this
 ·obtain⟨y,hy,e1,e2⟩:=SZ hin e;rw[<-Ug pl hnd hy (by simpa using hx) e1];exact e2
 ·intro j o _ hl;exfalso;simp[C0,Array.getElem?_replicate] at hl
  split at hl<;>simp at hl
theorem KH(plan:List (Nat×Bool))(tbl:List (List Nat))(R:List Ab)(hm:P.follows .mixedOrders=true)(hv:Uh os plan tbl=true)(ha:Attach os plan pl)(hR: ∀c,c∈R->c∈l)
 (h:PlanS P ro N E os.toArray Q R tbl none [] pl fr ds l):BF P ro N E (.region k os.toArray true) Q fr ds l:=Qc plan tbl none R hm hv ha hR h
end
end Go.Proofs.YtlkgekpmileobaaGreat
