/- Laws that the statement's proof leans on (joined out of several texts). -/
import Derived.Test.YtlifcingifodfaaGreatGc4
import Derived.OrdersIn
set_option maxHeartbeats 4000000
set_option linter.unusedVariables false
set_option linter.unusedSimpArgs false
namespace Go.Proofs.YtlifcingifodfaaGreat
open Go.RowKit
variable{a:Act}{tbl:List (List Nat)}{CX:Array Bool}{l:Ad}{W:World}{Φ:Act->Prop}{o:Oper}{j i N k:Nat}{os:List Oper}{K:Value->World->Prop}{ds:List Deferred}{ops:Array Oper}{v:Value}{r:List (Nat×Bool)}
abbrev BH:=Nat×Bool×Oper
variable{pl A0:List BH}{x y:BH}{Fl:List (BH×Value)}
section
variable{P:Program}{ro:Option Nat}{E:World}{Q:Exit->Act->World->Prop}{R:Ad}
def StepV(P:Program)(ro:Option Nat)(ops:Array Oper)(o:Oper)(a:Act)(W:World)(K:Value->World->Prop):Prop:=
 if Region.wanted o (yielded ops a.tmps) then OpVal P ro o a.eval W K else K undef W
theorem StepV.mono{K':Value->World->Prop}(hk: ∀v w,K v w->K' v w)(h:StepV P ro ops o a W K):StepV P ro ops o a W K':=by
 unfold StepV at*
 split
 ·rename_i hw;rw[Ac hw] at h;exact h.mono hk
 ·rename_i hw;rw[Ab hw] at h;exact hk _ _ h
theorem StepV.put{d:Option Nat}{u:Value}(hs: ∀cs b,o.op≠ .select cs b)(hd: ∀t,d=some t->t∉o.looksAt ops):StepV P ro ops o (a.put d u) W K<->StepV P ro ops o a W K:=by unfold StepV OpVal;rw[wanted_put o a d u hd,execOp_put o hs a d u hd]
theorem StepV.op{next:Act->World->Prop}(hi:ops[i]?=some o)(hd:I9 o.op=true)(h:StepV P ro ops o a W K)(hk: ∀v w,K v w->next (a.put o.dst v) w):wpOpIn (Fw ro) 0 P ops Q i next a W:=by
 unfold wpOpIn;rw[hi];unfold StepV at h;simp only
 split
 ·rename_i hw;rw[Ac hw] at h;exact h.wpIn hd hk
 ·rename_i hw;rw[Ab hw] at h;exact⟨λ_ _=>trivial,hk _ _ h⟩
def FQ(tbl:List (List Nat))(j i:Nat):Bool:=((tbl[j]?).getD []).contains i
abbrev FM:=List (Nat×Ad)
abbrev Sw:=Option (List (Nat×Nat))
def Pa(sw:Sw)(i j:Nat):Bool:=match sw with
 |some L=>L.contains (i,j)
 |none=>false
def MO(P:Program)(ro:Option Nat)(E:World)(ops:Array Oper)(R:Ad)(tbl:List (List Nat))(sp:FM)(i:Nat)(o:Oper)(Φ:Act->Prop)(l:Ad)(K:Act->Value->Ad->Prop):Prop:=
 ∀a W,Φ a->Sat E l W->StepV P ro ops o a W (λv W'=> ∃l',K a v l'/\(∀c,c∈R->c∈l')/\(∀x,x∈sp->FQ tbl i x.1=false-> ∀c,c∈x.2->c∈l')/\Sat E l' W')
def MQ(ops:Array Oper)(tbl:List (List Nat))(sw:Sw)(x y:BH):Bool:=
 (((x.2.1&&x.2.2.apart ops y.2.2)||FQ tbl y.1 x.1)||Pa sw x.1 y.1)&&(x.2.2.after.all λe=>!Region.binds .any e||e.on !=y.1)&&x.1 !=y.1
def S9(ops:Array Oper)(x:BH):Bool:=(x.2.2.after.all λe=>!Region.binds .any e||(e.on !=x.1&&decide (e.on<ops.size)))&&I9 x.2.2.op&&(match x.2.2.op with| .select ..=>false|_=>true)
def Gq(ops:Array Oper)(tbl:List (List Nat))(sw:Sw):List BH->Bool
 |[]=>true
 |x::r=>S9 ops x&&r.all (MQ ops tbl sw x)&&Gq ops tbl sw r
def UT(sw:Sw)(pl:List BH):Bool:=match sw with
 |some L=>L.all λp=>pl.any λx=>x.1==p.1&&!x.2.1
 |none=>true
def Pb(tbl:List (List Nat))(sw:Sw)(i:Nat)(A0:List BH)(j:Nat):Prop:=j=i\/(Pa sw i j=true/\(∀y,y∈A0->FQ tbl j y.1=false)/\ ∃y,y∈A0/\y.1=j)
inductive SemPlan(P:Program)(ro:Option Nat)(E:World)(ops:Array Oper)(Q:Exit->Act->World->Prop)(R:Ad)(tbl:List (List Nat)):Sw->FM->List BH->(Act->Prop)->Ad->Prop
 |nil {sw:Sw} {sp:FM} {Φ:Act->Prop} {l:Ad}:(∀a W,Φ a->Sat E l W->Q .normal a W)->SemPlan P ro E ops Q R tbl sw sp [] Φ l
 |quiet {sw:Sw} {sp:FM} {i:Nat} {o:Oper} {A0:List BH} {Φ:Act->Prop} {l:Ad} (v:Value) (S:Ad):(∀c,c∈S->c∈l)->(∀a,Φ a-> ∀E' l' W,(∀c,c∈R->c∈l')->(∀c,c∈S->c∈l')->Sat E' l' W->StepV P ro ops o a W (λu W'=>u=v/\Sat E' l' W'))->SemPlan P ro E ops Q R tbl sw ((i,S)::sp) A0 (λa'=> ∃a,Φ a/\a'=a.put o.dst v) l->SemPlan P ro E ops Q R tbl sw sp ((i,true,o)::A0) Φ l
 |eff {sw:Sw} {sp:FM} {i:Nat} {o:Oper} {A0:List BH} {Φ:Act->Prop} {l:Ad} (oo:Nat->Oper) (K:Nat->Act->Value->Ad->Prop) (rf:Nat->List BH) (sf:Nat->Sw):
   (∀j,Pb tbl sw i A0 j->((j,false,oo j)::rf j).Perm ((i,false,o)::A0)/\((j=i/\sf j=sw/\rf j=A0)\/(Gq ops tbl (sf j) (rf j)=true/\UT (sf j) (rf j)=true)))->
   (∀j,Pb tbl sw i A0 j->MO P ro E ops R tbl sp j (oo j) Φ l (K j))->
   (∀j,Pb tbl sw i A0 j-> ∀a v l',K j a v l'->SemPlan P ro E ops Q R tbl (sf j) sp (rf j) (λa'=>a'=a.put (oo j).dst v) l')->SemPlan P ro E ops Q R tbl sw sp ((i,false,o)::A0) Φ l
def putAll:List (BH×Value)->Act->Act
 |[],a=>a
 |(p,v)::r,a=>putAll r (a.put p.2.2.dst v)
theorem JO(x y:List (BH×Value))(a:Act):putAll (x++y) a=putAll y (putAll x a):=by
 induction x generalizing a with
 |nil=>rfl
 |cons p x ih=>exact ih _
theorem Ta{x:List (BH×Value)}{d:Option Nat}(h: ∀p,p∈x-> ∀t,d=some t->p.1.2.2.dst≠some t):putAll x (a.put d v)=(putAll x a).put d v:=by
 induction x generalizing a with
 |nil=>rfl
 |cons p x ih=>obtain⟨p,u⟩:=p;simp only[putAll];rw[Act.put_comm a v u (λt ht=>h _ Ak t ht)];exact ih λq hq=>h q (An _ hq)
theorem StepV.putAll{o:Oper}{W:World}{K:Value->World->Prop}(hs: ∀cs b,o.op≠ .select cs b): ∀{x:List (BH×Value)} {a:Act},(∀p,p∈x-> ∀t,p.1.2.2.dst=some t->t∉o.looksAt ops)->(StepV P ro ops o (putAll x a) W K<->StepV P ro ops o a W K)
 |[],a,_=>DF
 |(p,v)::x,a,h=>by simp only[Go.Proofs.YtlifcingifodfaaGreat.putAll];rw[StepV.putAll hs (λq hq=>h q (An _ hq)),StepV.put hs (λt ht=>h _ Ak t ht)]
def Tb(ops:Array Oper)(tbl:List (List Nat)):Bool:=
 (List.range ops.size).all λj=>((tbl[j]?).getD []).all λi=>match ops[j]? with
   |some o=>o.after.any λe=>Region.binds .any e&&(e.on==i||(decide (e.on<j)&&FQ tbl e.on i))
   |none=>false
def qk(ops:Array Oper)(CX:Array Bool):Prop:= ∀j o,ops[j]?=some o->CX.getD j false=true-> ∀e∈o.after,Region.binds .any e=true->CX.getD e.on false=true
theorem Z0(ht:Tb ops tbl=true)(hd:qk ops CX): ∀(n j:Nat) (o:Oper),j<=n->ops[j]?=some o->(∀e∈o.after,Region.binds .any e=true->CX.getD e.on false=true)-> ∀i,FQ tbl j i=true->CX.getD i false=true:=by
 intro n
 induction n with
 |zero=>
  intro j o hj ho Gv i hi;obtain rfl:j=0:=by omega
  have Dc:0<ops.size:=(BF.1 ho).1;have h1:=A3.1 ht 0 (by simpa using Dc);have h2:=A3.1 h1 i (by simpa[FQ] using hi);rw[ho] at h2;simp only[Array.any_eq_true,AW,Ep,Jz,Bj] at h2;obtain⟨k,hk,hb,he|⟨Aci,_⟩⟩:=h2
  ·rw[<-he];exact Gv _ (Lo hk) hb
  ·omega
 |succ n ih=>
  intro j o hj ho Gv i hi;have Dc:j<ops.size:=(BF.1 ho).1;have h1:=A3.1 ht j (by simpa using Dc);have h2:=A3.1 h1 i (by simpa[FQ] using hi);rw[ho] at h2;simp only[Array.any_eq_true,AW,Ep,Jz,Bj] at h2;obtain⟨k,hk,hb,he|⟨Aci,ha⟩⟩:=h2
  ·rw[<-he];exact Gv _ (Lo hk) hb
  ·have hl:=Gv _ (Lo hk) hb;have hs:o.after[k].on<ops.size:=by omega
   exact ih _ _ Af (CJ hs) (hd _ _ (CJ hs) hl) i ha
theorem GC(h:S9 ops x=true):(∀e∈x.2.2.after,Region.binds .any e=true->e.on≠x.1/\e.on<ops.size)/\I9 x.2.2.op=true/\ ∀cs b,x.2.2.op≠ .select cs b:=by unfold S9 at h;simp only[AW] at h;obtain⟨⟨h1,h2⟩,h3⟩:=h;refine⟨λe he hb=>?_,h2,λcs b hc=>by rw[hc] at h3;cases h3⟩;obtain⟨k,hk,rfl⟩:=Array.getElem_of_mem he;have:=Array.all_eq_true.1 h1 k hk;rw[hb] at this;simpa using this
theorem Fq{sw:Sw}(h:MQ ops tbl sw x y=true):((x.2.1=true/\x.2.2.apart ops y.2.2=true)\/FQ tbl y.1 x.1=true\/Pa sw x.1 y.1=true)/\(∀e∈x.2.2.after,Region.binds .any e=true->e.on≠y.1)/\x.1≠y.1:=by unfold MQ at h;simp only[AW,Ep,Pv,ne_eq] at h;obtain⟨⟨h1,h2⟩,h3⟩:=h;refine⟨by rcases h1 with(h1|h1)|h1;exact .inl h1;exact .inr (.inl h1);exact .inr (.inr h1),λe he hb=>?_,h3⟩;obtain⟨k,hk,rfl⟩:=Array.getElem_of_mem he;have:=Array.all_eq_true.1 h2 k hk;rw[hb] at this;simpa using this
theorem MR{tbl:List (List Nat)}{sw:Sw}: ∀{l:List BH},Gq ops tbl sw l=true->(∀x,x∈l->S9 ops x=true)/\l.Pairwise (λx y=>MQ ops tbl sw x y=true)
 |[],_=>⟨by simp,.nil⟩
 |x::r,h=>by simp only[Gq,AW] at h;obtain⟨⟨h1,h2⟩,h3⟩:=h;obtain⟨k1,k2⟩:=MR h3;exact⟨λy hy=>by rcases At.1 hy with rfl|hy;exact h1;exact k1 y hy,Cd.2 ⟨λy hy=>A3.1 h2 y hy,k2⟩⟩
structure Way(P:Program)(ro:Option Nat)(E:World)(ops:Array Oper)(Q:Exit->Act->World->Prop)(R:Ad)(tbl:List (List Nat))(sw:Sw)(sp:FM)(CX:Array Bool)(Fl:List (BH×Value))(A0:List BH)(Φ:Act->Prop)(l:Ad)(a:Act)(W:World):Prop where
 phi:Φ (putAll Fl a)
 sub: ∀c,c∈R->c∈l
 sat:Sat E l W
 plan:SemPlan P ro E ops Q R tbl sw sp A0 Φ l
 quiet: ∀p1 x v p2,Fl=p1++(x,v)::p2->x.2.1=true/\ ∃S,(x.1,S)∈sp/\(∀c,c∈S->c∈l)/\ ∀E' l' W,(∀c,c∈R->c∈l')->(∀c,c∈S->c∈l')->Sat E' l' W->StepV P ro ops x.2.2 (putAll p1 a) W (λu W'=>u=v/\Sat E' l' W')
 size:CX.size=ops.size
 un: ∀i,i<ops.size->(CX.getD i true=false<-> ∃x,x∈Fl.map Prod.fst++A0/\x.1=i)
 num: ∀x,x∈Fl.map Prod.fst++A0->ops[x.1]?=some x.2.2
 self: ∀x,x∈Fl.map Prod.fst++A0->S9 ops x=true
 pairs:(Fl.map Prod.fst++A0).Pairwise (λx y=>MQ ops tbl sw x y=true)
 swf: ∀x,x∈Fl.map Prod.fst++A0-> ∀j,Pa sw x.1 j=true->x.2.1=false
 down:qk ops CX
theorem cX(h:i<CX.size):CX.getD i true=CX.getD i false:=by simp[Do,CJ h]
theorem Way.notAnc{sw:Sw}{sp:FM}(h:Way P ro E ops Q R tbl sw sp CX Fl A0 Φ l a W)(ht:Tb ops tbl=true)(hr:j∈Region.ready .any ops CX)(hx:x∈Fl.map Prod.fst++A0):FQ tbl j x.1=false:=by
 obtain⟨h0,o,ho,Gv⟩:=mem_ready.1 hr;cases hc:FQ tbl j x.1
 ·rfl
 ·have h1:=Z0 ht h.down j j o (Bd _) ho Gv x.1 hc;have Dc:x.1<ops.size:=(BF.1 (h.num x hx)).1;have h2:=(h.un x.1 Dc).2 ⟨x,hx,rfl⟩;rw[cX (by rw[h.size];exact Dc),h1] at h2;cases h2
theorem UU(h:j<CX.size)(d:Bool):(CX.setIfInBounds j true).getD j d=true:=by simp[Do,h]
theorem Way.down'{tbl:List (List Nat)}(hd:qk ops CX)(UI:CX.size=ops.size)(hr:j∈Region.ready .any ops CX):qk ops (CX.setIfInBounds j true):=by
 obtain⟨h0,o,ho,Gv⟩:=mem_ready.1 hr;intro i oi hi hl e he hb;by_cases e1:i=j
 ·subst e1;rw[ho] at hi;cases hi;exact getD_set_true (Gv e he hb)
 ·rw[getD_set_ne _ (FG e1)] at hl;exact getD_set_true (hd i oi hi hl e he hb)
theorem XV{p q:List BH}(UI:CX.size=ops.size)(hx:x.1<ops.size)(G5: ∀y,y∈p++q->y.1≠x.1)(h: ∀i,i<ops.size->(CX.getD i true=false<-> ∃y,y∈p++x::q/\y.1=i)):
 ∀i,i<ops.size->((CX.setIfInBounds x.1 true).getD i true=false<-> ∃y,y∈p++q/\y.1=i):=by
 intro i hi;by_cases e:i=x.1
 ·subst e;rw[UU (by rw[UI];exact hx)];constructor
  ·intro h0;cases h0
  ·rintro⟨y,hy,hyi⟩;exact absurd hyi (G5 y hy)
 ·rw[getD_set_ne _ (FG e),h i hi];constructor
  ·rintro⟨y,hy,rfl⟩;refine⟨y,?_,rfl⟩;rcases AH.1 hy with hy|hy
   ·exact Ai _ hy
   ·rcases At.1 hy with rfl|hy
    ·exact absurd rfl e
    ·exact Aa _ hy
  ·rintro⟨y,hy,rfl⟩;refine⟨y,?_,rfl⟩;rcases AH.1 hy with hy|hy
   ·exact Ai _ hy
   ·exact Aa _ (An _ hy)
theorem Way.pend_step{sw:Sw}{sp:FM}{p1 p2:List (BH×Value)}(ht:Tb ops tbl=true)(h:Way P ro E ops Q R tbl sw sp CX (p1++(x,v)::p2) A0 Φ l a W)(hr:x.1∈Region.ready .any ops CX):
 StepV P ro ops x.2.2 a W (λu W'=>Way P ro E ops Q R tbl sw sp (CX.setIfInBounds x.1 true) (p1++p2) A0 Φ l (a.put x.2.2.dst u) W'):=by
 have jf:x∈(p1++(x,v)::p2).map Prod.fst++A0:=by simp
 have jg: ∀q,q∈p1->q.1.2.2.apart ops x.2.2=true:=by
  intro q hq;have hp:=h.pairs;simp only[Aq,AJ,Am,Ae] at hp;have:=(Bp.1 hp).2.2 q.1 (Au.2 ⟨q,hq,rfl⟩) x Ak;rcases(Fq this).1 with⟨_,h1⟩|h1|h1
  ·exact h1
  ·have:=h.notAnc ht hr (x:=q.1) (Ai _ (Au.2 ⟨q,by simp[hq],rfl⟩));rw[this] at h1;cases h1
  ·obtain⟨q1,q2,rfl⟩:=GE hq;have hqt:=(h.quiet q1 q.1 q.2 (q2++(x,v)::p2) (by simp)).1;have uN:=h.swf q.1 (Ai _ (Au.2 ⟨q,by simp,rfl⟩)) _ h1;rw[hqt] at uN;cases uN
 have RM:=(GC (h.self x jf)).2.2;obtain⟨hxt,S,hSp,uO,hq⟩:=h.quiet p1 x v p2 rfl;have h1:=hq E l W h.sub uO h.sat;rw[StepV.putAll RM (λq QW t ht'=>(Oper.apart_spec (jg q QW)).1 t ht')] at h1;refine h1.mono ?_;rintro u W' ⟨rfl,hs'⟩;have SN: ∀q1:List (BH×Value),(∀q,q∈q1->q∈p1)->putAll q1 (a.put x.2.2.dst u)=(putAll q1 a).put x.2.2.dst u:=λq1 hq1=>Ta λq QW t ht' hc=>(Oper.apart_spec (jg q (hq1 q QW))).2.1 t hc ht';have Dc:x.1<ops.size:=(BF.1 (h.num x jf)).1;have CE:((p1++p2).map Prod.fst++A0).Sublist ((p1++(x,u)::p2).map Prod.fst++A0):=by simp only[Aq,AJ];exact Kl (Kl (EJ _) (D8 _ _)) (EJ _)
 refine⟨?_,h.sub,hs',h.plan,?_,by simpa using h.size,?_,λy hy=>h.num y (CE.subset hy),λy hy=>h.self y (CE.subset hy),h.pairs.sublist CE,λy hy=>h.swf y (CE.subset hy),Way.down' (tbl:=tbl) h.down h.size hr⟩
 ·have:=h.phi;rw[JO] at this⊢;rw[SN p1 λ_ hq=>hq];exact this
 ·intro q1 y w q2 DB;rcases List.append_eq_append_iff.1 DB with⟨m,e1,e2⟩|⟨m,e1,e2⟩
  ·
   subst e1;have ZE:p1++(x,u)::p2=(p1++(x,u)::m)++(y,w)::q2:=by simp[e2]
   obtain⟨k1,k2⟩:=h.quiet _ y w q2 ZE;refine⟨k1,?_⟩;rw[JO] at k2⊢;rw[SN p1 λ_ hq=>hq];exact k2
  ·cases m with
   |nil=>
    simp only[Bi,Ag] at e1 e2;subst e1;have ZE:p1++(x,u)::p2=(p1++[(x,u)])++(y,w)::q2:=by simp[e2]
    obtain⟨k1,k2⟩:=h.quiet _ y w q2 ZE;refine⟨k1,?_⟩;rw[JO] at k2;rw[SN p1 λ_ hq=>hq];exact k2
   |cons z m=>
    simp only[Ae,CZ] at e2;obtain⟨e3,e4⟩:=e2;subst e3;have ZE:p1++(x,u)::p2=q1++(y,w)::(m++(x,u)::p2):=by rw[e1];simp
    obtain⟨k1,S2,k3,k4,k2⟩:=h.quiet _ y w _ ZE;refine⟨k1,S2,k3,k4,λE' l' W2 hR hS2 NM=>?_⟩;rw[SN q1 (λq hq=>by rw[e1];exact Ai _ hq)];have hym:y∈(p1++(x,u)::p2).map Prod.fst++A0:=by rw[e1];simp
    rw[StepV.put (GC (h.self y hym)).2.2 (λt ht'=>(Oper.apart_spec (jg (y,w) (by rw[e1];simp))).2.2 t ht')];exact k2 E' l' W2 hR hS2 NM
 ·have G5: ∀y,y∈p1.map Prod.fst++(p2.map Prod.fst++A0)->y.1≠x.1:=by
   intro y hy;have hp:=h.pairs;simp only[Aq,AJ,Am,Ae] at hp;rcases AH.1 hy with hy|hy
   ·exact(Fq ((Bp.1 hp).2.2 y hy x Ak)).2.2
   ·exact λe=>(Fq ((Cd.1 (Bp.1 hp).2.1).1 y hy)).2.2 e.symm
  have:=XV (p:=p1.map Prod.fst) (q:=p2.map Prod.fst++A0) h.size Dc G5 (by simpa using h.un);simpa using this
theorem Way.pass{sw:Sw}{sp:FM}(h:Way P ro E ops Q R tbl sw sp CX Fl ((i,true,o)::A0) Φ l a W):
 ∃v Φ' H0,Way P ro E ops Q R tbl sw H0 CX (Fl++[((i,true,o),v)]) A0 Φ' l a W:=by
 obtain⟨v,S,uO,hv,hp⟩: ∃v S,(∀c,c∈S->c∈l)/\(∀a,Φ a-> ∀E' l' W,(∀c,c∈R->c∈l')->(∀c,c∈S->c∈l')->Sat E' l' W->StepV P ro ops o a W (λu W'=>u=v/\Sat E' l' W'))/\SemPlan P ro E ops Q R tbl sw ((i,S)::sp) A0 (λa'=> ∃a,Φ a/\a'=a.put o.dst v) l:=by
  cases h.plan with
  |quiet v S h1 h2 h3=>exact⟨v,S,h1,h2,h3⟩
 have e:(Fl++[((i,true,o),v)]).map Prod.fst++A0=Fl.map Prod.fst++(i,true,o)::A0:=by simp
 refine⟨v,_,_,⟨_,h.phi,by rw[JO];rfl⟩,h.sub,h.sat,hp,?_,h.size,by rw[e];exact h.un,by rw[e];exact h.num,by rw[e];exact h.self,by rw[e];exact h.pairs,by rw[e];exact h.swf,h.down⟩
 ·intro p1 x u p2 DB;rcases List.append_eq_append_iff.1 DB with⟨m,e1,e2⟩|⟨m,e1,e2⟩
  ·cases m with
   |nil=>simp only[Ag,CZ,Bi] at e1 e2;obtain⟨e3,_⟩:=e2;cases e3;subst e1;exact⟨rfl,S,Ak,uO,hv _ h.phi⟩
   |cons z m=>simp at e2
  ·cases m with
   |nil=>simp only[Ag,CZ,Bi] at e1 e2;obtain⟨e3,_⟩:=e2;cases e3;subst e1;exact⟨rfl,S,Ak,uO,hv _ h.phi⟩
   |cons z m=>simp only[Ae,CZ] at e2;obtain⟨e3,e4⟩:=e2;subst e3;obtain⟨q1,S2,q2,q3,q4⟩:=h.quiet p1 x u m e1;exact⟨q1,S2,An _ q2,q3,q4⟩
theorem Vg{sw yf:Sw}(h:MQ ops tbl sw x y=true)(hn:Pa sw x.1 y.1=false):MQ ops tbl yf x y=true:=by
 unfold MQ at h⊢;simp only[AW,Ep] at h⊢;obtain⟨⟨h1,h2⟩,h3⟩:=h;refine⟨⟨.inl ?_,h2⟩,h3⟩;rcases h1 with h1|h1
 ·exact h1
 ·rw[hn] at h1;cases h1
theorem Vh{sw:Sw}(h:UT sw pl=true)(hs:Pa sw i j=true): ∃x,x∈pl/\x.1=i/\x.2.1=false:=by
 cases sw with
 |none=>cases hs
 |some L=>simp only[Pa,Js] at hs;have h1:=A3.1 h _ hs;obtain⟨x,hx,h2⟩:=HJ.1 h1;simp only[AW,Jz,Ef] at h2;exact⟨x,hx,h2.1,h2.2⟩
theorem Wq: ∀(l:List BH),(l.map (λx:BH=>x.1)).Nodup-> ∀{x y:BH},x∈l->y∈l->x.1=y.1->x=y
 |[],_,_,_,hx,_,_=>by cases hx
 |z::l,h,x,y,hx,hy,e=>by
  rw[AJ,AP] at h;rcases At.1 hx with h1|h1<;>rcases At.1 hy with h2|h2
  ·rw[h1,h2]
  ·exact(h.1 (Au.2 ⟨y,h2,by rw[<-e,h1]⟩)).elim
  ·exact(h.1 (Au.2 ⟨x,h1,by rw[e,h2]⟩)).elim
  ·exact Wq l h.2 h1 h2 e
theorem Way.eff_step{sw:Sw}{sp:FM}(ht:Tb ops tbl=true)(h:Way P ro E ops Q R tbl sw sp CX Fl ((i,false,o)::A0) Φ l a W)(hr:j∈Region.ready .any ops CX)(hj: ∃x,x∈(i,false,o)::A0/\x.1=j):
 ∃oj,ops[j]?=some oj/\I9 oj.op=true/\StepV P ro ops oj a W (λu W'=> ∃yf rest' Φ' l',Way P ro E ops Q R tbl yf sp (CX.setIfInBounds j true) Fl rest' Φ' l' (a.put oj.dst u) W'/\rest'.length=A0.length):=by
 have U9:Pb tbl sw i A0 j:=by
  obtain⟨x,hx,hxj⟩:=hj;rcases At.1 hx with rfl|hx
  ·exact .inl hxj.symm
  ·by_cases Wc:j=i
   ·exact .inl Wc
   refine .inr ⟨?_,λy hy=>h.notAnc ht hr (x:=y) (by simp[hy]),x,hx,hxj⟩;have hp:=(Cd.1 (Bp.1 h.pairs).2.1).1 x hx;rcases(Fq hp).1 with⟨h1,_⟩|h1|h1
   ·cases h1
   ·have:=h.notAnc ht hr (x:=(i,false,o)) (by simp);simp only[hxj] at h1;rw[this] at h1;cases h1
   ·rw[hxj] at h1;exact h1
 obtain⟨oj,Kj,rj,fB,hperm,Dm,Mi,Xo⟩: ∃(oj:Oper) (Kj:Act->Value->Ad->Prop) (rj:List BH) (fB:Sw),((j,false,oj)::rj).Perm ((i,false,o)::A0)/\((j=i/\fB=sw/\rj=A0)\/(Gq ops tbl fB rj=true/\UT fB rj=true))/\MO P ro E ops R tbl sp j oj Φ l Kj/\ ∀a v l',Kj a v l'->SemPlan P ro E ops Q R tbl fB sp rj (λa'=>a'=a.put oj.dst v) l':=by
  cases h.plan with
  |eff oo K rf sf h1 h2 h3=>exact⟨oo j,K j,rf j,sf j,(h1 j U9).1,(h1 j U9).2,h2 j U9,h3 j U9⟩
 have NN: ∀x,x∈Fl.map Prod.fst++(j,false,oj)::rj<->x∈Fl.map Prod.fst++(i,false,o)::A0:=λx=>by rw[AH,AH,hperm.mem_iff]
 have jf:(j,false,oj)∈Fl.map Prod.fst++(i,false,o)::A0:=(NN _).1 (by simp);have s6: ∀x,x∈Fl.map Prod.fst++rj->x∈Fl.map Prod.fst++(i,false,o)::A0:=λx hx=>(NN x).1 (by
  rcases AH.1 hx with hx|hx
  ·exact Ai _ hx
  ·exact Aa _ (An _ hx))
 have hq: ∀q,q∈Fl->q.1.2.1=true:=λq hq=>by obtain⟨q1,q2,rfl⟩:=GE hq;exact(h.quiet q1 q.1 q.2 q2 rfl).1
 have OJ: ∀q,q∈Fl-> ∀y,Pa sw q.1.1 y=false:=λq QW y=>by
  cases hc:Pa sw q.1.1 y with
  |false=>rfl
  |true=>have:=h.swf q.1 (Ai _ (Au.2 ⟨q,QW,rfl⟩)) _ hc;rw[hq q QW] at this;cases this
 have Wd: ∀q,q∈Fl-> ∀y,y∈(i,false,o)::A0->MQ ops tbl sw q.1 y=true:=λq QW y hy=>(Bp.1 h.pairs).2.2 q.1 (Au.2 ⟨q,QW,rfl⟩) y hy;have hjr:(j,false,oj)∈(i,false,o)::A0:=hperm.mem_iff.1 (by simp);have pD: ∀q,q∈Fl->FQ tbl j q.1.1=false:=λq hq=>h.notAnc ht hr (x:=q.1) (Ai _ (Au.2 ⟨q,hq,rfl⟩));have jg: ∀q,q∈Fl->q.1.2.2.apart ops oj=true:=by
  intro q QW;rcases(Fq (Wd q QW _ hjr)).1 with⟨_,h1⟩|h1|h1
  ·exact h1
  ·simp only at h1;rw[pD q QW] at h1;cases h1
  ·rw[OJ q QW] at h1;cases h1
 have RM:=(GC (h.self _ jf)).2.2;refine⟨oj,h.num _ jf,(GC (h.self _ jf)).2.1,?_⟩;have h1:=Mi _ W h.phi h.sat;rw[StepV.putAll RM (λq QW t ht'=>(Oper.apart_spec (jg q QW)).1 t ht')] at h1;refine h1.mono ?_;rintro u W' ⟨l',hk,hR',ZE,hs'⟩;have jB:=Xo _ _ _ hk;have SN: ∀q1:List (BH×Value),(∀q,q∈q1->q∈Fl)->putAll q1 (a.put oj.dst u)=(putAll q1 a).put oj.dst u:=λq1 hq1=>Ta λq QW t ht' hc=>(Oper.apart_spec (jg q (hq1 q QW))).2.1 t hc ht';have Dc:j<ops.size:=(BF.1 (h.num _ jf)).1;have KP:(((i,false,o)::A0).map (λx:BH=>x.1)).Nodup:=by rw[D3,Cu];exact(Bp.1 h.pairs).2.1.imp λhp=>(Fq hp).2.2
 have Acl: ∀y,y∈rj->y.1≠j:=by rw[<-(hperm.map (λx:BH=>x.1)).nodup_iff,AJ,AP] at KP;exact λy hy e=>KP.1 (Au.2 ⟨y,hy,e⟩)
 have Ei:rj.length=A0.length:=by have:=hperm.length_eq;simpa using this
 refine⟨fB,rj,_,l',⟨?_,hR',hs',jB,?_,by simpa using h.size,?_,λy hy=>h.num y (s6 y hy),λy hy=>h.self y (s6 y hy),?_,λy hy k hk=>?_,Way.down' (tbl:=tbl) h.down h.size hr⟩,Ei⟩
 ·exact SN Fl λ_ hq=>hq
 ·intro q1 y w q2 DB;obtain⟨k1,S2,k3,k4,k2⟩:=h.quiet q1 y w q2 DB;refine⟨k1,S2,k3,ZE _ k3 (pD (y,w) (by rw[DB];simp)),λE' l2 W2 hR hS2 NM=>?_⟩;rw[SN q1 (λq hq=>by rw[DB];exact Ai _ hq)];have hym:y∈Fl.map Prod.fst++(i,false,o)::A0:=by rw[DB];simp
  rw[StepV.put (GC (h.self y hym)).2.2 (λt ht'=>(Oper.apart_spec (jg (y,w) (by rw[DB];simp))).2.2 t ht')];exact k2 E' l2 W2 hR hS2 NM
 ·have G5: ∀y,y∈Fl.map Prod.fst++rj->y.1≠j:=by
   intro y hy;rcases AH.1 hy with hy|hy
   ·obtain⟨q,QW,rfl⟩:=Au.1 hy;exact(Fq (Wd q QW _ hjr)).2.2
   ·exact Acl y hy
  refine XV (x:=(j,false,oj)) h.size Dc G5 λk hk=>?_;rw[h.un k hk];exact⟨λ⟨x,hx,e⟩=>⟨x,(NN x).2 hx,e⟩,λ⟨x,hx,e⟩=>⟨x,(NN x).1 hx,e⟩⟩
 ·obtain⟨p1,p2,p3⟩:=Bp.1 h.pairs;rcases Dm with⟨_,rfl,rfl⟩|⟨Dm,_⟩
  ·exact h.pairs.sublist (Kl (EJ _) (D8 _ _))
  ·refine Bp.2 ⟨?_,(MR Dm).2,λx hx y hy=>?_⟩
   ·refine List.Pairwise.imp_of_mem (λ{x y} hx hy UJ=>?_) p1;obtain⟨q,QW,rfl⟩:=Au.1 hx;exact Vg UJ (OJ q QW _)
   ·obtain⟨q,QW,rfl⟩:=Au.1 hx;exact Vg (Wd q QW y (hperm.mem_iff.1 (An _ hy))) (OJ q QW _)
 ·rcases Dm with⟨_,rfl,rfl⟩|⟨_,NO⟩
  ·exact h.swf y (by
    rcases AH.1 hy with hy|hy
    ·exact Ai _ hy
    ·exact Aa _ (An _ hy)) k hk
  ·obtain⟨x,hx,e1,e2⟩:=Vh NO hk;rcases AH.1 hy with hy|hy
   ·exfalso;obtain⟨q,QW,rfl⟩:=Au.1 hy;exact(Fq (Wd q QW x (hperm.mem_iff.1 (An _ hx)))).2.2 e1.symm
   ·have jz:(rj.map (λx:BH=>x.1)).Nodup:=by
     rw[<-(hperm.map (λx:BH=>x.1)).nodup_iff,AJ,AP] at KP;exact KP.2
    rw[<-Wq rj jz hx hy e1];exact e2
theorem Way.reach{tbl:List (List Nat)}{sw:Sw}{CX:Array Bool}{l:Ad}{a:Act}{W:World}{j:Nat}(ht:Tb ops tbl=true)(hr:j∈Region.ready .any ops CX): ∀(A0:List BH) (sp:FM) (Fl:List (BH×Value)) (Φ:Act->Prop),Way P ro E ops Q R tbl sw sp CX Fl A0 Φ l a W->(∃x,x∈A0/\x.1=j)->
 ∃(o:Oper) (next:Value->World->Prop),ops[j]?=some o/\I9 o.op=true/\StepV P ro ops o a W (λu W'=>next u W')/\ ∀u W',next u W'-> ∃yf H0 pend' rest' Φ' l',Way P ro E ops Q R tbl yf H0 (CX.setIfInBounds j true) pend' rest' Φ' l' (a.put o.dst u) W'/\pend'.length+rest'.length+1=Fl.length+A0.length
 |[],_,_,_,_,⟨x,hx,_⟩=>by cases hx
 |(i,true,o)::A0,sp,Fl,Φ,h,⟨x,hx,hxj⟩=>by
  have him:(i,true,o)∈Fl.map Prod.fst++(i,true,o)::A0:=by simp
  obtain⟨v,Φ',H0,h'⟩:=h.pass;by_cases Wc:i=j
  ·subst Wc;refine⟨o,_,h.num _ him,(GC (h.self _ him)).2.1,Way.pend_step (p1:=Fl) (p2:=[]) (x:=(i,true,o)) ht h' hr,λu W' hw=>⟨_,_,_,_,_,_,hw,by simp;omega⟩⟩
  ·have hxr:x∈A0:=by
    rcases At.1 hx with rfl|hx
    ·exact absurd hxj Wc
    ·exact hx
   obtain⟨o',next,k1,k2,k3,k4⟩:=Way.reach ht hr A0 _ _ Φ' h' ⟨x,hxr,hxj⟩;refine⟨o',next,k1,k2,k3,λu W' hw=>?_⟩;obtain⟨sw2,Xp,p',r',Φ2,l2,jC,Ei⟩:=k4 u W' hw;exact⟨sw2,Xp,p',r',Φ2,l2,jC,by simp at Ei⊢;omega⟩
 |(i,false,o)::A0,sp,Fl,Φ,h,hx=>by obtain⟨oj,k1,k2,k3⟩:=h.eff_step ht hr hx;exact⟨oj,_,k1,k2,k3,λu W' ⟨yf,rest',Φ',l',hw,hl⟩=>⟨_,_,_,_,_,_,hw,by simp;omega⟩⟩
theorem Way.fin{sw:Sw}{sp:FM}(h:Way P ro E ops Q R tbl sw sp CX Fl A0 Φ l a W)(h0:Region.ready .any ops CX=[]):Q .normal a W:=by
 have uP:Fl=[]/\A0=[]:=by
  have key:Fl.map Prod.fst++A0=[]:=by
   cases hpr:Fl.map Prod.fst++A0 with
   |nil=>rfl
   |cons x r=>
    exfalso;have jf:x∈Fl.map Prod.fst++A0:=by rw[hpr];exact Ak
    have Dc:x.1<ops.size:=(BF.1 (h.num x jf)).1;have NN:x.1∈Region.ready .any ops CX:=by
     refine mem_ready.2 ⟨(h.un x.1 Dc).2 ⟨x,jf,rfl⟩,x.2.2,h.num x jf,λe he hb=>?_⟩;obtain⟨h1,h2⟩:=(GC (h.self x jf)).1 e he hb;cases hg:CX.getD e.on false
     ·exfalso;obtain⟨y,hy,hye⟩:=(h.un e.on h2).1 (by rw[cX (by rw[h.size];exact h2)];exact hg);have hp:=h.pairs;rw[hpr] at hp hy;rcases At.1 hy with rfl|hy
      ·exact h1 hye.symm
      ·exact(Fq ((Cd.1 hp).1 y hy)).2.1 e he hb hye.symm
     ·rfl
    rw[h0] at NN;cases NN
  have h1:=List.append_eq_nil_iff.1 key;exact⟨List.map_eq_nil_iff.1 h1.1,h1.2⟩
 obtain⟨rfl,rfl⟩:=uP;cases h.plan with
 |nil h2=>exact h2 a W h.phi h.sat
theorem Way.any{tbl:List (List Nat)}(ht:Tb ops tbl=true): ∀(XC:Nat) (sw:Sw) (sp:FM) (CX:Array Bool) (Fl:List (BH×Value)) (A0:List BH) (Φ:Act->Prop) (l:Ad) (a:Act) (W:World),Way P ro E ops Q R tbl sw sp CX Fl A0 Φ l a W->Fl.length+A0.length<=XC->wpAnyIn (Fw ro) 0 P .any ops Q XC CX a W:=by
 intro XC
 induction XC with
 |zero=>
  intro sw sp CX Fl A0 Φ l a W h hl;have hp:Fl=[]:=Gs.1 Af;have hr:A0=[]:=Gs.1 Af;subst hp hr;have h0:Region.ready .any ops CX=[]:=by
   cases hrd:Region.ready .any ops CX with
   |nil=>rfl
   |cons j r=>
    exfalso;have hj:j∈Region.ready .any ops CX:=by rw[hrd];exact Ak
    obtain⟨h1,o,ho,_⟩:=mem_ready.1 hj;obtain⟨x,hx,_⟩:=(h.un j (BF.1 ho).1).1 h1;simp at hx
  exact⟨h0,h.fin h0⟩
 |succ XC ih=>
  intro sw sp CX Fl A0 Φ l a W h hl;refine⟨λh0=>h.fin h0,λj hj=>?_⟩;obtain⟨h1,o,ho,Gv⟩:=mem_ready.1 hj;obtain⟨x,hx,hxj⟩:=(h.un j (BF.1 ho).1).1 h1;rcases AH.1 hx with hxp|hxr
  ·obtain⟨⟨x',v⟩,hm,rfl⟩:=Au.1 hxp;obtain⟨p1,p2,rfl⟩:=GE hm;simp only at hxj hx;subst hxj;refine StepV.op (h.num x' hx) (GC (h.self x' hx)).2.1 (h.pend_step ht hj) λu W' hw=>ih _ _ _ _ _ _ _ _ _ hw (by simp at hl⊢;omega)
  ·obtain⟨o',next,k1,k2,k3,k4⟩:=Way.reach ht hj A0 _ Fl Φ h ⟨x,hxr,hxj⟩;refine StepV.op k1 k2 k3 λu W' hw=>?_;obtain⟨sw2,Xp,p',r',Φ2,l2,jC,Ei⟩:=k4 u W' hw;exact ih _ _ _ _ _ _ _ _ _ jC Af
theorem XW{fr:Fr}{d:Nat}{oj:Oper}(hf:FSat N fr a)(hj:ops[j]?=some oj)(hd:oj.dst=some d)(hb:BX fr d=some undef):yielded ops a.tmps j=none:=by have:=hf.at_ d _ hb;simp[yielded,hj,hd,this,undef]
inductive PlanS(P:Program)(ro:Option Nat)(N:Nat)(E:World)(ops:Array Oper)(Q:Exit->Act->World->Prop)(R:Ad)(tbl:List (List Nat)):Sw->FM->List BH->Fr->List Deferred->Ad->Prop
 |nil {sw:Sw} {sp:FM} {fr:Fr} {ds:List Deferred} {l:Ad}:CU N E Q .normal fr ds l->PlanS P ro N E ops Q R tbl sw sp [] fr ds l
 |q {sw:Sw} {sp:FM} {i:Nat} {o:Oper} {v:Value} {A0:List BH} {fr:Fr} {ds:List Deferred} {l:Ad}:OpQ P ro N fr R o v->o.guard=none->JY N o.dst=true->PlanS P ro N E ops Q R tbl sw sp A0 (Il o.dst v fr) ds l->PlanS P ro N E ops Q R tbl sw sp ((i,true,o)::A0) fr ds l
 |gq {sw:Sw} {sp:FM} {i j dj:Nat} {o oj:Oper} {b:Bool} {v:Value} {A0:List BH} {fr:Fr} {ds:List Deferred} {l:Ad}:OpQ P ro N fr R o v->o.guard=some (j,b)->ops[j]?=some oj->oj.dst=some dj->BX fr dj=some (.bool b)->JY N o.dst=true->PlanS P ro N E ops Q R tbl sw sp A0 (Il o.dst v fr) ds l->PlanS P ro N E ops Q R tbl sw sp ((i,true,o)::A0) fr ds l
 |gs {sw:Sw} {sp:FM} {i j dj:Nat} {o oj:Oper} {b b':Bool} {A0:List BH} {fr:Fr} {ds:List Deferred} {l:Ad} {k:Bool}:o.guard=some (j,b)->ops[j]?=some oj->oj.dst=some dj->BX fr dj=some (.bool b')->(b'==b)=false->JY N o.dst=true->(∀c,c∈R->c∈l)->(k=false->sw=none)->(k=false-> ∀x,x∈sp->FQ tbl i x.1=false-> ∀c,c∈x.2->c∈l)->PlanS P ro N E ops Q R tbl sw sp A0 (Il o.dst undef fr) ds l->PlanS P ro N E ops Q R tbl sw sp ((i,k,o)::A0) fr ds l
 |gu {sw:Sw} {sp:FM} {i j dj:Nat} {o oj:Oper} {b:Bool} {A0:List BH} {fr:Fr} {ds:List Deferred} {l:Ad} {k:Bool}:o.guard=some (j,b)->ops[j]?=some oj->oj.dst=some dj->BX fr dj=some undef->JY N o.dst=true->(∀c,c∈R->c∈l)->(k=false->sw=none)->(k=false-> ∀x,x∈sp->FQ tbl i x.1=false-> ∀c,c∈x.2->c∈l)->PlanS P ro N E ops Q R tbl sw sp A0 (Il o.dst undef fr) ds l->PlanS P ro N E ops Q R tbl sw sp ((i,k,o)::A0) fr ds l
 |e {sp:FM} {i:Nat} {o:Oper} {K:Value->Ad->Prop} {A0:List BH} {fr:Fr} {ds:List Deferred} {l:Ad}:OpE P ro N fr l o K->o.guard=none->JY N o.dst=true->(∀v l',K v l'->(∀c,c∈R->c∈l'))->(∀v l',K v l'-> ∀x,x∈sp->FQ tbl i x.1=false-> ∀c,c∈x.2->c∈l')->(∀v l',K v l'->PlanS P ro N E ops Q R tbl none sp A0 (Il o.dst v fr) ds l')->PlanS P ro N E ops Q R tbl none sp ((i,false,o)::A0) fr ds l
 |ge {sp:FM} {i j dj:Nat} {o oj:Oper} {b:Bool} {K:Value->Ad->Prop} {A0:List BH} {fr:Fr} {ds:List Deferred} {l:Ad}:OpE P ro N fr l o K->o.guard=some (j,b)->ops[j]?=some oj->oj.dst=some dj->BX fr dj=some (.bool b)->JY N o.dst=true->(∀v l',K v l'->(∀c,c∈R->c∈l'))->(∀v l',K v l'-> ∀x,x∈sp->FQ tbl i x.1=false-> ∀c,c∈x.2->c∈l')->(∀v l',K v l'->PlanS P ro N E ops Q R tbl none sp A0 (Il o.dst v fr) ds l')->PlanS P ro N E ops Q R tbl none sp ((i,false,o)::A0) fr ds l
 |weak {sw:Sw} {sp:FM} {pl:List BH} {fr fr':Fr} {ds:List Deferred} {l:Ad}:(∀d v,BX fr' d=some v->BX fr d=some v)->PlanS P ro N E ops Q R tbl sw sp pl fr' ds l->PlanS P ro N E ops Q R tbl sw sp pl fr ds l
 |sq {sw:Sw} {sp:FM} {i:Nat} {o:Oper} {v:Value} {S:Ad} {A0:List BH} {fr:Fr} {ds:List Deferred} {l:Ad}:OpQ P ro N fr S o v->(∀c,c∈S->c∈l)->o.guard=none->JY N o.dst=true->PlanS P ro N E ops Q R tbl sw ((i,S)::sp) A0 (Il o.dst v fr) ds l->PlanS P ro N E ops Q R tbl sw sp ((i,true,o)::A0) fr ds l
 |alt {L:List (Nat×Nat)} {sp:FM} {i:Nat} {o:Oper} {A0:List BH} {fr:Fr} {ds:List Deferred} {l:Ad} (oo:Nat->Oper) (K:Nat->Value->Ad->Prop) (rf:Nat->List BH) (sf:Nat->Sw):
   (∀j,Pb tbl (some L) i A0 j->((j,false,oo j)::rf j).Perm ((i,false,o)::A0)/\Gq ops tbl (sf j) (rf j)=true/\UT (sf j) (rf j)=true)->
   (∀j,Pb tbl (some L) i A0 j->OpE P ro N fr l (oo j) (K j)/\Rr ops fr (oo j).guard=some true/\JY N (oo j).dst=true)->
   (∀j,Pb tbl (some L) i A0 j-> ∀v l',K j v l'->(∀c,c∈R->c∈l')/\(∀x,x∈sp->FQ tbl j x.1=false-> ∀c,c∈x.2->c∈l'))->
   (∀j,Pb tbl (some L) i A0 j-> ∀v l',K j v l'->PlanS P ro N E ops Q R tbl (sf j) sp (rf j) (Il (oo j).dst v fr) ds l')->PlanS P ro N E ops Q R tbl (some L) sp ((i,false,o)::A0) fr ds l
 |alt2 {i j:Nat} {sp:FM} {o oj:Oper} {A0 rj:List BH} {fr:Fr} {ds:List Deferred} {l:Ad}:j≠i->((j,false,oj)::rj).Perm ((i,false,o)::A0)->Gq ops tbl none rj=true->(∀x,x∈A0->x.1≠i)->PlanS P ro N E ops Q R tbl none sp ((i,false,o)::A0) fr ds l->PlanS P ro N E ops Q R tbl none sp ((j,false,oj)::rj) fr ds l->PlanS P ro N E ops Q R tbl (some [(i,j)]) sp ((i,false,o)::A0) fr ds l
theorem SemPlan.weak{sw:Sw}{sp:FM}{Φ':Act->Prop}(h: ∀a,Φ' a->Φ a)(hp:SemPlan P ro E ops Q R tbl sw sp pl Φ l):SemPlan P ro E ops Q R tbl sw sp pl Φ' l:=by
 induction hp generalizing Φ' with
 |nil hp=>exact .nil λa W ha hs=>hp a W (h a ha) hs
 |quiet v S h0 h1 _ ih=>exact .quiet v S h0 (λa ha=>h1 a (h a ha)) (ih λa' ⟨a,ha,e⟩=>⟨a,h a ha,e⟩)
 |eff oo K rf sf h1 h2 h3 ih=>exact .eff oo K rf sf h1 (λj hj a W ha hs=>h2 j hj a W (h a ha) hs) h3
def SpLe(H0 sp:FM):Prop:= ∀x,x∈H0->x∈sp\/x.2=[]
theorem SpLe.none{H0 sp:FM}(h:SpLe H0 sp)(i:Nat):SpLe ((i,[])::H0) sp:=λx hx=>by
 rcases At.1 hx with rfl|hx
 ·exact .inr rfl
 ·exact h x hx
theorem SpLe.one{H0 sp:FM}(h:SpLe H0 sp)(x:Nat×Ad):SpLe (x::H0) (x::sp):=λy hy=>by
 rcases At.1 hy with rfl|hy
 ·exact .inl Ak
 ·exact(h y hy).imp (An _) id
theorem SemPlan.one{tbl:List (List Nat)}{sw:Sw}{sp:FM}{i:Nat}{o:Oper}{A0:List BH}{Φ:Act->Prop}{l:Ad}(I8: ∀j,Pa sw i j=false)(K:Act->Value->Ad->Prop)(h2:MO P ro E ops R tbl sp i o Φ l K)(h3: ∀a v l',K a v l'->SemPlan P ro E ops Q R tbl sw sp A0 (λa'=>a'=a.put o.dst v) l'):SemPlan P ro E ops Q R tbl sw sp ((i,false,o)::A0) Φ l:=by
 have key: ∀j,Pb tbl sw i A0 j->j=i:=λj hj=>by
  rcases hj with rfl|⟨h,_⟩
  ·rfl
  ·rw[I8] at h;cases h
 exact .eff (λ_=>o) (λ_=>K) (λ_=>A0) (λ_=>sw) (λj hj=>by obtain rfl:=key j hj;exact⟨.refl _,.inl ⟨rfl,rfl,rfl⟩⟩) (λj hj=>by obtain rfl:=key j hj;exact h2) λj hj=>h3
theorem SemPlan.free{sw:Sw}{sp:FM}{n:Sw}(h:SemPlan P ro E ops Q R tbl n sp pl Φ l):n=none->(∀x,x∈pl-> ∀j,Pa sw x.1 j=false)->SemPlan P ro E ops Q R tbl sw sp pl Φ l:=by
 induction h with
 |nil h=>exact λ_ _=> .nil h
 |quiet v S h0 h1 _ ih=>exact λhn hx=> .quiet v S h0 h1 (ih hn λx jc=>hx x (An _ jc))
 |eff oo K rf sf h1 h2 h3 ih=>
  rename_i n sp i o A0 Φ l;intro hn hx;subst hn;have hc:Pb tbl none i A0 i:= .inl rfl;obtain⟨p1,p2⟩:=h1 i hc;have key: ∀j,Pb tbl sw i A0 j->j=i:=λj hj=>by
   rcases hj with rfl|⟨h,_⟩
   ·rfl
   ·rw[hx _ Ak] at h;cases h
  rcases p2 with⟨_,p3,p4⟩|⟨p3,p4⟩
  ·refine .eff oo K rf (λ_=>sw) (λj hj=>?_) (λj hj=>?_) λj hj=>?_;all_goals obtain rfl:=key j hj
   ·exact⟨p1,.inl ⟨rfl,rfl,p4⟩⟩
   ·exact h2 _ hc
   ·exact λa v l' k=>ih _ hc a v l' k p3 λx jc=>hx x (An _ (by rw[p4] at jc;exact jc))
  ·refine .eff oo K rf sf (λj hj=>?_) (λj hj=>?_) λj hj=>?_;all_goals obtain rfl:=key j hj
   ·exact⟨p1,.inr ⟨p3,p4⟩⟩
   ·exact h2 _ hc
   ·exact h3 _ hc
theorem Z1{fr:Fr}(h1:FSat N fr a)(h:Rr ops fr o.guard=some true):Region.wanted o (yielded ops a.tmps)=true:=by
 rcases KS h with⟨hg,_⟩|⟨j,b,oj,dj,b',hg,hj,KO,hb,he⟩
 ·simp[Region.wanted,hg]
 ·have hy:=JG (ops:=ops) h1 hj KO hb;simpa[Region.wanted,hg,hy] using he
theorem PlanS.sem{sw:Sw}{sp:FM}{fr:Fr}(h:PlanS P ro N E ops Q R tbl sw sp pl fr ds l): ∀H0,SpLe H0 sp->SemPlan P ro E ops Q R tbl sw H0 pl (λa=>FSat N fr a/\a.defers=ds) l:=by
 have step: ∀{o:Oper} {K:Value->Ad->Prop} {fr:Fr} {l:Ad} {sp H0:FM} {i:Nat} {ds:List Deferred},OpE P ro N fr l o K->(∀a,FSat N fr a->Region.wanted o (yielded ops a.tmps)=true)->(∀v l',K v l'->(∀c,c∈R->c∈l'))->(∀v l',K v l'-> ∀x,x∈sp->FQ tbl i x.1=false-> ∀c,c∈x.2->c∈l')->SpLe H0 sp->MO P ro E ops R tbl H0 i o (λa=>FSat N fr a/\a.defers=ds) l (λa v l'=>(FSat N fr a/\a.defers=ds)/\K v l'):=by
  intro o K fr l sp H0 i ds ho hw hR hS Lr a W ⟨h1,h2⟩ hs;unfold StepV;rw[Ac (hw a h1)];refine(ho.val E a W h1 hs).mono λv w ⟨l',k1,k2⟩=>⟨l',⟨⟨h1,h2⟩,k1⟩,hR v l' k1,λx hx ha c hc=>?_,k2⟩
  rcases Lr x hx with h|h
  ·exact hS v l' k1 x h ha c hc
  ·rw[h] at hc;cases hc
 induction h with
 |nil h=>exact λH0 _=> .nil λa W ⟨h1,h2⟩ hs=>h.run a W h1 h2 hs
 |q ho hg hd _ ih=>rename_i sw sp i o v A0 fr ds l _;intro H0 Lr;refine .quiet v [] (by simp) (λa ⟨h1,h2⟩ E' l' W hR _ hs=>?_) ((ih _ (Lr.none i)).weak λa' ⟨a,⟨h1,h2⟩,he⟩=>by subst he;exact⟨h1.put v hd,(EO _ _ _).trans h2⟩);unfold StepV;rw[Ac (by simp[Region.wanted,hg])];exact((ho.run l' hR).val E' a W h1 hs).mono λu w ⟨l2,⟨k1,k2⟩,k3⟩=>⟨k1,by rw[<-k2];exact k3⟩
 |gq ho hg hj KO hb hd _ ih=>rename_i sw sp i j dj o oj b v A0 fr ds l _;intro H0 Lr;refine .quiet v [] (by simp) (λa ⟨h1,h2⟩ E' l' W hR _ hs=>?_) ((ih _ (Lr.none i)).weak λa' ⟨a,⟨h1,h2⟩,he⟩=>by subst he;exact⟨h1.put v hd,(EO _ _ _).trans h2⟩);unfold StepV;have hy:=JG (ops:=ops) h1 hj KO hb;rw[Ac (by simp[Region.wanted,hg,hy])];exact((ho.run l' hR).val E' a W h1 hs).mono λu w ⟨l2,⟨k1,k2⟩,k3⟩=>⟨k1,by rw[<-k2];exact k3⟩
 |gs hg hj KO hb G5 hd hR0 hswn hspl _ ih=>
  rename_i sw sp i j dj o oj b b' A0 fr ds l k _;intro H0 Lr;have hw: ∀a,FSat N fr a->¬Region.wanted o (yielded ops a.tmps)=true:=λa h1=>by have hy:=JG (ops:=ops) h1 hj KO hb;simp[Region.wanted,hg,hy];intro e;rw[e] at G5;simp at G5
  cases k with
  |true=>refine .quiet undef [] (by simp) (λa ⟨h1,h2⟩ E' l' W hR _ hs=>?_) ((ih _ (Lr.none i)).weak λa' ⟨a,⟨h1,h2⟩,he⟩=>by subst he;exact⟨h1.put undef hd,(EO _ _ _).trans h2⟩);unfold StepV;rw[Ab (hw a h1)];exact⟨rfl,hs⟩
  |false=>
   refine .one (λj=>by rw[hswn rfl];rfl) (λa v l'=>(FSat N fr a/\a.defers=ds)/\v=undef/\l'=l) (λa W ⟨h1,h2⟩ hs=>?_) ?_
   ·unfold StepV;rw[Ab (hw a h1)];refine⟨l,⟨⟨h1,h2⟩,rfl,rfl⟩,hR0,λx hx ha c hc=>?_,hs⟩;rcases Lr x hx with h|h
    ·exact hspl rfl x h ha c hc
    ·rw[h] at hc;cases hc
   ·rintro a _ _ ⟨⟨h1,h2⟩,rfl,rfl⟩;exact(ih _ Lr).weak λa' he=>by subst he;exact⟨h1.put undef hd,(EO _ _ _).trans h2⟩
 |gu hg hj KO hb hd hR0 hswn hspl _ ih=>
  rename_i sw sp i j dj o oj b A0 fr ds l k _;intro H0 Lr;have hw: ∀a,FSat N fr a->¬Region.wanted o (yielded ops a.tmps)=true:=λa h1=>by have hy:=XW h1 hj KO hb;simp[Region.wanted,hg,hy]
  cases k with
  |true=>refine .quiet undef [] (by simp) (λa ⟨h1,h2⟩ E' l' W hR _ hs=>?_) ((ih _ (Lr.none i)).weak λa' ⟨a,⟨h1,h2⟩,he⟩=>by subst he;exact⟨h1.put undef hd,(EO _ _ _).trans h2⟩);unfold StepV;rw[Ab (hw a h1)];exact⟨rfl,hs⟩
  |false=>
   refine .one (λj=>by rw[hswn rfl];rfl) (λa v l'=>(FSat N fr a/\a.defers=ds)/\v=undef/\l'=l) (λa W ⟨h1,h2⟩ hs=>?_) ?_
   ·unfold StepV;rw[Ab (hw a h1)];refine⟨l,⟨⟨h1,h2⟩,rfl,rfl⟩,hR0,λx hx ha c hc=>?_,hs⟩;rcases Lr x hx with h|h
    ·exact hspl rfl x h ha c hc
    ·rw[h] at hc;cases hc
   ·rintro a _ _ ⟨⟨h1,h2⟩,rfl,rfl⟩;exact(ih _ Lr).weak λa' he=>by subst he;exact⟨h1.put undef hd,(EO _ _ _).trans h2⟩
 |e ho hg hd hR hS _ ih=>rename_i sp i o K A0 fr ds l _;intro H0 Lr;refine .one (λ_=>rfl) _ (step ho (λa _=>by simp[Region.wanted,hg]) hR hS Lr) ?_;rintro a v l' ⟨⟨h1,h2⟩,k1⟩;exact(ih v l' k1 _ Lr).weak λa' he=>by subst he;exact⟨h1.put v hd,(EO _ _ _).trans h2⟩
 |ge ho hg hj KO hb hd hR hS _ ih=>
  rename_i sp i j dj o oj b K A0 fr ds l _;intro H0 Lr;refine .one (λ_=>rfl) _ (step ho (λa h1=>by have hy:=JG (ops:=ops) h1 hj KO hb;simp[Region.wanted,hg,hy]) hR hS Lr) ?_
  rintro a v l' ⟨⟨h1,h2⟩,k1⟩;exact(ih v l' k1 _ Lr).weak λa' he=>by subst he;exact⟨h1.put v hd,(EO _ _ _).trans h2⟩
 |weak hw _ ih=>exact λH0 Lr=>(ih H0 Lr).weak λa ⟨h1,h2⟩=>⟨h1.sub hw,h2⟩
 |sq ho uO hg hd _ ih=>rename_i sw sp i o v S A0 fr ds l _;intro H0 Lr;refine .quiet v S uO (λa ⟨h1,h2⟩ E' l' W hR hS hs=>?_) ((ih _ (Lr.one (i,S))).weak λa' ⟨a,⟨h1,h2⟩,he⟩=>by subst he;exact⟨h1.put v hd,(EO _ _ _).trans h2⟩);unfold StepV;rw[Ac (by simp[Region.wanted,hg])];exact((ho.run l' hS).val E' a W h1 hs).mono λu w ⟨l2,⟨k1,k2⟩,k3⟩=>⟨k1,by rw[<-k2];exact k3⟩
 |alt oo K rf sf o5 PU hRS _ ih=>
  rename_i L sp i o A0 fr ds l _;intro H0 Lr;refine .eff oo (λj a v l'=>(FSat N fr a/\a.defers=ds)/\K j v l') rf sf (λj hj=>⟨(o5 j hj).1,.inr (o5 j hj).2⟩) (λj hj=>?_) λj hj=>?_
  ·obtain⟨ho,hw,_⟩:=PU j hj;exact step ho (λa h1=>Z1 h1 hw) (λv l' k=>(hRS j hj v l' k).1) (λv l' k=>(hRS j hj v l' k).2) Lr
  ·rintro a v l' ⟨⟨h1,h2⟩,k1⟩;exact(ih j hj v l' k1 _ Lr).weak λa' he=>by subst he;exact⟨h1.put v (PU j hj).2.2,(EO _ _ _).trans h2⟩
 |alt2 Wc hp s7 hni _ _ ih1 ih2=>
  rename_i i j sp o oj A0 rj fr ds l _ _;intro H0 Lr;have g1:=ih1 H0 Lr;have g2:=ih2 H0 Lr;have hj: ∀k,Pb tbl (some [(i,j)]) i A0 k->k=i\/k=j:=λk hk=>by
   rcases hk with h|⟨h,_⟩
   ·exact .inl h
   ·refine .inr ?_;simpa[Pa] using h
  cases g1 with
  |eff oo1 K1 rf1 sf1 a1 a2 a3=>
   cases g2 with
   |eff oo2 K2 rf2 sf2 b1 b2 b3=>
    have ci:Pb tbl none i A0 i:= .inl rfl;have cj:Pb tbl none j rj j:= .inl rfl;obtain⟨fC,c1,c2⟩: ∃fC,((i=i/\fC=some [(i,j)]/\rf1 i=A0)\/(Gq ops tbl fC (rf1 i)=true/\UT fC (rf1 i)=true))/\ ∀a v l',K1 i a v l'->SemPlan P ro E ops Q R tbl fC H0 (rf1 i) (λa'=>a'=a.put (oo1 i).dst v) l':=by
     rcases(a1 i ci).2 with⟨_,e1,e2⟩|h
     ·refine⟨some [(i,j)],.inl ⟨rfl,rfl,e2⟩,λa v l' k=>?_⟩;have:=a3 i ci a v l' k;rw[e1,e2] at this;rw[e2];refine this.free rfl λx hx k=>?_;have:=hni x hx;simp[Pa,this]
     ·exact⟨sf1 i,.inr h,a3 i ci⟩
    obtain⟨d1,d2⟩:Gq ops tbl (sf2 j) (rf2 j)=true/\UT (sf2 j) (rf2 j)=true:=by
     rcases(b1 j cj).2 with⟨_,e1,e2⟩|h
     ·rw[e1,e2];exact⟨s7,rfl⟩
     ·exact h
    refine .eff (λk=>if k=i then oo1 i else oo2 j) (λk=>if k=i then K1 i else K2 j) (λk=>if k=i then rf1 i else rf2 j) (λk=>if k=i then fC else sf2 j) (λk hk=>?_) (λk hk=>?_) λk hk=>?_
    ·rcases hj k hk with h|h
     ·subst h;simp only[C6,Md];simp only[Md] at c1;exact⟨(a1 k ci).1,c1⟩
     ·subst h;simp only[Ab Wc];exact⟨(b1 k cj).1.trans hp,.inr ⟨d1,d2⟩⟩
    ·rcases hj k hk with h|h
     ·subst h;simp only[C6];exact a2 k ci
     ·subst h;simp only[Ab Wc];exact b2 k cj
    ·rcases hj k hk with h|h
     ·subst h;simp only[C6];exact c2
     ·subst h;simp only[Ab Wc];exact b3 k cj
inductive Attach(os:List Oper):List (Nat×Bool)->List BH->Prop
 |nil:Attach os [] []
 |cons {i:Nat} {b:Bool} {o:Oper} {r:List (Nat×Bool)} {pl:List BH}:os[i]?=some o->Attach os r pl->Attach os ((i,b)::r) ((i,b,o)::pl)
theorem Attach.spec(h:Attach os r pl):(∀x,x∈pl->os.toArray[x.1]?=some x.2.2)/\pl.map (λx=>x.1)=r.map Prod.fst:=by
 induction h with
 |nil=>exact⟨by simp,rfl⟩
 |cons h1 _ ih=>
  refine⟨λx hx=>?_,by simp[ih.2]⟩;rcases At.1 hx with rfl|hx
  ·simpa using h1
  ·exact ih.1 x hx
def Is(os:List Oper):List (Nat×Bool)->List BH
 |[]=>[]
 |(i,b)::r=>match os[i]? with
  |some o=>(i,b,o)::Is os r
  |none=>[]
theorem Attach.fun_eq(h:Attach os r pl):Is os r=pl:=by
 induction h with
 |nil=>rfl
 |cons h1 _ ih=>unfold Is;rw[h1,ih]
def Se(os:List Oper)(plan:List (Nat×Bool))(tbl:List (List Nat))(sw:Sw):Bool:=
 Tb os.toArray tbl&&Gq os.toArray tbl sw (Is os plan)&&decide (plan.length<=os.length)&&((List.range os.length).all λi=>(plan.map Prod.fst).contains i)&&UT sw (Is os plan)
def Wr(os:List Oper)(plan:List (Nat×Bool))(tbl:List (List Nat)):Bool:=Se os plan tbl none
theorem Sf{fr:Fr}(plan:List (Nat×Bool))(tbl:List (List Nat))(sw:Sw)(R:Ad)(hm:P.follows .mixedOrders=true)(hv:Se os plan tbl sw=true)(ha:Attach os plan pl)(hR: ∀c,c∈R->c∈l)
 (h:PlanS P ro N E os.toArray Q R tbl sw [] pl fr ds l):BN P ro N E (.region k os.toArray true) Q fr ds l:=by
 unfold Se at hv;simp only[AW] at hv;obtain⟨⟨⟨⟨ht,hp⟩,Lr⟩,Gv⟩,NO⟩:=hv;rw[ha.fun_eq] at hp NO;obtain⟨h1,h2⟩:=MR hp;obtain⟨n1,n2⟩:=ha.spec;refine⟨λa W hf hds hs=>wpIn_region_any hm ?_⟩;have Xo:pl.length<=os.toArray.size:=by have h3:=BO List.length n2;simp only[A7] at h3;rw[h3];simpa using Lr
 have KP:(pl.map (λx:BH=>x.1)).Nodup:=by rw[D3,Cu];exact h2.imp λhp=>(Fq hp).2.2
 refine Way.any ht _ sw [] _ [] pl (λa=>FSat N fr a/\a.defers=ds) l a _ ⟨⟨hf,hds⟩,hR,hs.drawn _,h.sem [] (λx hx=>by cases hx),λp1 x v p2 e=>by simp at e,by simp,?_,by simpa using n1,by simpa using h1,by simpa using h2,(λx hx j e=>?_),?_⟩ (by simpa using Xo)
 ·intro i hi;have hi':i<os.length:=by simpa using hi
  have e:(Array.replicate os.toArray.size false).getD i true=false:=by simp[Do,Array.getElem?_replicate,hi']
  rw[e];simp only[CQ,Ag,true_iff];have:=A3.1 Gv i (by simpa using hi);rw[<-n2] at this;simp only[Js,Au] at this;exact this
 ·obtain⟨y,hy,e1,e2⟩:=Vh NO e;rw[<-Wq pl KP hy (by simpa using hx) e1];exact e2
 ·intro j o _ hl;exfalso;simp[Do,Array.getElem?_replicate] at hl
  split at hl<;>simp at hl
theorem LV{fr:Fr}(plan:List (Nat×Bool))(tbl:List (List Nat))(R:Ad)(hm:P.follows .mixedOrders=true)(hv:Wr os plan tbl=true)(ha:Attach os plan pl)(hR: ∀c,c∈R->c∈l)
 (h:PlanS P ro N E os.toArray Q R tbl none [] pl fr ds l):BN P ro N E (.region k os.toArray true) Q fr ds l:=Sf plan tbl none R hm hv ha hR h
end
end Go.Proofs.YtlifcingifodfaaGreat
