/- Laws that the statement's proof leans on (joined out of several texts). -/
import Derived.Test.YtlifcingifodfaaGreatGc1
set_option maxHeartbeats 4000000
set_option linter.unusedVariables false
set_option linter.unusedSimpArgs false
namespace Go.Proofs.YtlifcingifodfaaGreat
open Go.RowKit
variable{P:Program}{N k j n:Nat}{ro:Option Nat}{l l':Ad}{a:Act}{o oj:Oper}{K:Value->Ad->Prop}{b:Bool}{x y c:Code}{E W:World}{fn:Func}{f:FuncId}{R:Ending->World->Prop}{Q:Exit->Act->World->Prop}{ρ:Operand->Value}{ds:List Deferred}{v:Value}{p:Nat->Prop}{α:Type}{Kx:Act->World->Prop}{rs:List ResultVar}{vs:Ap}
abbrev Fr:=List (Nat×Value)
variable{fr':Fr}
def BX:Fr->Nat->Option Value
 |[],_=>none
 |(k,v)::r,d=>bif Nat.beq k d then some v else BX r d
structure FSat(N:Nat)(fr:Fr)(a:Act):Prop where
 size:a.tmps.size=N
 at_: ∀d v,BX fr d=some v->a.tmps[d]?=some v
def ev(fr:Fr):Operand->Option Value
 | .tmp t=>BX fr t
 | .const v=>some v
 | .global g=>some (.pointer (some ⟨g,0,none⟩))
 | .func f=>some (.func (.func f) #[] #[])
def RS(fr:Fr):List Operand->Option (Ap)
 |[]=>some []
 |x::r=>match ev fr x,RS fr r with
  |some v,some vs=>some (v::vs)
  |_,_=>none
def Agrees(fr:Fr)(ρ:Operand->Value):Prop:= ∀x v,ev fr x=some v->ρ x=v
theorem FSat.agrees{fr:Fr}(h:FSat N fr a):Agrees fr a.eval:=by
 intro x v hx;cases x with
 |tmp t=>have:=h.at_ t v hx;simp[Act.eval,Do,this]
 |const u=>cases hx;rfl
 |global g=>cases hx;rfl
 |func f=>cases hx;rfl
theorem Agrees.list{fr:Fr}(h:Agrees fr ρ): ∀{xs:List Operand} {vs:Ap},RS fr xs=some vs->xs.map ρ=vs
 |[],vs,e=>by cases e;rfl
 |x::r,vs,e=>by
  unfold RS at e
  split at e
  ·rename_i v us h1 h2;cases e;rw[AJ,h x v h1,h.list h2]
  ·cases e
def Il(d:Option Nat)(v:Value)(fr:Fr):Fr:=match d with|some d=>(d,v)::fr|none=>fr
def JY(N:Nat):Option Nat->Bool
 |some d=>Nat.blt d N
 |none=>true
theorem FSat.put{fr:Fr}(h:FSat N fr a){d:Option Nat}(v:Value)(hd:JY N d=true):FSat N (Il d v fr) (a.put d v):=by
 cases d with
 |none=>exact h
 |some d=>
  have Dc:d<N:=by simpa[JY,Nat.blt_eq] using hd
  refine⟨by simp[Act.put,h.size],λk u hk=>?_⟩;simp only[Il,BX] at hk;simp only[Act.put];by_cases e:d=k
  ·subst e;simp at hk;subst hk;simp[h.size,Dc]
  ·have:Nat.beq d k=false:=by
    cases hb:Nat.beq d k
    ·rfl
    ·exact absurd (FF hb) e
   rw[this] at hk;rw[Gl e];exact h.at_ k u hk
theorem FSat.sub{fr:Fr}(h:FSat N fr a)(hs: ∀d v,BX fr' d=some v->BX fr d=some v):FSat N fr' a:=⟨h.size,λd v hd=>h.at_ d v (hs d v hd)⟩
def FSub:Fr->Fr->Prop
 |[],_=>True
 |(d,v)::r,fr=>BX fr d=some v/\FSub r fr
theorem FSub.spec: ∀{fr' fr:Fr},FSub fr' fr-> ∀d v,BX fr' d=some v->BX fr d=some v
 |[],_,_,d,v,hd=>by cases hd
 |(k,u)::r,fr,h,d,v,hd=>by
  unfold BX at hd;cases hb:Nat.beq k d
  ·rw[hb] at hd;exact h.2.spec d v hd
  ·rw[hb] at hd;have:=FF hb;subst this;simp at hd;subst hd;exact h.1
def Wl:Nat->Ap->Fr
 |_,[]=>[]
 |i,v::r=>(i,v)::Wl (i+1) r
theorem SR: ∀(l:Ap) (i d:Nat) (v:Value),BX (Wl i l) d=some v->i<=d/\l[d-i]?=some v
 |[],i,d,v,h=>by cases h
 |u::r,i,d,v,h=>by
  unfold Wl BX at h;cases hb:Nat.beq i d
  ·rw[hb] at h;obtain⟨h1,h2⟩:=SR r (i+1) d v h;exact⟨Af,by rw[show d-i=(d-(i+1))+1 by omega];simpa using h2⟩
  ·rw[hb] at h;have:=FF hb;subst this;simp at h;subst h;simp
theorem fT(args:Ap)(N:Nat)(ds:List Deferred)(h:args.length<=N):FSat N (Wl 0 args) {tmps:=args.toArray++Array.replicate (N-args.toArray.size) undef,defers:=ds}:=by refine⟨by simp;omega,λd v hd=>?_⟩;obtain⟨_,h2⟩:=SR args 0 d v hd;simp only[Nat.sub_zero] at h2;have Dc:=(Ay.1 h2).1;show(args.toArray++_)[d]?=some v;rw[Array.getElem?_append_left (by simpa using Dc)];simpa using h2
def Fw(ro:Option Nat):Fence:={Fence.wide with round:=ro}
structure Fn(P:Program)(f:FuncId)(args:Ap)(l:Ad)(K:Value->Ad->Prop):Prop where
 run: ∀E W,Sat E l W->Calls P f args.toArray W λe W'=> ∃v l',e= .returned v/\K v l'/\Sat E l' W'
theorem Fn.mono{P:Program}{f:FuncId}{args:Ap}{l:Ad}{K K':Value->Ad->Prop}(h:Fn P f args l K)(hk: ∀v l',K v l'->K' v l'):Fn P f args l K':=
 ⟨λE W hs=>(h.run E W hs).mono λe W' ⟨v,l',h1,h2,h3⟩=>⟨v,l',h1,hk _ _ h2,h3⟩⟩
structure NT(P:Program)(r:Nat)(vs:Ap)(l:Ad)(K:Value->Ad->Prop):Prop where
 run: ∀E W,Sat E l W-> ∃fn tmps assign body,(Instr.yield r vs.toArray).run P W= .ok (.round r fn tmps assign body) W/\
  RoundIn Fence.wide 0 P r fn tmps assign body W λe W'=> ∃v l',e= .returned v/\K v l'/\Sat E l' W'
theorem ZT{l:Nat}{tmps:Array Value}{assign body:Code}{w:World}(h:RoundIn Fence.wide n P l f tmps assign body w R):RoundIn (Fw ro) n P l f tmps assign body w R:=h
theorem ML{args:Array Value}{w:World}(h:Calls P f args w R):CallsIn (Fw ro) n P f args w R:=(callsIn_wide (n:=n)).2 h
def I9:Op->Bool
 | .defer _=>false
 |_=>true
def OpVal(P:Program)(ro:Option Nat)(o:Oper)(ρ:Operand->Value)(W:World)(K:Value->World->Prop):Prop:=
 match(execOp ρ o).run P W with
 | .ok (.value v) w'=>K v w'
 | .ok .skip w'=>K undef w'
 | .ok (.enter f args) w'=>CallsIn (Fw ro) 0 P f args w' (λe w''=> ∃v,e= .returned v/\K v w'')
 | .ok (.round r f tm asg bo) w'=>RoundIn (Fw ro) 0 P r f tm asg bo w' (λe w''=> ∃v,e= .returned v/\K v w'')
 |_=>False
theorem OpVal.mono{K K':Value->World->Prop}(hk: ∀v w,K v w->K' v w)(h:OpVal P ro o ρ W K):OpVal P ro o ρ W K':=by
 unfold OpVal at*
 split at h
 ·exact hk _ _ h
 ·exact hk _ _ h
 ·exact h.mono λe w ⟨v,h1,h2⟩=>⟨v,h1,hk _ _ h2⟩
 ·exact h.mono λe w ⟨v,h1,h2⟩=>⟨v,h1,hk _ _ h2⟩
 ·exact h.elim
theorem OpVal.wpIn{K:Value->World->Prop}{next:Act->World->Prop}(hd:I9 o.op=true)(h:OpVal P ro o a.eval W K)(hk: ∀v w,K v w->next (a.put o.dst v) w):o.wpIn (Fw ro) 0 P a W next Q:=by
 unfold Oper.wpIn;refine⟨λ_ _=>trivial,?_⟩;rw[Oper.semAt_eq _ _ _ (λc hc=>by rw[hc] at hd;cases hd)];unfold OpVal at h
 split at h
 ·rename_i uL;rw[uL];exact hk _ _ h
 ·rename_i uL;rw[uL];exact hk _ _ h
 ·rename_i uL;rw[uL];exact⟨λh0=>(by cases h0),h.mono λe w ⟨v,h1,h2⟩=>by subst h1;exact hk _ _ h2⟩
 ·rename_i uL;rw[uL];exact⟨λh0=>(by cases h0),h.mono λe w ⟨v,h1,h2⟩=>by subst h1;exact hk _ _ h2⟩
 ·exact h.elim
structure OpE(P:Program)(ro:Option Nat)(N:Nat)(fr:Fr)(l:Ad)(o:Oper)(K:Value->Ad->Prop):Prop where
 nodef:I9 o.op=true
 val: ∀E a W,FSat N fr a->Sat E l W->OpVal P ro o a.eval W (λv W'=> ∃l',K v l'/\Sat E l' W')
theorem OpE.run{fr:Fr}(h:OpE P ro N fr l o K)(E:World)(a:Act)(W:World)(hf:FSat N fr a)(hs:Sat E l W):
 o.wpIn (Fw ro) 0 P a W (λa' W'=> ∃v l',a'=a.put o.dst v/\K v l'/\Sat E l' W') Q:=
 OpVal.wpIn h.nodef (h.val E a W hf hs) λv w ⟨l',h1,h2⟩=>⟨v,l',rfl,h1,h2⟩
structure OpQ(P:Program)(ro:Option Nat)(N:Nat)(fr:Fr)(R:Ad)(o:Oper)(v:Value):Prop where
 run: ∀l,(∀c,c∈R->c∈l)->OpE P ro N fr l o (λv' l'=>v'=v/\l'=l)
theorem OpE.mono{P:Program}{ro:Option Nat}{N:Nat}{fr:Fr}{l:Ad}{o:Oper}{K K':Value->Ad->Prop}(h:OpE P ro N fr l o K)(hk: ∀v l',K v l'->K' v l'):OpE P ro N fr l o K':=
 ⟨h.nodef,λE a W hf hs=>(h.val E a W hf hs).mono λv w ⟨l',h1,h2⟩=>⟨l',hk _ _ h1,h2⟩⟩
def XM(P:Program)(K:Value->Ad->Prop):Next->Ad->Prop
 | .value v,l=>K v l
 | .skip,l=>K undef l
 | .enter f args,l=>Fn P f args.toList l K
 |_,_=>False
theorem DM{fr:Fr}(hd:I9 o.op=true)
 (h: ∀ρ,Agrees fr ρ->sl P (execOp ρ o) l (XM P K)):OpE P ro N fr l o K:=by
 refine⟨hd,λE a W hf hs=>?_⟩;obtain⟨x,W',l',hr,hq,hs'⟩:=jT _ l W (h _ hf.agrees) hs;unfold OpVal;rw[hr];cases x<;>simp only[XM] at hq
 case value v=>exact⟨l',hq,hs'⟩
 case skip=>exact⟨l',hq,hs'⟩
 case enter f args=>have:=hq.run E W' hs';simp only[Array.toArray_toList] at this;refine ML (this.mono ?_);rintro e W'' ⟨v,sZ,rfl,hk,hs''⟩;exact⟨v,rfl,sZ,hk,hs''⟩
section
variable{ops:Array Oper}{A0:List Oper}{fr:Fr}
structure Dz(P:Program)(ro:Option Nat)(N:Nat)(E:World)(ops:Array Oper)(Q:Exit->Act->World->Prop)(A0:List Oper)(fr:Fr)(ds:List Deferred)(l:Ad):Prop where
 run: ∀a W,FSat N fr a->a.defers=ds->Sat E l W->wpListIn (Fw ro) 0 P ops Q A0 a W
structure BN(P:Program)(ro:Option Nat)(N:Nat)(E:World)(c:Code)(Q:Exit->Act->World->Prop)(fr:Fr)(ds:List Deferred)(l:Ad):Prop where
 run: ∀a W,FSat N fr a->a.defers=ds->Sat E l W->c.wpIn (Fw ro) 0 P Q a W
structure CU(N:Nat)(E:World)(Q:Exit->Act->World->Prop)(e:Exit)(fr:Fr)(ds:List Deferred)(l:Ad):Prop where
 run: ∀a W,FSat N fr a->a.defers=ds->Sat E l W->Q e a W
theorem EO(a:Act)(d:Option Nat)(v:Value):(a.put d v).defers=a.defers:=by cases d<;>rfl
theorem Vc(h:CU N E Q .normal fr ds l):Dz P ro N E ops Q [] fr ds l:=⟨h.run⟩
theorem s_e(h:OpE P ro N fr l o K)(hw:o.guard=none)(hd:JY N o.dst=true)(hk: ∀v l',K v l'->Dz P ro N E ops Q A0 (Il o.dst v fr) ds l'):Dz P ro N E ops Q (o::A0) fr ds l:=by refine⟨λa W hf hds hs=>?_⟩;refine wpListIn_plain hw λK' hK'=>Oper.wpIn_mono ?_ (h.run E a W hf hs);rintro a' W' ⟨v,l',rfl,hkv,hs'⟩;exact hK' _ _ ((hk v l' hkv).run _ _ (hf.put v hd) ((EO _ _ _).trans hds) hs')
theorem s_q(h:OpQ P ro N fr l o v)(hw:o.guard=none)(hd:JY N o.dst=true)(hk:Dz P ro N E ops Q A0 (Il o.dst v fr) ds l):Dz P ro N E ops Q (o::A0) fr ds l:=
 s_e (h.run l λ_ hc=>hc) hw hd λv' l' ⟨h1,h2⟩=>by rw[h1,h2];exact hk
theorem JG{fr:Fr}{d:Nat}(hf:FSat N fr a)(hj:ops[j]?=some oj)(hd:oj.dst=some d)(hb:BX fr d=some (.bool b)):yielded ops a.tmps j=some b:=by unfold yielded;simp[hj,hd,hf.at_ _ _ hb]
theorem zO{d:Nat}(h:OpE P ro N fr l o K)(hw:o.guard=some (j,b))(hj:ops[j]?=some oj)(KO:oj.dst=some d)(hb:BX fr d=some (.bool b))(hd:JY N o.dst=true)(hk: ∀v l',K v l'->Dz P ro N E ops Q A0 (Il o.dst v fr) ds l'):Dz P ro N E ops Q (o::A0) fr ds l:=by refine⟨λa W hf hds hs=>?_⟩;have hy:=JG hf hj KO hb;refine wpListIn_step λK' hK'=>?_;rw[Ac (by simp[Region.wanted,hw,hy])];refine Oper.wpIn_mono ?_ (h.run E a W hf hs);rintro a' W' ⟨v,l',rfl,hkv,hs'⟩;exact hK' _ _ ((hk v l' hkv).run _ _ (hf.put v hd) ((EO _ _ _).trans hds) hs')
theorem Adm{d:Nat}(h:OpQ P ro N fr l o v)(hw:o.guard=some (j,b))(hj:ops[j]?=some oj)(KO:oj.dst=some d)(hb:BX fr d=some (.bool b))(hd:JY N o.dst=true)(hk:Dz P ro N E ops Q A0 (Il o.dst v fr) ds l):Dz P ro N E ops Q (o::A0) fr ds l:=
 zO (h.run l λ_ hc=>hc) hw hj KO hb hd λv' l' ⟨h1,h2⟩=>by rw[h1,h2];exact hk
theorem Adn{d:Nat}{b':Bool}(hw:o.guard=some (j,b))(hj:ops[j]?=some oj)(KO:oj.dst=some d)(hb:BX fr d=some (.bool b'))(G5:(b'==b)=false)(hd:JY N o.dst=true)(hk:Dz P ro N E ops Q A0 (Il o.dst undef fr) ds l):Dz P ro N E ops Q (o::A0) fr ds l:=by refine⟨λa W hf hds hs=>?_⟩;have hy:=JG hf hj KO hb;refine wpListIn_step λK' hK'=>?_;rw[Ab (by simp[Region.wanted,hw,hy];intro e;rw[e] at G5;simp at G5)];exact⟨λ_ _=>trivial,hK' _ _ (hk.run _ _ (hf.put undef hd) ((EO _ _ _).trans hds) hs)⟩
theorem GJ{d:Nat}(hb:BX fr d=some v): ∀k u,BX ((d,v)::fr) k=some u->BX fr k=some u:=by
 intro k u h;unfold BX at h;cases e:Nat.beq d k
 ·rw[e] at h;exact h
 ·rw[e] at h;have:=FF e;subst this;rw[hb];exact h
theorem pY(d:Nat)(hb:BX fr d=some (.bool b))(ht:b=true->Dz P ro N E ops Q A0 ((d,.bool true)::fr) ds l)(hf:b=false->Dz P ro N E ops Q A0 ((d,.bool false)::fr) ds l):Dz P ro N E ops Q A0 fr ds l:=by
 refine⟨λa W fA hds hs=>?_⟩;have key: ∀u,BX fr d=some u->FSat N ((d,u)::fr) a:=λu hu=>⟨fA.size,λk w hk=>fA.at_ k w (GJ hu k w hk)⟩
 cases b with
 |true=>exact(ht rfl).run a W (key _ hb) hds hs
 |false=>exact(hf rfl).run a W (key _ hb) hds hs
theorem cP(h:BN P ro N E x (Exit.then (y.wpIn (Fw ro) 0 P Q) Q) fr ds l):BN P ro N E (.seq x y) Q fr ds l:=⟨λa W hf hds hs=>wpIn_seq (h.run a W hf hds hs)⟩
theorem Wm(h:CU N E Q .normal fr ds l):BN P ro N E .skip Q fr ds l:=⟨λa W hf hds hs=>wpIn_skip (h.run a W hf hds hs)⟩
theorem Sb(h:CU N E Q .normal fr ds l):BN P ro N E (.label k) Q fr ds l:=⟨λa W hf hds hs=>wpIn_label (h.run a W hf hds hs)⟩
theorem SS(h:CU N E Q (.exit k) fr ds l):BN P ro N E (.exit k) Q fr ds l:=⟨λa W hf hds hs=>wpIn_exit (h.run a W hf hds hs)⟩
theorem cQ(h:CU N E Q .ret fr ds l):BN P ro N E .ret Q fr ds l:=⟨λa W hf hds hs=>wpIn_ret (h.run a W hf hds hs)⟩
theorem PX(h:BN P ro N E x (Exit.inBlock k Q) fr ds l):BN P ro N E (.block k x) Q fr ds l:=⟨λa W hf hds hs=>wpIn_block (h.run a W hf hds hs)⟩
theorem Wn(h:BN P ro N E x (Exit.noGoto Q) fr ds l):BN P ro N E (.scope x) Q fr ds l:=⟨λa W hf hds hs=>ZS (h.run a W hf hds hs)⟩
theorem PY{os:List Oper}(h:Dz P ro N E os.toArray Q os fr ds l):BN P ro N E (.region k os.toArray false) Q fr ds l:=⟨λa W hf hds hs=>wpIn_region_lit (h.run a W hf hds hs)⟩
theorem Ml{c:Operand}(hc:ev fr c=some (.bool true))(h:BN P ro N E x Q fr ds l):BN P ro N E (.cond c x y) Q fr ds l:=⟨λa W hf hds hs=>wpIn_cond_true (hf.agrees _ _ hc) (h.run a W hf hds hs)⟩
theorem Mm{c:Operand}(hc:ev fr c=some (.bool false))(h:BN P ro N E y Q fr ds l):BN P ro N E (.cond c x y) Q fr ds l:=⟨λa W hf hds hs=>wpIn_cond_false (hf.agrees _ _ hc) (h.run a W hf hds hs)⟩
theorem tF(hs':FSub fr' fr)(h:BN P ro N E c Q fr' ds l):BN P ro N E c Q fr ds l:=⟨λa W hf hds hs=>h.run a W (hf.sub hs'.spec) hds hs⟩
def cR(N:Nat)(E:World){α:Type}(fx:α->Fr)(ds:List Deferred)(lx:α->Ad)(pre:α->Prop)(μ:α->Nat)(x:α)(a:Act)(W:World):Prop:=
 ∃y,pre y/\μ y<μ x/\FSat N (fx y) a/\a.defers=ds/\Sat E (lx y) W
theorem PZ(h: ∃n,p n): ∃n,p n/\ ∀m,p m->n<=m:=by
 obtain⟨n,hn⟩:=h
 induction n using Nat.strongRecOn with
 |_ n ih=>
  by_cases hc: ∃m,m<n/\p m
  ·obtain⟨m,Dc,hm⟩:=hc;exact ih m Dc hm
  ·exact⟨n,hn,λm hm=>Mc λDc=>hc ⟨m,Dc,hm⟩⟩
open Classical in
noncomputable def SU(p:Nat->Prop):Nat:=if h: ∃n,p n then Classical.choose (PZ h) else 0
theorem Ls(h: ∃n,p n):p (SU p)/\ ∀m,p m->SU p<=m:=by unfold SU;rw[dif_pos h];exact Classical.choose_spec (PZ h)
theorem vK(fx:α->Fr)(lx:α->Ad)(pre:α->Prop)(μ:α->Nat)(x₀:α)(h0:pre x₀)(y7:FSub (fx x₀) fr)(pB:l.Perm (lx x₀))
 (round: ∀x,pre x->BN P ro N E c (Exit.then (cR N E fx ds lx pre μ x) Q) (fx x) ds (lx x)):BN P ro N E (.loop c) Q fr ds l:=by
 refine⟨λa W hf hds hs=>?_⟩;refine wpIn_loop (λa W=> ∃x,pre x/\FSat N (fx x) a/\a.defers=ds/\Sat E (lx x) W) (λa W=>SU λn=> ∃x,pre x/\FSat N (fx x) a/\a.defers=ds/\Sat E (lx x) W/\μ x=n) ⟨x₀,h0,hf.sub y7.spec,hds,hs.perm pB⟩ ?_;intro a W hI;have XD: ∃n,∃x,pre x/\FSat N (fx x) a/\a.defers=ds/\Sat E (lx x) W/\μ x=n:=by obtain⟨x,h1,h2,h3,h4⟩:=hI;exact⟨_,x,h1,h2,h3,h4,rfl⟩
 obtain⟨⟨x,h1,h2,h3,h4,h5⟩,_⟩:=Ls XD;refine wpIn_mono ((round x h1).run a W h2 h3 h4) ?_;intro e a' W' hq;cases e with
 |normal=>obtain⟨y,k1,k2,k3,k4,k5⟩:=hq;refine⟨⟨y,k1,k3,k4,k5⟩,?_⟩;exact Et ((Ls (p:=λn=> ∃x,pre x/\FSat N (fx x) a'/\a'.defers=ds/\Sat E (lx x) W'/\μ x=n) ⟨_,y,k1,k3,k4,k5,rfl⟩).2 (μ y) ⟨y,k1,k3,k4,k5,rfl⟩) (by rw[<-h5];exact k2)
 |_=>exact hq
theorem NU(h:BN P ro N E y Q fr ds l):CU N E (Exit.then (y.wpIn (Fw ro) 0 P Q) Q) .normal fr ds l:=⟨h.run⟩
theorem Lt(h:CU N E Q (.exit k) fr ds l):CU N E (Exit.then Kx Q) (.exit k) fr ds l:=⟨h.run⟩
theorem MM(h:CU N E Q .ret fr ds l):CU N E (Exit.then Kx Q) .ret fr ds l:=⟨h.run⟩
theorem P0(h:CU N E Q .normal fr ds l):CU N E (Exit.inBlock k Q) .normal fr ds l:=⟨h.run⟩
theorem Lu(h:CU N E Q .ret fr ds l):CU N E (Exit.inBlock k Q) .ret fr ds l:=⟨h.run⟩
theorem Ja(h:CU N E Q .normal fr ds l):CU N E (Exit.inBlock k Q) (.exit k) fr ds l:=⟨λa W hf hds hs=>by simp only[Exit.inBlock,C6];exact h.run a W hf hds hs⟩
theorem MN(G5:Nat.beq j k=false)(h:CU N E Q (.exit j) fr ds l):CU N E (Exit.inBlock k Q) (.exit j) fr ds l:=⟨λa W hf hds hs=>by
 have:¬j=k:=λe=>by subst e;simp at G5
 simp only[Exit.inBlock,Ab this];exact h.run a W hf hds hs⟩
theorem Sc(h:CU N E Q .normal fr ds l):CU N E (Exit.noGoto Q) .normal fr ds l:=⟨h.run⟩
theorem Lv(h:CU N E Q .ret fr ds l):CU N E (Exit.noGoto Q) .ret fr ds l:=⟨h.run⟩
theorem vL{fx:α->Fr}{lx:α->Ad}{pre:α->Prop}{μ:α->Nat}{x:α}(y:α)(h1:pre y)(h2:μ y<μ x)(h3:FSub (fx y) fr)(h4:l.Perm (lx y)):CU N E (Exit.then (cR N E fx ds lx pre μ x) Q) .normal fr ds l:=
 ⟨λa W hf hds hs=>⟨y,h1,h2,hf.sub h3.spec,hds,hs.perm h4⟩⟩
end
def RK(E:World)(K:Value->Ad->Prop):Ending->World->Prop:=λe W'=> ∃v l',e= .returned v/\K v l'/\Sat E l' W'
theorem SW{args:Ap}(hf:P.funcs[f]?=some fn)(hb:fn.body=some c)(hn:Nat.ble args.length fn.ntmps=true)
 (h: ∀E,BN P none fn.ntmps E c (bodyPostM Fence.wide 0 P fn (RK E K)) (Wl 0 args) [] l):Fn P f args l K:=by
 refine⟨λE W hs=>?_⟩;refine(callsIn_wide (n:=0)).1 (callsIn_of_wp_marks hf hb trivial ?_ rfl);exact(h E).run _ W (fT args _ [] (Nat.le_of_ble_eq_true hn)) rfl hs
inductive ResS(P:Program)(fr:Fr)(l:Ad):List ResultVar->Ap->Prop
 |nil:ResS P fr l [] []
 |tmp {t:Nat} {v:Value} {rs:List ResultVar} {vs:Ap}:BX fr t=some v->ResS P fr l rs vs->ResS P fr l (.tmp t::rs) (v::vs)
 |cell {t:Nat} {T:TypeId} {v:Value} {b off:Nat} {rs:List ResultVar} {vs:Ap}:BX fr t=some (.pointer (some ⟨b,off,none⟩))->(∀E W,Sat E l W->(loadVar T ⟨b,off,none⟩).run P W= .ok v W)->ResS P fr l rs vs->ResS P fr l (.cell t T::rs) (v::vs)
def Jv:Ap->Value
 |[v]=>v
 |vs=> .tuple vs.toArray
def pZ(tmps:Array Value):ResultVar->Sem Value
 | .tmp t=>pure (tmps.getD t undef)
 | .cell b t=>do loadVar t (<-asAddr (tmps.getD b undef))
theorem SX{P:Program}{N:Nat}{fr:Fr}{l:Ad}{E W:World}{a:Act}(hf:FSat N fr a)(hs:Sat E l W): ∀{rs:List ResultVar} {vs:Ap},ResS P fr l rs vs->(rs.mapM (pZ a.tmps)).run P W= .ok vs W
 |[],_,.nil=>by simp[Sem.run]
 |_,_,.tmp (t:=t) (v:=v) (rs:=rs) (vs:=vs) h1 h2=>by
  have e:a.tmps.getD t undef=v:=by rw[Do,hf.at_ _ _ h1];rfl
  have e1:(pZ a.tmps (.tmp t)).run P W= .ok v W:=by show(pure _:Sem Value).run P W=_;rw[e];rfl
  rw[List.mapM_cons,Sem.run_bind,e1];simp only[Result.andThen];rw[Sem.run_bind,SX hf hs h2];rfl
 |_,_,.cell (t:=t) (v:=v) (T:=T) (b:=b) (off:=off) h1 h3 h2=>by
  have e:a.tmps.getD t undef= .pointer (some ⟨b,off,none⟩):=by rw[Do,hf.at_ _ _ h1];rfl
  have e1:(pZ a.tmps (.cell t T)).run P W= .ok v W:=by show(asAddr (a.tmps.getD t undef)>>=loadVar T).run P W=_;rw[e,Sem.run_bind];exact h3 E W hs
  rw[List.mapM_cons,Sem.run_bind,e1];simp only[Result.andThen];rw[Sem.run_bind,SX hf hs h2];rfl
theorem Rq{fr:Fr}(hr:fn.results=rs.toArray)(hf:FSat N fr a)(hs:Sat E l W)(h:ResS P fr l rs vs):
 (results fn a.tmps).run P W= .ok (Jv vs) W:=by
 have e:results fn a.tmps=(do let us<-fn.results.mapM (pZ a.tmps);pure (if h:us.size=1 then us[0] else .tuple us)):=rfl;rw[e,hr,List.mapM_toArray,Sem.run_bind,map_eq_pure_bind,Sem.run_bind,SX hf hs h];simp only[Result.andThen,Sem.run_pure];congr 1
 match vs with
 |[]=>rfl
 |[v]=>rfl
 |_::_::_=>rfl
def Cm(D:Nat):Bg:=(D,.deferred (some []))
def Hq(D:Nat):Deferred:={target:= .collected D,args:=#[]}
theorem Q0{P:Program}{fn:Func}{R:Ending->World->Prop}{tmps:Array Value}{E:World}{l:Ad}{v:Value}: ∀(Ds:List Nat) (W:World),Sat E (Ds.map Cm++l) W->
 (∀W',Sat E l W'->(results fn tmps).run P W'= .ok v W'/\R (.returned v) W')->LeavesInM Fence.wide 0 P fn tmps R (Ds.map Hq) .returning W
 |[],W,hs,hr=>⟨v,hr W hs⟩
 |D::Ds,W,hs,hr=>by have hK:W.heap[D]?=some (.deferred (some [])):=hs.has (D,_) Ak;have R8:Sat E ((D,.deferred none)::(Ds.map Cm++l)) (W.putObj D (.deferred none)):=hs.upd Upd.here;exact⟨by simp,.inl ⟨D,_,rfl,run_takeDeferred hK,Q0 Ds _ R8.tail hr⟩⟩
theorem zP{fr:Fr}(Ds:List Nat)(hr:fn.results=rs.toArray)(hp:l.Perm (Ds.map Cm++l'))(h:ResS P fr l' rs vs)(hk:K (Jv vs) l'):
 CU N E (bodyPostM Fence.wide 0 P fn (RK E K)) .ret fr (Ds.map Hq) l:=by
 refine⟨λa W hf hds hs=>?_⟩;show LeavesInM Fence.wide 0 P fn a.tmps (RK E K) a.defers .returning W;rw[hds];exact Q0 (v:=Jv vs) Ds W (hs.perm hp) λW' hs'=>⟨Rq hr hf hs' h,_,l',rfl,hk,hs'⟩
theorem cT{fr:Fr}(h:CU N E (bodyPostM Fence.wide 0 P fn R) .ret fr ds l):CU N E (bodyPostM Fence.wide 0 P fn R) .normal fr ds l:=⟨h.run⟩
end Go.Proofs.YtlifcingifodfaaGreat
