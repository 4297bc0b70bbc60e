/- Laws that the statement's proof leans on (joined out of several texts). -/
import Derived.Test.YtlkgekpmileobaaGreatGb1
set_option linter.unusedVariables false
set_option linter.unusedSimpArgs false
namespace Go.Proofs.YtlkgekpmileobaaGreat
open Go.RowKit
variable{P:Program}{N k j n:Nat}{ro:Option Nat}{l l':List Ab}{a:Act}{o oj:Oper}{K:Value->List Ab->Prop}{b:Bool}{x y c:Code}{E W w:World}{fn:Func}{f:FuncId}{R:Ending->World->Prop}{Q:Exit->Act->World->Prop}{ρ:Operand->Value}{ds:List Deferred}{v:Value}{p:Nat->Prop}{α:Type}{Kx:Act->World->Prop}{rs:List ResultVar}{vs:List Value}
abbrev Fr:=List (Nat×Value)
variable{fr fr':Fr}
def BP:Fr->Nat->Option Value
 |[],_=>none
 |(k,v)::r,d=>bif Nat.beq k d then some v else BP r d
structure FSat(N:Nat)(fr:Fr)(a:Act):Prop where
 size:a.tmps.size=N
 at_: ∀d v,BP fr d=some v->a.tmps[d]?=some v
def ev(fr:Fr):Operand->Option Value
 | .tmp t=>BP fr t
 | .const v=>some v
 | .global g=>some (.pointer (some ⟨g,0,none⟩))
 | .func f=>some (.func (.func f) #[] #[])
def PX(fr:Fr):List Operand->Option (List Value)
 |[]=>some []
 |x::r=>match ev fr x,PX fr r with
  |some v,some vs=>some (v::vs)
  |_,_=>none
def Agrees(fr:Fr)(ρ:Operand->Value):Prop:= ∀x v,ev fr x=some v->ρ x=v
theorem FSat.agrees(h:FSat N fr a):Agrees fr a.eval:=by
 intro x v hx;cases x with
 |tmp t=>have:=h.at_ t v hx;simp[Act.eval,C0,this]
 |const u=>cases hx;rfl
 |global g=>cases hx;rfl
 |func f=>cases hx;rfl
theorem Agrees.list(h:Agrees fr ρ): ∀{xs:List Operand} {vs:List Value},PX fr xs=some vs->xs.map ρ=vs
 |[],vs,e=>by cases e;rfl
 |x::r,vs,e=>by
  unfold PX at e
  split at e
  ·rename_i v us h1 h2;cases e;rw[AJ,h x v h1,h.list h2]
  ·cases e
def Hn(d:Option Nat)(v:Value)(fr:Fr):Fr:=match d with|some d=>(d,v)::fr|none=>fr
def I5(N:Nat):Option Nat->Bool
 |some d=>Nat.blt d N
 |none=>true
theorem FSat.put(h:FSat N fr a){d:Option Nat}(v:Value)(hd:I5 N d=true):FSat N (Hn d v fr) (a.put d v):=by
 cases d with
 |none=>exact h
 |some d=>
  have hlt:d<N:=by simpa[I5,Nat.blt_eq] using hd
  refine⟨by simp[Act.put,h.size],λk u hk=>?_⟩;simp only[Hn,BP] at hk;simp only[Act.put];by_cases e:d=k
  ·subst e;simp at hk;subst hk;simp[h.size,hlt]
  ·have:Nat.beq d k=false:=by
    cases hb:Nat.beq d k
    ·rfl
    ·exact absurd (E8 hb) e
   rw[this] at hk;rw[FG e];exact h.at_ k u hk
theorem FSat.sub(h:FSat N fr a)(hs: ∀d v,BP fr' d=some v->BP fr d=some v):FSat N fr' a:=⟨h.size,λd v hd=>h.at_ d v (hs d v hd)⟩
def FSub:Fr->Fr->Prop
 |[],_=>True
 |(d,v)::r,fr=>BP fr d=some v/\FSub r fr
theorem FSub.spec: ∀{fr' fr:Fr},FSub fr' fr-> ∀d v,BP fr' d=some v->BP fr d=some v
 |[],_,_,d,v,hd=>by cases hd
 |(k,u)::r,fr,h,d,v,hd=>by
  unfold BP at hd;cases hb:Nat.beq k d
  ·rw[hb] at hd;exact h.2.spec d v hd
  ·rw[hb] at hd;have:=E8 hb;subst this;simp at hd;subst hd;exact h.1
def Ub:Nat->List Value->Fr
 |_,[]=>[]
 |i,v::r=>(i,v)::Ub (i+1) r
theorem QG: ∀(l:List Value) (i d:Nat) (v:Value),BP (Ub i l) d=some v->i<=d/\l[d-i]?=some v
 |[],i,d,v,h=>by cases h
 |u::r,i,d,v,h=>by
  unfold Ub BP at h;cases hb:Nat.beq i d
  ·rw[hb] at h;obtain⟨h1,h2⟩:=QG r (i+1) d v h;exact⟨Af,by rw[show d-i=(d-(i+1))+1 by omega];simpa using h2⟩
  ·rw[hb] at h;have:=E8 hb;subst this;simp at h;subst h;simp
theorem ap(args:List Value)(N:Nat)(ds:List Deferred)(h:args.length<=N):FSat N (Ub 0 args) {tmps:=args.toArray++Array.replicate (N-args.toArray.size) undef,defers:=ds}:=by refine⟨by simp;omega,λd v hd=>?_⟩;obtain⟨_,h2⟩:=QG args 0 d v hd;simp only[Nat.sub_zero] at h2;have hlt:=(Ax.1 h2).1;show(args.toArray++_)[d]?=some v;rw[Array.getElem?_append_left (by simpa using hlt)];simpa using h2
def Fw(ro:Option Nat):Fence:={Fence.wide with round:=ro}
structure Fn(P:Program)(f:FuncId)(args:List Value)(l:List Ab)(K:Value->List Ab->Prop):Prop where
 run: ∀E W,Sat E l W->Calls P f args.toArray W λe W'=> ∃v l',e= .returned v/\K v l'/\Sat E l' W'
theorem Fn.mono{P:Program}{f:FuncId}{args:List Value}{l:List Ab}{K K':Value->List Ab->Prop}(h:Fn P f args l K)(hk: ∀v l',K v l'->K' v l'):Fn P f args l K':=
 ⟨λE W hs=>(h.run E W hs).mono λe W' ⟨v,l',h1,h2,h3⟩=>⟨v,l',h1,hk _ _ h2,h3⟩⟩
structure Mn(P:Program)(r:Nat)(vs:List Value)(l:List Ab)(K:Value->List Ab->Prop):Prop where
 run: ∀E W,Sat E l W-> ∃fn tmps assign body,(Instr.yield r vs.toArray).run P W= .ok (.round r fn tmps assign body) W/\
  RoundIn Fence.wide 0 P r fn tmps assign body W λe W'=> ∃v l',e= .returned v/\K v l'/\Sat E l' W'
theorem W8{l:Nat}{tmps:Array Value}{assign body:Code}(h:RoundIn Fence.wide n P l f tmps assign body w R):RoundIn (Fw ro) n P l f tmps assign body w R:=h
theorem Ll{args:Array Value}(h:Calls P f args w R):CallsIn (Fw ro) n P f args w R:=(callsIn_wide (n:=n)).2 h
def Ie:Op->Bool
 | .defer _=>false
 |_=>true
def OpVal(P:Program)(ro:Option Nat)(o:Oper)(ρ:Operand->Value)(W:World)(K:Value->World->Prop):Prop:=
 match(execOp ρ o).run P W with
 | .ok (.value v) w'=>K v w'
 | .ok .skip w'=>K undef w'
 | .ok (.enter f args) w'=>CallsIn (Fw ro) 0 P f args w' (λe w''=> ∃v,e= .returned v/\K v w'')
 | .ok (.round r f tm asg bo) w'=>RoundIn (Fw ro) 0 P r f tm asg bo w' (λe w''=> ∃v,e= .returned v/\K v w'')
 |_=>False
theorem OpVal.mono{K K':Value->World->Prop}(hk: ∀v w,K v w->K' v w)(h:OpVal P ro o ρ W K):OpVal P ro o ρ W K':=by
 unfold OpVal at*
 split at h
 ·exact hk _ _ h
 ·exact hk _ _ h
 ·exact h.mono λe w ⟨v,h1,h2⟩=>⟨v,h1,hk _ _ h2⟩
 ·exact h.mono λe w ⟨v,h1,h2⟩=>⟨v,h1,hk _ _ h2⟩
 ·exact h.elim
theorem OpVal.wpIn{K:Value->World->Prop}{next:Act->World->Prop}(hd:Ie o.op=true)(h:OpVal P ro o a.eval W K)(hk: ∀v w,K v w->next (a.put o.dst v) w):o.wpIn (Fw ro) 0 P a W next Q:=by
 unfold Oper.wpIn;refine⟨λ_ _=>trivial,?_⟩;rw[Oper.semAt_eq _ _ _ (λc hc=>by rw[hc] at hd;cases hd)];unfold OpVal at h
 split at h
 ·rename_i heq;rw[heq];exact hk _ _ h
 ·rename_i heq;rw[heq];exact hk _ _ h
 ·rename_i heq;rw[heq];exact⟨λh0=>(by cases h0),h.mono λe w ⟨v,h1,h2⟩=>by subst h1;exact hk _ _ h2⟩
 ·rename_i heq;rw[heq];exact⟨λh0=>(by cases h0),h.mono λe w ⟨v,h1,h2⟩=>by subst h1;exact hk _ _ h2⟩
 ·exact h.elim
structure OpE(P:Program)(ro:Option Nat)(N:Nat)(fr:Fr)(l:List Ab)(o:Oper)(K:Value->List Ab->Prop):Prop where
 nodef:Ie o.op=true
 val: ∀E a W,FSat N fr a->Sat E l W->OpVal P ro o a.eval W (λv W'=> ∃l',K v l'/\Sat E l' W')
theorem OpE.run(h:OpE P ro N fr l o K)(E:World)(a:Act)(W:World)(hf:FSat N fr a)(hs:Sat E l W):
 o.wpIn (Fw ro) 0 P a W (λa' W'=> ∃v l',a'=a.put o.dst v/\K v l'/\Sat E l' W') Q:=
 OpVal.wpIn h.nodef (h.val E a W hf hs) λv w ⟨l',h1,h2⟩=>⟨v,l',rfl,h1,h2⟩
structure OpQ(P:Program)(ro:Option Nat)(N:Nat)(fr:Fr)(R:List Ab)(o:Oper)(v:Value):Prop where
 run: ∀l,(∀c,c∈R->c∈l)->OpE P ro N fr l o (λv' l'=>v'=v/\l'=l)
theorem OpE.mono{P:Program}{ro:Option Nat}{N:Nat}{fr:Fr}{l:List Ab}{o:Oper}{K K':Value->List Ab->Prop}(h:OpE P ro N fr l o K)(hk: ∀v l',K v l'->K' v l'):OpE P ro N fr l o K':=
 ⟨h.nodef,λE a W hf hs=>(h.val E a W hf hs).mono λv w ⟨l',h1,h2⟩=>⟨l',hk _ _ h1,h2⟩⟩
def Vn(P:Program)(K:Value->List Ab->Prop):Next->List Ab->Prop
 | .value v,l=>K v l
 | .skip,l=>K undef l
 | .enter f args,l=>Fn P f args.toList l K
 |_,_=>False
theorem Do(hd:Ie o.op=true)
 (h: ∀ρ,Agrees fr ρ->sl P (execOp ρ o) l (Vn P K)):OpE P ro N fr l o K:=by
 refine⟨hd,λE a W hf hs=>?_⟩;obtain⟨x,W',l',hr,hq,hs'⟩:=di _ l W (h _ hf.agrees) hs;unfold OpVal;rw[hr];cases x<;>simp only[Vn] at hq
 case value v=>exact⟨l',hq,hs'⟩
 case skip=>exact⟨l',hq,hs'⟩
 case enter f args=>have:=hq.run E W' hs';simp only[Array.toArray_toList] at this;refine Ll (this.mono ?_);rintro e W'' ⟨v,l'',rfl,hk,hs''⟩;exact⟨v,rfl,l'',hk,hs''⟩
section
variable{ops:Array Oper}{rest:List Oper}
structure Df(P:Program)(ro:Option Nat)(N:Nat)(E:World)(ops:Array Oper)(Q:Exit->Act->World->Prop)(rest:List Oper)(fr:Fr)(ds:List Deferred)(l:List Ab):Prop where
 run: ∀a W,FSat N fr a->a.defers=ds->Sat E l W->wpListIn (Fw ro) 0 P ops Q rest a W
structure BF(P:Program)(ro:Option Nat)(N:Nat)(E:World)(c:Code)(Q:Exit->Act->World->Prop)(fr:Fr)(ds:List Deferred)(l:List Ab):Prop where
 run: ∀a W,FSat N fr a->a.defers=ds->Sat E l W->c.wpIn (Fw ro) 0 P Q a W
structure CH(N:Nat)(E:World)(Q:Exit->Act->World->Prop)(e:Exit)(fr:Fr)(ds:List Deferred)(l:List Ab):Prop where
 run: ∀a W,FSat N fr a->a.defers=ds->Sat E l W->Q e a W
theorem Ed(a:Act)(d:Option Nat)(v:Value):(a.put d v).defers=a.defers:=by cases d<;>rfl
theorem SS(h:CH N E Q .normal fr ds l):Df P ro N E ops Q [] fr ds l:=⟨h.run⟩
theorem s8(h:OpE P ro N fr l o K)(hw:o.guard=none)(hd:I5 N o.dst=true)(hk: ∀v l',K v l'->Df P ro N E ops Q rest (Hn o.dst v fr) ds l'):Df P ro N E ops Q (o::rest) fr ds l:=by refine⟨λa W hf hds hs=>?_⟩;refine wpListIn_plain hw λK' hK'=>Oper.wpIn_mono ?_ (h.run E a W hf hs);rintro a' W' ⟨v,l',rfl,hkv,hs'⟩;exact hK' _ _ ((hk v l' hkv).run _ _ (hf.put v hd) ((Ed _ _ _).trans hds) hs')
theorem vg(h:OpQ P ro N fr l o v)(hw:o.guard=none)(hd:I5 N o.dst=true)(hk:Df P ro N E ops Q rest (Hn o.dst v fr) ds l):Df P ro N E ops Q (o::rest) fr ds l:=
 s8 (h.run l λ_ hc=>hc) hw hd λv' l' ⟨h1,h2⟩=>by rw[h1,h2];exact hk
theorem IG{d:Nat}(hf:FSat N fr a)(hj:ops[j]?=some oj)(hd:oj.dst=some d)(hb:BP fr d=some (.bool b)):yielded ops a.tmps j=some b:=by unfold yielded;simp[hj,hd,hf.at_ _ _ hb]
theorem qn{d:Nat}(h:OpE P ro N fr l o K)(hw:o.guard=some (j,b))(hj:ops[j]?=some oj)(hjd:oj.dst=some d)(hb:BP fr d=some (.bool b))(hd:I5 N o.dst=true)(hk: ∀v l',K v l'->Df P ro N E ops Q rest (Hn o.dst v fr) ds l'):Df P ro N E ops Q (o::rest) fr ds l:=by refine⟨λa W hf hds hs=>?_⟩;have hy:=IG hf hj hjd hb;refine wpListIn_step λK' hK'=>?_;rw[Ae (by simp[Region.wanted,hw,hy])];refine Oper.wpIn_mono ?_ (h.run E a W hf hs);rintro a' W' ⟨v,l',rfl,hkv,hs'⟩;exact hK' _ _ ((hk v l' hkv).run _ _ (hf.put v hd) ((Ed _ _ _).trans hds) hs')
theorem s9{d:Nat}(h:OpQ P ro N fr l o v)(hw:o.guard=some (j,b))(hj:ops[j]?=some oj)(hjd:oj.dst=some d)(hb:BP fr d=some (.bool b))(hd:I5 N o.dst=true)(hk:Df P ro N E ops Q rest (Hn o.dst v fr) ds l):Df P ro N E ops Q (o::rest) fr ds l:=
 qn (h.run l λ_ hc=>hc) hw hj hjd hb hd λv' l' ⟨h1,h2⟩=>by rw[h1,h2];exact hk
theorem tc{d:Nat}{b':Bool}(hw:o.guard=some (j,b))(hj:ops[j]?=some oj)(hjd:oj.dst=some d)(hb:BP fr d=some (.bool b'))(hne:(b'==b)=false)(hd:I5 N o.dst=true)(hk:Df P ro N E ops Q rest (Hn o.dst undef fr) ds l):Df P ro N E ops Q (o::rest) fr ds l:=by refine⟨λa W hf hds hs=>?_⟩;have hy:=IG hf hj hjd hb;refine wpListIn_step λK' hK'=>?_;rw[Ac (by simp[Region.wanted,hw,hy];intro e;rw[e] at hne;simp at hne)];exact⟨λ_ _=>trivial,hK' _ _ (hk.run _ _ (hf.put undef hd) ((Ed _ _ _).trans hds) hs)⟩
theorem F0{d:Nat}(hb:BP fr d=some v): ∀k u,BP ((d,v)::fr) k=some u->BP fr k=some u:=by
 intro k u h;unfold BP at h;cases e:Nat.beq d k
 ·rw[e] at h;exact h
 ·rw[e] at h;have:=E8 e;subst this;rw[hb];exact h
theorem i5(d:Nat)(hb:BP fr d=some (.bool b))(ht:b=true->Df P ro N E ops Q rest ((d,.bool true)::fr) ds l)(hf:b=false->Df P ro N E ops Q rest ((d,.bool false)::fr) ds l):Df P ro N E ops Q rest fr ds l:=by
 refine⟨λa W hfr hds hs=>?_⟩;have key: ∀u,BP fr d=some u->FSat N ((d,u)::fr) a:=λu hu=>⟨hfr.size,λk w hk=>hfr.at_ k w (F0 hu k w hk)⟩
 cases b with
 |true=>exact(ht rfl).run a W (key _ hb) hds hs
 |false=>exact(hf rfl).run a W (key _ hb) hds hs
theorem YN(h:BF P ro N E x (Exit.then (y.wpIn (Fw ro) 0 P Q) Q) fr ds l):BF P ro N E (.seq x y) Q fr ds l:=⟨λa W hf hds hs=>wpIn_seq (h.run a W hf hds hs)⟩
theorem Uc(h:CH N E Q .normal fr ds l):BF P ro N E .skip Q fr ds l:=⟨λa W hf hds hs=>wpIn_skip (h.run a W hf hds hs)⟩
theorem P8(h:CH N E Q .normal fr ds l):BF P ro N E (.label k) Q fr ds l:=⟨λa W hf hds hs=>wpIn_label (h.run a W hf hds hs)⟩
theorem QI(h:CH N E Q (.exit k) fr ds l):BF P ro N E (.exit k) Q fr ds l:=⟨λa W hf hds hs=>wpIn_exit (h.run a W hf hds hs)⟩
theorem YO(h:CH N E Q .ret fr ds l):BF P ro N E .ret Q fr ds l:=⟨λa W hf hds hs=>wpIn_ret (h.run a W hf hds hs)⟩
theorem Od(h:BF P ro N E x (Exit.inBlock k Q) fr ds l):BF P ro N E (.block k x) Q fr ds l:=⟨λa W hf hds hs=>wpIn_block (h.run a W hf hds hs)⟩
theorem Ud(h:BF P ro N E x (Exit.noGoto Q) fr ds l):BF P ro N E (.scope x) Q fr ds l:=⟨λa W hf hds hs=>W7 (h.run a W hf hds hs)⟩
theorem Oe{os:List Oper}(h:Df P ro N E os.toArray Q os fr ds l):BF P ro N E (.region k os.toArray false) Q fr ds l:=⟨λa W hf hds hs=>wpIn_region_lit (h.run a W hf hds hs)⟩
theorem KZ{c:Operand}(hc:ev fr c=some (.bool true))(h:BF P ro N E x Q fr ds l):BF P ro N E (.cond c x y) Q fr ds l:=⟨λa W hf hds hs=>wpIn_cond_true (hf.agrees _ _ hc) (h.run a W hf hds hs)⟩
theorem K0{c:Operand}(hc:ev fr c=some (.bool false))(h:BF P ro N E y Q fr ds l):BF P ro N E (.cond c x y) Q fr ds l:=⟨λa W hf hds hs=>wpIn_cond_false (hf.agrees _ _ hc) (h.run a W hf hds hs)⟩
theorem lY(hs':FSub fr' fr)(h:BF P ro N E c Q fr' ds l):BF P ro N E c Q fr ds l:=⟨λa W hf hds hs=>h.run a W (hf.sub hs'.spec) hds hs⟩
def YP(N:Nat)(E:World){α:Type}(fx:α->Fr)(ds:List Deferred)(lx:α->List Ab)(pre:α->Prop)(μ:α->Nat)(x:α)(a:Act)(W:World):Prop:=
 ∃y,pre y/\μ y<μ x/\FSat N (fx y) a/\a.defers=ds/\Sat E (lx y) W
theorem Of(h: ∃n,p n): ∃n,p n/\ ∀m,p m->n<=m:=by
 obtain⟨n,hn⟩:=h
 induction n using Nat.strongRecOn with
 |_ n ih=>
  by_cases hc: ∃m,m<n/\p m
  ·obtain⟨m,hlt,hm⟩:=hc;exact ih m hlt hm
  ·exact⟨n,hn,λm hm=>KS λhlt=>hc ⟨m,hlt,hm⟩⟩
open Classical in
noncomputable def QJ(p:Nat->Prop):Nat:=if h: ∃n,p n then Classical.choose (Of h) else 0
theorem Kf(h: ∃n,p n):p (QJ p)/\ ∀m,p m->QJ p<=m:=by unfold QJ;rw[dif_pos h];exact Classical.choose_spec (Of h)
theorem nw(fx:α->Fr)(lx:α->List Ab)(pre:α->Prop)(μ:α->Nat)(x₀:α)(h0:pre x₀)(hf0:FSub (fx x₀) fr)(hl0:l.Perm (lx x₀))
 (round: ∀x,pre x->BF P ro N E c (Exit.then (YP N E fx ds lx pre μ x) Q) (fx x) ds (lx x)):BF P ro N E (.loop c) Q fr ds l:=by
 refine⟨λa W hf hds hs=>?_⟩;refine wpIn_loop (λa W=> ∃x,pre x/\FSat N (fx x) a/\a.defers=ds/\Sat E (lx x) W) (λa W=>QJ λn=> ∃x,pre x/\FSat N (fx x) a/\a.defers=ds/\Sat E (lx x) W/\μ x=n) ⟨x₀,h0,hf.sub hf0.spec,hds,hs.perm hl0⟩ ?_;intro a W hI;have hex: ∃n,∃x,pre x/\FSat N (fx x) a/\a.defers=ds/\Sat E (lx x) W/\μ x=n:=by obtain⟨x,h1,h2,h3,h4⟩:=hI;exact⟨_,x,h1,h2,h3,h4,rfl⟩
 obtain⟨⟨x,h1,h2,h3,h4,h5⟩,_⟩:=Kf hex;refine wpIn_mono ((round x h1).run a W h2 h3 h4) ?_;intro e a' W' hq;cases e with
 |normal=>obtain⟨y,k1,k2,k3,k4,k5⟩:=hq;refine⟨⟨y,k1,k3,k4,k5⟩,?_⟩;exact DW ((Kf (p:=λn=> ∃x,pre x/\FSat N (fx x) a'/\a'.defers=ds/\Sat E (lx x) W'/\μ x=n) ⟨_,y,k1,k3,k4,k5,rfl⟩).2 (μ y) ⟨y,k1,k3,k4,k5,rfl⟩) (by rw[<-h5];exact k2)
 |_=>exact hq
theorem Mo(h:BF P ro N E y Q fr ds l):CH N E (Exit.then (y.wpIn (Fw ro) 0 P Q) Q) .normal fr ds l:=⟨h.run⟩
theorem Kg(h:CH N E Q (.exit k) fr ds l):CH N E (Exit.then Kx Q) (.exit k) fr ds l:=⟨h.run⟩
theorem Lm(h:CH N E Q .ret fr ds l):CH N E (Exit.then Kx Q) .ret fr ds l:=⟨h.run⟩
theorem Og(h:CH N E Q .normal fr ds l):CH N E (Exit.inBlock k Q) .normal fr ds l:=⟨h.run⟩
theorem Kh(h:CH N E Q .ret fr ds l):CH N E (Exit.inBlock k Q) .ret fr ds l:=⟨h.run⟩
theorem If(h:CH N E Q .normal fr ds l):CH N E (Exit.inBlock k Q) (.exit k) fr ds l:=⟨λa W hf hds hs=>by simp only[Exit.inBlock,CT];exact h.run a W hf hds hs⟩
theorem Ln(hne:Nat.beq j k=false)(h:CH N E Q (.exit j) fr ds l):CH N E (Exit.inBlock k Q) (.exit j) fr ds l:=⟨λa W hf hds hs=>by
 have:¬j=k:=λe=>by subst e;simp at hne
 simp only[Exit.inBlock,Ac this];exact h.run a W hf hds hs⟩
theorem P9(h:CH N E Q .normal fr ds l):CH N E (Exit.noGoto Q) .normal fr ds l:=⟨h.run⟩
theorem Ki(h:CH N E Q .ret fr ds l):CH N E (Exit.noGoto Q) .ret fr ds l:=⟨h.run⟩
theorem ny{fx:α->Fr}{lx:α->List Ab}{pre:α->Prop}{μ:α->Nat}{x:α}(y:α)(h1:pre y)(h2:μ y<μ x)(h3:FSub (fx y) fr)(h4:l.Perm (lx y)):CH N E (Exit.then (YP N E fx ds lx pre μ x) Q) .normal fr ds l:=
 ⟨λa W hf hds hs=>⟨y,h1,h2,hf.sub h3.spec,hds,hs.perm h4⟩⟩
end
def RK(E:World)(K:Value->List Ab->Prop):Ending->World->Prop:=λe W'=> ∃v l',e= .returned v/\K v l'/\Sat E l' W'
theorem QL{args:List Value}(hf:P.funcs[f]?=some fn)(hb:fn.body=some c)(hn:Nat.ble args.length fn.ntmps=true)
 (h: ∀E,BF P none fn.ntmps E c (bodyPostM Fence.wide 0 P fn (RK E K)) (Ub 0 args) [] l):Fn P f args l K:=by
 refine⟨λE W hs=>?_⟩;refine(callsIn_wide (n:=0)).1 (callsIn_of_wp_marks hf hb trivial ?_ rfl);exact(h E).run _ W (ap args _ [] (Nat.le_of_ble_eq_true hn)) rfl hs
inductive ResS(P:Program)(fr:Fr)(l:List Ab):List ResultVar->List Value->Prop
 |nil:ResS P fr l [] []
 |tmp {t:Nat} {v:Value} {rs:List ResultVar} {vs:List Value}:BP fr t=some v->ResS P fr l rs vs->ResS P fr l (.tmp t::rs) (v::vs)
 |cell {t:Nat} {T:TypeId} {v:Value} {b off:Nat} {rs:List ResultVar} {vs:List Value}:BP fr t=some (.pointer (some ⟨b,off,none⟩))->(∀E W,Sat E l W->(loadVar T ⟨b,off,none⟩).run P W= .ok v W)->ResS P fr l rs vs->ResS P fr l (.cell t T::rs) (v::vs)
def Iw:List Value->Value
 |[v]=>v
 |vs=> .tuple vs.toArray
def i6(tmps:Array Value):ResultVar->Sem Value
 | .tmp t=>pure (tmps.getD t undef)
 | .cell b t=>do loadVar t (<-asAddr (tmps.getD b undef))
theorem QM{P:Program}{N:Nat}{fr:Fr}{l:List Ab}{E W:World}{a:Act}(hf:FSat N fr a)(hs:Sat E l W): ∀{rs:List ResultVar} {vs:List Value},ResS P fr l rs vs->(rs.mapM (i6 a.tmps)).run P W= .ok vs W
 |[],_,.nil=>by simp[Sem.run]
 |_,_,.tmp (t:=t) (v:=v) (rs:=rs) (vs:=vs) h1 h2=>by
  have e:a.tmps.getD t undef=v:=by rw[C0,hf.at_ _ _ h1];rfl
  have e1:(i6 a.tmps (.tmp t)).run P W= .ok v W:=by show(pure _:Sem Value).run P W=_;rw[e];rfl
  rw[List.mapM_cons,Sem.run_bind,e1];simp only[Result.andThen];rw[Sem.run_bind,QM hf hs h2];rfl
 |_,_,.cell (t:=t) (v:=v) (T:=T) (b:=b) (off:=off) h1 h3 h2=>by
  have e:a.tmps.getD t undef= .pointer (some ⟨b,off,none⟩):=by rw[C0,hf.at_ _ _ h1];rfl
  have e1:(i6 a.tmps (.cell t T)).run P W= .ok v W:=by show(asAddr (a.tmps.getD t undef)>>=loadVar T).run P W=_;rw[e,Sem.run_bind];exact h3 E W hs
  rw[List.mapM_cons,Sem.run_bind,e1];simp only[Result.andThen];rw[Sem.run_bind,QM hf hs h2];rfl
theorem Py(hr:fn.results=rs.toArray)(hf:FSat N fr a)(hs:Sat E l W)(h:ResS P fr l rs vs):
 (results fn a.tmps).run P W= .ok (Iw vs) W:=by
 have e:results fn a.tmps=(do let us<-fn.results.mapM (i6 a.tmps);pure (if h:us.size=1 then us[0] else .tuple us)):=rfl;rw[e,hr,List.mapM_toArray,Sem.run_bind,map_eq_pure_bind,Sem.run_bind,QM hf hs h];simp only[Result.andThen,Sem.run_pure];congr 1
 match vs with
 |[]=>rfl
 |[v]=>rfl
 |_::_::_=>rfl
def Cd(D:Nat):Ab:=(D,.deferred (some []))
def GF(D:Nat):Deferred:={target:= .collected D,args:=#[]}
theorem O7{P:Program}{fn:Func}{R:Ending->World->Prop}{tmps:Array Value}{E:World}{l:List Ab}{v:Value}: ∀(Ds:List Nat) (W:World),Sat E (Ds.map Cd++l) W->
 (∀W',Sat E l W'->(results fn tmps).run P W'= .ok v W'/\R (.returned v) W')->LeavesInM Fence.wide 0 P fn tmps R (Ds.map GF) .returning W
 |[],W,hs,hr=>⟨v,hr W hs⟩
 |D::Ds,W,hs,hr=>by have hK:W.heap[D]?=some (.deferred (some [])):=hs.has (D,_) Ak;have hs1:Sat E ((D,.deferred none)::(Ds.map Cd++l)) (W.putObj D (.deferred none)):=hs.upd Upd.here;exact⟨by simp,.inl ⟨D,_,rfl,run_takeDeferred hK,O7 Ds _ hs1.tail hr⟩⟩
theorem qo(Ds:List Nat)(hr:fn.results=rs.toArray)(hp:l.Perm (Ds.map Cd++l'))(h:ResS P fr l' rs vs)(hk:K (Iw vs) l'):
 CH N E (bodyPostM Fence.wide 0 P fn (RK E K)) .ret fr (Ds.map GF) l:=by
 refine⟨λa W hf hds hs=>?_⟩;show LeavesInM Fence.wide 0 P fn a.tmps (RK E K) a.defers .returning W;rw[hds];exact O7 (v:=Iw vs) Ds W (hs.perm hp) λW' hs'=>⟨Py hr hf hs' h,_,l',rfl,hk,hs'⟩
theorem YQ(h:CH N E (bodyPostM Fence.wide 0 P fn R) .ret fr ds l):CH N E (bodyPostM Fence.wide 0 P fn R) .normal fr ds l:=⟨h.run⟩
end Go.Proofs.YtlkgekpmileobaaGreat
