/- Laws that the statement's proof leans on (joined out of several texts). -/
import Derived.Test.YtlifcingifodfaaGreatGg1
import Derived.OrdersIn
set_option maxHeartbeats 4000000
set_option linter.unusedVariables false
set_option linter.unusedSimpArgs false
namespace Go.Proofs.YtlifcingifodfaaGreat
open Go.RowKit
variable{j t N dj i k r D:Nat}{oj o:Oper}{tbl:List (List Nat)}{l' L T R:Ac}{a:Act}{W E:World}{C3:Array Bool}{ds:List Deferred}{b b':Bool}{p:Prop}{P:Program}{Q:Exit->Act->World->Prop}{Φ:Act->Prop}{α:Type}{ro:Option Nat}{ops:Array Oper}{v:Value}{K:Value->Ac->Prop}{c y assign body:Code}{os:List Oper}{fr':Fr}{fn:Func}{rs:List ResultVar}{vs:Ap}{tmps:Array Value}
section
variable{A3:List Oper}{fr:Fr}{l:Ac}
theorem jS{d:Nat}(h:OpE P ro N fr l o K)(hw:o.guard=none)(hd:o.dst=some d)(hb:Nat.blt d N=true)(hk: ∀v l',K v l'->DA P ro N E ops Q A3 ((d,v)::fr) ds l'):DA P ro N E ops Q (o::A3) fr ds l:=
 s_e h hw (by rw[hd];exact hb) λv l' hkv=>by rw[hd];exact hk v l' hkv
theorem M9(h:OpE P ro N fr l o K)(hw:o.guard=none)(hd:o.dst=none)(hk: ∀v l',K v l'->DA P ro N E ops Q A3 fr ds l'):DA P ro N E ops Q (o::A3) fr ds l:=
 s_e h hw (by rw[hd];rfl) λv l' hkv=>by rw[hd];exact hk v l' hkv
theorem uS{d:Nat}(h:OpQ P ro N fr l o v)(hw:o.guard=none)(hd:o.dst=some d)(hb:Nat.blt d N=true)(hk:DA P ro N E ops Q A3 ((d,v)::fr) ds l):DA P ro N E ops Q (o::A3) fr ds l:=
 s_q h hw (by rw[hd];exact hb) (by rw[hd];exact hk)
theorem Yi{d:Nat}(h:OpQ P ro N fr l o v)(hw:o.guard=some (j,b))(hj:ops[j]?=some oj)(Ld:oj.dst=some dj)(hb:BZ fr dj=some (.bool b))(hd:o.dst=some d)(So:Nat.blt d N=true)(hk:DA P ro N E ops Q A3 ((d,v)::fr) ds l):DA P ro N E ops Q (o::A3) fr ds l:=
 AeG h hw hj Ld hb (by rw[hd];exact So) (by rw[hd];exact hk)
theorem AeK{d:Nat}(h:OpE P ro N fr l o K)(hw:o.guard=some (j,b))(hj:ops[j]?=some oj)(Ld:oj.dst=some dj)(hb:BZ fr dj=some (.bool b))(hd:o.dst=some d)(So:Nat.blt d N=true)(hk: ∀v l',K v l'->DA P ro N E ops Q A3 ((d,v)::fr) ds l'):DA P ro N E ops Q (o::A3) fr ds l:=
 Aa7 h hw hj Ld hb (by rw[hd];exact So) λv l' hkv=>by rw[hd];exact hk v l' hkv
theorem AeL{d:Nat}(hw:o.guard=some (j,b))(hj:ops[j]?=some oj)(Ld:oj.dst=some dj)(hb:BZ fr dj=some (.bool b'))(He:(b'==b)=false)(hd:o.dst=some d)(So:Nat.blt d N=true)(hk:DA P ro N E ops Q A3 ((d,undef)::fr) ds l):DA P ro N E ops Q (o::A3) fr ds l:=
 AeH hw hj Ld hb He (by rw[hd];exact So) (by rw[hd];exact hk)
def Rb(ops:Array Oper)(fr:Fr):Option (Nat×Bool)->Option Bool
 |none=>some true
 |some (j,b)=>match ops[j]? with
  |some oj=>match oj.dst with
   |some dj=>match BZ fr dj with
    |some (.bool b')=>some (b'==b)
    |_=>none
   |none=>none
  |none=>none
theorem Kf{g:Option (Nat×Bool)}{r:Bool}(h:Rb ops fr g=some r):(g=none/\r=true)\/ ∃j b oj dj b',g=some (j,b)/\ops[j]?=some oj/\oj.dst=some dj/\BZ fr dj=some (.bool b')/\(b'==b)=r:=by
 cases g with
 |none=>exact .inl ⟨rfl,by cases h;rfl⟩
 |some jb=>
  obtain⟨j,b⟩:=jb;refine .inr ⟨j,b,?_⟩;unfold Rb at h;simp only at h
  split at h
  ·rename_i oj hoj
   split at h
   ·rename_i dj hdj
    split at h
    ·rename_i b' hb';exact⟨oj,dj,b',rfl,hoj,hdj,hb',by cases h;rfl⟩
    ·cases h
   ·cases h
  ·cases h
theorem NY{d:Nat}(h:OpQ P ro N fr l o v)(hw:Rb ops fr o.guard=some true)(hd:o.dst=some d)(hb:Nat.blt d N=true)(hk:DA P ro N E ops Q A3 ((d,v)::fr) ds l):DA P ro N E ops Q (o::A3) fr ds l:=by
 rcases Kf hw with⟨h1,_⟩|⟨j,b,oj,dj,b',h1,h2,h3,h4,h5⟩
 ·exact uS h h1 hd hb hk
 ·have:b'=b:=by simpa using h5
  subst this;exact Yi h h1 h2 h3 h4 hd hb hk
theorem AeM{d:Nat}(hw:Rb ops fr o.guard=some false)(hd:o.dst=some d)(hb:Nat.blt d N=true)(hk:DA P ro N E ops Q A3 ((d,undef)::fr) ds l):DA P ro N E ops Q (o::A3) fr ds l:=by
 rcases Kf hw with⟨_,h1⟩|⟨j,b,oj,dj,b',h1,h2,h3,h4,h5⟩
 ·cases h1
 ·exact AeL h1 h2 h3 h4 h5 hd hb hk
theorem WH(hs': ∀d v,BZ fr' d=some v->BZ fr d=some v)(h:BR P ro N E c Q fr' ds l):BR P ro N E c Q fr ds l:=⟨λa W hf hds hs=>h.run a W (hf.sub hs') hds hs⟩
theorem Tk{x:Code}{ip:Decidable p}(hc:BZ fr t=some (.bool (@decide p ip)))(hp:p)(h:BR P ro N E x Q ((t,.bool true)::fr) ds l):BR P ro N E (.cond (.tmp t) x y) Q fr ds l:=by
 have hc':BZ fr t=some (.bool true):=by rw[hc,Au hp]
 exact Mz hc' (WH (GR hc') h)
theorem Tl{x:Code}{ip:Decidable p}(hc:BZ fr t=some (.bool (@decide p ip)))(hp:¬p)(h:BR P ro N E y Q ((t,.bool false)::fr) ds l):BR P ro N E (.cond (.tmp t) x y) Q fr ds l:=by
 have hc':BZ fr t=some (.bool false):=by rw[hc,Aw hp]
 exact MA hc' (WH (GR hc') h)
theorem q6{x:Code}{ip:Decidable p}(hc:BZ fr t=some (.bool (@decide p ip)))(h1:p->BR P ro N E x Q ((t,.bool true)::fr) ds l)(h2:¬p->BR P ro N E y Q ((t,.bool false)::fr) ds l):BR P ro N E (.cond (.tmp t) x y) Q fr ds l:=by
 by_cases hp:p
 ·exact Tk hc hp (h1 hp)
 ·exact Tl hc hp (h2 hp)
theorem kV{x:Code}(hc:BZ fr t=some (.bool b))(h1:b=true->BR P ro N E x Q ((t,.bool true)::fr) ds l)(h2:b=false->BR P ro N E y Q ((t,.bool false)::fr) ds l):BR P ro N E (.cond (.tmp t) x y) Q fr ds l:=by
 cases b with
 |true=>exact Mz hc (WH (GR hc) (h1 rfl))
 |false=>exact MA hc (WH (GR hc) (h2 rfl))
theorem kW(hs': ∀d v,BZ fr' d=some v->BZ fr d=some v)(h:DA P ro N E ops Q A3 fr' ds l):DA P ro N E ops Q A3 fr ds l:=⟨λa W hf hds hs=>h.run a W (hf.sub hs') hds hs⟩
theorem dI{w:Bool}{ip:Decidable p}(hw:o.guard=some (j,w))(hj:ops[j]?=some oj)(Ld:oj.dst=some t)(hc:BZ fr t=some (.bool (@decide p ip)))(hp:p)(h:DA P ro N E ops Q (o::A3) ((t,.bool true)::fr) ds l):DA P ro N E ops Q (o::A3) fr ds l:=by
 have hc':BZ fr t=some (.bool true):=by rw[hc,Au hp]
 exact kW (GR hc') h
theorem dJ{w:Bool}{ip:Decidable p}(hw:o.guard=some (j,w))(hj:ops[j]?=some oj)(Ld:oj.dst=some t)(hc:BZ fr t=some (.bool (@decide p ip)))(hp:¬p)(h:DA P ro N E ops Q (o::A3) ((t,.bool false)::fr) ds l):DA P ro N E ops Q (o::A3) fr ds l:=by
 have hc':BZ fr t=some (.bool false):=by rw[hc,Aw hp]
 exact kW (GR hc') h
theorem Abm{w:Bool}{ip:Decidable p}(hw:o.guard=some (j,w))(hj:ops[j]?=some oj)(Ld:oj.dst=some t)(hc:BZ fr t=some (.bool (@decide p ip)))(h1:p->DA P ro N E ops Q (o::A3) ((t,.bool true)::fr) ds l)(h2:¬p->DA P ro N E ops Q (o::A3) ((t,.bool false)::fr) ds l):DA P ro N E ops Q (o::A3) fr ds l:=by
 by_cases hp:p
 ·exact dI hw hj Ld hc hp (h1 hp)
 ·exact dJ hw hj Ld hc hp (h2 hp)
theorem Abn{w:Bool}(hw:o.guard=some (j,w))(hj:ops[j]?=some oj)(Ld:oj.dst=some t)(hc:BZ fr t=some (.bool b))(h1:b=true->DA P ro N E ops Q (o::A3) ((t,.bool true)::fr) ds l)(h2:b=false->DA P ro N E ops Q (o::A3) ((t,.bool false)::fr) ds l):DA P ro N E ops Q (o::A3) fr ds l:=
 qP t hc h1 h2
end
inductive Pick:Ac->Bd->Ac->Prop
 |here {c:Bd} {l:Ac}:Pick (c::l) c l
 |there {c d:Bd} {l l':Ac}:Pick l c l'->Pick (d::l) c (d::l')
theorem Pick.perm{l:Ac}{c:Bd}(h:Pick l c l'):l.Perm (c::l'):=by
 induction h with
 |here=>exact I9 _
 |there _ ih=>exact(List.Perm.cons _ ih).trans (List.Perm.swap _ _ _)
structure Keep(L l:Ac):Prop where
 ex: ∃g:Ac,L.Perm (g++l)
theorem Keep.refl{l:Ac}:Keep l l:=⟨[],I9 _⟩
theorem Keep.pick{l l1:Ac}{c:Bd}(h:Pick l c l1)(k:Keep l1 l'):Keep l (c::l'):=by obtain⟨g,hg⟩:=k.ex;exact⟨g,h.perm.trans ((List.Perm.cons _ hg).trans AI.symm)⟩
theorem Keep.drop{l:Ac}{c:Bd}(k:Keep l l'):Keep (c::l) l':=by obtain⟨g,hg⟩:=k.ex;exact⟨c::g,List.Perm.cons c hg⟩
theorem Keep.of_perm{l:Ac}(p:l.Perm l'):Keep l l':=⟨[],p⟩
theorem Keep.right{l:Ac}(k:Keep L l)(p:l.Perm l'):Keep L l':=by obtain⟨g,hg⟩:=k.ex;exact⟨g,hg.trans (EZ g p)⟩
theorem Keep.trans{l:Ac}(k:Keep L l)(k':Keep l l'):Keep L l':=by obtain⟨g,hg⟩:=k.ex;obtain⟨g',hg'⟩:=k'.ex;exact⟨g++g',by rw[Am];exact hg.trans (EZ g hg')⟩
theorem Keep.mid{M l:Ac}{c:Bd}(k:Keep L (c::(M++l))):Keep L (M++c::l):=k.right AI.symm
theorem Keep.sat{l:Ac}(h:Keep l l'):Sat E l W->Sat E l' W:=by obtain⟨g,hg⟩:=h.ex;intro hs;exact(hs.perm hg).sub (List.sublist_append_right _ _)
section
variable{A3:List Oper}{fr:Fr}{l:Ac}{e:Exit}
theorem Bs(p:Keep l l')(h:DA P ro N E ops Q A3 fr ds l'):DA P ro N E ops Q A3 fr ds l:=⟨λa W hf hds hs=>h.run a W hf hds (p.sat hs)⟩
theorem Em(p:Keep l l')(h:BR P ro N E c Q fr ds l'):BR P ro N E c Q fr ds l:=⟨λa W hf hds hs=>h.run a W hf hds (p.sat hs)⟩
theorem Ky(p:Keep l l')(h:C0 N E Q e fr ds l'):C0 N E Q e fr ds l:=⟨λa W hf hds hs=>h.run a W hf hds (p.sat hs)⟩
theorem Fn.keep{f:FuncId}{args:Ap}(p:Keep l l')(h:Fn P f args l' K):Fn P f args l K:=⟨λE W hs=>h.run E W (p.sat hs)⟩
theorem CN(fx:α->Fr)(lx:α->Ac)(pre:α->Prop)(μ:α->Nat)(x₀:α)(h0:pre x₀)(hf0:FSub (fx x₀) fr)(qn:Keep l (lx x₀))
 (round: ∀x,pre x->BR P ro N E c (Exit.then (dF N E fx ds lx pre μ x) Q) (fx x) ds (lx x)):BR P ro N E (.loop c) Q fr ds l:=Em qn (wY fx lx pre μ x₀ h0 hf0 (I9 _) round)
theorem BO{fx:α->Fr}{lx:α->Ac}{pre:α->Prop}{μ:α->Nat}{x:α}(y:α)(h1:pre y)(h2:μ y<μ x)(h3:FSub (fx y) fr)(h4:Keep l (lx y)):C0 N E (Exit.then (dF N E fx ds lx pre μ x) Q) .normal fr ds l:=
 Ky h4 (wZ y h1 h2 h3 (I9 _))
theorem BE(Ds:List Nat)(hr:fn.results=rs.toArray)(hp:Keep l (Ds.map Cr++l'))(h:ResS P fr l' rs vs)(hk:K (JH vs) l'):
 C0 N E (bodyPostM Fence.wide 0 P fn (RK E K)) .ret fr (Ds.map Hw) l:=Ky hp (Aa8 Ds hr (I9 _) h hk)
theorem RK.keep{l2:Ac}(p:Keep l2 l')(hk:K v l')(hs:Sat E l2 W):RK E K (.returned v) W:=⟨v,l',rfl,hk,p.sat hs⟩
theorem AU(Ds:List Nat)(l2:Ac)(hr:fn.results=rs.toArray)(hp:Keep l (Ds.map Cr++l2))(h:ResS P fr l2 rs vs)(p2:Keep l2 l')(hk:K (JH vs) l'):
 C0 N E (bodyPostM Fence.wide 0 P fn (RK E K)) .ret fr (Ds.map Hw) l:=by
 refine Ky hp ⟨λa W hf hds hs=>?_⟩;show LeavesInM Fence.wide 0 P fn a.tmps (RK E K) a.defers .returning W;rw[hds];exact Ra (v:=JH vs) Ds W hs λW' hs'=>⟨RD hr hf hs' h,RK.keep p2 hk hs'⟩
end
def uT(N:Nat)(E:World){α:Type}(fx:α->Fr)(dx:α->List Deferred)(lx:α->Ac)(pre:α->Prop)(μ:α->Nat)(x:α)(a:Act)(W:World):Prop:=
 ∃y,pre y/\μ y<μ x/\FSat N (fx y) a/\a.defers=dx y/\Sat E (lx y) W
section
variable{fr:Fr}{l:Ac}
theorem xf(fx:α->Fr)(dx:α->List Deferred)(lx:α->Ac)(pre:α->Prop)(μ:α->Nat)(x₀:α)(h0:pre x₀)(hf0:FSub (fx x₀) fr)(v6:ds=dx x₀)(qn:Keep l (lx x₀))
 (round: ∀x,pre x->BR P ro N E c (Exit.then (uT N E fx dx lx pre μ x) Q) (fx x) (dx x) (lx x)):BR P ro N E (.loop c) Q fr ds l:=by
 refine⟨λa W hf hds hs=>?_⟩;refine wpIn_loop (λa W=> ∃x,pre x/\FSat N (fx x) a/\a.defers=dx x/\Sat E (lx x) W) (λa W=>Tf λn=> ∃x,pre x/\FSat N (fx x) a/\a.defers=dx x/\Sat E (lx x) W/\μ x=n) ⟨x₀,h0,hf.sub hf0.spec,hds.trans v6,qn.sat hs⟩ ?_;intro a W hI;have XU: ∃n,∃x,pre x/\FSat N (fx x) a/\a.defers=dx x/\Sat E (lx x) W/\μ x=n:=by obtain⟨x,h1,h2,h3,h4⟩:=hI;exact⟨_,x,h1,h2,h3,h4,rfl⟩
 obtain⟨⟨x,h1,h2,h3,h4,h5⟩,_⟩:=LR XU;refine wpIn_mono ((round x h1).run a W h2 h3 h4) ?_;intro e a' W' hq;cases e with
 |normal=>obtain⟨y,k1,k2,k3,k4,k5⟩:=hq;refine⟨⟨y,k1,k3,k4,k5⟩,?_⟩;exact Ev ((LR (p:=λn=> ∃x,pre x/\FSat N (fx x) a'/\a'.defers=dx x/\Sat E (lx x) W'/\μ x=n) ⟨_,y,k1,k3,k4,k5,rfl⟩).2 (μ y) ⟨y,k1,k3,k4,k5,rfl⟩) (by rw[<-h5];exact k2)
 |_=>exact hq
theorem xg{fx:α->Fr}{dx:α->List Deferred}{lx:α->Ac}{pre:α->Prop}{μ:α->Nat}{x:α}(y:α)(h1:pre y)(h2:μ y<μ x)(h3:FSub (fx y) fr)(hd:ds=dx y)(h4:Keep l (lx y)):C0 N E (Exit.then (uT N E fx dx lx pre μ x) Q) .normal fr ds l:=
 ⟨λa W hf hds hs=>⟨y,h1,h2,hf.sub h3.spec,hds.trans hd,h4.sat hs⟩⟩
end
structure FC(P:Program)(gf:Nat)(lb:Ap){α:Type}(enc:α->Ap)(S Sp:List α->Prop)(Need:List α->Ac->Prop):Prop where
 run: ∀(r:Nat) (I Ix:List α->Ac->Prop) (G0:Ac),(∀pre l G,(∀c,c∈G0->c∈G)->I pre l->Need pre (l++G))->
  (∀pre x l G,(∀c,c∈G0->c∈G)->I pre l->Sp (pre++[x])->Oa P r (enc x) (l++G) (λv l'=> ∃l1,l'=l1++G/\((v= .bool true/\I (pre++[x]) l1)\/(v= .bool false/\Ix (pre++[x]) l1))))->
  ∀l G,(∀c,c∈G0->c∈G)->I [] l->Fn P gf (.func (.yield r) #[] #[]::lb) (l++G) (λv l'=> ∃l1,l'=l1++G/\((∃xs,S xs/\I xs l1)\/(∃pre,Sp pre/\Ix pre l1)))
def Kz{α:Type}(I:List α->Ac->Prop)(Ix:Code->List α->Ac->Prop)(xs:List α)(r:Nat)(FU:LoopState->Option Code->Loop)(T:Ac):Value->Ac->Prop:=λv l'=>
 (v= .bool true/\ ∃l1,I xs l1/\l'=l1++(r,.loop (FU .ready none))::T)\/(v= .bool false/\ ∃c l1,Ix c xs l1/\l'=l1++(r,.loop (FU .done (some c)))::T)
def DR(fn:FuncId)(tmps:Array Value)(ps:Array Tmp)(assign body:Code)(D:Nat)(st:LoopState)(pe:Option Code):Loop:={state:=st,pending:=pe,fn,tmps,params:=ps,assign,body,defers:=D}
def PI(P:Program)(r:Nat)(body:Code)(Q:Exit->Act->World->Prop):Act->World->Prop:=λa w=> ∃w2,(Instr.beginRound r).run P w= .ok () w2/\body.wpIn (Fw (some r)) 0 P Q a w2
def DX:List Nat->Ap->Fr->Fr
 |p::ps,v::vs,fr=>DX ps vs ((p,v)::fr)
 |_,_,fr=>fr
theorem Vw{N:Nat}: ∀(ps:List Nat) (vs:Ap) (fr:Fr) (a:Act) (ds:List Deferred),FSat N fr a->ps.all (λp=>Nat.blt p N)=true->
 FSat N (DX ps vs fr) {tmps:=(ps.zip vs).foldl (λt (p,v)=>t.setIfInBounds p v) a.tmps,defers:=ds}
 |[],vs,fr,a,ds,hf,_=>⟨hf.size,hf.at_⟩
 |p::ps,[],fr,a,ds,hf,_=>⟨hf.size,hf.at_⟩
 |p::ps,v::vs,fr,a,ds,hf,hb=>by simp only[In,AV] at hb;have h1:FSat N ((p,v)::fr) (a.put (some p) v):=FSat.put (d:=some p) hf v hb.1;exact Vw ps vs _ _ ds h1 hb.2
section
variable{fr:Fr}{fn:FuncId}{ps:Array Tmp}{I:List α->Ac->Prop}{Ix:Code->List α->Ac->Prop}{xs:List α}
theorem CK{L':Ac}{Qx:Exit->Act->World->Prop}(hu:Upd L r (.loop (DR fn tmps ps assign body D .ready none)) (.loop (DR fn tmps ps assign body D .busy none)) L')(h:BR P (some r) N E body Q fr ds L'):C0 N E (Exit.then (PI P r body Q) Qx) .normal fr ds L:=
 ⟨λa W hf hds hs=>⟨_,run_beginRound (hs.has _ hu.mem) rfl,h.run a _ hf hds (hs.upd hu)⟩⟩
theorem FK(l:Ac)(b:Nat)(o o':Obj)(T:Ac):Upd (l++(b,o)::T) b o o' (l++(b,o')::T):=by
 induction l with
 |nil=>exact .here
 |cons c l ih=>exact .there ih
theorem Ci(l1:Ac)(hk:Keep L (l1++(r,.loop (DR fn tmps ps assign body D .busy none))::T))(hI:I xs l1):C0 N E (roundPost P r (RK E (Kz I Ix xs r (DR fn tmps ps assign body D) T))) .normal fr ds L:=
 ⟨λa W hf hds hs=>by have hs:=hk.sat hs;have hm:W.heap[r]?=some (.loop (DR fn tmps ps assign body D .busy none)):=hs.has (r,_) (by simp);refine⟨_,_,run_endRound none hm,_,_,rfl,.inl ⟨rfl,l1,hI,rfl⟩,hs.upd (FK _ _ _ _ _)⟩⟩
theorem EI(l1:Ac)(hk:Keep L (l1++(r,.loop (DR fn tmps ps assign body D .busy none))::T))(hI:Ix .ret xs l1):C0 N E (roundPost P r (RK E (Kz I Ix xs r (DR fn tmps ps assign body D) T))) .ret fr ds L:=
 ⟨λa W hf hds hs=>by have hs:=hk.sat hs;have hm:W.heap[r]?=some (.loop (DR fn tmps ps assign body D .busy none)):=hs.has (r,_) (by simp);refine⟨_,_,run_endRound (some .ret) hm,_,_,rfl,.inr ⟨rfl,.ret,l1,hI,rfl⟩,hs.upd (FK _ _ _ _ _)⟩⟩
theorem E5(l1:Ac)(hk:Keep L (l1++(r,.loop (DR fn tmps ps assign body D .busy none))::T))(hI:Ix (.exit k) xs l1):C0 N E (roundPost P r (RK E (Kz I Ix xs r (DR fn tmps ps assign body D) T))) (.exit k) fr ds L:=
 ⟨λa W hf hds hs=>by have hs:=hk.sat hs;have hm:W.heap[r]?=some (.loop (DR fn tmps ps assign body D .busy none)):=hs.has (r,_) (by simp);refine⟨_,_,run_endRound (some (.exit k)) hm,_,_,rfl,.inr ⟨rfl,.exit k,l1,hI,rfl⟩,hs.upd (FK _ _ _ _ _)⟩⟩
end
structure uU(P:Program)(gf:Nat)(lb:Ap){α:Type}(enc:α->Ap)(S Sp:List α->Prop)(Need:List α->Ac->Prop)(C:Ac):Prop where
 run: ∀(r:Nat) (I Ix:List α->Ac->Prop) (G0:Ac),(∀pre l G,(∀c,c∈G0->c∈G)->I pre l->Need pre (l++G))->
  (∀pre x l G,(∀c,c∈G0->c∈G)->I pre l->Sp (pre++[x])->Oa P r (enc x) (l++G) (λv l'=> ∃l1,l'=l1++G/\((v= .bool true/\I (pre++[x]) l1)\/(v= .bool false/\Ix (pre++[x]) l1))))->
  ∀l G,(∀c,c∈G0->c∈G)->I [] l->Fn P gf (.func (.yield r) #[] #[]::lb) (l++(C++G)) (λv l'=> ∃l1,l'=l1++G/\((∃xs,S xs/\I xs l1)\/(∃pre,Sp pre/\Ix pre l1)))
section
variable{fr:Fr}{g:Operand}{ps:List Tmp}{gf:Nat}{lb:Ap}{enc:α->Ap}{S Sp:List α->Prop}{Need:List α->Ac->Prop}
theorem Tm{fn:FuncId}{I:List α->Ac->Prop}{Ix:Code->List α->Ac->Prop}{pre:List α}{x:α}{l:Ac}(NO:(enc x).length=ps.length)(jI:ps.all (λp=>Nat.blt p N)=true)(hf: ∀a:Act,a.tmps=tmps->FSat N fr a)
 (h: ∀E,BR P (some r) N E assign (Exit.then (PI P r body (roundPost P r (RK E (Kz I Ix (pre++[x]) r (DR fn tmps ps.toArray assign body D) T)))) (λ_ _ _=>False)) (DX ps (enc x) fr) [] (l++(r,.loop (DR fn tmps ps.toArray assign body D .ready none))::T)):
 Oa P r (enc x) (l++(r,.loop (DR fn tmps ps.toArray assign body D .ready none))::T) (Kz I Ix (pre++[x]) r (DR fn tmps ps.toArray assign body D) T):=by
 refine⟨λE W hs=>?_⟩;have hm:W.heap[r]?=some (.loop (DR fn tmps ps.toArray assign body D .ready none)):=hs.has (r,_) (by simp);refine⟨fn,_,assign,body,run_yield hm (by simp[DR,NO]),roundIn_of_wpIn trivial ?_⟩;refine(h E).run _ W ?_ rfl hs;have:=Vw ps (enc x) fr {tmps:=tmps,defers:=[]} [] (hf _ rfl) jI;have e:(Array.zip ps.toArray (enc x).toArray)=(ps.zip (enc x)).toArray:=by simp
 show FSat N _ {tmps:=(Array.zip ps.toArray (enc x).toArray).foldl (λt (p,v)=>t.setIfInBounds p v) tmps,defers:=[]};rw[e,List.foldl_toArray];exact this
theorem Yj(hg:ev fr g=some (.func (.func gf) #[] lb.toArray))[en:EN P gf]{C:Ac}(hit:uU P gf lb enc S Sp Need C)(NO: ∀x,(enc x).length=ps.length)(jI:ps.all (λp=>Nat.blt p N)=true)
 (I:List α->Ac->Prop)(Ix:Code->List α->Ac->Prop)(l0 G:Ac)(Cb: ∀pre l X,(∀c,c∈G->c∈X)->I pre l->Need pre (l++X))(hL:Keep L (l0++(C++G)))(h0:I [] l0)
 (M0: ∀(E:World) (r:Nat) (FU:LoopState->Option Code->Loop) (pre:List α) (x:α) (l T:Ac),(∃fn tmps D,FU=DR fn tmps ps.toArray assign body D)->(∀c,c∈G->c∈T)->I pre l->Sp (pre++[x])->
   BR P (some r) N E assign (Exit.then (PI P r body (roundPost P r (RK E (Kz I Ix (pre++[x]) r FU T)))) (λ_ _ _=>False)) (DX ps (enc x) fr) [] (l++(r,.loop (FU .ready none))::T))
 (N4: ∀(D:Nat) (xs:List α) (l:Ac),S xs->I xs l->C0 N E Q .normal fr (Hw D::ds) (Cr D::(l++G)))
 (KE: ∀(D:Nat) (c:Code) (pre:List α) (l:Ac),Sp pre->Ix c pre l->BR P none N E c Q fr (Hw D::ds) (Cr D::(l++G))):
 BR P none N E (.rangeFunc g ps.toArray assign body) Q fr ds L:=by
 refine⟨λa W hf hds hs=>wpIn_rangeFunc ?_⟩;intro fn hfn;have hs:=hL.sat hs;obtain⟨FU,hrec⟩: ∃FU,FU=DR fn a.tmps ps.toArray assign body W.heap.size:=⟨_,rfl⟩
 obtain⟨W1,ZU⟩: ∃W1,(W.alloc (.deferred (some []))).alloc (.loop (FU .ready none))=W1:=⟨_,rfl⟩
 have Sn:Sat E ((W.heap.size+1,.loop (FU .ready none))::(W.heap.size,.deferred (some []))::(l0++(C++G))) W1:=by have:=(hs.alloc (.deferred (some []))).alloc (.loop (FU .ready none));rw[World.size_alloc,ZU] at this;exact this
 have hev:=hf.agrees g _ hg;refine⟨W.heap.size+1,[Hw W.heap.size],W1,{target:= .fn (.func gf) lb.toArray,args:=#[.func (.yield (W.heap.size+1)) #[] #[]]},W1,gf,#[.func (.yield (W.heap.size+1)) #[] #[]]++lb.toArray,W1,?_,?_,λ_ _=>trivial,?_,λh=>(by cases h),?_⟩
 ·rw[<-ZU,hrec];exact run_enterLoop_outer _ _ _ _ _
 ·simp only[resolve,hev];simp[Deferred.ofValue,Act.eval]
 ·simp[invoke,en.out]
 ·have hR:=hit.run (W.heap.size+1)
   (λpre l=> ∃l1,I pre l1/\l=l1++[(W.heap.size+1,.loop (FU .ready none)),Cr W.heap.size])
   (λpre l=> ∃c l1,Ix c pre l1/\l=l1++[(W.heap.size+1,.loop (FU .done (some c))),Cr W.heap.size])
   G
   (λpre l G' hG ⟨l1,h1,h2⟩=>by rw[h2,Am];exact Cb _ _ _ (λc hc=>Aa _ (hG c hc)) h1)
   (λpre x l G' hG ⟨l1,h1,h2⟩ Dw=>by
     subst h2;have hy:=Tm (P:=P) (N:=N) (fr:=fr) (assign:=assign) (body:=body) (ps:=ps) (enc:=enc) (r:=W.heap.size+1) (fn:=fn) (tmps:=a.tmps) (D:=W.heap.size) (T:=Cr W.heap.size::G') (I:=I) (Ix:=Ix) (pre:=pre) (x:=x) (l:=l1) (NO x) jI
      (λa' ha'=>⟨by rw[ha'];exact hf.size,λd v hd=>by rw[ha'];exact hf.at_ d v hd⟩) (λE'=>by have:=M0 E' (W.heap.size+1) FU pre x l1 (Cr W.heap.size::G') ⟨fn,a.tmps,W.heap.size,hrec⟩ (λc hc=>An _ (hG c hc)) h1 Dw;rw[hrec] at this;exact this)
     rw[<-hrec] at hy;refine⟨λE' W' hs'=>?_⟩;have e:l1++[(W.heap.size+1,Obj.loop (FU .ready none)),Cr W.heap.size]++G'=l1++(W.heap.size+1,Obj.loop (FU .ready none))::Cr W.heap.size::G':=by simp
     rw[e] at hs';obtain⟨fn',tm,asg,bo,k1,k2⟩:=hy.run E' W' hs';refine⟨fn',tm,asg,bo,k1,k2.mono ?_⟩;rintro e' W'' ⟨v,l',rfl,hk,hs''⟩;refine⟨v,l',rfl,?_,hs''⟩;rcases hk with⟨hv,l2,hI,rfl⟩|⟨hv,c,l2,hI,rfl⟩
     ·exact⟨l2++[(W.heap.size+1,.loop (FU .ready none)),Cr W.heap.size],by simp,.inl ⟨hv,l2,hI,rfl⟩⟩
     ·exact⟨l2++[(W.heap.size+1,.loop (FU .done (some c))),Cr W.heap.size],by simp,.inr ⟨hv,c,l2,hI,rfl⟩⟩)
   (l0++[(W.heap.size+1,.loop (FU .ready none)),Cr W.heap.size]) G (λ_ h=>h) ⟨l0,h0,rfl⟩
  have M1:Sat E (l0++[(W.heap.size+1,Obj.loop (FU .ready none)),Cr W.heap.size]++(C++G)) W1:=Sn.perm (by refine List.Perm.trans ?_ (Ja (C++G) (Ej (l₁:=[(W.heap.size+1,Obj.loop (FU .ready none)),Cr W.heap.size]) (l₂:=l0)));simp[Cr])
  have hc:=hR.run E W1 M1;have kj:(Value.func (.yield (W.heap.size+1)) #[] #[]::lb).toArray=#[.func (.yield (W.heap.size+1)) #[] #[]]++lb.toArray:=by simp
  rw[kj] at hc;refine M6 (hc.mono ?_);rintro e W2 ⟨v,l',rfl,⟨l1,rfl,⟨xs,hS,l2,hI,rfl⟩|⟨pre,hSp,c,l2,hI,rfl⟩⟩,RA⟩
  ·have hm:W2.heap[W.heap.size+1]?=some (.loop (FU .ready none)):=RA.has (W.heap.size+1,_) (by simp);subst hrec;refine⟨none,_,run_endLoop (P:=P) hm (by simp[DR]),?_⟩;refine(N4 W.heap.size xs l2 hS hI).run {a with defers:=[Hw W.heap.size]++a.defers} _ ⟨hf.size,hf.at_⟩ (by rw[<-hds];rfl) ?_;have h4:Sat E (l2++(W.heap.size+1,Obj.loop (DR fn a.tmps ps.toArray assign body W.heap.size .ready none))::Cr W.heap.size::G) W2:=by simpa using RA
   have h5:=h4.upd (FK l2 _ _ (.loop {DR fn a.tmps ps.toArray assign body W.heap.size .ready none with state:= .exhausted}) _);refine(h5.perm AI).tail.perm AI
  ·have hm:W2.heap[W.heap.size+1]?=some (.loop (FU .done (some c))):=RA.has (W.heap.size+1,_) (by simp);subst hrec;refine⟨some c,_,run_endLoop (P:=P) hm (by simp[DR]),?_⟩;refine(KE W.heap.size c pre l2 hSp hI).run {a with defers:=[Hw W.heap.size]++a.defers} _ ⟨hf.size,hf.at_⟩ (by rw[<-hds];rfl) ?_;have h4:Sat E (l2++(W.heap.size+1,Obj.loop (DR fn a.tmps ps.toArray assign body W.heap.size .done (some c)))::Cr W.heap.size::G) W2:=by simpa using RA
   have h5:=h4.upd (FK l2 _ _ (.loop {DR fn a.tmps ps.toArray assign body W.heap.size .done (some c) with state:= .exhausted}) _);refine(h5.perm AI).tail.perm AI
theorem Dg(hg:ev fr g=some (.func (.func gf) #[] lb.toArray))[en:EN P gf](hit:FC P gf lb enc S Sp Need)(NO: ∀x,(enc x).length=ps.length)(jI:ps.all (λp=>Nat.blt p N)=true)
 (I:List α->Ac->Prop)(Ix:Code->List α->Ac->Prop)(l0 G:Ac)(Cb: ∀pre l X,(∀c,c∈G->c∈X)->I pre l->Need pre (l++X))(hL:Keep L (l0++G))(h0:I [] l0)
 (M0: ∀(E:World) (r:Nat) (FU:LoopState->Option Code->Loop) (pre:List α) (x:α) (l T:Ac),(∃fn tmps D,FU=DR fn tmps ps.toArray assign body D)->(∀c,c∈G->c∈T)->I pre l->Sp (pre++[x])->
   BR P (some r) N E assign (Exit.then (PI P r body (roundPost P r (RK E (Kz I Ix (pre++[x]) r FU T)))) (λ_ _ _=>False)) (DX ps (enc x) fr) [] (l++(r,.loop (FU .ready none))::T))
 (N4: ∀(D:Nat) (xs:List α) (l:Ac),S xs->I xs l->C0 N E Q .normal fr (Hw D::ds) (Cr D::(l++G)))
 (KE: ∀(D:Nat) (c:Code) (pre:List α) (l:Ac),Sp pre->Ix c pre l->BR P none N E c Q fr (Hw D::ds) (Cr D::(l++G))):
 BR P none N E (.rangeFunc g ps.toArray assign body) Q fr ds L:=
 Yj hg (C:=[]) ⟨λr I Ix G0 h1 h2 l G h3 h4=>hit.run r I Ix G0 h1 h2 l G h3 h4⟩ NO jI I Ix l0 G Cb hL h0 M0 N4 KE
end
abbrev BG:=Nat×Bool×Oper
variable{pl A3:List BG}{x:BG}{Fl:List (BG×Value)}
section
def StepV(P:Program)(ro:Option Nat)(ops:Array Oper)(o:Oper)(a:Act)(W:World)(K:Value->World->Prop):Prop:=
 if Region.wanted o (yielded ops a.tmps) then OpVal P ro o a.eval W K else K undef W
theorem StepV.mono{K K':Value->World->Prop}(hk: ∀v w,K v w->K' v w)(h:StepV P ro ops o a W K):StepV P ro ops o a W K':=by
 unfold StepV at*
 split
 ·rename_i hw;rw[Ad hw] at h;exact h.mono hk
 ·rename_i hw;rw[Ab hw] at h;exact hk _ _ h
theorem StepV.put{K:Value->World->Prop}{d:Option Nat}{u:Value}(hs: ∀cs b,o.op≠ .select cs b)(hd: ∀t,d=some t->t∉o.looksAt ops):StepV P ro ops o (a.put d u) W K<->StepV P ro ops o a W K:=by unfold StepV OpVal;rw[wanted_put o a d u hd,execOp_put o hs a d u hd]
theorem StepV.op{K:Value->World->Prop}{next:Act->World->Prop}(hi:ops[i]?=some o)(hd:Jh o.op=true)(h:StepV P ro ops o a W K)(hk: ∀v w,K v w->next (a.put o.dst v) w):wpOpIn (Fw ro) 0 P ops Q i next a W:=by
 unfold wpOpIn;rw[hi];unfold StepV at h;simp only
 split
 ·rename_i hw;rw[Ad hw] at h;exact h.wpIn hd hk
 ·rename_i hw;rw[Ab hw] at h;exact⟨λ_ _=>trivial,hk _ _ h⟩
def FD(tbl:List (List Nat))(j i:Nat):Bool:=((tbl[j]?).getD []).contains i
abbrev FP:=List (Nat×Ac)
abbrev Sw:=Option (List (Nat×Nat))
def Pm(sw:Sw)(i j:Nat):Bool:=match sw with
 |some L=>L.contains (i,j)
 |none=>false
def Na(P:Program)(ro:Option Nat)(E:World)(ops:Array Oper)(R:Ac)(tbl:List (List Nat))(sp:FP)(i:Nat)(o:Oper)(Φ:Act->Prop)(l:Ac)(K:Act->Value->Ac->Prop):Prop:=
 ∀a W,Φ a->Sat E l W->StepV P ro ops o a W (λv W'=> ∃l',K a v l'/\(∀c,c∈R->c∈l')/\(∀x,x∈sp->FD tbl i x.1=false-> ∀c,c∈x.2->c∈l')/\Sat E l' W')
def Nb(ops:Array Oper)(tbl:List (List Nat))(sw:Sw)(x y:BG):Bool:=
 (((x.2.1&&x.2.2.apart ops y.2.2)||FD tbl y.1 x.1)||Pm sw x.1 y.1)&&(x.2.2.after.all λe=>!Region.binds .any e||e.on !=y.1)&&x.1 !=y.1
def Tn(ops:Array Oper)(x:BG):Bool:=(x.2.2.after.all λe=>!Region.binds .any e||(e.on !=x.1&&decide (e.on<ops.size)))&&Jh x.2.2.op&&(match x.2.2.op with| .select ..=>false|_=>true)
def Gw(ops:Array Oper)(tbl:List (List Nat))(sw:Sw):List BG->Bool
 |[]=>true
 |x::r=>Tn ops x&&r.all (Nb ops tbl sw x)&&Gw ops tbl sw r
def U9(sw:Sw)(pl:List BG):Bool:=match sw with
 |some L=>L.all λp=>pl.any λx=>x.1==p.1&&!x.2.1
 |none=>true
def Pn(tbl:List (List Nat))(sw:Sw)(i:Nat)(A3:List BG)(j:Nat):Prop:=j=i\/(Pm sw i j=true/\(∀y,y∈A3->FD tbl j y.1=false)/\ ∃y,y∈A3/\y.1=j)
inductive SemPlan(P:Program)(ro:Option Nat)(E:World)(ops:Array Oper)(Q:Exit->Act->World->Prop)(R:Ac)(tbl:List (List Nat)):Sw->FP->List BG->(Act->Prop)->Ac->Prop
 |nil {sw:Sw} {sp:FP} {Φ:Act->Prop} {l:Ac}:(∀a W,Φ a->Sat E l W->Q .normal a W)->SemPlan P ro E ops Q R tbl sw sp [] Φ l
 |quiet {sw:Sw} {sp:FP} {i:Nat} {o:Oper} {A3:List BG} {Φ:Act->Prop} {l:Ac} (v:Value) (S:Ac):(∀c,c∈S->c∈l)->(∀a,Φ a-> ∀E' l' W,(∀c,c∈R->c∈l')->(∀c,c∈S->c∈l')->Sat E' l' W->StepV P ro ops o a W (λu W'=>u=v/\Sat E' l' W'))->SemPlan P ro E ops Q R tbl sw ((i,S)::sp) A3 (λa'=> ∃a,Φ a/\a'=a.put o.dst v) l->SemPlan P ro E ops Q R tbl sw sp ((i,true,o)::A3) Φ l
 |eff {sw:Sw} {sp:FP} {i:Nat} {o:Oper} {A3:List BG} {Φ:Act->Prop} {l:Ac} (oo:Nat->Oper) (K:Nat->Act->Value->Ac->Prop) (rf:Nat->List BG) (sf:Nat->Sw):
   (∀j,Pn tbl sw i A3 j->((j,false,oo j)::rf j).Perm ((i,false,o)::A3)/\((j=i/\sf j=sw/\rf j=A3)\/(Gw ops tbl (sf j) (rf j)=true/\U9 (sf j) (rf j)=true)))->
   (∀j,Pn tbl sw i A3 j->Na P ro E ops R tbl sp j (oo j) Φ l (K j))->
   (∀j,Pn tbl sw i A3 j-> ∀a v l',K j a v l'->SemPlan P ro E ops Q R tbl (sf j) sp (rf j) (λa'=>a'=a.put (oo j).dst v) l')->SemPlan P ro E ops Q R tbl sw sp ((i,false,o)::A3) Φ l
def putAll:List (BG×Value)->Act->Act
 |[],a=>a
 |(p,v)::r,a=>putAll r (a.put p.2.2.dst v)
theorem J4(x y:List (BG×Value))(a:Act):putAll (x++y) a=putAll y (putAll x a):=by
 induction x generalizing a with
 |nil=>rfl
 |cons p x ih=>exact ih _
theorem To{x:List (BG×Value)}{d:Option Nat}(h: ∀p,p∈x-> ∀t,d=some t->p.1.2.2.dst≠some t):putAll x (a.put d v)=(putAll x a).put d v:=by
 induction x generalizing a with
 |nil=>rfl
 |cons p x ih=>obtain⟨p,u⟩:=p;simp only[putAll];rw[Act.put_comm a v u (λt ht=>h _ Ak t ht)];exact ih λq hq=>h q (An _ hq)
theorem StepV.putAll{o:Oper}{W:World}{K:Value->World->Prop}(hs: ∀cs b,o.op≠ .select cs b): ∀{x:List (BG×Value)} {a:Act},(∀p,p∈x-> ∀t,p.1.2.2.dst=some t->t∉o.looksAt ops)->(StepV P ro ops o (putAll x a) W K<->StepV P ro ops o a W K)
 |[],a,_=>DG
 |(p,v)::x,a,h=>by simp only[Go.Proofs.YtlifcingifodfaaGreat.putAll];rw[StepV.putAll hs (λq hq=>h q (An _ hq)),StepV.put hs (λt ht=>h _ Ak t ht)]
def Tp(ops:Array Oper)(tbl:List (List Nat)):Bool:=
 (List.range ops.size).all λj=>((tbl[j]?).getD []).all λi=>match ops[j]? with
   |some o=>o.after.any λe=>Region.binds .any e&&(e.on==i||(decide (e.on<j)&&FD tbl e.on i))
   |none=>false
def q8(ops:Array Oper)(C3:Array Bool):Prop:= ∀j o,ops[j]?=some o->C3.getD j false=true-> ∀e∈o.after,Region.binds .any e=true->C3.getD e.on false=true
theorem ay(ht:Tp ops tbl=true)(hd:q8 ops C3): ∀(n j:Nat) (o:Oper),j<=n->ops[j]?=some o->(∀e∈o.after,Region.binds .any e=true->C3.getD e.on false=true)-> ∀i,FD tbl j i=true->C3.getD i false=true:=by
 intro n
 induction n with
 |zero=>
  intro j o hj ho GD i hi;obtain rfl:j=0:=by omega
  have C9:0<ops.size:=(BH.1 ho).1;have h1:=A5.1 ht 0 (by simpa using C9);have h2:=A5.1 h1 i (by simpa[FD] using hi);rw[ho] at h2;simp only[Array.any_eq_true,AV,Es,JL,Bk] at h2;obtain⟨k,hk,hb,he|⟨Adw,_⟩⟩:=h2
  ·rw[<-he];exact GD _ (LM hk) hb
  ·omega
 |succ n ih=>
  intro j o hj ho GD i hi;have C9:j<ops.size:=(BH.1 ho).1;have h1:=A5.1 ht j (by simpa using C9);have h2:=A5.1 h1 i (by simpa[FD] using hi);rw[ho] at h2;simp only[Array.any_eq_true,AV,Es,JL,Bk] at h2;obtain⟨k,hk,hb,he|⟨Adw,ha⟩⟩:=h2
  ·rw[<-he];exact GD _ (LM hk) hb
  ·have hl:=GD _ (LM hk) hb;have hs:o.after[k].on<ops.size:=by omega
   exact ih _ _ Af (CP hs) (hd _ _ (CP hs) hl) i ha
theorem GL(h:Tn ops x=true):(∀e∈x.2.2.after,Region.binds .any e=true->e.on≠x.1/\e.on<ops.size)/\Jh x.2.2.op=true/\ ∀cs b,x.2.2.op≠ .select cs b:=by unfold Tn at h;simp only[AV] at h;obtain⟨⟨h1,h2⟩,h3⟩:=h;refine⟨λe he hb=>?_,h2,λcs b hc=>by rw[hc] at h3;cases h3⟩;obtain⟨k,hk,rfl⟩:=Array.getElem_of_mem he;have:=Array.all_eq_true.1 h1 k hk;rw[hb] at this;simpa using this
theorem Fq{sw:Sw}{y:BG}(h:Nb ops tbl sw x y=true):((x.2.1=true/\x.2.2.apart ops y.2.2=true)\/FD tbl y.1 x.1=true\/Pm sw x.1 y.1=true)/\(∀e∈x.2.2.after,Region.binds .any e=true->e.on≠y.1)/\x.1≠y.1:=by unfold Nb at h;simp only[AV,Es,PF,ne_eq] at h;obtain⟨⟨h1,h2⟩,h3⟩:=h;refine⟨by rcases h1 with(h1|h1)|h1;exact .inl h1;exact .inr (.inl h1);exact .inr (.inr h1),λe he hb=>?_,h3⟩;obtain⟨k,hk,rfl⟩:=Array.getElem_of_mem he;have:=Array.all_eq_true.1 h2 k hk;rw[hb] at this;simpa using this
theorem Nc{tbl:List (List Nat)}{sw:Sw}: ∀{l:List BG},Gw ops tbl sw l=true->(∀x,x∈l->Tn ops x=true)/\l.Pairwise (λx y=>Nb ops tbl sw x y=true)
 |[],_=>⟨by simp,.nil⟩
 |x::r,h=>by simp only[Gw,AV] at h;obtain⟨⟨h1,h2⟩,h3⟩:=h;obtain⟨k1,k2⟩:=Nc h3;exact⟨λy hy=>by rcases At.1 hy with rfl|hy;exact h1;exact k1 y hy,Cf.2 ⟨λy hy=>A5.1 h2 y hy,k2⟩⟩
structure Way(P:Program)(ro:Option Nat)(E:World)(ops:Array Oper)(Q:Exit->Act->World->Prop)(R:Ac)(tbl:List (List Nat))(sw:Sw)(sp:FP)(C3:Array Bool)(Fl:List (BG×Value))(A3:List BG)(Φ:Act->Prop)(l:Ac)(a:Act)(W:World):Prop where
 phi:Φ (putAll Fl a)
 sub: ∀c,c∈R->c∈l
 sat:Sat E l W
 plan:SemPlan P ro E ops Q R tbl sw sp A3 Φ l
 quiet: ∀p1 x v p2,Fl=p1++(x,v)::p2->x.2.1=true/\ ∃S,(x.1,S)∈sp/\(∀c,c∈S->c∈l)/\ ∀E' l' W,(∀c,c∈R->c∈l')->(∀c,c∈S->c∈l')->Sat E' l' W->StepV P ro ops x.2.2 (putAll p1 a) W (λu W'=>u=v/\Sat E' l' W')
 size:C3.size=ops.size
 un: ∀i,i<ops.size->(C3.getD i true=false<-> ∃x,x∈Fl.map Prod.fst++A3/\x.1=i)
 num: ∀x,x∈Fl.map Prod.fst++A3->ops[x.1]?=some x.2.2
 self: ∀x,x∈Fl.map Prod.fst++A3->Tn ops x=true
 pairs:(Fl.map Prod.fst++A3).Pairwise (λx y=>Nb ops tbl sw x y=true)
 swf: ∀x,x∈Fl.map Prod.fst++A3-> ∀j,Pm sw x.1 j=true->x.2.1=false
 down:q8 ops C3
theorem dK(h:i<C3.size):C3.getD i true=C3.getD i false:=by simp[Do,CP h]
theorem Way.notAnc{sw:Sw}{sp:FP}{l:Ac}(h:Way P ro E ops Q R tbl sw sp C3 Fl A3 Φ l a W)(ht:Tp ops tbl=true)(hr:j∈Region.ready .any ops C3)(hx:x∈Fl.map Prod.fst++A3):FD tbl j x.1=false:=by
 obtain⟨h0,o,ho,GD⟩:=mem_ready.1 hr;cases hc:FD tbl j x.1
 ·rfl
 ·have h1:=ay ht h.down j j o (Bf _) ho GD x.1 hc;have C9:x.1<ops.size:=(BH.1 (h.num x hx)).1;have h2:=(h.un x.1 C9).2 ⟨x,hx,rfl⟩;rw[dK (by rw[h.size];exact C9),h1] at h2;cases h2
theorem Va(h:j<C3.size)(d:Bool):(C3.setIfInBounds j true).getD j d=true:=by simp[Do,h]
theorem Way.down'{tbl:List (List Nat)}(hd:q8 ops C3)(US:C3.size=ops.size)(hr:j∈Region.ready .any ops C3):q8 ops (C3.setIfInBounds j true):=by
 obtain⟨h0,o,ho,GD⟩:=mem_ready.1 hr;intro i oi hi hl e he hb;by_cases e1:i=j
 ·subst e1;rw[ho] at hi;cases hi;exact getD_set_true (GD e he hb)
 ·rw[getD_set_ne _ (FJ e1)] at hl;exact getD_set_true (hd i oi hi hl e he hb)
theorem Yk{p q:List BG}(US:C3.size=ops.size)(hx:x.1<ops.size)(He: ∀y,y∈p++q->y.1≠x.1)(h: ∀i,i<ops.size->(C3.getD i true=false<-> ∃y,y∈p++x::q/\y.1=i)):
 ∀i,i<ops.size->((C3.setIfInBounds x.1 true).getD i true=false<-> ∃y,y∈p++q/\y.1=i):=by
 intro i hi;by_cases e:i=x.1
 ·subst e;rw[Va (by rw[US];exact hx)];constructor
  ·intro h0;cases h0
  ·rintro⟨y,hy,hyi⟩;exact absurd hyi (He y hy)
 ·rw[getD_set_ne _ (FJ e),h i hi];constructor
  ·rintro⟨y,hy,rfl⟩;refine⟨y,?_,rfl⟩;rcases AF.1 hy with hy|hy
   ·exact Ai _ hy
   ·rcases At.1 hy with rfl|hy
    ·exact absurd rfl e
    ·exact Aa _ hy
  ·rintro⟨y,hy,rfl⟩;refine⟨y,?_,rfl⟩;rcases AF.1 hy with hy|hy
   ·exact Ai _ hy
   ·exact Aa _ (An _ hy)
theorem Way.pend_step{sw:Sw}{sp:FP}{p1 p2:List (BG×Value)}{l:Ac}(ht:Tp ops tbl=true)(h:Way P ro E ops Q R tbl sw sp C3 (p1++(x,v)::p2) A3 Φ l a W)(hr:x.1∈Region.ready .any ops C3):
 StepV P ro ops x.2.2 a W (λu W'=>Way P ro E ops Q R tbl sw sp (C3.setIfInBounds x.1 true) (p1++p2) A3 Φ l (a.put x.2.2.dst u) W'):=by
 have Z8:x∈(p1++(x,v)::p2).map Prod.fst++A3:=by simp
 have jJ: ∀q,q∈p1->q.1.2.2.apart ops x.2.2=true:=by
  intro q hq;have hp:=h.pairs;simp only[Aq,AJ,Am,Ae] at hp;have:=(Br.1 hp).2.2 q.1 (Av.2 ⟨q,hq,rfl⟩) x Ak;rcases(Fq this).1 with⟨_,h1⟩|h1|h1
  ·exact h1
  ·have:=h.notAnc ht hr (x:=q.1) (Ai _ (Av.2 ⟨q,by simp[hq],rfl⟩));rw[this] at h1;cases h1
  ·obtain⟨q1,q2,rfl⟩:=GN hq;have hqt:=(h.quiet q1 q.1 q.2 (q2++(x,v)::p2) (by simp)).1;have v7:=h.swf q.1 (Ai _ (Av.2 ⟨q,by simp,rfl⟩)) _ h1;rw[hqt] at v7;cases v7
 have R6:=(GL (h.self x Z8)).2.2;obtain⟨hxt,S,hSp,v8,hq⟩:=h.quiet p1 x v p2 rfl;have h1:=hq E l W h.sub v8 h.sat;rw[StepV.putAll R6 (λq Q7 t ht'=>(Oper.apart_spec (jJ q Q7)).1 t ht')] at h1;refine h1.mono ?_;rintro u W' ⟨rfl,hs'⟩;have S9: ∀q1:List (BG×Value),(∀q,q∈q1->q∈p1)->putAll q1 (a.put x.2.2.dst u)=(putAll q1 a).put x.2.2.dst u:=λq1 hq1=>To λq Q7 t ht' hc=>(Oper.apart_spec (jJ q (hq1 q Q7))).2.1 t hc ht';have C9:x.1<ops.size:=(BH.1 (h.num x Z8)).1;have CG:((p1++p2).map Prod.fst++A3).Sublist ((p1++(x,u)::p2).map Prod.fst++A3):=by simp only[Aq,AJ];exact KC (KC (EO _) (D9 _ _)) (EO _)
 refine⟨?_,h.sub,hs',h.plan,?_,by simpa using h.size,?_,λy hy=>h.num y (CG.subset hy),λy hy=>h.self y (CG.subset hy),h.pairs.sublist CG,λy hy=>h.swf y (CG.subset hy),Way.down' (tbl:=tbl) h.down h.size hr⟩
 ·have:=h.phi;rw[J4] at this⊢;rw[S9 p1 λ_ hq=>hq];exact this
 ·intro q1 y w q2 Dw;rcases List.append_eq_append_iff.1 Dw with⟨m,e1,e2⟩|⟨m,e1,e2⟩
  ·
   subst e1;have Z9:p1++(x,u)::p2=(p1++(x,u)::m)++(y,w)::q2:=by simp[e2]
   obtain⟨k1,k2⟩:=h.quiet _ y w q2 Z9;refine⟨k1,?_⟩;rw[J4] at k2⊢;rw[S9 p1 λ_ hq=>hq];exact k2
  ·cases m with
   |nil=>
    simp only[Bj,Ag] at e1 e2;subst e1;have Z9:p1++(x,u)::p2=(p1++[(x,u)])++(y,w)::q2:=by simp[e2]
    obtain⟨k1,k2⟩:=h.quiet _ y w q2 Z9;refine⟨k1,?_⟩;rw[J4] at k2;rw[S9 p1 λ_ hq=>hq];exact k2
   |cons z m=>
    simp only[Ae,Co] at e2;obtain⟨e3,e4⟩:=e2;subst e3;have Z9:p1++(x,u)::p2=q1++(y,w)::(m++(x,u)::p2):=by rw[e1];simp
    obtain⟨k1,S2,k3,k4,k2⟩:=h.quiet _ y w _ Z9;refine⟨k1,S2,k3,k4,λE' l' W2 hR hS2 M1=>?_⟩;rw[S9 q1 (λq hq=>by rw[e1];exact Ai _ hq)];have hym:y∈(p1++(x,u)::p2).map Prod.fst++A3:=by rw[e1];simp
    rw[StepV.put (GL (h.self y hym)).2.2 (λt ht'=>(Oper.apart_spec (jJ (y,w) (by rw[e1];simp))).2.2 t ht')];exact k2 E' l' W2 hR hS2 M1
 ·have He: ∀y,y∈p1.map Prod.fst++(p2.map Prod.fst++A3)->y.1≠x.1:=by
   intro y hy;have hp:=h.pairs;simp only[Aq,AJ,Am,Ae] at hp;rcases AF.1 hy with hy|hy
   ·exact(Fq ((Br.1 hp).2.2 y hy x Ak)).2.2
   ·exact λe=>(Fq ((Cf.1 (Br.1 hp).2.1).1 y hy)).2.2 e.symm
  have:=Yk (p:=p1.map Prod.fst) (q:=p2.map Prod.fst++A3) h.size C9 He (by simpa using h.un);simpa using this
theorem Way.pass{sw:Sw}{sp:FP}{l:Ac}(h:Way P ro E ops Q R tbl sw sp C3 Fl ((i,true,o)::A3) Φ l a W):
 ∃v Φ' Id,Way P ro E ops Q R tbl sw Id C3 (Fl++[((i,true,o),v)]) A3 Φ' l a W:=by
 obtain⟨v,S,v8,hv,hp⟩: ∃v S,(∀c,c∈S->c∈l)/\(∀a,Φ a-> ∀E' l' W,(∀c,c∈R->c∈l')->(∀c,c∈S->c∈l')->Sat E' l' W->StepV P ro ops o a W (λu W'=>u=v/\Sat E' l' W'))/\SemPlan P ro E ops Q R tbl sw ((i,S)::sp) A3 (λa'=> ∃a,Φ a/\a'=a.put o.dst v) l:=by
  cases h.plan with
  |quiet v S h1 h2 h3=>exact⟨v,S,h1,h2,h3⟩
 have e:(Fl++[((i,true,o),v)]).map Prod.fst++A3=Fl.map Prod.fst++(i,true,o)::A3:=by simp
 refine⟨v,_,_,⟨_,h.phi,by rw[J4];rfl⟩,h.sub,h.sat,hp,?_,h.size,by rw[e];exact h.un,by rw[e];exact h.num,by rw[e];exact h.self,by rw[e];exact h.pairs,by rw[e];exact h.swf,h.down⟩
 ·intro p1 x u p2 Dw;rcases List.append_eq_append_iff.1 Dw with⟨m,e1,e2⟩|⟨m,e1,e2⟩
  ·cases m with
   |nil=>simp only[Ag,Co,Bj] at e1 e2;obtain⟨e3,_⟩:=e2;cases e3;subst e1;exact⟨rfl,S,Ak,v8,hv _ h.phi⟩
   |cons z m=>simp at e2
  ·cases m with
   |nil=>simp only[Ag,Co,Bj] at e1 e2;obtain⟨e3,_⟩:=e2;cases e3;subst e1;exact⟨rfl,S,Ak,v8,hv _ h.phi⟩
   |cons z m=>simp only[Ae,Co] at e2;obtain⟨e3,e4⟩:=e2;subst e3;obtain⟨q1,S2,q2,q3,q4⟩:=h.quiet p1 x u m e1;exact⟨q1,S2,An _ q2,q3,q4⟩
theorem Vx{sw zz:Sw}{y:BG}(h:Nb ops tbl sw x y=true)(hn:Pm sw x.1 y.1=false):Nb ops tbl zz x y=true:=by
 unfold Nb at h⊢;simp only[AV,Es] at h⊢;obtain⟨⟨h1,h2⟩,h3⟩:=h;refine⟨⟨.inl ?_,h2⟩,h3⟩;rcases h1 with h1|h1
 ·exact h1
 ·rw[hn] at h1;cases h1
theorem Vy{sw:Sw}(h:U9 sw pl=true)(hs:Pm sw i j=true): ∃x,x∈pl/\x.1=i/\x.2.1=false:=by
 cases sw with
 |none=>cases hs
 |some L=>simp only[Pm,JE] at hs;have h1:=A5.1 h _ hs;obtain⟨x,hx,h2⟩:=HP.1 h1;simp only[AV,JL,DU] at h2;exact⟨x,hx,h2.1,h2.2⟩
theorem WI: ∀(l:List BG),(l.map (λx:BG=>x.1)).Nodup-> ∀{x y:BG},x∈l->y∈l->x.1=y.1->x=y
 |[],_,_,_,hx,_,_=>by cases hx
 |z::l,h,x,y,hx,hy,e=>by
  rw[AJ,AP] at h;rcases At.1 hx with h1|h1<;>rcases At.1 hy with h2|h2
  ·rw[h1,h2]
  ·exact(h.1 (Av.2 ⟨y,h2,by rw[<-e,h1]⟩)).elim
  ·exact(h.1 (Av.2 ⟨x,h1,by rw[e,h2]⟩)).elim
  ·exact WI l h.2 h1 h2 e
theorem Way.eff_step{sw:Sw}{sp:FP}{l:Ac}(ht:Tp ops tbl=true)(h:Way P ro E ops Q R tbl sw sp C3 Fl ((i,false,o)::A3) Φ l a W)(hr:j∈Region.ready .any ops C3)(hj: ∃x,x∈(i,false,o)::A3/\x.1=j):
 ∃oj,ops[j]?=some oj/\Jh oj.op=true/\StepV P ro ops oj a W (λu W'=> ∃zz rest' Φ' l',Way P ro E ops Q R tbl zz sp (C3.setIfInBounds j true) Fl rest' Φ' l' (a.put oj.dst u) W'/\rest'.length=A3.length):=by
 have Vq:Pn tbl sw i A3 j:=by
  obtain⟨x,hx,hxj⟩:=hj;rcases At.1 hx with rfl|hx
  ·exact .inl hxj.symm
  ·by_cases Wt:j=i
   ·exact .inl Wt
   refine .inr ⟨?_,λy hy=>h.notAnc ht hr (x:=y) (by simp[hy]),x,hx,hxj⟩;have hp:=(Cf.1 (Br.1 h.pairs).2.1).1 x hx;rcases(Fq hp).1 with⟨h1,_⟩|h1|h1
   ·cases h1
   ·have:=h.notAnc ht hr (x:=(i,false,o)) (by simp);simp only[hxj] at h1;rw[this] at h1;cases h1
   ·rw[hxj] at h1;exact h1
 obtain⟨oj,Kj,rj,gi,hperm,Dm,K3,XI⟩: ∃(oj:Oper) (Kj:Act->Value->Ac->Prop) (rj:List BG) (gi:Sw),((j,false,oj)::rj).Perm ((i,false,o)::A3)/\((j=i/\gi=sw/\rj=A3)\/(Gw ops tbl gi rj=true/\U9 gi rj=true))/\Na P ro E ops R tbl sp j oj Φ l Kj/\ ∀a v l',Kj a v l'->SemPlan P ro E ops Q R tbl gi sp rj (λa'=>a'=a.put oj.dst v) l':=by
  cases h.plan with
  |eff oo K rf sf h1 h2 h3=>exact⟨oo j,K j,rf j,sf j,(h1 j Vq).1,(h1 j Vq).2,h2 j Vq,h3 j Vq⟩
 have N5: ∀x,x∈Fl.map Prod.fst++(j,false,oj)::rj<->x∈Fl.map Prod.fst++(i,false,o)::A3:=λx=>by rw[AF,AF,hperm.mem_iff]
 have Z8:(j,false,oj)∈Fl.map Prod.fst++(i,false,o)::A3:=(N5 _).1 (by simp);have uf: ∀x,x∈Fl.map Prod.fst++rj->x∈Fl.map Prod.fst++(i,false,o)::A3:=λx hx=>(N5 x).1 (by
  rcases AF.1 hx with hx|hx
  ·exact Ai _ hx
  ·exact Aa _ (An _ hx))
 have hq: ∀q,q∈Fl->q.1.2.1=true:=λq hq=>by obtain⟨q1,q2,rfl⟩:=GN hq;exact(h.quiet q1 q.1 q.2 q2 rfl).1
 have OW: ∀q,q∈Fl-> ∀y,Pm sw q.1.1 y=false:=λq Q7 y=>by
  cases hc:Pm sw q.1.1 y with
  |false=>rfl
  |true=>have:=h.swf q.1 (Ai _ (Av.2 ⟨q,Q7,rfl⟩)) _ hc;rw[hq q Q7] at this;cases this
 have Wu: ∀q,q∈Fl-> ∀y,y∈(i,false,o)::A3->Nb ops tbl sw q.1 y=true:=λq Q7 y hy=>(Br.1 h.pairs).2.2 q.1 (Av.2 ⟨q,Q7,rfl⟩) y hy;have hjr:(j,false,oj)∈(i,false,o)::A3:=hperm.mem_iff.1 (by simp);have qo: ∀q,q∈Fl->FD tbl j q.1.1=false:=λq hq=>h.notAnc ht hr (x:=q.1) (Ai _ (Av.2 ⟨q,hq,rfl⟩));have jJ: ∀q,q∈Fl->q.1.2.2.apart ops oj=true:=by
  intro q Q7;rcases(Fq (Wu q Q7 _ hjr)).1 with⟨_,h1⟩|h1|h1
  ·exact h1
  ·simp only at h1;rw[qo q Q7] at h1;cases h1
  ·rw[OW q Q7] at h1;cases h1
 have R6:=(GL (h.self _ Z8)).2.2;refine⟨oj,h.num _ Z8,(GL (h.self _ Z8)).2.1,?_⟩;have h1:=K3 _ W h.phi h.sat;rw[StepV.putAll R6 (λq Q7 t ht'=>(Oper.apart_spec (jJ q Q7)).1 t ht')] at h1;refine h1.mono ?_;rintro u W' ⟨l',hk,hR',Z9,hs'⟩;have km:=XI _ _ _ hk;have S9: ∀q1:List (BG×Value),(∀q,q∈q1->q∈Fl)->putAll q1 (a.put oj.dst u)=(putAll q1 a).put oj.dst u:=λq1 hq1=>To λq Q7 t ht' hc=>(Oper.apart_spec (jJ q (hq1 q Q7))).2.1 t hc ht';have C9:j<ops.size:=(BH.1 (h.num _ Z8)).1;have Le:(((i,false,o)::A3).map (λx:BG=>x.1)).Nodup:=by rw[D3,Cx];exact(Br.1 h.pairs).2.1.imp λhp=>(Fq hp).2.2
 have Adz: ∀y,y∈rj->y.1≠j:=by rw[<-(hperm.map (λx:BG=>x.1)).nodup_iff,AJ,AP] at Le;exact λy hy e=>Le.1 (Av.2 ⟨y,hy,e⟩)
 have Eh:rj.length=A3.length:=by have:=hperm.length_eq;simpa using this
 refine⟨gi,rj,_,l',⟨?_,hR',hs',km,?_,by simpa using h.size,?_,λy hy=>h.num y (uf y hy),λy hy=>h.self y (uf y hy),?_,λy hy k hk=>?_,Way.down' (tbl:=tbl) h.down h.size hr⟩,Eh⟩
 ·exact S9 Fl λ_ hq=>hq
 ·intro q1 y w q2 Dw;obtain⟨k1,S2,k3,k4,k2⟩:=h.quiet q1 y w q2 Dw;refine⟨k1,S2,k3,Z9 _ k3 (qo (y,w) (by rw[Dw];simp)),λE' l2 W2 hR hS2 M1=>?_⟩;rw[S9 q1 (λq hq=>by rw[Dw];exact Ai _ hq)];have hym:y∈Fl.map Prod.fst++(i,false,o)::A3:=by rw[Dw];simp
  rw[StepV.put (GL (h.self y hym)).2.2 (λt ht'=>(Oper.apart_spec (jJ (y,w) (by rw[Dw];simp))).2.2 t ht')];exact k2 E' l2 W2 hR hS2 M1
 ·have He: ∀y,y∈Fl.map Prod.fst++rj->y.1≠j:=by
   intro y hy;rcases AF.1 hy with hy|hy
   ·obtain⟨q,Q7,rfl⟩:=Av.1 hy;exact(Fq (Wu q Q7 _ hjr)).2.2
   ·exact Adz y hy
  refine Yk (x:=(j,false,oj)) h.size C9 He λk hk=>?_;rw[h.un k hk];exact⟨λ⟨x,hx,e⟩=>⟨x,(N5 x).2 hx,e⟩,λ⟨x,hx,e⟩=>⟨x,(N5 x).1 hx,e⟩⟩
 ·obtain⟨p1,p2,p3⟩:=Br.1 h.pairs;rcases Dm with⟨_,rfl,rfl⟩|⟨Dm,_⟩
  ·exact h.pairs.sublist (KC (EO _) (D9 _ _))
  ·refine Br.2 ⟨?_,(Nc Dm).2,λx hx y hy=>?_⟩
   ·refine List.Pairwise.imp_of_mem (λ{x y} hx hy UT=>?_) p1;obtain⟨q,Q7,rfl⟩:=Av.1 hx;exact Vx UT (OW q Q7 _)
   ·obtain⟨q,Q7,rfl⟩:=Av.1 hx;exact Vx (Wu q Q7 y (hperm.mem_iff.1 (An _ hy))) (OW q Q7 _)
 ·rcases Dm with⟨_,rfl,rfl⟩|⟨_,M2⟩
  ·exact h.swf y (by
    rcases AF.1 hy with hy|hy
    ·exact Ai _ hy
    ·exact Aa _ (An _ hy)) k hk
  ·obtain⟨x,hx,e1,e2⟩:=Vy M2 hk;rcases AF.1 hy with hy|hy
   ·exfalso;obtain⟨q,Q7,rfl⟩:=Av.1 hy;exact(Fq (Wu q Q7 x (hperm.mem_iff.1 (An _ hx)))).2.2 e1.symm
   ·have kh:(rj.map (λx:BG=>x.1)).Nodup:=by
     rw[<-(hperm.map (λx:BG=>x.1)).nodup_iff,AJ,AP] at Le;exact Le.2
    rw[<-WI rj kh hx hy e1];exact e2
theorem Way.reach{tbl:List (List Nat)}{sw:Sw}{C3:Array Bool}{l:Ac}{a:Act}{W:World}{j:Nat}(ht:Tp ops tbl=true)(hr:j∈Region.ready .any ops C3): ∀(A3:List BG) (sp:FP) (Fl:List (BG×Value)) (Φ:Act->Prop),Way P ro E ops Q R tbl sw sp C3 Fl A3 Φ l a W->(∃x,x∈A3/\x.1=j)->
 ∃(o:Oper) (next:Value->World->Prop),ops[j]?=some o/\Jh o.op=true/\StepV P ro ops o a W (λu W'=>next u W')/\ ∀u W',next u W'-> ∃zz Id pend' rest' Φ' l',Way P ro E ops Q R tbl zz Id (C3.setIfInBounds j true) pend' rest' Φ' l' (a.put o.dst u) W'/\pend'.length+rest'.length+1=Fl.length+A3.length
 |[],_,_,_,_,⟨x,hx,_⟩=>by cases hx
 |(i,true,o)::A3,sp,Fl,Φ,h,⟨x,hx,hxj⟩=>by
  have him:(i,true,o)∈Fl.map Prod.fst++(i,true,o)::A3:=by simp
  obtain⟨v,Φ',Id,h'⟩:=h.pass;by_cases Wt:i=j
  ·subst Wt;refine⟨o,_,h.num _ him,(GL (h.self _ him)).2.1,Way.pend_step (p1:=Fl) (p2:=[]) (x:=(i,true,o)) ht h' hr,λu W' hw=>⟨_,_,_,_,_,_,hw,by simp;omega⟩⟩
  ·have hxr:x∈A3:=by
    rcases At.1 hx with rfl|hx
    ·exact absurd hxj Wt
    ·exact hx
   obtain⟨o',next,k1,k2,k3,k4⟩:=Way.reach ht hr A3 _ _ Φ' h' ⟨x,hxr,hxj⟩;refine⟨o',next,k1,k2,k3,λu W' hw=>?_⟩;obtain⟨sw2,R7,p',r',Φ2,l2,ko,Eh⟩:=k4 u W' hw;exact⟨sw2,R7,p',r',Φ2,l2,ko,by simp at Eh⊢;omega⟩
 |(i,false,o)::A3,sp,Fl,Φ,h,hx=>by obtain⟨oj,k1,k2,k3⟩:=h.eff_step ht hr hx;exact⟨oj,_,k1,k2,k3,λu W' ⟨zz,rest',Φ',l',hw,hl⟩=>⟨_,_,_,_,_,_,hw,by simp;omega⟩⟩
theorem Way.fin{sw:Sw}{sp:FP}{l:Ac}(h:Way P ro E ops Q R tbl sw sp C3 Fl A3 Φ l a W)(h0:Region.ready .any ops C3=[]):Q .normal a W:=by
 have we:Fl=[]/\A3=[]:=by
  have key:Fl.map Prod.fst++A3=[]:=by
   cases hpr:Fl.map Prod.fst++A3 with
   |nil=>rfl
   |cons x r=>
    exfalso;have Z8:x∈Fl.map Prod.fst++A3:=by rw[hpr];exact Ak
    have C9:x.1<ops.size:=(BH.1 (h.num x Z8)).1;have N5:x.1∈Region.ready .any ops C3:=by
     refine mem_ready.2 ⟨(h.un x.1 C9).2 ⟨x,Z8,rfl⟩,x.2.2,h.num x Z8,λe he hb=>?_⟩;obtain⟨h1,h2⟩:=(GL (h.self x Z8)).1 e he hb;cases hg:C3.getD e.on false
     ·exfalso;obtain⟨y,hy,hye⟩:=(h.un e.on h2).1 (by rw[dK (by rw[h.size];exact h2)];exact hg);have hp:=h.pairs;rw[hpr] at hp hy;rcases At.1 hy with rfl|hy
      ·exact h1 hye.symm
      ·exact(Fq ((Cf.1 hp).1 y hy)).2.1 e he hb hye.symm
     ·rfl
    rw[h0] at N5;cases N5
  have h1:=List.append_eq_nil_iff.1 key;exact⟨List.map_eq_nil_iff.1 h1.1,h1.2⟩
 obtain⟨rfl,rfl⟩:=we;cases h.plan with
 |nil h2=>exact h2 a W h.phi h.sat
theorem Way.any{tbl:List (List Nat)}(ht:Tp ops tbl=true): ∀(XT:Nat) (sw:Sw) (sp:FP) (C3:Array Bool) (Fl:List (BG×Value)) (A3:List BG) (Φ:Act->Prop) (l:Ac) (a:Act) (W:World),Way P ro E ops Q R tbl sw sp C3 Fl A3 Φ l a W->Fl.length+A3.length<=XT->wpAnyIn (Fw ro) 0 P .any ops Q XT C3 a W:=by
 intro XT
 induction XT with
 |zero=>
  intro sw sp C3 Fl A3 Φ l a W h hl;have hp:Fl=[]:=Gz.1 Af;have hr:A3=[]:=Gz.1 Af;subst hp hr;have h0:Region.ready .any ops C3=[]:=by
   cases qp:Region.ready .any ops C3 with
   |nil=>rfl
   |cons j r=>
    exfalso;have hj:j∈Region.ready .any ops C3:=by rw[qp];exact Ak
    obtain⟨h1,o,ho,_⟩:=mem_ready.1 hj;obtain⟨x,hx,_⟩:=(h.un j (BH.1 ho).1).1 h1;simp at hx
  exact⟨h0,h.fin h0⟩
 |succ XT ih=>
  intro sw sp C3 Fl A3 Φ l a W h hl;refine⟨λh0=>h.fin h0,λj hj=>?_⟩;obtain⟨h1,o,ho,GD⟩:=mem_ready.1 hj;obtain⟨x,hx,hxj⟩:=(h.un j (BH.1 ho).1).1 h1;rcases AF.1 hx with ug|hxr
  ·obtain⟨⟨x',v⟩,hm,rfl⟩:=Av.1 ug;obtain⟨p1,p2,rfl⟩:=GN hm;simp only at hxj hx;subst hxj;refine StepV.op (h.num x' hx) (GL (h.self x' hx)).2.1 (h.pend_step ht hj) λu W' hw=>ih _ _ _ _ _ _ _ _ _ hw (by simp at hl⊢;omega)
  ·obtain⟨o',next,k1,k2,k3,k4⟩:=Way.reach ht hj A3 _ Fl Φ h ⟨x,hxr,hxj⟩;refine StepV.op k1 k2 k3 λu W' hw=>?_;obtain⟨sw2,R7,p',r',Φ2,l2,ko,Eh⟩:=k4 u W' hw;exact ih _ _ _ _ _ _ _ _ _ ko Af
theorem Yl{fr:Fr}{d:Nat}(hf:FSat N fr a)(hj:ops[j]?=some oj)(hd:oj.dst=some d)(hb:BZ fr d=some undef):yielded ops a.tmps j=none:=by have:=hf.at_ d _ hb;simp[yielded,hj,hd,this,undef]
inductive PlanS(P:Program)(ro:Option Nat)(N:Nat)(E:World)(ops:Array Oper)(Q:Exit->Act->World->Prop)(R:Ac)(tbl:List (List Nat)):Sw->FP->List BG->Fr->List Deferred->Ac->Prop
 |nil {sw:Sw} {sp:FP} {fr:Fr} {ds:List Deferred} {l:Ac}:C0 N E Q .normal fr ds l->PlanS P ro N E ops Q R tbl sw sp [] fr ds l
 |q {sw:Sw} {sp:FP} {i:Nat} {o:Oper} {v:Value} {A3:List BG} {fr:Fr} {ds:List Deferred} {l:Ac}:OpQ P ro N fr R o v->o.guard=none->Kb N o.dst=true->PlanS P ro N E ops Q R tbl sw sp A3 (Iq o.dst v fr) ds l->PlanS P ro N E ops Q R tbl sw sp ((i,true,o)::A3) fr ds l
 |gq {sw:Sw} {sp:FP} {i j dj:Nat} {o oj:Oper} {b:Bool} {v:Value} {A3:List BG} {fr:Fr} {ds:List Deferred} {l:Ac}:OpQ P ro N fr R o v->o.guard=some (j,b)->ops[j]?=some oj->oj.dst=some dj->BZ fr dj=some (.bool b)->Kb N o.dst=true->PlanS P ro N E ops Q R tbl sw sp A3 (Iq o.dst v fr) ds l->PlanS P ro N E ops Q R tbl sw sp ((i,true,o)::A3) fr ds l
 |gs {sw:Sw} {sp:FP} {i j dj:Nat} {o oj:Oper} {b b':Bool} {A3:List BG} {fr:Fr} {ds:List Deferred} {l:Ac} {k:Bool}:o.guard=some (j,b)->ops[j]?=some oj->oj.dst=some dj->BZ fr dj=some (.bool b')->(b'==b)=false->Kb N o.dst=true->(∀c,c∈R->c∈l)->(k=false->sw=none)->(k=false-> ∀x,x∈sp->FD tbl i x.1=false-> ∀c,c∈x.2->c∈l)->PlanS P ro N E ops Q R tbl sw sp A3 (Iq o.dst undef fr) ds l->PlanS P ro N E ops Q R tbl sw sp ((i,k,o)::A3) fr ds l
 |gu {sw:Sw} {sp:FP} {i j dj:Nat} {o oj:Oper} {b:Bool} {A3:List BG} {fr:Fr} {ds:List Deferred} {l:Ac} {k:Bool}:o.guard=some (j,b)->ops[j]?=some oj->oj.dst=some dj->BZ fr dj=some undef->Kb N o.dst=true->(∀c,c∈R->c∈l)->(k=false->sw=none)->(k=false-> ∀x,x∈sp->FD tbl i x.1=false-> ∀c,c∈x.2->c∈l)->PlanS P ro N E ops Q R tbl sw sp A3 (Iq o.dst undef fr) ds l->PlanS P ro N E ops Q R tbl sw sp ((i,k,o)::A3) fr ds l
 |e {sp:FP} {i:Nat} {o:Oper} {K:Value->Ac->Prop} {A3:List BG} {fr:Fr} {ds:List Deferred} {l:Ac}:OpE P ro N fr l o K->o.guard=none->Kb N o.dst=true->(∀v l',K v l'->(∀c,c∈R->c∈l'))->(∀v l',K v l'-> ∀x,x∈sp->FD tbl i x.1=false-> ∀c,c∈x.2->c∈l')->(∀v l',K v l'->PlanS P ro N E ops Q R tbl none sp A3 (Iq o.dst v fr) ds l')->PlanS P ro N E ops Q R tbl none sp ((i,false,o)::A3) fr ds l
 |ge {sp:FP} {i j dj:Nat} {o oj:Oper} {b:Bool} {K:Value->Ac->Prop} {A3:List BG} {fr:Fr} {ds:List Deferred} {l:Ac}:OpE P ro N fr l o K->o.guard=some (j,b)->ops[j]?=some oj->oj.dst=some dj->BZ fr dj=some (.bool b)->Kb N o.dst=true->(∀v l',K v l'->(∀c,c∈R->c∈l'))->(∀v l',K v l'-> ∀x,x∈sp->FD tbl i x.1=false-> ∀c,c∈x.2->c∈l')->(∀v l',K v l'->PlanS P ro N E ops Q R tbl none sp A3 (Iq o.dst v fr) ds l')->PlanS P ro N E ops Q R tbl none sp ((i,false,o)::A3) fr ds l
 |weak {sw:Sw} {sp:FP} {pl:List BG} {fr fr':Fr} {ds:List Deferred} {l:Ac}:(∀d v,BZ fr' d=some v->BZ fr d=some v)->PlanS P ro N E ops Q R tbl sw sp pl fr' ds l->PlanS P ro N E ops Q R tbl sw sp pl fr ds l
 |sq {sw:Sw} {sp:FP} {i:Nat} {o:Oper} {v:Value} {S:Ac} {A3:List BG} {fr:Fr} {ds:List Deferred} {l:Ac}:OpQ P ro N fr S o v->(∀c,c∈S->c∈l)->o.guard=none->Kb N o.dst=true->PlanS P ro N E ops Q R tbl sw ((i,S)::sp) A3 (Iq o.dst v fr) ds l->PlanS P ro N E ops Q R tbl sw sp ((i,true,o)::A3) fr ds l
 |alt {L:List (Nat×Nat)} {sp:FP} {i:Nat} {o:Oper} {A3:List BG} {fr:Fr} {ds:List Deferred} {l:Ac} (oo:Nat->Oper) (K:Nat->Value->Ac->Prop) (rf:Nat->List BG) (sf:Nat->Sw):
   (∀j,Pn tbl (some L) i A3 j->((j,false,oo j)::rf j).Perm ((i,false,o)::A3)/\Gw ops tbl (sf j) (rf j)=true/\U9 (sf j) (rf j)=true)->
   (∀j,Pn tbl (some L) i A3 j->OpE P ro N fr l (oo j) (K j)/\Rb ops fr (oo j).guard=some true/\Kb N (oo j).dst=true)->
   (∀j,Pn tbl (some L) i A3 j-> ∀v l',K j v l'->(∀c,c∈R->c∈l')/\(∀x,x∈sp->FD tbl j x.1=false-> ∀c,c∈x.2->c∈l'))->
   (∀j,Pn tbl (some L) i A3 j-> ∀v l',K j v l'->PlanS P ro N E ops Q R tbl (sf j) sp (rf j) (Iq (oo j).dst v fr) ds l')->PlanS P ro N E ops Q R tbl (some L) sp ((i,false,o)::A3) fr ds l
 |alt2 {i j:Nat} {sp:FP} {o oj:Oper} {A3 rj:List BG} {fr:Fr} {ds:List Deferred} {l:Ac}:j≠i->((j,false,oj)::rj).Perm ((i,false,o)::A3)->Gw ops tbl none rj=true->(∀x,x∈A3->x.1≠i)->PlanS P ro N E ops Q R tbl none sp ((i,false,o)::A3) fr ds l->PlanS P ro N E ops Q R tbl none sp ((j,false,oj)::rj) fr ds l->PlanS P ro N E ops Q R tbl (some [(i,j)]) sp ((i,false,o)::A3) fr ds l
theorem SemPlan.weak{sw:Sw}{sp:FP}{Φ':Act->Prop}{l:Ac}(h: ∀a,Φ' a->Φ a)(hp:SemPlan P ro E ops Q R tbl sw sp pl Φ l):SemPlan P ro E ops Q R tbl sw sp pl Φ' l:=by
 induction hp generalizing Φ' with
 |nil hp=>exact .nil λa W ha hs=>hp a W (h a ha) hs
 |quiet v S h0 h1 _ ih=>exact .quiet v S h0 (λa ha=>h1 a (h a ha)) (ih λa' ⟨a,ha,e⟩=>⟨a,h a ha,e⟩)
 |eff oo K rf sf h1 h2 h3 ih=>exact .eff oo K rf sf h1 (λj hj a W ha hs=>h2 j hj a W (h a ha) hs) h3
def SpLe(Id sp:FP):Prop:= ∀x,x∈Id->x∈sp\/x.2=[]
theorem SpLe.none{Id sp:FP}(h:SpLe Id sp)(i:Nat):SpLe ((i,[])::Id) sp:=λx hx=>by
 rcases At.1 hx with rfl|hx
 ·exact .inr rfl
 ·exact h x hx
theorem SpLe.one{Id sp:FP}(h:SpLe Id sp)(x:Nat×Ac):SpLe (x::Id) (x::sp):=λy hy=>by
 rcases At.1 hy with rfl|hy
 ·exact .inl Ak
 ·exact(h y hy).imp (An _) id
theorem SemPlan.one{tbl:List (List Nat)}{sw:Sw}{sp:FP}{i:Nat}{o:Oper}{A3:List BG}{Φ:Act->Prop}{l:Ac}(IU: ∀j,Pm sw i j=false)(K:Act->Value->Ac->Prop)(h2:Na P ro E ops R tbl sp i o Φ l K)(h3: ∀a v l',K a v l'->SemPlan P ro E ops Q R tbl sw sp A3 (λa'=>a'=a.put o.dst v) l'):SemPlan P ro E ops Q R tbl sw sp ((i,false,o)::A3) Φ l:=by
 have key: ∀j,Pn tbl sw i A3 j->j=i:=λj hj=>by
  rcases hj with rfl|⟨h,_⟩
  ·rfl
  ·rw[IU] at h;cases h
 exact .eff (λ_=>o) (λ_=>K) (λ_=>A3) (λ_=>sw) (λj hj=>by obtain rfl:=key j hj;exact⟨.refl _,.inl ⟨rfl,rfl,rfl⟩⟩) (λj hj=>by obtain rfl:=key j hj;exact h2) λj hj=>h3
theorem SemPlan.free{sw:Sw}{sp:FP}{l:Ac}{n:Sw}(h:SemPlan P ro E ops Q R tbl n sp pl Φ l):n=none->(∀x,x∈pl-> ∀j,Pm sw x.1 j=false)->SemPlan P ro E ops Q R tbl sw sp pl Φ l:=by
 induction h with
 |nil h=>exact λ_ _=> .nil h
 |quiet v S h0 h1 _ ih=>exact λhn hx=> .quiet v S h0 h1 (ih hn λx jG=>hx x (An _ jG))
 |eff oo K rf sf h1 h2 h3 ih=>
  rename_i n sp i o A3 Φ l;intro hn hx;subst hn;have hc:Pn tbl none i A3 i:= .inl rfl;obtain⟨p1,p2⟩:=h1 i hc;have key: ∀j,Pn tbl sw i A3 j->j=i:=λj hj=>by
   rcases hj with rfl|⟨h,_⟩
   ·rfl
   ·rw[hx _ Ak] at h;cases h
  rcases p2 with⟨_,p3,p4⟩|⟨p3,p4⟩
  ·refine .eff oo K rf (λ_=>sw) (λj hj=>?_) (λj hj=>?_) λj hj=>?_;all_goals obtain rfl:=key j hj
   ·exact⟨p1,.inl ⟨rfl,rfl,p4⟩⟩
   ·exact h2 _ hc
   ·exact λa v l' k=>ih _ hc a v l' k p3 λx jG=>hx x (An _ (by rw[p4] at jG;exact jG))
  ·refine .eff oo K rf sf (λj hj=>?_) (λj hj=>?_) λj hj=>?_;all_goals obtain rfl:=key j hj
   ·exact⟨p1,.inr ⟨p3,p4⟩⟩
   ·exact h2 _ hc
   ·exact h3 _ hc
theorem az{fr:Fr}(h1:FSat N fr a)(h:Rb ops fr o.guard=some true):Region.wanted o (yielded ops a.tmps)=true:=by
 rcases Kf h with⟨hg,_⟩|⟨j,b,oj,dj,b',hg,hj,Ld,hb,he⟩
 ·simp[Region.wanted,hg]
 ·have hy:=JS (ops:=ops) h1 hj Ld hb;simpa[Region.wanted,hg,hy] using he
theorem PlanS.sem{sw:Sw}{sp:FP}{fr:Fr}{l:Ac}(h:PlanS P ro N E ops Q R tbl sw sp pl fr ds l): ∀Id,SpLe Id sp->SemPlan P ro E ops Q R tbl sw Id pl (λa=>FSat N fr a/\a.defers=ds) l:=by
 have step: ∀{o:Oper} {K:Value->Ac->Prop} {fr:Fr} {l:Ac} {sp Id:FP} {i:Nat} {ds:List Deferred},OpE P ro N fr l o K->(∀a,FSat N fr a->Region.wanted o (yielded ops a.tmps)=true)->(∀v l',K v l'->(∀c,c∈R->c∈l'))->(∀v l',K v l'-> ∀x,x∈sp->FD tbl i x.1=false-> ∀c,c∈x.2->c∈l')->SpLe Id sp->Na P ro E ops R tbl Id i o (λa=>FSat N fr a/\a.defers=ds) l (λa v l'=>(FSat N fr a/\a.defers=ds)/\K v l'):=by
  intro o K fr l sp Id i ds ho hw hR hS LQ a W ⟨h1,h2⟩ hs;unfold StepV;rw[Ad (hw a h1)];refine(ho.val E a W h1 hs).mono λv w ⟨l',k1,k2⟩=>⟨l',⟨⟨h1,h2⟩,k1⟩,hR v l' k1,λx hx ha c hc=>?_,k2⟩
  rcases LQ x hx with h|h
  ·exact hS v l' k1 x h ha c hc
  ·rw[h] at hc;cases hc
 induction h with
 |nil h=>exact λId _=> .nil λa W ⟨h1,h2⟩ hs=>h.run a W h1 h2 hs
 |q ho hg hd _ ih=>rename_i sw sp i o v A3 fr ds l _;intro Id LQ;refine .quiet v [] (by simp) (λa ⟨h1,h2⟩ E' l' W hR _ hs=>?_) ((ih _ (LQ.none i)).weak λa' ⟨a,⟨h1,h2⟩,he⟩=>by subst he;exact⟨h1.put v hd,(ET _ _ _).trans h2⟩);unfold StepV;rw[Ad (by simp[Region.wanted,hg])];exact((ho.run l' hR).val E' a W h1 hs).mono λu w ⟨l2,⟨k1,k2⟩,k3⟩=>⟨k1,by rw[<-k2];exact k3⟩
 |gq ho hg hj Ld hb hd _ ih=>rename_i sw sp i j dj o oj b v A3 fr ds l _;intro Id LQ;refine .quiet v [] (by simp) (λa ⟨h1,h2⟩ E' l' W hR _ hs=>?_) ((ih _ (LQ.none i)).weak λa' ⟨a,⟨h1,h2⟩,he⟩=>by subst he;exact⟨h1.put v hd,(ET _ _ _).trans h2⟩);unfold StepV;have hy:=JS (ops:=ops) h1 hj Ld hb;rw[Ad (by simp[Region.wanted,hg,hy])];exact((ho.run l' hR).val E' a W h1 hs).mono λu w ⟨l2,⟨k1,k2⟩,k3⟩=>⟨k1,by rw[<-k2];exact k3⟩
 |gs hg hj Ld hb He hd hR0 hswn hspl _ ih=>
  rename_i sw sp i j dj o oj b b' A3 fr ds l k _;intro Id LQ;have hw: ∀a,FSat N fr a->¬Region.wanted o (yielded ops a.tmps)=true:=λa h1=>by have hy:=JS (ops:=ops) h1 hj Ld hb;simp[Region.wanted,hg,hy];intro e;rw[e] at He;simp at He
  cases k with
  |true=>refine .quiet undef [] (by simp) (λa ⟨h1,h2⟩ E' l' W hR _ hs=>?_) ((ih _ (LQ.none i)).weak λa' ⟨a,⟨h1,h2⟩,he⟩=>by subst he;exact⟨h1.put undef hd,(ET _ _ _).trans h2⟩);unfold StepV;rw[Ab (hw a h1)];exact⟨rfl,hs⟩
  |false=>
   refine .one (λj=>by rw[hswn rfl];rfl) (λa v l'=>(FSat N fr a/\a.defers=ds)/\v=undef/\l'=l) (λa W ⟨h1,h2⟩ hs=>?_) ?_
   ·unfold StepV;rw[Ab (hw a h1)];refine⟨l,⟨⟨h1,h2⟩,rfl,rfl⟩,hR0,λx hx ha c hc=>?_,hs⟩;rcases LQ x hx with h|h
    ·exact hspl rfl x h ha c hc
    ·rw[h] at hc;cases hc
   ·rintro a _ _ ⟨⟨h1,h2⟩,rfl,rfl⟩;exact(ih _ LQ).weak λa' he=>by subst he;exact⟨h1.put undef hd,(ET _ _ _).trans h2⟩
 |gu hg hj Ld hb hd hR0 hswn hspl _ ih=>
  rename_i sw sp i j dj o oj b A3 fr ds l k _;intro Id LQ;have hw: ∀a,FSat N fr a->¬Region.wanted o (yielded ops a.tmps)=true:=λa h1=>by have hy:=Yl h1 hj Ld hb;simp[Region.wanted,hg,hy]
  cases k with
  |true=>refine .quiet undef [] (by simp) (λa ⟨h1,h2⟩ E' l' W hR _ hs=>?_) ((ih _ (LQ.none i)).weak λa' ⟨a,⟨h1,h2⟩,he⟩=>by subst he;exact⟨h1.put undef hd,(ET _ _ _).trans h2⟩);unfold StepV;rw[Ab (hw a h1)];exact⟨rfl,hs⟩
  |false=>
   refine .one (λj=>by rw[hswn rfl];rfl) (λa v l'=>(FSat N fr a/\a.defers=ds)/\v=undef/\l'=l) (λa W ⟨h1,h2⟩ hs=>?_) ?_
   ·unfold StepV;rw[Ab (hw a h1)];refine⟨l,⟨⟨h1,h2⟩,rfl,rfl⟩,hR0,λx hx ha c hc=>?_,hs⟩;rcases LQ x hx with h|h
    ·exact hspl rfl x h ha c hc
    ·rw[h] at hc;cases hc
   ·rintro a _ _ ⟨⟨h1,h2⟩,rfl,rfl⟩;exact(ih _ LQ).weak λa' he=>by subst he;exact⟨h1.put undef hd,(ET _ _ _).trans h2⟩
 |e ho hg hd hR hS _ ih=>rename_i sp i o K A3 fr ds l _;intro Id LQ;refine .one (λ_=>rfl) _ (step ho (λa _=>by simp[Region.wanted,hg]) hR hS LQ) ?_;rintro a v l' ⟨⟨h1,h2⟩,k1⟩;exact(ih v l' k1 _ LQ).weak λa' he=>by subst he;exact⟨h1.put v hd,(ET _ _ _).trans h2⟩
 |ge ho hg hj Ld hb hd hR hS _ ih=>
  rename_i sp i j dj o oj b K A3 fr ds l _;intro Id LQ;refine .one (λ_=>rfl) _ (step ho (λa h1=>by have hy:=JS (ops:=ops) h1 hj Ld hb;simp[Region.wanted,hg,hy]) hR hS LQ) ?_
  rintro a v l' ⟨⟨h1,h2⟩,k1⟩;exact(ih v l' k1 _ LQ).weak λa' he=>by subst he;exact⟨h1.put v hd,(ET _ _ _).trans h2⟩
 |weak hw _ ih=>exact λId LQ=>(ih Id LQ).weak λa ⟨h1,h2⟩=>⟨h1.sub hw,h2⟩
 |sq ho v8 hg hd _ ih=>rename_i sw sp i o v S A3 fr ds l _;intro Id LQ;refine .quiet v S v8 (λa ⟨h1,h2⟩ E' l' W hR hS hs=>?_) ((ih _ (LQ.one (i,S))).weak λa' ⟨a,⟨h1,h2⟩,he⟩=>by subst he;exact⟨h1.put v hd,(ET _ _ _).trans h2⟩);unfold StepV;rw[Ad (by simp[Region.wanted,hg])];exact((ho.run l' hS).val E' a W h1 hs).mono λu w ⟨l2,⟨k1,k2⟩,k3⟩=>⟨k1,by rw[<-k2];exact k3⟩
 |alt oo K rf sf pQ RB hRS _ ih=>
  rename_i L sp i o A3 fr ds l _;intro Id LQ;refine .eff oo (λj a v l'=>(FSat N fr a/\a.defers=ds)/\K j v l') rf sf (λj hj=>⟨(pQ j hj).1,.inr (pQ j hj).2⟩) (λj hj=>?_) λj hj=>?_
  ·obtain⟨ho,hw,_⟩:=RB j hj;exact step ho (λa h1=>az h1 hw) (λv l' k=>(hRS j hj v l' k).1) (λv l' k=>(hRS j hj v l' k).2) LQ
  ·rintro a v l' ⟨⟨h1,h2⟩,k1⟩;exact(ih j hj v l' k1 _ LQ).weak λa' he=>by subst he;exact⟨h1.put v (RB j hj).2.2,(ET _ _ _).trans h2⟩
 |alt2 Wt hp uh hni _ _ ih1 ih2=>
  rename_i i j sp o oj A3 rj fr ds l _ _;intro Id LQ;have g1:=ih1 Id LQ;have g2:=ih2 Id LQ;have hj: ∀k,Pn tbl (some [(i,j)]) i A3 k->k=i\/k=j:=λk hk=>by
   rcases hk with h|⟨h,_⟩
   ·exact .inl h
   ·refine .inr ?_;simpa[Pm] using h
  cases g1 with
  |eff oo1 K1 rf1 sf1 a1 a2 a3=>
   cases g2 with
   |eff oo2 K2 rf2 sf2 b1 b2 b3=>
    have ci:Pn tbl none i A3 i:= .inl rfl;have cj:Pn tbl none j rj j:= .inl rfl;obtain⟨gj,c1,c2⟩: ∃gj,((i=i/\gj=some [(i,j)]/\rf1 i=A3)\/(Gw ops tbl gj (rf1 i)=true/\U9 gj (rf1 i)=true))/\ ∀a v l',K1 i a v l'->SemPlan P ro E ops Q R tbl gj Id (rf1 i) (λa'=>a'=a.put (oo1 i).dst v) l':=by
     rcases(a1 i ci).2 with⟨_,e1,e2⟩|h
     ·refine⟨some [(i,j)],.inl ⟨rfl,rfl,e2⟩,λa v l' k=>?_⟩;have:=a3 i ci a v l' k;rw[e1,e2] at this;rw[e2];refine this.free rfl λx hx k=>?_;have:=hni x hx;simp[Pm,this]
     ·exact⟨sf1 i,.inr h,a3 i ci⟩
    obtain⟨d1,d2⟩:Gw ops tbl (sf2 j) (rf2 j)=true/\U9 (sf2 j) (rf2 j)=true:=by
     rcases(b1 j cj).2 with⟨_,e1,e2⟩|h
     ·rw[e1,e2];exact⟨uh,rfl⟩
     ·exact h
    refine .eff (λk=>if k=i then oo1 i else oo2 j) (λk=>if k=i then K1 i else K2 j) (λk=>if k=i then rf1 i else rf2 j) (λk=>if k=i then gj else sf2 j) (λk hk=>?_) (λk hk=>?_) λk hk=>?_
    ·rcases hj k hk with h|h
     ·subst h;simp only[CS,Io];simp only[Io] at c1;exact⟨(a1 k ci).1,c1⟩
     ·subst h;simp only[Ab Wt];exact⟨(b1 k cj).1.trans hp,.inr ⟨d1,d2⟩⟩
    ·rcases hj k hk with h|h
     ·subst h;simp only[CS];exact a2 k ci
     ·subst h;simp only[Ab Wt];exact b2 k cj
    ·rcases hj k hk with h|h
     ·subst h;simp only[CS];exact c2
     ·subst h;simp only[Ab Wt];exact b3 k cj
inductive Attach(os:List Oper):List (Nat×Bool)->List BG->Prop
 |nil:Attach os [] []
 |cons {i:Nat} {b:Bool} {o:Oper} {r:List (Nat×Bool)} {pl:List BG}:os[i]?=some o->Attach os r pl->Attach os ((i,b)::r) ((i,b,o)::pl)
theorem Attach.spec{r:List (Nat×Bool)}(h:Attach os r pl):(∀x,x∈pl->os.toArray[x.1]?=some x.2.2)/\pl.map (λx=>x.1)=r.map Prod.fst:=by
 induction h with
 |nil=>exact⟨by simp,rfl⟩
 |cons h1 _ ih=>
  refine⟨λx hx=>?_,by simp[ih.2]⟩;rcases At.1 hx with rfl|hx
  ·simpa using h1
  ·exact ih.1 x hx
def Iz(os:List Oper):List (Nat×Bool)->List BG
 |[]=>[]
 |(i,b)::r=>match os[i]? with
  |some o=>(i,b,o)::Iz os r
  |none=>[]
theorem Attach.fun_eq{r:List (Nat×Bool)}(h:Attach os r pl):Iz os r=pl:=by
 induction h with
 |nil=>rfl
 |cons h1 _ ih=>unfold Iz;rw[h1,ih]
def St(os:List Oper)(plan:List (Nat×Bool))(tbl:List (List Nat))(sw:Sw):Bool:=
 Tp os.toArray tbl&&Gw os.toArray tbl sw (Iz os plan)&&decide (plan.length<=os.length)&&((List.range os.length).all λi=>(plan.map Prod.fst).contains i)&&U9 sw (Iz os plan)
def WJ(os:List Oper)(plan:List (Nat×Bool))(tbl:List (List Nat)):Bool:=St os plan tbl none
theorem Su{fr:Fr}{l:Ac}(plan:List (Nat×Bool))(tbl:List (List Nat))(sw:Sw)(R:Ac)(hm:P.follows .mixedOrders=true)(hv:St os plan tbl sw=true)(ha:Attach os plan pl)(hR: ∀c,c∈R->c∈l)
 (h:PlanS P ro N E os.toArray Q R tbl sw [] pl fr ds l):BR P ro N E (.region k os.toArray true) Q fr ds l:=by
 unfold St at hv;simp only[AV] at hv;obtain⟨⟨⟨⟨ht,hp⟩,LQ⟩,GD⟩,M2⟩:=hv;rw[ha.fun_eq] at hp M2;obtain⟨h1,h2⟩:=Nc hp;obtain⟨n1,n2⟩:=ha.spec;refine⟨λa W hf hds hs=>wpIn_region_any hm ?_⟩;have XI:pl.length<=os.toArray.size:=by have h3:=BI List.length n2;simp only[A7] at h3;rw[h3];simpa using LQ
 have Le:(pl.map (λx:BG=>x.1)).Nodup:=by rw[D3,Cx];exact h2.imp λhp=>(Fq hp).2.2
 refine Way.any ht _ sw [] _ [] pl (λa=>FSat N fr a/\a.defers=ds) l a _ ⟨⟨hf,hds⟩,hR,hs.drawn _,h.sem [] (λx hx=>by cases hx),λp1 x v p2 e=>by simp at e,by simp,?_,by simpa using n1,by simpa using h1,by simpa using h2,(λx hx j e=>?_),?_⟩ (by simpa using XI)
 ·intro i hi;have hi':i<os.length:=by simpa using hi
  have e:(Array.replicate os.toArray.size false).getD i true=false:=by simp[Do,Array.getElem?_replicate,hi']
  rw[e];simp only[CX,Ag,true_iff];have:=A5.1 GD i (by simpa using hi);rw[<-n2] at this;simp only[JE,Av] at this;exact this
 ·obtain⟨y,hy,e1,e2⟩:=Vy M2 e;rw[<-WI pl Le hy (by simpa using hx) e1];exact e2
 ·intro j o _ hl;exfalso;simp[Do,Array.getElem?_replicate] at hl
  split at hl<;>simp at hl
theorem Li{fr:Fr}{l:Ac}(plan:List (Nat×Bool))(tbl:List (List Nat))(R:Ac)(hm:P.follows .mixedOrders=true)(hv:WJ os plan tbl=true)(ha:Attach os plan pl)(hR: ∀c,c∈R->c∈l)
 (h:PlanS P ro N E os.toArray Q R tbl none [] pl fr ds l):BR P ro N E (.region k os.toArray true) Q fr ds l:=Su plan tbl none R hm hv ha hR h
end
variable{sp:FP}
section
variable{sw:Sw}{fr:Fr}{l:Ac}{k:Bool}
theorem aA(h:C0 N E Q .normal fr ds l):PlanS P ro N E ops Q R tbl sw sp [] fr ds l:= .nil h
theorem Eo{d:Nat}(h:OpQ P ro N fr R o v)(hw:o.guard=none)(hd:o.dst=some d)(hb:Nat.blt d N=true)(hk:PlanS P ro N E ops Q R tbl sw sp pl ((d,v)::fr) ds l):PlanS P ro N E ops Q R tbl sw sp ((i,true,o)::pl) fr ds l:=
 .q h hw (by rw[hd];exact hb) (by rw[hd];exact hk)
theorem Ym{d:Nat}(h:OpQ P ro N fr R o v)(hw:o.guard=some (j,b))(hj:ops[j]?=some oj)(Ld:oj.dst=some dj)(hb:BZ fr dj=some (.bool b))(hd:o.dst=some d)(So:Nat.blt d N=true)(hk:PlanS P ro N E ops Q R tbl sw sp pl ((d,v)::fr) ds l):PlanS P ro N E ops Q R tbl sw sp ((i,true,o)::pl) fr ds l:=
 .gq h hw hj Ld hb (by rw[hd];exact So) (by rw[hd];exact hk)
theorem Abo{d:Nat}(hR: ∀c,c∈R->c∈l)(hw:o.guard=some (j,b))(hj:ops[j]?=some oj)(Ld:oj.dst=some dj)(hb:BZ fr dj=some (.bool b'))(He:(b'==b)=false)(hd:o.dst=some d)(So:Nat.blt d N=true)(hk:PlanS P ro N E ops Q R tbl none [] pl ((d,undef)::fr) ds l):PlanS P ro N E ops Q R tbl none [] ((i,k,o)::pl) fr ds l:=
 .gs hw hj Ld hb He (by rw[hd];exact So) hR (λ_=>rfl) (λ_ x hx=>by cases hx) (by rw[hd];exact hk)
theorem CM{d:Nat}(h:OpE P ro N fr l o K)(hw:o.guard=none)(hd:o.dst=some d)(hb:Nat.blt d N=true)(hR: ∀v l',K v l'->(∀c,c∈R->c∈l'))(hk: ∀v l',K v l'->PlanS P ro N E ops Q R tbl none [] pl ((d,v)::fr) ds l'):PlanS P ro N E ops Q R tbl none [] ((i,false,o)::pl) fr ds l:=
 .e h hw (by rw[hd];exact hb) hR (λ_ _ _ x hx=>by cases hx) λv l' hkv=>by rw[hd];exact hk v l' hkv
theorem Oe(h:OpE P ro N fr l o K)(hw:o.guard=none)(hd:o.dst=none)(hR: ∀v l',K v l'->(∀c,c∈R->c∈l'))(hk: ∀v l',K v l'->PlanS P ro N E ops Q R tbl none [] pl fr ds l'):PlanS P ro N E ops Q R tbl none [] ((i,false,o)::pl) fr ds l:=
 .e h hw (by rw[hd];rfl) hR (λ_ _ _ x hx=>by cases hx) λv l' hkv=>by rw[hd];exact hk v l' hkv
theorem Abp{d:Nat}(h:OpE P ro N fr l o K)(hw:o.guard=some (j,b))(hj:ops[j]?=some oj)(Ld:oj.dst=some dj)(hb:BZ fr dj=some (.bool b))(hd:o.dst=some d)(So:Nat.blt d N=true)(hR: ∀v l',K v l'->(∀c,c∈R->c∈l'))(hk: ∀v l',K v l'->PlanS P ro N E ops Q R tbl none [] pl ((d,v)::fr) ds l'):PlanS P ro N E ops Q R tbl none [] ((i,false,o)::pl) fr ds l:=
 .ge h hw hj Ld hb (by rw[hd];exact So) hR (λ_ _ _ x hx=>by cases hx) λv l' hkv=>by rw[hd];exact hk v l' hkv
theorem G9{d:Nat}(h:OpE P ro N fr l o K)(hw:o.guard=none)(hd:o.dst=some d)(hb:Nat.blt d N=true)(hR: ∀v l',K v l'->(∀c,c∈R->c∈l'))(hS: ∀v l',K v l'-> ∀x,x∈sp->FD tbl i x.1=false-> ∀c,c∈x.2->c∈l')(hk: ∀v l',K v l'->PlanS P ro N E ops Q R tbl none sp pl ((d,v)::fr) ds l'):PlanS P ro N E ops Q R tbl none sp ((i,false,o)::pl) fr ds l:=
 .e h hw (by rw[hd];exact hb) hR hS λv l' hkv=>by rw[hd];exact hk v l' hkv
theorem Hy(h:OpE P ro N fr l o K)(hw:o.guard=none)(hd:o.dst=none)(hR: ∀v l',K v l'->(∀c,c∈R->c∈l'))(hS: ∀v l',K v l'-> ∀x,x∈sp->FD tbl i x.1=false-> ∀c,c∈x.2->c∈l')(hk: ∀v l',K v l'->PlanS P ro N E ops Q R tbl none sp pl fr ds l'):PlanS P ro N E ops Q R tbl none sp ((i,false,o)::pl) fr ds l:=
 .e h hw (by rw[hd];rfl) hR hS λv l' hkv=>by rw[hd];exact hk v l' hkv
theorem Dh(h:(sp.map Prod.fst).all (λq=>FD tbl i q)=true){x:Nat×Ac}(hx:x∈sp)(ha:FD tbl i x.1=false): ∀c,c∈x.2->c∈l':=by have:=A5.1 h x.1 (Av.2 ⟨x,hx,rfl⟩);rw[ha] at this;cases this
theorem Gp{d:Nat}{S:Ac}(h:OpQ P ro N fr S o v)(hS: ∀c,c∈S->c∈l)(hw:o.guard=none)(hd:o.dst=some d)(hb:Nat.blt d N=true)(hk:PlanS P ro N E ops Q R tbl sw ((i,S)::sp) pl ((d,v)::fr) ds l):PlanS P ro N E ops Q R tbl sw sp ((i,true,o)::pl) fr ds l:=
 .sq h hS hw (by rw[hd];exact hb) (by rw[hd];exact hk)
theorem Abq{d:Nat}(h:OpQ P ro N fr l o v)(hw:o.guard=none)(hd:o.dst=some d)(hb:Nat.blt d N=true)(hR: ∀c,c∈R->c∈l)(hk:PlanS P ro N E ops Q R tbl none [] pl ((d,v)::fr) ds l):PlanS P ro N E ops Q R tbl none [] ((i,false,o)::pl) fr ds l:=by
 refine CM (h.run l λ_ h=>h) hw hd hb ?_ ?_
 ·rintro _ _ ⟨rfl,rfl⟩;exact hR
 ·rintro _ _ ⟨rfl,rfl⟩;exact hk
theorem aB{d:Nat}(h:OpQ P ro N fr R o v)(hw:Rb ops fr o.guard=some true)(hd:o.dst=some d)(hb:Nat.blt d N=true)(hk:PlanS P ro N E ops Q R tbl sw sp pl ((d,v)::fr) ds l):PlanS P ro N E ops Q R tbl sw sp ((i,true,o)::pl) fr ds l:=by
 rcases Kf hw with⟨h1,_⟩|⟨j,b,oj,dj,b',h1,h2,h3,h4,h5⟩
 ·exact Eo h h1 hd hb hk
 ·have:b'=b:=by simpa using h5
  subst this;exact Ym h h1 h2 h3 h4 hd hb hk
theorem Abr{d:Nat}(hR: ∀c,c∈R->c∈l)(hw:Rb ops fr o.guard=some false)(hd:o.dst=some d)(hb:Nat.blt d N=true)(hk:PlanS P ro N E ops Q R tbl none [] pl ((d,undef)::fr) ds l):PlanS P ro N E ops Q R tbl none [] ((i,k,o)::pl) fr ds l:=by
 rcases Kf hw with⟨_,h1⟩|⟨j,b,oj,dj,b',h1,h2,h3,h4,h5⟩
 ·cases h1
 ·exact Abo hR h1 h2 h3 h4 h5 hd hb hk
theorem kX{w:Bool}{ip:Decidable p}(hw:o.guard=some (j,w))(hj:ops[j]?=some oj)(Ld:oj.dst=some t)(hc:BZ fr t=some (.bool (@decide p ip)))(hp:p)(h:PlanS P ro N E ops Q R tbl sw sp ((i,k,o)::pl) ((t,.bool true)::fr) ds l):PlanS P ro N E ops Q R tbl sw sp ((i,k,o)::pl) fr ds l:=
 .weak (GR (by rw[hc,Au hp])) h
theorem kY{w:Bool}{ip:Decidable p}(hw:o.guard=some (j,w))(hj:ops[j]?=some oj)(Ld:oj.dst=some t)(hc:BZ fr t=some (.bool (@decide p ip)))(hp:¬p)(h:PlanS P ro N E ops Q R tbl sw sp ((i,k,o)::pl) ((t,.bool false)::fr) ds l):PlanS P ro N E ops Q R tbl sw sp ((i,k,o)::pl) fr ds l:=
 .weak (GR (by rw[hc,Aw hp])) h
end
end Go.Proofs.YtlifcingifodfaaGreat
