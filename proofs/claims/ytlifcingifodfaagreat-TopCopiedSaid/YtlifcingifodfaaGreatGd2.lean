/- Laws. -/
import Derived.Test.YtlifcingifodfaaGreatGd1
import Derived.OrdersIn
set_option maxHeartbeats 4000000
set_option linter.all false
namespace Go.Proofs.YtlifcingifodfaaGreat
open Go.RowKit
variable{j t N dj i k r D:Nat}{oj o:Oper}{tbl:List (List Nat)}{l' L T R:Ac}{a:Act}{W E:World}{C5:Array Bool}{ds:List Deferred}{b b':Bool}{p:Prop}{P:Program}{Q:Exit->Act->World->Prop}{Φ:Act->Prop}{α:Type}{ro:Option Nat}{ops:Array Oper}{v:Value}{K:Value->Ac->Prop}{c y assign body:Code}{os:List Oper}{fr':Fr}{fn:Func}{rs:List ResultVar}{vs:Ap}{tmps:Array Value}
section
variable{A6:List Oper}{fr:Fr}{l:Ac}
theorem kT{d:Nat}(h:OpE P ro N fr l o K)(hw:o.guard=none)(hd:o.dst=some d)(hb:Nat.blt d N=true)(hk: ∀v l',K v l'->DC P ro N E ops Q A6 ((d,v)::fr) ds l'):DC P ro N E ops Q (o::A6) fr ds l:=
 s_e h hw (by rw[hd];exact hb) λv l' hkv=>by rw[hd];exact hk v l' hkv
theorem Nk(h:OpE P ro N fr l o K)(hw:o.guard=none)(hd:o.dst=none)(hk: ∀v l',K v l'->DC P ro N E ops Q A6 fr ds l'):DC P ro N E ops Q (o::A6) fr ds l:=
 s_e h hw (by rw[hd];rfl) λv l' hkv=>by rw[hd];exact hk v l' hkv
theorem wn{d:Nat}(h:OpQ P ro N fr l o v)(hw:o.guard=none)(hd:o.dst=some d)(hb:Nat.blt d N=true)(hk:DC P ro N E ops Q A6 ((d,v)::fr) ds l):DC P ro N E ops Q (o::A6) fr ds l:=
 s_q h hw (by rw[hd];exact hb) (by rw[hd];exact hk)
theorem YQ{d:Nat}(h:OpQ P ro N fr l o v)(hw:o.guard=some (j,b))(hj:ops[j]?=some oj)(Lm:oj.dst=some dj)(hb:Cc fr dj=some (.bool b))(hd:o.dst=some d)(SO:Nat.blt d N=true)(hk:DC P ro N E ops Q A6 ((d,v)::fr) ds l):DC P ro N E ops Q (o::A6) fr ds l:=
 AfK h hw hj Lm hb (by rw[hd];exact SO) (by rw[hd];exact hk)
theorem AfO{d:Nat}(h:OpE P ro N fr l o K)(hw:o.guard=some (j,b))(hj:ops[j]?=some oj)(Lm:oj.dst=some dj)(hb:Cc fr dj=some (.bool b))(hd:o.dst=some d)(SO:Nat.blt d N=true)(hk: ∀v l',K v l'->DC P ro N E ops Q A6 ((d,v)::fr) ds l'):DC P ro N E ops Q (o::A6) fr ds l:=
 Aca h hw hj Lm hb (by rw[hd];exact SO) λv l' hkv=>by rw[hd];exact hk v l' hkv
theorem AfP{d:Nat}(hw:o.guard=some (j,b))(hj:ops[j]?=some oj)(Lm:oj.dst=some dj)(hb:Cc fr dj=some (.bool b'))(GS:(b'==b)=false)(hd:o.dst=some d)(SO:Nat.blt d N=true)(hk:DC P ro N E ops Q A6 ((d,undef)::fr) ds l):DC P ro N E ops Q (o::A6) fr ds l:=
 AfL hw hj Lm hb GS (by rw[hd];exact SO) (by rw[hd];exact hk)
def RD(ops:Array Oper)(fr:Fr):Option (Nat×Bool)->Option Bool
 |none=>some true
 |some (j,b)=>match ops[j]? with
  |some oj=>match oj.dst with
   |some dj=>match Cc fr dj with
    |some (.bool b')=>some (b'==b)
    |_=>none
   |none=>none
  |none=>none
theorem Km{g:Option (Nat×Bool)}{r:Bool}(h:RD ops fr g=some r):(g=none/\r=true)\/ ∃j b oj dj b',g=some (j,b)/\ops[j]?=some oj/\oj.dst=some dj/\Cc fr dj=some (.bool b')/\(b'==b)=r:=by
 cases g with
 |none=>exact .inl ⟨rfl,by cases h;rfl⟩
 |some jb=>
  obtain⟨j,b⟩:=jb;refine .inr ⟨j,b,?_⟩;unfold RD at h;simp only at h
  split at h
  ·rename_i oj hoj
   split at h
   ·rename_i dj hdj
    split at h
    ·rename_i b' hb';exact⟨oj,dj,b',rfl,hoj,hdj,hb',by cases h;rfl⟩
    ·cases h
   ·cases h
  ·cases h
theorem MU{d:Nat}(h:OpQ P ro N fr l o v)(hw:RD ops fr o.guard=some true)(hd:o.dst=some d)(hb:Nat.blt d N=true)(hk:DC P ro N E ops Q A6 ((d,v)::fr) ds l):DC P ro N E ops Q (o::A6) fr ds l:=by
 rcases Km hw with⟨h1,_⟩|⟨j,b,oj,dj,b',h1,h2,h3,h4,h5⟩
 ·exact wn h h1 hd hb hk
 ·have:b'=b:=by simpa using h5
  subst this;exact YQ h h1 h2 h3 h4 hd hb hk
theorem AfQ{d:Nat}(hw:RD ops fr o.guard=some false)(hd:o.dst=some d)(hb:Nat.blt d N=true)(hk:DC P ro N E ops Q A6 ((d,undef)::fr) ds l):DC P ro N E ops Q (o::A6) fr ds l:=by
 rcases Km hw with⟨_,h1⟩|⟨j,b,oj,dj,b',h1,h2,h3,h4,h5⟩
 ·cases h1
 ·exact AfP h1 h2 h3 h4 h5 hd hb hk
theorem Xi(hs': ∀d v,Cc fr' d=some v->Cc fr d=some v)(h:BS P ro N E c Q fr' ds l):BS P ro N E c Q fr ds l:=⟨λa W hf hds hs=>h.run a W (hf.sub hs') hds hs⟩
theorem TH{x:Code}{ip:Decidable p}(hc:Cc fr t=some (.bool (@decide p ip)))(hp:p)(h:BS P ro N E x Q ((t,.bool true)::fr) ds l):BS P ro N E (.cond (.tmp t) x y) Q fr ds l:=by
 have hc':Cc fr t=some (.bool true):=by rw[hc,Aq hp]
 exact MM hc' (Xi (G7 hc') h)
theorem TI{x:Code}{ip:Decidable p}(hc:Cc fr t=some (.bool (@decide p ip)))(hp:¬p)(h:BS P ro N E y Q ((t,.bool false)::fr) ds l):BS P ro N E (.cond (.tmp t) x y) Q fr ds l:=by
 have hc':Cc fr t=some (.bool false):=by rw[hc,Av hp]
 exact MN hc' (Xi (G7 hc') h)
theorem sn{x:Code}{ip:Decidable p}(hc:Cc fr t=some (.bool (@decide p ip)))(h1:p->BS P ro N E x Q ((t,.bool true)::fr) ds l)(h2:¬p->BS P ro N E y Q ((t,.bool false)::fr) ds l):BS P ro N E (.cond (.tmp t) x y) Q fr ds l:=by
 by_cases hp:p
 ·exact TH hc hp (h1 hp)
 ·exact TI hc hp (h2 hp)
theorem l6{x:Code}(hc:Cc fr t=some (.bool b))(h1:b=true->BS P ro N E x Q ((t,.bool true)::fr) ds l)(h2:b=false->BS P ro N E y Q ((t,.bool false)::fr) ds l):BS P ro N E (.cond (.tmp t) x y) Q fr ds l:=by
 cases b with
 |true=>exact MM hc (Xi (G7 hc) (h1 rfl))
 |false=>exact MN hc (Xi (G7 hc) (h2 rfl))
theorem l9(hs': ∀d v,Cc fr' d=some v->Cc fr d=some v)(h:DC P ro N E ops Q A6 fr' ds l):DC P ro N E ops Q A6 fr ds l:=⟨λa W hf hds hs=>h.run a W (hf.sub hs') hds hs⟩
theorem eJ{w:Bool}{ip:Decidable p}(hw:o.guard=some (j,w))(hj:ops[j]?=some oj)(Lm:oj.dst=some t)(hc:Cc fr t=some (.bool (@decide p ip)))(hp:p)(h:DC P ro N E ops Q (o::A6) ((t,.bool true)::fr) ds l):DC P ro N E ops Q (o::A6) fr ds l:=by
 have hc':Cc fr t=some (.bool true):=by rw[hc,Aq hp]
 exact l9 (G7 hc') h
theorem eK{w:Bool}{ip:Decidable p}(hw:o.guard=some (j,w))(hj:ops[j]?=some oj)(Lm:oj.dst=some t)(hc:Cc fr t=some (.bool (@decide p ip)))(hp:¬p)(h:DC P ro N E ops Q (o::A6) ((t,.bool false)::fr) ds l):DC P ro N E ops Q (o::A6) fr ds l:=by
 have hc':Cc fr t=some (.bool false):=by rw[hc,Av hp]
 exact l9 (G7 hc') h
theorem Acp{w:Bool}{ip:Decidable p}(hw:o.guard=some (j,w))(hj:ops[j]?=some oj)(Lm:oj.dst=some t)(hc:Cc fr t=some (.bool (@decide p ip)))(h1:p->DC P ro N E ops Q (o::A6) ((t,.bool true)::fr) ds l)(h2:¬p->DC P ro N E ops Q (o::A6) ((t,.bool false)::fr) ds l):DC P ro N E ops Q (o::A6) fr ds l:=by
 by_cases hp:p
 ·exact eJ hw hj Lm hc hp (h1 hp)
 ·exact eK hw hj Lm hc hp (h2 hp)
theorem Acq{w:Bool}(hw:o.guard=some (j,w))(hj:ops[j]?=some oj)(Lm:oj.dst=some t)(hc:Cc fr t=some (.bool b))(h1:b=true->DC P ro N E ops Q (o::A6) ((t,.bool true)::fr) ds l)(h2:b=false->DC P ro N E ops Q (o::A6) ((t,.bool false)::fr) ds l):DC P ro N E ops Q (o::A6) fr ds l:=
 rW t hc h1 h2
end
inductive Pick:Ac->Bh->Ac->Prop
 |here {c:Bh} {l:Ac}:Pick (c::l) c l
 |there {c d:Bh} {l l':Ac}:Pick l c l'->Pick (d::l) c (d::l')
theorem Pick.perm{l:Ac}{c:Bh}(h:Pick l c l'):l.Perm (c::l'):=by
 induction h with
 |here=>exact Jk _
 |there _ ih=>exact(List.Perm.cons _ ih).trans (List.Perm.swap _ _ _)
structure Keep(L l:Ac):Prop where
 ex: ∃g:Ac,L.Perm (g++l)
theorem Keep.refl{l:Ac}:Keep l l:=⟨[],Jk _⟩
theorem Keep.pick{l l1:Ac}{c:Bh}(h:Pick l c l1)(k:Keep l1 l'):Keep l (c::l'):=by obtain⟨g,hg⟩:=k.ex;exact⟨g,h.perm.trans ((List.Perm.cons _ hg).trans AJ.symm)⟩
theorem Keep.drop{l:Ac}{c:Bh}(k:Keep l l'):Keep (c::l) l':=by obtain⟨g,hg⟩:=k.ex;exact⟨c::g,List.Perm.cons c hg⟩
theorem ζ{l:Ac}{a:Bh}:Keep (a::l) l:=.drop .refl
theorem θ{l:Ac}{a b:Bh}:Keep (a::b::l) l:=.drop ζ
theorem σ{l:Ac}{a b c:Bh}:Keep (a::b::c::l) l:=.drop θ
theorem φ{l:Ac}{a b c d:Bh}:Keep (a::b::c::d::l) l:=.drop σ
theorem ψ{l:Ac}{a b c d e:Bh}:Keep (a::b::c::d::e::l) l:=.drop φ
theorem χ{l:Ac}{a b c d e f:Bh}:Keep (a::b::c::d::e::f::l) l:=.drop ψ
theorem Keep.of_perm{l:Ac}(p:l.Perm l'):Keep l l':=⟨[],p⟩
theorem Keep.right{l:Ac}(k:Keep L l)(p:l.Perm l'):Keep L l':=by obtain⟨g,hg⟩:=k.ex;exact⟨g,hg.trans (E2 g p)⟩
theorem Keep.trans{l:Ac}(k:Keep L l)(k':Keep l l'):Keep L l':=by obtain⟨g,hg⟩:=k.ex;obtain⟨g',hg'⟩:=k'.ex;exact⟨g++g',by rw[Am];exact hg.trans (E2 g hg')⟩
theorem Keep.mid{M l:Ac}{c:Bh}(k:Keep L (c::(M++l))):Keep L (M++c::l):=k.right AJ.symm
theorem Keep.sat{l:Ac}(h:Keep l l'):Sat E l W->Sat E l' W:=by obtain⟨g,hg⟩:=h.ex;intro hs;exact(hs.perm hg).sub (List.sublist_append_right _ _)
section
variable{A6:List Oper}{fr:Fr}{l:Ac}{e:Exit}
theorem Bt(p:Keep l l')(h:DC P ro N E ops Q A6 fr ds l'):DC P ro N E ops Q A6 fr ds l:=⟨λa W hf hds hs=>h.run a W hf hds (p.sat hs)⟩
theorem Eh(p:Keep l l')(h:BS P ro N E c Q fr ds l'):BS P ro N E c Q fr ds l:=⟨λa W hf hds hs=>h.run a W hf hds (p.sat hs)⟩
theorem KG(p:Keep l l')(h:C3 N E Q e fr ds l'):C3 N E Q e fr ds l:=⟨λa W hf hds hs=>h.run a W hf hds (p.sat hs)⟩
theorem Fn.keep{f:FuncId}{args:Ap}(p:Keep l l')(h:Fn P f args l' K):Fn P f args l K:=⟨λE W hs=>h.run E W (p.sat hs)⟩
theorem CF(fx:α->Fr)(lx:α->Ac)(pre:α->Prop)(μ:α->Nat)(x₀:α)(h0:pre x₀)(hf0:FSub (fx x₀) fr)(ru:Keep l (lx x₀))
 (round: ∀x,pre x->BS P ro N E c (Exit.then (eC N E fx ds lx pre μ x) Q) (fx x) ds (lx x)):BS P ro N E (.loop c) Q fr ds l:=Eh ru (yw fx lx pre μ x₀ h0 hf0 (Jk _) round)
theorem BZ{fx:α->Fr}{lx:α->Ac}{pre:α->Prop}{μ:α->Nat}{x:α}(y:α)(h1:pre y)(h2:μ y<μ x)(h3:FSub (fx y) fr)(h4:Keep l (lx y)):C3 N E (Exit.then (eC N E fx ds lx pre μ x) Q) .normal fr ds l:=
 KG h4 (yx y h1 h2 h3 (Jk _))
theorem BF(Ds:List Nat)(hr:fn.results=rs.toArray)(hp:Keep l (Ds.map Cv++l'))(h:ResS P fr l' rs vs)(hk:K (JQ vs) l'):
 C3 N E (bodyPostM Fence.wide 0 P fn (RK E K)) .ret fr (Ds.map HJ) l:=KG hp (Acb Ds hr (Jk _) h hk)
theorem RK.keep{l2:Ac}(p:Keep l2 l')(hk:K v l')(hs:Sat E l2 W):RK E K (.returned v) W:=⟨v,l',rfl,hk,p.sat hs⟩
theorem AU(Ds:List Nat)(l2:Ac)(hr:fn.results=rs.toArray)(hp:Keep l (Ds.map Cv++l2))(h:ResS P fr l2 rs vs)(p2:Keep l2 l')(hk:K (JQ vs) l'):
 C3 N E (bodyPostM Fence.wide 0 P fn (RK E K)) .ret fr (Ds.map HJ) l:=by
 refine KG hp ⟨λa W hf hds hs=>?_⟩;show LeavesInM Fence.wide 0 P fn a.tmps (RK E K) a.defers .returning W;rw[hds];exact RC (v:=JQ vs) Ds W hs λW' hs'=>⟨R9 hr hf hs' h,RK.keep p2 hk hs'⟩
end
def wo(N:Nat)(E:World){α:Type}(fx:α->Fr)(dx:α->List Deferred)(lx:α->Ac)(pre:α->Prop)(μ:α->Nat)(x:α)(a:Act)(W:World):Prop:=
 ∃y,pre y/\μ y<μ x/\FSat N (fx y) a/\a.defers=dx y/\Sat E (lx y) W
section
variable{fr:Fr}{l:Ac}
theorem yC(fx:α->Fr)(dx:α->List Deferred)(lx:α->Ac)(pre:α->Prop)(μ:α->Nat)(x₀:α)(h0:pre x₀)(hf0:FSub (fx x₀) fr)(rx:ds=dx x₀)(ru:Keep l (lx x₀))
 (round: ∀x,pre x->BS P ro N E c (Exit.then (wo N E fx dx lx pre μ x) Q) (fx x) (dx x) (lx x)):BS P ro N E (.loop c) Q fr ds l:=by
 refine⟨λa W hf hds hs=>?_⟩;refine wpIn_loop (λa W=> ∃x,pre x/\FSat N (fx x) a/\a.defers=dx x/\Sat E (lx x) W) (λa W=>TD λn=> ∃x,pre x/\FSat N (fx x) a/\a.defers=dx x/\Sat E (lx x) W/\μ x=n) ⟨x₀,h0,hf.sub hf0.spec,hds.trans rx,ru.sat hs⟩ ?_;intro a W hI;have Yz: ∃n,∃x,pre x/\FSat N (fx x) a/\a.defers=dx x/\Sat E (lx x) W/\μ x=n:=by obtain⟨x,h1,h2,h3,h4⟩:=hI;exact⟨_,x,h1,h2,h3,h4,rfl⟩
 obtain⟨⟨x,h1,h2,h3,h4,h5⟩,_⟩:=LX Yz;refine wpIn_mono ((round x h1).run a W h2 h3 h4) ?_;intro e a' W' hq;cases e with
 |normal=>obtain⟨y,k1,k2,k3,k4,k5⟩:=hq;refine⟨⟨y,k1,k3,k4,k5⟩,?_⟩;exact Ex ((LX (p:=λn=> ∃x,pre x/\FSat N (fx x) a'/\a'.defers=dx x/\Sat E (lx x) W'/\μ x=n) ⟨_,y,k1,k3,k4,k5,rfl⟩).2 (μ y) ⟨y,k1,k3,k4,k5,rfl⟩) (by rw[<-h5];exact k2)
 |_=>exact hq
theorem yD{fx:α->Fr}{dx:α->List Deferred}{lx:α->Ac}{pre:α->Prop}{μ:α->Nat}{x:α}(y:α)(h1:pre y)(h2:μ y<μ x)(h3:FSub (fx y) fr)(hd:ds=dx y)(h4:Keep l (lx y)):C3 N E (Exit.then (wo N E fx dx lx pre μ x) Q) .normal fr ds l:=
 ⟨λa W hf hds hs=>⟨y,h1,h2,hf.sub h3.spec,hds.trans hd,h4.sat hs⟩⟩
end
structure FN(P:Program)(gf:Nat)(lb:Ap){α:Type}(enc:α->Ap)(S Sp:List α->Prop)(Need:List α->Ac->Prop):Prop where
 run: ∀(r:Nat) (I Ix:List α->Ac->Prop) (G0:Ac),(∀pre l G,(∀c,c∈G0->c∈G)->I pre l->Need pre (l++G))->
  (∀pre x l G,(∀c,c∈G0->c∈G)->I pre l->Sp (pre++[x])->Ot P r (enc x) (l++G) (λv l'=> ∃l1,l'=l1++G/\((v= .bool true/\I (pre++[x]) l1)\/(v= .bool false/\Ix (pre++[x]) l1))))->
  ∀l G,(∀c,c∈G0->c∈G)->I [] l->Fn P gf (.func (.yield r) #[] #[]::lb) (l++G) (λv l'=> ∃l1,l'=l1++G/\((∃xs,S xs/\I xs l1)\/(∃pre,Sp pre/\Ix pre l1)))
def KH{α:Type}(I:List α->Ac->Prop)(Ix:Code->List α->Ac->Prop)(xs:List α)(r:Nat)(Gb:LoopState->Option Code->Loop)(T:Ac):Value->Ac->Prop:=λv l'=>
 (v= .bool true/\ ∃l1,I xs l1/\l'=l1++(r,.loop (Gb .ready none))::T)\/(v= .bool false/\ ∃c l1,Ix c xs l1/\l'=l1++(r,.loop (Gb .done (some c)))::T)
def DV(fn:FuncId)(tmps:Array Value)(ps:Array Tmp)(assign body:Code)(D:Nat)(st:LoopState)(pe:Option Code):Loop:={state:=st,pending:=pe,fn,tmps,params:=ps,assign,body,defers:=D}
def P3(P:Program)(r:Nat)(body:Code)(Q:Exit->Act->World->Prop):Act->World->Prop:=λa w=> ∃w2,(Instr.beginRound r).run P w= .ok () w2/\body.wpIn (Fw (some r)) 0 P Q a w2
def DY:List Nat->Ap->Fr->Fr
 |p::ps,v::vs,fr=>DY ps vs ((p,v)::fr)
 |_,_,fr=>fr
theorem VZ{N:Nat}: ∀(ps:List Nat) (vs:Ap) (fr:Fr) (a:Act) (ds:List Deferred),FSat N fr a->ps.all (λp=>Nat.blt p N)=true->
 FSat N (DY ps vs fr) {tmps:=(ps.zip vs).foldl (λt (p,v)=>t.setIfInBounds p v) a.tmps,defers:=ds}
 |[],vs,fr,a,ds,hf,_=>⟨hf.size,hf.at_⟩
 |p::ps,[],fr,a,ds,hf,_=>⟨hf.size,hf.at_⟩
 |p::ps,v::vs,fr,a,ds,hf,hb=>by simp only[IA,AM] at hb;have h1:FSat N ((p,v)::fr) (a.put (some p) v):=FSat.put (d:=some p) hf v hb.1;exact VZ ps vs _ _ ds h1 hb.2
section
variable{fr:Fr}{fn:FuncId}{ps:Array Tmp}{I:List α->Ac->Prop}{Ix:Code->List α->Ac->Prop}{xs:List α}
theorem CP{L':Ac}{Qx:Exit->Act->World->Prop}(hu:Upd L r (.loop (DV fn tmps ps assign body D .ready none)) (.loop (DV fn tmps ps assign body D .busy none)) L')(h:BS P (some r) N E body Q fr ds L'):C3 N E (Exit.then (P3 P r body Q) Qx) .normal fr ds L:=
 ⟨λa W hf hds hs=>⟨_,run_beginRound (hs.has _ hu.mem) rfl,h.run a _ hf hds (hs.upd hu)⟩⟩
theorem FX(l:Ac)(b:Nat)(o o':Obj)(T:Ac):Upd (l++(b,o)::T) b o o' (l++(b,o')::T):=by
 induction l with
 |nil=>exact .here
 |cons c l ih=>exact .there ih
theorem Cn(l1:Ac)(hk:Keep L (l1++(r,.loop (DV fn tmps ps assign body D .busy none))::T))(hI:I xs l1):C3 N E (roundPost P r (RK E (KH I Ix xs r (DV fn tmps ps assign body D) T))) .normal fr ds L:=
 ⟨λa W hf hds hs=>by have hs:=hk.sat hs;have hm:W.heap[r]?=some (.loop (DV fn tmps ps assign body D .busy none)):=hs.has (r,_) (by simp);refine⟨_,_,run_endRound none hm,_,_,rfl,.inl ⟨rfl,l1,hI,rfl⟩,hs.upd (FX _ _ _ _ _)⟩⟩
theorem EH(l1:Ac)(hk:Keep L (l1++(r,.loop (DV fn tmps ps assign body D .busy none))::T))(hI:Ix .ret xs l1):C3 N E (roundPost P r (RK E (KH I Ix xs r (DV fn tmps ps assign body D) T))) .ret fr ds L:=
 ⟨λa W hf hds hs=>by have hs:=hk.sat hs;have hm:W.heap[r]?=some (.loop (DV fn tmps ps assign body D .busy none)):=hs.has (r,_) (by simp);refine⟨_,_,run_endRound (some .ret) hm,_,_,rfl,.inr ⟨rfl,.ret,l1,hI,rfl⟩,hs.upd (FX _ _ _ _ _)⟩⟩
theorem Fe(l1:Ac)(hk:Keep L (l1++(r,.loop (DV fn tmps ps assign body D .busy none))::T))(hI:Ix (.exit k) xs l1):C3 N E (roundPost P r (RK E (KH I Ix xs r (DV fn tmps ps assign body D) T))) (.exit k) fr ds L:=
 ⟨λa W hf hds hs=>by have hs:=hk.sat hs;have hm:W.heap[r]?=some (.loop (DV fn tmps ps assign body D .busy none)):=hs.has (r,_) (by simp);refine⟨_,_,run_endRound (some (.exit k)) hm,_,_,rfl,.inr ⟨rfl,.exit k,l1,hI,rfl⟩,hs.upd (FX _ _ _ _ _)⟩⟩
end
structure wp(P:Program)(gf:Nat)(lb:Ap){α:Type}(enc:α->Ap)(S Sp:List α->Prop)(Need:List α->Ac->Prop)(C:Ac):Prop where
 run: ∀(r:Nat) (I Ix:List α->Ac->Prop) (G0:Ac),(∀pre l G,(∀c,c∈G0->c∈G)->I pre l->Need pre (l++G))->
  (∀pre x l G,(∀c,c∈G0->c∈G)->I pre l->Sp (pre++[x])->Ot P r (enc x) (l++G) (λv l'=> ∃l1,l'=l1++G/\((v= .bool true/\I (pre++[x]) l1)\/(v= .bool false/\Ix (pre++[x]) l1))))->
  ∀l G,(∀c,c∈G0->c∈G)->I [] l->Fn P gf (.func (.yield r) #[] #[]::lb) (l++(C++G)) (λv l'=> ∃l1,l'=l1++G/\((∃xs,S xs/\I xs l1)\/(∃pre,Sp pre/\Ix pre l1)))
section
variable{fr:Fr}{g:Operand}{ps:List Tmp}{gf:Nat}{lb:Ap}{enc:α->Ap}{S Sp:List α->Prop}{Need:List α->Ac->Prop}
theorem TJ{fn:FuncId}{I:List α->Ac->Prop}{Ix:Code->List α->Ac->Prop}{pre:List α}{x:α}{l:Ac}(N3:(enc x).length=ps.length)(kJ:ps.all (λp=>Nat.blt p N)=true)(hf: ∀a:Act,a.tmps=tmps->FSat N fr a)
 (h: ∀E,BS P (some r) N E assign (Exit.then (P3 P r body (roundPost P r (RK E (KH I Ix (pre++[x]) r (DV fn tmps ps.toArray assign body D) T)))) (λ_ _ _=>False)) (DY ps (enc x) fr) [] (l++(r,.loop (DV fn tmps ps.toArray assign body D .ready none))::T)):
 Ot P r (enc x) (l++(r,.loop (DV fn tmps ps.toArray assign body D .ready none))::T) (KH I Ix (pre++[x]) r (DV fn tmps ps.toArray assign body D) T):=by
 refine⟨λE W hs=>?_⟩;have hm:W.heap[r]?=some (.loop (DV fn tmps ps.toArray assign body D .ready none)):=hs.has (r,_) (by simp);refine⟨fn,_,assign,body,run_yield hm (by simp[DV,N3]),roundIn_of_wpIn trivial ?_⟩;refine(h E).run _ W ?_ rfl hs;have:=VZ ps (enc x) fr {tmps:=tmps,defers:=[]} [] (hf _ rfl) kJ;have e:(Array.zip ps.toArray (enc x).toArray)=(ps.zip (enc x)).toArray:=by simp
 show FSat N _ {tmps:=(Array.zip ps.toArray (enc x).toArray).foldl (λt (p,v)=>t.setIfInBounds p v) tmps,defers:=[]};rw[e,List.foldl_toArray];exact this
theorem YR(hg:ev fr g=some (.func (.func gf) #[] lb.toArray))[en:EN P gf]{C:Ac}(hit:wp P gf lb enc S Sp Need C)(N3: ∀x,(enc x).length=ps.length)(kJ:ps.all (λp=>Nat.blt p N)=true)
 (I:List α->Ac->Prop)(Ix:Code->List α->Ac->Prop)(l0 G:Ac)(Cf: ∀pre l X,(∀c,c∈G->c∈X)->I pre l->Need pre (l++X))(hL:Keep L (l0++(C++G)))(h0:I [] l0)
 (Nd: ∀(E:World) (r:Nat) (Gb:LoopState->Option Code->Loop) (pre:List α) (x:α) (l T:Ac),(∃fn tmps D,Gb=DV fn tmps ps.toArray assign body D)->(∀c,c∈G->c∈T)->I pre l->Sp (pre++[x])->
   BS P (some r) N E assign (Exit.then (P3 P r body (roundPost P r (RK E (KH I Ix (pre++[x]) r Gb T)))) (λ_ _ _=>False)) (DY ps (enc x) fr) [] (l++(r,.loop (Gb .ready none))::T))
 (Oj: ∀(D:Nat) (xs:List α) (l:Ac),S xs->I xs l->C3 N E Q .normal fr (HJ D::ds) (Cv D::(l++G)))
 (KS: ∀(D:Nat) (c:Code) (pre:List α) (l:Ac),Sp pre->Ix c pre l->BS P none N E c Q fr (HJ D::ds) (Cv D::(l++G))):
 BS P none N E (.rangeFunc g ps.toArray assign body) Q fr ds L:=by
 refine⟨λa W hf hds hs=>wpIn_rangeFunc ?_⟩;intro fn hfn;have hs:=hL.sat hs;obtain⟨Gb,hrec⟩: ∃Gb,Gb=DV fn a.tmps ps.toArray assign body W.heap.size:=⟨_,rfl⟩
 obtain⟨W1,Qp⟩:=ξ ((W.alloc (.deferred (some []))).alloc (.loop (Gb .ready none)))
 have Nc:Sat E ((W.heap.size+1,.loop (Gb .ready none))::(W.heap.size,.deferred (some []))::(l0++(C++G))) W1:=by have:=(hs.alloc (.deferred (some []))).alloc (.loop (Gb .ready none));rw[World.size_alloc,Qp] at this;exact this
 have vD:=hf.agrees g _ hg;refine⟨W.heap.size+1,[HJ W.heap.size],W1,{target:= .fn (.func gf) lb.toArray,args:=#[.func (.yield (W.heap.size+1)) #[] #[]]},W1,gf,#[.func (.yield (W.heap.size+1)) #[] #[]]++lb.toArray,W1,?_,?_,λ_ _=>trivial,?_,λh=>(by cases h),?_⟩
 ·rw[<-Qp,hrec];exact run_enterLoop_outer _ _ _ _ _
 ·simp only[resolve,vD];simp[Deferred.ofValue,Act.eval]
 ·simp[invoke,en.out]
 ·have hR:=hit.run (W.heap.size+1)
   (λpre l=> ∃l1,I pre l1/\l=l1++[(W.heap.size+1,.loop (Gb .ready none)),Cv W.heap.size])
   (λpre l=> ∃c l1,Ix c pre l1/\l=l1++[(W.heap.size+1,.loop (Gb .done (some c))),Cv W.heap.size])
   G
   (λpre l G' hG ⟨l1,h1,h2⟩=>by rw[h2,Am];exact Cf _ _ _ (λc hc=>Aa _ (hG c hc)) h1)
   (λpre x l G' hG ⟨l1,h1,h2⟩ DG=>by
     subst h2;have hy:=TJ (P:=P) (N:=N) (fr:=fr) (assign:=assign) (body:=body) (ps:=ps) (enc:=enc) (r:=W.heap.size+1) (fn:=fn) (tmps:=a.tmps) (D:=W.heap.size) (T:=Cv W.heap.size::G') (I:=I) (Ix:=Ix) (pre:=pre) (x:=x) (l:=l1) (N3 x) kJ
      (λa' ha'=>⟨by rw[ha'];exact hf.size,λd v hd=>by rw[ha'];exact hf.at_ d v hd⟩) (λE'=>by have:=Nd E' (W.heap.size+1) Gb pre x l1 (Cv W.heap.size::G') ⟨fn,a.tmps,W.heap.size,hrec⟩ (λc hc=>An _ (hG c hc)) h1 DG;rw[hrec] at this;exact this)
     rw[<-hrec] at hy;refine⟨λE' W' hs'=>?_⟩;have e:l1++[(W.heap.size+1,Obj.loop (Gb .ready none)),Cv W.heap.size]++G'=l1++(W.heap.size+1,Obj.loop (Gb .ready none))::Cv W.heap.size::G':=by simp
     rw[e] at hs';obtain⟨fn',tm,asg,bo,k1,k2⟩:=hy.run E' W' hs';refine⟨fn',tm,asg,bo,k1,k2.mono ?_⟩;rintro e' W'' ⟨v,l',rfl,hk,hs''⟩;refine⟨v,l',rfl,?_,hs''⟩;rcases hk with⟨hv,l2,hI,rfl⟩|⟨hv,c,l2,hI,rfl⟩
     ·exact⟨l2++[(W.heap.size+1,.loop (Gb .ready none)),Cv W.heap.size],by simp,.inl ⟨hv,l2,hI,rfl⟩⟩
     ·exact⟨l2++[(W.heap.size+1,.loop (Gb .done (some c))),Cv W.heap.size],by simp,.inr ⟨hv,c,l2,hI,rfl⟩⟩)
   (l0++[(W.heap.size+1,.loop (Gb .ready none)),Cv W.heap.size]) G (λ_ h=>h) ⟨l0,h0,rfl⟩
  have Ol:Sat E (l0++[(W.heap.size+1,Obj.loop (Gb .ready none)),Cv W.heap.size]++(C++G)) W1:=Nc.perm (by refine List.Perm.trans ?_ (Jl (C++G) (E3 (l₁:=[(W.heap.size+1,Obj.loop (Gb .ready none)),Cv W.heap.size]) (l₂:=l0)));simp[Cv])
  have hc:=hR.run E W1 Ol;have li:(Value.func (.yield (W.heap.size+1)) #[] #[]::lb).toArray=#[.func (.yield (W.heap.size+1)) #[] #[]]++lb.toArray:=by simp
  rw[li] at hc;refine Nh (hc.mono ?_);rintro e W2 ⟨v,l',rfl,⟨l1,rfl,⟨xs,hS,l2,hI,rfl⟩|⟨pre,hSp,c,l2,hI,rfl⟩⟩,R6⟩
  ·have hm:W2.heap[W.heap.size+1]?=some (.loop (Gb .ready none)):=R6.has (W.heap.size+1,_) (by simp);subst hrec;refine⟨none,_,run_endLoop (P:=P) hm (by simp[DV]),?_⟩;refine(Oj W.heap.size xs l2 hS hI).run {a with defers:=[HJ W.heap.size]++a.defers} _ ⟨hf.size,hf.at_⟩ (by rw[<-hds];rfl) ?_;have h4:Sat E (l2++(W.heap.size+1,Obj.loop (DV fn a.tmps ps.toArray assign body W.heap.size .ready none))::Cv W.heap.size::G) W2:=by simpa using R6
   have h5:=h4.upd (FX l2 _ _ (.loop {DV fn a.tmps ps.toArray assign body W.heap.size .ready none with state:= .exhausted}) _);refine(h5.perm AJ).tail.perm AJ
  ·have hm:W2.heap[W.heap.size+1]?=some (.loop (Gb .done (some c))):=R6.has (W.heap.size+1,_) (by simp);subst hrec;refine⟨some c,_,run_endLoop (P:=P) hm (by simp[DV]),?_⟩;refine(KS W.heap.size c pre l2 hSp hI).run {a with defers:=[HJ W.heap.size]++a.defers} _ ⟨hf.size,hf.at_⟩ (by rw[<-hds];rfl) ?_;have h4:Sat E (l2++(W.heap.size+1,Obj.loop (DV fn a.tmps ps.toArray assign body W.heap.size .done (some c)))::Cv W.heap.size::G) W2:=by simpa using R6
   have h5:=h4.upd (FX l2 _ _ (.loop {DV fn a.tmps ps.toArray assign body W.heap.size .done (some c) with state:= .exhausted}) _);refine(h5.perm AJ).tail.perm AJ
theorem Dj(hg:ev fr g=some (.func (.func gf) #[] lb.toArray))[en:EN P gf](hit:FN P gf lb enc S Sp Need)(N3: ∀x,(enc x).length=ps.length)(kJ:ps.all (λp=>Nat.blt p N)=true)
 (I:List α->Ac->Prop)(Ix:Code->List α->Ac->Prop)(l0 G:Ac)(Cf: ∀pre l X,(∀c,c∈G->c∈X)->I pre l->Need pre (l++X))(hL:Keep L (l0++G))(h0:I [] l0)
 (Nd: ∀(E:World) (r:Nat) (Gb:LoopState->Option Code->Loop) (pre:List α) (x:α) (l T:Ac),(∃fn tmps D,Gb=DV fn tmps ps.toArray assign body D)->(∀c,c∈G->c∈T)->I pre l->Sp (pre++[x])->
   BS P (some r) N E assign (Exit.then (P3 P r body (roundPost P r (RK E (KH I Ix (pre++[x]) r Gb T)))) (λ_ _ _=>False)) (DY ps (enc x) fr) [] (l++(r,.loop (Gb .ready none))::T))
 (Oj: ∀(D:Nat) (xs:List α) (l:Ac),S xs->I xs l->C3 N E Q .normal fr (HJ D::ds) (Cv D::(l++G)))
 (KS: ∀(D:Nat) (c:Code) (pre:List α) (l:Ac),Sp pre->Ix c pre l->BS P none N E c Q fr (HJ D::ds) (Cv D::(l++G))):
 BS P none N E (.rangeFunc g ps.toArray assign body) Q fr ds L:=
 YR hg (C:=[]) ⟨λr I Ix G0 h1 h2 l G h3 h4=>hit.run r I Ix G0 h1 h2 l G h3 h4⟩ N3 kJ I Ix l0 G Cf hL h0 Nd Oj KS
end
abbrev BI:=Nat×Bool×Oper
variable{pl A6:List BI}{x:BI}{FA:List (BI×Value)}
section
def StepV(P:Program)(ro:Option Nat)(ops:Array Oper)(o:Oper)(a:Act)(W:World)(K:Value->World->Prop):Prop:=
 if Region.wanted o (yielded ops a.tmps) then OpVal P ro o a.eval W K else K undef W
theorem StepV.mono{K K':Value->World->Prop}(hk: ∀v w,K v w->K' v w)(h:StepV P ro ops o a W K):StepV P ro ops o a W K':=by
 unfold StepV at*
 split
 ·rename_i hw;rw[Ad hw] at h;exact h.mono hk
 ·rename_i hw;rw[Ab hw] at h;exact hk _ _ h
theorem StepV.put{K:Value->World->Prop}{d:Option Nat}{u:Value}(hs: ∀cs b,o.op≠ .select cs b)(hd: ∀t,d=some t->t∉o.looksAt ops):StepV P ro ops o (a.put d u) W K<->StepV P ro ops o a W K:=by unfold StepV OpVal;rw[wanted_put o a d u hd,execOp_put o hs a d u hd]
theorem StepV.op{K:Value->World->Prop}{next:Act->World->Prop}(hi:ops[i]?=some o)(hd:Jt o.op=true)(h:StepV P ro ops o a W K)(hk: ∀v w,K v w->next (a.put o.dst v) w):wpOpIn (Fw ro) 0 P ops Q i next a W:=by
 unfold wpOpIn;rw[hi];unfold StepV at h;simp only
 split
 ·rename_i hw;rw[Ad hw] at h;exact h.wpIn hd hk
 ·rename_i hw;rw[Ab hw] at h;exact⟨λ_ _=>trivial,hk _ _ h⟩
def FP(tbl:List (List Nat))(j i:Nat):Bool:=((tbl[j]?).getD []).contains i
abbrev F5:=List (Nat×Ac)
abbrev Sw:=Option (List (Nat×Nat))
def PD(sw:Sw)(i j:Nat):Bool:=match sw with
 |some L=>L.contains (i,j)
 |none=>false
def Nl(P:Program)(ro:Option Nat)(E:World)(ops:Array Oper)(R:Ac)(tbl:List (List Nat))(sp:F5)(i:Nat)(o:Oper)(Φ:Act->Prop)(l:Ac)(K:Act->Value->Ac->Prop):Prop:=
 ∀a W,Φ a->Sat E l W->StepV P ro ops o a W (λv W'=> ∃l',K a v l'/\(∀c,c∈R->c∈l')/\(∀x,x∈sp->FP tbl i x.1=false-> ∀c,c∈x.2->c∈l')/\Sat E l' W')
def Nm(ops:Array Oper)(tbl:List (List Nat))(sw:Sw)(x y:BI):Bool:=
 (((x.2.1&&x.2.2.apart ops y.2.2)||FP tbl y.1 x.1)||PD sw x.1 y.1)&&(x.2.2.after.all λe=>!Region.binds .any e||e.on !=y.1)&&x.1 !=y.1
def TK(ops:Array Oper)(x:BI):Bool:=(x.2.2.after.all λe=>!Region.binds .any e||(e.on !=x.1&&decide (e.on<ops.size)))&&Jt x.2.2.op&&(match x.2.2.op with| .select ..=>false|_=>true)
def GE(ops:Array Oper)(tbl:List (List Nat))(sw:Sw):List BI->Bool
 |[]=>true
 |x::r=>TK ops x&&r.all (Nm ops tbl sw x)&&GE ops tbl sw r
def VC(sw:Sw)(pl:List BI):Bool:=match sw with
 |some L=>L.all λp=>pl.any λx=>x.1==p.1&&!x.2.1
 |none=>true
def PE(tbl:List (List Nat))(sw:Sw)(i:Nat)(A6:List BI)(j:Nat):Prop:=j=i\/(PD sw i j=true/\(∀y,y∈A6->FP tbl j y.1=false)/\ ∃y,y∈A6/\y.1=j)
inductive SemPlan(P:Program)(ro:Option Nat)(E:World)(ops:Array Oper)(Q:Exit->Act->World->Prop)(R:Ac)(tbl:List (List Nat)):Sw->F5->List BI->(Act->Prop)->Ac->Prop
 |nil {sw:Sw} {sp:F5} {Φ:Act->Prop} {l:Ac}:(∀a W,Φ a->Sat E l W->Q .normal a W)->SemPlan P ro E ops Q R tbl sw sp [] Φ l
 |quiet {sw:Sw} {sp:F5} {i:Nat} {o:Oper} {A6:List BI} {Φ:Act->Prop} {l:Ac} (v:Value) (S:Ac):(∀c,c∈S->c∈l)->(∀a,Φ a-> ∀E' l' W,(∀c,c∈R->c∈l')->(∀c,c∈S->c∈l')->Sat E' l' W->StepV P ro ops o a W (λu W'=>u=v/\Sat E' l' W'))->SemPlan P ro E ops Q R tbl sw ((i,S)::sp) A6 (λa'=> ∃a,Φ a/\a'=a.put o.dst v) l->SemPlan P ro E ops Q R tbl sw sp ((i,true,o)::A6) Φ l
 |eff {sw:Sw} {sp:F5} {i:Nat} {o:Oper} {A6:List BI} {Φ:Act->Prop} {l:Ac} (oo:Nat->Oper) (K:Nat->Act->Value->Ac->Prop) (rf:Nat->List BI) (sf:Nat->Sw):
   (∀j,PE tbl sw i A6 j->((j,false,oo j)::rf j).Perm ((i,false,o)::A6)/\((j=i/\sf j=sw/\rf j=A6)\/(GE ops tbl (sf j) (rf j)=true/\VC (sf j) (rf j)=true)))->
   (∀j,PE tbl sw i A6 j->Nl P ro E ops R tbl sp j (oo j) Φ l (K j))->
   (∀j,PE tbl sw i A6 j-> ∀a v l',K j a v l'->SemPlan P ro E ops Q R tbl (sf j) sp (rf j) (λa'=>a'=a.put (oo j).dst v) l')->SemPlan P ro E ops Q R tbl sw sp ((i,false,o)::A6) Φ l
def putAll:List (BI×Value)->Act->Act
 |[],a=>a
 |(p,v)::r,a=>putAll r (a.put p.2.2.dst v)
theorem Ka(x y:List (BI×Value))(a:Act):putAll (x++y) a=putAll y (putAll x a):=by
 induction x generalizing a with
 |nil=>rfl
 |cons p x ih=>exact ih _
theorem TM{x:List (BI×Value)}{d:Option Nat}(h: ∀p,p∈x-> ∀t,d=some t->p.1.2.2.dst≠some t):putAll x (a.put d v)=(putAll x a).put d v:=by
 induction x generalizing a with
 |nil=>rfl
 |cons p x ih=>obtain⟨p,u⟩:=p;simp only[putAll];rw[Act.put_comm a v u (λt ht=>h _ Al t ht)];exact ih λq hq=>h q (An _ hq)
theorem StepV.putAll{o:Oper}{W:World}{K:Value->World->Prop}(hs: ∀cs b,o.op≠ .select cs b): ∀{x:List (BI×Value)} {a:Act},(∀p,p∈x-> ∀t,p.1.2.2.dst=some t->t∉o.looksAt ops)->(StepV P ro ops o (putAll x a) W K<->StepV P ro ops o a W K)
 |[],a,_=>DK
 |(p,v)::x,a,h=>by simp only[Go.Proofs.YtlifcingifodfaaGreat.putAll];rw[StepV.putAll hs (λq hq=>h q (An _ hq)),StepV.put hs (λt ht=>h _ Al t ht)]
def TN(ops:Array Oper)(tbl:List (List Nat)):Bool:=
 (List.range ops.size).all λj=>((tbl[j]?).getD []).all λi=>match ops[j]? with
   |some o=>o.after.any λe=>Region.binds .any e&&(e.on==i||(decide (e.on<j)&&FP tbl e.on i))
   |none=>false
def ss(ops:Array Oper)(C5:Array Bool):Prop:= ∀j o,ops[j]?=some o->C5.getD j false=true-> ∀e∈o.after,Region.binds .any e=true->C5.getD e.on false=true
theorem bj(ht:TN ops tbl=true)(hd:ss ops C5): ∀(n j:Nat) (o:Oper),j<=n->ops[j]?=some o->(∀e∈o.after,Region.binds .any e=true->C5.getD e.on false=true)-> ∀i,FP tbl j i=true->C5.getD i false=true:=by
 intro n
 induction n with
 |zero=>
  intro j o hj ho GK i hi;obtain rfl:j=0:=by omega
  have C7:0<ops.size:=(BK.1 ho).1;have h1:=AS.1 ht 0 (by simpa using C7);have h2:=AS.1 h1 i (by simpa[FP] using hi);rw[ho] at h2;simp only[Array.any_eq_true,AM,DA,Hw,A3] at h2;obtain⟨k,hk,hb,he|⟨AeB,_⟩⟩:=h2
  ·rw[<-he];exact GK _ (LU hk) hb
  ·omega
 |succ n ih=>
  intro j o hj ho GK i hi;have C7:j<ops.size:=(BK.1 ho).1;have h1:=AS.1 ht j (by simpa using C7);have h2:=AS.1 h1 i (by simpa[FP] using hi);rw[ho] at h2;simp only[Array.any_eq_true,AM,DA,Hw,A3] at h2;obtain⟨k,hk,hb,he|⟨AeB,ha⟩⟩:=h2
  ·rw[<-he];exact GK _ (LU hk) hb
  ·have hl:=GK _ (LU hk) hb;have hs:o.after[k].on<ops.size:=by omega
   exact ih _ _ Af (CQ hs) (hd _ _ (CQ hs) hl) i ha
theorem GX(h:TK ops x=true):(∀e∈x.2.2.after,Region.binds .any e=true->e.on≠x.1/\e.on<ops.size)/\Jt x.2.2.op=true/\ ∀cs b,x.2.2.op≠ .select cs b:=by unfold TK at h;simp only[AM] at h;obtain⟨⟨h1,h2⟩,h3⟩:=h;refine⟨λe he hb=>?_,h2,λcs b hc=>by rw[hc] at h3;cases h3⟩;obtain⟨k,hk,rfl⟩:=Array.getElem_of_mem he;have:=Array.all_eq_true.1 h1 k hk;rw[hb] at this;simpa using this
theorem FF{sw:Sw}{y:BI}(h:Nm ops tbl sw x y=true):((x.2.1=true/\x.2.2.apart ops y.2.2=true)\/FP tbl y.1 x.1=true\/PD sw x.1 y.1=true)/\(∀e∈x.2.2.after,Region.binds .any e=true->e.on≠y.1)/\x.1≠y.1:=by unfold Nm at h;simp only[AM,DA,P0,ne_eq] at h;obtain⟨⟨h1,h2⟩,h3⟩:=h;refine⟨by rcases h1 with(h1|h1)|h1;exact .inl h1;exact .inr (.inl h1);exact .inr (.inr h1),λe he hb=>?_,h3⟩;obtain⟨k,hk,rfl⟩:=Array.getElem_of_mem he;have:=Array.all_eq_true.1 h2 k hk;rw[hb] at this;simpa using this
theorem Nn{tbl:List (List Nat)}{sw:Sw}: ∀{l:List BI},GE ops tbl sw l=true->(∀x,x∈l->TK ops x=true)/\l.Pairwise (λx y=>Nm ops tbl sw x y=true)
 |[],_=>⟨by simp,.nil⟩
 |x::r,h=>by simp only[GE,AM] at h;obtain⟨⟨h1,h2⟩,h3⟩:=h;obtain⟨k1,k2⟩:=Nn h3;exact⟨λy hy=>by rcases Au.1 hy with rfl|hy;exact h1;exact k1 y hy,Ck.2 ⟨λy hy=>AS.1 h2 y hy,k2⟩⟩
structure Way(P:Program)(ro:Option Nat)(E:World)(ops:Array Oper)(Q:Exit->Act->World->Prop)(R:Ac)(tbl:List (List Nat))(sw:Sw)(sp:F5)(C5:Array Bool)(FA:List (BI×Value))(A6:List BI)(Φ:Act->Prop)(l:Ac)(a:Act)(W:World):Prop where
 phi:Φ (putAll FA a)
 sub: ∀c,c∈R->c∈l
 sat:Sat E l W
 plan:SemPlan P ro E ops Q R tbl sw sp A6 Φ l
 quiet: ∀p1 x v p2,FA=p1++(x,v)::p2->x.2.1=true/\ ∃S,(x.1,S)∈sp/\(∀c,c∈S->c∈l)/\ ∀E' l' W,(∀c,c∈R->c∈l')->(∀c,c∈S->c∈l')->Sat E' l' W->StepV P ro ops x.2.2 (putAll p1 a) W (λu W'=>u=v/\Sat E' l' W')
 size:C5.size=ops.size
 un: ∀i,i<ops.size->(C5.getD i true=false<-> ∃x,x∈FA.map Prod.fst++A6/\x.1=i)
 num: ∀x,x∈FA.map Prod.fst++A6->ops[x.1]?=some x.2.2
 self: ∀x,x∈FA.map Prod.fst++A6->TK ops x=true
 pairs:(FA.map Prod.fst++A6).Pairwise (λx y=>Nm ops tbl sw x y=true)
 swf: ∀x,x∈FA.map Prod.fst++A6-> ∀j,PD sw x.1 j=true->x.2.1=false
 down:ss ops C5
theorem eM(h:i<C5.size):C5.getD i true=C5.getD i false:=by simp[Dt,CQ h]
theorem Way.notAnc{sw:Sw}{sp:F5}{l:Ac}(h:Way P ro E ops Q R tbl sw sp C5 FA A6 Φ l a W)(ht:TN ops tbl=true)(hr:j∈Region.ready .any ops C5)(hx:x∈FA.map Prod.fst++A6):FP tbl j x.1=false:=by
 obtain⟨h0,o,ho,GK⟩:=mem_ready.1 hr;cases hc:FP tbl j x.1
 ·rfl
 ·have h1:=bj ht h.down j j o (Bf _) ho GK x.1 hc;have C7:x.1<ops.size:=(BK.1 (h.num x hx)).1;have h2:=(h.un x.1 C7).2 ⟨x,hx,rfl⟩;rw[eM (by rw[h.size];exact C7),h1] at h2;cases h2
theorem VD(h:j<C5.size)(d:Bool):(C5.setIfInBounds j true).getD j d=true:=by simp[Dt,h]
theorem Way.down'{tbl:List (List Nat)}(hd:ss ops C5)(Vk:C5.size=ops.size)(hr:j∈Region.ready .any ops C5):ss ops (C5.setIfInBounds j true):=by
 obtain⟨h0,o,ho,GK⟩:=mem_ready.1 hr;intro i oi hi hl e he hb;by_cases e1:i=j
 ·subst e1;rw[ho] at hi;cases hi;exact getD_set_true (GK e he hb)
 ·rw[getD_set_ne _ (FW e1)] at hl;exact getD_set_true (hd i oi hi hl e he hb)
theorem YS{p q:List BI}(Vk:C5.size=ops.size)(hx:x.1<ops.size)(GS: ∀y,y∈p++q->y.1≠x.1)(h: ∀i,i<ops.size->(C5.getD i true=false<-> ∃y,y∈p++x::q/\y.1=i)):
 ∀i,i<ops.size->((C5.setIfInBounds x.1 true).getD i true=false<-> ∃y,y∈p++q/\y.1=i):=by
 intro i hi;by_cases e:i=x.1
 ·subst e;rw[VD (by rw[Vk];exact hx)];constructor
  ·intro h0;cases h0
  ·rintro⟨y,hy,hyi⟩;exact absurd hyi (GS y hy)
 ·rw[getD_set_ne _ (FW e),h i hi];constructor
  ·rintro⟨y,hy,rfl⟩;refine⟨y,?_,rfl⟩;rcases AB.1 hy with hy|hy
   ·exact Ai _ hy
   ·rcases Au.1 hy with rfl|hy
    ·exact absurd rfl e
    ·exact Aa _ hy
  ·rintro⟨y,hy,rfl⟩;refine⟨y,?_,rfl⟩;rcases AB.1 hy with hy|hy
   ·exact Ai _ hy
   ·exact Aa _ (An _ hy)
theorem Way.pend_step{sw:Sw}{sp:F5}{p1 p2:List (BI×Value)}{l:Ac}(ht:TN ops tbl=true)(h:Way P ro E ops Q R tbl sw sp C5 (p1++(x,v)::p2) A6 Φ l a W)(hr:x.1∈Region.ready .any ops C5):
 StepV P ro ops x.2.2 a W (λu W'=>Way P ro E ops Q R tbl sw sp (C5.setIfInBounds x.1 true) (p1++p2) A6 Φ l (a.put x.2.2.dst u) W'):=by
 have kK:x∈(p1++(x,v)::p2).map Prod.fst++A6:=by simp
 have kL: ∀q,q∈p1->q.1.2.2.apart ops x.2.2=true:=by
  intro q hq;have hp:=h.pairs;simp only[At,AK,Am,Ae] at hp;have:=(Br.1 hp).2.2 q.1 (Ax.2 ⟨q,hq,rfl⟩) x Al;rcases(FF this).1 with⟨_,h1⟩|h1|h1
  ·exact h1
  ·have:=h.notAnc ht hr (x:=q.1) (Ai _ (Ax.2 ⟨q,by simp[hq],rfl⟩));rw[this] at h1;cases h1
  ·obtain⟨q1,q2,rfl⟩:=G1 hq;have hqt:=(h.quiet q1 q.1 q.2 (q2++(x,v)::p2) (by simp)).1;have xI:=h.swf q.1 (Ai _ (Ax.2 ⟨q,by simp,rfl⟩)) _ h1;rw[hqt] at xI;cases xI
 have Su:=(GX (h.self x kK)).2.2;obtain⟨hxt,S,hSp,xJ,hq⟩:=h.quiet p1 x v p2 rfl;have h1:=hq E l W h.sub xJ h.sat;rw[StepV.putAll Su (λq Rw t PJ=>(Oper.apart_spec (kL q Rw)).1 t PJ)] at h1;refine h1.mono ?_;rintro u W' ⟨rfl,hs'⟩;have Tx: ∀q1:List (BI×Value),(∀q,q∈q1->q∈p1)->putAll q1 (a.put x.2.2.dst u)=(putAll q1 a).put x.2.2.dst u:=λq1 hq1=>TM λq Rw t PJ hc=>(Oper.apart_spec (kL q (hq1 q Rw))).2.1 t hc PJ;have C7:x.1<ops.size:=(BK.1 (h.num x kK)).1;have CJ:((p1++p2).map Prod.fst++A6).Sublist ((p1++(x,u)::p2).map Prod.fst++A6):=by simp only[At,AK];exact KP (KP (EP _) (Ec _ _)) (EP _)
 refine⟨?_,h.sub,hs',h.plan,?_,by simpa using h.size,?_,λy hy=>h.num y (CJ.subset hy),λy hy=>h.self y (CJ.subset hy),h.pairs.sublist CJ,λy hy=>h.swf y (CJ.subset hy),Way.down' (tbl:=tbl) h.down h.size hr⟩
 ·have:=h.phi;rw[Ka] at this⊢;rw[Tx p1 λ_ hq=>hq];exact this
 ·intro q1 y w q2 DG;rcases List.append_eq_append_iff.1 DG with⟨m,e1,e2⟩|⟨m,e1,e2⟩
  ·
   subst e1;have aK:p1++(x,u)::p2=(p1++(x,u)::m)++(y,w)::q2:=by simp[e2]
   obtain⟨k1,k2⟩:=h.quiet _ y w q2 aK;refine⟨k1,?_⟩;rw[Ka] at k2⊢;rw[Tx p1 λ_ hq=>hq];exact k2
  ·cases m with
   |nil=>
    simp only[Bj,Ag] at e1 e2;subst e1;have aK:p1++(x,u)::p2=(p1++[(x,u)])++(y,w)::q2:=by simp[e2]
    obtain⟨k1,k2⟩:=h.quiet _ y w q2 aK;refine⟨k1,?_⟩;rw[Ka] at k2;rw[Tx p1 λ_ hq=>hq];exact k2
   |cons z m=>
    simp only[Ae,Cj] at e2;obtain⟨e3,e4⟩:=e2;subst e3;have aK:p1++(x,u)::p2=q1++(y,w)::(m++(x,u)::p2):=by rw[e1];simp
    obtain⟨k1,S2,k3,k4,k2⟩:=h.quiet _ y w _ aK;refine⟨k1,S2,k3,k4,λE' l' W2 hR hS2 Ol=>?_⟩;rw[Tx q1 (λq hq=>by rw[e1];exact Ai _ hq)];have hym:y∈(p1++(x,u)::p2).map Prod.fst++A6:=by rw[e1];simp
    rw[StepV.put (GX (h.self y hym)).2.2 (λt PJ=>(Oper.apart_spec (kL (y,w) (by rw[e1];simp))).2.2 t PJ)];exact k2 E' l' W2 hR hS2 Ol
 ·have GS: ∀y,y∈p1.map Prod.fst++(p2.map Prod.fst++A6)->y.1≠x.1:=by
   intro y hy;have hp:=h.pairs;simp only[At,AK,Am,Ae] at hp;rcases AB.1 hy with hy|hy
   ·exact(FF ((Br.1 hp).2.2 y hy x Al)).2.2
   ·exact λe=>(FF ((Ck.1 (Br.1 hp).2.1).1 y hy)).2.2 e.symm
  have:=YS (p:=p1.map Prod.fst) (q:=p2.map Prod.fst++A6) h.size C7 GS (by simpa using h.un);simpa using this
theorem Way.pass{sw:Sw}{sp:F5}{l:Ac}(h:Way P ro E ops Q R tbl sw sp C5 FA ((i,true,o)::A6) Φ l a W):
 ∃v Φ' In,Way P ro E ops Q R tbl sw In C5 (FA++[((i,true,o),v)]) A6 Φ' l a W:=by
 obtain⟨v,S,xJ,hv,hp⟩: ∃v S,(∀c,c∈S->c∈l)/\(∀a,Φ a-> ∀E' l' W,(∀c,c∈R->c∈l')->(∀c,c∈S->c∈l')->Sat E' l' W->StepV P ro ops o a W (λu W'=>u=v/\Sat E' l' W'))/\SemPlan P ro E ops Q R tbl sw ((i,S)::sp) A6 (λa'=> ∃a,Φ a/\a'=a.put o.dst v) l:=by
  cases h.plan with
  |quiet v S h1 h2 h3=>exact⟨v,S,h1,h2,h3⟩
 have e:(FA++[((i,true,o),v)]).map Prod.fst++A6=FA.map Prod.fst++(i,true,o)::A6:=by simp
 refine⟨v,_,_,⟨_,h.phi,by rw[Ka];rfl⟩,h.sub,h.sat,hp,?_,h.size,by rw[e];exact h.un,by rw[e];exact h.num,by rw[e];exact h.self,by rw[e];exact h.pairs,by rw[e];exact h.swf,h.down⟩
 ·intro p1 x u p2 DG;rcases List.append_eq_append_iff.1 DG with⟨m,e1,e2⟩|⟨m,e1,e2⟩
  ·cases m with
   |nil=>simp only[Ag,Cj,Bj] at e1 e2;obtain⟨e3,_⟩:=e2;cases e3;subst e1;exact⟨rfl,S,Al,xJ,hv _ h.phi⟩
   |cons z m=>simp at e2
  ·cases m with
   |nil=>simp only[Ag,Cj,Bj] at e1 e2;obtain⟨e3,_⟩:=e2;cases e3;subst e1;exact⟨rfl,S,Al,xJ,hv _ h.phi⟩
   |cons z m=>simp only[Ae,Cj] at e2;obtain⟨e3,e4⟩:=e2;subst e3;obtain⟨q1,S2,q2,q3,q4⟩:=h.quiet p1 x u m e1;exact⟨q1,S2,An _ q2,q3,q4⟩
theorem V0{sw sw':Sw}{y:BI}(h:Nm ops tbl sw x y=true)(hn:PD sw x.1 y.1=false):Nm ops tbl sw' x y=true:=by
 unfold Nm at h⊢;simp only[AM,DA] at h⊢;obtain⟨⟨h1,h2⟩,h3⟩:=h;refine⟨⟨.inl ?_,h2⟩,h3⟩;rcases h1 with h1|h1
 ·exact h1
 ·rw[hn] at h1;cases h1
theorem V1{sw:Sw}(h:VC sw pl=true)(hs:PD sw i j=true): ∃x,x∈pl/\x.1=i/\x.2.1=false:=by
 cases sw with
 |none=>cases hs
 |some L=>simp only[PD,JM] at hs;have h1:=AS.1 h _ hs;obtain⟨x,hx,h2⟩:=Ia.1 h1;simp only[AM,Hw,Ei] at h2;exact⟨x,hx,h2.1,h2.2⟩
theorem Xj: ∀(l:List BI),(l.map (λx:BI=>x.1)).Nodup-> ∀{x y:BI},x∈l->y∈l->x.1=y.1->x=y
 |[],_,_,_,hx,_,_=>by cases hx
 |z::l,h,x,y,hx,hy,e=>by
  rw[AK,AQ] at h;rcases Au.1 hx with h1|h1<;>rcases Au.1 hy with h2|h2
  ·rw[h1,h2]
  ·exact(h.1 (Ax.2 ⟨y,h2,by rw[<-e,h1]⟩)).elim
  ·exact(h.1 (Ax.2 ⟨x,h1,by rw[e,h2]⟩)).elim
  ·exact Xj l h.2 h1 h2 e
theorem Way.eff_step{sw:Sw}{sp:F5}{l:Ac}(ht:TN ops tbl=true)(h:Way P ro E ops Q R tbl sw sp C5 FA ((i,false,o)::A6) Φ l a W)(hr:j∈Region.ready .any ops C5)(hj: ∃x,x∈(i,false,o)::A6/\x.1=j):
 ∃oj,ops[j]?=some oj/\Jt oj.op=true/\StepV P ro ops oj a W (λu W'=> ∃sw' rest' Φ' l',Way P ro E ops Q R tbl sw' sp (C5.setIfInBounds j true) FA rest' Φ' l' (a.put oj.dst u) W'/\rest'.length=A6.length):=by
 have VU:PE tbl sw i A6 j:=by
  obtain⟨x,hx,hxj⟩:=hj;rcases Au.1 hx with rfl|hx
  ·exact .inl hxj.symm
  ·by_cases W4:j=i
   ·exact .inl W4
   refine .inr ⟨?_,λy hy=>h.notAnc ht hr (x:=y) (by simp[hy]),x,hx,hxj⟩;have hp:=(Ck.1 (Br.1 h.pairs).2.1).1 x hx;rcases(FF hp).1 with⟨h1,_⟩|h1|h1
   ·cases h1
   ·have:=h.notAnc ht hr (x:=(i,false,o)) (by simp);simp only[hxj] at h1;rw[this] at h1;cases h1
   ·rw[hxj] at h1;exact h1
 obtain⟨oj,Kj,rj,ik,hperm,Dh,LF,Yj⟩: ∃(oj:Oper) (Kj:Act->Value->Ac->Prop) (rj:List BI) (ik:Sw),((j,false,oj)::rj).Perm ((i,false,o)::A6)/\((j=i/\ik=sw/\rj=A6)\/(GE ops tbl ik rj=true/\VC ik rj=true))/\Nl P ro E ops R tbl sp j oj Φ l Kj/\ ∀a v l',Kj a v l'->SemPlan P ro E ops Q R tbl ik sp rj (λa'=>a'=a.put oj.dst v) l':=by
  cases h.plan with
  |eff oo K rf sf h1 h2 h3=>exact⟨oo j,K j,rf j,sf j,(h1 j VU).1,(h1 j VU).2,h2 j VU,h3 j VU⟩
 have Om: ∀x,x∈FA.map Prod.fst++(j,false,oj)::rj<->x∈FA.map Prod.fst++(i,false,o)::A6:=λx=>by rw[AB,AB,hperm.mem_iff]
 have kK:(j,false,oj)∈FA.map Prod.fst++(i,false,o)::A6:=(Om _).1 (by simp);have vE: ∀x,x∈FA.map Prod.fst++rj->x∈FA.map Prod.fst++(i,false,o)::A6:=λx hx=>(Om x).1 (by
  rcases AB.1 hx with hx|hx
  ·exact Ai _ hx
  ·exact Aa _ (An _ hx))
 have hq: ∀q,q∈FA->q.1.2.1=true:=λq hq=>by obtain⟨q1,q2,rfl⟩:=G1 hq;exact(h.quiet q1 q.1 q.2 q2 rfl).1
 have Pb: ∀q,q∈FA-> ∀y,PD sw q.1.1 y=false:=λq Rw y=>by
  cases hc:PD sw q.1.1 y with
  |false=>rfl
  |true=>have:=h.swf q.1 (Ai _ (Ax.2 ⟨q,Rw,rfl⟩)) _ hc;rw[hq q Rw] at this;cases this
 have W5: ∀q,q∈FA-> ∀y,y∈(i,false,o)::A6->Nm ops tbl sw q.1 y=true:=λq Rw y hy=>(Br.1 h.pairs).2.2 q.1 (Ax.2 ⟨q,Rw,rfl⟩) y hy;have hjr:(j,false,oj)∈(i,false,o)::A6:=hperm.mem_iff.1 (by simp);have ry: ∀q,q∈FA->FP tbl j q.1.1=false:=λq hq=>h.notAnc ht hr (x:=q.1) (Ai _ (Ax.2 ⟨q,hq,rfl⟩));have kL: ∀q,q∈FA->q.1.2.2.apart ops oj=true:=by
  intro q Rw;rcases(FF (W5 q Rw _ hjr)).1 with⟨_,h1⟩|h1|h1
  ·exact h1
  ·simp only at h1;rw[ry q Rw] at h1;cases h1
  ·rw[Pb q Rw] at h1;cases h1
 have Su:=(GX (h.self _ kK)).2.2;refine⟨oj,h.num _ kK,(GX (h.self _ kK)).2.1,?_⟩;have h1:=LF _ W h.phi h.sat;rw[StepV.putAll Su (λq Rw t PJ=>(Oper.apart_spec (kL q Rw)).1 t PJ)] at h1;refine h1.mono ?_;rintro u W' ⟨l',hk,rC,aK,hs'⟩;have lj:=Yj _ _ _ hk;have Tx: ∀q1:List (BI×Value),(∀q,q∈q1->q∈FA)->putAll q1 (a.put oj.dst u)=(putAll q1 a).put oj.dst u:=λq1 hq1=>TM λq Rw t PJ hc=>(Oper.apart_spec (kL q (hq1 q Rw))).2.1 t hc PJ;have C7:j<ops.size:=(BK.1 (h.num _ kK)).1;have Ln:(((i,false,o)::A6).map (λx:BI=>x.1)).Nodup:=by rw[D6,Cz];exact(Br.1 h.pairs).2.1.imp λhp=>(FF hp).2.2
 have AeD: ∀y,y∈rj->y.1≠j:=by rw[<-(hperm.map (λx:BI=>x.1)).nodup_iff,AK,AQ] at Ln;exact λy hy e=>Ln.1 (Ax.2 ⟨y,hy,e⟩)
 have Ef:rj.length=A6.length:=by have:=hperm.length_eq;simpa using this
 refine⟨ik,rj,_,l',⟨?_,rC,hs',lj,?_,by simpa using h.size,?_,λy hy=>h.num y (vE y hy),λy hy=>h.self y (vE y hy),?_,λy hy k hk=>?_,Way.down' (tbl:=tbl) h.down h.size hr⟩,Ef⟩
 ·exact Tx FA λ_ hq=>hq
 ·intro q1 y w q2 DG;obtain⟨k1,S2,k3,k4,k2⟩:=h.quiet q1 y w q2 DG;refine⟨k1,S2,k3,aK _ k3 (ry (y,w) (by rw[DG];simp)),λE' l2 W2 hR hS2 Ol=>?_⟩;rw[Tx q1 (λq hq=>by rw[DG];exact Ai _ hq)];have hym:y∈FA.map Prod.fst++(i,false,o)::A6:=by rw[DG];simp
  rw[StepV.put (GX (h.self y hym)).2.2 (λt PJ=>(Oper.apart_spec (kL (y,w) (by rw[DG];simp))).2.2 t PJ)];exact k2 E' l2 W2 hR hS2 Ol
 ·have GS: ∀y,y∈FA.map Prod.fst++rj->y.1≠j:=by
   intro y hy;rcases AB.1 hy with hy|hy
   ·obtain⟨q,Rw,rfl⟩:=Ax.1 hy;exact(FF (W5 q Rw _ hjr)).2.2
   ·exact AeD y hy
  refine YS (x:=(j,false,oj)) h.size C7 GS λk hk=>?_;rw[h.un k hk];exact⟨λ⟨x,hx,e⟩=>⟨x,(Om x).2 hx,e⟩,λ⟨x,hx,e⟩=>⟨x,(Om x).1 hx,e⟩⟩
 ·obtain⟨p1,p2,p3⟩:=Br.1 h.pairs;rcases Dh with⟨_,rfl,rfl⟩|⟨Dh,_⟩
  ·exact h.pairs.sublist (KP (EP _) (Ec _ _))
  ·refine Br.2 ⟨?_,(Nn Dh).2,λx hx y hy=>?_⟩
   ·refine List.Pairwise.imp_of_mem (λ{x y} hx hy Vm=>?_) p1;obtain⟨q,Rw,rfl⟩:=Ax.1 hx;exact V0 Vm (Pb q Rw _)
   ·obtain⟨q,Rw,rfl⟩:=Ax.1 hx;exact V0 (W5 q Rw y (hperm.mem_iff.1 (An _ hy))) (Pb q Rw _)
 ·rcases Dh with⟨_,rfl,rfl⟩|⟨_,MK⟩
  ·exact h.swf y (by
    rcases AB.1 hy with hy|hy
    ·exact Ai _ hy
    ·exact Aa _ (An _ hy)) k hk
  ·obtain⟨x,hx,e1,e2⟩:=V1 MK hk;rcases AB.1 hy with hy|hy
   ·exfalso;obtain⟨q,Rw,rfl⟩:=Ax.1 hy;exact(FF (W5 q Rw x (hperm.mem_iff.1 (An _ hx)))).2.2 e1.symm
   ·have kI:(rj.map (λx:BI=>x.1)).Nodup:=by
     rw[<-(hperm.map (λx:BI=>x.1)).nodup_iff,AK,AQ] at Ln;exact Ln.2
    rw[<-Xj rj kI hx hy e1];exact e2
theorem Way.reach{tbl:List (List Nat)}{sw:Sw}{C5:Array Bool}{l:Ac}{a:Act}{W:World}{j:Nat}(ht:TN ops tbl=true)(hr:j∈Region.ready .any ops C5): ∀(A6:List BI) (sp:F5) (FA:List (BI×Value)) (Φ:Act->Prop),Way P ro E ops Q R tbl sw sp C5 FA A6 Φ l a W->(∃x,x∈A6/\x.1=j)->
 ∃(o:Oper) (next:Value->World->Prop),ops[j]?=some o/\Jt o.op=true/\StepV P ro ops o a W (λu W'=>next u W')/\ ∀u W',next u W'-> ∃sw' In pend' rest' Φ' l',Way P ro E ops Q R tbl sw' In (C5.setIfInBounds j true) pend' rest' Φ' l' (a.put o.dst u) W'/\pend'.length+rest'.length+1=FA.length+A6.length
 |[],_,_,_,_,⟨x,hx,_⟩=>by cases hx
 |(i,true,o)::A6,sp,FA,Φ,h,⟨x,hx,hxj⟩=>by
  have him:(i,true,o)∈FA.map Prod.fst++(i,true,o)::A6:=by simp
  obtain⟨v,Φ',In,h'⟩:=h.pass;by_cases W4:i=j
  ·subst W4;refine⟨o,_,h.num _ him,(GX (h.self _ him)).2.1,Way.pend_step (p1:=FA) (p2:=[]) (x:=(i,true,o)) ht h' hr,λu W' hw=>⟨_,_,_,_,_,_,hw,by simp;omega⟩⟩
  ·have hxr:x∈A6:=by
    rcases Au.1 hx with rfl|hx
    ·exact absurd hxj W4
    ·exact hx
   obtain⟨o',next,k1,k2,k3,k4⟩:=Way.reach ht hr A6 _ _ Φ' h' ⟨x,hxr,hxj⟩;refine⟨o',next,k1,k2,k3,λu W' hw=>?_⟩;obtain⟨sw2,Yk,p',r',Φ2,l2,lk,Ef⟩:=k4 u W' hw;exact⟨sw2,Yk,p',r',Φ2,l2,lk,by simp at Ef⊢;omega⟩
 |(i,false,o)::A6,sp,FA,Φ,h,hx=>by obtain⟨oj,k1,k2,k3⟩:=h.eff_step ht hr hx;exact⟨oj,_,k1,k2,k3,λu W' ⟨sw',rest',Φ',l',hw,hl⟩=>⟨_,_,_,_,_,_,hw,by simp;omega⟩⟩
theorem Way.fin{sw:Sw}{sp:F5}{l:Ac}(h:Way P ro E ops Q R tbl sw sp C5 FA A6 Φ l a W)(h0:Region.ready .any ops C5=[]):Q .normal a W:=by
 have xK:FA=[]/\A6=[]:=by
  have key:FA.map Prod.fst++A6=[]:=by
   cases hpr:FA.map Prod.fst++A6 with
   |nil=>rfl
   |cons x r=>
    exfalso;have kK:x∈FA.map Prod.fst++A6:=by rw[hpr];exact Al
    have C7:x.1<ops.size:=(BK.1 (h.num x kK)).1;have Om:x.1∈Region.ready .any ops C5:=by
     refine mem_ready.2 ⟨(h.un x.1 C7).2 ⟨x,kK,rfl⟩,x.2.2,h.num x kK,λe he hb=>?_⟩;obtain⟨h1,h2⟩:=(GX (h.self x kK)).1 e he hb;cases hg:C5.getD e.on false
     ·exfalso;obtain⟨y,hy,hye⟩:=(h.un e.on h2).1 (by rw[eM (by rw[h.size];exact h2)];exact hg);have hp:=h.pairs;rw[hpr] at hp hy;rcases Au.1 hy with rfl|hy
      ·exact h1 hye.symm
      ·exact(FF ((Ck.1 hp).1 y hy)).2.1 e he hb hye.symm
     ·rfl
    rw[h0] at Om;cases Om
  have h1:=List.append_eq_nil_iff.1 key;exact⟨List.map_eq_nil_iff.1 h1.1,h1.2⟩
 obtain⟨rfl,rfl⟩:=xK;cases h.plan with
 |nil h2=>exact h2 a W h.phi h.sat
theorem Way.any{tbl:List (List Nat)}(ht:TN ops tbl=true): ∀(Yy:Nat) (sw:Sw) (sp:F5) (C5:Array Bool) (FA:List (BI×Value)) (A6:List BI) (Φ:Act->Prop) (l:Ac) (a:Act) (W:World),Way P ro E ops Q R tbl sw sp C5 FA A6 Φ l a W->FA.length+A6.length<=Yy->wpAnyIn (Fw ro) 0 P .any ops Q Yy C5 a W:=by
 intro Yy
 induction Yy with
 |zero=>
  intro sw sp C5 FA A6 Φ l a W h hl;have hp:FA=[]:=GG.1 Af;have hr:A6=[]:=GG.1 Af;subst hp hr;have h0:Region.ready .any ops C5=[]:=by
   cases hrd:Region.ready .any ops C5 with
   |nil=>rfl
   |cons j r=>
    exfalso;have hj:j∈Region.ready .any ops C5:=by rw[hrd];exact Al
    obtain⟨h1,o,ho,_⟩:=mem_ready.1 hj;obtain⟨x,hx,_⟩:=(h.un j (BK.1 ho).1).1 h1;simp at hx
  exact⟨h0,h.fin h0⟩
 |succ Yy ih=>
  intro sw sp C5 FA A6 Φ l a W h hl;refine⟨λh0=>h.fin h0,λj hj=>?_⟩;obtain⟨h1,o,ho,GK⟩:=mem_ready.1 hj;obtain⟨x,hx,hxj⟩:=(h.un j (BK.1 ho).1).1 h1;rcases AB.1 hx with hxp|hxr
  ·obtain⟨⟨x',v⟩,hm,rfl⟩:=Ax.1 hxp;obtain⟨p1,p2,rfl⟩:=G1 hm;simp only at hxj hx;subst hxj;refine StepV.op (h.num x' hx) (GX (h.self x' hx)).2.1 (h.pend_step ht hj) λu W' hw=>ih _ _ _ _ _ _ _ _ _ hw (by simp at hl⊢;omega)
  ·obtain⟨o',next,k1,k2,k3,k4⟩:=Way.reach ht hj A6 _ FA Φ h ⟨x,hxr,hxj⟩;refine StepV.op k1 k2 k3 λu W' hw=>?_;obtain⟨sw2,Yk,p',r',Φ2,l2,lk,Ef⟩:=k4 u W' hw;exact ih _ _ _ _ _ _ _ _ _ lk Af
theorem YT{fr:Fr}{d:Nat}(hf:FSat N fr a)(hj:ops[j]?=some oj)(hd:oj.dst=some d)(hb:Cc fr d=some undef):yielded ops a.tmps j=none:=by have:=hf.at_ d _ hb;simp[yielded,hj,hd,this,undef]
inductive PlanS(P:Program)(ro:Option Nat)(N:Nat)(E:World)(ops:Array Oper)(Q:Exit->Act->World->Prop)(R:Ac)(tbl:List (List Nat)):Sw->F5->List BI->Fr->List Deferred->Ac->Prop
 |nil {sw:Sw} {sp:F5} {fr:Fr} {ds:List Deferred} {l:Ac}:C3 N E Q .normal fr ds l->PlanS P ro N E ops Q R tbl sw sp [] fr ds l
 |q {sw:Sw} {sp:F5} {i:Nat} {o:Oper} {v:Value} {A6:List BI} {fr:Fr} {ds:List Deferred} {l:Ac}:OpQ P ro N fr R o v->o.guard=none->Kh N o.dst=true->PlanS P ro N E ops Q R tbl sw sp A6 (ID o.dst v fr) ds l->PlanS P ro N E ops Q R tbl sw sp ((i,true,o)::A6) fr ds l
 |gq {sw:Sw} {sp:F5} {i j dj:Nat} {o oj:Oper} {b:Bool} {v:Value} {A6:List BI} {fr:Fr} {ds:List Deferred} {l:Ac}:OpQ P ro N fr R o v->o.guard=some (j,b)->ops[j]?=some oj->oj.dst=some dj->Cc fr dj=some (.bool b)->Kh N o.dst=true->PlanS P ro N E ops Q R tbl sw sp A6 (ID o.dst v fr) ds l->PlanS P ro N E ops Q R tbl sw sp ((i,true,o)::A6) fr ds l
 |gs {sw:Sw} {sp:F5} {i j dj:Nat} {o oj:Oper} {b b':Bool} {A6:List BI} {fr:Fr} {ds:List Deferred} {l:Ac} {k:Bool}:o.guard=some (j,b)->ops[j]?=some oj->oj.dst=some dj->Cc fr dj=some (.bool b')->(b'==b)=false->Kh N o.dst=true->(∀c,c∈R->c∈l)->(k=false->sw=none)->(k=false-> ∀x,x∈sp->FP tbl i x.1=false-> ∀c,c∈x.2->c∈l)->PlanS P ro N E ops Q R tbl sw sp A6 (ID o.dst undef fr) ds l->PlanS P ro N E ops Q R tbl sw sp ((i,k,o)::A6) fr ds l
 |gu {sw:Sw} {sp:F5} {i j dj:Nat} {o oj:Oper} {b:Bool} {A6:List BI} {fr:Fr} {ds:List Deferred} {l:Ac} {k:Bool}:o.guard=some (j,b)->ops[j]?=some oj->oj.dst=some dj->Cc fr dj=some undef->Kh N o.dst=true->(∀c,c∈R->c∈l)->(k=false->sw=none)->(k=false-> ∀x,x∈sp->FP tbl i x.1=false-> ∀c,c∈x.2->c∈l)->PlanS P ro N E ops Q R tbl sw sp A6 (ID o.dst undef fr) ds l->PlanS P ro N E ops Q R tbl sw sp ((i,k,o)::A6) fr ds l
 |e {sp:F5} {i:Nat} {o:Oper} {K:Value->Ac->Prop} {A6:List BI} {fr:Fr} {ds:List Deferred} {l:Ac}:OpE P ro N fr l o K->o.guard=none->Kh N o.dst=true->(∀v l',K v l'->(∀c,c∈R->c∈l'))->(∀v l',K v l'-> ∀x,x∈sp->FP tbl i x.1=false-> ∀c,c∈x.2->c∈l')->(∀v l',K v l'->PlanS P ro N E ops Q R tbl none sp A6 (ID o.dst v fr) ds l')->PlanS P ro N E ops Q R tbl none sp ((i,false,o)::A6) fr ds l
 |ge {sp:F5} {i j dj:Nat} {o oj:Oper} {b:Bool} {K:Value->Ac->Prop} {A6:List BI} {fr:Fr} {ds:List Deferred} {l:Ac}:OpE P ro N fr l o K->o.guard=some (j,b)->ops[j]?=some oj->oj.dst=some dj->Cc fr dj=some (.bool b)->Kh N o.dst=true->(∀v l',K v l'->(∀c,c∈R->c∈l'))->(∀v l',K v l'-> ∀x,x∈sp->FP tbl i x.1=false-> ∀c,c∈x.2->c∈l')->(∀v l',K v l'->PlanS P ro N E ops Q R tbl none sp A6 (ID o.dst v fr) ds l')->PlanS P ro N E ops Q R tbl none sp ((i,false,o)::A6) fr ds l
 |weak {sw:Sw} {sp:F5} {pl:List BI} {fr fr':Fr} {ds:List Deferred} {l:Ac}:(∀d v,Cc fr' d=some v->Cc fr d=some v)->PlanS P ro N E ops Q R tbl sw sp pl fr' ds l->PlanS P ro N E ops Q R tbl sw sp pl fr ds l
 |sq {sw:Sw} {sp:F5} {i:Nat} {o:Oper} {v:Value} {S:Ac} {A6:List BI} {fr:Fr} {ds:List Deferred} {l:Ac}:OpQ P ro N fr S o v->(∀c,c∈S->c∈l)->o.guard=none->Kh N o.dst=true->PlanS P ro N E ops Q R tbl sw ((i,S)::sp) A6 (ID o.dst v fr) ds l->PlanS P ro N E ops Q R tbl sw sp ((i,true,o)::A6) fr ds l
 |alt {L:List (Nat×Nat)} {sp:F5} {i:Nat} {o:Oper} {A6:List BI} {fr:Fr} {ds:List Deferred} {l:Ac} (oo:Nat->Oper) (K:Nat->Value->Ac->Prop) (rf:Nat->List BI) (sf:Nat->Sw):
   (∀j,PE tbl (some L) i A6 j->((j,false,oo j)::rf j).Perm ((i,false,o)::A6)/\GE ops tbl (sf j) (rf j)=true/\VC (sf j) (rf j)=true)->
   (∀j,PE tbl (some L) i A6 j->OpE P ro N fr l (oo j) (K j)/\RD ops fr (oo j).guard=some true/\Kh N (oo j).dst=true)->
   (∀j,PE tbl (some L) i A6 j-> ∀v l',K j v l'->(∀c,c∈R->c∈l')/\(∀x,x∈sp->FP tbl j x.1=false-> ∀c,c∈x.2->c∈l'))->
   (∀j,PE tbl (some L) i A6 j-> ∀v l',K j v l'->PlanS P ro N E ops Q R tbl (sf j) sp (rf j) (ID (oo j).dst v fr) ds l')->PlanS P ro N E ops Q R tbl (some L) sp ((i,false,o)::A6) fr ds l
 |alt2 {i j:Nat} {sp:F5} {o oj:Oper} {A6 rj:List BI} {fr:Fr} {ds:List Deferred} {l:Ac}:j≠i->((j,false,oj)::rj).Perm ((i,false,o)::A6)->GE ops tbl none rj=true->(∀x,x∈A6->x.1≠i)->PlanS P ro N E ops Q R tbl none sp ((i,false,o)::A6) fr ds l->PlanS P ro N E ops Q R tbl none sp ((j,false,oj)::rj) fr ds l->PlanS P ro N E ops Q R tbl (some [(i,j)]) sp ((i,false,o)::A6) fr ds l
theorem SemPlan.weak{sw:Sw}{sp:F5}{Φ':Act->Prop}{l:Ac}(h: ∀a,Φ' a->Φ a)(hp:SemPlan P ro E ops Q R tbl sw sp pl Φ l):SemPlan P ro E ops Q R tbl sw sp pl Φ' l:=by
 induction hp generalizing Φ' with
 |nil hp=>exact .nil λa W ha hs=>hp a W (h a ha) hs
 |quiet v S h0 h1 _ ih=>exact .quiet v S h0 (λa ha=>h1 a (h a ha)) (ih λa' ⟨a,ha,e⟩=>⟨a,h a ha,e⟩)
 |eff oo K rf sf h1 h2 h3 ih=>exact .eff oo K rf sf h1 (λj hj a W ha hs=>h2 j hj a W (h a ha) hs) h3
def SpLe(In sp:F5):Prop:= ∀x,x∈In->x∈sp\/x.2=[]
theorem SpLe.none{In sp:F5}(h:SpLe In sp)(i:Nat):SpLe ((i,[])::In) sp:=λx hx=>by
 rcases Au.1 hx with rfl|hx
 ·exact .inr rfl
 ·exact h x hx
theorem SpLe.one{In sp:F5}(h:SpLe In sp)(x:Nat×Ac):SpLe (x::In) (x::sp):=λy hy=>by
 rcases Au.1 hy with rfl|hy
 ·exact .inl Al
 ·exact(h y hy).imp (An _) id
theorem SemPlan.one{tbl:List (List Nat)}{sw:Sw}{sp:F5}{i:Nat}{o:Oper}{A6:List BI}{Φ:Act->Prop}{l:Ac}(HI: ∀j,PD sw i j=false)(K:Act->Value->Ac->Prop)(h2:Nl P ro E ops R tbl sp i o Φ l K)(h3: ∀a v l',K a v l'->SemPlan P ro E ops Q R tbl sw sp A6 (λa'=>a'=a.put o.dst v) l'):SemPlan P ro E ops Q R tbl sw sp ((i,false,o)::A6) Φ l:=by
 have key: ∀j,PE tbl sw i A6 j->j=i:=λj hj=>by
  rcases hj with rfl|⟨h,_⟩
  ·rfl
  ·rw[HI] at h;cases h
 exact .eff (λ_=>o) (λ_=>K) (λ_=>A6) (λ_=>sw) (λj hj=>by obtain rfl:=key j hj;exact⟨.refl _,.inl ⟨rfl,rfl,rfl⟩⟩) (λj hj=>by obtain rfl:=key j hj;exact h2) λj hj=>h3
theorem SemPlan.free{sw:Sw}{sp:F5}{l:Ac}{n:Sw}(h:SemPlan P ro E ops Q R tbl n sp pl Φ l):n=none->(∀x,x∈pl-> ∀j,PD sw x.1 j=false)->SemPlan P ro E ops Q R tbl sw sp pl Φ l:=by
 induction h with
 |nil h=>exact λ_ _=> .nil h
 |quiet v S h0 h1 _ ih=>exact λhn hx=> .quiet v S h0 h1 (ih hn λx kH=>hx x (An _ kH))
 |eff oo K rf sf h1 h2 h3 ih=>
  rename_i n sp i o A6 Φ l;intro hn hx;subst hn;have hc:PE tbl none i A6 i:= .inl rfl;obtain⟨p1,p2⟩:=h1 i hc;have key: ∀j,PE tbl sw i A6 j->j=i:=λj hj=>by
   rcases hj with rfl|⟨h,_⟩
   ·rfl
   ·rw[hx _ Al] at h;cases h
  rcases p2 with⟨_,p3,p4⟩|⟨p3,p4⟩
  ·refine .eff oo K rf (λ_=>sw) (λj hj=>?_) (λj hj=>?_) λj hj=>?_;all_goals obtain rfl:=key j hj
   ·exact⟨p1,.inl ⟨rfl,rfl,p4⟩⟩
   ·exact h2 _ hc
   ·exact λa v l' k=>ih _ hc a v l' k p3 λx kH=>hx x (An _ (by rw[p4] at kH;exact kH))
  ·refine .eff oo K rf sf (λj hj=>?_) (λj hj=>?_) λj hj=>?_;all_goals obtain rfl:=key j hj
   ·exact⟨p1,.inr ⟨p3,p4⟩⟩
   ·exact h2 _ hc
   ·exact h3 _ hc
theorem bk{fr:Fr}(h1:FSat N fr a)(h:RD ops fr o.guard=some true):Region.wanted o (yielded ops a.tmps)=true:=by
 rcases Km h with⟨hg,_⟩|⟨j,b,oj,dj,b',hg,hj,Lm,hb,he⟩
 ·simp[Region.wanted,hg]
 ·have hy:=JZ (ops:=ops) h1 hj Lm hb;simpa[Region.wanted,hg,hy] using he
theorem PlanS.sem{sw:Sw}{sp:F5}{fr:Fr}{l:Ac}(h:PlanS P ro N E ops Q R tbl sw sp pl fr ds l): ∀In,SpLe In sp->SemPlan P ro E ops Q R tbl sw In pl (λa=>FSat N fr a/\a.defers=ds) l:=by
 have step: ∀{o:Oper} {K:Value->Ac->Prop} {fr:Fr} {l:Ac} {sp In:F5} {i:Nat} {ds:List Deferred},OpE P ro N fr l o K->(∀a,FSat N fr a->Region.wanted o (yielded ops a.tmps)=true)->(∀v l',K v l'->(∀c,c∈R->c∈l'))->(∀v l',K v l'-> ∀x,x∈sp->FP tbl i x.1=false-> ∀c,c∈x.2->c∈l')->SpLe In sp->Nl P ro E ops R tbl In i o (λa=>FSat N fr a/\a.defers=ds) l (λa v l'=>(FSat N fr a/\a.defers=ds)/\K v l'):=by
  intro o K fr l sp In i ds ho hw hR hS LJ a W ⟨h1,h2⟩ hs;unfold StepV;rw[Ad (hw a h1)];refine(ho.val E a W h1 hs).mono λv w ⟨l',k1,k2⟩=>⟨l',⟨⟨h1,h2⟩,k1⟩,hR v l' k1,λx hx ha c hc=>?_,k2⟩
  rcases LJ x hx with h|h
  ·exact hS v l' k1 x h ha c hc
  ·rw[h] at hc;cases hc
 induction h with
 |nil h=>exact λIn _=> .nil λa W ⟨h1,h2⟩ hs=>h.run a W h1 h2 hs
 |q ho hg hd _ ih=>rename_i sw sp i o v A6 fr ds l _;intro In LJ;refine .quiet v [] (by simp) (λa ⟨h1,h2⟩ E' l' W hR _ hs=>?_) ((ih _ (LJ.none i)).weak λa' ⟨a,⟨h1,h2⟩,he⟩=>by subst he;exact⟨h1.put v hd,(ES _ _ _).trans h2⟩);unfold StepV;rw[Ad (by simp[Region.wanted,hg])];exact((ho.run l' hR).val E' a W h1 hs).mono λu w ⟨l2,⟨k1,k2⟩,k3⟩=>⟨k1,by rw[<-k2];exact k3⟩
 |gq ho hg hj Lm hb hd _ ih=>rename_i sw sp i j dj o oj b v A6 fr ds l _;intro In LJ;refine .quiet v [] (by simp) (λa ⟨h1,h2⟩ E' l' W hR _ hs=>?_) ((ih _ (LJ.none i)).weak λa' ⟨a,⟨h1,h2⟩,he⟩=>by subst he;exact⟨h1.put v hd,(ES _ _ _).trans h2⟩);unfold StepV;have hy:=JZ (ops:=ops) h1 hj Lm hb;rw[Ad (by simp[Region.wanted,hg,hy])];exact((ho.run l' hR).val E' a W h1 hs).mono λu w ⟨l2,⟨k1,k2⟩,k3⟩=>⟨k1,by rw[<-k2];exact k3⟩
 |gs hg hj Lm hb GS hd hR0 hswn hspl _ ih=>
  rename_i sw sp i j dj o oj b b' A6 fr ds l k _;intro In LJ;have hw: ∀a,FSat N fr a->¬Region.wanted o (yielded ops a.tmps)=true:=λa h1=>by have hy:=JZ (ops:=ops) h1 hj Lm hb;simp[Region.wanted,hg,hy];intro e;rw[e] at GS;simp at GS
  cases k with
  |true=>refine .quiet undef [] (by simp) (λa ⟨h1,h2⟩ E' l' W hR _ hs=>?_) ((ih _ (LJ.none i)).weak λa' ⟨a,⟨h1,h2⟩,he⟩=>by subst he;exact⟨h1.put undef hd,(ES _ _ _).trans h2⟩);unfold StepV;rw[Ab (hw a h1)];exact⟨rfl,hs⟩
  |false=>
   refine .one (λj=>by rw[hswn rfl];rfl) (λa v l'=>(FSat N fr a/\a.defers=ds)/\v=undef/\l'=l) (λa W ⟨h1,h2⟩ hs=>?_) ?_
   ·unfold StepV;rw[Ab (hw a h1)];refine⟨l,⟨⟨h1,h2⟩,rfl,rfl⟩,hR0,λx hx ha c hc=>?_,hs⟩;rcases LJ x hx with h|h
    ·exact hspl rfl x h ha c hc
    ·rw[h] at hc;cases hc
   ·rintro a _ _ ⟨⟨h1,h2⟩,rfl,rfl⟩;exact(ih _ LJ).weak λa' he=>by subst he;exact⟨h1.put undef hd,(ES _ _ _).trans h2⟩
 |gu hg hj Lm hb hd hR0 hswn hspl _ ih=>
  rename_i sw sp i j dj o oj b A6 fr ds l k _;intro In LJ;have hw: ∀a,FSat N fr a->¬Region.wanted o (yielded ops a.tmps)=true:=λa h1=>by have hy:=YT h1 hj Lm hb;simp[Region.wanted,hg,hy]
  cases k with
  |true=>refine .quiet undef [] (by simp) (λa ⟨h1,h2⟩ E' l' W hR _ hs=>?_) ((ih _ (LJ.none i)).weak λa' ⟨a,⟨h1,h2⟩,he⟩=>by subst he;exact⟨h1.put undef hd,(ES _ _ _).trans h2⟩);unfold StepV;rw[Ab (hw a h1)];exact⟨rfl,hs⟩
  |false=>
   refine .one (λj=>by rw[hswn rfl];rfl) (λa v l'=>(FSat N fr a/\a.defers=ds)/\v=undef/\l'=l) (λa W ⟨h1,h2⟩ hs=>?_) ?_
   ·unfold StepV;rw[Ab (hw a h1)];refine⟨l,⟨⟨h1,h2⟩,rfl,rfl⟩,hR0,λx hx ha c hc=>?_,hs⟩;rcases LJ x hx with h|h
    ·exact hspl rfl x h ha c hc
    ·rw[h] at hc;cases hc
   ·rintro a _ _ ⟨⟨h1,h2⟩,rfl,rfl⟩;exact(ih _ LJ).weak λa' he=>by subst he;exact⟨h1.put undef hd,(ES _ _ _).trans h2⟩
 |e ho hg hd hR hS _ ih=>rename_i sp i o K A6 fr ds l _;intro In LJ;refine .one (λ_=>rfl) _ (step ho (λa _=>by simp[Region.wanted,hg]) hR hS LJ) ?_;rintro a v l' ⟨⟨h1,h2⟩,k1⟩;exact(ih v l' k1 _ LJ).weak λa' he=>by subst he;exact⟨h1.put v hd,(ES _ _ _).trans h2⟩
 |ge ho hg hj Lm hb hd hR hS _ ih=>
  rename_i sp i j dj o oj b K A6 fr ds l _;intro In LJ;refine .one (λ_=>rfl) _ (step ho (λa h1=>by have hy:=JZ (ops:=ops) h1 hj Lm hb;simp[Region.wanted,hg,hy]) hR hS LJ) ?_
  rintro a v l' ⟨⟨h1,h2⟩,k1⟩;exact(ih v l' k1 _ LJ).weak λa' he=>by subst he;exact⟨h1.put v hd,(ES _ _ _).trans h2⟩
 |weak hw _ ih=>exact λIn LJ=>(ih In LJ).weak λa ⟨h1,h2⟩=>⟨h1.sub hw,h2⟩
 |sq ho xJ hg hd _ ih=>rename_i sw sp i o v S A6 fr ds l _;intro In LJ;refine .quiet v S xJ (λa ⟨h1,h2⟩ E' l' W hR hS hs=>?_) ((ih _ (LJ.one (i,S))).weak λa' ⟨a,⟨h1,h2⟩,he⟩=>by subst he;exact⟨h1.put v hd,(ES _ _ _).trans h2⟩);unfold StepV;rw[Ad (by simp[Region.wanted,hg])];exact((ho.run l' hS).val E' a W h1 hs).mono λu w ⟨l2,⟨k1,k2⟩,k3⟩=>⟨k1,by rw[<-k2];exact k3⟩
 |alt oo K rf sf qR R7 hRS _ ih=>
  rename_i L sp i o A6 fr ds l _;intro In LJ;refine .eff oo (λj a v l'=>(FSat N fr a/\a.defers=ds)/\K j v l') rf sf (λj hj=>⟨(qR j hj).1,.inr (qR j hj).2⟩) (λj hj=>?_) λj hj=>?_
  ·obtain⟨ho,hw,_⟩:=R7 j hj;exact step ho (λa h1=>bk h1 hw) (λv l' k=>(hRS j hj v l' k).1) (λv l' k=>(hRS j hj v l' k).2) LJ
  ·rintro a v l' ⟨⟨h1,h2⟩,k1⟩;exact(ih j hj v l' k1 _ LJ).weak λa' he=>by subst he;exact⟨h1.put v (R7 j hj).2.2,(ES _ _ _).trans h2⟩
 |alt2 W4 hp vF hni _ _ ih1 ih2=>
  rename_i i j sp o oj A6 rj fr ds l _ _;intro In LJ;have g1:=ih1 In LJ;have g2:=ih2 In LJ;have hj: ∀k,PE tbl (some [(i,j)]) i A6 k->k=i\/k=j:=λk hk=>by
   rcases hk with h|⟨h,_⟩
   ·exact .inl h
   ·refine .inr ?_;simpa[PD] using h
  cases g1 with
  |eff oo1 K1 rf1 sf1 a1 a2 a3=>
   cases g2 with
   |eff oo2 K2 rf2 sf2 b1 b2 b3=>
    have ci:PE tbl none i A6 i:= .inl rfl;have cj:PE tbl none j rj j:= .inl rfl;obtain⟨il,c1,c2⟩: ∃il,((i=i/\il=some [(i,j)]/\rf1 i=A6)\/(GE ops tbl il (rf1 i)=true/\VC il (rf1 i)=true))/\ ∀a v l',K1 i a v l'->SemPlan P ro E ops Q R tbl il In (rf1 i) (λa'=>a'=a.put (oo1 i).dst v) l':=by
     rcases(a1 i ci).2 with⟨_,e1,e2⟩|h
     ·refine⟨some [(i,j)],.inl ⟨rfl,rfl,e2⟩,λa v l' k=>?_⟩;have:=a3 i ci a v l' k;rw[e1,e2] at this;rw[e2];refine this.free rfl λx hx k=>?_;have:=hni x hx;simp[PD,this]
     ·exact⟨sf1 i,.inr h,a3 i ci⟩
    obtain⟨d1,d2⟩:GE ops tbl (sf2 j) (rf2 j)=true/\VC (sf2 j) (rf2 j)=true:=by
     rcases(b1 j cj).2 with⟨_,e1,e2⟩|h
     ·rw[e1,e2];exact⟨vF,rfl⟩
     ·exact h
    refine .eff (λk=>if k=i then oo1 i else oo2 j) (λk=>if k=i then K1 i else K2 j) (λk=>if k=i then rf1 i else rf2 j) (λk=>if k=i then il else sf2 j) (λk hk=>?_) (λk hk=>?_) λk hk=>?_
    ·rcases hj k hk with h|h
     ·subst h;simp only[CV,GH];simp only[GH] at c1;exact⟨(a1 k ci).1,c1⟩
     ·subst h;simp only[Ab W4];exact⟨(b1 k cj).1.trans hp,.inr ⟨d1,d2⟩⟩
    ·rcases hj k hk with h|h
     ·subst h;simp only[CV];exact a2 k ci
     ·subst h;simp only[Ab W4];exact b2 k cj
    ·rcases hj k hk with h|h
     ·subst h;simp only[CV];exact c2
     ·subst h;simp only[Ab W4];exact b3 k cj
inductive Attach(os:List Oper):List (Nat×Bool)->List BI->Prop
 |nil:Attach os [] []
 |cons {i:Nat} {b:Bool} {o:Oper} {r:List (Nat×Bool)} {pl:List BI}:os[i]?=some o->Attach os r pl->Attach os ((i,b)::r) ((i,b,o)::pl)
theorem Attach.spec{r:List (Nat×Bool)}(h:Attach os r pl):(∀x,x∈pl->os.toArray[x.1]?=some x.2.2)/\pl.map (λx=>x.1)=r.map Prod.fst:=by
 induction h with
 |nil=>exact⟨by simp,rfl⟩
 |cons h1 _ ih=>
  refine⟨λx hx=>?_,by simp[ih.2]⟩;rcases Au.1 hx with rfl|hx
  ·simpa using h1
  ·exact ih.1 x hx
def IO(os:List Oper):List (Nat×Bool)->List BI
 |[]=>[]
 |(i,b)::r=>match os[i]? with
  |some o=>(i,b,o)::IO os r
  |none=>[]
theorem Attach.fun_eq{r:List (Nat×Bool)}(h:Attach os r pl):IO os r=pl:=by
 induction h with
 |nil=>rfl
 |cons h1 _ ih=>unfold IO;rw[h1,ih]
def SS(os:List Oper)(plan:List (Nat×Bool))(tbl:List (List Nat))(sw:Sw):Bool:=
 TN os.toArray tbl&&GE os.toArray tbl sw (IO os plan)&&decide (plan.length<=os.length)&&((List.range os.length).all λi=>(plan.map Prod.fst).contains i)&&VC sw (IO os plan)
def Xk(os:List Oper)(plan:List (Nat×Bool))(tbl:List (List Nat)):Bool:=SS os plan tbl none
theorem SU{fr:Fr}{l:Ac}(plan:List (Nat×Bool))(tbl:List (List Nat))(sw:Sw)(R:Ac)(hm:P.follows .mixedOrders=true)(hv:SS os plan tbl sw=true)(ha:Attach os plan pl)(hR: ∀c,c∈R->c∈l)
 (h:PlanS P ro N E os.toArray Q R tbl sw [] pl fr ds l):BS P ro N E (.region k os.toArray true) Q fr ds l:=by
 unfold SS at hv;simp only[AM] at hv;obtain⟨⟨⟨⟨ht,hp⟩,LJ⟩,GK⟩,MK⟩:=hv;rw[ha.fun_eq] at hp MK;obtain⟨h1,h2⟩:=Nn hp;obtain⟨n1,n2⟩:=ha.spec;refine⟨λa W hf hds hs=>wpIn_region_any hm ?_⟩;have Yj:pl.length<=os.toArray.size:=by have h3:=BM List.length n2;simp only[A5] at h3;rw[h3];simpa using LJ
 have Ln:(pl.map (λx:BI=>x.1)).Nodup:=by rw[D6,Cz];exact h2.imp λhp=>(FF hp).2.2
 refine Way.any ht _ sw [] _ [] pl (λa=>FSat N fr a/\a.defers=ds) l a _ ⟨⟨hf,hds⟩,hR,hs.drawn _,h.sem [] (λx hx=>by cases hx),λp1 x v p2 e=>by simp at e,by simp,?_,by simpa using n1,by simpa using h1,by simpa using h2,(λx hx j e=>?_),?_⟩ (by simpa using Yj)
 ·intro i hi;have hi':i<os.length:=by simpa using hi
  have e:(Array.replicate os.toArray.size false).getD i true=false:=by simp[Dt,Array.getElem?_replicate,hi']
  rw[e];simp only[CZ,Ag,true_iff];have:=AS.1 GK i (by simpa using hi);rw[<-n2] at this;simp only[JM,Ax] at this;exact this
 ·obtain⟨y,hy,e1,e2⟩:=V1 MK e;rw[<-Xj pl Ln hy (by simpa using hx) e1];exact e2
 ·intro j o _ hl;exfalso;simp[Dt,Array.getElem?_replicate] at hl
  split at hl<;>simp at hl
theorem J0{fr:Fr}{l:Ac}(plan:List (Nat×Bool))(tbl:List (List Nat))(R:Ac)(hm:P.follows .mixedOrders=true)(hv:Xk os plan tbl=true)(ha:Attach os plan pl)(hR: ∀c,c∈R->c∈l)
 (h:PlanS P ro N E os.toArray Q R tbl none [] pl fr ds l):BS P ro N E (.region k os.toArray true) Q fr ds l:=SU plan tbl none R hm hv ha hR h
end
variable{sp:F5}
section
variable{sw:Sw}{fr:Fr}{l:Ac}{k:Bool}
theorem br(h:C3 N E Q .normal fr ds l):PlanS P ro N E ops Q R tbl sw sp [] fr ds l:= .nil h
theorem EI{d:Nat}(h:OpQ P ro N fr R o v)(hw:o.guard=none)(hd:o.dst=some d)(hb:Nat.blt d N=true)(hk:PlanS P ro N E ops Q R tbl sw sp pl ((d,v)::fr) ds l):PlanS P ro N E ops Q R tbl sw sp ((i,true,o)::pl) fr ds l:=
 .q h hw (by rw[hd];exact hb) (by rw[hd];exact hk)
theorem YU{d:Nat}(h:OpQ P ro N fr R o v)(hw:o.guard=some (j,b))(hj:ops[j]?=some oj)(Lm:oj.dst=some dj)(hb:Cc fr dj=some (.bool b))(hd:o.dst=some d)(SO:Nat.blt d N=true)(hk:PlanS P ro N E ops Q R tbl sw sp pl ((d,v)::fr) ds l):PlanS P ro N E ops Q R tbl sw sp ((i,true,o)::pl) fr ds l:=
 .gq h hw hj Lm hb (by rw[hd];exact SO) (by rw[hd];exact hk)
theorem Acr{d:Nat}(hR: ∀c,c∈R->c∈l)(hw:o.guard=some (j,b))(hj:ops[j]?=some oj)(Lm:oj.dst=some dj)(hb:Cc fr dj=some (.bool b'))(GS:(b'==b)=false)(hd:o.dst=some d)(SO:Nat.blt d N=true)(hk:PlanS P ro N E ops Q R tbl none [] pl ((d,undef)::fr) ds l):PlanS P ro N E ops Q R tbl none [] ((i,k,o)::pl) fr ds l:=
 .gs hw hj Lm hb GS (by rw[hd];exact SO) hR (λ_=>rfl) (λ_ x hx=>by cases hx) (by rw[hd];exact hk)
theorem CX{d:Nat}(h:OpE P ro N fr l o K)(hw:o.guard=none)(hd:o.dst=some d)(hb:Nat.blt d N=true)(hR: ∀v l',K v l'->(∀c,c∈R->c∈l'))(hk: ∀v l',K v l'->PlanS P ro N E ops Q R tbl none [] pl ((d,v)::fr) ds l'):PlanS P ro N E ops Q R tbl none [] ((i,false,o)::pl) fr ds l:=
 .e h hw (by rw[hd];exact hb) hR (λ_ _ _ x hx=>by cases hx) λv l' hkv=>by rw[hd];exact hk v l' hkv
theorem Oy(h:OpE P ro N fr l o K)(hw:o.guard=none)(hd:o.dst=none)(hR: ∀v l',K v l'->(∀c,c∈R->c∈l'))(hk: ∀v l',K v l'->PlanS P ro N E ops Q R tbl none [] pl fr ds l'):PlanS P ro N E ops Q R tbl none [] ((i,false,o)::pl) fr ds l:=
 .e h hw (by rw[hd];rfl) hR (λ_ _ _ x hx=>by cases hx) λv l' hkv=>by rw[hd];exact hk v l' hkv
theorem Acs{d:Nat}(h:OpE P ro N fr l o K)(hw:o.guard=some (j,b))(hj:ops[j]?=some oj)(Lm:oj.dst=some dj)(hb:Cc fr dj=some (.bool b))(hd:o.dst=some d)(SO:Nat.blt d N=true)(hR: ∀v l',K v l'->(∀c,c∈R->c∈l'))(hk: ∀v l',K v l'->PlanS P ro N E ops Q R tbl none [] pl ((d,v)::fr) ds l'):PlanS P ro N E ops Q R tbl none [] ((i,false,o)::pl) fr ds l:=
 .ge h hw hj Lm hb (by rw[hd];exact SO) hR (λ_ _ _ x hx=>by cases hx) λv l' hkv=>by rw[hd];exact hk v l' hkv
theorem Hi{d:Nat}(h:OpE P ro N fr l o K)(hw:o.guard=none)(hd:o.dst=some d)(hb:Nat.blt d N=true)(hR: ∀v l',K v l'->(∀c,c∈R->c∈l'))(hS: ∀v l',K v l'-> ∀x,x∈sp->FP tbl i x.1=false-> ∀c,c∈x.2->c∈l')(hk: ∀v l',K v l'->PlanS P ro N E ops Q R tbl none sp pl ((d,v)::fr) ds l'):PlanS P ro N E ops Q R tbl none sp ((i,false,o)::pl) fr ds l:=
 .e h hw (by rw[hd];exact hb) hR hS λv l' hkv=>by rw[hd];exact hk v l' hkv
theorem HL(h:OpE P ro N fr l o K)(hw:o.guard=none)(hd:o.dst=none)(hR: ∀v l',K v l'->(∀c,c∈R->c∈l'))(hS: ∀v l',K v l'-> ∀x,x∈sp->FP tbl i x.1=false-> ∀c,c∈x.2->c∈l')(hk: ∀v l',K v l'->PlanS P ro N E ops Q R tbl none sp pl fr ds l'):PlanS P ro N E ops Q R tbl none sp ((i,false,o)::pl) fr ds l:=
 .e h hw (by rw[hd];rfl) hR hS λv l' hkv=>by rw[hd];exact hk v l' hkv
theorem Dk(h:(sp.map Prod.fst).all (λq=>FP tbl i q)=true){x:Nat×Ac}(hx:x∈sp)(ha:FP tbl i x.1=false): ∀c,c∈x.2->c∈l':=by have:=AS.1 h x.1 (Ax.2 ⟨x,hx,rfl⟩);rw[ha] at this;cases this
theorem Gy{d:Nat}{S:Ac}(h:OpQ P ro N fr S o v)(hS: ∀c,c∈S->c∈l)(hw:o.guard=none)(hd:o.dst=some d)(hb:Nat.blt d N=true)(hk:PlanS P ro N E ops Q R tbl sw ((i,S)::sp) pl ((d,v)::fr) ds l):PlanS P ro N E ops Q R tbl sw sp ((i,true,o)::pl) fr ds l:=
 .sq h hS hw (by rw[hd];exact hb) (by rw[hd];exact hk)
theorem Acu{d:Nat}(h:OpQ P ro N fr l o v)(hw:o.guard=none)(hd:o.dst=some d)(hb:Nat.blt d N=true)(hR: ∀c,c∈R->c∈l)(hk:PlanS P ro N E ops Q R tbl none [] pl ((d,v)::fr) ds l):PlanS P ro N E ops Q R tbl none [] ((i,false,o)::pl) fr ds l:=by
 refine CX (h.run l λ_ h=>h) hw hd hb ?_ ?_
 ·rintro _ _ ⟨rfl,rfl⟩;exact hR
 ·rintro _ _ ⟨rfl,rfl⟩;exact hk
theorem N9{d:Nat}(h:OpQ P ro N fr R o v)(hw:RD ops fr o.guard=some true)(hd:o.dst=some d)(hb:Nat.blt d N=true)(hk:PlanS P ro N E ops Q R tbl sw sp pl ((d,v)::fr) ds l):PlanS P ro N E ops Q R tbl sw sp ((i,true,o)::pl) fr ds l:=by
 rcases Km hw with⟨h1,_⟩|⟨j,b,oj,dj,b',h1,h2,h3,h4,h5⟩
 ·exact EI h h1 hd hb hk
 ·have:b'=b:=by simpa using h5
  subst this;exact YU h h1 h2 h3 h4 hd hb hk
theorem Acv{d:Nat}(hR: ∀c,c∈R->c∈l)(hw:RD ops fr o.guard=some false)(hd:o.dst=some d)(hb:Nat.blt d N=true)(hk:PlanS P ro N E ops Q R tbl none [] pl ((d,undef)::fr) ds l):PlanS P ro N E ops Q R tbl none [] ((i,k,o)::pl) fr ds l:=by
 rcases Km hw with⟨_,h1⟩|⟨j,b,oj,dj,b',h1,h2,h3,h4,h5⟩
 ·cases h1
 ·exact Acr hR h1 h2 h3 h4 h5 hd hb hk
theorem md{w:Bool}{ip:Decidable p}(hw:o.guard=some (j,w))(hj:ops[j]?=some oj)(Lm:oj.dst=some t)(hc:Cc fr t=some (.bool (@decide p ip)))(hp:p)(h:PlanS P ro N E ops Q R tbl sw sp ((i,k,o)::pl) ((t,.bool true)::fr) ds l):PlanS P ro N E ops Q R tbl sw sp ((i,k,o)::pl) fr ds l:=
 .weak (G7 (by rw[hc,Aq hp])) h
theorem me{w:Bool}{ip:Decidable p}(hw:o.guard=some (j,w))(hj:ops[j]?=some oj)(Lm:oj.dst=some t)(hc:Cc fr t=some (.bool (@decide p ip)))(hp:¬p)(h:PlanS P ro N E ops Q R tbl sw sp ((i,k,o)::pl) ((t,.bool false)::fr) ds l):PlanS P ro N E ops Q R tbl sw sp ((i,k,o)::pl) fr ds l:=
 .weak (G7 (by rw[hc,Av hp])) h
end
end Go.Proofs.YtlifcingifodfaaGreat
