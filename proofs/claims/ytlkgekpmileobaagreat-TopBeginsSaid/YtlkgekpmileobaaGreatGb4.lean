/- Laws that the statement's proof leans on (joined out of several texts). -/
import Derived.Test.YtlkgekpmileobaaGreatGb3
import Derived.Test.YtlkgekpmileobaaGreatGb1
set_option linter.unusedVariables false
set_option linter.unusedSimpArgs false
namespace Go.Proofs.YtlkgekpmileobaaGreat
open Go.RowKit
variable{l l' L T:List Ab}{t j N dj r D:Nat}{E W:World}{oj:Oper}{p:Prop}{α:Type}{P:Program}{Q:Exit->Act->World->Prop}{fr fr':Fr}{ds:List Deferred}{b w:Bool}{c x y assign body:Code}{ro:Option Nat}{K:Value->List Ab->Prop}{ops:Array Oper}{rest:List Oper}{v:Value}{fn:Func}{rs:List ResultVar}{vs:List Value}{tmps:Array Value}
section
variable{o:Oper}
theorem db{d:Nat}(h:OpE P ro N fr l o K)(hw:o.guard=none)(hd:o.dst=some d)(hb:Nat.blt d N=true)(hk: ∀v l',K v l'->Df P ro N E ops Q rest ((d,v)::fr) ds l'):Df P ro N E ops Q (o::rest) fr ds l:=
 s8 h hw (by rw[hd];exact hb) λv l' hkv=>by rw[hd];exact hk v l' hkv
theorem LV(h:OpE P ro N fr l o K)(hw:o.guard=none)(hd:o.dst=none)(hk: ∀v l',K v l'->Df P ro N E ops Q rest fr ds l'):Df P ro N E ops Q (o::rest) fr ds l:=
 s8 h hw (by rw[hd];rfl) λv l' hkv=>by rw[hd];exact hk v l' hkv
theorem l6{d:Nat}(h:OpQ P ro N fr l o v)(hw:o.guard=none)(hd:o.dst=some d)(hb:Nat.blt d N=true)(hk:Df P ro N E ops Q rest ((d,v)::fr) ds l):Df P ro N E ops Q (o::rest) fr ds l:=
 vg h hw (by rw[hd];exact hb) (by rw[hd];exact hk)
theorem Vu{d:Nat}(h:OpQ P ro N fr l o v)(hw:o.guard=some (j,b))(hj:ops[j]?=some oj)(hjd:oj.dst=some dj)(hb:BP fr dj=some (.bool b))(hd:o.dst=some d)(hbl:Nat.blt d N=true)(hk:Df P ro N E ops Q rest ((d,v)::fr) ds l):Df P ro N E ops Q (o::rest) fr ds l:=
 s9 h hw hj hjd hb (by rw[hd];exact hbl) (by rw[hd];exact hk)
theorem ti{d:Nat}(h:OpE P ro N fr l o K)(hw:o.guard=some (j,b))(hj:ops[j]?=some oj)(hjd:oj.dst=some dj)(hb:BP fr dj=some (.bool b))(hd:o.dst=some d)(hbl:Nat.blt d N=true)(hk: ∀v l',K v l'->Df P ro N E ops Q rest ((d,v)::fr) ds l'):Df P ro N E ops Q (o::rest) fr ds l:=
 qn h hw hj hjd hb (by rw[hd];exact hbl) λv l' hkv=>by rw[hd];exact hk v l' hkv
theorem tj{d:Nat}{b':Bool}(hw:o.guard=some (j,b))(hj:ops[j]?=some oj)(hjd:oj.dst=some dj)(hb:BP fr dj=some (.bool b'))(hne:(b'==b)=false)(hd:o.dst=some d)(hbl:Nat.blt d N=true)(hk:Df P ro N E ops Q rest ((d,undef)::fr) ds l):Df P ro N E ops Q (o::rest) fr ds l:=
 tc hw hj hjd hb hne (by rw[hd];exact hbl) (by rw[hd];exact hk)
def Pz(ops:Array Oper)(fr:Fr):Option (Nat×Bool)->Option Bool
 |none=>some true
 |some (j,b)=>match ops[j]? with
  |some oj=>match oj.dst with
   |some dj=>match BP fr dj with
    |some (.bool b')=>some (b'==b)
    |_=>none
   |none=>none
  |none=>none
theorem JK{g:Option (Nat×Bool)}{r:Bool}(h:Pz ops fr g=some r):(g=none/\r=true)\/ ∃j b oj dj b',g=some (j,b)/\ops[j]?=some oj/\oj.dst=some dj/\BP fr dj=some (.bool b')/\(b'==b)=r:=by
 cases g with
 |none=>exact .inl ⟨rfl,by cases h;rfl⟩
 |some jb=>
  obtain⟨j,b⟩:=jb;refine .inr ⟨j,b,?_⟩;unfold Pz at h;simp only at h
  split at h
  ·rename_i oj hoj
   split at h
   ·rename_i dj hdj
    split at h
    ·rename_i b' hb';exact⟨oj,dj,b',rfl,hoj,hdj,hb',by cases h;rfl⟩
    ·cases h
   ·cases h
  ·cases h
theorem N9{d:Nat}(h:OpQ P ro N fr l o v)(hw:Pz ops fr o.guard=some true)(hd:o.dst=some d)(hb:Nat.blt d N=true)(hk:Df P ro N E ops Q rest ((d,v)::fr) ds l):Df P ro N E ops Q (o::rest) fr ds l:=by
 rcases JK hw with⟨h1,_⟩|⟨j,b,oj,dj,b',h1,h2,h3,h4,h5⟩
 ·exact l6 h h1 hd hb hk
 ·have:b'=b:=by simpa using h5
  subst this;exact Vu h h1 h2 h3 h4 hd hb hk
theorem tk{d:Nat}(hw:Pz ops fr o.guard=some false)(hd:o.dst=some d)(hb:Nat.blt d N=true)(hk:Df P ro N E ops Q rest ((d,undef)::fr) ds l):Df P ro N E ops Q (o::rest) fr ds l:=by
 rcases JK hw with⟨_,h1⟩|⟨j,b,oj,dj,b',h1,h2,h3,h4,h5⟩
 ·cases h1
 ·exact tj h1 h2 h3 h4 h5 hd hb hk
theorem Uf(hs': ∀d v,BP fr' d=some v->BP fr d=some v)(h:BF P ro N E c Q fr' ds l):BF P ro N E c Q fr ds l:=⟨λa W hf hds hs=>h.run a W (hf.sub hs') hds hs⟩
theorem QO{ip:Decidable p}(hc:BP fr t=some (.bool (@decide p ip)))(hp:p)(h:BF P ro N E x Q ((t,.bool true)::fr) ds l):BF P ro N E (.cond (.tmp t) x y) Q fr ds l:=by
 have hc':BP fr t=some (.bool true):=by rw[hc,At hp]
 exact KZ hc' (Uf (F0 hc') h)
theorem QP{ip:Decidable p}(hc:BP fr t=some (.bool (@decide p ip)))(hp:¬p)(h:BF P ro N E y Q ((t,.bool false)::fr) ds l):BF P ro N E (.cond (.tmp t) x y) Q fr ds l:=by
 have hc':BP fr t=some (.bool false):=by rw[hc,Aw hp]
 exact K0 hc' (Uf (F0 hc') h)
theorem jh{ip:Decidable p}(hc:BP fr t=some (.bool (@decide p ip)))(h1:p->BF P ro N E x Q ((t,.bool true)::fr) ds l)(h2:¬p->BF P ro N E y Q ((t,.bool false)::fr) ds l):BF P ro N E (.cond (.tmp t) x y) Q fr ds l:=by
 by_cases hp:p
 ·exact QO hc hp (h1 hp)
 ·exact QP hc hp (h2 hp)
theorem dv(hc:BP fr t=some (.bool b))(h1:b=true->BF P ro N E x Q ((t,.bool true)::fr) ds l)(h2:b=false->BF P ro N E y Q ((t,.bool false)::fr) ds l):BF P ro N E (.cond (.tmp t) x y) Q fr ds l:=by
 cases b with
 |true=>exact KZ hc (Uf (F0 hc) (h1 rfl))
 |false=>exact K0 hc (Uf (F0 hc) (h2 rfl))
theorem dy(hs': ∀d v,BP fr' d=some v->BP fr d=some v)(h:Df P ro N E ops Q rest fr' ds l):Df P ro N E ops Q rest fr ds l:=⟨λa W hf hds hs=>h.run a W (hf.sub hs') hds hs⟩
theorem YS{ip:Decidable p}(hw:o.guard=some (j,w))(hj:ops[j]?=some oj)(hjd:oj.dst=some t)(hc:BP fr t=some (.bool (@decide p ip)))(hp:p)(h:Df P ro N E ops Q (o::rest) ((t,.bool true)::fr) ds l):Df P ro N E ops Q (o::rest) fr ds l:=by
 have hc':BP fr t=some (.bool true):=by rw[hc,At hp]
 exact dy (F0 hc') h
theorem YT{ip:Decidable p}(hw:o.guard=some (j,w))(hj:ops[j]?=some oj)(hjd:oj.dst=some t)(hc:BP fr t=some (.bool (@decide p ip)))(hp:¬p)(h:Df P ro N E ops Q (o::rest) ((t,.bool false)::fr) ds l):Df P ro N E ops Q (o::rest) fr ds l:=by
 have hc':BP fr t=some (.bool false):=by rw[hc,Aw hp]
 exact dy (F0 hc') h
theorem qG{ip:Decidable p}(hw:o.guard=some (j,w))(hj:ops[j]?=some oj)(hjd:oj.dst=some t)(hc:BP fr t=some (.bool (@decide p ip)))(h1:p->Df P ro N E ops Q (o::rest) ((t,.bool true)::fr) ds l)(h2:¬p->Df P ro N E ops Q (o::rest) ((t,.bool false)::fr) ds l):Df P ro N E ops Q (o::rest) fr ds l:=by
 by_cases hp:p
 ·exact YS hw hj hjd hc hp (h1 hp)
 ·exact YT hw hj hjd hc hp (h2 hp)
theorem qH(hw:o.guard=some (j,w))(hj:ops[j]?=some oj)(hjd:oj.dst=some t)(hc:BP fr t=some (.bool b))(h1:b=true->Df P ro N E ops Q (o::rest) ((t,.bool true)::fr) ds l)(h2:b=false->Df P ro N E ops Q (o::rest) ((t,.bool false)::fr) ds l):Df P ro N E ops Q (o::rest) fr ds l:=
 i5 t hc h1 h2
end
inductive Pick:List Ab->Ab->List Ab->Prop
 |here {c:Ab} {l:List Ab}:Pick (c::l) c l
 |there {c d:Ab} {l l':List Ab}:Pick l c l'->Pick (d::l) c (d::l')
theorem Pick.perm{c:Ab}(h:Pick l c l'):l.Perm (c::l'):=by
 induction h with
 |here=>exact HY _
 |there _ ih=>exact(List.Perm.cons _ ih).trans (List.Perm.swap _ _ _)
structure Keep(L l:List Ab):Prop where
 ex: ∃g:List Ab,L.Perm (g++l)
theorem Keep.refl:Keep l l:=⟨[],HY _⟩
theorem Keep.pick{l1:List Ab}{c:Ab}(h:Pick l c l1)(k:Keep l1 l'):Keep l (c::l'):=by obtain⟨g,hg⟩:=k.ex;exact⟨g,h.perm.trans ((List.Perm.cons _ hg).trans AH.symm)⟩
theorem Keep.drop{c:Ab}(k:Keep l l'):Keep (c::l) l':=by obtain⟨g,hg⟩:=k.ex;exact⟨c::g,List.Perm.cons c hg⟩
theorem Keep.of_perm(p:l.Perm l'):Keep l l':=⟨[],p⟩
theorem Keep.right(k:Keep L l)(p:l.Perm l'):Keep L l':=by obtain⟨g,hg⟩:=k.ex;exact⟨g,hg.trans (El g p)⟩
theorem Keep.trans(k:Keep L l)(k':Keep l l'):Keep L l':=by obtain⟨g,hg⟩:=k.ex;obtain⟨g',hg'⟩:=k'.ex;exact⟨g++g',by rw[Al];exact hg.trans (El g hg')⟩
theorem Keep.mid{M:List Ab}{c:Ab}(k:Keep L (c::(M++l))):Keep L (M++c::l):=k.right AH.symm
theorem Keep.sat(h:Keep l l'):Sat E l W->Sat E l' W:=by obtain⟨g,hg⟩:=h.ex;intro hs;exact(hs.perm hg).sub (List.sublist_append_right _ _)
section
variable{e:Exit}
theorem Bk(p:Keep l l')(h:Df P ro N E ops Q rest fr ds l'):Df P ro N E ops Q rest fr ds l:=⟨λa W hf hds hs=>h.run a W hf hds (p.sat hs)⟩
theorem DQ(p:Keep l l')(h:BF P ro N E c Q fr ds l'):BF P ro N E c Q fr ds l:=⟨λa W hf hds hs=>h.run a W hf hds (p.sat hs)⟩
theorem Jh(p:Keep l l')(h:CH N E Q e fr ds l'):CH N E Q e fr ds l:=⟨λa W hf hds hs=>h.run a W hf hds (p.sat hs)⟩
theorem Fn.keep{f:FuncId}{args:List Value}(p:Keep l l')(h:Fn P f args l' K):Fn P f args l K:=⟨λE W hs=>h.run E W (p.sat hs)⟩
theorem Cu(fx:α->Fr)(lx:α->List Ab)(pre:α->Prop)(μ:α->Nat)(x₀:α)(h0:pre x₀)(hf0:FSub (fx x₀) fr)(hl0:Keep l (lx x₀))
 (round: ∀x,pre x->BF P ro N E c (Exit.then (YP N E fx ds lx pre μ x) Q) (fx x) ds (lx x)):BF P ro N E (.loop c) Q fr ds l:=DQ hl0 (nw fx lx pre μ x₀ h0 hf0 (HY _) round)
theorem BS{fx:α->Fr}{lx:α->List Ab}{pre:α->Prop}{μ:α->Nat}{x:α}(y:α)(h1:pre y)(h2:μ y<μ x)(h3:FSub (fx y) fr)(h4:Keep l (lx y)):CH N E (Exit.then (YP N E fx ds lx pre μ x) Q) .normal fr ds l:=
 Jh h4 (ny y h1 h2 h3 (HY _))
theorem By(Ds:List Nat)(hr:fn.results=rs.toArray)(hp:Keep l (Ds.map Cd++l'))(h:ResS P fr l' rs vs)(hk:K (Iw vs) l'):
 CH N E (bodyPostM Fence.wide 0 P fn (RK E K)) .ret fr (Ds.map GF) l:=Jh hp (qo Ds hr (HY _) h hk)
theorem RK.keep{l2:List Ab}(p:Keep l2 l')(hk:K v l')(hs:Sat E l2 W):RK E K (.returned v) W:=⟨v,l',rfl,hk,p.sat hs⟩
theorem AU(Ds:List Nat)(l2:List Ab)(hr:fn.results=rs.toArray)(hp:Keep l (Ds.map Cd++l2))(h:ResS P fr l2 rs vs)(p2:Keep l2 l')(hk:K (Iw vs) l'):
 CH N E (bodyPostM Fence.wide 0 P fn (RK E K)) .ret fr (Ds.map GF) l:=by
 refine Jh hp ⟨λa W hf hds hs=>?_⟩;show LeavesInM Fence.wide 0 P fn a.tmps (RK E K) a.defers .returning W;rw[hds];exact O7 (v:=Iw vs) Ds W hs λW' hs'=>⟨Py hr hf hs' h,RK.keep p2 hk hs'⟩
end
def l9(N:Nat)(E:World){α:Type}(fx:α->Fr)(dx:α->List Deferred)(lx:α->List Ab)(pre:α->Prop)(μ:α->Nat)(x:α)(a:Act)(W:World):Prop:=
 ∃y,pre y/\μ y<μ x/\FSat N (fx y) a/\a.defers=dx y/\Sat E (lx y) W
section
theorem nG(fx:α->Fr)(dx:α->List Deferred)(lx:α->List Ab)(pre:α->Prop)(μ:α->Nat)(x₀:α)(h0:pre x₀)(hf0:FSub (fx x₀) fr)(hd0:ds=dx x₀)(hl0:Keep l (lx x₀))
 (round: ∀x,pre x->BF P ro N E c (Exit.then (l9 N E fx dx lx pre μ x) Q) (fx x) (dx x) (lx x)):BF P ro N E (.loop c) Q fr ds l:=by
 refine⟨λa W hf hds hs=>?_⟩;refine wpIn_loop (λa W=> ∃x,pre x/\FSat N (fx x) a/\a.defers=dx x/\Sat E (lx x) W) (λa W=>QJ λn=> ∃x,pre x/\FSat N (fx x) a/\a.defers=dx x/\Sat E (lx x) W/\μ x=n) ⟨x₀,h0,hf.sub hf0.spec,hds.trans hd0,hl0.sat hs⟩ ?_;intro a W hI;have hex: ∃n,∃x,pre x/\FSat N (fx x) a/\a.defers=dx x/\Sat E (lx x) W/\μ x=n:=by obtain⟨x,h1,h2,h3,h4⟩:=hI;exact⟨_,x,h1,h2,h3,h4,rfl⟩
 obtain⟨⟨x,h1,h2,h3,h4,h5⟩,_⟩:=Kf hex;refine wpIn_mono ((round x h1).run a W h2 h3 h4) ?_;intro e a' W' hq;cases e with
 |normal=>obtain⟨y,k1,k2,k3,k4,k5⟩:=hq;refine⟨⟨y,k1,k3,k4,k5⟩,?_⟩;exact DW ((Kf (p:=λn=> ∃x,pre x/\FSat N (fx x) a'/\a'.defers=dx x/\Sat E (lx x) W'/\μ x=n) ⟨_,y,k1,k3,k4,k5,rfl⟩).2 (μ y) ⟨y,k1,k3,k4,k5,rfl⟩) (by rw[<-h5];exact k2)
 |_=>exact hq
theorem nH{fx:α->Fr}{dx:α->List Deferred}{lx:α->List Ab}{pre:α->Prop}{μ:α->Nat}{x:α}(y:α)(h1:pre y)(h2:μ y<μ x)(h3:FSub (fx y) fr)(hd:ds=dx y)(h4:Keep l (lx y)):CH N E (Exit.then (l9 N E fx dx lx pre μ x) Q) .normal fr ds l:=
 ⟨λa W hf hds hs=>⟨y,h1,h2,hf.sub h3.spec,hds.trans hd,h4.sat hs⟩⟩
end
structure E2(P:Program)(gf:Nat)(lb:List Value){α:Type}(enc:α->List Value)(S Sp:List α->Prop)(Need:List α->List Ab->Prop):Prop where
 run: ∀(r:Nat) (I Ix:List α->List Ab->Prop) (G0:List Ab),(∀pre l G,(∀c,c∈G0->c∈G)->I pre l->Need pre (l++G))->
  (∀pre x l G,(∀c,c∈G0->c∈G)->I pre l->Sp (pre++[x])->Mn P r (enc x) (l++G) (λv l'=> ∃l1,l'=l1++G/\((v= .bool true/\I (pre++[x]) l1)\/(v= .bool false/\Ix (pre++[x]) l1))))->
  ∀l G,(∀c,c∈G0->c∈G)->I [] l->Fn P gf (.func (.yield r) #[] #[]::lb) (l++G) (λv l'=> ∃l1,l'=l1++G/\((∃xs,S xs/\I xs l1)\/(∃pre,Sp pre/\Ix pre l1)))
def Ji{α:Type}(I:List α->List Ab->Prop)(Ix:Code->List α->List Ab->Prop)(xs:List α)(r:Nat)(rec:LoopState->Option Code->Loop)(T:List Ab):Value->List Ab->Prop:=λv l'=>
 (v= .bool true/\ ∃l1,I xs l1/\l'=l1++(r,.loop (rec .ready none))::T)\/(v= .bool false/\ ∃c l1,Ix c xs l1/\l'=l1++(r,.loop (rec .done (some c)))::T)
def Dp(fn:FuncId)(tmps:Array Value)(ps:Array Tmp)(assign body:Code)(D:Nat)(st:LoopState)(pe:Option Code):Loop:={state:=st,pending:=pe,fn,tmps,params:=ps,assign,body,defers:=D}
def NS(P:Program)(r:Nat)(body:Code)(Q:Exit->Act->World->Prop):Act->World->Prop:=λa w=> ∃w2,(Instr.beginRound r).run P w= .ok () w2/\body.wpIn (Fw (some r)) 0 P Q a w2
def Du:List Nat->List Value->Fr->Fr
 |p::ps,v::vs,fr=>Du ps vs ((p,v)::fr)
 |_,_,fr=>fr
theorem SX{N:Nat}: ∀(ps:List Nat) (vs:List Value) (fr:Fr) (a:Act) (ds:List Deferred),FSat N fr a->ps.all (λp=>Nat.blt p N)=true->
 FSat N (Du ps vs fr) {tmps:=(ps.zip vs).foldl (λt (p,v)=>t.setIfInBounds p v) a.tmps,defers:=ds}
 |[],vs,fr,a,ds,hf,_=>⟨hf.size,hf.at_⟩
 |p::ps,[],fr,a,ds,hf,_=>⟨hf.size,hf.at_⟩
 |p::ps,v::vs,fr,a,ds,hf,hb=>by simp only[Hk,AX] at hb;have h1:FSat N ((p,v)::fr) (a.put (some p) v):=FSat.put (d:=some p) hf v hb.1;exact SX ps vs _ _ ds h1 hb.2
section
variable{fn:FuncId}{ps:Array Tmp}{I:List α->List Ab->Prop}{Ix:Code->List α->List Ab->Prop}{xs:List α}
theorem Cp{L':List Ab}{Qx:Exit->Act->World->Prop}(hu:Upd L r (.loop (Dp fn tmps ps assign body D .ready none)) (.loop (Dp fn tmps ps assign body D .busy none)) L')(h:BF P (some r) N E body Q fr ds L'):CH N E (Exit.then (NS P r body Q) Qx) .normal fr ds L:=
 ⟨λa W hf hds hs=>⟨_,run_beginRound (hs.has _ hu.mem) rfl,h.run a _ hf hds (hs.upd hu)⟩⟩
theorem Fa(l:List Ab)(b:Nat)(o o':Obj)(T:List Ab):Upd (l++(b,o)::T) b o o' (l++(b,o')::T):=by
 induction l with
 |nil=>exact .here
 |cons c l ih=>exact .there ih
theorem B9(l1:List Ab)(hk:Keep L (l1++(r,.loop (Dp fn tmps ps assign body D .busy none))::T))(hI:I xs l1):CH N E (roundPost P r (RK E (Ji I Ix xs r (Dp fn tmps ps assign body D) T))) .normal fr ds L:=
 ⟨λa W hf hds hs=>by have hs:=hk.sat hs;have hm:W.heap[r]?=some (.loop (Dp fn tmps ps assign body D .busy none)):=hs.has (r,_) (by simp);refine⟨_,_,run_endRound none hm,_,_,rfl,.inl ⟨rfl,l1,hI,rfl⟩,hs.upd (Fa _ _ _ _ _)⟩⟩
theorem D3(l1:List Ab)(hk:Keep L (l1++(r,.loop (Dp fn tmps ps assign body D .busy none))::T))(hI:Ix .ret xs l1):CH N E (roundPost P r (RK E (Ji I Ix xs r (Dp fn tmps ps assign body D) T))) .ret fr ds L:=
 ⟨λa W hf hds hs=>by have hs:=hk.sat hs;have hm:W.heap[r]?=some (.loop (Dp fn tmps ps assign body D .busy none)):=hs.has (r,_) (by simp);refine⟨_,_,run_endRound (some .ret) hm,_,_,rfl,.inr ⟨rfl,.ret,l1,hI,rfl⟩,hs.upd (Fa _ _ _ _ _)⟩⟩
theorem Et{k:Nat}(l1:List Ab)(hk:Keep L (l1++(r,.loop (Dp fn tmps ps assign body D .busy none))::T))(hI:Ix (.exit k) xs l1):CH N E (roundPost P r (RK E (Ji I Ix xs r (Dp fn tmps ps assign body D) T))) (.exit k) fr ds L:=
 ⟨λa W hf hds hs=>by have hs:=hk.sat hs;have hm:W.heap[r]?=some (.loop (Dp fn tmps ps assign body D .busy none)):=hs.has (r,_) (by simp);refine⟨_,_,run_endRound (some (.exit k)) hm,_,_,rfl,.inr ⟨rfl,.exit k,l1,hI,rfl⟩,hs.upd (Fa _ _ _ _ _)⟩⟩
end
structure md(P:Program)(gf:Nat)(lb:List Value){α:Type}(enc:α->List Value)(S Sp:List α->Prop)(Need:List α->List Ab->Prop)(C:List Ab):Prop where
 run: ∀(r:Nat) (I Ix:List α->List Ab->Prop) (G0:List Ab),(∀pre l G,(∀c,c∈G0->c∈G)->I pre l->Need pre (l++G))->
  (∀pre x l G,(∀c,c∈G0->c∈G)->I pre l->Sp (pre++[x])->Mn P r (enc x) (l++G) (λv l'=> ∃l1,l'=l1++G/\((v= .bool true/\I (pre++[x]) l1)\/(v= .bool false/\Ix (pre++[x]) l1))))->
  ∀l G,(∀c,c∈G0->c∈G)->I [] l->Fn P gf (.func (.yield r) #[] #[]::lb) (l++(C++G)) (λv l'=> ∃l1,l'=l1++G/\((∃xs,S xs/\I xs l1)\/(∃pre,Sp pre/\Ix pre l1)))
section
variable{g:Operand}{ps:List Tmp}{gf:Nat}{lb:List Value}{enc:α->List Value}{S Sp:List α->Prop}{Need:List α->List Ab->Prop}
theorem QQ{fn:FuncId}{I:List α->List Ab->Prop}{Ix:Code->List α->List Ab->Prop}{pre:List α}{x:α}(hps:(enc x).length=ps.length)(hpb:ps.all (λp=>Nat.blt p N)=true)(hf: ∀a:Act,a.tmps=tmps->FSat N fr a)
 (h: ∀E,BF P (some r) N E assign (Exit.then (NS P r body (roundPost P r (RK E (Ji I Ix (pre++[x]) r (Dp fn tmps ps.toArray assign body D) T)))) (λ_ _ _=>False)) (Du ps (enc x) fr) [] (l++(r,.loop (Dp fn tmps ps.toArray assign body D .ready none))::T)):
 Mn P r (enc x) (l++(r,.loop (Dp fn tmps ps.toArray assign body D .ready none))::T) (Ji I Ix (pre++[x]) r (Dp fn tmps ps.toArray assign body D) T):=by
 refine⟨λE W hs=>?_⟩;have hm:W.heap[r]?=some (.loop (Dp fn tmps ps.toArray assign body D .ready none)):=hs.has (r,_) (by simp);refine⟨fn,_,assign,body,run_yield hm (by simp[Dp,hps]),roundIn_of_wpIn trivial ?_⟩;refine(h E).run _ W ?_ rfl hs;have:=SX ps (enc x) fr {tmps:=tmps,defers:=[]} [] (hf _ rfl) hpb;have e:(Array.zip ps.toArray (enc x).toArray)=(ps.zip (enc x)).toArray:=by simp
 show FSat N _ {tmps:=(Array.zip ps.toArray (enc x).toArray).foldl (λt (p,v)=>t.setIfInBounds p v) tmps,defers:=[]};rw[e,List.foldl_toArray];exact this
theorem Vv(hg:ev fr g=some (.func (.func gf) #[] lb.toArray))[en:EN P gf]{C:List Ab}(hit:md P gf lb enc S Sp Need C)(hps: ∀x,(enc x).length=ps.length)(hpb:ps.all (λp=>Nat.blt p N)=true)
 (I:List α->List Ab->Prop)(Ix:Code->List α->List Ab->Prop)(l0 G:List Ab)(hneed: ∀pre l X,(∀c,c∈G->c∈X)->I pre l->Need pre (l++X))(hL:Keep L (l0++(C++G)))(h0:I [] l0)
 (hround: ∀(E:World) (r:Nat) (rec:LoopState->Option Code->Loop) (pre:List α) (x:α) (l T:List Ab),(∃fn tmps D,rec=Dp fn tmps ps.toArray assign body D)->(∀c,c∈G->c∈T)->I pre l->Sp (pre++[x])->
   BF P (some r) N E assign (Exit.then (NS P r body (roundPost P r (RK E (Ji I Ix (pre++[x]) r rec T)))) (λ_ _ _=>False)) (Du ps (enc x) fr) [] (l++(r,.loop (rec .ready none))::T))
 (hdone: ∀(D:Nat) (xs:List α) (l:List Ab),S xs->I xs l->CH N E Q .normal fr (GF D::ds) (Cd D::(l++G)))
 (hstop: ∀(D:Nat) (c:Code) (pre:List α) (l:List Ab),Sp pre->Ix c pre l->BF P none N E c Q fr (GF D::ds) (Cd D::(l++G))):
 BF P none N E (.rangeFunc g ps.toArray assign body) Q fr ds L:=by
 refine⟨λa W hf hds hs=>wpIn_rangeFunc ?_⟩;intro fn hfn;have hs:=hL.sat hs;obtain⟨rec,hrec⟩: ∃rec,rec=Dp fn a.tmps ps.toArray assign body W.heap.size:=⟨_,rfl⟩
 obtain⟨W1,hW1⟩: ∃W1,(W.alloc (.deferred (some []))).alloc (.loop (rec .ready none))=W1:=⟨_,rfl⟩
 have hs1:Sat E ((W.heap.size+1,.loop (rec .ready none))::(W.heap.size,.deferred (some []))::(l0++(C++G))) W1:=by have:=(hs.alloc (.deferred (some []))).alloc (.loop (rec .ready none));rw[World.size_alloc,hW1] at this;exact this
 have hev:=hf.agrees g _ hg;refine⟨W.heap.size+1,[GF W.heap.size],W1,{target:= .fn (.func gf) lb.toArray,args:=#[.func (.yield (W.heap.size+1)) #[] #[]]},W1,gf,#[.func (.yield (W.heap.size+1)) #[] #[]]++lb.toArray,W1,?_,?_,λ_ _=>trivial,?_,λh=>(by cases h),?_⟩
 ·rw[<-hW1,hrec];exact run_enterLoop_outer _ _ _ _ _
 ·simp only[resolve,hev];simp[Deferred.ofValue,Act.eval]
 ·simp[invoke,en.out]
 ·have hR:=hit.run (W.heap.size+1)
   (λpre l=> ∃l1,I pre l1/\l=l1++[(W.heap.size+1,.loop (rec .ready none)),Cd W.heap.size])
   (λpre l=> ∃c l1,Ix c pre l1/\l=l1++[(W.heap.size+1,.loop (rec .done (some c))),Cd W.heap.size])
   G
   (λpre l G' hG ⟨l1,h1,h2⟩=>by rw[h2,Al];exact hneed _ _ _ (λc hc=>Aa _ (hG c hc)) h1)
   (λpre x l G' hG ⟨l1,h1,h2⟩ hsp=>by
     subst h2;have hy:=QQ (P:=P) (N:=N) (fr:=fr) (assign:=assign) (body:=body) (ps:=ps) (enc:=enc) (r:=W.heap.size+1) (fn:=fn) (tmps:=a.tmps) (D:=W.heap.size) (T:=Cd W.heap.size::G') (I:=I) (Ix:=Ix) (pre:=pre) (x:=x) (l:=l1) (hps x) hpb
      (λa' ha'=>⟨by rw[ha'];exact hf.size,λd v hd=>by rw[ha'];exact hf.at_ d v hd⟩) (λE'=>by have:=hround E' (W.heap.size+1) rec pre x l1 (Cd W.heap.size::G') ⟨fn,a.tmps,W.heap.size,hrec⟩ (λc hc=>An _ (hG c hc)) h1 hsp;rw[hrec] at this;exact this)
     rw[<-hrec] at hy;refine⟨λE' W' hs'=>?_⟩;have e:l1++[(W.heap.size+1,Obj.loop (rec .ready none)),Cd W.heap.size]++G'=l1++(W.heap.size+1,Obj.loop (rec .ready none))::Cd W.heap.size::G':=by simp
     rw[e] at hs';obtain⟨fn',tm,asg,bo,k1,k2⟩:=hy.run E' W' hs';refine⟨fn',tm,asg,bo,k1,k2.mono ?_⟩;rintro e' W'' ⟨v,l',rfl,hk,hs''⟩;refine⟨v,l',rfl,?_,hs''⟩;rcases hk with⟨hv,l2,hI,rfl⟩|⟨hv,c,l2,hI,rfl⟩
     ·exact⟨l2++[(W.heap.size+1,.loop (rec .ready none)),Cd W.heap.size],by simp,.inl ⟨hv,l2,hI,rfl⟩⟩
     ·exact⟨l2++[(W.heap.size+1,.loop (rec .done (some c))),Cd W.heap.size],by simp,.inr ⟨hv,c,l2,hI,rfl⟩⟩)
   (l0++[(W.heap.size+1,.loop (rec .ready none)),Cd W.heap.size]) G (λ_ h=>h) ⟨l0,h0,rfl⟩
  have hs2:Sat E (l0++[(W.heap.size+1,Obj.loop (rec .ready none)),Cd W.heap.size]++(C++G)) W1:=hs1.perm (by refine List.Perm.trans ?_ (HZ (C++G) (Em (l₁:=[(W.heap.size+1,Obj.loop (rec .ready none)),Cd W.heap.size]) (l₂:=l0)));simp[Cd])
  have hc:=hR.run E W1 hs2;have eargs:(Value.func (.yield (W.heap.size+1)) #[] #[]::lb).toArray=#[.func (.yield (W.heap.size+1)) #[] #[]]++lb.toArray:=by simp
  rw[eargs] at hc;refine Ll (hc.mono ?_);rintro e W2 ⟨v,l',rfl,⟨l1,rfl,⟨xs,hS,l2,hI,rfl⟩|⟨pre,hSp,c,l2,hI,rfl⟩⟩,hs3⟩
  ·have hm:W2.heap[W.heap.size+1]?=some (.loop (rec .ready none)):=hs3.has (W.heap.size+1,_) (by simp);subst hrec;refine⟨none,_,run_endLoop (P:=P) hm (by simp[Dp]),?_⟩;refine(hdone W.heap.size xs l2 hS hI).run {a with defers:=[GF W.heap.size]++a.defers} _ ⟨hf.size,hf.at_⟩ (by rw[<-hds];rfl) ?_;have h4:Sat E (l2++(W.heap.size+1,Obj.loop (Dp fn a.tmps ps.toArray assign body W.heap.size .ready none))::Cd W.heap.size::G) W2:=by simpa using hs3
   have h5:=h4.upd (Fa l2 _ _ (.loop {Dp fn a.tmps ps.toArray assign body W.heap.size .ready none with state:= .exhausted}) _);refine(h5.perm AH).tail.perm AH
  ·have hm:W2.heap[W.heap.size+1]?=some (.loop (rec .done (some c))):=hs3.has (W.heap.size+1,_) (by simp);subst hrec;refine⟨some c,_,run_endLoop (P:=P) hm (by simp[Dp]),?_⟩;refine(hstop W.heap.size c pre l2 hSp hI).run {a with defers:=[GF W.heap.size]++a.defers} _ ⟨hf.size,hf.at_⟩ (by rw[<-hds];rfl) ?_;have h4:Sat E (l2++(W.heap.size+1,Obj.loop (Dp fn a.tmps ps.toArray assign body W.heap.size .done (some c)))::Cd W.heap.size::G) W2:=by simpa using hs3
   have h5:=h4.upd (Fa l2 _ _ (.loop {Dp fn a.tmps ps.toArray assign body W.heap.size .done (some c) with state:= .exhausted}) _);refine(h5.perm AH).tail.perm AH
theorem CU(hg:ev fr g=some (.func (.func gf) #[] lb.toArray))[en:EN P gf](hit:E2 P gf lb enc S Sp Need)(hps: ∀x,(enc x).length=ps.length)(hpb:ps.all (λp=>Nat.blt p N)=true)
 (I:List α->List Ab->Prop)(Ix:Code->List α->List Ab->Prop)(l0 G:List Ab)(hneed: ∀pre l X,(∀c,c∈G->c∈X)->I pre l->Need pre (l++X))(hL:Keep L (l0++G))(h0:I [] l0)
 (hround: ∀(E:World) (r:Nat) (rec:LoopState->Option Code->Loop) (pre:List α) (x:α) (l T:List Ab),(∃fn tmps D,rec=Dp fn tmps ps.toArray assign body D)->(∀c,c∈G->c∈T)->I pre l->Sp (pre++[x])->
   BF P (some r) N E assign (Exit.then (NS P r body (roundPost P r (RK E (Ji I Ix (pre++[x]) r rec T)))) (λ_ _ _=>False)) (Du ps (enc x) fr) [] (l++(r,.loop (rec .ready none))::T))
 (hdone: ∀(D:Nat) (xs:List α) (l:List Ab),S xs->I xs l->CH N E Q .normal fr (GF D::ds) (Cd D::(l++G)))
 (hstop: ∀(D:Nat) (c:Code) (pre:List α) (l:List Ab),Sp pre->Ix c pre l->BF P none N E c Q fr (GF D::ds) (Cd D::(l++G))):
 BF P none N E (.rangeFunc g ps.toArray assign body) Q fr ds L:=
 Vv hg (C:=[]) ⟨λr I Ix G0 h1 h2 l G h3 h4=>hit.run r I Ix G0 h1 h2 l G h3 h4⟩ hps hpb I Ix l0 G hneed hL h0 hround hdone hstop
end
end Go.Proofs.YtlkgekpmileobaaGreat
