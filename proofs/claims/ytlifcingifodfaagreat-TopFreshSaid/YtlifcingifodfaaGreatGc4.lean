/- Laws that the statement's proof leans on (joined out of several texts). -/
import Derived.Test.YtlifcingifodfaaGreatGc3
set_option maxHeartbeats 4000000
set_option linter.unusedVariables false
set_option linter.unusedSimpArgs false
namespace Go.Proofs.YtlifcingifodfaaGreat
open Go.RowKit
variable{l l' L T:Ad}{t j N dj r D:Nat}{E W:World}{oj:Oper}{p:Prop}{α:Type}{P:Program}{Q:Exit->Act->World->Prop}{ds:List Deferred}{b:Bool}{c x y assign body:Code}{ro:Option Nat}{K:Value->Ad->Prop}{ops:Array Oper}{A0:List Oper}{fr':Fr}{v:Value}{fn:Func}{rs:List ResultVar}{vs:Ap}{tmps:Array Value}
section
variable{o:Oper}{fr:Fr}
theorem jp{d:Nat}(h:OpE P ro N fr l o K)(hw:o.guard=none)(hd:o.dst=some d)(hb:Nat.blt d N=true)(hk: ∀v l',K v l'->Dz P ro N E ops Q A0 ((d,v)::fr) ds l'):Dz P ro N E ops Q (o::A0) fr ds l:=
 s_e h hw (by rw[hd];exact hb) λv l' hkv=>by rw[hd];exact hk v l' hkv
theorem ME(h:OpE P ro N fr l o K)(hw:o.guard=none)(hd:o.dst=none)(hk: ∀v l',K v l'->Dz P ro N E ops Q A0 fr ds l'):Dz P ro N E ops Q (o::A0) fr ds l:=
 s_e h hw (by rw[hd];rfl) λv l' hkv=>by rw[hd];exact hk v l' hkv
theorem tJ{d:Nat}(h:OpQ P ro N fr l o v)(hw:o.guard=none)(hd:o.dst=some d)(hb:Nat.blt d N=true)(hk:Dz P ro N E ops Q A0 ((d,v)::fr) ds l):Dz P ro N E ops Q (o::A0) fr ds l:=
 s_q h hw (by rw[hd];exact hb) (by rw[hd];exact hk)
theorem XT{d:Nat}(h:OpQ P ro N fr l o v)(hw:o.guard=some (j,b))(hj:ops[j]?=some oj)(KO:oj.dst=some dj)(hb:BX fr dj=some (.bool b))(hd:o.dst=some d)(R9:Nat.blt d N=true)(hk:Dz P ro N E ops Q A0 ((d,v)::fr) ds l):Dz P ro N E ops Q (o::A0) fr ds l:=
 Adm h hw hj KO hb (by rw[hd];exact R9) (by rw[hd];exact hk)
theorem Adq{d:Nat}(h:OpE P ro N fr l o K)(hw:o.guard=some (j,b))(hj:ops[j]?=some oj)(KO:oj.dst=some dj)(hb:BX fr dj=some (.bool b))(hd:o.dst=some d)(R9:Nat.blt d N=true)(hk: ∀v l',K v l'->Dz P ro N E ops Q A0 ((d,v)::fr) ds l'):Dz P ro N E ops Q (o::A0) fr ds l:=
 zO h hw hj KO hb (by rw[hd];exact R9) λv l' hkv=>by rw[hd];exact hk v l' hkv
theorem Adr{d:Nat}{b':Bool}(hw:o.guard=some (j,b))(hj:ops[j]?=some oj)(KO:oj.dst=some dj)(hb:BX fr dj=some (.bool b'))(G5:(b'==b)=false)(hd:o.dst=some d)(R9:Nat.blt d N=true)(hk:Dz P ro N E ops Q A0 ((d,undef)::fr) ds l):Dz P ro N E ops Q (o::A0) fr ds l:=
 Adn hw hj KO hb G5 (by rw[hd];exact R9) (by rw[hd];exact hk)
def Rr(ops:Array Oper)(fr:Fr):Option (Nat×Bool)->Option Bool
 |none=>some true
 |some (j,b)=>match ops[j]? with
  |some oj=>match oj.dst with
   |some dj=>match BX fr dj with
    |some (.bool b')=>some (b'==b)
    |_=>none
   |none=>none
  |none=>none
theorem KS{g:Option (Nat×Bool)}{r:Bool}(h:Rr ops fr g=some r):(g=none/\r=true)\/ ∃j b oj dj b',g=some (j,b)/\ops[j]?=some oj/\oj.dst=some dj/\BX fr dj=some (.bool b')/\(b'==b)=r:=by
 cases g with
 |none=>exact .inl ⟨rfl,by cases h;rfl⟩
 |some jb=>
  obtain⟨j,b⟩:=jb;refine .inr ⟨j,b,?_⟩;unfold Rr at h;simp only at h
  split at h
  ·rename_i oj hoj
   split at h
   ·rename_i dj hdj
    split at h
    ·rename_i b' hb';exact⟨oj,dj,b',rfl,hoj,hdj,hb',by cases h;rfl⟩
    ·cases h
   ·cases h
  ·cases h
theorem QO{d:Nat}(h:OpQ P ro N fr l o v)(hw:Rr ops fr o.guard=some true)(hd:o.dst=some d)(hb:Nat.blt d N=true)(hk:Dz P ro N E ops Q A0 ((d,v)::fr) ds l):Dz P ro N E ops Q (o::A0) fr ds l:=by
 rcases KS hw with⟨h1,_⟩|⟨j,b,oj,dj,b',h1,h2,h3,h4,h5⟩
 ·exact tJ h h1 hd hb hk
 ·have:b'=b:=by simpa using h5
  subst this;exact XT h h1 h2 h3 h4 hd hb hk
theorem Ads{d:Nat}(hw:Rr ops fr o.guard=some false)(hd:o.dst=some d)(hb:Nat.blt d N=true)(hk:Dz P ro N E ops Q A0 ((d,undef)::fr) ds l):Dz P ro N E ops Q (o::A0) fr ds l:=by
 rcases KS hw with⟨_,h1⟩|⟨j,b,oj,dj,b',h1,h2,h3,h4,h5⟩
 ·cases h1
 ·exact Adr h1 h2 h3 h4 h5 hd hb hk
theorem Wp(hs': ∀d v,BX fr' d=some v->BX fr d=some v)(h:BN P ro N E c Q fr' ds l):BN P ro N E c Q fr ds l:=⟨λa W hf hds hs=>h.run a W (hf.sub hs') hds hs⟩
theorem S6{ip:Decidable p}(hc:BX fr t=some (.bool (@decide p ip)))(hp:p)(h:BN P ro N E x Q ((t,.bool true)::fr) ds l):BN P ro N E (.cond (.tmp t) x y) Q fr ds l:=by
 have hc':BX fr t=some (.bool true):=by rw[hc,Av hp]
 exact Ml hc' (Wp (GJ hc') h)
theorem S7{ip:Decidable p}(hc:BX fr t=some (.bool (@decide p ip)))(hp:¬p)(h:BN P ro N E y Q ((t,.bool false)::fr) ds l):BN P ro N E (.cond (.tmp t) x y) Q fr ds l:=by
 have hc':BX fr t=some (.bool false):=by rw[hc,Ax hp]
 exact Mm hc' (Wp (GJ hc') h)
theorem qj{ip:Decidable p}(hc:BX fr t=some (.bool (@decide p ip)))(h1:p->BN P ro N E x Q ((t,.bool true)::fr) ds l)(h2:¬p->BN P ro N E y Q ((t,.bool false)::fr) ds l):BN P ro N E (.cond (.tmp t) x y) Q fr ds l:=by
 by_cases hp:p
 ·exact S6 hc hp (h1 hp)
 ·exact S7 hc hp (h2 hp)
theorem j8(hc:BX fr t=some (.bool b))(h1:b=true->BN P ro N E x Q ((t,.bool true)::fr) ds l)(h2:b=false->BN P ro N E y Q ((t,.bool false)::fr) ds l):BN P ro N E (.cond (.tmp t) x y) Q fr ds l:=by
 cases b with
 |true=>exact Ml hc (Wp (GJ hc) (h1 rfl))
 |false=>exact Mm hc (Wp (GJ hc) (h2 rfl))
theorem j9(hs': ∀d v,BX fr' d=some v->BX fr d=some v)(h:Dz P ro N E ops Q A0 fr' ds l):Dz P ro N E ops Q A0 fr ds l:=⟨λa W hf hds hs=>h.run a W (hf.sub hs') hds hs⟩
theorem cV{w:Bool}{ip:Decidable p}(hw:o.guard=some (j,w))(hj:ops[j]?=some oj)(KO:oj.dst=some t)(hc:BX fr t=some (.bool (@decide p ip)))(hp:p)(h:Dz P ro N E ops Q (o::A0) ((t,.bool true)::fr) ds l):Dz P ro N E ops Q (o::A0) fr ds l:=by
 have hc':BX fr t=some (.bool true):=by rw[hc,Av hp]
 exact j9 (GJ hc') h
theorem cW{w:Bool}{ip:Decidable p}(hw:o.guard=some (j,w))(hj:ops[j]?=some oj)(KO:oj.dst=some t)(hc:BX fr t=some (.bool (@decide p ip)))(hp:¬p)(h:Dz P ro N E ops Q (o::A0) ((t,.bool false)::fr) ds l):Dz P ro N E ops Q (o::A0) fr ds l:=by
 have hc':BX fr t=some (.bool false):=by rw[hc,Ax hp]
 exact j9 (GJ hc') h
theorem Aad{w:Bool}{ip:Decidable p}(hw:o.guard=some (j,w))(hj:ops[j]?=some oj)(KO:oj.dst=some t)(hc:BX fr t=some (.bool (@decide p ip)))(h1:p->Dz P ro N E ops Q (o::A0) ((t,.bool true)::fr) ds l)(h2:¬p->Dz P ro N E ops Q (o::A0) ((t,.bool false)::fr) ds l):Dz P ro N E ops Q (o::A0) fr ds l:=by
 by_cases hp:p
 ·exact cV hw hj KO hc hp (h1 hp)
 ·exact cW hw hj KO hc hp (h2 hp)
theorem Aae{w:Bool}(hw:o.guard=some (j,w))(hj:ops[j]?=some oj)(KO:oj.dst=some t)(hc:BX fr t=some (.bool b))(h1:b=true->Dz P ro N E ops Q (o::A0) ((t,.bool true)::fr) ds l)(h2:b=false->Dz P ro N E ops Q (o::A0) ((t,.bool false)::fr) ds l):Dz P ro N E ops Q (o::A0) fr ds l:=
 pY t hc h1 h2
end
inductive Pick:Ad->Bg->Ad->Prop
 |here {c:Bg} {l:Ad}:Pick (c::l) c l
 |there {c d:Bg} {l l':Ad}:Pick l c l'->Pick (d::l) c (d::l')
theorem Pick.perm{c:Bg}(h:Pick l c l'):l.Perm (c::l'):=by
 induction h with
 |here=>exact IZ _
 |there _ ih=>exact(List.Perm.cons _ ih).trans (List.Perm.swap _ _ _)
structure Keep(L l:Ad):Prop where
 ex: ∃g:Ad,L.Perm (g++l)
theorem Keep.refl:Keep l l:=⟨[],IZ _⟩
theorem Keep.pick{l1:Ad}{c:Bg}(h:Pick l c l1)(k:Keep l1 l'):Keep l (c::l'):=by obtain⟨g,hg⟩:=k.ex;exact⟨g,h.perm.trans ((List.Perm.cons _ hg).trans AI.symm)⟩
theorem Keep.drop{c:Bg}(k:Keep l l'):Keep (c::l) l':=by obtain⟨g,hg⟩:=k.ex;exact⟨c::g,List.Perm.cons c hg⟩
theorem Keep.of_perm(p:l.Perm l'):Keep l l':=⟨[],p⟩
theorem Keep.right(k:Keep L l)(p:l.Perm l'):Keep L l':=by obtain⟨g,hg⟩:=k.ex;exact⟨g,hg.trans (EX g p)⟩
theorem Keep.trans(k:Keep L l)(k':Keep l l'):Keep L l':=by obtain⟨g,hg⟩:=k.ex;obtain⟨g',y8⟩:=k'.ex;exact⟨g++g',by rw[Am];exact hg.trans (EX g y8)⟩
theorem Keep.mid{M:Ad}{c:Bg}(k:Keep L (c::(M++l))):Keep L (M++c::l):=k.right AI.symm
theorem Keep.sat(h:Keep l l'):Sat E l W->Sat E l' W:=by obtain⟨g,hg⟩:=h.ex;intro hs;exact(hs.perm hg).sub (List.sublist_append_right _ _)
section
variable{fr:Fr}{e:Exit}
theorem Bq(p:Keep l l')(h:Dz P ro N E ops Q A0 fr ds l'):Dz P ro N E ops Q A0 fr ds l:=⟨λa W hf hds hs=>h.run a W hf hds (p.sat hs)⟩
theorem Em(p:Keep l l')(h:BN P ro N E c Q fr ds l'):BN P ro N E c Q fr ds l:=⟨λa W hf hds hs=>h.run a W hf hds (p.sat hs)⟩
theorem Kf(p:Keep l l')(h:CU N E Q e fr ds l'):CU N E Q e fr ds l:=⟨λa W hf hds hs=>h.run a W hf hds (p.sat hs)⟩
theorem Fn.keep{f:FuncId}{args:Ap}(p:Keep l l')(h:Fn P f args l' K):Fn P f args l K:=⟨λE W hs=>h.run E W (p.sat hs)⟩
theorem CF(fx:α->Fr)(lx:α->Ad)(pre:α->Prop)(μ:α->Nat)(x₀:α)(h0:pre x₀)(y7:FSub (fx x₀) fr)(pB:Keep l (lx x₀))
 (round: ∀x,pre x->BN P ro N E c (Exit.then (cR N E fx ds lx pre μ x) Q) (fx x) ds (lx x)):BN P ro N E (.loop c) Q fr ds l:=Em pB (vK fx lx pre μ x₀ h0 y7 (IZ _) round)
theorem BR{fx:α->Fr}{lx:α->Ad}{pre:α->Prop}{μ:α->Nat}{x:α}(y:α)(h1:pre y)(h2:μ y<μ x)(h3:FSub (fx y) fr)(h4:Keep l (lx y)):CU N E (Exit.then (cR N E fx ds lx pre μ x) Q) .normal fr ds l:=
 Kf h4 (vL y h1 h2 h3 (IZ _))
theorem BD(Ds:List Nat)(hr:fn.results=rs.toArray)(hp:Keep l (Ds.map Cm++l'))(h:ResS P fr l' rs vs)(hk:K (Jv vs) l'):
 CU N E (bodyPostM Fence.wide 0 P fn (RK E K)) .ret fr (Ds.map Hq) l:=Kf hp (zP Ds hr (IZ _) h hk)
theorem RK.keep{l2:Ad}(p:Keep l2 l')(hk:K v l')(hs:Sat E l2 W):RK E K (.returned v) W:=⟨v,l',rfl,hk,p.sat hs⟩
theorem AV(Ds:List Nat)(l2:Ad)(hr:fn.results=rs.toArray)(hp:Keep l (Ds.map Cm++l2))(h:ResS P fr l2 rs vs)(p2:Keep l2 l')(hk:K (Jv vs) l'):
 CU N E (bodyPostM Fence.wide 0 P fn (RK E K)) .ret fr (Ds.map Hq) l:=by
 refine Kf hp ⟨λa W hf hds hs=>?_⟩;show LeavesInM Fence.wide 0 P fn a.tmps (RK E K) a.defers .returning W;rw[hds];exact Q0 (v:=Jv vs) Ds W hs λW' hs'=>⟨Rq hr hf hs' h,RK.keep p2 hk hs'⟩
end
def tK(N:Nat)(E:World){α:Type}(fx:α->Fr)(dx:α->List Deferred)(lx:α->Ad)(pre:α->Prop)(μ:α->Nat)(x:α)(a:Act)(W:World):Prop:=
 ∃y,pre y/\μ y<μ x/\FSat N (fx y) a/\a.defers=dx y/\Sat E (lx y) W
section
variable{fr:Fr}
theorem vS(fx:α->Fr)(dx:α->List Deferred)(lx:α->Ad)(pre:α->Prop)(μ:α->Nat)(x₀:α)(h0:pre x₀)(y7:FSub (fx x₀) fr)(hd0:ds=dx x₀)(pB:Keep l (lx x₀))
 (round: ∀x,pre x->BN P ro N E c (Exit.then (tK N E fx dx lx pre μ x) Q) (fx x) (dx x) (lx x)):BN P ro N E (.loop c) Q fr ds l:=by
 refine⟨λa W hf hds hs=>?_⟩;refine wpIn_loop (λa W=> ∃x,pre x/\FSat N (fx x) a/\a.defers=dx x/\Sat E (lx x) W) (λa W=>SU λn=> ∃x,pre x/\FSat N (fx x) a/\a.defers=dx x/\Sat E (lx x) W/\μ x=n) ⟨x₀,h0,hf.sub y7.spec,hds.trans hd0,pB.sat hs⟩ ?_;intro a W hI;have XD: ∃n,∃x,pre x/\FSat N (fx x) a/\a.defers=dx x/\Sat E (lx x) W/\μ x=n:=by obtain⟨x,h1,h2,h3,h4⟩:=hI;exact⟨_,x,h1,h2,h3,h4,rfl⟩
 obtain⟨⟨x,h1,h2,h3,h4,h5⟩,_⟩:=Ls XD;refine wpIn_mono ((round x h1).run a W h2 h3 h4) ?_;intro e a' W' hq;cases e with
 |normal=>obtain⟨y,k1,k2,k3,k4,k5⟩:=hq;refine⟨⟨y,k1,k3,k4,k5⟩,?_⟩;exact Et ((Ls (p:=λn=> ∃x,pre x/\FSat N (fx x) a'/\a'.defers=dx x/\Sat E (lx x) W'/\μ x=n) ⟨_,y,k1,k3,k4,k5,rfl⟩).2 (μ y) ⟨y,k1,k3,k4,k5,rfl⟩) (by rw[<-h5];exact k2)
 |_=>exact hq
theorem vT{fx:α->Fr}{dx:α->List Deferred}{lx:α->Ad}{pre:α->Prop}{μ:α->Nat}{x:α}(y:α)(h1:pre y)(h2:μ y<μ x)(h3:FSub (fx y) fr)(hd:ds=dx y)(h4:Keep l (lx y)):CU N E (Exit.then (tK N E fx dx lx pre μ x) Q) .normal fr ds l:=
 ⟨λa W hf hds hs=>⟨y,h1,h2,hf.sub h3.spec,hds.trans hd,h4.sat hs⟩⟩
end
structure FA(P:Program)(gf:Nat)(lb:Ap){α:Type}(enc:α->Ap)(S Sp:List α->Prop)(Need:List α->Ad->Prop):Prop where
 run: ∀(r:Nat) (I Ix:List α->Ad->Prop) (G0:Ad),(∀pre l G,(∀c,c∈G0->c∈G)->I pre l->Need pre (l++G))->
  (∀pre x l G,(∀c,c∈G0->c∈G)->I pre l->Sp (pre++[x])->NT P r (enc x) (l++G) (λv l'=> ∃l1,l'=l1++G/\((v= .bool true/\I (pre++[x]) l1)\/(v= .bool false/\Ix (pre++[x]) l1))))->
  ∀l G,(∀c,c∈G0->c∈G)->I [] l->Fn P gf (.func (.yield r) #[] #[]::lb) (l++G) (λv l'=> ∃l1,l'=l1++G/\((∃xs,S xs/\I xs l1)\/(∃pre,Sp pre/\Ix pre l1)))
def Kg{α:Type}(I:List α->Ad->Prop)(Ix:Code->List α->Ad->Prop)(xs:List α)(r:Nat)(FS:LoopState->Option Code->Loop)(T:Ad):Value->Ad->Prop:=λv l'=>
 (v= .bool true/\ ∃l1,I xs l1/\l'=l1++(r,.loop (FS .ready none))::T)\/(v= .bool false/\ ∃c l1,Ix c xs l1/\l'=l1++(r,.loop (FS .done (some c)))::T)
def DN(fn:FuncId)(tmps:Array Value)(ps:Array Tmp)(assign body:Code)(D:Nat)(st:LoopState)(pe:Option Code):Loop:={state:=st,pending:=pe,fn,tmps,params:=ps,assign,body,defers:=D}
def Px(P:Program)(r:Nat)(body:Code)(Q:Exit->Act->World->Prop):Act->World->Prop:=λa w=> ∃w2,(Instr.beginRound r).run P w= .ok () w2/\body.wpIn (Fw (some r)) 0 P Q a w2
def DU:List Nat->Ap->Fr->Fr
 |p::ps,v::vs,fr=>DU ps vs ((p,v)::fr)
 |_,_,fr=>fr
theorem Vf{N:Nat}: ∀(ps:List Nat) (vs:Ap) (fr:Fr) (a:Act) (ds:List Deferred),FSat N fr a->ps.all (λp=>Nat.blt p N)=true->
 FSat N (DU ps vs fr) {tmps:=(ps.zip vs).foldl (λt (p,v)=>t.setIfInBounds p v) a.tmps,defers:=ds}
 |[],vs,fr,a,ds,hf,_=>⟨hf.size,hf.at_⟩
 |p::ps,[],fr,a,ds,hf,_=>⟨hf.size,hf.at_⟩
 |p::ps,v::vs,fr,a,ds,hf,hb=>by simp only[Ij,AW] at hb;have h1:FSat N ((p,v)::fr) (a.put (some p) v):=FSat.put (d:=some p) hf v hb.1;exact Vf ps vs _ _ ds h1 hb.2
section
variable{fr:Fr}{fn:FuncId}{ps:Array Tmp}{I:List α->Ad->Prop}{Ix:Code->List α->Ad->Prop}{xs:List α}
theorem CH{L':Ad}{Qx:Exit->Act->World->Prop}(hu:Upd L r (.loop (DN fn tmps ps assign body D .ready none)) (.loop (DN fn tmps ps assign body D .busy none)) L')(h:BN P (some r) N E body Q fr ds L'):CU N E (Exit.then (Px P r body Q) Qx) .normal fr ds L:=
 ⟨λa W hf hds hs=>⟨_,run_beginRound (hs.has _ hu.mem) rfl,h.run a _ hf hds (hs.upd hu)⟩⟩
theorem FH(l:Ad)(b:Nat)(o o':Obj)(T:Ad):Upd (l++(b,o)::T) b o o' (l++(b,o')::T):=by
 induction l with
 |nil=>exact .here
 |cons c l ih=>exact .there ih
theorem Cg(l1:Ad)(hk:Keep L (l1++(r,.loop (DN fn tmps ps assign body D .busy none))::T))(hI:I xs l1):CU N E (roundPost P r (RK E (Kg I Ix xs r (DN fn tmps ps assign body D) T))) .normal fr ds L:=
 ⟨λa W hf hds hs=>by have hs:=hk.sat hs;have hm:W.heap[r]?=some (.loop (DN fn tmps ps assign body D .busy none)):=hs.has (r,_) (by simp);refine⟨_,_,run_endRound none hm,_,_,rfl,.inl ⟨rfl,l1,hI,rfl⟩,hs.upd (FH _ _ _ _ _)⟩⟩
theorem EC(l1:Ad)(hk:Keep L (l1++(r,.loop (DN fn tmps ps assign body D .busy none))::T))(hI:Ix .ret xs l1):CU N E (roundPost P r (RK E (Kg I Ix xs r (DN fn tmps ps assign body D) T))) .ret fr ds L:=
 ⟨λa W hf hds hs=>by have hs:=hk.sat hs;have hm:W.heap[r]?=some (.loop (DN fn tmps ps assign body D .busy none)):=hs.has (r,_) (by simp);refine⟨_,_,run_endRound (some .ret) hm,_,_,rfl,.inr ⟨rfl,.ret,l1,hI,rfl⟩,hs.upd (FH _ _ _ _ _)⟩⟩
theorem E2{k:Nat}(l1:Ad)(hk:Keep L (l1++(r,.loop (DN fn tmps ps assign body D .busy none))::T))(hI:Ix (.exit k) xs l1):CU N E (roundPost P r (RK E (Kg I Ix xs r (DN fn tmps ps assign body D) T))) (.exit k) fr ds L:=
 ⟨λa W hf hds hs=>by have hs:=hk.sat hs;have hm:W.heap[r]?=some (.loop (DN fn tmps ps assign body D .busy none)):=hs.has (r,_) (by simp);refine⟨_,_,run_endRound (some (.exit k)) hm,_,_,rfl,.inr ⟨rfl,.exit k,l1,hI,rfl⟩,hs.upd (FH _ _ _ _ _)⟩⟩
end
structure tL(P:Program)(gf:Nat)(lb:Ap){α:Type}(enc:α->Ap)(S Sp:List α->Prop)(Need:List α->Ad->Prop)(C:Ad):Prop where
 run: ∀(r:Nat) (I Ix:List α->Ad->Prop) (G0:Ad),(∀pre l G,(∀c,c∈G0->c∈G)->I pre l->Need pre (l++G))->
  (∀pre x l G,(∀c,c∈G0->c∈G)->I pre l->Sp (pre++[x])->NT P r (enc x) (l++G) (λv l'=> ∃l1,l'=l1++G/\((v= .bool true/\I (pre++[x]) l1)\/(v= .bool false/\Ix (pre++[x]) l1))))->
  ∀l G,(∀c,c∈G0->c∈G)->I [] l->Fn P gf (.func (.yield r) #[] #[]::lb) (l++(C++G)) (λv l'=> ∃l1,l'=l1++G/\((∃xs,S xs/\I xs l1)\/(∃pre,Sp pre/\Ix pre l1)))
section
variable{fr:Fr}{g:Operand}{ps:List Tmp}{gf:Nat}{lb:Ap}{enc:α->Ap}{S Sp:List α->Prop}{Need:List α->Ad->Prop}
theorem S8{fn:FuncId}{I:List α->Ad->Prop}{Ix:Code->List α->Ad->Prop}{pre:List α}{x:α}(Nt:(enc x).length=ps.length)(je:ps.all (λp=>Nat.blt p N)=true)(hf: ∀a:Act,a.tmps=tmps->FSat N fr a)
 (h: ∀E,BN P (some r) N E assign (Exit.then (Px P r body (roundPost P r (RK E (Kg I Ix (pre++[x]) r (DN fn tmps ps.toArray assign body D) T)))) (λ_ _ _=>False)) (DU ps (enc x) fr) [] (l++(r,.loop (DN fn tmps ps.toArray assign body D .ready none))::T)):
 NT P r (enc x) (l++(r,.loop (DN fn tmps ps.toArray assign body D .ready none))::T) (Kg I Ix (pre++[x]) r (DN fn tmps ps.toArray assign body D) T):=by
 refine⟨λE W hs=>?_⟩;have hm:W.heap[r]?=some (.loop (DN fn tmps ps.toArray assign body D .ready none)):=hs.has (r,_) (by simp);refine⟨fn,_,assign,body,run_yield hm (by simp[DN,Nt]),roundIn_of_wpIn trivial ?_⟩;refine(h E).run _ W ?_ rfl hs;have:=Vf ps (enc x) fr {tmps:=tmps,defers:=[]} [] (hf _ rfl) je;have e:(Array.zip ps.toArray (enc x).toArray)=(ps.zip (enc x)).toArray:=by simp
 show FSat N _ {tmps:=(Array.zip ps.toArray (enc x).toArray).foldl (λt (p,v)=>t.setIfInBounds p v) tmps,defers:=[]};rw[e,List.foldl_toArray];exact this
theorem XU(hg:ev fr g=some (.func (.func gf) #[] lb.toArray))[en:EN P gf]{C:Ad}(hit:tL P gf lb enc S Sp Need C)(Nt: ∀x,(enc x).length=ps.length)(je:ps.all (λp=>Nat.blt p N)=true)
 (I:List α->Ad->Prop)(Ix:Code->List α->Ad->Prop)(l0 G:Ad)(Ca: ∀pre l X,(∀c,c∈G->c∈X)->I pre l->Need pre (l++X))(hL:Keep L (l0++(C++G)))(h0:I [] l0)
 (MI: ∀(E:World) (r:Nat) (FS:LoopState->Option Code->Loop) (pre:List α) (x:α) (l T:Ad),(∃fn tmps D,FS=DN fn tmps ps.toArray assign body D)->(∀c,c∈G->c∈T)->I pre l->Sp (pre++[x])->
   BN P (some r) N E assign (Exit.then (Px P r body (roundPost P r (RK E (Kg I Ix (pre++[x]) r FS T)))) (λ_ _ _=>False)) (DU ps (enc x) fr) [] (l++(r,.loop (FS .ready none))::T))
 (NL: ∀(D:Nat) (xs:List α) (l:Ad),S xs->I xs l->CU N E Q .normal fr (Hq D::ds) (Cm D::(l++G)))
 (Kn: ∀(D:Nat) (c:Code) (pre:List α) (l:Ad),Sp pre->Ix c pre l->BN P none N E c Q fr (Hq D::ds) (Cm D::(l++G))):
 BN P none N E (.rangeFunc g ps.toArray assign body) Q fr ds L:=by
 refine⟨λa W hf hds hs=>wpIn_rangeFunc ?_⟩;intro fn uM;have hs:=hL.sat hs;obtain⟨FS,hrec⟩: ∃FS,FS=DN fn a.tmps ps.toArray assign body W.heap.size:=⟨_,rfl⟩
 obtain⟨W1,ZD⟩: ∃W1,(W.alloc (.deferred (some []))).alloc (.loop (FS .ready none))=W1:=⟨_,rfl⟩
 have R8:Sat E ((W.heap.size+1,.loop (FS .ready none))::(W.heap.size,.deferred (some []))::(l0++(C++G))) W1:=by have:=(hs.alloc (.deferred (some []))).alloc (.loop (FS .ready none));rw[World.size_alloc,ZD] at this;exact this
 have hev:=hf.agrees g _ hg;refine⟨W.heap.size+1,[Hq W.heap.size],W1,{target:= .fn (.func gf) lb.toArray,args:=#[.func (.yield (W.heap.size+1)) #[] #[]]},W1,gf,#[.func (.yield (W.heap.size+1)) #[] #[]]++lb.toArray,W1,?_,?_,λ_ _=>trivial,?_,λh=>(by cases h),?_⟩
 ·rw[<-ZD,hrec];exact run_enterLoop_outer _ _ _ _ _
 ·simp only[resolve,hev];simp[Deferred.ofValue,Act.eval]
 ·simp[invoke,en.out]
 ·have hR:=hit.run (W.heap.size+1)
   (λpre l=> ∃l1,I pre l1/\l=l1++[(W.heap.size+1,.loop (FS .ready none)),Cm W.heap.size])
   (λpre l=> ∃c l1,Ix c pre l1/\l=l1++[(W.heap.size+1,.loop (FS .done (some c))),Cm W.heap.size])
   G
   (λpre l G' hG ⟨l1,h1,h2⟩=>by rw[h2,Am];exact Ca _ _ _ (λc hc=>Aa _ (hG c hc)) h1)
   (λpre x l G' hG ⟨l1,h1,h2⟩ DB=>by
     subst h2;have hy:=S8 (P:=P) (N:=N) (fr:=fr) (assign:=assign) (body:=body) (ps:=ps) (enc:=enc) (r:=W.heap.size+1) (fn:=fn) (tmps:=a.tmps) (D:=W.heap.size) (T:=Cm W.heap.size::G') (I:=I) (Ix:=Ix) (pre:=pre) (x:=x) (l:=l1) (Nt x) je
      (λa' ha'=>⟨by rw[ha'];exact hf.size,λd v hd=>by rw[ha'];exact hf.at_ d v hd⟩) (λE'=>by have:=MI E' (W.heap.size+1) FS pre x l1 (Cm W.heap.size::G') ⟨fn,a.tmps,W.heap.size,hrec⟩ (λc hc=>An _ (hG c hc)) h1 DB;rw[hrec] at this;exact this)
     rw[<-hrec] at hy;refine⟨λE' W' hs'=>?_⟩;have e:l1++[(W.heap.size+1,Obj.loop (FS .ready none)),Cm W.heap.size]++G'=l1++(W.heap.size+1,Obj.loop (FS .ready none))::Cm W.heap.size::G':=by simp
     rw[e] at hs';obtain⟨y9,tm,asg,bo,k1,k2⟩:=hy.run E' W' hs';refine⟨y9,tm,asg,bo,k1,k2.mono ?_⟩;rintro e' W'' ⟨v,l',rfl,hk,hs''⟩;refine⟨v,l',rfl,?_,hs''⟩;rcases hk with⟨hv,l2,hI,rfl⟩|⟨hv,c,l2,hI,rfl⟩
     ·exact⟨l2++[(W.heap.size+1,.loop (FS .ready none)),Cm W.heap.size],by simp,.inl ⟨hv,l2,hI,rfl⟩⟩
     ·exact⟨l2++[(W.heap.size+1,.loop (FS .done (some c))),Cm W.heap.size],by simp,.inr ⟨hv,c,l2,hI,rfl⟩⟩)
   (l0++[(W.heap.size+1,.loop (FS .ready none)),Cm W.heap.size]) G (λ_ h=>h) ⟨l0,h0,rfl⟩
  have NM:Sat E (l0++[(W.heap.size+1,Obj.loop (FS .ready none)),Cm W.heap.size]++(C++G)) W1:=R8.perm (by refine List.Perm.trans ?_ (I0 (C++G) (EY (l₁:=[(W.heap.size+1,Obj.loop (FS .ready none)),Cm W.heap.size]) (l₂:=l0)));simp[Cm])
  have hc:=hR.run E W1 NM;have jA:(Value.func (.yield (W.heap.size+1)) #[] #[]::lb).toArray=#[.func (.yield (W.heap.size+1)) #[] #[]]++lb.toArray:=by simp
  rw[jA] at hc;refine ML (hc.mono ?_);rintro e W2 ⟨v,l',rfl,⟨l1,rfl,⟨xs,hS,l2,hI,rfl⟩|⟨pre,hSp,c,l2,hI,rfl⟩⟩,Ro⟩
  ·have hm:W2.heap[W.heap.size+1]?=some (.loop (FS .ready none)):=Ro.has (W.heap.size+1,_) (by simp);subst hrec;refine⟨none,_,run_endLoop (P:=P) hm (by simp[DN]),?_⟩;refine(NL W.heap.size xs l2 hS hI).run {a with defers:=[Hq W.heap.size]++a.defers} _ ⟨hf.size,hf.at_⟩ (by rw[<-hds];rfl) ?_;have h4:Sat E (l2++(W.heap.size+1,Obj.loop (DN fn a.tmps ps.toArray assign body W.heap.size .ready none))::Cm W.heap.size::G) W2:=by simpa using Ro
   have h5:=h4.upd (FH l2 _ _ (.loop {DN fn a.tmps ps.toArray assign body W.heap.size .ready none with state:= .exhausted}) _);refine(h5.perm AI).tail.perm AI
  ·have hm:W2.heap[W.heap.size+1]?=some (.loop (FS .done (some c))):=Ro.has (W.heap.size+1,_) (by simp);subst hrec;refine⟨some c,_,run_endLoop (P:=P) hm (by simp[DN]),?_⟩;refine(Kn W.heap.size c pre l2 hSp hI).run {a with defers:=[Hq W.heap.size]++a.defers} _ ⟨hf.size,hf.at_⟩ (by rw[<-hds];rfl) ?_;have h4:Sat E (l2++(W.heap.size+1,Obj.loop (DN fn a.tmps ps.toArray assign body W.heap.size .done (some c)))::Cm W.heap.size::G) W2:=by simpa using Ro
   have h5:=h4.upd (FH l2 _ _ (.loop {DN fn a.tmps ps.toArray assign body W.heap.size .done (some c) with state:= .exhausted}) _);refine(h5.perm AI).tail.perm AI
theorem Df(hg:ev fr g=some (.func (.func gf) #[] lb.toArray))[en:EN P gf](hit:FA P gf lb enc S Sp Need)(Nt: ∀x,(enc x).length=ps.length)(je:ps.all (λp=>Nat.blt p N)=true)
 (I:List α->Ad->Prop)(Ix:Code->List α->Ad->Prop)(l0 G:Ad)(Ca: ∀pre l X,(∀c,c∈G->c∈X)->I pre l->Need pre (l++X))(hL:Keep L (l0++G))(h0:I [] l0)
 (MI: ∀(E:World) (r:Nat) (FS:LoopState->Option Code->Loop) (pre:List α) (x:α) (l T:Ad),(∃fn tmps D,FS=DN fn tmps ps.toArray assign body D)->(∀c,c∈G->c∈T)->I pre l->Sp (pre++[x])->
   BN P (some r) N E assign (Exit.then (Px P r body (roundPost P r (RK E (Kg I Ix (pre++[x]) r FS T)))) (λ_ _ _=>False)) (DU ps (enc x) fr) [] (l++(r,.loop (FS .ready none))::T))
 (NL: ∀(D:Nat) (xs:List α) (l:Ad),S xs->I xs l->CU N E Q .normal fr (Hq D::ds) (Cm D::(l++G)))
 (Kn: ∀(D:Nat) (c:Code) (pre:List α) (l:Ad),Sp pre->Ix c pre l->BN P none N E c Q fr (Hq D::ds) (Cm D::(l++G))):
 BN P none N E (.rangeFunc g ps.toArray assign body) Q fr ds L:=
 XU hg (C:=[]) ⟨λr I Ix G0 h1 h2 l G h3 h4=>hit.run r I Ix G0 h1 h2 l G h3 h4⟩ Nt je I Ix l0 G Ca hL h0 MI NL Kn
end
end Go.Proofs.YtlifcingifodfaaGreat
