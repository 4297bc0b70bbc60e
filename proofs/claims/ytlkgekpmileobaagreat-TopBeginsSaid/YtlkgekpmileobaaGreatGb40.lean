/- Laws that the statement's proof leans on (joined out of several texts). -/
import Derived.Test.YtlkgekpmileobaaGreatGb30
import Derived.Test.YtlkgekpmileobaaGreatGb38
import Derived.Test.YtlkgekpmileobaaGreatGb9
import Derived.Test.YtlkgekpmileobaaGreatGb6
import Derived.Test.YtlkgekpmileobaaGreatGb7
import Derived.Lib.AppendZeros
import Derived.Test.YtlkgekpmileobaaGreatGb10
import Derived.Test.YtlkgekpmileobaaGreatGb39
import Derived.Test.YtlkgekpmileobaaGreatGb8
set_option linter.unusedVariables false
set_option linter.unusedSimpArgs false
namespace Go.Proofs.YtlkgekpmileobaaGreat
open Tryz
open Go.RowKit
variable{P:Program}{N:Nat}{fr:Fr}{ro:Option Nat}{ty:TypeId}{pos:String}{g:Option (Nat×Bool)}{x:Operand}
section
variable{E:World}{Q:Exit->Act->World->Prop}{ds:List Deferred}{L:List Ab}{α:Type}{g:Operand}{ps:List Tmp}{assign body:Code}{gf:Nat}{lb:List Value}{enc:α->List Value}
abbrev Sa(r:Nat)(fn:FuncId)(tmps:Array Value)(ps:List Tmp)(assign body:Code)(D:Nat)(st:LoopState)(c:Option Code):Ab:=(r,.loop (Dp fn tmps ps.toArray assign body D st c))
theorem WA(hg:ev fr g=some (.func (.func gf) #[] lb.toArray))[en:EN P gf](A:List Ab->Prop)(B:Code->List Ab->Prop)
 (hrun: ∀(r:Nat) (fn:FuncId) (tmps:Array Value) (D:Nat),(∀a:Act,a.tmps=tmps->FSat N fr a)->
   Fn P gf (.func (.yield r) #[] #[]::lb) (Sa r fn tmps ps assign body D .ready none::Cd D::L) λv l'=>(∃l1,A l1/\l'=Sa r fn tmps ps assign body D .ready none::Cd D::l1)\/(∃c l1,B c l1/\l'=Sa r fn tmps ps assign body D .done (some c)::Cd D::l1))
 (hdone: ∀(D:Nat) (l:List Ab),A l->CH N E Q .normal fr (GF D::ds) (Cd D::l))
 (hstop: ∀(D:Nat) (c:Code) (l:List Ab),B c l->BF P none N E c Q fr (GF D::ds) (Cd D::l)):
 BF P none N E (.rangeFunc g ps.toArray assign body) Q fr ds L:=by
 refine⟨λa W hf hds hs=>wpIn_rangeFunc ?_⟩;intro fn hfn;obtain⟨rec,hrec⟩: ∃rec,rec=Dp fn a.tmps ps.toArray assign body W.heap.size:=⟨_,rfl⟩
 obtain⟨W1,hW1⟩: ∃W1,(W.alloc (.deferred (some []))).alloc (.loop (rec .ready none))=W1:=⟨_,rfl⟩
 have hs1:Sat E ((W.heap.size+1,.loop (rec .ready none))::(W.heap.size,.deferred (some []))::L) W1:=by have:=(hs.alloc (.deferred (some []))).alloc (.loop (rec .ready none));rw[World.size_alloc,hW1] at this;exact this
 have hev:=hf.agrees g _ hg;refine⟨W.heap.size+1,[GF W.heap.size],W1,{target:= .fn (.func gf) lb.toArray,args:=#[.func (.yield (W.heap.size+1)) #[] #[]]},W1,gf,#[.func (.yield (W.heap.size+1)) #[] #[]]++lb.toArray,W1,?_,?_,λ_ _=>trivial,?_,λh=>(by cases h),?_⟩
 ·rw[<-hW1,hrec];exact run_enterLoop_outer _ _ _ _ _
 ·simp only[resolve,hev];simp[Deferred.ofValue,Act.eval]
 ·simp[invoke,en.out]
 ·have hc:=(hrun (W.heap.size+1) fn a.tmps W.heap.size λa' ha'=>⟨by rw[ha'];exact hf.size,λd v hd=>by rw[ha'];exact hf.at_ d v hd⟩).run E W1 (by rw[hrec] at hs1;exact hs1);have eargs:(Value.func (.yield (W.heap.size+1)) #[] #[]::lb).toArray=#[.func (.yield (W.heap.size+1)) #[] #[]]++lb.toArray:=by simp
  rw[eargs] at hc;refine Ll (hc.mono ?_);rintro e W2 ⟨v,l',rfl,⟨l1,hA,rfl⟩|⟨c,l1,hB,rfl⟩,hs3⟩
  ·have hm:W2.heap[W.heap.size+1]?=some (.loop (Dp fn a.tmps ps.toArray assign body W.heap.size .ready none)):=hs3.has (W.heap.size+1,_) (.head _);refine⟨none,_,run_endLoop (P:=P) hm (by simp[Dp]),?_⟩;refine(hdone W.heap.size l1 hA).run {a with defers:=[GF W.heap.size]++a.defers} _ ⟨hf.size,hf.at_⟩ (by rw[<-hds];rfl) ?_;exact(hs3.upd .here).tail
  ·have hm:W2.heap[W.heap.size+1]?=some (.loop (Dp fn a.tmps ps.toArray assign body W.heap.size .done (some c))):=hs3.has (W.heap.size+1,_) (.head _);refine⟨some c,_,run_endLoop (P:=P) hm (by simp[Dp]),?_⟩;refine(hstop W.heap.size c l1 hB).run {a with defers:=[GF W.heap.size]++a.defers} _ ⟨hf.size,hf.at_⟩ (by rw[<-hds];rfl) ?_;exact(hs3.upd .here).tail
structure WB(P:Program)(gf:Nat)(lb:List Value)(enc:α->List Value)(C:List Ab)(Out:List α->List Ab->Prop):Prop where
 run: ∀(r:Nat) (I:List α->List Ab->Prop),(∀pre x l X,pre.length<=3->I pre l->Mn P r (enc x) (l++X) (λv l'=> ∃l1,v= .bool true/\I (pre++[x]) l1/\l'=l1++X))->
  ∀l,I [] l->Fn P gf (.func (.yield r) #[] #[]::lb) (l++C) (λv l'=> ∃xs l1 C',I xs l1/\Out xs C'/\l'=l1++C')
theorem gx(hg:ev fr g=some (.func (.func gf) #[] lb.toArray))[en:EN P gf]{C:List Ab}{Out:List α->List Ab->Prop}(hit:WB P gf lb enc C Out)(hps: ∀x,(enc x).length=ps.length)(hpb:ps.all (λp=>Nat.blt p N)=true)
 (I:List α->List Ab->Prop)(l0:List Ab)(hL:Keep L (l0++C))(h0:I [] l0)
 (hround: ∀(E:World) (r:Nat) (rec:LoopState->Option Code->Loop) (pre:List α) (x:α) (l T:List Ab),(∃fn tmps D,rec=Dp fn tmps ps.toArray assign body D)->pre.length<=3->I pre l->
   BF P (some r) N E assign (Exit.then (NS P r body (roundPost P r (RK E (Ji I (λ_ _ _=>False) (pre++[x]) r rec T)))) (λ_ _ _=>False)) (Du ps (enc x) fr) [] (l++(r,.loop (rec .ready none))::T))
 (hdone: ∀(D:Nat) (xs:List α) (l C':List Ab),I xs l->Out xs C'->CH N E Q .normal fr (GF D::ds) (Cd D::(l++C'))):
 BF P none N E (.rangeFunc g ps.toArray assign body) Q fr ds L:=by
 refine DQ hL (WA hg (λl1=> ∃xs l C',I xs l/\Out xs C'/\l1=l++C') (λ_ _=>False) ?_ ?_ λD c l h=>h.elim)
 ·intro r fn tmps D hf;have hy:=hit.run r (λpre l=> ∃l1,I pre l1/\l=l1++[Sa r fn tmps ps assign body D .ready none,Cd D]) (λpre x l X h3 ⟨l1,h1,h2⟩=>by
   subst h2;have hy:=QQ (P:=P) (N:=N) (fr:=fr) (assign:=assign) (body:=body) (ps:=ps) (enc:=enc) (r:=r) (fn:=fn) (tmps:=tmps) (D:=D) (T:=Cd D::X) (I:=I) (Ix:=λ_ _ _=>False) (pre:=pre) (x:=x) (l:=l1) (hps x) hpb hf (λE'=>hround E' r _ pre x l1 (Cd D::X) ⟨fn,tmps,D,rfl⟩ h3 h1);refine⟨λE' W' hs'=>?_⟩;have e:l1++[Sa r fn tmps ps assign body D .ready none,Cd D]++X=l1++Sa r fn tmps ps assign body D .ready none::Cd D::X:=by simp
   rw[e] at hs';obtain⟨fn',tm,asg,bo,k1,k2⟩:=hy.run E' W' hs';refine⟨fn',tm,asg,bo,k1,k2.mono ?_⟩;rintro e' W'' ⟨v,l',rfl,hk,hs''⟩;refine⟨v,l',rfl,?_,hs''⟩;rcases hk with⟨hv,l2,hI,rfl⟩|⟨hv,c,l2,hI,rfl⟩
   ·exact⟨l2++[Sa r fn tmps ps assign body D .ready none,Cd D],hv,⟨l2,hI,rfl⟩,by simp⟩
   ·exact hI.elim) (l0++[Sa r fn tmps ps assign body D .ready none,Cd D]) ⟨l0,h0,rfl⟩
  refine Fn.re (.of_perm ?_) hy λv l' ⟨xs,l1,C',⟨l2,h1,h2⟩,h3,h4⟩=>⟨Sa r fn tmps ps assign body D .ready none::Cd D::(l2++C'),.of_perm ?_,.inl ⟨_,⟨xs,l2,C',h1,h3,rfl⟩,rfl⟩⟩
  ·exact(HZ C (Em (l₁:=[Sa r fn tmps ps assign body D .ready none,Cd D]) (l₂:=l0)))
  ·subst h4 h2;exact(HZ C' (Em (l₁:=l2) (l₂:=[Sa r fn tmps ps assign body D .ready none,Cd D])))
 ·rintro D l ⟨xs,l1,C',h1,h2,rfl⟩;exact hdone D xs l1 C' h1 h2
structure na(P:Program)(gf:Nat)(lb:List Value)(enc:α->List Value)(Nx:List α->Option α->List Ab->Prop):Prop where
 run: ∀(r:Nat) (I:Nat->List α->Option α->List Ab->Prop) (Ix:List α->List Ab->Prop),(∀m pre o l X,I m pre o l->Nx pre o (l++X))->
  (∀m pre x l X,I m pre (some x) l->Mn P r (enc x) (l++X) (λv l'=> ∃l1,l'=l1++X/\((v= .bool true/\ ∃m' o,m'<m/\I m' (pre++[x]) o l1)\/(v= .bool false/\Ix (pre++[x]) l1))))->
  ∀m o l X,I m [] o l->Fn P gf (.func (.yield r) #[] #[]::lb) (l++X) (λv l'=> ∃l1,l'=l1++X/\((∃m xs,I m xs none l1)\/ ∃pre,Ix pre l1))
theorem gy(hg:ev fr g=some (.func (.func gf) #[] lb.toArray))[en:EN P gf]{Nx:List α->Option α->List Ab->Prop}(hit:na P gf lb enc Nx)(hps: ∀x,(enc x).length=ps.length)(hpb:ps.all (λp=>Nat.blt p N)=true)
 (I:Nat->List α->Option α->List Ab->Prop)(Ix:Code->List α->List Ab->Prop)(l0:List Ab){m0:Nat}{o0:Option α}(hnx: ∀m pre o l X,I m pre o l->Nx pre o (l++X))(hL:Keep L l0)(h0:I m0 [] o0 l0)
 (hround: ∀(E:World) (r:Nat) (rec:LoopState->Option Code->Loop) (m:Nat) (pre:List α) (x:α) (l T:List Ab),(∃fn tmps D,rec=Dp fn tmps ps.toArray assign body D)->I m pre (some x) l->
   BF P (some r) N E assign (Exit.then (NS P r body (roundPost P r (RK E (Ji (λxs l=> ∃m' o,m'<m/\I m' xs o l) Ix (pre++[x]) r rec T)))) (λ_ _ _=>False)) (Du ps (enc x) fr) [] (l++(r,.loop (rec .ready none))::T))
 (hdone: ∀(D:Nat) (m:Nat) (xs:List α) (l:List Ab),I m xs none l->CH N E Q .normal fr (GF D::ds) (Cd D::l))
 (hstop: ∀(D:Nat) (c:Code) (pre:List α) (l:List Ab),Ix c pre l->BF P none N E c Q fr (GF D::ds) (Cd D::l)):
 BF P none N E (.rangeFunc g ps.toArray assign body) Q fr ds L:=by
 refine DQ hL (WA hg (λl1=> ∃m xs,I m xs none l1) (λc l1=> ∃pre,Ix c pre l1) ?_ ?_ ?_)
 ·intro r fn tmps D hf;have hy:=hit.run r (λm pre o l=> ∃l1,I m pre o l1/\l=l1++[Sa r fn tmps ps assign body D .ready none,Cd D]) (λpre l=> ∃c l1,Ix c pre l1/\l=l1++[Sa r fn tmps ps assign body D .done (some c),Cd D]) (λm pre o l X ⟨l1,h1,h2⟩=>by rw[h2,Al];exact hnx _ _ _ _ _ h1) (λm pre x l X ⟨l1,h1,h2⟩=>by
   subst h2;have hy:=QQ (P:=P) (N:=N) (fr:=fr) (assign:=assign) (body:=body) (ps:=ps) (enc:=enc) (r:=r) (fn:=fn) (tmps:=tmps) (D:=D) (T:=Cd D::X) (I:=λxs l=> ∃m' o,m'<m/\I m' xs o l) (Ix:=Ix) (pre:=pre) (x:=x) (l:=l1) (hps x) hpb hf (λE'=>hround E' r _ m pre x l1 (Cd D::X) ⟨fn,tmps,D,rfl⟩ h1);refine⟨λE' W' hs'=>?_⟩;have e:l1++[Sa r fn tmps ps assign body D .ready none,Cd D]++X=l1++Sa r fn tmps ps assign body D .ready none::Cd D::X:=by simp
   rw[e] at hs';obtain⟨fn',tm,asg,bo,k1,k2⟩:=hy.run E' W' hs';refine⟨fn',tm,asg,bo,k1,k2.mono ?_⟩;rintro e' W'' ⟨v,l',rfl,hk,hs''⟩;refine⟨v,l',rfl,?_,hs''⟩;rcases hk with⟨hv,l2,⟨m',o,hm,hI⟩,rfl⟩|⟨hv,c,l2,hI,rfl⟩
   ·exact⟨l2++[Sa r fn tmps ps assign body D .ready none,Cd D],by simp,.inl ⟨hv,m',o,hm,l2,hI,rfl⟩⟩
   ·exact⟨l2++[Sa r fn tmps ps assign body D .done (some c),Cd D],by simp,.inr ⟨hv,c,l2,hI,rfl⟩⟩) m0 o0 (l0++[Sa r fn tmps ps assign body D .ready none,Cd D]) [] ⟨l0,h0,rfl⟩
  refine Fn.re (.of_perm ?_) hy ?_
  ·rw[Be];exact Em (l₁:=[Sa r fn tmps ps assign body D .ready none,Cd D]) (l₂:=l0)
  rintro v l' ⟨l1,rfl,⟨m,xs,l2,h1,rfl⟩|⟨pre,c,l2,h1,rfl⟩⟩
  ·refine⟨Sa r fn tmps ps assign body D .ready none::Cd D::l2,.of_perm ?_,.inl ⟨l2,⟨m,xs,h1⟩,rfl⟩⟩;rw[Be];exact Em (l₁:=l2) (l₂:=[Sa r fn tmps ps assign body D .ready none,Cd D])
  ·refine⟨Sa r fn tmps ps assign body D .done (some c)::Cd D::l2,.of_perm ?_,.inr ⟨c,l2,⟨pre,h1⟩,rfl⟩⟩;rw[Be];exact Em (l₁:=l2) (l₂:=[Sa r fn tmps ps assign body D .done (some c),Cd D])
 ·rintro D l ⟨m,xs,h1⟩;exact hdone D m xs l h1
 ·rintro D c l ⟨pre,h1⟩;exact hstop D c pre l h1
end
section
variable{l:List Ab}{K:Value->List Ab->Prop}{d:Option Nat}{aft:Array Edge}
theorem kX{f:Nat}{xs:List Operand}{vs cs:List Value}{at_:Array TypeId}(hx:ev fr x=some (.func (.func f) #[] (List.toArray cs)))(hy:PX fr xs=some vs)[c:EN P f](h:Fn P f (vs++cs) l K):OpE P ro N fr l ⟨d,.call {callee:= .value x,args:=xs.toArray,argTypes:=at_},ty,pos,aft,g⟩ K:=CZ hx hy (by simpa using h)
end
def KB(i j:Int):Int:=IntKind.i64.wrap (((BitVec.ofInt 64 i)&&& (BitVec.ofInt 64 j)).toNat:Int)
theorem Jy{R:List Ab}{d:Option Nat}{t2 t:TypeId}{aft:Array Edge}{y:Operand}{i j:Int}(hx:ev fr x=some (.int .i64 i))(hy:ev fr y=some (.int .i64 j)):OpQ P ro N fr R ⟨d,.binOp .and t x y t2,ty,pos,aft,g⟩ (.int .i64 (KB i j)):=
 HN hx hy (λ_ _=>CQ _ _ _ _ _) (by simp only[binOp,Op.intBits];rfl)
end Go.Proofs.YtlkgekpmileobaaGreat
namespace Go.Proofs.YtlkgekpmileobaaGreat
open Tryz
open Go.RowKit Go.Lib
section
variable{P:Program}{ro:Option Nat}{N:Nat}{fr:Fr}{l:List Ab}{d:Option Nat}{ty:TypeId}{pos:String}{aft:Array Edge}{g:Option (Nat×Bool)}
theorem bZ{R:List Ab}{s x:Operand}{p q:Option Addr}{T e kk yb n cap cp:Nat}(hs:ev fr s=some (.slice p n cap))(hx:ev fr x=some (.slice q 0 cp))[c:ST P T e kk yb](hn:n<=cap):
 OpQ P ro N fr R ⟨d,.call {callee:= .builtin .append,args:=#[s,x],argTypes:=#[T,T]},ty,pos,aft,g⟩ (.slice p n cap):=BL rfl λρ l hρ _=>by
 obtain⟨inf,u1,u2,_⟩:=Ev c.out;simp only[execOp,resolve,AB,Bj,invoke,builtin,Da,AJ,CY,hρ s _ hs,hρ x _ hx];unfold Builtin.append_;simp only[AE,Dc,C9,AB];rw[EU u1];simp only;rw[EW u2];simp only[AB];rw[EU u1];simp only[Bj,Bg,CS,Builtin.lenOf,Ib,CT,CN,Ae hn,AB,Builtin.firstCells];cases q with
 |none=>
  cases p with
  |none=>exact⟨rfl,rfl⟩
  |some a=>exact⟨rfl,rfl⟩
 |some a'=>
  simp only[FY,loadCells,loadCellsFrom,Bj];cases p with
  |none=>exact⟨rfl,rfl⟩
  |some a=>exact⟨rfl,rfl⟩
end
end Go.Proofs.YtlkgekpmileobaaGreat
namespace Go.Proofs.YtlkgekpmileobaaGreat
open Tryz
open Go.RowKit
variable{l A cs G:List Ab}{P:Program}{ro:Option Nat}{N k F C b e n:Nat}{fr:Fr}{a:Ab}{E:World}{Q:Exit->Act->World->Prop}{ds:List Deferred}{ty:TypeId}{pos:String}{x:Operand}{S:KT}{p:RP}{s:RL}{Γ:List Ab->List Ab}{g:Option (Nat×Bool)}{v:Value}{xs lb:List Value}{c:Code}{ops:Array Oper}{Fm:Th.ThT->Th.ThT}
theorem Pr{F:List Ab}{d:Option Nat}{aft:Array Edge}{s:Operand}{vx:Value}{T yb m:Nat}{ys zs:List Value}{cw:List Ab}(hs:ev fr s=some v)(hx:ev fr x=some vx)[c:ST P T e k yb][cz:ZV P e zs](hzs:zs.length=k)(ho:OwnSl e k v n xs cs)(ho2:OwnSl e k vx m ys cw)(h1: ∀u∈ys,u.oneCell'=true)(hn:n<=1000000)(hm:m<=1000000)(hby:yb<=1000):
 OpE P ro N fr (cs++(cw++F)) ⟨d,.call {callee:= .builtin .append,args:=#[s,x],argTypes:=#[T,T]},ty,pos,aft,g⟩ (λv' l'=> ∃c2,OwnSl e k v' (n+m) (xs++ys) c2/\l'=c2++(cw++F)):=by
 have hb:(n+m)*yb<=140737488355328:=by have:=H9 (show n+m<=2000000 by omega) hby;omega
 by_cases h0:m=0
 ·subst h0;obtain⟨pp,cap,hv⟩:=ho.shape;obtain⟨p2,cap2,hv2⟩:=ho2.shape;subst hv hv2;have hle:n<=cap:=by
   rcases ho.2 with⟨e1,e2,_⟩|⟨b,c2,sp,e1,_,e2,_⟩
   ·omega
   ·cases e1;exact e2
  have hy:ys=[]:=DO (by rw[ho2.1,FY]);subst hy;have hq:=bZ (P:=P) (ro:=ro) (N:=N) (R:=[]) (d:=d) (ty:=ty) (pos:=pos) (aft:=aft) (g:=g) (T:=T) hs hx hle;refine(hq.run (cs++(cw++F)) λc hc=>by cases hc).mono ?_;rintro _ _ ⟨rfl,rfl⟩;exact⟨cs,by rw[Be];exact ho,rfl⟩
 ·obtain⟨hl,⟨_,h2,_⟩|⟨b,cap,sp,rfl,rfl,h3,h4,h5⟩⟩:=ho2
  ·exact absurd h2 h0
  exact Gk (k:=k) (yb:=yb) (news:=ys) (zs:=zs) (m:=m) hs hx hzs ho (Aa _ (.head _)) (λj u hj=>by rw[Bw,AE];rw[AC (Ax.1 hj).1];exact hj) hl h1 (by unfold maxLen;omega) hb
theorem SJ(ha:a∈l): ∀x,x∈[a]->x∈l:=by intro x hx;rw[AA.1 hx];exact ha
theorem rS{b:Ab}(ha:a∈l)(hb:b∈l): ∀x,x∈[a,b]->x∈l:=by
 intro x hx;simp only[Aq,BK,Ec] at hx;rcases hx with rfl|rfl
 ·exact ha
 ·exact hb
def oT:Code->Nat
 | .skip=>0
 | .region ..=>1
 | .seq ..=>3
 | .cond ..=>4
 | .block ..=>5
 | .loop ..=>6
 | .rangeFunc ..=>7
 | .exit ..=>8
 | .scope ..=>9
 | .label ..=>10
 |_=>11
def vG:Code->Code
 | .seq a _=>a
 |c=>c
def vH:Code->Code
 | .seq _ b=>b
 |c=>c
def uU:Code->Code
 | .cond _ a _=>a
 |c=>c
def uV:Code->Code
 | .cond _ _ b=>b
 |c=>c
def qc:Code->Operand
 | .cond o _ _=>o
 |_=> .tmp 0
def qd:Code->Nat
 | .cond (.tmp t) _ _=>t
 |_=>0
def vJ:Code->Code
 | .block _ x=>x
 | .loop x=>x
 | .scope x=>x
 |c=>c
def vK:Code->Nat
 | .block k _=>k
 |_=>0
def vL:Code->Operand
 | .rangeFunc g _ _ _=>g
 |_=> .tmp 0
def vM:Code->List Tmp
 | .rangeFunc _ ps _ _=>ps.toList
 |_=>[]
def vO:Code->Code
 | .rangeFunc _ _ a _=>a
 |c=>c
def vP:Code->Code
 | .rangeFunc _ _ _ b=>b
 |c=>c
section
theorem oU(hc:oT c=3)(h:BF P ro N E (vG c) (Exit.then ((vH c).wpIn (Fw ro) 0 P Q) Q) fr ds l):BF P ro N E c Q fr ds l:=by cases c<;>first|exact YN h|cases hc
theorem gA(hc:oT c=5)(h:BF P ro N E (vJ c) (Exit.inBlock (vK c) Q) fr ds l):BF P ro N E c Q fr ds l:=by cases c<;>first|exact Od h|cases hc
theorem gB(hc:oT c=7)(h:BF P ro N E (.rangeFunc (vL c) (vM c).toArray (vO c) (vP c)) Q fr ds l):BF P ro N E c Q fr ds l:=by cases c<;>first|exact h|cases hc
theorem gC(hc:oT c=4)(hv:ev fr (qc c)=some (.bool true))(h:BF P ro N E (uU c) Q fr ds l):BF P ro N E c Q fr ds l:=by cases c<;>first|exact KZ hv h|cases hc
theorem gD(hc:oT c=4)(hv:ev fr (qc c)=some (.bool false))(h:BF P ro N E (uV c) Q fr ds l):BF P ro N E c Q fr ds l:=by cases c<;>first|exact K0 hv h|cases hc
theorem oV{p:Prop}{ip:Decidable p}(hc:oT c=4)(ho:qc c= .tmp (qd c))(hv:BP fr (qd c)=some (.bool (@decide p ip)))(hp:p)(h:BF P ro N E (uU c) Q ((qd c,.bool true)::fr) ds l):BF P ro N E c Q fr ds l:=by
 cases c with
 |cond o a b=>simp only[qc] at ho;rw[ho];exact QO hv hp h
 |_=>cases hc
theorem oW{p:Prop}{ip:Decidable p}(hc:oT c=4)(ho:qc c= .tmp (qd c))(hv:BP fr (qd c)=some (.bool (@decide p ip)))(hp:¬p)(h:BF P ro N E (uV c) Q ((qd c,.bool false)::fr) ds l):BF P ro N E c Q fr ds l:=by
 cases c with
 |cond o a b=>simp only[qc] at ho;rw[ho];exact QP hv hp h
 |_=>cases hc
theorem WC{f:FuncId}{fn:Func}{args:List Value}{K:Value->List Ab->Prop}(hf:P.funcs[f]?=some fn)(hb:fn.body.isSome=true)(hn:Nat.ble args.length fn.ntmps=true)
 (h: ∀E,BF P none fn.ntmps E (fn.body.getD .skip) (bodyPostM Fence.wide 0 P fn (RK E K)) (Ub 0 args) [] l):Fn P f args l K:=by
 cases hb2:fn.body with
 |none=>rw[hb2] at hb;cases hb
 |some c=>exact QL hf hb2 hn (by rw[hb2] at h;exact h)
end
theorem J8{H G:Prop}(k:H)(h:Bx H->G:=by(intro k;(repeat(first|(show Df _ _ _ _ _ _ (_::_) _ _ _;first|refine sH ?_|refine sI ?_|refine ozs0 ?_|refine sJ ?_|refine sK ?_|refine nK rfl rfl rfl rfl rfl rfl ?_|refine tu ?_)|refine oU rfl ?_|refine Mo ?_|refine Oe ?_|refine SS ?_|refine gC rfl rfl ?_|refine gD rfl rfl ?_|refine gA rfl ?_|refine Uc ?_|refine QI ?_|refine Og ?_|refine Kg ?_|refine If ?_|refine Ln rfl ?_|refine YO ?_|refine Lm ?_|refine Kh ?_|refine c_scopeP rfl ?_|refine P8 ?_|refine P9 ?_|refine Ki ?_|refine p_scope_exit ?_|refine YQ ?_|refine oV rfl rfl rfl Af ?_|refine oW rfl rfl rfl Af ?_));exact k.h)):G:=h ⟨k⟩
set_option maxRecDepth 20000
section
variable{Q':Exit->Act->World->Prop}{e:Exit}
theorem oX(h: ∀Q',(∀e a W,Q e a W->Q' e a W)->BF P ro N E c Q' fr ds l):BF P ro N E c Q fr ds l:=h Q λ_ _ _ h=>h
theorem rT(hQ: ∀e a W,Q e a W->Q' e a W)(h:CH N E Q e fr ds l):CH N E Q' e fr ds l:=⟨λa W h1 h2 h3=>hQ _ _ _ (h.run a W h1 h2 h3)⟩
end
theorem Qy(h:OwnSl e k v n xs cs):v.oneCell'=true:=by obtain⟨_,_,h⟩:=h.shape;rw[h];rfl
theorem T3{b c:Ab}(ha:a∈l)(hb:b∈l)(hc:c∈l): ∀x,x∈[a,b,c]->x∈l:=by
 intro x hx;simp only[Aq,BK,Ec] at hx;rcases hx with rfl|rfl|rfl
 ·exact ha
 ·exact hb
 ·exact hc
section
theorem Gs{L:List Ab}(hT:Tail L (cs++G)): ∃L',Tail L' G/\(Av b p s S L).Perm (cs++Av b p s S L'):=by obtain⟨X,rfl⟩:=hT;exact⟨X++G,⟨X,rfl⟩,by unfold Av;exact Cc⟩
instance:QF prog 144 [pV b] [Co b p] (pV p.h):=⟨λl hl=>Dx b p l (hl _ (.head _))⟩
instance:EK prog F C b p 73 [pV b] k S k (.tuple #[]) (OR S):=⟨λs G h=>gi h⟩
instance:QF prog 263 [pV b] [Co b p] (pV p.e):=⟨λl hl=>TM b p l (hl _ (.head _))⟩
variable{R:List Ab}{x0:Value}{d f k' i:Nat}{xs:List Operand}{vs:List Value}{at_:Array TypeId}{aft:Array Edge}{S':KT}{tbl:List (List Nat)}{pl:List BC}
theorem qe(hR: ∀S1 s' L,∀c,c∈R->c∈Γ (Av b p s' S1 L))(hk: ∀S1 s' L,S1=S'->IsK F C k' S1 p s'->Tail L G->Co b p∈Av b p s' S1 L->PlanS P ro N E ops Q R tbl none [] pl ((d,x0)::fr) ds (Γ (Av b p s' S1 L)))(hx:ev fr x=some (.func (.func f) #[] #[]):=by rfl)(hy:PX fr xs=some vs:=by rfl)(hF:Fr1 (Av b p s S G) l Γ:=by exact Zr)(c:EN P f:=by infer_instance)(hK:IsK F C k S p s:=by infer_instance)(q:EK P F C b p f vs k S k' x0 S':=by infer_instance)(hb:Nat.blt d N=true:=by rfl):PlanS P ro N E ops Q R tbl none [] ((i,false,⟨some d,.call {callee:= .value x,args:=xs.toArray,argTypes:=at_},ty,pos,aft,none⟩)::pl) fr ds l:=
 CE (Az hx hy (q.on hK hF)) rfl rfl hb (λv l' ⟨h1,s',L,h2,h3,h4⟩ c hc=>by rw[h4];exact hR S' s' L c hc) λv l' ⟨h1,s',L,h2,h3,h4⟩=>by rw[h1,h4];exact hk S' s' L rfl h2 h3 (mR λ_ h=>h)
theorem ua{j dj:Nat}{oj:Oper}{w:Bool}(hR: ∀S1 s' L,∀c,c∈R->c∈Γ (Av b p s' S1 L))(hk: ∀S1 s' L,S1=S'->IsK F C k' S1 p s'->Tail L G->Co b p∈Av b p s' S1 L->PlanS P ro N E ops Q R tbl none [] pl ((d,x0)::fr) ds (Γ (Av b p s' S1 L)))(hx:ev fr x=some (.func (.func f) #[] #[]):=by rfl)(hy:PX fr xs=some vs:=by rfl)(hF:Fr1 (Av b p s S G) l Γ:=by exact Zr)(c:EN P f:=by infer_instance)(hK:IsK F C k S p s:=by infer_instance)(q:EK P F C b p f vs k S k' x0 S':=by infer_instance)(hb:Nat.blt d N=true:=by rfl)(hj:ops[j]?=some oj:=by rfl)(hjd:oj.dst=some dj:=by rfl)(hbg:BP fr dj=some (.bool w):=by rfl):PlanS P ro N E ops Q R tbl none [] ((i,false,⟨some d,.call {callee:= .value x,args:=xs.toArray,argTypes:=at_},ty,pos,aft,some (j,w)⟩)::pl) fr ds l:=
 qJ (Az hx hy (q.on hK hF)) rfl hj hjd hbg rfl hb (λv l' ⟨h1,s',L,h2,h3,h4⟩ c hc=>by rw[h4];exact hR S' s' L c hc) λv l' ⟨h1,s',L,h2,h3,h4⟩=>by rw[h1,h4];exact hk S' s' L rfl h2 h3 (mR λ_ h=>h)
end
theorem rU: ∀c,c∈([]:List Ab)->c∈l:=λ_ h=>nomatch h
theorem oY(h1:a∈l)(h2: ∀c,c∈A->c∈l): ∀c,c∈a::A->c∈l:=λc hc=>by
 rcases Aq.1 hc with rfl|hc
 ·exact h1
 ·exact h2 c hc
theorem vQ(h: ∀c,c∈A->c∈l:=by(repeat(first|exact rU|(apply oY;·exact BO)))): ∀c,c∈A->c∈l:=h
structure gE(P:Program)(g:Nat)(lb:List Value)(A:List Ab)(Fm:Th.ThT->Th.ThT):Prop where
 run: ∀(x:Nat) (t:Th.ThT) (l:List Ab),(∀c,c∈A->c∈l)->Fn P g (pV x::lb) (Th.thC x t::l) λv l'=>v= .tuple #[]/\l'=Th.thC x (Fm t)::l
section
theorem rV(hK:IsK F C k S p s)(id:Int){g:Nat}[en:EN prog g](q:gE prog g lb A Fm)(hw:TW (Fm (Er S id)))(hA: ∀c,c∈A->c∈G):Fn prog 266 [pV b,.int .i64 id,.func (.func g) #[] (List.toArray lb)] (Av b p s S G) (KK F C b p k (Th.thV (Fm (Er S id))) (DS S (Fm (Er S id))) G):=by
 have mr:Co b p∈Av b p s S G:=mR λ_ h=>h;refine AO func266 ntmps266 λE=>?_;refine AQ λb6=>?_;refine Ea ?_;refine Aj ?_;refine Ea ?_;obtain⟨t,ht⟩: ∃t,Er S id=t:=⟨_,rfl⟩
 rw[ht] at hw⊢;refine AQ λb7=>?_;obtain⟨u,hu⟩: ∃u,Fm t=u:=⟨_,rfl⟩
 refine AS (kX (vs:=[pV b7]) (cs:=lb) rfl rfl (q.run b7 t _ λc hc=> .tail _ (mG (λ_ h=>h) c (hA c hc)))) ?_;rintro _ _ ⟨rfl,rfl⟩;rw[hu] at hw⊢;refine Aj ?_;refine Ch (Cf [3] 0 4) ?_;refine Ci ?_;refine Lj (q:=M0 u hw) ?_;intro S1 s1 L1 hS1 hK1 hT1 mr1;refine Ci ?_;refine Aj ?_;exact A4 (h:=Cq rfl (.tail _ (.head _)) (As.LSub.of_all (n:=24) (Th.encH u) rfl) .nil)
variable{rest:List Oper}{d:Nat}{xs:List Operand}{at_:Array TypeId}{aft:Array Edge}
theorem SK{id:Int}{gf:Nat}[en:EN prog gf](q:gE prog gf lb A Fm)(hw:TW (Fm (Er S id)))(hk: ∀S1 s' L,S1=DS S (Fm (Er S id))->IsK F C k S1 p s'->Tail L G->Co b p∈Av b p s' S1 L->Df prog ro N E ops Q rest ((d,Th.thV (Fm (Er S id)))::fr) ds (Γ (Av b p s' S1 L)))
 (hx:ev fr x=some (.func (.func 266) #[] #[]):=by rfl)(hy:PX fr xs=some [pV b,.int .i64 id,.func (.func gf) #[] (List.toArray lb)]:=by rfl)(hF:Fr1 (Av b p s S G) l Γ:=by exact Zr)(hA: ∀c,c∈A->c∈Γ []:=by exact vQ)(hK:IsK F C k S p s:=by infer_instance)(hw':Pz ops fr g=some true:=by rfl)(hb:Nat.blt d N=true:=by rfl):
 Df prog ro N E ops Q (⟨some d,.call {callee:= .value x,args:=xs.toArray,argTypes:=at_},ty,pos,aft,g⟩::rest) fr ds l:=by
 obtain⟨B,rfl,hB⟩:=hF.eq;have hA2: ∀c,c∈A->c∈B++G:=λc hc=>Ai _ (by have:=hA c hc;rw[hB,Be] at this;exact this);refine It (Az hx hy (Fn.re (.of_perm (EF b p s S B G)) (rV (G:=B++G) hK id q hw hA2) (K':=λv l'=>v=Th.thV (Fm (Er S id))/\ ∃s' L,IsK F C k (DS S (Fm (Er S id))) p s'/\Tail L G/\l'=Γ (Av b p s' (DS S (Fm (Er S id))) L)) λv l' ⟨h1,s',L,h2,⟨X,h3⟩,h4⟩=>⟨Γ (Av b p s' (DS S (Fm (Er S id))) (X++G)),?_,h1,s',_,h2,⟨X,rfl⟩,rfl⟩)) hw' rfl hb λv l' ⟨h1,s',L,h2,h3,h4⟩=>by rw[h1,h4];exact hk _ s' L rfl h2 h3 (mR λ_ h=>h)
 rw[h4,h3,hB];exact .of_perm (RI ..)
end
section
def GR(S:KT)(t addr:Int):Th.ThT×Int:=if Oa S t=false\/¬(Er S t).st=1\/addr<0\/4096<addr then(Th.thZ,2) else(Er S t,0)
theorem kY(hK:IsK F C k S p s)(t addr:Int)(l:List Ab)(hl: ∀c,c∈Av b p s S G->c∈l):Fn prog 262 [pV b,.int .i64 t,.int .i64 addr] l λv l'=>v= .tuple #[Th.thV (GR S t addr).1,iV (GR S t addr).2]/\l'=l:=by
 have mr:Co b p∈l:=mR hl;have I: ∀{f:Nat} {vs:List Value} {v:Value} [QF prog f vs (Av b p s S G) v],QF prog f vs l v:=W5 hl;unfold GR Oa;refine AO func262 ntmps262 λE=>?_;refine AQ λb6=>?_;refine Ea ?_;refine Aj ?_;refine Ea ?_;obtain⟨u,hu⟩: ∃u,Er S t=u:=⟨_,rfl⟩
 obtain⟨ok,hok⟩: ∃q,(Th.findH S.T t).isSome=q:=⟨_,rfl⟩
 rw[hu,hok];refine AQ λb8=>?_;by_cases h0:ok=false\/¬u.st=1\/addr<0\/4096<addr
 ·rw[Ae h0];cases ok<;>by_cases h1:u.st=1<;>by_cases h2:addr<0<;>by_cases h3:4096<addr;all_goals first
   |(exfalso;simp[h1,h2,h3] at h0;done)
   |(exfalso;omega)
   |(refine Aj ?_
     exact AU [] _ rfl .refl (Cq rfl (.tail _ (.head _)) (As.LSub.of_all (n:=24) (Th.encH Th.thZ) rfl) (by exact A7)) (.drop (.drop .refl)) ⟨rfl,rfl⟩)
 rw[Ac h0];obtain⟨h1,h2,h3,h4⟩:ok=true/\u.st=1/\¬addr<0/\¬4096<addr:=by simp at h0;exact⟨h0.1,h0.2.1,Af,Af⟩
 subst h1;refine Aj ?_;exact AU [] _ rfl .refl (Cq rfl (.tail _ (.head _)) (As.LSub.of_all (n:=24) (Th.encH u) rfl) (by exact A7)) (.drop (.drop .refl)) ⟨rfl,rfl⟩
instance[h:IsK F C k S p s]{t addr:Int}:QF prog 262 [pV b,.int .i64 t,.int .i64 addr] (Av b p s S G) (.tuple #[Th.thV (GR S t addr).1,iV (GR S t addr).2]):=⟨λl hl=>kY h t addr l hl⟩
class AD(a:Int):Prop where
 out:a<18446744073709551616
instance[h:IsK F C k S p s]{id a:Int}[ha:AD a]:QF prog 160 [pV b,.int .i64 id,.int .i64 a] (Av b p s S G) (.tuple #[Fp (G6 S id a).1,iV (G6 S id a).2]):=⟨λl hl=>oD h id a ha.out l hl⟩
def P5(S:KT)(t u:Th.ThT):Bool×KT:=
 if t.gv=4096\/u.inn=4096 then(false,S)
 else if(G6 S t.id t.gv).2=0/\(G6 S u.id u.inn).2=0 then(decide ((Gi S.H (G6 S t.id t.gv).1 (G6 S u.id u.inn).1 (Ej (DH S.H.1 (G6 S t.id t.gv).1) 7)).1=0),{S with H:=(Gi S.H (G6 S t.id t.gv).1 (G6 S u.id u.inn).1 (Ej (DH S.H.1 (G6 S t.id t.gv).1) 7)).2})
 else(false,S)
set_option maxHeartbeats 1000000 in
theorem kZ(hK:IsK F C (k+1) S p s)(t u:Th.ThT)(ht:AD t.gv)(hu:AD u.inn):Fn prog 319 [pV b,Th.thV t,Th.thV u] (Av b p s S G) (KK F C b p k (.bool (P5 S t u).1) (P5 S t u).2 G):=by
 have mr:Co b p∈Av b p s S G:=mR λ_ h=>h;obtain⟨R,hR⟩: ∃R,P5 S t u=R:=⟨_,rfl⟩
 rw[hR];unfold P5 at hR;refine AO func319 ntmps319 λE=>?_;refine AQ λb4=>?_;refine AQ λb5=>?_;by_cases h0:t.gv=4096\/u.inn=4096
 ·rw[Ae h0] at hR;subst hR;by_cases h1:t.gv=4096<;>by_cases h2:u.inn=4096;all_goals first
   |(exfalso;omega)
   |(refine Aj ?_
     exact A4)
 rw[Ac h0] at hR;obtain⟨h1,h2⟩:¬t.gv=4096/\¬u.inn=4096:=by omega
 refine Aj ?_;refine Ea ?_;obtain⟨q,hq⟩: ∃q,G6 S t.id t.gv=q:=⟨_,rfl⟩
 rw[hq] at hR⊢;refine AQ λb7=>?_;refine Ea ?_;obtain⟨w,hw⟩: ∃q,G6 S u.id u.inn=q:=⟨_,rfl⟩
 rw[hw] at hR⊢;refine AQ λb9=>?_;by_cases h3:q.2=0/\w.2=0
 case neg=>
  rw[Ac h3] at hR;subst hR;by_cases h4:q.2=0<;>by_cases h5:w.2=0;all_goals first
   |(exfalso;exact h3 ⟨h4,h5⟩)
   |(refine Hw ?_
     refine BI ?_;refine Aj ?_;exact A4)
 rw[Ae h3] at hR;subst hR;obtain⟨h4,h5⟩:=h3;refine Ce [11] 15 ([TS b9 w.1,TS b7 q.1,Co b p]) ?_ (hR:=(T3 BO BO BO));refine BI ?_;refine Tf ?_;refine BI ?_;refine ua ?_ ?_
 ·intro S2 s2 L2;have mr2:Co b p∈Av b p s2 S2 L2:=mR λ_ h=>h;exact T3 BO BO BO
 intro S2 s2 L2 hS2 hK2 hT2 mr2;refine BI ?_;refine Aj ?_;exact A4
end
end Go.Proofs.YtlkgekpmileobaaGreat
