/- Laws that the statement's proof leans on (joined out of several texts). -/
import Derived.Test.YtlifcingifodfaaGreatGc39
import Derived.Lib.AppendZeros
set_option maxHeartbeats 4000000
set_option linter.unusedVariables false
set_option linter.unusedSimpArgs false
namespace Go.Proofs.YtlifcingifodfaaGreat
open Tryz
open Go.RowKit
variable{P:Program}{N:Nat}{ro:Option Nat}{ty:TypeId}{pos:String}{g:Option (Nat×Bool)}{x:Operand}
section
variable{E:World}{Q:Exit->Act->World->Prop}{fr:Fr}{ds:List Deferred}{L:Ad}{α:Type}{g:Operand}{ps:List Tmp}{assign body:Code}{gf:Nat}{lb:Ap}{enc:α->Ap}
abbrev Ur(r:Nat)(fn:FuncId)(tmps:Array Value)(ps:List Tmp)(assign body:Code)(D:Nat)(st:LoopState)(c:Option Code):Bg:=(r,.loop (DN fn tmps ps.toArray assign body D st c))
theorem Y7(hg:ev fr g=some (.func (.func gf) #[] lb.toArray))[en:EN P gf](A:Ad->Prop)(B:Code->Ad->Prop)
 (Ac3: ∀(r:Nat) (fn:FuncId) (tmps:Array Value) (D:Nat),(∀a:Act,a.tmps=tmps->FSat N fr a)->
   Fn P gf (.func (.yield r) #[] #[]::lb) (Ur r fn tmps ps assign body D .ready none::Cm D::L) λv l'=>(∃l1,A l1/\l'=Ur r fn tmps ps assign body D .ready none::Cm D::l1)\/(∃c l1,B c l1/\l'=Ur r fn tmps ps assign body D .done (some c)::Cm D::l1))
 (NL: ∀(D:Nat) (l:Ad),A l->CU N E Q .normal fr (Hq D::ds) (Cm D::l))
 (Kn: ∀(D:Nat) (c:Code) (l:Ad),B c l->BN P none N E c Q fr (Hq D::ds) (Cm D::l)):
 BN P none N E (.rangeFunc g ps.toArray assign body) Q fr ds L:=by
 refine⟨λa W hf hds hs=>wpIn_rangeFunc ?_⟩;intro fn uM;obtain⟨FS,hrec⟩: ∃FS,FS=DN fn a.tmps ps.toArray assign body W.heap.size:=⟨_,rfl⟩
 obtain⟨W1,ZD⟩: ∃W1,(W.alloc (.deferred (some []))).alloc (.loop (FS .ready none))=W1:=⟨_,rfl⟩
 have R8:Sat E ((W.heap.size+1,.loop (FS .ready none))::(W.heap.size,.deferred (some []))::L) W1:=by have:=(hs.alloc (.deferred (some []))).alloc (.loop (FS .ready none));rw[World.size_alloc,ZD] at this;exact this
 have hev:=hf.agrees g _ hg;refine⟨W.heap.size+1,[Hq W.heap.size],W1,{target:= .fn (.func gf) lb.toArray,args:=#[.func (.yield (W.heap.size+1)) #[] #[]]},W1,gf,#[.func (.yield (W.heap.size+1)) #[] #[]]++lb.toArray,W1,?_,?_,λ_ _=>trivial,?_,λh=>(by cases h),?_⟩
 ·rw[<-ZD,hrec];exact run_enterLoop_outer _ _ _ _ _
 ·simp only[resolve,hev];simp[Deferred.ofValue,Act.eval]
 ·simp[invoke,en.out]
 ·have hc:=(Ac3 (W.heap.size+1) fn a.tmps W.heap.size λa' ha'=>⟨by rw[ha'];exact hf.size,λd v hd=>by rw[ha'];exact hf.at_ d v hd⟩).run E W1 (by rw[hrec] at R8;exact R8);have jA:(Value.func (.yield (W.heap.size+1)) #[] #[]::lb).toArray=#[.func (.yield (W.heap.size+1)) #[] #[]]++lb.toArray:=by simp
  rw[jA] at hc;refine ML (hc.mono ?_);rintro e W2 ⟨v,l',rfl,⟨l1,hA,rfl⟩|⟨c,l1,hB,rfl⟩,Ro⟩
  ·have hm:W2.heap[W.heap.size+1]?=some (.loop (DN fn a.tmps ps.toArray assign body W.heap.size .ready none)):=Ro.has (W.heap.size+1,_) (.head _);refine⟨none,_,run_endLoop (P:=P) hm (by simp[DN]),?_⟩;refine(NL W.heap.size l1 hA).run {a with defers:=[Hq W.heap.size]++a.defers} _ ⟨hf.size,hf.at_⟩ (by rw[<-hds];rfl) ?_;exact(Ro.upd .here).tail
  ·have hm:W2.heap[W.heap.size+1]?=some (.loop (DN fn a.tmps ps.toArray assign body W.heap.size .done (some c))):=Ro.has (W.heap.size+1,_) (.head _);refine⟨some c,_,run_endLoop (P:=P) hm (by simp[DN]),?_⟩;refine(Kn W.heap.size c l1 hB).run {a with defers:=[Hq W.heap.size]++a.defers} _ ⟨hf.size,hf.at_⟩ (by rw[<-hds];rfl) ?_;exact(Ro.upd .here).tail
structure Y8(P:Program)(gf:Nat)(lb:Ap)(enc:α->Ap)(C:Ad)(Out:List α->Ad->Prop):Prop where
 run: ∀(r:Nat) (I:List α->Ad->Prop),(∀pre x l X,pre.length<=3->I pre l->NT P r (enc x) (l++X) (λv l'=> ∃l1,v= .bool true/\I (pre++[x]) l1/\l'=l1++X))->
  ∀l,I [] l->Fn P gf (.func (.yield r) #[] #[]::lb) (l++C) (λv l'=> ∃xs l1 C',I xs l1/\Out xs C'/\l'=l1++C')
theorem nr(hg:ev fr g=some (.func (.func gf) #[] lb.toArray))[en:EN P gf]{C:Ad}{Out:List α->Ad->Prop}(hit:Y8 P gf lb enc C Out)(Nt: ∀x,(enc x).length=ps.length)(je:ps.all (λp=>Nat.blt p N)=true)
 (I:List α->Ad->Prop)(l0:Ad)(hL:Keep L (l0++C))(h0:I [] l0)
 (MI: ∀(E:World) (r:Nat) (FS:LoopState->Option Code->Loop) (pre:List α) (x:α) (l T:Ad),(∃fn tmps D,FS=DN fn tmps ps.toArray assign body D)->pre.length<=3->I pre l->
   BN P (some r) N E assign (Exit.then (Px P r body (roundPost P r (RK E (Kg I (λ_ _ _=>False) (pre++[x]) r FS T)))) (λ_ _ _=>False)) (DU ps (enc x) fr) [] (l++(r,.loop (FS .ready none))::T))
 (NL: ∀(D:Nat) (xs:List α) (l C':Ad),I xs l->Out xs C'->CU N E Q .normal fr (Hq D::ds) (Cm D::(l++C'))):
 BN P none N E (.rangeFunc g ps.toArray assign body) Q fr ds L:=by
 refine Em hL (Y7 hg (λl1=> ∃xs l C',I xs l/\Out xs C'/\l1=l++C') (λ_ _=>False) ?_ ?_ λD c l h=>h.elim)
 ·intro r fn tmps D hf;have hy:=hit.run r (λpre l=> ∃l1,I pre l1/\l=l1++[Ur r fn tmps ps assign body D .ready none,Cm D]) (λpre x l X h3 ⟨l1,h1,h2⟩=>by
   subst h2;have hy:=S8 (P:=P) (N:=N) (fr:=fr) (assign:=assign) (body:=body) (ps:=ps) (enc:=enc) (r:=r) (fn:=fn) (tmps:=tmps) (D:=D) (T:=Cm D::X) (I:=I) (Ix:=λ_ _ _=>False) (pre:=pre) (x:=x) (l:=l1) (Nt x) je hf (λE'=>MI E' r _ pre x l1 (Cm D::X) ⟨fn,tmps,D,rfl⟩ h3 h1);refine⟨λE' W' hs'=>?_⟩;have e:l1++[Ur r fn tmps ps assign body D .ready none,Cm D]++X=l1++Ur r fn tmps ps assign body D .ready none::Cm D::X:=by simp
   rw[e] at hs';obtain⟨y9,tm,asg,bo,k1,k2⟩:=hy.run E' W' hs';refine⟨y9,tm,asg,bo,k1,k2.mono ?_⟩;rintro e' W'' ⟨v,l',rfl,hk,hs''⟩;refine⟨v,l',rfl,?_,hs''⟩;rcases hk with⟨hv,l2,hI,rfl⟩|⟨hv,c,l2,hI,rfl⟩
   ·exact⟨l2++[Ur r fn tmps ps assign body D .ready none,Cm D],hv,⟨l2,hI,rfl⟩,by simp⟩
   ·exact hI.elim) (l0++[Ur r fn tmps ps assign body D .ready none,Cm D]) ⟨l0,h0,rfl⟩
  refine Fn.re (.of_perm ?_) hy λv l' ⟨xs,l1,C',⟨l2,h1,h2⟩,h3,h4⟩=>⟨Ur r fn tmps ps assign body D .ready none::Cm D::(l2++C'),.of_perm ?_,.inl ⟨_,⟨xs,l2,C',h1,h3,rfl⟩,rfl⟩⟩
  ·exact(I0 C (EY (l₁:=[Ur r fn tmps ps assign body D .ready none,Cm D]) (l₂:=l0)))
  ·subst h4 h2;exact(I0 C' (EY (l₁:=l2) (l₂:=[Ur r fn tmps ps assign body D .ready none,Cm D])))
 ·rintro D l ⟨xs,l1,C',h1,h2,rfl⟩;exact NL D xs l1 C' h1 h2
structure uq(P:Program)(gf:Nat)(lb:Ap)(enc:α->Ap)(Nx:List α->Option α->Ad->Prop):Prop where
 run: ∀(r:Nat) (I:Nat->List α->Option α->Ad->Prop) (Ix:List α->Ad->Prop),(∀m pre o l X,I m pre o l->Nx pre o (l++X))->
  (∀m pre x l X,I m pre (some x) l->NT P r (enc x) (l++X) (λv l'=> ∃l1,l'=l1++X/\((v= .bool true/\ ∃m' o,m'<m/\I m' (pre++[x]) o l1)\/(v= .bool false/\Ix (pre++[x]) l1))))->
  ∀m o l X,I m [] o l->Fn P gf (.func (.yield r) #[] #[]::lb) (l++X) (λv l'=> ∃l1,l'=l1++X/\((∃m xs,I m xs none l1)\/ ∃pre,Ix pre l1))
theorem nt(hg:ev fr g=some (.func (.func gf) #[] lb.toArray))[en:EN P gf]{Nx:List α->Option α->Ad->Prop}(hit:uq P gf lb enc Nx)(Nt: ∀x,(enc x).length=ps.length)(je:ps.all (λp=>Nat.blt p N)=true)
 (I:Nat->List α->Option α->Ad->Prop)(Ix:Code->List α->Ad->Prop)(l0:Ad){m0:Nat}{o0:Option α}(Wg: ∀m pre o l X,I m pre o l->Nx pre o (l++X))(hL:Keep L l0)(h0:I m0 [] o0 l0)
 (MI: ∀(E:World) (r:Nat) (FS:LoopState->Option Code->Loop) (m:Nat) (pre:List α) (x:α) (l T:Ad),(∃fn tmps D,FS=DN fn tmps ps.toArray assign body D)->I m pre (some x) l->
   BN P (some r) N E assign (Exit.then (Px P r body (roundPost P r (RK E (Kg (λxs l=> ∃m' o,m'<m/\I m' xs o l) Ix (pre++[x]) r FS T)))) (λ_ _ _=>False)) (DU ps (enc x) fr) [] (l++(r,.loop (FS .ready none))::T))
 (NL: ∀(D:Nat) (m:Nat) (xs:List α) (l:Ad),I m xs none l->CU N E Q .normal fr (Hq D::ds) (Cm D::l))
 (Kn: ∀(D:Nat) (c:Code) (pre:List α) (l:Ad),Ix c pre l->BN P none N E c Q fr (Hq D::ds) (Cm D::l)):
 BN P none N E (.rangeFunc g ps.toArray assign body) Q fr ds L:=by
 refine Em hL (Y7 hg (λl1=> ∃m xs,I m xs none l1) (λc l1=> ∃pre,Ix c pre l1) ?_ ?_ ?_)
 ·intro r fn tmps D hf;have hy:=hit.run r (λm pre o l=> ∃l1,I m pre o l1/\l=l1++[Ur r fn tmps ps assign body D .ready none,Cm D]) (λpre l=> ∃c l1,Ix c pre l1/\l=l1++[Ur r fn tmps ps assign body D .done (some c),Cm D]) (λm pre o l X ⟨l1,h1,h2⟩=>by rw[h2,Am];exact Wg _ _ _ _ _ h1) (λm pre x l X ⟨l1,h1,h2⟩=>by
   subst h2;have hy:=S8 (P:=P) (N:=N) (fr:=fr) (assign:=assign) (body:=body) (ps:=ps) (enc:=enc) (r:=r) (fn:=fn) (tmps:=tmps) (D:=D) (T:=Cm D::X) (I:=λxs l=> ∃m' o,m'<m/\I m' xs o l) (Ix:=Ix) (pre:=pre) (x:=x) (l:=l1) (Nt x) je hf (λE'=>MI E' r _ m pre x l1 (Cm D::X) ⟨fn,tmps,D,rfl⟩ h1);refine⟨λE' W' hs'=>?_⟩;have e:l1++[Ur r fn tmps ps assign body D .ready none,Cm D]++X=l1++Ur r fn tmps ps assign body D .ready none::Cm D::X:=by simp
   rw[e] at hs';obtain⟨y9,tm,asg,bo,k1,k2⟩:=hy.run E' W' hs';refine⟨y9,tm,asg,bo,k1,k2.mono ?_⟩;rintro e' W'' ⟨v,l',rfl,hk,hs''⟩;refine⟨v,l',rfl,?_,hs''⟩;rcases hk with⟨hv,l2,⟨m',o,hm,hI⟩,rfl⟩|⟨hv,c,l2,hI,rfl⟩
   ·exact⟨l2++[Ur r fn tmps ps assign body D .ready none,Cm D],by simp,.inl ⟨hv,m',o,hm,l2,hI,rfl⟩⟩
   ·exact⟨l2++[Ur r fn tmps ps assign body D .done (some c),Cm D],by simp,.inr ⟨hv,c,l2,hI,rfl⟩⟩) m0 o0 (l0++[Ur r fn tmps ps assign body D .ready none,Cm D]) [] ⟨l0,h0,rfl⟩
  refine Fn.re (.of_perm ?_) hy ?_
  ·rw[Bi];exact EY (l₁:=[Ur r fn tmps ps assign body D .ready none,Cm D]) (l₂:=l0)
  rintro v l' ⟨l1,rfl,⟨m,xs,l2,h1,rfl⟩|⟨pre,c,l2,h1,rfl⟩⟩
  ·refine⟨Ur r fn tmps ps assign body D .ready none::Cm D::l2,.of_perm ?_,.inl ⟨l2,⟨m,xs,h1⟩,rfl⟩⟩;rw[Bi];exact EY (l₁:=l2) (l₂:=[Ur r fn tmps ps assign body D .ready none,Cm D])
  ·refine⟨Ur r fn tmps ps assign body D .done (some c)::Cm D::l2,.of_perm ?_,.inr ⟨c,l2,⟨pre,h1⟩,rfl⟩⟩;rw[Bi];exact EY (l₁:=l2) (l₂:=[Ur r fn tmps ps assign body D .done (some c),Cm D])
 ·rintro D l ⟨m,xs,h1⟩;exact NL D m xs l h1
 ·rintro D c l ⟨pre,h1⟩;exact Kn D c pre l h1
end
section
variable{fr:Fr}{l:Ad}{K:Value->Ad->Prop}{d:Option Nat}{aft:Array Edge}
theorem r6{f:Nat}{xs:List Operand}{vs cs:Ap}{at_:Array TypeId}(hx:ev fr x=some (.func (.func f) #[] (List.toArray cs)))(hy:RS fr xs=some vs)[c:EN P f](h:Fn P f (vs++cs) l K):OpE P ro N fr l ⟨d,.call {callee:= .value x,args:=xs.toArray,argTypes:=at_},ty,pos,aft,g⟩ K:=Dn hx hy (by simpa using h)
end
def LN(i j:Int):Int:=IntKind.i64.wrap (((BitVec.ofInt 64 i)&&& (BitVec.ofInt 64 j)).toNat:Int)
theorem Kz{fr:Fr}{R:Ad}{d:Option Nat}{t2 t:TypeId}{aft:Array Edge}{y:Operand}{i j:Int}(hx:ev fr x=some (.int .i64 i))(hy:ev fr y=some (.int .i64 j)):OpQ P ro N fr R ⟨d,.binOp .and t x y t2,ty,pos,aft,g⟩ (.int .i64 (LN i j)):=
 IK hx hy (λ_ _=>Db _ _ _ _ _) (by simp only[binOp,Op.intBits];rfl)
end Go.Proofs.YtlifcingifodfaaGreat
namespace Go.Proofs.YtlifcingifodfaaGreat
open Tryz
open Go.RowKit Go.Lib
section
variable{P:Program}{ro:Option Nat}{N:Nat}{fr:Fr}{l:Ad}{d:Option Nat}{ty:TypeId}{pos:String}{aft:Array Edge}{g:Option (Nat×Bool)}
theorem iB{R:Ad}{s x:Operand}{p q:Option Addr}{T e kk yb n cap cp:Nat}(hs:ev fr s=some (.slice p n cap))(hx:ev fr x=some (.slice q 0 cp))[c:ST P T e kk yb](hn:n<=cap):
 OpQ P ro N fr R ⟨d,.call {callee:= .builtin .append,args:=#[s,x],argTypes:=#[T,T]},ty,pos,aft,g⟩ (.slice p n cap):=BM rfl λρ l hρ _=>by
 obtain⟨Hp,u1,u2,_⟩:=E7 c.out;simp only[execOp,resolve,AC,Bn,invoke,builtin,Dj,AJ,CQ,hρ s _ hs,hρ x _ hx];unfold Builtin.append_;simp only[AF,Da,C9,AC];rw[E0 u1];simp only;rw[Fe u2];simp only[AC];rw[E0 u1];simp only[Bn,Bl,C3,Builtin.lenOf,Hj,C6,CP,Ac hn,AC,Builtin.firstCells];cases q with
 |none=>
  cases p with
  |none=>exact⟨rfl,rfl⟩
  |some a=>exact⟨rfl,rfl⟩
 |some a'=>
  simp only[GG,loadCells,loadCellsFrom,Bn];cases p with
  |none=>exact⟨rfl,rfl⟩
  |some a=>exact⟨rfl,rfl⟩
end
end Go.Proofs.YtlifcingifodfaaGreat
namespace Go.Proofs.YtlifcingifodfaaGreat
open Tryz
open Go.RowKit
variable{l A cs G:Ad}{P:Program}{ro:Option Nat}{N k F C b e n:Nat}{a:Bg}{E:World}{Q:Exit->Act->World->Prop}{ds:List Deferred}{ty:TypeId}{pos:String}{x:Operand}{S:KT}{p:RP}{s:RL}{Γ:Ad->Ad}{g:Option (Nat×Bool)}{v:Value}{xs lb:Ap}{c:Code}{ops:Array Oper}{Fm:Th.ThT->Th.ThT}
theorem Rk{fr:Fr}{F:Ad}{d:Option Nat}{aft:Array Edge}{s:Operand}{vx:Value}{T yb m:Nat}{ys zs:Ap}{cw:Ad}(hs:ev fr s=some v)(hx:ev fr x=some vx)[c:ST P T e k yb][cz:ZV P e zs](RN:zs.length=k)(ho:OwnSl e k v n xs cs)(FK:OwnSl e k vx m ys cw)(h1: ∀u∈ys,u.oneCell'=true)(hn:n<=1000000)(hm:m<=1000000)(cI:yb<=1000):
 OpE P ro N fr (cs++(cw++F)) ⟨d,.call {callee:= .builtin .append,args:=#[s,x],argTypes:=#[T,T]},ty,pos,aft,g⟩ (λv' l'=> ∃c2,OwnSl e k v' (n+m) (xs++ys) c2/\l'=c2++(cw++F)):=by
 have hb:(n+m)*yb<=140737488355328:=by have:=I4 (show n+m<=2000000 by omega) cI;omega
 by_cases h0:m=0
 ·subst h0;obtain⟨pp,cap,hv⟩:=ho.shape;obtain⟨p2,cap2,hv2⟩:=FK.shape;subst hv hv2;have Lr:n<=cap:=by
   rcases ho.2 with⟨e1,e2,_⟩|⟨b,c2,sp,e1,_,e2,_⟩
   ·omega
   ·cases e1;exact e2
  have hy:ys=[]:=Eg (by rw[FK.1,GG]);subst hy;have hq:=iB (P:=P) (ro:=ro) (N:=N) (R:=[]) (d:=d) (ty:=ty) (pos:=pos) (aft:=aft) (g:=g) (T:=T) hs hx Lr;refine(hq.run (cs++(cw++F)) λc hc=>by cases hc).mono ?_;rintro _ _ ⟨rfl,rfl⟩;exact⟨cs,by rw[Bi];exact ho,rfl⟩
 ·obtain⟨hl,⟨_,h2,_⟩|⟨b,cap,sp,rfl,rfl,h3,h4,h5⟩⟩:=FK
  ·exact absurd h2 h0
  exact Gy (k:=k) (yb:=yb) (news:=ys) (zs:=zs) (m:=m) hs hx RN ho (Aa _ (.head _)) (λj u hj=>by rw[BE,AF];rw[AB (Ay.1 hj).1];exact hj) hl h1 (by unfold maxLen;omega) hb
theorem U2(ha:a∈l): ∀x,x∈[a]->x∈l:=by intro x hx;rw[AE.1 hx];exact ha
theorem in2{b:Bg}(ha:a∈l)(hb:b∈l): ∀x,x∈[a,b]->x∈l:=by
 intro x hx;simp only[At,BL,Ez] at hx;rcases hx with rfl|rfl
 ·exact ha
 ·exact hb
def xb:Code->Nat
 | .skip=>0
 | .region ..=>1
 | .seq ..=>3
 | .cond ..=>4
 | .block ..=>5
 | .loop ..=>6
 | .rangeFunc ..=>7
 | .exit ..=>8
 | .scope ..=>9
 | .label ..=>10
 |_=>11
def sqA:Code->Code
 | .seq a _=>a
 |c=>c
def sqB:Code->Code
 | .seq _ b=>b
 |c=>c
def cnT:Code->Code
 | .cond _ a _=>a
 |c=>c
def cnE:Code->Code
 | .cond _ _ b=>b
 |c=>c
def yP:Code->Operand
 | .cond o _ _=>o
 |_=> .tmp 0
def yQ:Code->Nat
 | .cond (.tmp t) _ _=>t
 |_=>0
def bkC:Code->Code
 | .block _ x=>x
 | .loop x=>x
 | .scope x=>x
 |c=>c
def bkI:Code->Nat
 | .block k _=>k
 |_=>0
def rfG:Code->Operand
 | .rangeFunc g _ _ _=>g
 |_=> .tmp 0
def rfP:Code->List Tmp
 | .rangeFunc _ ps _ _=>ps.toList
 |_=>[]
def rfA:Code->Code
 | .rangeFunc _ _ a _=>a
 |c=>c
def rfB:Code->Code
 | .rangeFunc _ _ _ b=>b
 |c=>c
section
variable{fr:Fr}
theorem xc(hc:xb c=3)(h:BN P ro N E (sqA c) (Exit.then ((sqB c).wpIn (Fw ro) 0 P Q) Q) fr ds l):BN P ro N E c Q fr ds l:=by cases c<;>first|exact cP h|cases hc
theorem nu(hc:xb c=5)(h:BN P ro N E (bkC c) (Exit.inBlock (bkI c) Q) fr ds l):BN P ro N E c Q fr ds l:=by cases c<;>first|exact PX h|cases hc
theorem nv(hc:xb c=7)(h:BN P ro N E (.rangeFunc (rfG c) (rfP c).toArray (rfA c) (rfB c)) Q fr ds l):BN P ro N E c Q fr ds l:=by cases c<;>first|exact h|cases hc
theorem nw(hc:xb c=4)(hv:ev fr (yP c)=some (.bool true))(h:BN P ro N E (cnT c) Q fr ds l):BN P ro N E c Q fr ds l:=by cases c<;>first|exact Ml hv h|cases hc
theorem ny(hc:xb c=4)(hv:ev fr (yP c)=some (.bool false))(h:BN P ro N E (cnE c) Q fr ds l):BN P ro N E c Q fr ds l:=by cases c<;>first|exact Mm hv h|cases hc
theorem xd{p:Prop}{ip:Decidable p}(hc:xb c=4)(ho:yP c= .tmp (yQ c))(hv:BX fr (yQ c)=some (.bool (@decide p ip)))(hp:p)(h:BN P ro N E (cnT c) Q ((yQ c,.bool true)::fr) ds l):BN P ro N E c Q fr ds l:=by
 cases c with
 |cond o a b=>simp only[yP] at ho;rw[ho];exact S6 hv hp h
 |_=>cases hc
theorem xe{p:Prop}{ip:Decidable p}(hc:xb c=4)(ho:yP c= .tmp (yQ c))(hv:BX fr (yQ c)=some (.bool (@decide p ip)))(hp:¬p)(h:BN P ro N E (cnE c) Q ((yQ c,.bool false)::fr) ds l):BN P ro N E c Q fr ds l:=by
 cases c with
 |cond o a b=>simp only[yP] at ho;rw[ho];exact S7 hv hp h
 |_=>cases hc
theorem Y9{f:FuncId}{fn:Func}{args:Ap}{K:Value->Ad->Prop}(hf:P.funcs[f]?=some fn)(hb:fn.body.isSome=true)(hn:Nat.ble args.length fn.ntmps=true)
 (h: ∀E,BN P none fn.ntmps E (fn.body.getD .skip) (bodyPostM Fence.wide 0 P fn (RK E K)) (Wl 0 args) [] l):Fn P f args l K:=by
 cases Wf:fn.body with
 |none=>rw[Wf] at hb;cases hb
 |some c=>exact SW hf Wf hn (by rw[Wf] at h;exact h)
end
theorem Lm{H G:Prop}(k:H)(h:Bx H->G:=by(intro k;(repeat(first|(show Dz _ _ _ _ _ _ (_::_) _ _ _;first|refine ozq ?_|refine ozs ?_|refine ozs0 ?_|refine ozt ?_|refine ozf ?_|refine vW rfl rfl rfl rfl rfl rfl ?_|refine ozn ?_)|refine xc rfl ?_|refine NU ?_|refine PY ?_|refine Vc ?_|refine nw rfl rfl ?_|refine ny rfl rfl ?_|refine nu rfl ?_|refine Wm ?_|refine SS ?_|refine P0 ?_|refine Lt ?_|refine Ja ?_|refine MN rfl ?_|refine cQ ?_|refine MM ?_|refine Lu ?_|refine c_scopeP rfl ?_|refine Sb ?_|refine Sc ?_|refine Lv ?_|refine p_scope_exit ?_|refine cT ?_|refine xd rfl rfl rfl Af ?_|refine xe rfl rfl rfl Af ?_));exact k.h)):G:=h ⟨k⟩
set_option maxRecDepth 20000
section
variable{Q':Exit->Act->World->Prop}{fr:Fr}{e:Exit}
theorem xf(h: ∀Q',(∀e a W,Q e a W->Q' e a W)->BN P ro N E c Q' fr ds l):BN P ro N E c Q fr ds l:=h Q λ_ _ _ h=>h
theorem Aa5(hQ: ∀e a W,Q e a W->Q' e a W)(h:CU N E Q e fr ds l):CU N E Q' e fr ds l:=⟨λa W h1 h2 h3=>hQ _ _ _ (h.run a W h1 h2 h3)⟩
end
theorem SE(h:OwnSl e k v n xs cs):v.oneCell'=true:=by obtain⟨_,_,h⟩:=h.shape;rw[h];rfl
theorem V4{b c:Bg}(ha:a∈l)(hb:b∈l)(hc:c∈l): ∀x,x∈[a,b,c]->x∈l:=by
 intro x hx;simp only[At,BL,Ez] at hx;rcases hx with rfl|rfl|rfl
 ·exact ha
 ·exact hb
 ·exact hc
section
theorem Hc{L:Ad}(hT:Tail L (cs++G)): ∃L',Tail L' G/\(Aw b p s S L).Perm (cs++Aw b p s S L'):=by obtain⟨X,rfl⟩:=hT;exact⟨X++G,⟨X,rfl⟩,by unfold Aw;exact B0⟩
instance:QF prog 143 [pV b] [CD b p] (pV p.h):=⟨λl hl=>DZ b p l (hl _ (.head _))⟩
instance:EK prog F C b p 72 [pV b] k S k (.tuple #[]) (Nn S):=⟨λs G h=>ng h⟩
instance:QF prog 262 [pV b] [CD b p] (pV p.e):=⟨λl hl=>VU b p l (hl _ (.head _))⟩
variable{fr:Fr}{R:Ad}{x0:Value}{d f k' i:Nat}{xs:List Operand}{vs:Ap}{at_:Array TypeId}{aft:Array Edge}{S':KT}{tbl:List (List Nat)}{pl:List BH}
theorem yR(hR: ∀S1 s' L,∀c,c∈R->c∈Γ (Aw b p s' S1 L))(hk: ∀S1 s' L,S1=S'->IsK F C k' S1 p s'->Tail L G->CD b p∈Aw b p s' S1 L->PlanS P ro N E ops Q R tbl none [] pl ((d,x0)::fr) ds (Γ (Aw b p s' S1 L)))(hx:ev fr x=some (.func (.func f) #[] #[]):=by rfl)(hy:RS fr xs=some vs:=by rfl)(hF:Fr1 (Aw b p s S G) l Γ:=by exact dI)(c:EN P f:=by infer_instance)(hK:IsK F C k S p s:=by infer_instance)(q:EK P F C b p f vs k S k' x0 S':=by infer_instance)(hb:Nat.blt d N=true:=by rfl):PlanS P ro N E ops Q R tbl none [] ((i,false,⟨some d,.call {callee:= .value x,args:=xs.toArray,argTypes:=at_},ty,pos,aft,none⟩)::pl) fr ds l:=
 CS (AA hx hy (q.on hK hF)) rfl rfl hb (λv l' ⟨h1,s',L,h2,h3,h4⟩ c hc=>by rw[h4];exact hR S' s' L c hc) λv l' ⟨h1,s',L,h2,h3,h4⟩=>by rw[h1,h4];exact hk S' s' L rfl h2 h3 (mR λ_ h=>h)
theorem AdZ{j dj:Nat}{oj:Oper}{w:Bool}(hR: ∀S1 s' L,∀c,c∈R->c∈Γ (Aw b p s' S1 L))(hk: ∀S1 s' L,S1=S'->IsK F C k' S1 p s'->Tail L G->CD b p∈Aw b p s' S1 L->PlanS P ro N E ops Q R tbl none [] pl ((d,x0)::fr) ds (Γ (Aw b p s' S1 L)))(hx:ev fr x=some (.func (.func f) #[] #[]):=by rfl)(hy:RS fr xs=some vs:=by rfl)(hF:Fr1 (Aw b p s S G) l Γ:=by exact dI)(c:EN P f:=by infer_instance)(hK:IsK F C k S p s:=by infer_instance)(q:EK P F C b p f vs k S k' x0 S':=by infer_instance)(hb:Nat.blt d N=true:=by rfl)(hj:ops[j]?=some oj:=by rfl)(KO:oj.dst=some dj:=by rfl)(hbg:BX fr dj=some (.bool w):=by rfl):PlanS P ro N E ops Q R tbl none [] ((i,false,⟨some d,.call {callee:= .value x,args:=xs.toArray,argTypes:=at_},ty,pos,aft,some (j,w)⟩)::pl) fr ds l:=
 Aag (AA hx hy (q.on hK hF)) rfl hj KO hbg rfl hb (λv l' ⟨h1,s',L,h2,h3,h4⟩ c hc=>by rw[h4];exact hR S' s' L c hc) λv l' ⟨h1,s',L,h2,h3,h4⟩=>by rw[h1,h4];exact hk S' s' L rfl h2 h3 (mR λ_ h=>h)
end
theorem Aa6: ∀c,c∈([]:Ad)->c∈l:=λ_ h=>nomatch h
theorem xg(h1:a∈l)(h2: ∀c,c∈A->c∈l): ∀c,c∈a::A->c∈l:=λc hc=>by
 rcases At.1 hc with rfl|hc
 ·exact h1
 ·exact h2 c hc
theorem zIn(h: ∀c,c∈A->c∈l:=by(repeat(first|exact Aa6|(apply xg;·exact BW)))): ∀c,c∈A->c∈l:=h
structure nz(P:Program)(g:Nat)(lb:Ap)(A:Ad)(Fm:Th.ThT->Th.ThT):Prop where
 run: ∀(x:Nat) (t:Th.ThT) (l:Ad),(∀c,c∈A->c∈l)->Fn P g (pV x::lb) (Th.thC x t::l) λv l'=>v= .tuple #[]/\l'=Th.thC x (Fm t)::l
section
theorem Aa7(hK:IsK F C k S p s)(id:Int){g:Nat}[en:EN prog g](q:nz prog g lb A Fm)(hw:TW (Fm (DW S id)))(hA: ∀c,c∈A->c∈G):Fn prog 265 [pV b,.int .i64 id,.func (.func g) #[] (List.toArray lb)] (Aw b p s S G) (KK F C b p k (Th.thV (Fm (DW S id))) (DV S (Fm (DW S id))) G):=by
 have mr:CD b p∈Aw b p s S G:=mR λ_ h=>h;refine AO func265 ntmps265 λE=>?_;refine AQ λb6=>?_;refine EI ?_;refine Aj ?_;refine EI ?_;obtain⟨t,ht⟩: ∃t,DW S id=t:=⟨_,rfl⟩
 rw[ht] at hw⊢;refine AQ λb7=>?_;obtain⟨u,hu⟩: ∃u,Fm t=u:=⟨_,rfl⟩
 refine AR (r6 (vs:=[pV b7]) (cs:=lb) rfl rfl (q.run b7 t _ λc hc=> .tail _ (mG (λ_ h=>h) c (hA c hc)))) ?_;rintro _ _ ⟨rfl,rfl⟩;rw[hu] at hw⊢;refine Aj ?_;refine Cx (Cr [3] 0 4) ?_;refine CC ?_;refine MG (q:=Ow u hw) ?_;intro S1 s1 L1 EA Ey DL GI;refine CC ?_;refine Aj ?_;exact A9 (h:=Cz rfl (.tail _ (.head _)) (As.LSub.of_all (n:=24) (Th.encH u) rfl) .nil)
variable{A0:List Oper}{fr:Fr}{d:Nat}{xs:List Operand}{at_:Array TypeId}{aft:Array Edge}
theorem U3{id:Int}{gf:Nat}[en:EN prog gf](q:nz prog gf lb A Fm)(hw:TW (Fm (DW S id)))(hk: ∀S1 s' L,S1=DV S (Fm (DW S id))->IsK F C k S1 p s'->Tail L G->CD b p∈Aw b p s' S1 L->Dz prog ro N E ops Q A0 ((d,Th.thV (Fm (DW S id)))::fr) ds (Γ (Aw b p s' S1 L)))
 (hx:ev fr x=some (.func (.func 265) #[] #[]):=by rfl)(hy:RS fr xs=some [pV b,.int .i64 id,.func (.func gf) #[] (List.toArray lb)]:=by rfl)(hF:Fr1 (Aw b p s S G) l Γ:=by exact dI)(hA: ∀c,c∈A->c∈Γ []:=by exact zIn)(hK:IsK F C k S p s:=by infer_instance)(hw':Rr ops fr g=some true:=by rfl)(hb:Nat.blt d N=true:=by rfl):
 Dz prog ro N E ops Q (⟨some d,.call {callee:= .value x,args:=xs.toArray,argTypes:=at_},ty,pos,aft,g⟩::A0) fr ds l:=by
 obtain⟨B,rfl,hB⟩:=hF.eq;have hA2: ∀c,c∈A->c∈B++G:=λc hc=>Ai _ (by have:=hA c hc;rw[hB,Bi] at this;exact this);refine Jr (AA hx hy (Fn.re (.of_perm (Fi b p s S B G)) (Aa7 (G:=B++G) hK id q hw hA2) (K':=λv l'=>v=Th.thV (Fm (DW S id))/\ ∃s' L,IsK F C k (DV S (Fm (DW S id))) p s'/\Tail L G/\l'=Γ (Aw b p s' (DV S (Fm (DW S id))) L)) λv l' ⟨h1,s',L,h2,⟨X,h3⟩,h4⟩=>⟨Γ (Aw b p s' (DV S (Fm (DW S id))) (X++G)),?_,h1,s',_,h2,⟨X,rfl⟩,rfl⟩)) hw' rfl hb λv l' ⟨h1,s',L,h2,h3,h4⟩=>by rw[h1,h4];exact hk _ s' L rfl h2 h3 (mR λ_ h=>h)
 rw[h4,h3,hB];exact .of_perm (T4 ..)
end
section
def HH(S:KT)(t Ch:Int):Th.ThT×Int:=if Ps S t=false\/¬(DW S t).st=1\/Ch<0\/4096<Ch then(Th.thZ,2) else(DW S t,0)
theorem r7(hK:IsK F C k S p s)(t Ch:Int)(l:Ad)(hl: ∀c,c∈Aw b p s S G->c∈l):Fn prog 261 [pV b,.int .i64 t,.int .i64 Ch] l λv l'=>v= .tuple #[Th.thV (HH S t Ch).1,iV (HH S t Ch).2]/\l'=l:=by
 have mr:CD b p∈l:=mR hl;have I: ∀{f:Nat} {vs:Ap} {v:Value} [QF prog f vs (Aw b p s S G) v],QF prog f vs l v:=Zz hl;unfold HH Ps;refine AO func261 ntmps261 λE=>?_;refine AQ λb6=>?_;refine EI ?_;refine Aj ?_;refine EI ?_;obtain⟨u,hu⟩: ∃u,DW S t=u:=⟨_,rfl⟩
 obtain⟨ok,Dm⟩: ∃q,(Th.findH S.T t).isSome=q:=⟨_,rfl⟩
 rw[hu,Dm];refine AQ λb8=>?_;by_cases h0:ok=false\/¬u.st=1\/Ch<0\/4096<Ch
 ·rw[Ac h0];cases ok<;>by_cases h1:u.st=1<;>by_cases h2:Ch<0<;>by_cases h3:4096<Ch;all_goals first
   |(exfalso;simp[h1,h2,h3] at h0;done)
   |(exfalso;omega)
   |(refine Aj ?_
     exact AV [] _ rfl .refl (Cz rfl (.tail _ (.head _)) (As.LSub.of_all (n:=24) (Th.encH Th.thZ) rfl) (by exact Ba)) (.drop (.drop .refl)) ⟨rfl,rfl⟩)
 rw[Ab h0];obtain⟨h1,h2,h3,h4⟩:ok=true/\u.st=1/\¬Ch<0/\¬4096<Ch:=by simp at h0;exact⟨h0.1,h0.2.1,Af,Af⟩
 subst h1;refine Aj ?_;exact AV [] _ rfl .refl (Cz rfl (.tail _ (.head _)) (As.LSub.of_all (n:=24) (Th.encH u) rfl) (by exact Ba)) (.drop (.drop .refl)) ⟨rfl,rfl⟩
instance[h:IsK F C k S p s]{t Ch:Int}:QF prog 261 [pV b,.int .i64 t,.int .i64 Ch] (Aw b p s S G) (.tuple #[Th.thV (HH S t Ch).1,iV (HH S t Ch).2]):=⟨λl hl=>r7 h t Ch l hl⟩
class AD(a:Int):Prop where
 out:a<18446744073709551616
instance[h:IsK F C k S p s]{id a:Int}[ha:AD a]:QF prog 159 [pV b,.int .i64 id,.int .i64 a] (Aw b p s S G) (.tuple #[F4 (HV S id a).1,iV (HV S id a).2]):=⟨λl hl=>wK h id a ha.out l hl⟩
def Qt(S:KT)(t u:Th.ThT):Bool×KT:=
 if t.gv=4096\/u.inn=4096 then(false,S)
 else if(HV S t.id t.gv).2=0/\(HV S u.id u.inn).2=0 then(decide ((Gp S.H (HV S t.id t.gv).1 (HV S u.id u.inn).1 (Eo (D5 S.H.1 (HV S t.id t.gv).1) 7)).1=0),{S with H:=(Gp S.H (HV S t.id t.gv).1 (HV S u.id u.inn).1 (Eo (D5 S.H.1 (HV S t.id t.gv).1) 7)).2})
 else(false,S)
theorem r8(hK:IsK F C (k+1) S p s)(t u:Th.ThT)(ht:AD t.gv)(hu:AD u.inn):Fn prog 318 [pV b,Th.thV t,Th.thV u] (Aw b p s S G) (KK F C b p k (.bool (Qt S t u).1) (Qt S t u).2 G):=by
 have mr:CD b p∈Aw b p s S G:=mR λ_ h=>h;obtain⟨R,hR⟩: ∃R,Qt S t u=R:=⟨_,rfl⟩
 rw[hR];unfold Qt at hR;refine AO func318 ntmps318 λE=>?_;refine AQ λb4=>?_;refine AQ λb5=>?_;by_cases h0:t.gv=4096\/u.inn=4096
 ·rw[Ac h0] at hR;subst hR;by_cases h1:t.gv=4096<;>by_cases h2:u.inn=4096;all_goals first
   |(exfalso;omega)
   |(refine Aj ?_
     exact A9)
 rw[Ab h0] at hR;obtain⟨h1,h2⟩:¬t.gv=4096/\¬u.inn=4096:=by omega
 refine Aj ?_;refine EI ?_;obtain⟨q,hq⟩: ∃q,HV S t.id t.gv=q:=⟨_,rfl⟩
 rw[hq] at hR⊢;refine AQ λb7=>?_;refine EI ?_;obtain⟨w,hw⟩: ∃q,HV S u.id u.inn=q:=⟨_,rfl⟩
 rw[hw] at hR⊢;refine AQ λb9=>?_;by_cases h3:q.2=0/\w.2=0
 case neg=>
  rw[Ab h3] at hR;subst hR;by_cases h4:q.2=0<;>by_cases h5:w.2=0;all_goals first
   |(exfalso;exact h3 ⟨h4,h5⟩)
   |(refine It ?_
     refine BS ?_;refine Aj ?_;exact A9)
 rw[Ac h3] at hR;subst hR;obtain⟨h4,h5⟩:=h3;refine Cn [11] 15 ([V0 b9 w.1,V0 b7 q.1,CD b p]) ?_ (hR:=(V4 BW BW BW));refine BS ?_;refine Vs ?_;refine BS ?_;refine AdZ ?_ ?_
 ·intro S2 s2 L2;have HP:CD b p∈Aw b p s2 S2 L2:=mR λ_ h=>h;exact V4 BW BW BW
 intro S2 s2 L2 hS2 FT FL HP;refine BS ?_;refine Aj ?_;exact A9
end
end Go.Proofs.YtlifcingifodfaaGreat
