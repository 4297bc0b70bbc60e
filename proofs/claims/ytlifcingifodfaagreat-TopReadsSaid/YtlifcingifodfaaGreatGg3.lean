/- Laws that the statement's proof leans on (joined out of several texts). -/
import Derived.Test.YtlifcingifodfaaGreatGg2
import Derived.Laws.AppendOwn
import Derived.Test.YtlifcingifodfaaGreatProg
import Derived.KernelRfl
set_option maxHeartbeats 4000000
set_option linter.unusedVariables false
set_option linter.unusedSimpArgs false
namespace Go.Proofs.YtlifcingifodfaaGreat
open Tryz
open List(toArray replicate)
open Go.RowKit
variable{e T n k yb N b cap m kk l0 h0 m0 since:Nat}{ct ty t t2:TypeId}{fz:Nat×Nat}{P:Program}{ro:Option Nat}{E W:World}{x y z s:Operand}{v u z0:Value}{R F l':Ac}{zs vs ws xs news:Ap}{ds:List Deferred}{pos:String}{g:Option (Nat×Bool)}{α:Type}{Q:Exit->Act->World->Prop}{K:Value->Ac->Prop}{rs:List ResultVar}{ops:Array Oper}{os:List Oper}{o:Oper}{ρ:Operand->Value}{ps:List (Nat×Value)}{cl:Array Value}{lo hi mx:Option Operand}{a:Int}{seen:Array Nat}{p:Option Addr}
section
def ra(os:List Oper)(plan:List (Nat×Bool))(tbl:List (List Nat))(i j:Nat):Bool:=St os plan tbl (some [(i,j)])
theorem KP{fr:Fr}{l:Ac}{pl:List BG}(plan:List (Nat×Bool))(tbl:List (List Nat))(i j:Nat)(R:Ac)(hm:P.follows .mixedOrders=true)(hv:ra os plan tbl i j=true)(ha:Attach os plan pl)(hR: ∀c,c∈R->c∈l)
 (h:PlanS P ro N E os.toArray Q R tbl (some [(i,j)]) [] pl fr ds l):BR P ro N E (.region k os.toArray true) Q fr ds l:=Su plan tbl (some [(i,j)]) R hm hv ha hR h
def uV(os:List Oper)(tbl:List (List Nat))(My:List (Nat×Bool))(i j:Nat):Bool:=
 Gw os.toArray tbl none (Iz os My).tail&&My.head?==some (j,false)&&(My.map Prod.fst).count i==1&&j !=i
theorem Nd{i j:Nat}{sp:FP}{tbl:List (List Nat)}{A3 alt:List BG}{fr:Fr}{l:Ac}(My:List (Nat×Bool))(ha:Attach os My alt)(hp:alt.Perm ((i,false,o)::A3))(uh:uV os tbl My i j=true)
 (h1:PlanS P ro N E os.toArray Q R tbl none sp ((i,false,o)::A3) fr ds l)(h2:PlanS P ro N E os.toArray Q R tbl none sp alt fr ds l):PlanS P ro N E os.toArray Q R tbl (some [(i,j)]) sp ((i,false,o)::A3) fr ds l:=by
 unfold uV at uh;simp only[AV,JL,PF,ne_eq] at uh;obtain⟨⟨⟨p1,p2⟩,p3⟩,p4⟩:=uh;have AdC:(((i,false,o)::A3).map (λx:BG=>x.1)).count i=1:=by rw[<-(hp.map _).count_eq,ha.spec.2];exact p3
 have hni: ∀x,x∈A3->x.1≠i:=λx hx e=>by rw[AJ,List.count_cons_self] at AdC;have:0<(A3.map (λx:BG=>x.1)).count i:=List.count_pos_iff.2 (Av.2 ⟨x,hx,e⟩);omega
 rw[ha.fun_eq] at p1;cases ha with
 |nil=>cases p2
 |cons h0 hr=>simp only[List.head?_cons,Jb] at p2;cases p2;exact .alt2 p4 hp p1 hni h1 h2
end
def btV(P:Program)(t:Nat):Bool:=match P.underlying t with
 |some (.struct fs)=>fs.all λf=>(P.info? f.type).isSome
 |_=>false
class BT(P:Program)(t:Nat):Prop where out:btV P t=true
section
variable{fr:Fr}{l:Ac}{d:Option Nat}{aft:Array Edge}{w:Value}{off:Nat}
theorem dL{α β:Type}{f:α->Sem β}{h:α->β}{Q:List β->Ac->Prop}: ∀{xs:List α},(∀x,x∈xs-> ∀(Q:β->Ac->Prop) l,sl P (f x) l Q<->Q (h x) l)->(sl P (xs.mapM f) l Q<->Q (xs.map h) l)
 |[],_=>by simp only[List.mapM_nil,CX];exact DG
 |x::xs,hx=>by rw[List.mapM_cons,AB,hx x Ak,AB,dL (h:=h) λy hy=>hx y (An _ hy)];exact DG
def aC(fr:Fr):List (Nat×Operand)->Option (List (Nat×Value))
 |[]=>some []
 |(i,x)::r=>match ev fr x,aC fr r with
  |some v,some vs=>some ((i,v)::vs)
  |_,_=>none
theorem Agrees.parts(h:Agrees fr ρ): ∀{xs:List (Nat×Operand)} {vs:List (Nat×Value)},aC fr xs=some vs->(xs.map λ(i,x)=>(i,ρ x))=vs
 |[],vs,e=>by cases e;rfl
 |(i,x)::r,vs,e=>by
  unfold aC at e
  split at e
  ·rename_i v us h1 h2;cases e;rw[AJ,h.parts h2];show(i,ρ x)::us=_;rw[h x v h1]
  ·cases e
inductive BuildS(P:Program)(t:Nat):Ap->List (Nat×Value)->Ap->Prop
 |nil {cs:Ap}:BuildS P t cs [] cs
 |one {cs cs1 NX:Ap} {i off ft:Nat} {v:Value} {r:List (Nat×Value)} (c:FV P t i off ft) (c2:OC P ft):v.oneCell'=true->LSet cs off v cs1->BuildS P t cs1 r NX->BuildS P t cs ((i,v)::r) NX
 |agg {cs cs1 NX ws:Ap} {i off ft n:Nat} {r:List (Nat×Value)} (c:FV P t i off ft) (c2:AG P ft n):ws.length=n->LSetA cs off ws cs1->BuildS P t cs1 r NX->BuildS P t cs ((i,.agg (toArray ws))::r) NX
theorem aD(vs:Ap): ∀(cs:Array Value) (off k:Nat),(vs.zipIdx k).foldl (λcs (c,j)=>cs.setIfInBounds (off+j) c) cs=Da cs (off+k) vs:=by
 induction vs with
 |nil=>intro cs off k;rfl
 |cons v vs ih=>intro cs off k;rw[List.zipIdx_cons,D6,ih];rfl
theorem J5(vs cs:Array Value)(off:Nat):vs.zipIdx.foldl (λcs (c,j)=>cs.setIfInBounds (off+j) c) cs=Da cs off vs.toList:=by rw[<-Array.foldl_toList,Array.toList_zipIdx,aD];rfl
theorem Yn{fs:Array Field}(hu:P.underlying t=some (.struct fs)){place:Nat->Option (Nat×Nat)}(hp: ∀i fd Hv,fs[i]?=some fd->P.info? fd.type=some Hv->place i=some (fd.offset,Hv.size)){cs NX:Ap}{parts:List (Nat×Value)}(h:BuildS P t cs parts NX):
 Instr.fill place (toArray cs) parts=some (toArray NX):=by
 induction h with
 |nil=>rfl
 | @one cs cs1 NX i off ft v r c c2 h1 hs _ ih=>obtain⟨fs',fd,k1,k2,k3,k4⟩:=Qf c.out;rw[hu] at k1;cases k1;obtain⟨ud,Hv,_,_,i1,i2⟩:=ME c2.out;rw[<-k4] at i1;unfold Instr.fill;rw[hp _ _ _ k2 i1,k3,i2,OX h1];have C9:=hs.spec.2;simp only;rw[Ab (by simp;omega),J5 #[v] (toArray cs) off];simp only[Da,BB,hs.spec.1];exact ih
 | @agg cs cs1 NX ws i off ft n r c c2 hn hs _ ih=>obtain⟨fs',fd,k1,k2,k3,k4⟩:=Qf c.out;rw[hu] at k1;cases k1;obtain⟨ud,Hv,_,_,i1,i2⟩:=Kc c2.out;rw[<-k4] at i1;unfold Instr.fill;rw[hp _ _ _ k2 i1,k3,i2];have C9:=hs.spec.2;have e:(Value.agg (toArray ws)).cells=toArray ws:=rfl;simp only[e];rw[Ab (by simp[hn];omega),J5 (toArray ws) (toArray cs) off];have:=hs.spec.1;simp only at this⊢;rw[this];exact ih
theorem dM{xs:List (Nat×Operand)}{cs:Ap}(hx:aC fr xs=some ps)[c:ZV P t zs][cb:BT P t](hb:BuildS P t zs ps cs):OpQ P ro N fr R ⟨d,.build t (toArray xs),ty,pos,aft,g⟩ (.agg (toArray cs)):=BN rfl λρ l hρ _=>by
 obtain⟨i,zv,h1,h2,h3⟩:=Ke c.out;have hbt:=cb.out;unfold btV at hbt
 split at hbt
 ·rename_i fs hu;simp only[execOp,AB,Instr.build,zeroValue,Dj,hρ.parts hx];rw[<-AB,J3 h1,h2];simp only[Bn];rw[E1 hu];simp only[AB];have hfm:fs=toArray fs.toList:=by simp
  rw[hfm,List.mapM_toArray,map_eq_pure_bind,AB,dL (h:=λf=>(f.offset,((P.info? f.type).map (·.size)).getD 0)) (by
   intro f hf Q l;have:=Array.all_eq_true'.1 hbt f (by simpa using hf);cases hi:P.info? f.type with
   |none=>rw[hi] at this;cases this
   |some Hv=>rw[AB,Hx hi];exact DG)]
  simp only[Bn];have Ps:=Yn (place:=λi=>(toArray (fs.toList.map λf=>(f.offset,((P.info? f.type).map (·.size)).getD 0)))[i]?) hu (by intro i fd Hv k1 k2;simp[k1,k2]) hb
  have hz:zv.cells=toArray zs:=by rw[<-h3]
  rw[hz,Ps];exact⟨rfl,rfl⟩
 ·cases hbt
theorem Vz{T:TypeId}{ud:TypeDesc}(h:P.underlying T=some ud)(W:World):(isAgg T).run P W= .ok (Oc ud) W:=by unfold isAgg;rw[Sem.run_bind,run_underlying h];cases ud<;>rfl
theorem WK{T:TypeId}{cs:Ap}(hc:qR P T=true)(hs:Sat E l W)(hm:(b,Obj.cells (toArray cs) ct fz)∈l)(hv:au cs off=some v):(loadVar T ⟨b,off,none⟩).run P W= .ok v W:=by obtain⟨ud,i,e1,e2,_,_⟩:=ME hc;have XV:=hs.cell hm off;rw[Ye hv] at XV;unfold loadVar;rw[Sem.run_bind,Vz e1,e2];simp[Result.andThen,XV]
theorem WL{cs:Ap}(hc:uP P T=some n)(hs:Sat E l W)(hm:(b,Obj.cells (toArray cs) ct fz)∈l)(hv:LSub cs off n ws):(loadVar T ⟨b,off,none⟩).run P W= .ok (.agg (toArray ws)) W:=by
 obtain⟨ud,i,e1,e2,e3,e4⟩:=Kc hc;have US:(sizeOf T).run P W= .ok n W:=by unfold sizeOf typeInfo;simp[Sem.run_bind,Result.andThen,program,Sem.run,e3,e4]
 obtain⟨Jz,hv2⟩:=hv.spec;have Eh:ws.length=n:=by rw[<-Jz];simp;omega
 unfold loadVar;rw[Sem.run_bind,Vz e1,e2];simp only[Result.andThen,CS];rw[Sem.run_bind,US];simp only[Result.andThen];rw[Sem.run_bind];have:=run_loadCells_list (P:=P) (w:=W) ⟨b,off,none⟩ ws (λj u hj=>by
  rw[GE,hs.cell hm];rw[<-Jz] at hj;simp only[AE];rw[IC] at hj
  split at hj
  ·simpa[K8] using hj
  ·cases hj)
 rw[Eh] at this;rw[this];rfl
theorem xi{t:Nat}(h1:BZ fr t=some v)(h:ResS P fr l rs vs):ResS P fr l (.tmp t::rs) (v::vs):= .tmp h1 h
theorem kZ{T:TypeId}{cs:Ap}(h1:BZ fr k=some (.pointer (some ⟨b,off,none⟩)))[c:OC P T](hm:(b,Obj.cells (toArray cs) ct fz)∈l)(hv:au cs off=some v)(h:ResS P fr l rs vs):ResS P fr l (.cell k T::rs) (v::vs):=
 .cell h1 (λE W hs=>WK c.out hs hm hv) h
theorem Cq{cs:Ap}(h1:BZ fr k=some (.pointer (some ⟨b,off,none⟩)))[c:AG P T n](hm:(b,Obj.cells (toArray cs) ct fz)∈l)(hv:LSub cs off n ws)(h:ResS P fr l rs vs):ResS P fr l (.cell k T::rs) (.agg (toArray ws)::vs):=
 .cell h1 (λE W hs=>WL c.out hs hm hv) h
theorem FL{f:Nat}{xs:List Operand}{fs cs:Ap}{at_:Array TypeId}(hx:ev fr x=some (.func (.func f) (toArray fs) (toArray cs)))(hy:Sd fr xs=some vs)[c:EN P f](h: ∀l,(∀c,c∈R->c∈l)->Fn P f (fs++vs++cs) l (λv' l'=>v'=v/\l'=l)):OpQ P ro N fr R ⟨d,.call {callee:= .value x,args:=xs.toArray,argTypes:=at_},ty,pos,aft,g⟩ v:=
 ⟨λl hl=>Dn hx hy (by simpa using h l hl)⟩
end
def OwnSl(e k:Nat)(v:Value)(n:Nat)(xs:Ap)(cs:Ac):Prop:=
 xs.length=n*k/\((v= .slice none 0 0/\n=0/\cs=[])\/(∃b cap sp,v= .slice (some ⟨b,0,none⟩) n cap/\cs=[(b,.cells (toArray (xs++sp)) e (0,0))]/\n<=cap/\cap<=maxLen/\(xs++sp).length=cap*k))
theorem OwnSl.nil(e k:Nat):OwnSl e k (.slice none 0 0) 0 [] []:=⟨by simp,.inl ⟨rfl,rfl,rfl⟩⟩
section
variable{fr:Fr}{l:Ac}{d:Option Nat}{aft:Array Edge}{w:Value}{off:Nat}
theorem Sat.row{cs cs':Array Value}{e:TypeId}(h:Sat E ((b,.cells cs e fz)::F) W):Sat E ((b,.cells cs' e fz)::F) (W.setRow b cs'):=by
 refine⟨h.os,h.tape,h.output,h.nodup,λc hc=>?_⟩;rcases At.1 hc with rfl|hc'
 ·exact setRow_heap W b cs cs' e fz (h.has _ Ak)
 ·have hn:=h.nodup;rw[AJ,AP] at hn;have He:c.1≠b:=λe=>hn.1 (Av.2 ⟨c,hc',e⟩);rw[setRow_other W b c.1 cs' He];exact h.has c (An _ hc')
theorem GG{cp:Nat}{cs:Ac}(hx:ev fr s=some v)(hy:ev fr x=some (.slice (some ⟨b,off,none⟩) m cp))[c:ST P T e k yb][cz:ZV P e zs](R8:zs.length=k)
 (EX:OwnSl e k v n xs cs)(hm:(b,Obj.cells cl ct fz)∈cs++F)(kq: ∀j u,news[j]?=some u->cl[off+j]?=some u)(ku:news.length=m*k)(h1: ∀u∈news,u.oneCell'=true)(h63:n+m<=maxLen)(du:(n+m)*yb<=140737488355328):
 OpE P ro N fr (cs++F) ⟨d,.call {callee:= .builtin .append,args:=#[s,x],argTypes:=#[T,T]},ty,pos,aft,g⟩ (λv' l'=> ∃cs',OwnSl e k v' (n+m) (xs++news) cs'/\l'=cs'++F):=by
 refine⟨rfl,λE a W hf hs=>?_⟩;have hρ:=hf.agrees;obtain⟨Hv,u1,u2,u3,u4⟩:=E8 c.out;obtain⟨wg,zv,z1,z2,z3⟩:=Ke cz.out;rw[u2] at z1;cases z1;have XU:execOp a.eval ⟨d,.call {callee:= .builtin .append,args:=#[s,x],argTypes:=#[T,T]},ty,pos,aft,g⟩=(do pure (.value (<-Builtin.append_ #[T,T] ty #[v,.slice (some ⟨b,off,none⟩) m cp])):Sem Next):=by simp[execOp,resolve,hρ s _ hx,hρ x _ hy,invoke,builtin]
 unfold OpVal;rw[XU,Sem.run_bind];have hnw: ∀j u,news[j]?=some u->W.cell? ((⟨b,off,none⟩:Addr).add j)=some u:=λj u hj=>by rw[GE,hs.cell hm];exact kq j u hj
 have UU:news.length=m*Hv.size:=by rw[u3];exact ku
 have hmx:n+m<=9223372036854775807:=by simp only[maxLen] at h63;omega
 have Eh:(xs++news).length=(n+m)*k:=by rw[Ah,EX.1,ku,Fp]
 have ui: ∀(uj:Nat) (W0:World),Sat E F W0->W0.heap=W.heap-> ∃cs',OwnSl e k (.slice (some ⟨W.heap.size,0,none⟩) (n+m) (grownCap W (n+m) uj e)) (n+m) (xs++news) cs'/\Sat E (cs'++F) (W0.drew.alloc (.cells (toArray (xs++news)++Builtin.zeroCells zv.cells (grownCap W (n+m) uj e-(n+m))) e)):=by
  intro uj W0 uk hh;refine⟨_,⟨Eh,.inr ⟨W.heap.size,_,(Builtin.zeroCells zv.cells (grownCap W (n+m) uj e-(n+m))).toList,rfl,rfl,grownCap_ge _ _ _ _,grownCap_le_maxLen _ _ _ _ h63,?_⟩⟩,?_⟩
  ·rw[Ah,Eh,Array.length_toList,size_zeroCells];have hzz:zv.cells.size=k:=by rw[<-R8,<-z3];simp
   rw[hzz,<-Fp];congr 1;have:=grownCap_ge W (n+m) uj e;omega
  ·have h2:=uk.drew.alloc (.cells (toArray (xs++news)++Builtin.zeroCells zv.cells (grownCap W (n+m) uj e-(n+m))) e);have e1:W0.drew.heap.size=W.heap.size:=by show W0.heap.size=_;rw[hh]
   rw[e1] at h2;have e2:toArray (xs++news++(Builtin.zeroCells zv.cells (grownCap W (n+m) uj e-(n+m))).toList)=toArray (xs++news)++Builtin.zeroCells zv.cells (grownCap W (n+m) uj e-(n+m)):=by apply BP.1;simp
   rw[e2];exact h2
 rcases EX.2 with⟨rfl,rfl,rfl⟩|⟨gb,cap,sp,rfl,rfl,ZW,UV,NP⟩
 ·have qq:xs=[]:=Ef (by simpa using EX.1);subst qq;by_cases hm0:m=0
  ·subst hm0;have P2:news=[]:=Ef (by simpa using ku);subst P2;have hr:(Builtin.append_ #[T,T] ty #[.slice none 0 0,.slice (some ⟨b,off,none⟩) 0 cp]).run P W= .ok (.slice none 0 0) W:=by
    simp[Builtin.append_,run_underlying u1,sizeOf,typeInfo,u2,Builtin.lenOf,Builtin.firstCells,loadCells,loadCellsFrom]
   rw[hr];exact⟨_,⟨[],OwnSl.nil e k,rfl⟩,hs⟩
  ·have hr:=run_append_nil (P:=P) W T ty e Hv zv u1 u2 z2 ⟨b,off,none⟩ m cp news UU hnw Af Af (by rw[u4];simp only[BF] at du;omega);rw[hr];obtain⟨cs',k1,k2⟩:=ui 0 W hs rfl;simp only[BF,Ag] at k1 k2;refine⟨_,⟨cs',?_,rfl⟩,k2⟩;simpa using k1
 ·by_cases Pt:n+m<=cap
  ·have hg:=hs.has (gb,_) (Ai _ Ak);have hr:=run_append_room (P:=P) W T ty e Hv u1 u2 gb n cap (toArray (xs++sp)) hg ⟨b,off,none⟩ m cp news UU hnw h1 Pt (by
    rw[UU,u3,<-Fp];simp only[Bv];rw[NP];exact F9 _ Pt)
   rw[hr];have e1:(toArray (xs++sp)).toList.take (n*Hv.size)=xs:=by rw[u3,<-EX.1];show(xs++sp).take xs.length=xs;simp
   rw[e1];refine⟨_,⟨_,⟨Eh,.inr ⟨gb,cap,(toArray (xs++sp)).toList.drop (n*Hv.size+news.length),rfl,rfl,Pt,UV,?_⟩⟩,rfl⟩,?_⟩
   ·have h3:(xs++sp).length=cap*k:=NP;have h4:n*k+news.length<=cap*k:=by rw[ku,<-Fp];exact F9 _ Pt
    rw[Ah,Eh,DN];show(n+m)*k+((xs++sp).length-(n*Hv.size+news.length))=cap*k;rw[h3,u3,ku,<-Fp];have:=F9 k Pt;omega
   ·exact hs.row
  ·have hs':Sat E F W:=hs.tail;have hold: ∀j u,xs[j]?=some u->W.cell? ((⟨gb,0,none⟩:Addr).add j)=some u:=λj u hj=>by
    rw[GE,hs.cell (Ai _ Ak),BF];have C9:=(Ay.1 hj).1;simp only[AE];rw[AH C9];exact hj
   have hr:=run_append_grow (P:=P) W T ty e Hv zv u1 u2 z2 ⟨gb,0,none⟩ n cap xs (by rw[u3];exact EX.1) hold ⟨b,off,none⟩ m cp news UU hnw Af Af (growslice_fits Af (by rw[u4];exact du));rw[hr];obtain⟨cs',k1,k2⟩:=ui cap W hs' rfl;refine⟨_,⟨cs',k1,rfl⟩,?_⟩;have e3:xs.toArray++news.toArray=toArray (xs++news):=by simp
   rw[e3];exact k2
theorem J6{cs:Ap}{Q:Value->Ac->Prop}(c:stV P T=some (e,k,yb))(cz:w9 P e=some zs)(R8:zs.length=k)(hk:0<n*k)(hsm:n*k<=16777216)
 (Ps:Instr.fill (λi=>some (i*k,k)) (toArray (replicate n zs).flatten) ps=some (toArray cs))(hQ: ∀b,(∀c,c∈l->c.1≠b)->Q (.slice (some ⟨b,0,none⟩) n n) ((b,.cells (toArray cs) e (0,0))::l)):
 sl P (Instr.buildSlice T n (toArray ps)) l Q:=by
 obtain⟨Hv,u1,u2,u3,u4⟩:=E8 c;obtain⟨wg,zv,z1,z2,z3⟩:=Ke cz;rw[u2] at z1;cases z1;unfold Instr.buildSlice;rw[Cc u1];simp only;rw[E2 u2,u3];rw[Ab Af];simp only[show ¬n*k=0 by omega,C6,AB,zeroValue];rw[<-AB,J3 u2,z2];simp only[Bn];have hzv:zv.cells=toArray zs:=by rw[<-z3]
 have wh:(Array.range (n*k)).map (λj=>zv.cells[j%zv.cells.size]!)=toArray (replicate n zs).flatten:=by
  have hk0:0<k:=K9 λe=>by subst e;simp at hk
  apply BP.1;apply CI;intro j;rw[hzv];have hl:(replicate n zs).flatten.length=n*k:=by simp[R8]
  by_cases hj:j<n*k
  ·have:(replicate n zs).flatten[j]?=zs[j%k]?:=by
    clear Ps hQ hl hsm hk
    induction n generalizing j with
    |zero=>omega
    |succ n ih=>
     rw[BL,Cy];by_cases kv:j<k
     ·rw[AH Af,Dy kv]
     ·rw[AY Af,R8,ih (j-k) (by have:=F7 n k;simp only[KD] at this;omega),<-La Af]
   simp only[Mu,Lb,A6,Fh hj,BU];rw[this];have C9:j%k<zs.length:=by rw[R8];exact Ho _ hk0
   simp[R8,Al C9,GA]
  ·rw[Bg (by simp;omega),Bg (by rw[hl];omega)]
 rw[wh,Ps];simp only[newRow,AB];intro b hb;exact hQ b hb
theorem Lj(hy:ev fr y=some v)(h1:v.oneCell'=true)[c:ST P T e 1 yb][cz:ZV P e [z0]]:OpE P ro N fr l ⟨d,.buildSlice T 1 #[(0,y)],ty,pos,aft,g⟩ (λv' l'=> ∃b,(∀c,c∈l->c.1≠b)/\v'= .slice (some ⟨b,0,none⟩) 1 1/\l'=(b,.cells (toArray [v]) e (0,0))::l):=DP rfl λρ hρ=>by
 simp only[execOp,AB];have e:(#[(0,y)]:Array (Nat×Operand)).map (λ(i,x)=>(i,ρ x))=toArray [(0,v)]:=by simp[hρ y _ hy]
 rw[e];refine J6 (cs:=[v]) c.out cz.out rfl Af Af ?_ λb hb=>⟨b,hb,rfl,rfl⟩
 simp[Instr.fill,OX h1]
theorem FE(hy:ev fr y=some (.agg (toArray ws)))[c:ST P T e k yb][cz:ZV P e zs](hz:zs.length=k)(hw:ws.length=k)(hk:0<k)(LA:k<=16777216):OpE P ro N fr l ⟨d,.buildSlice T 1 #[(0,y)],ty,pos,aft,g⟩ (λv' l'=> ∃b,(∀c,c∈l->c.1≠b)/\v'= .slice (some ⟨b,0,none⟩) 1 1/\l'=(b,.cells (toArray ws) e (0,0))::l):=DP rfl λρ hρ=>by
 simp only[execOp,AB];have e:(#[(0,y)]:Array (Nat×Operand)).map (λ(i,x)=>(i,ρ x))=toArray [(0,.agg (toArray ws))]:=by simp[hρ y _ hy]
 rw[e];refine J6 (cs:=ws) c.out cz.out hz Af Af ?_ λb hb=>⟨b,hb,rfl,rfl⟩
 unfold Instr.fill;have e2:(Value.agg (toArray ws)).cells=toArray ws:=rfl;simp only[e2];rw[Ab (by simp[hw,hz])];rw[J5];unfold Instr.fill;congr 1;have key: ∀(vs pre cs:Ap),vs.length=cs.length->Da (toArray (pre++cs)) pre.length vs=toArray (pre++vs):=by
  intro vs
  induction vs with
  |nil=>intro pre cs h;have:cs=[]:=Ef (by simpa using h.symm);subst this;rfl
  |cons v vs ih=>
   intro pre cs h;cases cs with
   |nil=>simp at h
   |cons c cs=>simp only[Da,BB];rw[Cv _ _ (Bf _)];simp only[DV,Fy];have:=ih (pre++[v]) cs (by simpa using h);simpa using this
 have:=key ws [] zs Af;simpa using this
end
theorem OwnSl.one{e k n:Nat}{v:Value}{xs:Ap}{cs:Ac}(h:OwnSl e k v n xs cs):v.oneCell'=true:=by rcases h.2 with⟨rfl,_⟩|⟨b,cap,sp,rfl,_⟩<;>rfl
theorem Keep.dropL{L l:Ac}(cs:Ac)(k:Keep L l):Keep (cs++L) l:=by
 induction cs with
 |nil=>exact k
 |cons c cs ih=>exact .drop ih
theorem OwnSl.shape{cs:Ac}(h:OwnSl e k v n xs cs): ∃p cap,v= .slice p n cap:=by
 rcases h.2 with⟨rfl,rfl,_⟩|⟨b,cap,sp,rfl,_⟩
 ·exact⟨_,_,rfl⟩
 ·exact⟨_,_,rfl⟩
section
variable{fr:Fr}{l:Ac}
def dN(N:Nat)(E:World){α:Type}(fx:α->Fr)(ds:List Deferred)(lx:α->Ac)(pre:α->Prop)(a:Act)(W:World):Prop:=
 ∃y,pre y/\FSat N (fx y) a/\a.defers=ds/\Sat E (lx y) W
theorem aE{c1 c2:Code}(fx:α->Fr)(lx:α->Ac)(pre:α->Prop)(h1:BR P ro N E c1 (Exit.then (dN N E fx ds lx pre) Q) fr ds l)(h2: ∀x,pre x->BR P ro N E c2 Q (fx x) ds (lx x)):BR P ro N E (.seq c1 c2) Q fr ds l:=
 ⟨λa W hf hds hs=>wpIn_seq (wpIn_mono (h1.run a W hf hds hs) λe a' W' h=>by
   cases e with
   |normal=>obtain⟨y,h3,h4,h5,h6⟩:=h;exact(h2 y h3).run a' W' h4 h5 h6
   |_=>exact h)⟩
theorem Ep{fx:α->Fr}{lx:α->Ac}{pre:α->Prop}(y:α)(h1:pre y)(h3:FSub (fx y) fr)(h4:Keep l (lx y)):C0 N E (Exit.then (dN N E fx ds lx pre) Q) .normal fr ds l:=
 ⟨λa W hf hds hs=>⟨y,h1,hf.sub h3.spec,hds,h4.sat hs⟩⟩
end
theorem Tq(zs:Ap)(n:Nat):(Builtin.zeroCells (toArray zs) n).toList=(replicate n zs).flatten:=by
 apply CI;intro j;unfold Builtin.zeroCells;have hl:(replicate n zs).flatten.length=n*zs.length:=by simp
 by_cases hj:j<n*zs.length
 ·have hk0:0<zs.length:=K9 λe=>by rw[e] at hj;simp at hj
  have:(replicate n zs).flatten[j]?=zs[j%zs.length]?:=by
   clear hl
   induction n generalizing j with
   |zero=>omega
   |succ n ih=>
    rw[BL,Cy];by_cases kv:j<zs.length
    ·rw[AH Af,Dy kv]
    ·rw[AY Af,ih (j-zs.length) (by have:=F7 n zs.length;simp only[KD] at this;omega),<-La Af]
  simp only[Mu,Lb,A6,Bv,Fh hj,BU];rw[this];have C9:j%zs.length<zs.length:=Ho _ hk0;simp[Al C9,GA]
 ·rw[Bg (by simp;omega),Bg (by rw[hl];omega)]
inductive k9(fr:Fr):Option Operand->Nat->Nat->Prop
 |none {d:Nat}:k9 fr none d d
 |some {o:Operand} {d r:Nat} {k:IntKind} {i:Int}:ev fr o=some (.int k i)->0<=i->i.toNat=r->k9 fr (some o) d r
section
variable{fr:Fr}{l:Ac}{d:Option Nat}{aft:Array Edge}{w:Value}{off:Nat}
theorem E6{Q:Nat->Ac->Prop}{k:IntKind}{i:Int}{y r:Nat}{code:BoundsCode}(h0:0<=i)(hr:i.toNat=r)(hy:r<=y):sl P (Instr.sliceBound (.int k i) y code) l Q<->Q r l:=by unfold Instr.sliceBound;simp only[asIntOf,AB,Bn];rw[Ad ⟨h0,Af⟩,Bn,hr]
theorem Of{Q:Nat×Nat×Nat->Ac->Prop}(hρ:Agrees fr ρ)(hl:k9 fr lo 0 l0)(hh:k9 fr hi n h0)(hm:k9 fr mx cap m0)(IU:mx.isSome=true->hi.isSome=true)(h1:l0<=h0)(h2:h0<=m0)(h3:m0<=cap):
 sl P (Instr.sliceBounds true n cap (lo.map ρ) (hi.map ρ) (mx.map ρ)) l Q<->Q (l0,h0,m0) l:=by
 unfold Instr.sliceBounds;cases hm with
 |none=>
  cases hh with
  |none=>
   cases hl with
   |none=>simp only[DK,AB,Bn]
   |some e i0 ir=>simp only[DK,BU,AB,Bn,hρ _ _ e];rw[E6 i0 ir h1]
  |some e i0 ir=>
   cases hl with
   |none=>simp only[DK,BU,AB,Bn,hρ _ _ e];rw[E6 i0 ir h2]
   |some e' i0' ir'=>simp only[DK,BU,AB,Bn,hρ _ _ e,hρ _ _ e'];rw[E6 i0 ir h2,E6 i0' ir' h1]
 |some em m0' mr=>
  cases hh with
  |none=>simp at IU
  |some e i0 ir=>
   cases hl with
   |none=>simp only[DK,BU,AB,Bn,hρ _ _ e,hρ _ _ em];rw[E6 m0' mr h3,E6 i0 ir h2]
   |some e' i0' ir'=>simp only[DK,BU,AB,Bn,hρ _ _ e,hρ _ _ e',hρ _ _ em];rw[E6 m0' mr h3,E6 i0 ir h2,E6 i0' ir' h1]
theorem Gf{off' n' c':Nat}(hx:ev fr x=some (.slice (some ⟨b,off,none⟩) n cap))[c:ST P T e k yb](hl:k9 fr lo 0 l0)(hh:k9 fr hi n h0)(hm:k9 fr mx cap m0)(IU:mx.isSome=true->hi.isSome=true)(h1:l0<=h0)(h2:h0<=m0)(h3:m0<=cap)
 (ho:(if m0=l0 then off else off+l0*k)=off')(hn:h0-l0=n')(hc:m0-l0=c'):OpQ P ro N fr R ⟨d,.slice T x lo hi mx,ty,pos,aft,g⟩ (.slice (some ⟨b,off',none⟩) n' c'):=BN rfl λρ l hρ _=>by
 obtain⟨Hv,u1,u2,u3,_⟩:=E8 c.out;subst ho hn hc;simp only[execOp,hρ x _ hx];rw[AB];unfold Instr.sliceAt;rw[Cc u1];show sl P (Instr.slice T _ _ _ _) l _;unfold Instr.slice;rw[Cc u1];simp only[AB];rw[Of hρ hl hh hm IU h1 h2 h3];simp only;rw[Hx u2];simp only[Bn,u3];refine⟨?_,trivial⟩
 split<;>simp[GE]
theorem dO{cp:Nat}{cs:Array Value}(hx:ev fr x=some (.slice (some ⟨b,off,none⟩) m cp))[c:ST P T e k yb][cz:ZV P e zs](hm:0<m)(h1: ∀v,v∈zs->v.oneCell'=true)(hu:Upd l b (.cells cs ct (0,0)) (.cells (Da cs off (replicate m zs).flatten) ct (0,0)) l')(C9:off+m*zs.length<=cs.size):OpE P ro N fr l ⟨d,.call {callee:= .builtin .clear,args:=#[x],argTypes:=#[T]},ty,pos,aft,g⟩ (λv' l2=>v'= .tuple #[]/\l2=l'):=DP rfl λρ hρ=>by
 obtain⟨Hv,u1,u2,u3,_⟩:=E8 c.out;obtain⟨i,zv,z1,z2,z3⟩:=Ke cz.out;rw[u2] at z1;cases z1;obtain⟨m,rfl⟩: ∃m',m=m'+1:=⟨m-1,Af⟩
 simp only[execOp,resolve,AB,Bn,invoke,builtin,Dj,AJ,CX,hρ x _ hx];unfold Builtin.clear_;simp only[AE,Dc,AB];rw[E1 u1];simp only[AB,zeroValue];rw[<-AB,J3 u2,z2];simp only[Bn];have hz:zv.cells=toArray zs:=by rw[<-z3]
 have hzz:(Builtin.zeroCells zv.cells (m+1)).toList=(replicate (m+1) zs).flatten:=by rw[hz];exact Tq zs (m+1)
 rw[hzz];have:=Mj (P:=P) (b:=b) (off:=off) (f:=λv=>(pure (.tuple #[]):Sem Value)) (Q:=λa l2=>Yb P (λv' l2=>v'= .tuple #[]/\l2=l') (Next.value a) l2) (replicate (m+1) zs).flatten 0 cs l l' (by intro v hv;rw[List.mem_flatten] at hv;obtain⟨r,hr,hv⟩:=hv;rw[El hr] at hv;exact h1 v hv) (by simpa using C9) hu ⟨rfl,rfl⟩
 rw[AB] at this;exact this
theorem VA{cp gb:Nat}{cur:Array Value}(hs:ev fr s=some (.slice (some ⟨gb,0,none⟩) n cap))(hx:ev fr x=some (.slice (some ⟨b,off,none⟩) m cp))[c:ST P T e k yb]
 (hm:(b,Obj.cells cl ct fz)∈(gb,Obj.cells cur e (0,0))::F)(kq: ∀j u,news[j]?=some u->cl[off+j]?=some u)(ku:news.length=m*k)(h1: ∀u∈news,u.oneCell'=true)(Pt:n+m<=cap)(Wv:n*k+news.length<=cur.size):
 OpE P ro N fr ((gb,.cells cur e (0,0))::F) ⟨d,.call {callee:= .builtin .append,args:=#[s,x],argTypes:=#[T,T]},ty,pos,aft,g⟩ (λv' l'=>v'= .slice (some ⟨gb,0,none⟩) (n+m) cap/\l'=(gb,.cells (cur.toList.take (n*k)++news++cur.toList.drop (n*k+news.length)).toArray e (0,0))::F):=by
 refine⟨rfl,λE a W hf hs'=>?_⟩;have hρ:=hf.agrees;obtain⟨Hv,u1,u2,u3,u4⟩:=E8 c.out;have XU:execOp a.eval ⟨d,.call {callee:= .builtin .append,args:=#[s,x],argTypes:=#[T,T]},ty,pos,aft,g⟩=(do pure (.value (<-Builtin.append_ #[T,T] ty #[.slice (some ⟨gb,0,none⟩) n cap,.slice (some ⟨b,off,none⟩) m cp])):Sem Next):=by simp[execOp,resolve,hρ s _ hs,hρ x _ hx,invoke,builtin]
 unfold OpVal;rw[XU,Sem.run_bind];have hg:=hs'.has (gb,_) Ak;have hr:=run_append_room (P:=P) W T ty e Hv u1 u2 gb n cap cur hg ⟨b,off,none⟩ m cp news (by rw[u3];exact ku) (λj u hj=>by rw[GE,hs'.cell hm];exact kq j u hj) h1 Pt (by rw[u3];exact Wv);rw[hr];rw[u3];exact⟨_,⟨rfl,rfl⟩,hs'.row⟩
theorem JB{A3:List Oper}{d:Nat}(h:OpE P ro N fr l o K)(hw:Rb ops fr o.guard=some true)(hd:o.dst=some d)(hb:Nat.blt d N=true)(hk: ∀v l',K v l'->DA P ro N E ops Q A3 ((d,v)::fr) ds l'):DA P ro N E ops Q (o::A3) fr ds l:=by
 rcases Kf hw with⟨h1,_⟩|⟨j,b,oj,dj,b',h1,h2,h3,h4,h5⟩
 ·exact jS h h1 hd hb hk
 ·have:b'=b:=by simpa using h5
  subst this;exact AeK h h1 h2 h3 h4 hd hb hk
theorem aF{ps:List (Nat×Operand)}{pvs:List (Nat×Value)}{cs:Ap}(NO:aC fr ps=some pvs)(P2:0<n)(hn:n<=16777216)[c:ST P T e 1 yb][cz:ZV P e [z0]](Ps:Instr.fill (λi=>some (i*1,1)) (toArray (replicate n [z0]).flatten) pvs=some (toArray cs)):
 OpE P ro N fr l ⟨d,.buildSlice T n ps.toArray,ty,pos,aft,g⟩ (λv' l'=> ∃b,(∀c,c∈l->c.1≠b)/\v'= .slice (some ⟨b,0,none⟩) n n/\l'=(b,.cells (toArray cs) e (0,0))::l):=DP rfl λρ hρ=>by
 simp only[execOp,AB];have e:ps.toArray.map (λ(i,x)=>(i,ρ x))=toArray pvs:=by rw[<-hρ.parts NO];simp
 rw[e];exact J6 (cs:=cs) c.out cz.out rfl Af Af Ps λb hb=>⟨b,hb,rfl,rfl⟩
theorem OwnSl.lit(h0:0<n)(hl:xs.length=n)(hm:n<=1000000):OwnSl e 1 (.slice (some ⟨b,0,none⟩) n n) n xs [(b,.cells (toArray xs) e (0,0))]:=
 ⟨Af,.inr ⟨b,n,[],rfl,by simp,Af,by unfold maxLen;omega,by simp[hl]⟩⟩
end
abbrev LE:=Int×Value×Nat
def NZ(k:IntKind)(x:LE):MapEntry:={key:= .int k x.1,val:=x.2.1,born:=x.2.2}
abbrev FX(k:IntKind)(es:List LE)(clock:Nat):Obj:= .map (toArray (es.map (NZ k))) clock
def zU(P:Program)(t:Nat):Option Value:=match P.info? t with
 |some i=>i.zero
 |none=>none
class ZO(P:Program)(t:Nat)(z:outParam Value):Prop where out:zU P t=some z
def Ha(a:Int):List LE->Nat->Option (Nat×Value)
 |[],_=>none
 |e::es,i=>if a=e.1 then some (i,e.2.1) else Ha a es (i+1)
def LF(a:Int)(es:List LE):Option Value:=(Ha a es 0).map Prod.snd
def Og(a:Int)(v:Value)(clock:Nat)(es:List LE):List LE×Nat:=match Ha a es 0 with
 |some (i,_)=>(es.modify i λx=>(x.1,v,x.2.2),clock)
 |none=>(es++[(a,v,clock)],clock+1)
def PJ(a:Int)(es:List LE):List LE:=match Ha a es 0 with
 |some (i,_)=>es.eraseIdx i
 |none=>es
theorem Nf{a:Int}: ∀{es:List LE} {i:Nat},Ha a es i=none<-> ∀e∈es,e.1≠a
 |[],i=>by simp[Ha]
 |e::es,i=>by
  unfold Ha
  split
  ·rename_i h;subst h;simp
  ·rename_i h;rw[Nf];simp only[At,forall_eq_or_imp];exact⟨λh2=>⟨λe'=>h e'.symm,h2⟩,λh2=>h2.2⟩
theorem PK{a:Int}: ∀{es:List LE} {i k:Nat} {v:Value},Ha a es i=some (k,v)->i<=k/\ ∃e,es[k-i]?=some e/\e.1=a/\e.2.1=v/\ ∀j,j<k-i-> ∀e',es[j]?=some e'->e'.1≠a
 |[],i,k,v,h=>by simp[Ha] at h
 |e::es,i,k,v,h=>by
  unfold Ha at h
  split at h
  ·rename_i ha;cases h;exact⟨Bf _,e,by simp,ha.symm,rfl,λj hj=>by omega⟩
  ·rename_i ha;obtain⟨h1,e',h2,h3,h4,h5⟩:=PK h;refine⟨Af,e',?_,h3,h4,λj hj e2 he2=>?_⟩
   ·rw[show k-i=(k-(i+1))+1 by omega];simpa using h2
   ·cases j with
    |zero=>simp only[Dc,Jb] at he2;subst he2;exact λe'=>ha e'.symm
    |succ j=>exact h5 j Af e2 (by simpa using he2)
theorem Ts(k:IntKind)(a:Int): ∀(es:List LE) (i:Nat),Instr.findNow (.int k) (.int k a) (es.map (NZ k)) i=some (Ha a es i)
 |[],i=>rfl
 |e::es,i=>by
  rw[AJ];unfold Instr.findNow;simp only[NZ,Instr.sameNow,CS];unfold Ha;by_cases h:a=e.1
  ·rw[show(a==e.1)=true by simpa using h,Ad h]
  ·rw[show(a==e.1)=false by simpa using h,Ab h];exact Ts k a es (i+1)
section
variable{fr:Fr}{l:Ac}{d:Option Nat}{aft:Array Edge}{w:Value}{T kt et:TypeId}{k:IntKind}{es:List LE}{clock:Nat}
theorem Jj{T k:Nat}(h:mtV P T=some (k,e)):P.underlying T=some (.map k e):=by unfold mtV at h;split at h<;>simp_all
theorem Tt{t:Nat}{k:IntKind}(h:qS P t=some k):P.underlying t=some (.int k):=by unfold qS at h;split at h<;>simp_all
theorem FF{Q:α->Ac->Prop}(a:α):sl P (Sem.pure a) l Q<->Q a l:=DG
theorem gJ{Q:α->Ac->Prop}{f:Nat->Sem α}{q:Question}:sl P (choose q>>=f) l Q<-> ∀t,sl P (f (if q.forced=true then 0 else q.cut t)) l Q:=DG
theorem LV{Q:Unit->Ac->Prop}{empty:Bool}(h:qS P kt=some k):sl P (Instr.checkKey empty (n+1) kt (.int k a)) l Q<->Q () l:=by unfold Instr.checkKey;rw[Cc (Tt h)];exact DG
theorem Ng{Q:Option (Nat×Value)->Ac->Prop}(h:qS P kt=some k):sl P (Instr.findKey kt (.int k a) (es.map (NZ k))) l Q<->Q (Ha a es 0) l:=by unfold Instr.findKey;rw[Cc (Tt h),Ts];exact DG
theorem WM{Q:Value->Ac->Prop}{zv:Value}(h:zU P et=some zv):sl P (zeroValue et) l Q<->Q zv l:=by
 unfold zU at h
 split at h
 ·rename_i i hi;unfold zeroValue;rw[J3 hi,h];exact DG
 ·cases h
theorem ld{zv:Value}(hx:ev fr x=some (.map (some m)))(hy:ev fr y=some (.int k a))[c:MT P T kt et][ci:IT P kt k][cz:ZO P et zv](hm:(m,FX k es clock)∈R):OpQ P ro N fr R ⟨d,.lookup T x y false,ty,pos,aft,g⟩ ((LF a es).getD zv):=BN rfl λρ l hρ hR=>by
 simp only[execOp,hρ x _ hx,hρ y _ hy,AB];unfold Instr.lookup;rw[Cc (Jj c.out)];simp only[AB];refine⟨_,hR _ hm,rfl,?_⟩;simp only[Bn,FF,AB];rw[LV ci.out,Ng ci.out];unfold LF;cases h:Ha a es 0 with
 |none=>simp only[AB];rw[WM cz.out];exact⟨rfl,rfl⟩
 |some p=>exact⟨rfl,rfl⟩
theorem gK{zv:Value}(hx:ev fr x=some (.map (some m)))(hy:ev fr y=some (.int k a))[c:MT P T kt et][ci:IT P kt k][cz:ZO P et zv](hm:(m,FX k es clock)∈R):OpQ P ro N fr R ⟨d,.lookup T x y true,ty,pos,aft,g⟩ (.tuple #[(LF a es).getD zv,.bool (LF a es).isSome]):=BN rfl λρ l hρ hR=>by
 simp only[execOp,hρ x _ hx,hρ y _ hy,AB];unfold Instr.lookup;rw[Cc (Jj c.out)];simp only[AB];refine⟨_,hR _ hm,rfl,?_⟩;simp only[Bn,FF,AB];rw[LV ci.out,Ng ci.out];unfold LF;cases h:Ha a es 0 with
 |none=>simp only[AB];rw[WM cz.out];exact⟨rfl,rfl⟩
 |some p=>exact⟨rfl,rfl⟩
theorem OY:OpE P ro N fr l ⟨d,.makeMap T none,ty,pos,aft,g⟩ (λv' l'=> ∃b,(∀c,c∈l->c.1≠b)/\v'= .map (some b)/\l'=(b,.map #[] 0)::l):=DP rfl λρ hρ=>by simp only[execOp,AB];unfold Instr.makeMap;simp only[DK,AB,Bn];intro b hb;exact⟨b,hb,rfl,rfl⟩
theorem Yo{Q:Value->Ac->Prop}:sl P (Instr.keyThatStays (.int k a) (.int k a)) l Q<->Q (.int k a) l:=by unfold Instr.keyThatStays;rw[Ad (by simp[Instr.sameBits])];exact DG
theorem aG(es:List LE)(i:Nat)(v:Value)(e:LE)(he:es[i]?=some e):(toArray (es.map (NZ k))).modify i (λx=>{key:= .int k e.1,val:=v,born:=x.born})=toArray ((es.modify i λx=>(x.1,v,x.2.2)).map (NZ k)):=by
 apply BP.1;rw[Ih];simp only;apply CI;intro j;rw[List.getElem?_modify,A6,A6,List.getElem?_modify];by_cases h:i=j
 ·subst h;rw[he];simp[NZ]
 ·cases es[j]?<;>simp[h]
theorem LW(hx:ev fr x=some (.map (some m)))(hy:ev fr y=some (.int k a))(hz:ev fr z=some v)[c:MT P T kt et][ci:IT P kt k](hu:Upd l m (FX k es clock) (FX k (Og a v clock es).1 (Og a v clock es).2) l'):
 OpE P ro N fr l ⟨d,.mapUpdate T x y z,ty,pos,aft,g⟩ (λv' l2=>v'=undef/\l2=l'):=DP rfl λρ hρ=>by
 simp only[execOp,hρ x _ hx,hρ y _ hy,hρ z _ hz];rw[AB];unfold Instr.mapUpdate;rw[Cc (Jj c.out)];simp only[AB];refine⟨_,hu.mem,rfl,?_⟩;simp only[Bn,FF,AB];rw[LV ci.out,Ng ci.out];unfold Og at hu;cases h:Ha a es 0 with
 |none=>
  rw[h] at hu;simp only at hu⊢;refine⟨FX k es clock,l',?_,rfl,⟨rfl,rfl⟩⟩;have e:(toArray (es.map (NZ k))).push {key:= .int k a,val:=v,born:=clock}=toArray ((es++[(a,v,clock)]).map (NZ k)):=by simp[NZ]
  rw[e];exact hu
 |some p=>
  obtain⟨i,u⟩:=p;rw[h] at hu;simp only at hu⊢;obtain⟨_,e,he,h1,_,_⟩:=PK h;rw[Nat.sub_zero] at he;subst h1;have hk:(((toArray (es.map (NZ k)))[i]?).map (·.key)).getD (.int k e.1)= .int k e.1:=by simp[he,NZ]
  simp only[AB];rw[hk,Yo];refine⟨FX k es clock,l',?_,rfl,⟨rfl,rfl⟩⟩;rw[aG es i v e he];exact hu
theorem Tu{T2:TypeId}(hx:ev fr x=some (.map (some m)))(hy:ev fr y=some (.int k a))[c:MT P T kt et][ci:IT P kt k](hu:Upd l m (FX k es clock) (FX k (PJ a es) clock) l'):
 OpE P ro N fr l ⟨d,.call {callee:= .builtin .delete,args:=#[x,y],argTypes:=#[T,T2]},ty,pos,aft,g⟩ (λv' l2=>v'= .tuple #[]/\l2=l'):=DP rfl λρ hρ=>by
 simp only[execOp,resolve,AB,Bn,invoke,builtin,Dj,AJ,CX,hρ x _ hx,hρ y _ hy];unfold Builtin.delete_;simp only[AE,Dc,Db,AB];rw[E1 (Jj c.out)];simp only[AB];refine⟨_,hu.mem,rfl,?_⟩;simp only[Bn,FF,AB];rw[LV ci.out,Ng ci.out];unfold PJ at hu;cases h:Ha a es 0 with
 |none=>rw[h] at hu;exact⟨FX k es clock,l',hu,rfl,⟨rfl,rfl⟩⟩
 |some p=>
  obtain⟨i,u⟩:=p;rw[h] at hu;refine⟨FX k es clock,l',?_,rfl,⟨rfl,rfl⟩⟩;have e:(toArray (es.map (NZ k))).eraseIdxIfInBounds i=toArray ((es.eraseIdx i).map (NZ k)):=by apply BP.1;simp only[Jx];rw[Dp,Dp,Aq,Hd,List.map_drop]
  rw[e];exact hu
theorem dP(hx:ev fr x=some (.map (some m)))[c:MT P T kt et](hm:(m,FX k es clock)∈l):OpE P ro N fr l ⟨d,.range T x,ty,pos,aft,g⟩ (λv' l'=> ∃b,(∀c,c∈l->c.1≠b)/\v'= .pointer (some ⟨b,0,none⟩)/\l'=(b,.mapIter (some m) clock #[] clock)::l):=DP rfl λρ hρ=>by simp only[execOp,hρ x _ hx,AB];unfold Instr.range;rw[AB,E1 (Jj c.out)];simp only[AB];refine⟨_,hm,rfl,?_⟩;simp only[Bn,FF,AB];intro b hb;exact⟨b,hb,rfl,rfl⟩
theorem lg{last:Nat}(hx:ev fr x=some (.pointer (some ⟨b,0,none⟩)))(hm:(m,FX k es clock)∈F)(hold: ∀e∈es,e.2.2<since)(um:since<=last):
 OpE P ro N fr ((b,.mapIter (some m) since seen last)::F) ⟨d,.next x false,ty,pos,aft,g⟩ (λv' l'=>(v'= .tuple #[.bool false]/\l'=(b,.mapIter (some m) since seen last)::F/\ ∀e∈es,e.2.2∈seen.toList)\/
  ∃e∈es,e.2.2∉seen.toList/\v'= .tuple #[.bool true,.int k e.1,e.2.1]/\l'=(b,.mapIter (some m) since (seen.push e.2.2) clock)::F):=DP rfl λρ hρ=>by
 simp only[execOp,hρ x _ hx,AB];unfold Instr.next;simp only[AB];refine⟨_,Ak,rfl,?_⟩;simp only[Bn,FF,AB];refine⟨_,An _ hm,rfl,?_⟩;simp only[Bn,FF,AB];have N5: ∀y:MapEntry,y∈es.map (NZ k)->y.born<since:=λy hy=>by rw[Av] at hy;obtain⟨e,he,rfl⟩:=hy;exact hold e he
 have AdG:(!seen.isEmpty&&!(toArray (es.map (NZ k))).isEmpty&&(toArray (es.map (NZ k))).all (λe=>decide (e.born>=last)))=false:=by
  cases uo:es with
  |nil=>simp
  |cons e0 r=>
   have:=hold e0 (by rw[uo];exact Ak);have C9:¬last<=e0.2.2:=by omega
   simp[NZ,C9]
 rw[AdG];simp only[Bm,C6];obtain⟨L,hL⟩: ∃L:List LE,L=es.filter λe=>!seen.contains e.2.2:=⟨_,rfl⟩
 have eL:(toArray (es.map (NZ k))).filter (λe=>!seen.contains e.born)=toArray (L.map (NZ k)):=by apply BP.1;rw[Array.toList_filter];simp only[hL,List.filter_map];congr 1
 have hLm: ∀y:MapEntry,y∈L.map (NZ k)->y.born<since:=λy hy=>by rw[Av] at hy;obtain⟨e,he,rfl⟩:=hy;rw[hL] at he;exact hold e (BY.1 he).1
 rw[eL];have e1:(toArray (L.map (NZ k))).filter (λx=>decide (x.born<since))=toArray (L.map (NZ k)):=Array.filter_eq_self.2 λy hy=>by simpa using hLm y (by simpa using hy)
 have e2:(toArray (L.map (NZ k))).filter (λx=>decide (x.born>=since))=#[]:=by rw[Array.filter_eq_empty_iff];intro y hy;have:=hLm y (by simpa using hy);simp;omega
 simp only[e1,e2,K6];rw[gJ];intro tp;cases hLL:L with
 |nil=>
  have we:es.filter (λe=>!seen.contains e.2.2)=[]:=by rw[<-hL,hLL]
  have hq:(Question.mapNext 1).forced=true:=by simp[Question.forced]
  simp[hq];refine .inl ⟨rfl,rfl,λe1 e2 e3 he=>?_⟩;have:=List.filter_eq_nil_iff.1 we (e1,e2,e3) he;simpa using this
 |cons e0 r=>
  have He:(toArray ((e0::r).map (NZ k))).isEmpty=false:=by simp
  simp only[He,Bm,C6,K7,Array.size_map];obtain⟨j,hj,hjlt⟩: ∃j,(if(Question.mapNext (toArray ((e0::r).map (NZ k))).size).forced=true then 0 else(Question.mapNext (toArray ((e0::r).map (NZ k))).size).cut tp)=j/\j<(e0::r).length:=by
   refine⟨_,rfl,?_⟩
   split
   ·simp
   ·simp only[Question.cut,Bv,A7];exact Ho _ (by simp)
  rw[hj];have R9:((toArray ((e0::r).map (NZ k))).map some)[j]?=some (some (NZ k (e0::r)[j])):=by rw[Array.getElem?_map,AE,A6,Al hjlt];rfl
  rw[R9];have M2:(e0::r)[j]∈L:=by rw[hLL];exact GB hjlt
  rw[hL] at M2;obtain⟨wi,hi2⟩:=BY.1 M2;refine⟨.mapIter (some m) since seen last,_,.here,rfl,.inr ⟨_,wi,by simpa using hi2,rfl,rfl⟩⟩
theorem VB: ∀{es:List LE} {e:LE},e∈es->(es.map (·.2.2)).Nodup->(es.map (NZ k)).find? (λx=>x.born==e.2.2)=some (NZ k e)
 |[],e,h,_=>by cases h
 |e0::es,e,h,hn=>by
  rw[AJ,AP] at hn;rw[AJ,BJ];rcases At.1 h with rfl|h
  ·simp[NZ]
  ·have He:((NZ k e0).born==e.2.2)=false:=by
    have:e0.2.2≠e.2.2:=λh2=>hn.1 (by rw[h2];exact Av.2 ⟨e,h,rfl⟩);simpa[NZ] using this
   rw[He];exact VB h hn.2
theorem dQ{e:LE}(hx:ev fr x=some (.pointer (some ⟨b,0,none⟩)))(hi:(b,.mapIter (some m) since (seen.push e.2.2) clock)∈R)(hm:(m,FX k es clock)∈R)(he:e∈es)(hn:(es.map (·.2.2)).Nodup):
 OpQ P ro N fr R ⟨d,.entry x,ty,pos,aft,g⟩ (.tuple #[.int k e.1,e.2.1]):=BN rfl λρ l hρ hR=>by
 simp only[execOp,hρ x _ hx,AB];unfold Instr.entry;simp only[AB];refine⟨_,hR _ hi,rfl,?_⟩;simp only[Bn,FF,Array.back?_push,AB];refine⟨_,hR _ hm,rfl,?_⟩;have hf:(toArray (es.map (NZ k))).find? (·.born==e.2.2)=some (NZ k e):=by rw[<-Array.find?_toList];exact VB he hn
 simp only[Bn,FF,bne_self_eq_false,Bm,C6,hf];exact⟨rfl,trivial⟩
theorem gM(hx:ev fr x=some (.slice p n cap))(hy:ev fr y=some (.slice none 0 0))[c:ST P t e kk yb]:OpQ P ro N fr R ⟨d,.binOp .eql t x y t2,ty,pos,aft,g⟩ (.bool p.isNone):=BN rfl λρ l hρ _=>by obtain⟨Hv,u1,_⟩:=E8 c.out;simp only[execOp,hρ x _ hx,hρ y _ hy,AB,av,Bn,binOp];unfold Op.equal Op.maxDepth Op.equalIn;rw[Cc u1];cases p<;>exact⟨rfl,rfl⟩
theorem li{T:Nat}[c:ST P T e kk yb]:OpE P ro N fr l ⟨d,.buildSlice T 0 #[],ty,pos,aft,g⟩ (λv' l'=> ∃b,(∀c,c∈l->c.1≠b)/\v'= .slice (some ⟨b,0,none⟩) 0 0/\l'=(b,.cells #[] e (0,0))::l):=DP rfl λρ hρ=>by
 obtain⟨Hv,u1,u2,_⟩:=E8 c.out;simp only[execOp,AB];unfold Instr.buildSlice;rw[Cc u1];simp only;rw[E2 u2];simp only[GO,CS,AB];rw[Ab Af];have hf:Instr.fill (λi=>some (i*Hv.size,Hv.size)) (Array.map (λx=>(#[]:Array Value)[x%(#[]:Array Value).size]!) (Array.range 0)) ((#[]:Array (Nat×Operand)).map λx=>(x.1,ρ x.2)).toList=some #[]:=by simp[Instr.fill]
 simp only[Bn,AB,newRow];rw[hf];simp only[Bn,AB];intro b hb;exact⟨b,hb,rfl,rfl⟩
theorem OwnSl.empty{k:Nat}:OwnSl e k (.slice (some ⟨b,0,none⟩) 0 0) 0 [] [(b,.cells #[] e (0,0))]:=
 ⟨by simp,.inr ⟨b,0,[],rfl,rfl,Af,by unfold maxLen;omega,by simp⟩⟩
theorem Yp{T:Nat}(hs:ev fr s=some (.slice p n cap))(hx:ev fr x=some (.slice none 0 0))[c:ST P T e kk yb](hn:n<=cap):
 OpQ P ro N fr R ⟨d,.call {callee:= .builtin .append,args:=#[s,x],argTypes:=#[T,T]},ty,pos,aft,g⟩ (.slice p n cap):=BN rfl λρ l hρ _=>by
 obtain⟨Hv,u1,u2,_⟩:=E8 c.out;simp only[execOp,resolve,AB,Bn,invoke,builtin,Dj,AJ,CX,hρ s _ hs,hρ x _ hx];unfold Builtin.append_;simp only[AE,Dc,Db,AB];rw[E1 u1];simp only;rw[E2 u2];simp only[AB];rw[E1 u1];simp only[Bn,Bm,C6,Builtin.lenOf,Hp,CS,CV,Ad hn,AB,Builtin.firstCells];cases p with
 |none=>exact⟨rfl,rfl⟩
 |some a=>exact⟨rfl,rfl⟩
end
end Go.Proofs.YtlifcingifodfaaGreat
namespace Go.Proofs.YtlifcingifodfaaGreat
open Tryz
open List(toArray replicate)
variable{P:Program}{t j n f N:Nat}{p:Prop}{oj o:Oper}{l2 l' R:Ac}{v:Value}{ro:Option Nat}{ops:Array Oper}{K K':Value->Ac->Prop}{E:World}{Q:Exit->Act->World->Prop}{A3:List Oper}{ds:List Deferred}
class Vl(a:Nat)(r:outParam Nat):Prop where e:a=r
instance(a:Nat):Vl a a:=⟨rfl⟩
def mkA(p:Nat->Bool)(m:Nat):Nat->Bool
 |0=>true
 |n+1=>(Nat.land (Nat.shiftRight m n) 1==0||p n)&&mkA p m n
theorem mkA.at'{p:Nat->Bool}{m f:Nat}(h:Nat.land (Nat.shiftRight m f) 1=1): ∀n,mkA p m n=true->f<n->p f=true
 |n+1,ha,hf=>by
  unfold mkA at ha;simp only[AV] at ha;rcases Nat.lt_succ_iff_lt_or_eq.1 hf with h1|h1
  ·exact mkA.at' h n ha.2 h1
  ·subst h1;have:=ha.1;rw[h] at this;exact this
theorem VC{p:Nat->Bool}{m:Nat}(hm:Nat.shiftRight m n=0)(ha:mkA p m n=true)(h:Nat.land (Nat.shiftRight m f) 1=1):p f=true:=by
 by_cases hf:f<n
 ·exact mkA.at' h n ha hf
 ·have h2:m>>>f=0:=by
   rw[show f=n+(f-n) by omega,Nat.shiftRight_add,show m>>>n=0 from hm,Nat.zero_shiftRight]
  rw[show Nat.shiftRight m f=0 from h2] at h;cases h
def enB(P:Program)(f:Nat):Bool:=match P.funcs[f]? with
 |some fn=>!(fn.name== "runtime.NumGoroutine")&&!fn.body.isNone
 |none=>false
theorem enB.en(h:enB P f=true):EN P f:=by
 unfold enB at h;cases e:P.funcs[f]? with
 |none=>rw[e] at h;cases h
 |some fn=>rw[e] at h;simp only[AV,DU] at h;refine⟨λargs w=>?_⟩;simp[callFunc,go_sem,e];rw[Ab λh2=>by rw[h2] at h;simp at h,Ab λh2=>by rw[h2] at h;simp at h]
def zoB(P:Program)(q:Value->Bool)(t:Nat):Bool:=match zU P t with
 |some z=>q z
 |none=>false
def xj:Value->Bool
 | .agg _=>true
 |_=>false
def ocB(P:Program)(t:Nat):Bool:=qR P t&&zoB P (λz=>!xj z) t
def zeB:Value->Value->Bool
 | .nilFunc,.nilFunc=>true
 | .pointer none,.pointer none=>true
 | .slice none 0 0,.slice none 0 0=>true
 | .map none,.map none=>true
 |_,_=>false
theorem zoB.out{q:Value->Bool}(h:zoB P q t=true): ∃z,q z=true/\zU P t=some z/\w9 P t=some z.cells.toList:=by
 unfold zoB at h
 split at h
 ·rename_i z hz;refine⟨z,h,hz,?_⟩;unfold zU at hz;unfold w9;cases hi:P.info? t with
  |none=>rw[hi] at hz;cases hz
  |some i=>rw[hi] at hz;have hz':i.zero=some z:=hz;show(match i.zero with|some z=>some z.cells.toList|none=>none)=_;rw[hz']
 ·cases h
theorem zeB.zv(h:zoB P (zeB v) t=true):ZV P t [v]:=by
 obtain⟨z,h1,_,h3⟩:=zoB.out h;refine⟨?_⟩;rw[h3];unfold zeB at h1
 split at h1<;>first|rfl|cases h1
theorem ocB.zo{z:Value}(h:ocB P t=true)(hz:ZV P t [z]):ZO P t z:=by unfold ocB at h;rw[AV] at h;obtain⟨y,h1,h2,h3⟩:=zoB.out h.2;refine⟨?_⟩;rw[h2];have h4:=hz.out;rw[h3] at h4;cases y<;>first|(cases h1;done)|(cases h4;rfl)
theorem agB.zo{l:Ap}(h:zoB P xj t=true)(hz:ZV P t l):ZO P t (.agg (toArray l)):=by obtain⟨y,h1,h2,h3⟩:=zoB.out h;refine⟨?_⟩;rw[h2];have h4:=hz.out;rw[h3] at h4;cases y<;>first|(cases h1;done)|(cases h4;rfl)
def svB(P:Program)(t n:Nat)(l:List (Nat×Nat)):Bool:=match P.underlying t,P.info? t with
 |some (.struct fs),some j=>fs.toList.map (λf=>(f.offset,f.type))==l&&fs.toList.all (λf=>match P.info? f.type with
  |some i=>!(i.size==0)
  |none=>false)&&j.size==n
 |_,_=>false
class SV(P:Program)(t:Nat)(n:outParam Nat)(l:outParam (List (Nat×Nat))):Prop where out:svB P t n l=true
class LG(l:List (Nat×Nat))(i:Nat)(x:outParam (Nat×Nat)):Prop where out:l[i]?=some x
instance(a:Nat×Nat)(l:List (Nat×Nat)):LG (a::l) 0 a:=⟨rfl⟩
instance(a b:Nat×Nat)(l:List (Nat×Nat))(i:Nat)[h:LG l i b]:LG (a::l) (i+1) b:=⟨h.out⟩
theorem svB.out{l:List (Nat×Nat)}(h:svB P t n l=true): ∃fs j,P.underlying t=some (.struct fs)/\P.info? t=some j/\j.size=n/\fs.toList.map (λf=>(f.offset,f.type))=l/\ ∀f,f∈fs.toList-> ∃i,P.info? f.type=some i/\i.size≠0:=by
 unfold svB at h
 split at h
 ·rename_i fs j h1 h2;rw[AV,AV,A5] at h;refine⟨fs,j,h1,h2,by simpa using h.2,by simpa using h.1.1,λf hf=>?_⟩;have h3:=h.1.2 f hf
  split at h3
  ·rename_i i hi;exact⟨i,hi,by simpa using h3⟩
  ·cases h3
 ·cases h
theorem LG.at'{l:List (Nat×Nat)}(h:SV P t n l){x:Nat×Nat}(hx:LG l f x): ∃(fs:Array Field) (fd:Field) (i:TypeInfo),P.underlying t=some (.struct fs)/\fs[f]?=some fd/\fd.offset=x.1/\fd.type=x.2/\P.info? fd.type=some i/\i.size≠0:=by
 obtain⟨fs,j,h1,h2,h3,h4,h5⟩:=svB.out h.out;have h6:=hx.out;rw[<-h4,A6] at h6;cases e:fs.toList[f]? with
 |none=>rw[e] at h6;cases h6
 |some fd=>rw[e] at h6;cases h6;obtain⟨i,hi,hz⟩:=h5 fd (Bc e);exact⟨fs,fd,i,h1,by simpa using e,rfl,rfl,hi,hz⟩
instance(P:Program)(s n f k t:Nat)(l:List (Nat×Nat))[h:SV P s n l][hx:LG l f (k,t)]:FV P s f k t:=⟨by obtain⟨fs,fd,i,h1,h2,h3,h4,_⟩:=LG.at' h hx;unfold fvV;rw[h1];simp only[h2,BU,h3,h4]⟩
instance(P:Program)(s n f k t:Nat)(l:List (Nat×Nat))[h:SV P s n l][hx:LG l f (k,t)]:FO P s f k:=⟨by obtain⟨fs,fd,i,h1,h2,h3,h4,h5,h6⟩:=LG.at' h hx;unfold foV;rw[h1];simp only[h2,h5,Ab h6,h3]⟩
instance(P:Program)(t n:Nat)(l:List (Nat×Nat))[h:SV P t n l]:BT P t:=⟨by obtain⟨fs,j,h1,_,_,_,h5⟩:=svB.out h.out;unfold btV;rw[h1];show fs.all _=true;rw[<-Array.all_toList,A5];intro f hf;obtain⟨i,hi,_⟩:=h5 f hf;rw[hi];rfl⟩
instance(P:Program)(t n:Nat)(l:List (Nat×Nat))[h:SV P t n l]:AG P t n:=⟨by obtain⟨fs,j,h1,h2,h3,_⟩:=svB.out h.out;unfold uP;rw[h1,h2];exact BI some h3⟩
theorem EY{t z}(h:w9 prog t=some z:=by kernel_rfl):ZV prog t z:=⟨h⟩
theorem aH{t z}(h:uP prog t=some z:=by kernel_rfl):AG prog t z:=⟨h⟩
theorem NS{t z}(h:ptV prog t=some z:=by kernel_rfl):PT prog t z:=⟨h⟩
theorem FQ{t n l}(h:svB prog t n l=true:=by kernel_rfl):SV prog t n l:=⟨h⟩
instance:IT prog 3 .i64:=⟨BA⟩
instance:ZV prog 3 [.int .i64 0]:=EY
instance:ZV prog 4 [.bool false]:=EY
instance:SV prog 23 4 [(0,3),(1,3),(2,3),(3,4)]:=FQ
instance:ZV prog 23 [.int .i64 0,.int .i64 0,.int .i64 0,.bool false]:=EY
instance:ST prog 24 39 15 120:=⟨BA⟩
instance:PT prog 27 120:=NS
instance:ZV prog 29 [.int .i64 0]:=EY
instance:ST prog 30 69 12 96:=⟨BA⟩
instance:SV prog 32 2 [(0,29),(1,30)]:=FQ
instance:ZV prog 32 [.int .i64 0,.slice none 0 0]:=EY
instance:IT prog 34 .u64:=⟨BA⟩
instance:ZV prog 34 [.int .u64 0]:=EY
instance:AT prog 35 6 34 1:=⟨BA⟩
instance:AG prog 35 6:=aH
instance:ZV prog 35 [.int .u64 0,.int .u64 0,.int .u64 0,.int .u64 0,.int .u64 0,.int .u64 0]:=EY
instance:SV prog 37 7 [(0,34),(1,35)]:=FQ
instance:ZV prog 37 [.int .u64 0,.int .u64 0,.int .u64 0,.int .u64 0,.int .u64 0,.int .u64 0,.int .u64 0]:=EY
instance:SV prog 39 15 [(0,3),(1,3),(2,3),(3,37),(10,34),(11,34),(12,3),(13,3),(14,3)]:=FQ
instance:ZV prog 39 [.int .i64 0,.int .i64 0,.int .i64 0,.int .u64 0,.int .u64 0,.int .u64 0,.int .u64 0,.int .u64 0,.int .u64 0,.int .u64 0,.int .u64 0,.int .u64 0,.int .i64 0,.int .i64 0,.int .i64 0]:=EY
instance:ST prog 40 3 1 8:=⟨BA⟩
instance:ST prog 43 100 9 72:=⟨BA⟩
instance:ST prog 44 131 10 80:=⟨BA⟩
instance:ST prog 45 129 3 24:=⟨BA⟩
instance:ST prog 46 79 24 176:=⟨BA⟩
instance:AT prog 47 4 3 1:=⟨BA⟩
instance:AG prog 47 4:=aH
instance:ZV prog 47 [.int .i64 0,.int .i64 0,.int .i64 0,.int .i64 0]:=EY
instance:SV prog 49 10 [(0,3),(1,4),(2,47),(6,47)]:=FQ
instance:ZV prog 49 [.int .i64 0,.bool false,.int .i64 0,.int .i64 0,.int .i64 0,.int .i64 0,.int .i64 0,.int .i64 0,.int .i64 0,.int .i64 0]:=EY
instance:AT prog 50 8 49 10:=⟨BA⟩
instance:AG prog 50 80:=aH
instance:ZV prog 50 [.int .i64 0,.bool false,.int .i64 0,.int .i64 0,.int .i64 0,.int .i64 0,.int .i64 0,.int .i64 0,.int .i64 0,.int .i64 0,.int .i64 0,.bool false,.int .i64 0,.int .i64 0,.int .i64 0,.int .i64 0,.int .i64 0,.int .i64 0,.int .i64 0,.int .i64 0,.int .i64 0,.bool false,.int .i64 0,.int .i64 0,.int .i64 0,.int .i64 0,.int .i64 0,.int .i64 0,.int .i64 0,.int .i64 0,.int .i64 0,.bool false,.int .i64 0,.int .i64 0,.int .i64 0,.int .i64 0,.int .i64 0,.int .i64 0,.int .i64 0,.int .i64 0,.int .i64 0,.bool false,.int .i64 0,.int .i64 0,.int .i64 0,.int .i64 0,.int .i64 0,.int .i64 0,.int .i64 0,.int .i64 0,.int .i64 0,.bool false,.int .i64 0,.int .i64 0,.int .i64 0,.int .i64 0,.int .i64 0,.int .i64 0,.int .i64 0,.int .i64 0,.int .i64 0,.bool false,.int .i64 0,.int .i64 0,.int .i64 0,.int .i64 0,.int .i64 0,.int .i64 0,.int .i64 0,.int .i64 0,.int .i64 0,.bool false,.int .i64 0,.int .i64 0,.int .i64 0,.int .i64 0,.int .i64 0,.int .i64 0,.int .i64 0,.int .i64 0]:=EY
instance:SV prog 52 86 [(0,43),(1,44),(2,45),(3,46),(4,50),(84,40),(85,40)]:=FQ
instance:ZV prog 52 [.slice none 0 0,.slice none 0 0,.slice none 0 0,.slice none 0 0,.int .i64 0,.bool false,.int .i64 0,.int .i64 0,.int .i64 0,.int .i64 0,.int .i64 0,.int .i64 0,.int .i64 0,.int .i64 0,.int .i64 0,.bool false,.int .i64 0,.int .i64 0,.int .i64 0,.int .i64 0,.int .i64 0,.int .i64 0,.int .i64 0,.int .i64 0,.int .i64 0,.bool false,.int .i64 0,.int .i64 0,.int .i64 0,.int .i64 0,.int .i64 0,.int .i64 0,.int .i64 0,.int .i64 0,.int .i64 0,.bool false,.int .i64 0,.int .i64 0,.int .i64 0,.int .i64 0,.int .i64 0,.int .i64 0,.int .i64 0,.int .i64 0,.int .i64 0,.bool false,.int .i64 0,.int .i64 0,.int .i64 0,.int .i64 0,.int .i64 0,.int .i64 0,.int .i64 0,.int .i64 0,.int .i64 0,.bool false,.int .i64 0,.int .i64 0,.int .i64 0,.int .i64 0,.int .i64 0,.int .i64 0,.int .i64 0,.int .i64 0,.int .i64 0,.bool false,.int .i64 0,.int .i64 0,.int .i64 0,.int .i64 0,.int .i64 0,.int .i64 0,.int .i64 0,.int .i64 0,.int .i64 0,.bool false,.int .i64 0,.int .i64 0,.int .i64 0,.int .i64 0,.int .i64 0,.int .i64 0,.int .i64 0,.int .i64 0,.slice none 0 0,.slice none 0 0]:=EY
instance:AT prog 54 3 3 1:=⟨BA⟩
instance:ZV prog 54 [.int .i64 0,.int .i64 0,.int .i64 0]:=EY
instance:AT prog 55 4 34 1:=⟨BA⟩
instance:AG prog 55 4:=aH
instance:ZV prog 55 [.int .u64 0,.int .u64 0,.int .u64 0,.int .u64 0]:=EY
instance:SV prog 57 12 [(0,3),(1,3),(2,3),(3,3),(4,54),(7,34),(8,55)]:=FQ
instance:ZV prog 57 [.int .i64 0,.int .i64 0,.int .i64 0,.int .i64 0,.int .i64 0,.int .i64 0,.int .i64 0,.int .u64 0,.int .u64 0,.int .u64 0,.int .u64 0,.int .u64 0]:=EY
instance:SV prog 61 2 [(0,3),(1,3)]:=FQ
instance:ZV prog 61 [.int .i64 0,.int .i64 0]:=EY
instance:ST prog 64 61 2 16:=⟨BA⟩
instance:SV prog 67 3 [(0,3),(1,34),(2,4)]:=FQ
instance:ZV prog 67 [.int .i64 0,.int .u64 0,.bool false]:=EY
instance:SV prog 69 12 [(0,3),(1,29),(2,34),(3,55),(7,34),(8,4),(9,67)]:=FQ
instance:ZV prog 69 [.int .i64 0,.int .i64 0,.int .u64 0,.int .u64 0,.int .u64 0,.int .u64 0,.int .u64 0,.int .u64 0,.bool false,.int .i64 0,.int .u64 0,.bool false]:=EY
instance:SV prog 74 8 [(0,3),(1,3),(2,3),(3,34),(4,3),(5,3),(6,3),(7,3)]:=FQ
instance:ZV prog 74 [.int .i64 0,.int .i64 0,.int .i64 0,.int .u64 0,.int .i64 0,.int .i64 0,.int .i64 0,.int .i64 0]:=EY
instance:SV prog 77 4 [(0,4),(1,4),(2,34),(3,34)]:=FQ
instance:ZV prog 77 [.bool false,.bool false,.int .u64 0,.int .u64 0]:=EY
instance:SV prog 79 24 [(0,3),(1,3),(2,3),(3,55),(7,34),(8,4),(9,3),(10,3),(11,55),(15,34),(16,3),(17,3),(18,4),(19,4),(20,77)]:=FQ
instance:ZV prog 79 [.int .i64 0,.int .i64 0,.int .i64 0,.int .u64 0,.int .u64 0,.int .u64 0,.int .u64 0,.int .u64 0,.bool false,.int .i64 0,.int .i64 0,.int .u64 0,.int .u64 0,.int .u64 0,.int .u64 0,.int .u64 0,.int .i64 0,.int .i64 0,.bool false,.bool false,.bool false,.bool false,.int .u64 0,.int .u64 0]:=EY
instance:ST prog 82 32 2 32:=⟨BA⟩
instance:ST prog 97 34 1 8:=⟨BA⟩
instance:SV prog 100 9 [(0,3),(1,3),(2,3),(3,3),(4,3),(5,3),(6,3),(7,3),(8,3)]:=FQ
instance:ZV prog 100 [.int .i64 0,.int .i64 0,.int .i64 0,.int .i64 0,.int .i64 0,.int .i64 0,.int .i64 0,.int .i64 0,.int .i64 0]:=EY
instance:PT prog 118 152:=NS
instance:SV prog 120 3 [(0,118),(1,40),(2,82)]:=FQ
instance:ZV prog 120 [.pointer none,.slice none 0 0,.slice none 0 0]:=EY
instance:IT prog 123 .u64:=⟨BA⟩
instance:PT prog 124 162:=NS
instance:SV prog 129 3 [(0,61),(2,3)]:=FQ
instance:ZV prog 129 [.int .i64 0,.int .i64 0,.int .i64 0]:=EY
instance:SV prog 131 10 [(0,61),(2,74)]:=FQ
instance:ZV prog 131 [.int .i64 0,.int .i64 0,.int .i64 0,.int .i64 0,.int .i64 0,.int .u64 0,.int .i64 0,.int .i64 0,.int .i64 0,.int .i64 0]:=EY
instance:SV prog 152 1 [(0,124)]:=FQ
instance:ZV prog 152 [.pointer none]:=EY
instance:PT prog 153 253:=NS
instance:PT prog 154 282:=NS
instance:PT prog 155 316:=NS
instance:PT prog 156 234:=NS
instance:PT prog 157 241:=NS
instance:PT prog 158 277:=NS
instance:PT prog 159 339:=NS
instance:PT prog 160 344:=NS
instance:SV prog 162 9 [(0,153),(1,154),(2,155),(3,156),(4,157),(5,158),(6,159),(7,160),(8,40)]:=FQ
instance:ZV prog 162 [.pointer none,.pointer none,.pointer none,.pointer none,.pointer none,.pointer none,.pointer none,.pointer none,.slice none 0 0]:=EY
instance:PT prog 171 3:=NS
instance:ST prog 172 183 4 32:=⟨BA⟩
instance:PT prog 180 183:=NS
instance:SV prog 183 4 [(0,34),(1,34),(2,171),(3,181)]:=FQ
instance:ZV prog 183 [.int .u64 0,.int .u64 0,.pointer none,.pointer none]:=EY
instance:ST prog 193 202 5 40:=⟨BA⟩
instance:SV prog 198 3 [(0,3),(1,3),(2,3)]:=FQ
instance:ZV prog 198 [.int .i64 0,.int .i64 0,.int .i64 0]:=EY
instance:SV prog 202 5 [(0,3),(1,3),(2,3),(3,3),(4,3)]:=FQ
instance:ZV prog 202 [.int .i64 0,.int .i64 0,.int .i64 0,.int .i64 0,.int .i64 0]:=EY
instance:PT prog 230 406:=NS
instance:PT prog 232 328:=NS
instance:SV prog 234 2 [(0,230),(1,232)]:=FQ
instance:ZV prog 234 [.pointer none,.pointer none]:=EY
instance:AT prog 239 32 3 1:=⟨BA⟩
instance:SV prog 241 112 [(0,50),(80,239)]:=FQ
instance:ZV prog 241 [.int .i64 0,.bool false,.int .i64 0,.int .i64 0,.int .i64 0,.int .i64 0,.int .i64 0,.int .i64 0,.int .i64 0,.int .i64 0,.int .i64 0,.bool false,.int .i64 0,.int .i64 0,.int .i64 0,.int .i64 0,.int .i64 0,.int .i64 0,.int .i64 0,.int .i64 0,.int .i64 0,.bool false,.int .i64 0,.int .i64 0,.int .i64 0,.int .i64 0,.int .i64 0,.int .i64 0,.int .i64 0,.int .i64 0,.int .i64 0,.bool false,.int .i64 0,.int .i64 0,.int .i64 0,.int .i64 0,.int .i64 0,.int .i64 0,.int .i64 0,.int .i64 0,.int .i64 0,.bool false,.int .i64 0,.int .i64 0,.int .i64 0,.int .i64 0,.int .i64 0,.int .i64 0,.int .i64 0,.int .i64 0,.int .i64 0,.bool false,.int .i64 0,.int .i64 0,.int .i64 0,.int .i64 0,.int .i64 0,.int .i64 0,.int .i64 0,.int .i64 0,.int .i64 0,.bool false,.int .i64 0,.int .i64 0,.int .i64 0,.int .i64 0,.int .i64 0,.int .i64 0,.int .i64 0,.int .i64 0,.int .i64 0,.bool false,.int .i64 0,.int .i64 0,.int .i64 0,.int .i64 0,.int .i64 0,.int .i64 0,.int .i64 0,.int .i64 0,.int .i64 0,.int .i64 0,.int .i64 0,.int .i64 0,.int .i64 0,.int .i64 0,.int .i64 0,.int .i64 0,.int .i64 0,.int .i64 0,.int .i64 0,.int .i64 0,.int .i64 0,.int .i64 0,.int .i64 0,.int .i64 0,.int .i64 0,.int .i64 0,.int .i64 0,.int .i64 0,.int .i64 0,.int .i64 0,.int .i64 0,.int .i64 0,.int .i64 0,.int .i64 0,.int .i64 0,.int .i64 0,.int .i64 0,.int .i64 0,.int .i64 0,.int .i64 0]:=EY
instance:ST prog 251 254 8 64:=⟨BA⟩
instance:SV prog 253 1 [(0,251)]:=FQ
instance:ZV prog 253 [.slice none 0 0]:=EY
instance:AT prog 254 8 34 1:=⟨BA⟩
instance:AG prog 254 8:=aH
instance:ZV prog 254 [.int .u64 0,.int .u64 0,.int .u64 0,.int .u64 0,.int .u64 0,.int .u64 0,.int .u64 0,.int .u64 0]:=EY
instance:MT prog 275 3 79:=⟨BA⟩
instance:SV prog 277 1 [(0,275)]:=FQ
instance:ZV prog 277 [.map none]:=EY
instance:ST prog 280 309 3 24:=⟨BA⟩
instance:SV prog 282 1 [(0,280)]:=FQ
instance:ZV prog 282 [.slice none 0 0]:=EY
instance:SV prog 292 18 [(0,124),(1,3),(2,57),(14,61),(16,61)]:=FQ
instance:ZV prog 292 [.pointer none,.int .i64 0,.int .i64 0,.int .i64 0,.int .i64 0,.int .i64 0,.int .i64 0,.int .i64 0,.int .i64 0,.int .u64 0,.int .u64 0,.int .u64 0,.int .u64 0,.int .u64 0,.int .i64 0,.int .i64 0,.int .i64 0,.int .i64 0]:=EY
instance:SV prog 301 5 [(0,3),(1,3),(2,3),(3,4),(4,4)]:=FQ
instance:ZV prog 301 [.int .i64 0,.int .i64 0,.int .i64 0,.bool false,.bool false]:=EY
instance:PT prog 307 399:=NS
instance:SV prog 309 3 [(0,3),(1,3),(2,307)]:=FQ
instance:ZV prog 309 [.int .i64 0,.int .i64 0,.pointer none]:=EY
instance:AT prog 314 64 3 1:=⟨BA⟩
instance:SV prog 316 66 [(0,3),(1,314),(65,43)]:=FQ
instance:ZV prog 316 [.int .i64 0,.int .i64 0,.int .i64 0,.int .i64 0,.int .i64 0,.int .i64 0,.int .i64 0,.int .i64 0,.int .i64 0,.int .i64 0,.int .i64 0,.int .i64 0,.int .i64 0,.int .i64 0,.int .i64 0,.int .i64 0,.int .i64 0,.int .i64 0,.int .i64 0,.int .i64 0,.int .i64 0,.int .i64 0,.int .i64 0,.int .i64 0,.int .i64 0,.int .i64 0,.int .i64 0,.int .i64 0,.int .i64 0,.int .i64 0,.int .i64 0,.int .i64 0,.int .i64 0,.int .i64 0,.int .i64 0,.int .i64 0,.int .i64 0,.int .i64 0,.int .i64 0,.int .i64 0,.int .i64 0,.int .i64 0,.int .i64 0,.int .i64 0,.int .i64 0,.int .i64 0,.int .i64 0,.int .i64 0,.int .i64 0,.int .i64 0,.int .i64 0,.int .i64 0,.int .i64 0,.int .i64 0,.int .i64 0,.int .i64 0,.int .i64 0,.int .i64 0,.int .i64 0,.int .i64 0,.int .i64 0,.int .i64 0,.int .i64 0,.int .i64 0,.int .i64 0,.slice none 0 0]:=EY
instance:PT prog 325 330:=NS
instance:MT prog 326 61 325:=⟨BA⟩
instance:SV prog 328 2 [(0,325),(1,326)]:=FQ
instance:ZV prog 328 [.pointer none,.map none]:=EY
instance:SV prog 330 5 [(0,61),(2,3),(3,325),(4,325)]:=FQ
instance:ZV prog 330 [.int .i64 0,.int .i64 0,.int .i64 0,.pointer none,.pointer none]:=EY
instance:AT prog 337 8 40 1:=⟨BA⟩
instance:SV prog 339 8 [(0,337)]:=FQ
instance:ZV prog 339 [.slice none 0 0,.slice none 0 0,.slice none 0 0,.slice none 0 0,.slice none 0 0,.slice none 0 0,.slice none 0 0,.slice none 0 0]:=EY
instance:MT prog 342 3 351:=⟨BA⟩
instance:SV prog 344 1 [(0,342)]:=FQ
instance:ZV prog 344 [.map none]:=EY
instance:PT prog 351 353:=NS
instance:SV prog 353 2 [(0,40),(1,4)]:=FQ
instance:ZV prog 353 [.slice none 0 0,.bool false]:=EY
instance:SV prog 360 3 [(0,3),(1,3),(2,3)]:=FQ
instance:ZV prog 360 [.int .i64 0,.int .i64 0,.int .i64 0]:=EY
instance:SV prog 389 5 [(0,4),(1,4),(2,4),(3,4),(4,3)]:=FQ
instance:ZV prog 389 [.bool false,.bool false,.bool false,.bool false,.int .i64 0]:=EY
instance:AT prog 394 2 301 5:=⟨BA⟩
instance:AG prog 394 10:=aH
instance:SV prog 396 11 [(0,394),(10,3)]:=FQ
instance:AT prog 397 4 396 11:=⟨BA⟩
instance:SV prog 399 44 [(0,397)]:=FQ
instance:ZV prog 399 [.int .i64 0,.int .i64 0,.int .i64 0,.bool false,.bool false,.int .i64 0,.int .i64 0,.int .i64 0,.bool false,.bool false,.int .i64 0,.int .i64 0,.int .i64 0,.int .i64 0,.bool false,.bool false,.int .i64 0,.int .i64 0,.int .i64 0,.bool false,.bool false,.int .i64 0,.int .i64 0,.int .i64 0,.int .i64 0,.bool false,.bool false,.int .i64 0,.int .i64 0,.int .i64 0,.bool false,.bool false,.int .i64 0,.int .i64 0,.int .i64 0,.int .i64 0,.bool false,.bool false,.int .i64 0,.int .i64 0,.int .i64 0,.bool false,.bool false,.int .i64 0]:=EY
instance:MT prog 403 3 404:=⟨BA⟩
instance:ST prog 404 74 8 64:=⟨BA⟩
instance:SV prog 406 1 [(0,403)]:=FQ
instance:ZV prog 406 [.map none]:=EY
instance:SV prog 424 4 [(0,3),(1,3),(2,3),(3,3)]:=FQ
instance:ZV prog 424 [.int .i64 0,.int .i64 0,.int .i64 0,.int .i64 0]:=EY
instance:SV prog 442 3 [(0,61),(2,3)]:=FQ
instance:ZV prog 442 [.int .i64 0,.int .i64 0,.int .i64 0]:=EY
instance:SV prog 457 3 [(0,61),(2,3)]:=FQ
instance:ZV prog 457 [.int .i64 0,.int .i64 0,.int .i64 0]:=EY
instance:AT prog 473 2 4 1:=⟨BA⟩
instance:ZV prog 473 [.bool false,.bool false]:=EY
instance:SV prog 491 1 [(0,64)]:=FQ
instance:ZV prog 491 [.slice none 0 0]:=EY
instance:ST prog 497 457 3 24:=⟨BA⟩
instance:AT prog 504 4 503 1:=⟨BA⟩
instance:AG prog 504 4:=aH
instance:ZV prog 504 [.pointer none,.pointer none,.pointer none,.pointer none]:=EY
instance:SV prog 510 2 [(0,34),(1,29)]:=FQ
instance:ZV prog 510 [.int .u64 0,.int .i64 0]:=EY
abbrev tmE:Nat:=0x3fffffffffffffffffffffffffffffffffffffefffffffffffffffffffffffffffffffffffffffffffffffffffffffffff8
theorem rc:mkA (enB prog) tmE 394=true:=BA
instance(t:Nat)[h:Vl (Nat.land (Nat.shiftRight tmE t) 1) 1]:EN prog t:=enB.en (VC BA rc h.e)
abbrev tmO:Nat:=0x4301fffdffbff9efbf3f7fdfffcbef9fedc7bbf9f038bffed7c7cfe71f87fe28d8d45b1cefff50ffc79fedffdd91f773fdff9fe6d7ff0be6d7fe7bff7098388207f067f30123e
theorem dR:mkA (ocB prog) tmO 563=true:=BA
instance(t:Nat)[h:Vl (Nat.land (Nat.shiftRight tmO t) 1) 1]:OC prog t:=⟨(Bool.and_eq_true_iff.1 (VC BA dR h.e)).1⟩
instance(t:Nat)(z:Value)[h:Vl (Nat.land (Nat.shiftRight tmO t) 1) 1][hz:ZV prog t [z]]:ZO prog t z:=ocB.zo (VC BA dR h.e) hz
abbrev tmG:Nat:=0x61000c0002000300060001800060fc3000000183018e07801c30301806300000700386000000066000c000060180000f018000180000f63c33df80f980c02000
theorem rh:mkA (zoB prog xj) tmG 511=true:=BA
instance(t:Nat)(l:Ap)[h:Vl (Nat.land (Nat.shiftRight tmG t) 1) 1][hz:ZV prog t l]:ZO prog t (.agg (toArray l)):=agB.zo (VC BA rh h.e) hz
abbrev Abs:Nat:=0x42004000000000480020001000000001000002000020000000000c00000200009000000000000000001600000000000308801fe00000010400000000000000000000008000000
theorem lj:mkA (zoB prog (zeB (.pointer none))) Abs 563=true:=BA
instance(t:Nat)[h:Vl (Nat.land (Nat.shiftRight Abs t) 1) 1]:ZV prog t [.pointer none]:=zeB.zv (VC BA lj h.e)
abbrev Abt:Nat:=0x20000000000000000000000100000000000000000000000000000010000000800000000000002000010000000000000000002000400010000790041000000
theorem lk:mkA (zoB prog (zeB (.slice none 0 0))) Abt 498=true:=BA
instance(t:Nat)[h:Vl (Nat.land (Nat.shiftRight Abt t) 1) 1]:ZV prog t [.slice none 0 0]:=zeB.zv (VC BA lk h.e)
open Go.RowKit
section
variable{fr fr':Fr}{l:Ac}{d:Nat}
theorem zq(h:p:=by first|(show OpQ _ _ _ _ _ ⟨_,.move _,_,_,_,_⟩ _;exact xb rfl)|(show OpQ _ _ _ _ _ ⟨_,.load _ _,_,_,_,_⟩ _;first|exact DS rfl (by((repeat(first|with_reducible apply Ak|with_reducible apply An));try with_reducible assumption)) (by(first|with_reducible assumption|((with_reducible apply Lh);(repeat(first|with_reducible apply LGet.zero|with_reducible apply LGet.succ)))))|exact Ge rfl (by((repeat(first|with_reducible apply Ak|with_reducible apply An));try with_reducible assumption)) (by(repeat(first|with_reducible apply LSub.done|with_reducible apply LSub.take|with_reducible apply LSub.drop))))|(show OpQ _ _ _ _ _ ⟨_,.fieldAddr _ _ _,_,_,_,_⟩ _;exact Yc rfl (by(first|with_reducible exact BF _|with_reducible exact CV _|exact rfl)))|(show OpQ _ _ _ _ _ ⟨_,.nilCheck _,_,_,_,_⟩ _;first|exact ap rfl|exact q_nilCheck_f rfl|exact q_nilCheck_y rfl)|(show OpQ _ _ _ _ _ ⟨_,.assign _,_,_,_,_⟩ _;exact kM rfl)|(show OpQ _ _ _ _ _ ⟨_,.indexAddr _ _ _,_,_,_,_⟩ _;first|exact Yd rfl rfl Af (by(first|with_reducible exact BF _|with_reducible exact CV _|exact rfl))|exact aq rfl rfl Af (by(first|with_reducible exact BF _|with_reducible exact CV _|exact rfl))|exact Tj rfl rfl Af|exact Vu rfl rfl Af)|(show OpQ _ _ _ _ _ ⟨_,.binOp .eql _ _ _ _,_,_,_,_⟩ _;first|exact Abh rfl rfl|exact qY rfl rfl|exact Abk rfl rfl Tryz.underlying4|exact gM rfl rfl)|(show OpQ _ _ _ _ _ ⟨_,.binOp .add _ _ _ _,_,_,_,_⟩ _;exact Aa9 rfl rfl (by first|exact Ss Af Af|exact Qc Af Af))|(show OpQ _ _ _ _ _ ⟨_,.binOp .lss _ _ _ _,_,_,_,_⟩ _;exact Abd rfl rfl)|(show OpQ _ _ _ _ _ ⟨_,.pick _ _ _,_,_,_,_⟩ _;first|exact kN rfl rfl|exact kO rfl rfl)|(show OpQ _ _ _ _ _ ⟨_,.extract _ _,_,_,_,_⟩ _;exact gI rfl rfl)|(show OpQ _ _ _ _ _ ⟨_,.binOp .neq _ _ _ _,_,_,_,_⟩ _;first|exact Abi rfl rfl|exact qZ rfl rfl|exact Abl rfl rfl Tryz.underlying4|exact q_nenilsl rfl rfl)|(show OpQ _ _ _ _ _ ⟨_,.binOp .geq _ _ _ _,_,_,_,_⟩ _;exact Abg rfl rfl)|(show OpQ _ _ _ _ _ ⟨_,.binOp .gtr _ _ _ _,_,_,_,_⟩ _;exact Abf rfl rfl)|(show OpQ _ _ _ _ _ ⟨_,.binOp .leq _ _ _ _,_,_,_,_⟩ _;exact Abe rfl rfl)|(show OpQ _ _ _ _ _ ⟨_,.unOp .not _ _,_,_,_,_⟩ _;exact Abj rfl)|(show OpQ _ _ _ _ _ ⟨_,.binOp .sub _ _ _ _,_,_,_,_⟩ _;exact uQ rfl rfl (by first|exact Ss Af Af|exact Qc Af Af))|(show OpQ _ _ _ _ _ ⟨_,.call {callee:= .builtin .len,args:=_,argTypes:=_},_,_,_,_⟩ _;first|exact kT rfl|exact q_len_map rfl (by((repeat(first|with_reducible apply Ak|with_reducible apply An));try with_reducible assumption)))|(show OpQ _ _ _ _ _ ⟨_,.field _ _ _,_,_,_,_⟩ _;first|exact q5 rfl (by(first|with_reducible assumption|((with_reducible apply Lh);(repeat(first|with_reducible apply LGet.zero|with_reducible apply LGet.succ)))))|exact kU rfl (by(repeat(first|with_reducible apply LSub.done|with_reducible apply LSub.take|with_reducible apply LSub.drop))))|(show OpQ _ _ _ _ _ ⟨_,.build _ _,_,_,_,_⟩ _;exact dM rfl (by(repeat(first|apply BuildS.nil|(apply BuildS.one;(·infer_instance);(·infer_instance);(·rfl);(·(repeat(first|with_reducible apply LSet.zero|with_reducible apply LSet.succ))))|(apply BuildS.agg;(·infer_instance);(·infer_instance);(·rfl);(·(repeat(first|with_reducible apply LSetA.done|with_reducible apply LSetA.put|with_reducible apply LSetA.skip))))))))|(show OpQ _ _ _ _ _ ⟨_,.makeFunc _ _ _,_,_,_,_⟩ _;first|exact aw rfl|exact q_makeFunc0)|(show OpQ _ _ _ _ _ ⟨_,.convert _ _ _,_,_,_,_⟩ _;exact xe rfl (by exact⟨Af,Af⟩))|(show OpQ _ _ _ _ _ ⟨_,.binOp .mul _ _ _ _,_,_,_,_⟩ _;exact Aba rfl rfl (by first|exact Ss Af Af|exact Qc Af Af))|(show OpQ _ _ _ _ _ ⟨_,.binOp .quo _ _ _ _,_,_,_,_⟩ _;exact Abb rfl rfl Af Af (by first|exact Ss Af Af|exact Qc Af Af))|(show OpQ _ _ _ _ _ ⟨_,.binOp .rem _ _ _ _,_,_,_,_⟩ _;exact Abc rfl rfl Af Af)|(show OpQ _ _ _ _ _ ⟨_,.lookup _ _ _ _,_,_,_,_⟩ _;first|exact ld rfl rfl (by((repeat(first|with_reducible apply Ak|with_reducible apply An));try with_reducible assumption))|exact gK rfl rfl (by((repeat(first|with_reducible apply Ak|with_reducible apply An));try with_reducible assumption)))|fail):p:=h
theorem zst(h:p:=by first|(apply GF;(·rfl);(·rfl);(·first|rfl|assumption);(·((repeat(first|with_reducible apply Ak|with_reducible apply An));try with_reducible assumption));(·(repeat(first|with_reducible apply LSet.zero|with_reducible apply LSet.succ)));(·(repeat(first|apply Upd.here|apply Upd.there))))|(apply Vv;(·rfl);(·rfl);(·rfl);(·simp[Value.oneCell']);(·((repeat(first|with_reducible apply Ak|with_reducible apply An));try with_reducible assumption));(·(repeat(first|with_reducible apply LSetA.done|with_reducible apply LSetA.put|with_reducible apply LSetA.skip)));(·(repeat(first|apply Upd.here|apply Upd.there))))|fail):p:=h
theorem zH0{l:Ac}(h:l.Sublist l':=by(repeat(first|with_reducible apply EO|with_reducible apply HQ|with_reducible apply List.Sublist.cons_cons|with_reducible apply List.Sublist.cons))): ∀c,c∈l->c∈l':=λ_ hc=>h.subset hc
theorem ozq(hk:DA P ro N E ops Q A3 ((d,v)::fr) ds l)(h:OpQ P ro N fr l o v:=by exact zq)(hw:Rb ops fr o.guard=some true:=by rfl)(hd:o.dst=some d:=by rfl)(hb:Nat.blt d N=true:=by rfl):DA P ro N E ops Q (o::A3) fr ds l:=NY h hw hd hb hk
theorem ozs(hk:DA P ro N E ops Q A3 ((d,undef)::fr) ds l)(hw:Rb ops fr o.guard=some false:=by rfl)(hd:o.dst=some d:=by rfl)(hb:Nat.blt d N=true:=by rfl):DA P ro N E ops Q (o::A3) fr ds l:=AeM hw hd hb hk
theorem ozt{w:Bool}{ip:Decidable p}(h:DA P ro N E ops Q (o::A3) ((t,.bool true)::fr) ds l)(hw:o.guard=some (j,w):=by rfl)(hj:ops[j]?=some oj:=by rfl)(Ld:oj.dst=some t:=by rfl)(hc:BZ fr t=some (.bool (@decide p ip)):=by rfl)(hp:p:=by omega):DA P ro N E ops Q (o::A3) fr ds l:=dI hw hj Ld hc hp h
theorem ozf{w:Bool}{ip:Decidable p}(h:DA P ro N E ops Q (o::A3) ((t,.bool false)::fr) ds l)(hw:o.guard=some (j,w):=by rfl)(hj:ops[j]?=some oj:=by rfl)(Ld:oj.dst=some t:=by rfl)(hc:BZ fr t=some (.bool (@decide p ip)):=by rfl)(hp:¬p:=by omega):DA P ro N E ops Q (o::A3) fr ds l:=dJ hw hj Ld hc hp h
theorem ozn(hk:DA P ro N E ops Q A3 fr ds l2)(h:OpE P ro N fr l o (λv' l'=>v'=undef/\l'=l2):=by exact zst)(hw:o.guard=none:=by rfl)(hd:o.dst=none:=by rfl):DA P ro N E ops Q (o::A3) fr ds l:=M9 h hw hd λv l' h=>by rw[h.2];exact hk
variable{tbl:List (List Nat)}{sw:Sw}{sp:FP}{pl:List BG}{i:Nat}{k:Bool}
theorem pY(hk:PlanS P ro N E ops Q R tbl sw sp pl ((d,v)::fr) ds l)(h:OpQ P ro N fr R o v:=by exact zq)(hw:Rb ops fr o.guard=some true:=by rfl)(hd:o.dst=some d:=by rfl)(hb:Nat.blt d N=true:=by rfl):PlanS P ro N E ops Q R tbl sw sp ((i,true,o)::pl) fr ds l:=aB h hw hd hb hk
theorem pzs(hk:PlanS P ro N E ops Q R tbl none [] pl ((d,undef)::fr) ds l)(hR: ∀c,c∈R->c∈l:=by exact zH0)(hw:Rb ops fr o.guard=some false:=by rfl)(hd:o.dst=some d:=by rfl)(hb:Nat.blt d N=true:=by rfl):PlanS P ro N E ops Q R tbl none [] ((i,k,o)::pl) fr ds l:=Abr hR hw hd hb hk
theorem zV{w:Bool}{ip:Decidable p}(h:PlanS P ro N E ops Q R tbl sw sp ((i,k,o)::pl) ((t,.bool true)::fr) ds l)(hw:o.guard=some (j,w):=by rfl)(hj:ops[j]?=some oj:=by rfl)(Ld:oj.dst=some t:=by rfl)(hc:BZ fr t=some (.bool (@decide p ip)):=by rfl)(hp:p:=by omega):PlanS P ro N E ops Q R tbl sw sp ((i,k,o)::pl) fr ds l:=kX hw hj Ld hc hp h
theorem zW{w:Bool}{ip:Decidable p}(h:PlanS P ro N E ops Q R tbl sw sp ((i,k,o)::pl) ((t,.bool false)::fr) ds l)(hw:o.guard=some (j,w):=by rfl)(hj:ops[j]?=some oj:=by rfl)(Ld:oj.dst=some t:=by rfl)(hc:BZ fr t=some (.bool (@decide p ip)):=by rfl)(hp:¬p:=by omega):PlanS P ro N E ops Q R tbl sw sp ((i,k,o)::pl) fr ds l:=kY hw hj Ld hc hp h
theorem pZ(hk:PlanS P ro N E ops Q R tbl none [] pl fr ds l2)(h:OpE P ro N fr l o (λv' l'=>v'=undef/\l'=l2):=by exact zst)(hw:o.guard=none:=by rfl)(hd:o.dst=none:=by rfl)(hR: ∀c,c∈R->c∈l2:=by exact zH0):PlanS P ro N E ops Q R tbl none [] ((i,false,o)::pl) fr ds l:=Oe h hw hd (λv l' h=>by rw[h.2];exact hR) λv l' h=>by rw[h.2];exact hk
theorem pze(hk:PlanS P ro N E ops Q R tbl none [] pl ((d,v)::fr) ds l)(h:OpQ P ro N fr l o v:=by first|(show OpQ _ _ _ _ _ ⟨_,.load _ _,_,_,_,_⟩ _;first|exact DS rfl (by((repeat(first|with_reducible apply Ak|with_reducible apply An));try with_reducible assumption)) (by(first|with_reducible assumption|((with_reducible apply Lh);(repeat(first|with_reducible apply LGet.zero|with_reducible apply LGet.succ)))))|exact Ge rfl (by((repeat(first|with_reducible apply Ak|with_reducible apply An));try with_reducible assumption)) (by(repeat(first|with_reducible apply LSub.done|with_reducible apply LSub.take|with_reducible apply LSub.drop))))|fail)(hw:o.guard=none:=by rfl)(hd:o.dst=some d:=by rfl)(hb:Nat.blt d N=true:=by rfl)(hR: ∀c,c∈R->c∈l:=by exact zH0):PlanS P ro N E ops Q R tbl none [] ((i,false,o)::pl) fr ds l:=Abq h hw hd hb hR hk
end
theorem OpE.re{fr:Fr}{l:Ac}(k:Keep l l2)(h:OpE P ro N fr l2 o K)(hk: ∀v l',K v l'-> ∃l3,Keep l' l3/\K' v l3):OpE P ro N fr l o K':=
 ⟨h.nodef,λE a W hf hs=>(h.val E a W hf (k.sat hs)).mono λv W' ⟨l',h1,h2⟩=>by obtain⟨l3,h3,h4⟩:=hk v l' h1;exact⟨l3,h4,h3.sat h2⟩⟩
theorem Fn.re{f:FuncId}{args:Ap}{l:Ac}(k:Keep l l2)(h:Fn P f args l2 K)(hk: ∀v l',K v l'-> ∃l3,Keep l' l3/\K' v l3):Fn P f args l K':=
 ⟨λE W hs=>(h.run E W (k.sat hs)).mono λe W' he=>by obtain⟨v,l',h1,h2,h3⟩:=he;obtain⟨l3,h4,h5⟩:=hk v l' h2;exact⟨v,l3,h1,h5,h4.sat h3⟩⟩
theorem dS{l l':Ac}{b:Nat}{o o':Obj}(h:Upd l b o o' l'): ∀(c:Ac),Upd (c++l) b o o' (c++l')
 |[]=>h
 |x::c=> .there (dS h c)
section
variable{fr:Fr}{l:Ac}{d:Option Nat}{ty:TypeId}{pos:String}{aft:Array Edge}{g:Option (Nat×Bool)}{x y z s:Operand}{u w:Value}{b:Nat}
theorem Hz{T e k yb bl:Nat}{xs ws zs:Ap}{X cs F:Ac}(hx:ev fr s=some v)(hy:ev fr x=some (.slice (some ⟨bl,0,none⟩) 1 1))[c:ST P T e k yb][cz:ZV P e zs](R8:zs.length=k)(EX:OwnSl e k v n xs cs)(hw:ws.length=k)(h1: ∀u∈ws,u.oneCell'=true)(hn:n<=1000000)(du:yb<=1000):
 OpE P ro N fr ((bl,.cells (toArray ws) e (0,0))::(X++(cs++F))) ⟨d,.call {callee:= .builtin .append,args:=#[s,x],argTypes:=#[T,T]},ty,pos,aft,g⟩ (λv' l'=> ∃c2,OwnSl e k v' (n+1) (xs++ws) c2/\l'=X++(c2++F)):=by
 have pQ:((bl,Obj.cells (toArray ws) e (0,0))::(X++(cs++F))).Perm (cs++(((bl,Obj.cells (toArray ws) e (0,0))::X)++F)):=
  AA ((bl,Obj.cells (toArray ws) e (0,0))::X) cs F
 have hb:(n+1)*yb<=140737488355328:=by have:=Jc (show n+1<=1000001 by omega) du;omega
 refine OpE.re (Keep.of_perm pQ) (GG (m:=1) (xs:=xs) (news:=ws) (zs:=zs) hx hy R8 EX (Aa _ Ak) (λj u hj=>by simpa using hj) (by rw[hw,Nat.one_mul]) h1 (by unfold maxLen;omega) hb) ?_;rintro v' _ ⟨c2,ho,rfl⟩;exact⟨_,Keep.trans (Keep.of_perm (AA c2 ((bl,Obj.cells (toArray ws) e (0,0))::X) F)) (.drop .refl),c2,ho,rfl⟩
theorem aI{a:Act}{d:Nat}(hf:FSat N fr a)(hj:ops[j]?=some oj)(hd:oj.dst=some d)(hb:BZ fr d=some undef):yielded ops a.tmps j=none:=by have:=hf.at_ d _ hb;simp[yielded,hj,hd,this,undef]
theorem xk{d dj:Nat}{bw:Bool}(hw:o.guard=some (j,bw))(hj:ops[j]?=some oj)(Ld:oj.dst=some dj)(hb:BZ fr dj=some undef)(hd:o.dst=some d)(So:Nat.blt d N=true)(hk:DA P ro N E ops Q A3 ((d,undef)::fr) ds l):DA P ro N E ops Q (o::A3) fr ds l:=
 ⟨λa W hf hds hs=>by have hy:=aI hf hj Ld hb;refine wpListIn_step λK' hK'=>?_;rw[Ab (by simp[Region.wanted,hw,hy])];refine⟨λ_ _=>trivial,hK' _ _ (hk.run _ _ ?_ ((ET _ _ _).trans hds) hs)⟩;have:=hf.put (d:=o.dst) undef (by rw[hd];exact So);rw[hd] at this⊢;exact this⟩
end
end Go.Proofs.YtlifcingifodfaaGreat
