/- Laws. -/
import Derived.Test.YtlifcingifodfaaGreatGd2
import Derived.Laws.AppendOwn
import Derived.Test.YtlifcingifodfaaGreatProg
import Derived.KernelRfl
set_option maxHeartbeats 4000000
set_option linter.all false
namespace Go.Proofs.YtlifcingifodfaaGreat
open Tryz
open List(replicate)
open List renaming toArray→τ
open Go.RowKit
variable{e T n k yb N b cap m kk l0 h0 m0 since:Nat}{cs zs vs ws xs news:Ap}{ct ty t t2:TypeId}{fz:Nat×Nat}{P:Program}{ro:Option Nat}{E W:World}{x y z s:Operand}{v u z0:Value}{R F l':Ac}{ds:List Deferred}{pos:String}{g:Option (Nat×Bool)}{α:Type}{Q:Exit->Act->World->Prop}{K:Value->Ac->Prop}{rs:List ResultVar}{ops:Array Oper}{os:List Oper}{o:Oper}{ρ:Operand->Value}{ps:List (Nat×Value)}{cl:Array Value}{lo hi mx:Option Operand}{a:Int}{seen:Array Nat}{p:Option Addr}
section
def sv(os:List Oper)(plan:List (Nat×Bool))(tbl:List (List Nat))(i j:Nat):Bool:=SS os plan tbl (some [(i,j)])
theorem L7{fr:Fr}{l:Ac}{pl:List BI}(plan:List (Nat×Bool))(tbl:List (List Nat))(i j:Nat)(R:Ac)(hm:P.follows .mixedOrders=true)(hv:sv os plan tbl i j=true)(ha:Attach os plan pl)(hR: ∀c,c∈R->c∈l)
 (h:PlanS P ro N E os.toArray Q R tbl (some [(i,j)]) [] pl fr ds l):BS P ro N E (.region k os.toArray true) Q fr ds l:=SU plan tbl (some [(i,j)]) R hm hv ha hR h
def wq(os:List Oper)(tbl:List (List Nat))(ML:List (Nat×Bool))(i j:Nat):Bool:=
 GE os.toArray tbl none (IO os ML).tail&&ML.head?==some (j,false)&&(ML.map Prod.fst).count i==1&&j !=i
theorem Oz{i j:Nat}{sp:F5}{tbl:List (List Nat)}{A6 alt:List BI}{fr:Fr}{l:Ac}(ML:List (Nat×Bool))(ha:Attach os ML alt)(hp:alt.Perm ((i,false,o)::A6))(vF:wq os tbl ML i j=true)
 (h1:PlanS P ro N E os.toArray Q R tbl none sp ((i,false,o)::A6) fr ds l)(h2:PlanS P ro N E os.toArray Q R tbl none sp alt fr ds l):PlanS P ro N E os.toArray Q R tbl (some [(i,j)]) sp ((i,false,o)::A6) fr ds l:=by
 unfold wq at vF;simp only[AM,Hw,P0,ne_eq] at vF;obtain⟨⟨⟨p1,p2⟩,p3⟩,p4⟩:=vF;have AeF:(((i,false,o)::A6).map (λx:BI=>x.1)).count i=1:=by rw[<-(hp.map _).count_eq,ha.spec.2];exact p3
 have hni: ∀x,x∈A6->x.1≠i:=λx hx e=>by rw[AK,List.count_cons_self] at AeF;have:0<(A6.map (λx:BI=>x.1)).count i:=List.count_pos_iff.2 (Ax.2 ⟨x,hx,e⟩);omega
 rw[ha.fun_eq] at p1;cases ha with
 |nil=>cases p2
 |cons h0 hr=>simp only[List.head?_cons,Jm] at p2;cases p2;exact .alt2 p4 hp p1 hni h1 h2
end
def btV(P:Program)(t:Nat):Bool:=match P.underlying t with
 |some (.struct fs)=>fs.all λf=>(P.info? f.type).isSome
 |_=>false
class BT(P:Program)(t:Nat):Prop where out:btV P t=true
section
variable{fr:Fr}{l:Ac}{d:Option Nat}{aft:Array Edge}{w:Value}{off:Nat}
theorem eN{α β:Type}{f:α->Sem β}{h:α->β}{Q:List β->Ac->Prop}: ∀{xs:List α},(∀x,x∈xs-> ∀(Q:β->Ac->Prop) l,sl P (f x) l Q<->Q (h x) l)->(sl P (xs.mapM f) l Q<->Q (xs.map h) l)
 |[],_=>by simp only[List.mapM_nil,CZ];exact DK
 |x::xs,hx=>by rw[List.mapM_cons,AE,hx x Al,AE,eN (h:=h) λy hy=>hx y (An _ hy)];exact DK
def bA(fr:Fr):List (Nat×Operand)->Option (List (Nat×Value))
 |[]=>some []
 |(i,x)::r=>match ev fr x,bA fr r with
  |some v,some vs=>some ((i,v)::vs)
  |_,_=>none
theorem Agrees.parts(h:Agrees fr ρ): ∀{xs:List (Nat×Operand)} {vs:List (Nat×Value)},bA fr xs=some vs->(xs.map λ(i,x)=>(i,ρ x))=vs
 |[],vs,e=>by cases e;rfl
 |(i,x)::r,vs,e=>by
  unfold bA at e
  split at e
  ·rename_i v us h1 h2;cases e;rw[AK,h.parts h2];show(i,ρ x)::us=_;rw[h x v h1]
  ·cases e
inductive BuildS(P:Program)(t:Nat):Ap->List (Nat×Value)->Ap->Prop
 |nil {cs:Ap}:BuildS P t cs [] cs
 |one {cs cs1 N4:Ap} {i off ft:Nat} {v:Value} {r:List (Nat×Value)} (c:FV P t i off ft) (c2:OC P ft):v.oneCell'=true->LSet cs off v cs1->BuildS P t cs1 r N4->BuildS P t cs ((i,v)::r) N4
 |agg {cs cs1 N4 ws:Ap} {i off ft n:Nat} {r:List (Nat×Value)} (c:FV P t i off ft) (c2:AG P ft n):ws.length=n->LSetA cs off ws cs1->BuildS P t cs1 r N4->BuildS P t cs ((i,.agg (τ ws))::r) N4
theorem bD(vs:Ap): ∀(cs:Array Value) (off k:Nat),(vs.zipIdx k).foldl (λcs (c,j)=>cs.setIfInBounds (off+j) c) cs=Dc cs (off+k) vs:=by
 induction vs with
 |nil=>intro cs off k;rfl
 |cons v vs ih=>intro cs off k;rw[List.zipIdx_cons,Ev,ih];rfl
theorem Kb(vs cs:Array Value)(off:Nat):vs.zipIdx.foldl (λcs (c,j)=>cs.setIfInBounds (off+j) c) cs=Dc cs off vs.toList:=by rw[<-Array.foldl_toList,Array.toList_zipIdx,bD];rfl
theorem YV{fs:Array Field}(hu:P.underlying t=some (.struct fs)){place:Nat->Option (Nat×Nat)}(hp: ∀i fd HH,fs[i]?=some fd->P.info? fd.type=some HH->place i=some (fd.offset,HH.size)){N4:Ap}{parts:List (Nat×Value)}(h:BuildS P t cs parts N4):
 Instr.fill place (τ cs) parts=some (τ N4):=by
 induction h with
 |nil=>rfl
 | @one cs cs1 N4 i off ft v r c c2 h1 hs _ ih=>obtain⟨fs',fd,k1,k2,k3,k4⟩:=QI c.out;rw[hu] at k1;cases k1;obtain⟨ud,HH,_,_,i1,i2⟩:=MR c2.out;rw[<-k4] at i1;unfold Instr.fill;rw[hp _ _ _ k2 i1,k3,i2,Pc h1];have C7:=hs.spec.2;simp only;rw[Ab (by simp;omega),Kb #[v] (τ cs) off];simp only[Dc,BB,hs.spec.1];exact ih
 | @agg cs cs1 N4 ws i off ft n r c c2 hn hs _ ih=>obtain⟨fs',fd,k1,k2,k3,k4⟩:=QI c.out;rw[hu] at k1;cases k1;obtain⟨ud,HH,_,_,i1,i2⟩:=Ki c2.out;rw[<-k4] at i1;unfold Instr.fill;rw[hp _ _ _ k2 i1,k3,i2];have C7:=hs.spec.2;have e:(Value.agg (τ ws)).cells=τ ws:=rfl;simp only[e];rw[Ab (by simp[hn];omega),Kb (τ ws) (τ cs) off];have:=hs.spec.1;simp only at this⊢;rw[this];exact ih
theorem eP{xs:List (Nat×Operand)}(hx:bA fr xs=some ps)[c:ZV P t zs][cb:BT P t](hb:BuildS P t zs ps cs):OpQ P ro N fr R ⟨d,.build t (τ xs),ty,pos,aft,g⟩ (.agg (τ cs)):=BO rfl λρ l hρ _=>by
 obtain⟨i,zv,h1,h2,h3⟩:=Kl c.out;have hbt:=cb.out;unfold btV at hbt
 split at hbt
 ·rename_i fs hu;simp only[execOp,AE,Instr.build,zeroValue,Dm,hρ.parts hx];rw[<-AE,J9 h1,h2];simp only[Bq];rw[E9 hu];simp only[AE];have hfm:fs=τ fs.toList:=by simp
  rw[hfm,List.mapM_toArray,map_eq_pure_bind,AE,eN (h:=λf=>(f.offset,((P.info? f.type).map (·.size)).getD 0)) (by
   intro f hf Q l;have:=Array.all_eq_true'.1 hbt f (by simpa using hf);cases hi:P.info? f.type with
   |none=>rw[hi] at this;cases this
   |some HH=>rw[AE,HK hi];exact DK)]
  simp only[Bq];have PK:=YV (place:=λi=>(τ (fs.toList.map λf=>(f.offset,((P.info? f.type).map (·.size)).getD 0)))[i]?) hu (by intro i fd HH k1 k2;simp[k1,k2]) hb
  have hz:zv.cells=τ zs:=by rw[<-h3]
  rw[hz,PK];exact⟨rfl,rfl⟩
 ·cases hbt
theorem V2{T:TypeId}{ud:TypeDesc}(h:P.underlying T=some ud)(W:World):(isAgg T).run P W= .ok (Ov ud) W:=by unfold isAgg;rw[Sem.run_bind,run_underlying h];cases ud<;>rfl
theorem Xl{T:TypeId}(hc:rY P T=true)(hs:Sat E l W)(hm:(b,Obj.cells (τ cs) ct fz)∈l)(hv:bf cs off=some v):(loadVar T ⟨b,off,none⟩).run P W= .ok v W:=by obtain⟨ud,i,e1,e2,_,_⟩:=MR hc;have YA:=hs.cell hm off;rw[YM hv] at YA;unfold loadVar;rw[Sem.run_bind,V2 e1,e2];simp[Result.andThen,YA]
theorem Xm(hc:wj P T=some n)(hs:Sat E l W)(hm:(b,Obj.cells (τ cs) ct fz)∈l)(hv:LSub cs off n ws):(loadVar T ⟨b,off,none⟩).run P W= .ok (.agg (τ ws)) W:=by
 obtain⟨ud,i,e1,e2,e3,e4⟩:=Ki hc;have Vk:(sizeOf T).run P W= .ok n W:=by unfold sizeOf typeInfo;simp[Sem.run_bind,Result.andThen,program,Sem.run,e3,e4]
 obtain⟨Js,hv2⟩:=hv.spec;have Ef:ws.length=n:=by rw[<-Js];simp;omega
 unfold loadVar;rw[Sem.run_bind,V2 e1,e2];simp only[Result.andThen,CV];rw[Sem.run_bind,Vk];simp only[Result.andThen];rw[Sem.run_bind];have:=run_loadCells_list (P:=P) (w:=W) ⟨b,off,none⟩ ws (λj u hj=>by
  rw[GL,hs.cell hm];rw[<-Js] at hj;simp only[AF];rw[IR] at hj
  split at hj
  ·simpa[G3] using hj
  ·cases hj)
 rw[Ef] at this;rw[this];rfl
theorem yE{t:Nat}(h1:Cc fr t=some v)(h:ResS P fr l rs vs):ResS P fr l (.tmp t::rs) (v::vs):= .tmp h1 h
theorem mf{T:TypeId}(h1:Cc fr k=some (.pointer (some ⟨b,off,none⟩)))[c:OC P T](hm:(b,Obj.cells (τ cs) ct fz)∈l)(hv:bf cs off=some v)(h:ResS P fr l rs vs):ResS P fr l (.cell k T::rs) (v::vs):=
 .cell h1 (λE W hs=>Xl c.out hs hm hv) h
theorem B0(h1:Cc fr k=some (.pointer (some ⟨b,off,none⟩)))[c:AG P T n](hm:(b,Obj.cells (τ cs) ct fz)∈l)(hv:LSub cs off n ws)(h:ResS P fr l rs vs):ResS P fr l (.cell k T::rs) (.agg (τ ws)::vs):=
 .cell h1 (λE W hs=>Xm c.out hs hm hv) h
theorem FY{f:Nat}{xs:List Operand}{fs:Ap}{at_:Array TypeId}(hx:ev fr x=some (.func (.func f) (τ fs) (τ cs)))(hy:SC fr xs=some vs)[c:EN P f](h: ∀l,(∀c,c∈R->c∈l)->Fn P f (fs++vs++cs) l (λv' l'=>v'=v/\l'=l)):OpQ P ro N fr R ⟨d,.call {callee:= .value x,args:=xs.toArray,argTypes:=at_},ty,pos,aft,g⟩ v:=
 ⟨λl hl=>Dr hx hy (by simpa using h l hl)⟩
end
def OwnSl(e k:Nat)(v:Value)(n:Nat)(xs:Ap)(cs:Ac):Prop:=
 xs.length=n*k/\((v= .slice none 0 0/\n=0/\cs=[])\/(∃b cap sp,v= .slice (some ⟨b,0,none⟩) n cap/\cs=[(b,.cells (τ (xs++sp)) e (0,0))]/\n<=cap/\cap<=maxLen/\(xs++sp).length=cap*k))
theorem OwnSl.nil(e k:Nat):OwnSl e k (.slice none 0 0) 0 [] []:=⟨by simp,.inl ⟨rfl,rfl,rfl⟩⟩
section
variable{fr:Fr}{l:Ac}{d:Option Nat}{aft:Array Edge}{w:Value}{off:Nat}
theorem Sat.row{cs cs':Array Value}{e:TypeId}(h:Sat E ((b,.cells cs e fz)::F) W):Sat E ((b,.cells cs' e fz)::F) (W.setRow b cs'):=by
 refine⟨h.os,h.tape,h.output,h.nodup,λc hc=>?_⟩;rcases Au.1 hc with rfl|hc'
 ·exact setRow_heap W b cs cs' e fz (h.has _ Al)
 ·have hn:=h.nodup;rw[AK,AQ] at hn;have GS:c.1≠b:=λe=>hn.1 (Ax.2 ⟨c,hc',e⟩);rw[setRow_other W b c.1 cs' GS];exact h.has c (An _ hc')
theorem GN{cp:Nat}{cs:Ac}(hx:ev fr s=some v)(hy:ev fr x=some (.slice (some ⟨b,off,none⟩) m cp))[c:ST P T e k yb][cz:ZV P e zs](Sv:zs.length=k)
 (EY:OwnSl e k v n xs cs)(hm:(b,Obj.cells cl ct fz)∈cs++F)(ll: ∀j u,news[j]?=some u->cl[off+j]?=some u)(lr:news.length=m*k)(h1: ∀u∈news,u.oneCell'=true)(h63:n+m<=maxLen)(ee:(n+m)*yb<=140737488355328):
 OpE P ro N fr (cs++F) ⟨d,.call {callee:= .builtin .append,args:=#[s,x],argTypes:=#[T,T]},ty,pos,aft,g⟩ (λv' l'=> ∃cs',OwnSl e k v' (n+m) (xs++news) cs'/\l'=cs'++F):=by
 refine⟨rfl,λE a W hf hs=>?_⟩;have hρ:=hf.agrees;obtain⟨HH,u1,u2,u3,u4⟩:=Fj c.out;obtain⟨xL,zv,z1,z2,z3⟩:=Kl cz.out;rw[u2] at z1;cases z1;have Yz:execOp a.eval ⟨d,.call {callee:= .builtin .append,args:=#[s,x],argTypes:=#[T,T]},ty,pos,aft,g⟩=(do pure (.value (<-Builtin.append_ #[T,T] ty #[v,.slice (some ⟨b,off,none⟩) m cp])):Sem Next):=by simp[execOp,resolve,hρ s _ hx,hρ x _ hy,invoke,builtin]
 unfold OpVal;rw[Yz,Sem.run_bind];have hnw: ∀j u,news[j]?=some u->W.cell? ((⟨b,off,none⟩:Addr).add j)=some u:=λj u hj=>by rw[GL,hs.cell hm];exact ll j u hj
 have hn':news.length=m*HH.size:=by rw[u3];exact lr
 have hmx:n+m<=9223372036854775807:=by simp only[maxLen] at h63;omega
 have Ef:(xs++news).length=(n+m)*k:=by rw[Ah,EY.1,lr,FE]
 have vG: ∀(vH:Nat) (W0:World),Sat E F W0->W0.heap=W.heap-> ∃cs',OwnSl e k (.slice (some ⟨W.heap.size,0,none⟩) (n+m) (grownCap W (n+m) vH e)) (n+m) (xs++news) cs'/\Sat E (cs'++F) (W0.drew.alloc (.cells (τ (xs++news)++Builtin.zeroCells zv.cells (grownCap W (n+m) vH e-(n+m))) e)):=by
  intro vH W0 qS hh;refine⟨_,⟨Ef,.inr ⟨W.heap.size,_,(Builtin.zeroCells zv.cells (grownCap W (n+m) vH e-(n+m))).toList,rfl,rfl,grownCap_ge _ _ _ _,grownCap_le_maxLen _ _ _ _ h63,?_⟩⟩,?_⟩
  ·rw[Ah,Ef,Array.length_toList,size_zeroCells];have hzz:zv.cells.size=k:=by rw[<-Sv,<-z3];simp
   rw[hzz,<-FE];congr 1;have:=grownCap_ge W (n+m) vH e;omega
  ·have h2:=qS.drew.alloc (.cells (τ (xs++news)++Builtin.zeroCells zv.cells (grownCap W (n+m) vH e-(n+m))) e);have e1:W0.drew.heap.size=W.heap.size:=by show W0.heap.size=_;rw[hh]
   rw[e1] at h2;have e2:τ (xs++news++(Builtin.zeroCells zv.cells (grownCap W (n+m) vH e-(n+m))).toList)=τ (xs++news)++Builtin.zeroCells zv.cells (grownCap W (n+m) vH e-(n+m)):=by apply BQ.1;simp
   rw[e2];exact h2
 rcases EY.2 with⟨rfl,rfl,rfl⟩|⟨gb,cap,sp,rfl,rfl,im,Vn,N5⟩
 ·have lu:xs=[]:=Ej (by simpa using EY.1);subst lu;by_cases hm0:m=0
  ·subst hm0;have Qq:news=[]:=Ej (by simpa using lr);subst Qq;have hr:(Builtin.append_ #[T,T] ty #[.slice none 0 0,.slice (some ⟨b,off,none⟩) 0 cp]).run P W= .ok (.slice none 0 0) W:=by
    simp[Builtin.append_,run_underlying u1,sizeOf,typeInfo,u2,Builtin.lenOf,Builtin.firstCells,loadCells,loadCellsFrom]
   rw[hr];exact⟨_,⟨[],OwnSl.nil e k,rfl⟩,hs⟩
  ·have hr:=run_append_nil (P:=P) W T ty e HH zv u1 u2 z2 ⟨b,off,none⟩ m cp news hn' hnw Af Af (by rw[u4];simp only[BG] at ee;omega);rw[hr];obtain⟨cs',k1,k2⟩:=vG 0 W hs rfl;simp only[BG,Ag] at k1 k2;refine⟨_,⟨cs',?_,rfl⟩,k2⟩;simpa using k1
 ·by_cases PL:n+m<=cap
  ·have hg:=hs.has (gb,_) (Ai _ Al);have hr:=run_append_room (P:=P) W T ty e HH u1 u2 gb n cap (τ (xs++sp)) hg ⟨b,off,none⟩ m cp news hn' hnw h1 PL (by
    rw[hn',u3,<-FE];simp only[Bz];rw[N5];exact Gl _ PL)
   rw[hr];have e1:(τ (xs++sp)).toList.take (n*HH.size)=xs:=by rw[u3,<-EY.1];show(xs++sp).take xs.length=xs;simp
   rw[e1];refine⟨_,⟨_,⟨Ef,.inr ⟨gb,cap,(τ (xs++sp)).toList.drop (n*HH.size+news.length),rfl,rfl,PL,Vn,?_⟩⟩,rfl⟩,?_⟩
   ·have h3:(xs++sp).length=cap*k:=N5;have h4:n*k+news.length<=cap*k:=by rw[lr,<-FE];exact Gl _ PL
    rw[Ah,Ef,DR];show(n+m)*k+((xs++sp).length-(n*HH.size+news.length))=cap*k;rw[h3,u3,lr,<-FE];have:=Gl k PL;omega
   ·exact hs.row
  ·have hs':Sat E F W:=hs.tail;have hold: ∀j u,xs[j]?=some u->W.cell? ((⟨gb,0,none⟩:Addr).add j)=some u:=λj u hj=>by
    rw[GL,hs.cell (Ai _ Al),BG];have C7:=(Aw.1 hj).1;simp only[AF];rw[AH C7];exact hj
   have hr:=run_append_grow (P:=P) W T ty e HH zv u1 u2 z2 ⟨gb,0,none⟩ n cap xs (by rw[u3];exact EY.1) hold ⟨b,off,none⟩ m cp news hn' hnw Af Af (growslice_fits Af (by rw[u4];exact ee));rw[hr];obtain⟨cs',k1,k2⟩:=vG cap W hs' rfl;refine⟨_,⟨cs',k1,rfl⟩,?_⟩;have e3:xs.toArray++news.toArray=τ (xs++news):=by simp
   rw[e3];exact k2
theorem Kc{Q:Value->Ac->Prop}(c:stV P T=some (e,k,yb))(cz:yy P e=some zs)(Sv:zs.length=k)(hk:0<n*k)(hsm:n*k<=16777216)
 (PK:Instr.fill (λi=>some (i*k,k)) (τ (replicate n zs).flatten) ps=some (τ cs))(hQ: ∀b,(∀c,c∈l->c.1≠b)->Q (.slice (some ⟨b,0,none⟩) n n) ((b,.cells (τ cs) e (0,0))::l)):
 sl P (Instr.buildSlice T n (τ ps)) l Q:=by
 obtain⟨HH,u1,u2,u3,u4⟩:=Fj c;obtain⟨xL,zv,z1,z2,z3⟩:=Kl cz;rw[u2] at z1;cases z1;unfold Instr.buildSlice;rw[Cg u1];simp only;rw[Fa u2,u3];rw[Ab Af];simp only[show ¬n*k=0 by omega,C0,AE,zeroValue];rw[<-AE,J9 u2,z2];simp only[Bq];have hzv:zv.cells=τ zs:=by rw[<-z3]
 have xM:(Array.range (n*k)).map (λj=>zv.cells[j%zv.cells.size]!)=τ (replicate n zs).flatten:=by
  have hk0:0<k:=Lh λe=>by subst e;simp at hk
  apply BQ.1;apply Dn;intro j;rw[hzv];have hl:(replicate n zs).flatten.length=n*k:=by simp[Sv]
  by_cases hj:j<n*k
  ·have:(replicate n zs).flatten[j]?=zs[j%k]?:=by
    clear PK hQ hl hsm hk
    induction n generalizing j with
    |zero=>omega
    |succ n ih=>
     rw[BN,CA];by_cases ly:j<k
     ·rw[AH Af,DB ly]
     ·rw[AW Af,Sv,ih (j-k) (by have:=Gj n k;simp only[KQ] at this;omega),<-Li Af]
   simp only[MG,Lj,A7,Fu hj,BY];rw[this];have C7:j%k<zs.length:=by rw[Sv];exact Hx _ hk0
   simp[Sv,Ak C7,GI]
  ·rw[Bi (by simp;omega),Bi (by rw[hl];omega)]
 rw[xM,PK];simp only[newRow,AE];intro b hb;exact hQ b hb
theorem Lq(hy:ev fr y=some v)(h1:v.oneCell'=true)[c:ST P T e 1 yb][cz:ZV P e [z0]]:OpE P ro N fr l ⟨d,.buildSlice T 1 #[(0,y)],ty,pos,aft,g⟩ (λv' l'=> ∃b,(∀c,c∈l->c.1≠b)/\v'= .slice (some ⟨b,0,none⟩) 1 1/\l'=(b,.cells (τ [v]) e (0,0))::l):=DS rfl λρ hρ=>by
 simp only[execOp,AE];have e:(#[(0,y)]:Array (Nat×Operand)).map (λ(i,x)=>(i,ρ x))=τ [(0,v)]:=by simp[hρ y _ hy]
 rw[e];refine Kc (cs:=[v]) c.out cz.out rfl Af Af ?_ λb hb=>⟨b,hb,rfl,rfl⟩
 simp[Instr.fill,Pc h1]
theorem FB(hy:ev fr y=some (.agg (τ ws)))[c:ST P T e k yb][cz:ZV P e zs](hz:zs.length=k)(hw:ws.length=k)(hk:0<k)(LH:k<=16777216):OpE P ro N fr l ⟨d,.buildSlice T 1 #[(0,y)],ty,pos,aft,g⟩ (λv' l'=> ∃b,(∀c,c∈l->c.1≠b)/\v'= .slice (some ⟨b,0,none⟩) 1 1/\l'=(b,.cells (τ ws) e (0,0))::l):=DS rfl λρ hρ=>by
 simp only[execOp,AE];have e:(#[(0,y)]:Array (Nat×Operand)).map (λ(i,x)=>(i,ρ x))=τ [(0,.agg (τ ws))]:=by simp[hρ y _ hy]
 rw[e];refine Kc (cs:=ws) c.out cz.out hz Af Af ?_ λb hb=>⟨b,hb,rfl,rfl⟩
 unfold Instr.fill;have e2:(Value.agg (τ ws)).cells=τ ws:=rfl;simp only[e2];rw[Ab (by simp[hw,hz])];rw[Kb];unfold Instr.fill;congr 1;have key: ∀(vs pre cs:Ap),vs.length=cs.length->Dc (τ (pre++cs)) pre.length vs=τ (pre++vs):=by
  intro vs
  induction vs with
  |nil=>intro pre cs h;have:cs=[]:=Ej (by simpa using h.symm);subst this;rfl
  |cons v vs ih=>
   intro pre cs h;cases cs with
   |nil=>simp at h
   |cons c cs=>simp only[Dc,BB];rw[Cq _ _ (Bf _)];simp only[Dx,E7];have:=ih (pre++[v]) cs (by simpa using h);simpa using this
 have:=key ws [] zs Af;simpa using this
end
theorem OwnSl.one{e k n:Nat}{v:Value}{xs:Ap}{cs:Ac}(h:OwnSl e k v n xs cs):v.oneCell'=true:=by rcases h.2 with⟨rfl,_⟩|⟨b,cap,sp,rfl,_⟩<;>rfl
theorem Keep.dropL{L l:Ac}(cs:Ac)(k:Keep L l):Keep (cs++L) l:=by
 induction cs with
 |nil=>exact k
 |cons c cs ih=>exact .drop ih
theorem OwnSl.shape{cs:Ac}(h:OwnSl e k v n xs cs): ∃p cap,v= .slice p n cap:=by
 rcases h.2 with⟨rfl,rfl,_⟩|⟨b,cap,sp,rfl,_⟩
 ·exact⟨_,_,rfl⟩
 ·exact⟨_,_,rfl⟩
section
variable{fr:Fr}{l:Ac}
def eR(N:Nat)(E:World){α:Type}(fx:α->Fr)(ds:List Deferred)(lx:α->Ac)(pre:α->Prop)(a:Act)(W:World):Prop:=
 ∃y,pre y/\FSat N (fx y) a/\a.defers=ds/\Sat E (lx y) W
theorem bE{c1 c2:Code}(fx:α->Fr)(lx:α->Ac)(pre:α->Prop)(h1:BS P ro N E c1 (Exit.then (eR N E fx ds lx pre) Q) fr ds l)(h2: ∀x,pre x->BS P ro N E c2 Q (fx x) ds (lx x)):BS P ro N E (.seq c1 c2) Q fr ds l:=
 ⟨λa W hf hds hs=>wpIn_seq (wpIn_mono (h1.run a W hf hds hs) λe a' W' h=>by
   cases e with
   |normal=>obtain⟨y,h3,h4,h5,h6⟩:=h;exact(h2 y h3).run a' W' h4 h5 h6
   |_=>exact h)⟩
theorem EM{fx:α->Fr}{lx:α->Ac}{pre:α->Prop}(y:α)(h1:pre y)(h3:FSub (fx y) fr)(h4:Keep l (lx y)):C3 N E (Exit.then (eR N E fx ds lx pre) Q) .normal fr ds l:=
 ⟨λa W hf hds hs=>⟨y,h1,hf.sub h3.spec,hds,h4.sat hs⟩⟩
end
theorem TO(zs:Ap)(n:Nat):(Builtin.zeroCells (τ zs) n).toList=(replicate n zs).flatten:=by
 apply Dn;intro j;unfold Builtin.zeroCells;have hl:(replicate n zs).flatten.length=n*zs.length:=by simp
 by_cases hj:j<n*zs.length
 ·have hk0:0<zs.length:=Lh λe=>by rw[e] at hj;simp at hj
  have:(replicate n zs).flatten[j]?=zs[j%zs.length]?:=by
   clear hl
   induction n generalizing j with
   |zero=>omega
   |succ n ih=>
    rw[BN,CA];by_cases ly:j<zs.length
    ·rw[AH Af,DB ly]
    ·rw[AW Af,ih (j-zs.length) (by have:=Gj n zs.length;simp only[KQ] at this;omega),<-Li Af]
  simp only[MG,Lj,A7,Bz,Fu hj,BY];rw[this];have C7:j%zs.length<zs.length:=Hx _ hk0;simp[Ak C7,GI]
 ·rw[Bi (by simp;omega),Bi (by rw[hl];omega)]
inductive mi(fr:Fr):Option Operand->Nat->Nat->Prop
 |none {d:Nat}:mi fr none d d
 |some {o:Operand} {d r:Nat} {k:IntKind} {i:Int}:ev fr o=some (.int k i)->0<=i->i.toNat=r->mi fr (some o) d r
section
variable{fr:Fr}{l:Ac}{d:Option Nat}{aft:Array Edge}{w:Value}{off:Nat}
theorem Ff{Q:Nat->Ac->Prop}{k:IntKind}{i:Int}{y r:Nat}{code:BoundsCode}(h0:0<=i)(hr:i.toNat=r)(hy:r<=y):sl P (Instr.sliceBound (.int k i) y code) l Q<->Q r l:=by unfold Instr.sliceBound;simp only[asIntOf,AE,Bq];rw[Ad ⟨h0,Af⟩,Bq,hr]
theorem OA{Q:Nat×Nat×Nat->Ac->Prop}(hρ:Agrees fr ρ)(hl:mi fr lo 0 l0)(hh:mi fr hi n h0)(hm:mi fr mx cap m0)(HI:mx.isSome=true->hi.isSome=true)(h1:l0<=h0)(h2:h0<=m0)(h3:m0<=cap):
 sl P (Instr.sliceBounds true n cap (lo.map ρ) (hi.map ρ) (mx.map ρ)) l Q<->Q (l0,h0,m0) l:=by
 unfold Instr.sliceBounds;cases hm with
 |none=>
  cases hh with
  |none=>
   cases hl with
   |none=>simp only[DP,AE,Bq]
   |some e i0 ir=>simp only[DP,BY,AE,Bq,hρ _ _ e];rw[Ff i0 ir h1]
  |some e i0 ir=>
   cases hl with
   |none=>simp only[DP,BY,AE,Bq,hρ _ _ e];rw[Ff i0 ir h2]
   |some e' i0' ir'=>simp only[DP,BY,AE,Bq,hρ _ _ e,hρ _ _ e'];rw[Ff i0 ir h2,Ff i0' ir' h1]
 |some em m0' mr=>
  cases hh with
  |none=>simp at HI
  |some e i0 ir=>
   cases hl with
   |none=>simp only[DP,BY,AE,Bq,hρ _ _ e,hρ _ _ em];rw[Ff m0' mr h3,Ff i0 ir h2]
   |some e' i0' ir'=>simp only[DP,BY,AE,Bq,hρ _ _ e,hρ _ _ e',hρ _ _ em];rw[Ff m0' mr h3,Ff i0 ir h2,Ff i0' ir' h1]
theorem Gp{off' n' c':Nat}(hx:ev fr x=some (.slice (some ⟨b,off,none⟩) n cap))[c:ST P T e k yb](hl:mi fr lo 0 l0)(hh:mi fr hi n h0)(hm:mi fr mx cap m0)(HI:mx.isSome=true->hi.isSome=true)(h1:l0<=h0)(h2:h0<=m0)(h3:m0<=cap)
 (ho:(if m0=l0 then off else off+l0*k)=off')(hn:h0-l0=n')(hc:m0-l0=c'):OpQ P ro N fr R ⟨d,.slice T x lo hi mx,ty,pos,aft,g⟩ (.slice (some ⟨b,off',none⟩) n' c'):=BO rfl λρ l hρ _=>by
 obtain⟨HH,u1,u2,u3,_⟩:=Fj c.out;subst ho hn hc;simp only[execOp,hρ x _ hx];rw[AE];unfold Instr.sliceAt;rw[Cg u1];show sl P (Instr.slice T _ _ _ _) l _;unfold Instr.slice;rw[Cg u1];simp only[AE];rw[OA hρ hl hh hm HI h1 h2 h3];simp only;rw[HK u2];simp only[Bq,u3];refine⟨?_,trivial⟩
 split<;>simp[GL]
theorem eU{cp:Nat}{cs:Array Value}(hx:ev fr x=some (.slice (some ⟨b,off,none⟩) m cp))[c:ST P T e k yb][cz:ZV P e zs](hm:0<m)(h1: ∀v,v∈zs->v.oneCell'=true)(hu:Upd l b (.cells cs ct (0,0)) (.cells (Dc cs off (replicate m zs).flatten) ct (0,0)) l')(C7:off+m*zs.length<=cs.size):OpE P ro N fr l ⟨d,.call {callee:= .builtin .clear,args:=#[x],argTypes:=#[T]},ty,pos,aft,g⟩ (λv' l2=>v'= .tuple #[]/\l2=l'):=DS rfl λρ hρ=>by
 obtain⟨HH,u1,u2,u3,_⟩:=Fj c.out;obtain⟨i,zv,z1,z2,z3⟩:=Kl cz.out;rw[u2] at z1;cases z1;obtain⟨m,rfl⟩: ∃m',m=m'+1:=⟨m-1,Af⟩
 simp only[execOp,resolve,AE,Bq,invoke,builtin,Dm,AK,CZ,hρ x _ hx];unfold Builtin.clear_;simp only[AF,Df,AE];rw[E9 u1];simp only[AE,zeroValue];rw[<-AE,J9 u2,z2];simp only[Bq];have hz:zv.cells=τ zs:=by rw[<-z3]
 have hzz:(Builtin.zeroCells zv.cells (m+1)).toList=(replicate (m+1) zs).flatten:=by rw[hz];exact TO zs (m+1)
 rw[hzz];have:=Mt (P:=P) (b:=b) (off:=off) (f:=λv=>(pure (.tuple #[]):Sem Value)) (Q:=λa l2=>YJ P (λv' l2=>v'= .tuple #[]/\l2=l') (Next.value a) l2) (replicate (m+1) zs).flatten 0 cs l l' (by intro v hv;rw[List.mem_flatten] at hv;obtain⟨r,hr,hv⟩:=hv;rw[Et hr] at hv;exact h1 v hv) (by simpa using C7) hu ⟨rfl,rfl⟩
 rw[AE] at this;exact this
theorem V3{cp gb:Nat}{cur:Array Value}(hs:ev fr s=some (.slice (some ⟨gb,0,none⟩) n cap))(hx:ev fr x=some (.slice (some ⟨b,off,none⟩) m cp))[c:ST P T e k yb]
 (hm:(b,Obj.cells cl ct fz)∈(gb,Obj.cells cur e (0,0))::F)(ll: ∀j u,news[j]?=some u->cl[off+j]?=some u)(lr:news.length=m*k)(h1: ∀u∈news,u.oneCell'=true)(PL:n+m<=cap)(W6:n*k+news.length<=cur.size):
 OpE P ro N fr ((gb,.cells cur e (0,0))::F) ⟨d,.call {callee:= .builtin .append,args:=#[s,x],argTypes:=#[T,T]},ty,pos,aft,g⟩ (λv' l'=>v'= .slice (some ⟨gb,0,none⟩) (n+m) cap/\l'=(gb,.cells (cur.toList.take (n*k)++news++cur.toList.drop (n*k+news.length)).toArray e (0,0))::F):=by
 refine⟨rfl,λE a W hf hs'=>?_⟩;have hρ:=hf.agrees;obtain⟨HH,u1,u2,u3,u4⟩:=Fj c.out;have Yz:execOp a.eval ⟨d,.call {callee:= .builtin .append,args:=#[s,x],argTypes:=#[T,T]},ty,pos,aft,g⟩=(do pure (.value (<-Builtin.append_ #[T,T] ty #[.slice (some ⟨gb,0,none⟩) n cap,.slice (some ⟨b,off,none⟩) m cp])):Sem Next):=by simp[execOp,resolve,hρ s _ hs,hρ x _ hx,invoke,builtin]
 unfold OpVal;rw[Yz,Sem.run_bind];have hg:=hs'.has (gb,_) Al;have hr:=run_append_room (P:=P) W T ty e HH u1 u2 gb n cap cur hg ⟨b,off,none⟩ m cp news (by rw[u3];exact lr) (λj u hj=>by rw[GL,hs'.cell hm];exact ll j u hj) h1 PL (by rw[u3];exact W6);rw[hr];rw[u3];exact⟨_,⟨rfl,rfl⟩,hs'.row⟩
theorem IE{A6:List Oper}{d:Nat}(h:OpE P ro N fr l o K)(hw:RD ops fr o.guard=some true)(hd:o.dst=some d)(hb:Nat.blt d N=true)(hk: ∀v l',K v l'->DC P ro N E ops Q A6 ((d,v)::fr) ds l'):DC P ro N E ops Q (o::A6) fr ds l:=by
 rcases Km hw with⟨h1,_⟩|⟨j,b,oj,dj,b',h1,h2,h3,h4,h5⟩
 ·exact kT h h1 hd hb hk
 ·have:b'=b:=by simpa using h5
  subst this;exact AfO h h1 h2 h3 h4 hd hb hk
theorem bF{ps:List (Nat×Operand)}{pvs:List (Nat×Value)}(N3:bA fr ps=some pvs)(Qq:0<n)(hn:n<=16777216)[c:ST P T e 1 yb][cz:ZV P e [z0]](PK:Instr.fill (λi=>some (i*1,1)) (τ (replicate n [z0]).flatten) pvs=some (τ cs)):
 OpE P ro N fr l ⟨d,.buildSlice T n ps.toArray,ty,pos,aft,g⟩ (λv' l'=> ∃b,(∀c,c∈l->c.1≠b)/\v'= .slice (some ⟨b,0,none⟩) n n/\l'=(b,.cells (τ cs) e (0,0))::l):=DS rfl λρ hρ=>by
 simp only[execOp,AE];have e:ps.toArray.map (λ(i,x)=>(i,ρ x))=τ pvs:=by rw[<-hρ.parts N3];simp
 rw[e];exact Kc (cs:=cs) c.out cz.out rfl Af Af PK λb hb=>⟨b,hb,rfl,rfl⟩
theorem OwnSl.lit(h0:0<n)(hl:xs.length=n)(hm:n<=1000000):OwnSl e 1 (.slice (some ⟨b,0,none⟩) n n) n xs [(b,.cells (τ xs) e (0,0))]:=
 ⟨Af,.inr ⟨b,n,[],rfl,by simp,Af,by unfold maxLen;omega,by simp[hl]⟩⟩
end
abbrev LK:=Int×Value×Nat
def Og(k:IntKind)(x:LK):MapEntry:={key:= .int k x.1,val:=x.2.1,born:=x.2.2}
abbrev Ge(k:IntKind)(es:List LK)(clock:Nat):Obj:= .map (τ (es.map (Og k))) clock
def zoV(P:Program)(t:Nat):Option Value:=match P.info? t with
 |some i=>i.zero
 |none=>none
class ZO(P:Program)(t:Nat)(z:outParam Value):Prop where out:zoV P t=some z
def Hj(a:Int):List LK->Nat->Option (Nat×Value)
 |[],_=>none
 |e::es,i=>if a=e.1 then some (i,e.2.1) else Hj a es (i+1)
def LL(a:Int)(es:List LK):Option Value:=(Hj a es 0).map Prod.snd
def OD(a:Int)(v:Value)(clock:Nat)(es:List LK):List LK×Nat:=match Hj a es 0 with
 |some (i,_)=>(es.modify i λx=>(x.1,v,x.2.2),clock)
 |none=>(es++[(a,v,clock)],clock+1)
def P4(a:Int)(es:List LK):List LK:=match Hj a es 0 with
 |some (i,_)=>es.eraseIdx i
 |none=>es
theorem No{a:Int}: ∀{es:List LK} {i:Nat},Hj a es i=none<-> ∀e∈es,e.1≠a
 |[],i=>by simp[Hj]
 |e::es,i=>by
  unfold Hj
  split
  ·rename_i h;subst h;simp
  ·rename_i h;rw[No];simp only[Au,forall_eq_or_imp];exact⟨λh2=>⟨λe'=>h e'.symm,h2⟩,λh2=>h2.2⟩
theorem P5{a:Int}: ∀{es:List LK} {i k:Nat} {v:Value},Hj a es i=some (k,v)->i<=k/\ ∃e,es[k-i]?=some e/\e.1=a/\e.2.1=v/\ ∀j,j<k-i-> ∀e',es[j]?=some e'->e'.1≠a
 |[],i,k,v,h=>by simp[Hj] at h
 |e::es,i,k,v,h=>by
  unfold Hj at h
  split at h
  ·rename_i ha;cases h;exact⟨Bf _,e,by simp,ha.symm,rfl,λj hj=>by omega⟩
  ·rename_i ha;obtain⟨h1,e',h2,h3,h4,h5⟩:=P5 h;refine⟨Af,e',?_,h3,h4,λj hj e2 he2=>?_⟩
   ·rw[show k-i=(k-(i+1))+1 by omega];simpa using h2
   ·cases j with
    |zero=>simp only[Df,Jm] at he2;subst he2;exact λe'=>ha e'.symm
    |succ j=>exact h5 j Af e2 (by simpa using he2)
theorem TP(k:IntKind)(a:Int): ∀(es:List LK) (i:Nat),Instr.findNow (.int k) (.int k a) (es.map (Og k)) i=some (Hj a es i)
 |[],i=>rfl
 |e::es,i=>by
  rw[AK];unfold Instr.findNow;simp only[Og,Instr.sameNow,CV];unfold Hj;by_cases h:a=e.1
  ·rw[show(a==e.1)=true by simpa using h,Ad h]
  ·rw[show(a==e.1)=false by simpa using h,Ab h];exact TP k a es (i+1)
section
variable{fr:Fr}{l:Ac}{d:Option Nat}{aft:Array Edge}{w:Value}{T kt et:TypeId}{k:IntKind}{es:List LK}{clock:Nat}
theorem Jv{T k:Nat}(h:mtV P T=some (k,e)):P.underlying T=some (.map k e):=by unfold mtV at h;split at h<;>simp_all
theorem TQ{t:Nat}{k:IntKind}(h:rZ P t=some k):P.underlying t=some (.int k):=by unfold rZ at h;split at h<;>simp_all
theorem FQ{Q:α->Ac->Prop}(a:α):sl P (Sem.pure a) l Q<->Q a l:=DK
theorem iG{Q:α->Ac->Prop}{f:Nat->Sem α}{q:Question}:sl P (choose q>>=f) l Q<-> ∀t,sl P (f (if q.forced=true then 0 else q.cut t)) l Q:=DK
theorem L8{Q:Unit->Ac->Prop}{empty:Bool}(h:rZ P kt=some k):sl P (Instr.checkKey empty (n+1) kt (.int k a)) l Q<->Q () l:=by unfold Instr.checkKey;rw[Cg (TQ h)];exact DK
theorem Np{Q:Option (Nat×Value)->Ac->Prop}(h:rZ P kt=some k):sl P (Instr.findKey kt (.int k a) (es.map (Og k))) l Q<->Q (Hj a es 0) l:=by unfold Instr.findKey;rw[Cg (TQ h),TP];exact DK
theorem Xn{Q:Value->Ac->Prop}{zv:Value}(h:zoV P et=some zv):sl P (zeroValue et) l Q<->Q zv l:=by
 unfold zoV at h
 split at h
 ·rename_i i hi;unfold zeroValue;rw[J9 hi,h];exact DK
 ·cases h
theorem mj{zv:Value}(hx:ev fr x=some (.map (some m)))(hy:ev fr y=some (.int k a))[c:MT P T kt et][ci:IT P kt k][cz:ZO P et zv](hm:(m,Ge k es clock)∈R):OpQ P ro N fr R ⟨d,.lookup T x y false,ty,pos,aft,g⟩ ((LL a es).getD zv):=BO rfl λρ l hρ hR=>by
 simp only[execOp,hρ x _ hx,hρ y _ hy,AE];unfold Instr.lookup;rw[Cg (Jv c.out)];simp only[AE];refine⟨_,hR _ hm,rfl,?_⟩;simp only[Bq,FQ,AE];rw[L8 ci.out,Np ci.out];unfold LL;cases h:Hj a es 0 with
 |none=>simp only[AE];rw[Xn cz.out];exact⟨rfl,rfl⟩
 |some p=>exact⟨rfl,rfl⟩
theorem iH{zv:Value}(hx:ev fr x=some (.map (some m)))(hy:ev fr y=some (.int k a))[c:MT P T kt et][ci:IT P kt k][cz:ZO P et zv](hm:(m,Ge k es clock)∈R):OpQ P ro N fr R ⟨d,.lookup T x y true,ty,pos,aft,g⟩ (.tuple #[(LL a es).getD zv,.bool (LL a es).isSome]):=BO rfl λρ l hρ hR=>by
 simp only[execOp,hρ x _ hx,hρ y _ hy,AE];unfold Instr.lookup;rw[Cg (Jv c.out)];simp only[AE];refine⟨_,hR _ hm,rfl,?_⟩;simp only[Bq,FQ,AE];rw[L8 ci.out,Np ci.out];unfold LL;cases h:Hj a es 0 with
 |none=>simp only[AE];rw[Xn cz.out];exact⟨rfl,rfl⟩
 |some p=>exact⟨rfl,rfl⟩
theorem Pd:OpE P ro N fr l ⟨d,.makeMap T none,ty,pos,aft,g⟩ (λv' l'=> ∃b,(∀c,c∈l->c.1≠b)/\v'= .map (some b)/\l'=(b,.map #[] 0)::l):=DS rfl λρ hρ=>by simp only[execOp,AE];unfold Instr.makeMap;simp only[DP,AE,Bq];intro b hb;exact⟨b,hb,rfl,rfl⟩
theorem YW{Q:Value->Ac->Prop}:sl P (Instr.keyThatStays (.int k a) (.int k a)) l Q<->Q (.int k a) l:=by unfold Instr.keyThatStays;rw[Ad (by simp[Instr.sameBits])];exact DK
theorem bG(es:List LK)(i:Nat)(v:Value)(e:LK)(he:es[i]?=some e):(τ (es.map (Og k))).modify i (λx=>{key:= .int k e.1,val:=v,born:=x.born})=τ ((es.modify i λx=>(x.1,v,x.2.2)).map (Og k)):=by
 apply BQ.1;rw[Iq];simp only;apply Dn;intro j;rw[List.getElem?_modify,A7,A7,List.getElem?_modify];by_cases h:i=j
 ·subst h;rw[he];simp[Og]
 ·cases es[j]?<;>simp[h]
theorem Ma(hx:ev fr x=some (.map (some m)))(hy:ev fr y=some (.int k a))(hz:ev fr z=some v)[c:MT P T kt et][ci:IT P kt k](hu:Upd l m (Ge k es clock) (Ge k (OD a v clock es).1 (OD a v clock es).2) l'):
 OpE P ro N fr l ⟨d,.mapUpdate T x y z,ty,pos,aft,g⟩ (λv' l2=>v'=undef/\l2=l'):=DS rfl λρ hρ=>by
 simp only[execOp,hρ x _ hx,hρ y _ hy,hρ z _ hz];rw[AE];unfold Instr.mapUpdate;rw[Cg (Jv c.out)];simp only[AE];refine⟨_,hu.mem,rfl,?_⟩;simp only[Bq,FQ,AE];rw[L8 ci.out,Np ci.out];unfold OD at hu;cases h:Hj a es 0 with
 |none=>
  rw[h] at hu;simp only at hu⊢;refine⟨Ge k es clock,l',?_,rfl,⟨rfl,rfl⟩⟩;have e:(τ (es.map (Og k))).push {key:= .int k a,val:=v,born:=clock}=τ ((es++[(a,v,clock)]).map (Og k)):=by simp[Og]
  rw[e];exact hu
 |some p=>
  obtain⟨i,u⟩:=p;rw[h] at hu;simp only at hu⊢;obtain⟨_,e,he,h1,_,_⟩:=P5 h;rw[Nat.sub_zero] at he;subst h1;have hk:(((τ (es.map (Og k)))[i]?).map (·.key)).getD (.int k e.1)= .int k e.1:=by simp[he,Og]
  simp only[AE];rw[hk,YW];refine⟨Ge k es clock,l',?_,rfl,⟨rfl,rfl⟩⟩;rw[bG es i v e he];exact hu
theorem TR{T2:TypeId}(hx:ev fr x=some (.map (some m)))(hy:ev fr y=some (.int k a))[c:MT P T kt et][ci:IT P kt k](hu:Upd l m (Ge k es clock) (Ge k (P4 a es) clock) l'):
 OpE P ro N fr l ⟨d,.call {callee:= .builtin .delete,args:=#[x,y],argTypes:=#[T,T2]},ty,pos,aft,g⟩ (λv' l2=>v'= .tuple #[]/\l2=l'):=DS rfl λρ hρ=>by
 simp only[execOp,resolve,AE,Bq,invoke,builtin,Dm,AK,CZ,hρ x _ hx,hρ y _ hy];unfold Builtin.delete_;simp only[AF,Df,De,AE];rw[E9 (Jv c.out)];simp only[AE];refine⟨_,hu.mem,rfl,?_⟩;simp only[Bq,FQ,AE];rw[L8 ci.out,Np ci.out];unfold P4 at hu;cases h:Hj a es 0 with
 |none=>rw[h] at hu;exact⟨Ge k es clock,l',hu,rfl,⟨rfl,rfl⟩⟩
 |some p=>
  obtain⟨i,u⟩:=p;rw[h] at hu;refine⟨Ge k es clock,l',?_,rfl,⟨rfl,rfl⟩⟩;have e:(τ (es.map (Og k))).eraseIdxIfInBounds i=τ ((es.eraseIdx i).map (Og k)):=by apply BQ.1;simp only[JJ];rw[Du,Du,At,Hm,List.map_drop]
  rw[e];exact hu
theorem eV(hx:ev fr x=some (.map (some m)))[c:MT P T kt et](hm:(m,Ge k es clock)∈l):OpE P ro N fr l ⟨d,.range T x,ty,pos,aft,g⟩ (λv' l'=> ∃b,(∀c,c∈l->c.1≠b)/\v'= π b/\l'=(b,.mapIter (some m) clock #[] clock)::l):=DS rfl λρ hρ=>by simp only[execOp,hρ x _ hx,AE];unfold Instr.range;rw[AE,E9 (Jv c.out)];simp only[AE];refine⟨_,hm,rfl,?_⟩;simp only[Bq,FQ,AE];intro b hb;exact⟨b,hb,rfl,rfl⟩
theorem ml{last:Nat}(hx:ev fr x=some (π b))(hm:(m,Ge k es clock)∈F)(hold: ∀e∈es,e.2.2<since)(hsl:since<=last):
 OpE P ro N fr ((b,.mapIter (some m) since seen last)::F) ⟨d,.next x false,ty,pos,aft,g⟩ (λv' l'=>(v'= .tuple #[.bool false]/\l'=(b,.mapIter (some m) since seen last)::F/\ ∀e∈es,e.2.2∈seen.toList)\/
  ∃e∈es,e.2.2∉seen.toList/\v'= .tuple #[.bool true,.int k e.1,e.2.1]/\l'=(b,.mapIter (some m) since (seen.push e.2.2) clock)::F):=DS rfl λρ hρ=>by
 simp only[execOp,hρ x _ hx,AE];unfold Instr.next;simp only[AE];refine⟨_,Al,rfl,?_⟩;simp only[Bq,FQ,AE];refine⟨_,An _ hm,rfl,?_⟩;simp only[Bq,FQ,AE];have Om: ∀y:MapEntry,y∈es.map (Og k)->y.born<since:=λy hy=>by rw[Ax] at hy;obtain⟨e,he,rfl⟩:=hy;exact hold e he
 have AeJ:(!seen.isEmpty&&!(τ (es.map (Og k))).isEmpty&&(τ (es.map (Og k))).all (λe=>decide (e.born>=last)))=false:=by
  cases vJ:es with
  |nil=>simp
  |cons e0 r=>
   have:=hold e0 (by rw[vJ];exact Al);have C7:¬last<=e0.2.2:=by omega
   simp[Og,C7]
 rw[AeJ];simp only[Bn,C0];obtain⟨L,hL⟩: ∃L:List LK,L=es.filter λe=>!seen.contains e.2.2:=⟨_,rfl⟩
 have eL:(τ (es.map (Og k))).filter (λe=>!seen.contains e.born)=τ (L.map (Og k)):=by apply BQ.1;rw[Array.toList_filter];simp only[hL,List.filter_map];congr 1
 have hLm: ∀y:MapEntry,y∈L.map (Og k)->y.born<since:=λy hy=>by rw[Ax] at hy;obtain⟨e,he,rfl⟩:=hy;rw[hL] at he;exact hold e (Cr.1 he).1
 rw[eL];have e1:(τ (L.map (Og k))).filter (λx=>decide (x.born<since))=τ (L.map (Og k)):=Array.filter_eq_self.2 λy hy=>by simpa using hLm y (by simpa using hy)
 have e2:(τ (L.map (Og k))).filter (λx=>decide (x.born>=since))=#[]:=by rw[Array.filter_eq_empty_iff];intro y hy;have:=hLm y (by simpa using hy);simp;omega
 simp only[e1,e2,Lf];rw[iG];intro tp;cases hLL:L with
 |nil=>
  have xK:es.filter (λe=>!seen.contains e.2.2)=[]:=by rw[<-hL,hLL]
  have hq:(Question.mapNext 1).forced=true:=by simp[Question.forced]
  simp[hq];refine .inl ⟨rfl,rfl,λe1 e2 e3 he=>?_⟩;have:=List.filter_eq_nil_iff.1 xK (e1,e2,e3) he;simpa using this
 |cons e0 r=>
  have GS:(τ ((e0::r).map (Og k))).isEmpty=false:=by simp
  simp only[GS,Bn,C0,Lg,Array.size_map];obtain⟨j,hj,hjlt⟩: ∃j,(if(Question.mapNext (τ ((e0::r).map (Og k))).size).forced=true then 0 else(Question.mapNext (τ ((e0::r).map (Og k))).size).cut tp)=j/\j<(e0::r).length:=by
   refine⟨_,rfl,?_⟩
   split
   ·simp
   ·simp only[Question.cut,Bz,A5];exact Hx _ (by simp)
  rw[hj];have Sy:((τ ((e0::r).map (Og k))).map some)[j]?=some (some (Og k (e0::r)[j])):=by rw[Array.getElem?_map,AF,A7,Ak hjlt];rfl
  rw[Sy];have MK:(e0::r)[j]∈L:=by rw[hLL];exact Ib hjlt
  rw[hL] at MK;obtain⟨xN,hi2⟩:=Cr.1 MK;refine⟨.mapIter (some m) since seen last,_,.here,rfl,.inr ⟨_,xN,by simpa using hi2,rfl,rfl⟩⟩
theorem V4: ∀{es:List LK} {e:LK},e∈es->(es.map (·.2.2)).Nodup->(es.map (Og k)).find? (λx=>x.born==e.2.2)=some (Og k e)
 |[],e,h,_=>by cases h
 |e0::es,e,h,hn=>by
  rw[AK,AQ] at hn;rw[AK,BH];rcases Au.1 h with rfl|h
  ·simp[Og]
  ·have GS:((Og k e0).born==e.2.2)=false:=by
    have:e0.2.2≠e.2.2:=λh2=>hn.1 (by rw[h2];exact Ax.2 ⟨e,h,rfl⟩);simpa[Og] using this
   rw[GS];exact V4 h hn.2
theorem eW{e:LK}(hx:ev fr x=some (π b))(hi:(b,.mapIter (some m) since (seen.push e.2.2) clock)∈R)(hm:(m,Ge k es clock)∈R)(he:e∈es)(hn:(es.map (·.2.2)).Nodup):
 OpQ P ro N fr R ⟨d,.entry x,ty,pos,aft,g⟩ (.tuple #[.int k e.1,e.2.1]):=BO rfl λρ l hρ hR=>by
 simp only[execOp,hρ x _ hx,AE];unfold Instr.entry;simp only[AE];refine⟨_,hR _ hi,rfl,?_⟩;simp only[Bq,FQ,Array.back?_push,AE];refine⟨_,hR _ hm,rfl,?_⟩;have hf:(τ (es.map (Og k))).find? (·.born==e.2.2)=some (Og k e):=by rw[<-Array.find?_toList];exact V4 he hn
 simp only[Bq,FQ,bne_self_eq_false,Bn,C0,hf];exact⟨rfl,trivial⟩
theorem iI(hx:ev fr x=some (.slice p n cap))(hy:ev fr y=some (.slice none 0 0))[c:ST P t e kk yb]:OpQ P ro N fr R ⟨d,.binOp .eql t x y t2,ty,pos,aft,g⟩ (.bool p.isNone):=BO rfl λρ l hρ _=>by obtain⟨HH,u1,_⟩:=Fj c.out;simp only[execOp,hρ x _ hx,hρ y _ hy,AE,bg,Bq,binOp];unfold Op.equal Op.maxDepth Op.equalIn;rw[Cg u1];cases p<;>exact⟨rfl,rfl⟩
theorem mm{T:Nat}[c:ST P T e kk yb]:OpE P ro N fr l ⟨d,.buildSlice T 0 #[],ty,pos,aft,g⟩ (λv' l'=> ∃b,(∀c,c∈l->c.1≠b)/\v'= .slice (some ⟨b,0,none⟩) 0 0/\l'=(b,.cells #[] e (0,0))::l):=DS rfl λρ hρ=>by
 obtain⟨HH,u1,u2,_⟩:=Fj c.out;simp only[execOp,AE];unfold Instr.buildSlice;rw[Cg u1];simp only;rw[Fa u2];simp only[G4,CV,AE];rw[Ab Af];have hf:Instr.fill (λi=>some (i*HH.size,HH.size)) (Array.map (λx=>(#[]:Array Value)[x%(#[]:Array Value).size]!) (Array.range 0)) ((#[]:Array (Nat×Operand)).map λx=>(x.1,ρ x.2)).toList=some #[]:=by simp[Instr.fill]
 simp only[Bq,AE,newRow];rw[hf];simp only[Bq,AE];intro b hb;exact⟨b,hb,rfl,rfl⟩
theorem OwnSl.empty{k:Nat}:OwnSl e k (.slice (some ⟨b,0,none⟩) 0 0) 0 [] [(b,.cells #[] e (0,0))]:=
 ⟨by simp,.inr ⟨b,0,[],rfl,rfl,Af,by unfold maxLen;omega,by simp⟩⟩
theorem YX{T:Nat}(hs:ev fr s=some (.slice p n cap))(hx:ev fr x=some (.slice none 0 0))[c:ST P T e kk yb](hn:n<=cap):
 OpQ P ro N fr R ⟨d,.call {callee:= .builtin .append,args:=#[s,x],argTypes:=#[T,T]},ty,pos,aft,g⟩ (.slice p n cap):=BO rfl λρ l hρ _=>by
 obtain⟨HH,u1,u2,_⟩:=Fj c.out;simp only[execOp,resolve,AE,Bq,invoke,builtin,Dm,AK,CZ,hρ s _ hs,hρ x _ hx];unfold Builtin.append_;simp only[AF,Df,De,AE];rw[E9 u1];simp only;rw[Fa u2];simp only[AE];rw[E9 u1];simp only[Bq,Bn,C0,Builtin.lenOf,Hy,CV,CM,Ad hn,AE,Builtin.firstCells];cases p with
 |none=>exact⟨rfl,rfl⟩
 |some a=>exact⟨rfl,rfl⟩
end
end Go.Proofs.YtlifcingifodfaaGreat
namespace Go.Proofs.YtlifcingifodfaaGreat
open Tryz
open List(replicate)
open List renaming toArray→τ
variable{P:Program}{t j n f N:Nat}{p:Prop}{oj o:Oper}{l2 l' R:Ac}{v:Value}{ro:Option Nat}{ops:Array Oper}{K K':Value->Ac->Prop}{E:World}{Q:Exit->Act->World->Prop}{A6:List Oper}{ds:List Deferred}
class Vl(a:Nat)(r:outParam Nat):Prop where e:a=r
instance(a:Nat):Vl a a:=⟨rfl⟩
def mkA(p:Nat->Bool)(m:Nat):Nat->Bool
 |0=>true
 |n+1=>(Nat.land (Nat.shiftRight m n) 1==0||p n)&&mkA p m n
theorem mkA.at'{p:Nat->Bool}{m f:Nat}(h:Nat.land (Nat.shiftRight m f) 1=1): ∀n,mkA p m n=true->f<n->p f=true
 |n+1,ha,hf=>by
  unfold mkA at ha;simp only[AM] at ha;rcases Nat.lt_succ_iff_lt_or_eq.1 hf with h1|h1
  ·exact mkA.at' h n ha.2 h1
  ·subst h1;have:=ha.1;rw[h] at this;exact this
theorem V5{p:Nat->Bool}{m:Nat}(hm:Nat.shiftRight m n=0)(ha:mkA p m n=true)(h:Nat.land (Nat.shiftRight m f) 1=1):p f=true:=by
 by_cases hf:f<n
 ·exact mkA.at' h n ha hf
 ·have h2:m>>>f=0:=by
   rw[show f=n+(f-n) by omega,Nat.shiftRight_add,show m>>>n=0 from hm,Nat.zero_shiftRight]
  rw[show Nat.shiftRight m f=0 from h2] at h;cases h
def enB(P:Program)(f:Nat):Bool:=match P.funcs[f]? with
 |some fn=>!(fn.name== "runtime.NumGoroutine")&&!fn.body.isNone
 |none=>false
theorem enB.en(h:enB P f=true):EN P f:=by
 unfold enB at h;cases e:P.funcs[f]? with
 |none=>rw[e] at h;cases h
 |some fn=>rw[e] at h;simp only[AM,Ei] at h;refine⟨λargs w=>?_⟩;simp[callFunc,go_sem,e];rw[Ab λh2=>by rw[h2] at h;simp at h,Ab λh2=>by rw[h2] at h;simp at h]
def zoB(P:Program)(q:Value->Bool)(t:Nat):Bool:=match zoV P t with
 |some z=>q z
 |none=>false
def yF:Value->Bool
 | .agg _=>true
 |_=>false
def ocB(P:Program)(t:Nat):Bool:=rY P t&&zoB P (λz=>!yF z) t
def zeB:Value->Value->Bool
 | .nilFunc,.nilFunc=>true
 | .pointer none,.pointer none=>true
 | .slice none 0 0,.slice none 0 0=>true
 | .map none,.map none=>true
 |_,_=>false
theorem zoB.out{q:Value->Bool}(h:zoB P q t=true): ∃z,q z=true/\zoV P t=some z/\yy P t=some z.cells.toList:=by
 unfold zoB at h
 split at h
 ·rename_i z hz;refine⟨z,h,hz,?_⟩;unfold zoV at hz;unfold yy;cases hi:P.info? t with
  |none=>rw[hi] at hz;cases hz
  |some i=>rw[hi] at hz;have hz':i.zero=some z:=hz;show(match i.zero with|some z=>some z.cells.toList|none=>none)=_;rw[hz']
 ·cases h
theorem zeB.zv(h:zoB P (zeB v) t=true):ZV P t [v]:=by
 obtain⟨z,h1,_,h3⟩:=zoB.out h;refine⟨?_⟩;rw[h3];unfold zeB at h1
 split at h1<;>first|rfl|cases h1
theorem ocB.zo{z:Value}(h:ocB P t=true)(hz:ZV P t [z]):ZO P t z:=by unfold ocB at h;rw[AM] at h;obtain⟨y,h1,h2,h3⟩:=zoB.out h.2;refine⟨?_⟩;rw[h2];have h4:=hz.out;rw[h3] at h4;cases y<;>first|(cases h1;done)|(cases h4;rfl)
theorem agB.zo{l:Ap}(h:zoB P yF t=true)(hz:ZV P t l):ZO P t (.agg (τ l)):=by obtain⟨y,h1,h2,h3⟩:=zoB.out h;refine⟨?_⟩;rw[h2];have h4:=hz.out;rw[h3] at h4;cases y<;>first|(cases h1;done)|(cases h4;rfl)
def svB(P:Program)(t n:Nat)(l:List (Nat×Nat)):Bool:=match P.underlying t,P.info? t with
 |some (.struct fs),some j=>fs.toList.map (λf=>(f.offset,f.type))==l&&fs.toList.all (λf=>match P.info? f.type with
  |some i=>!(i.size==0)
  |none=>false)&&j.size==n
 |_,_=>false
class SV(P:Program)(t:Nat)(n:outParam Nat)(l:outParam (List (Nat×Nat))):Prop where out:svB P t n l=true
class LG(l:List (Nat×Nat))(i:Nat)(x:outParam (Nat×Nat)):Prop where out:l[i]?=some x
instance(a:Nat×Nat)(l:List (Nat×Nat)):LG (a::l) 0 a:=⟨rfl⟩
instance(a b:Nat×Nat)(l:List (Nat×Nat))(i:Nat)[h:LG l i b]:LG (a::l) (i+1) b:=⟨h.out⟩
theorem svB.out{l:List (Nat×Nat)}(h:svB P t n l=true): ∃fs j,P.underlying t=some (.struct fs)/\P.info? t=some j/\j.size=n/\fs.toList.map (λf=>(f.offset,f.type))=l/\ ∀f,f∈fs.toList-> ∃i,P.info? f.type=some i/\i.size≠0:=by
 unfold svB at h
 split at h
 ·rename_i fs j h1 h2;rw[AM,AM,AS] at h;refine⟨fs,j,h1,h2,by simpa using h.2,by simpa using h.1.1,λf hf=>?_⟩;have h3:=h.1.2 f hf
  split at h3
  ·rename_i i hi;exact⟨i,hi,by simpa using h3⟩
  ·cases h3
 ·cases h
theorem LG.at'{l:List (Nat×Nat)}(h:SV P t n l){x:Nat×Nat}(hx:LG l f x): ∃(fs:Array Field) (fd:Field) (i:TypeInfo),P.underlying t=some (.struct fs)/\fs[f]?=some fd/\fd.offset=x.1/\fd.type=x.2/\P.info? fd.type=some i/\i.size≠0:=by
 obtain⟨fs,j,h1,h2,h3,h4,h5⟩:=svB.out h.out;have h6:=hx.out;rw[<-h4,A7] at h6;cases e:fs.toList[f]? with
 |none=>rw[e] at h6;cases h6
 |some fd=>rw[e] at h6;cases h6;obtain⟨i,hi,hz⟩:=h5 fd (Bg e);exact⟨fs,fd,i,h1,by simpa using e,rfl,rfl,hi,hz⟩
instance(P:Program)(s n f k t:Nat)(l:List (Nat×Nat))[h:SV P s n l][hx:LG l f (k,t)]:FV P s f k t:=⟨by obtain⟨fs,fd,i,h1,h2,h3,h4,_⟩:=LG.at' h hx;unfold fvV;rw[h1];simp only[h2,BY,h3,h4]⟩
instance(P:Program)(s n f k t:Nat)(l:List (Nat×Nat))[h:SV P s n l][hx:LG l f (k,t)]:FO P s f k:=⟨by obtain⟨fs,fd,i,h1,h2,h3,h4,h5,h6⟩:=LG.at' h hx;unfold foV;rw[h1];simp only[h2,h5,Ab h6,h3]⟩
instance(P:Program)(t n:Nat)(l:List (Nat×Nat))[h:SV P t n l]:BT P t:=⟨by obtain⟨fs,j,h1,_,_,_,h5⟩:=svB.out h.out;unfold btV;rw[h1];show fs.all _=true;rw[<-Array.all_toList,AS];intro f hf;obtain⟨i,hi,_⟩:=h5 f hf;rw[hi];rfl⟩
instance(P:Program)(t n:Nat)(l:List (Nat×Nat))[h:SV P t n l]:AG P t n:=⟨by obtain⟨fs,j,h1,h2,h3,_⟩:=svB.out h.out;unfold wj;rw[h1,h2];exact BM some h3⟩
theorem EZ{t z}(h:yy prog t=some z:=by kernel_rfl):ZV prog t z:=⟨h⟩
theorem bH{t z}(h:wj prog t=some z:=by kernel_rfl):AG prog t z:=⟨h⟩
theorem Oa{t z}(h:ptV prog t=some z:=by kernel_rfl):PT prog t z:=⟨h⟩
theorem F6{t n l}(h:svB prog t n l=true:=by kernel_rfl):SV prog t n l:=⟨h⟩
instance:IT prog 3 .i64:=⟨Bu⟩
instance:ZV prog 3 [ι 0]:=EZ
instance:ZV prog 4 [.bool false]:=EZ
instance:SV prog 23 4 [(0,3),(1,3),(2,3),(3,4)]:=F6
instance:ZV prog 23 [ι 0,ι 0,ι 0,.bool false]:=EZ
instance:ST prog 24 39 15 120:=⟨Bu⟩
instance:PT prog 27 120:=Oa
instance:ZV prog 29 [ι 0]:=EZ
instance:ST prog 30 69 12 96:=⟨Bu⟩
instance:SV prog 32 2 [(0,29),(1,30)]:=F6
instance:ZV prog 32 [ι 0,.slice none 0 0]:=EZ
instance:IT prog 34 .u64:=⟨Bu⟩
instance:ZV prog 34 [υ 0]:=EZ
instance:AT prog 35 6 34 1:=⟨Bu⟩
instance:AG prog 35 6:=bH
instance:ZV prog 35 [υ 0,υ 0,υ 0,υ 0,υ 0,υ 0]:=EZ
instance:SV prog 37 7 [(0,34),(1,35)]:=F6
instance:ZV prog 37 [υ 0,υ 0,υ 0,υ 0,υ 0,υ 0,υ 0]:=EZ
instance:SV prog 39 15 [(0,3),(1,3),(2,3),(3,37),(10,34),(11,34),(12,3),(13,3),(14,3)]:=F6
instance:ZV prog 39 [ι 0,ι 0,ι 0,υ 0,υ 0,υ 0,υ 0,υ 0,υ 0,υ 0,υ 0,υ 0,ι 0,ι 0,ι 0]:=EZ
instance:ST prog 40 3 1 8:=⟨Bu⟩
instance:ST prog 43 100 9 72:=⟨Bu⟩
instance:ST prog 44 131 10 80:=⟨Bu⟩
instance:ST prog 45 129 3 24:=⟨Bu⟩
instance:ST prog 46 79 24 176:=⟨Bu⟩
instance:AT prog 47 4 3 1:=⟨Bu⟩
instance:AG prog 47 4:=bH
instance:ZV prog 47 [ι 0,ι 0,ι 0,ι 0]:=EZ
instance:SV prog 49 10 [(0,3),(1,4),(2,47),(6,47)]:=F6
instance:ZV prog 49 [ι 0,.bool false,ι 0,ι 0,ι 0,ι 0,ι 0,ι 0,ι 0,ι 0]:=EZ
instance:AT prog 50 8 49 10:=⟨Bu⟩
instance:AG prog 50 80:=bH
instance:ZV prog 50 [ι 0,.bool false,ι 0,ι 0,ι 0,ι 0,ι 0,ι 0,ι 0,ι 0,ι 0,.bool false,ι 0,ι 0,ι 0,ι 0,ι 0,ι 0,ι 0,ι 0,ι 0,.bool false,ι 0,ι 0,ι 0,ι 0,ι 0,ι 0,ι 0,ι 0,ι 0,.bool false,ι 0,ι 0,ι 0,ι 0,ι 0,ι 0,ι 0,ι 0,ι 0,.bool false,ι 0,ι 0,ι 0,ι 0,ι 0,ι 0,ι 0,ι 0,ι 0,.bool false,ι 0,ι 0,ι 0,ι 0,ι 0,ι 0,ι 0,ι 0,ι 0,.bool false,ι 0,ι 0,ι 0,ι 0,ι 0,ι 0,ι 0,ι 0,ι 0,.bool false,ι 0,ι 0,ι 0,ι 0,ι 0,ι 0,ι 0,ι 0]:=EZ
instance:SV prog 52 86 [(0,43),(1,44),(2,45),(3,46),(4,50),(84,40),(85,40)]:=F6
instance:ZV prog 52 [.slice none 0 0,.slice none 0 0,.slice none 0 0,.slice none 0 0,ι 0,.bool false,ι 0,ι 0,ι 0,ι 0,ι 0,ι 0,ι 0,ι 0,ι 0,.bool false,ι 0,ι 0,ι 0,ι 0,ι 0,ι 0,ι 0,ι 0,ι 0,.bool false,ι 0,ι 0,ι 0,ι 0,ι 0,ι 0,ι 0,ι 0,ι 0,.bool false,ι 0,ι 0,ι 0,ι 0,ι 0,ι 0,ι 0,ι 0,ι 0,.bool false,ι 0,ι 0,ι 0,ι 0,ι 0,ι 0,ι 0,ι 0,ι 0,.bool false,ι 0,ι 0,ι 0,ι 0,ι 0,ι 0,ι 0,ι 0,ι 0,.bool false,ι 0,ι 0,ι 0,ι 0,ι 0,ι 0,ι 0,ι 0,ι 0,.bool false,ι 0,ι 0,ι 0,ι 0,ι 0,ι 0,ι 0,ι 0,.slice none 0 0,.slice none 0 0]:=EZ
instance:AT prog 54 3 3 1:=⟨Bu⟩
instance:ZV prog 54 [ι 0,ι 0,ι 0]:=EZ
instance:AT prog 55 4 34 1:=⟨Bu⟩
instance:AG prog 55 4:=bH
instance:ZV prog 55 [υ 0,υ 0,υ 0,υ 0]:=EZ
instance:SV prog 57 12 [(0,3),(1,3),(2,3),(3,3),(4,54),(7,34),(8,55)]:=F6
instance:ZV prog 57 [ι 0,ι 0,ι 0,ι 0,ι 0,ι 0,ι 0,υ 0,υ 0,υ 0,υ 0,υ 0]:=EZ
instance:SV prog 61 2 [(0,3),(1,3)]:=F6
instance:ZV prog 61 [ι 0,ι 0]:=EZ
instance:ST prog 64 61 2 16:=⟨Bu⟩
instance:SV prog 67 3 [(0,3),(1,34),(2,4)]:=F6
instance:ZV prog 67 [ι 0,υ 0,.bool false]:=EZ
instance:SV prog 69 12 [(0,3),(1,29),(2,34),(3,55),(7,34),(8,4),(9,67)]:=F6
instance:ZV prog 69 [ι 0,ι 0,υ 0,υ 0,υ 0,υ 0,υ 0,υ 0,.bool false,ι 0,υ 0,.bool false]:=EZ
instance:SV prog 74 8 [(0,3),(1,3),(2,3),(3,34),(4,3),(5,3),(6,3),(7,3)]:=F6
instance:ZV prog 74 [ι 0,ι 0,ι 0,υ 0,ι 0,ι 0,ι 0,ι 0]:=EZ
instance:SV prog 77 4 [(0,4),(1,4),(2,34),(3,34)]:=F6
instance:ZV prog 77 [.bool false,.bool false,υ 0,υ 0]:=EZ
instance:SV prog 79 24 [(0,3),(1,3),(2,3),(3,55),(7,34),(8,4),(9,3),(10,3),(11,55),(15,34),(16,3),(17,3),(18,4),(19,4),(20,77)]:=F6
instance:ZV prog 79 [ι 0,ι 0,ι 0,υ 0,υ 0,υ 0,υ 0,υ 0,.bool false,ι 0,ι 0,υ 0,υ 0,υ 0,υ 0,υ 0,ι 0,ι 0,.bool false,.bool false,.bool false,.bool false,υ 0,υ 0]:=EZ
instance:ST prog 82 32 2 32:=⟨Bu⟩
instance:ST prog 97 34 1 8:=⟨Bu⟩
instance:SV prog 100 9 [(0,3),(1,3),(2,3),(3,3),(4,3),(5,3),(6,3),(7,3),(8,3)]:=F6
instance:ZV prog 100 [ι 0,ι 0,ι 0,ι 0,ι 0,ι 0,ι 0,ι 0,ι 0]:=EZ
instance:PT prog 118 152:=Oa
instance:SV prog 120 3 [(0,118),(1,40),(2,82)]:=F6
instance:ZV prog 120 [.pointer none,.slice none 0 0,.slice none 0 0]:=EZ
instance:IT prog 123 .u64:=⟨Bu⟩
instance:PT prog 124 162:=Oa
instance:SV prog 129 3 [(0,61),(2,3)]:=F6
instance:ZV prog 129 [ι 0,ι 0,ι 0]:=EZ
instance:SV prog 131 10 [(0,61),(2,74)]:=F6
instance:ZV prog 131 [ι 0,ι 0,ι 0,ι 0,ι 0,υ 0,ι 0,ι 0,ι 0,ι 0]:=EZ
instance:SV prog 152 1 [(0,124)]:=F6
instance:ZV prog 152 [.pointer none]:=EZ
instance:PT prog 153 253:=Oa
instance:PT prog 154 282:=Oa
instance:PT prog 155 316:=Oa
instance:PT prog 156 234:=Oa
instance:PT prog 157 241:=Oa
instance:PT prog 158 277:=Oa
instance:PT prog 159 339:=Oa
instance:PT prog 160 344:=Oa
instance:SV prog 162 9 [(0,153),(1,154),(2,155),(3,156),(4,157),(5,158),(6,159),(7,160),(8,40)]:=F6
instance:ZV prog 162 [.pointer none,.pointer none,.pointer none,.pointer none,.pointer none,.pointer none,.pointer none,.pointer none,.slice none 0 0]:=EZ
instance:PT prog 171 3:=Oa
instance:ST prog 172 183 4 32:=⟨Bu⟩
instance:PT prog 180 183:=Oa
instance:SV prog 183 4 [(0,34),(1,34),(2,171),(3,181)]:=F6
instance:ZV prog 183 [υ 0,υ 0,.pointer none,.pointer none]:=EZ
instance:ST prog 193 202 5 40:=⟨Bu⟩
instance:SV prog 198 3 [(0,3),(1,3),(2,3)]:=F6
instance:ZV prog 198 [ι 0,ι 0,ι 0]:=EZ
instance:SV prog 202 5 [(0,3),(1,3),(2,3),(3,3),(4,3)]:=F6
instance:ZV prog 202 [ι 0,ι 0,ι 0,ι 0,ι 0]:=EZ
instance:PT prog 230 406:=Oa
instance:PT prog 232 328:=Oa
instance:SV prog 234 2 [(0,230),(1,232)]:=F6
instance:ZV prog 234 [.pointer none,.pointer none]:=EZ
instance:AT prog 239 32 3 1:=⟨Bu⟩
instance:SV prog 241 112 [(0,50),(80,239)]:=F6
instance:ZV prog 241 [ι 0,.bool false,ι 0,ι 0,ι 0,ι 0,ι 0,ι 0,ι 0,ι 0,ι 0,.bool false,ι 0,ι 0,ι 0,ι 0,ι 0,ι 0,ι 0,ι 0,ι 0,.bool false,ι 0,ι 0,ι 0,ι 0,ι 0,ι 0,ι 0,ι 0,ι 0,.bool false,ι 0,ι 0,ι 0,ι 0,ι 0,ι 0,ι 0,ι 0,ι 0,.bool false,ι 0,ι 0,ι 0,ι 0,ι 0,ι 0,ι 0,ι 0,ι 0,.bool false,ι 0,ι 0,ι 0,ι 0,ι 0,ι 0,ι 0,ι 0,ι 0,.bool false,ι 0,ι 0,ι 0,ι 0,ι 0,ι 0,ι 0,ι 0,ι 0,.bool false,ι 0,ι 0,ι 0,ι 0,ι 0,ι 0,ι 0,ι 0,ι 0,ι 0,ι 0,ι 0,ι 0,ι 0,ι 0,ι 0,ι 0,ι 0,ι 0,ι 0,ι 0,ι 0,ι 0,ι 0,ι 0,ι 0,ι 0,ι 0,ι 0,ι 0,ι 0,ι 0,ι 0,ι 0,ι 0,ι 0,ι 0,ι 0,ι 0,ι 0]:=EZ
instance:ST prog 251 254 8 64:=⟨Bu⟩
instance:SV prog 253 1 [(0,251)]:=F6
instance:ZV prog 253 [.slice none 0 0]:=EZ
instance:AT prog 254 8 34 1:=⟨Bu⟩
instance:AG prog 254 8:=bH
instance:ZV prog 254 [υ 0,υ 0,υ 0,υ 0,υ 0,υ 0,υ 0,υ 0]:=EZ
instance:MT prog 275 3 79:=⟨Bu⟩
instance:SV prog 277 1 [(0,275)]:=F6
instance:ZV prog 277 [.map none]:=EZ
instance:ST prog 280 309 3 24:=⟨Bu⟩
instance:SV prog 282 1 [(0,280)]:=F6
instance:ZV prog 282 [.slice none 0 0]:=EZ
instance:SV prog 292 18 [(0,124),(1,3),(2,57),(14,61),(16,61)]:=F6
instance:ZV prog 292 [.pointer none,ι 0,ι 0,ι 0,ι 0,ι 0,ι 0,ι 0,ι 0,υ 0,υ 0,υ 0,υ 0,υ 0,ι 0,ι 0,ι 0,ι 0]:=EZ
instance:SV prog 301 5 [(0,3),(1,3),(2,3),(3,4),(4,4)]:=F6
instance:ZV prog 301 [ι 0,ι 0,ι 0,.bool false,.bool false]:=EZ
instance:PT prog 307 399:=Oa
instance:SV prog 309 3 [(0,3),(1,3),(2,307)]:=F6
instance:ZV prog 309 [ι 0,ι 0,.pointer none]:=EZ
instance:AT prog 314 64 3 1:=⟨Bu⟩
instance:SV prog 316 66 [(0,3),(1,314),(65,43)]:=F6
instance:ZV prog 316 [ι 0,ι 0,ι 0,ι 0,ι 0,ι 0,ι 0,ι 0,ι 0,ι 0,ι 0,ι 0,ι 0,ι 0,ι 0,ι 0,ι 0,ι 0,ι 0,ι 0,ι 0,ι 0,ι 0,ι 0,ι 0,ι 0,ι 0,ι 0,ι 0,ι 0,ι 0,ι 0,ι 0,ι 0,ι 0,ι 0,ι 0,ι 0,ι 0,ι 0,ι 0,ι 0,ι 0,ι 0,ι 0,ι 0,ι 0,ι 0,ι 0,ι 0,ι 0,ι 0,ι 0,ι 0,ι 0,ι 0,ι 0,ι 0,ι 0,ι 0,ι 0,ι 0,ι 0,ι 0,ι 0,.slice none 0 0]:=EZ
instance:PT prog 325 330:=Oa
instance:MT prog 326 61 325:=⟨Bu⟩
instance:SV prog 328 2 [(0,325),(1,326)]:=F6
instance:ZV prog 328 [.pointer none,.map none]:=EZ
instance:SV prog 330 5 [(0,61),(2,3),(3,325),(4,325)]:=F6
instance:ZV prog 330 [ι 0,ι 0,ι 0,.pointer none,.pointer none]:=EZ
instance:AT prog 337 8 40 1:=⟨Bu⟩
instance:SV prog 339 8 [(0,337)]:=F6
instance:ZV prog 339 [.slice none 0 0,.slice none 0 0,.slice none 0 0,.slice none 0 0,.slice none 0 0,.slice none 0 0,.slice none 0 0,.slice none 0 0]:=EZ
instance:MT prog 342 3 351:=⟨Bu⟩
instance:SV prog 344 1 [(0,342)]:=F6
instance:ZV prog 344 [.map none]:=EZ
instance:PT prog 351 353:=Oa
instance:SV prog 353 2 [(0,40),(1,4)]:=F6
instance:ZV prog 353 [.slice none 0 0,.bool false]:=EZ
instance:SV prog 360 3 [(0,3),(1,3),(2,3)]:=F6
instance:ZV prog 360 [ι 0,ι 0,ι 0]:=EZ
instance:SV prog 389 5 [(0,4),(1,4),(2,4),(3,4),(4,3)]:=F6
instance:ZV prog 389 [.bool false,.bool false,.bool false,.bool false,ι 0]:=EZ
instance:AT prog 394 2 301 5:=⟨Bu⟩
instance:AG prog 394 10:=bH
instance:SV prog 396 11 [(0,394),(10,3)]:=F6
instance:AT prog 397 4 396 11:=⟨Bu⟩
instance:SV prog 399 44 [(0,397)]:=F6
instance:ZV prog 399 [ι 0,ι 0,ι 0,.bool false,.bool false,ι 0,ι 0,ι 0,.bool false,.bool false,ι 0,ι 0,ι 0,ι 0,.bool false,.bool false,ι 0,ι 0,ι 0,.bool false,.bool false,ι 0,ι 0,ι 0,ι 0,.bool false,.bool false,ι 0,ι 0,ι 0,.bool false,.bool false,ι 0,ι 0,ι 0,ι 0,.bool false,.bool false,ι 0,ι 0,ι 0,.bool false,.bool false,ι 0]:=EZ
instance:MT prog 403 3 404:=⟨Bu⟩
instance:ST prog 404 74 8 64:=⟨Bu⟩
instance:SV prog 406 1 [(0,403)]:=F6
instance:ZV prog 406 [.map none]:=EZ
instance:SV prog 424 4 [(0,3),(1,3),(2,3),(3,3)]:=F6
instance:ZV prog 424 [ι 0,ι 0,ι 0,ι 0]:=EZ
instance:SV prog 442 3 [(0,61),(2,3)]:=F6
instance:ZV prog 442 [ι 0,ι 0,ι 0]:=EZ
instance:SV prog 457 3 [(0,61),(2,3)]:=F6
instance:ZV prog 457 [ι 0,ι 0,ι 0]:=EZ
instance:AT prog 473 2 4 1:=⟨Bu⟩
instance:ZV prog 473 [.bool false,.bool false]:=EZ
instance:SV prog 491 1 [(0,64)]:=F6
instance:ZV prog 491 [.slice none 0 0]:=EZ
instance:ST prog 497 457 3 24:=⟨Bu⟩
instance:AT prog 504 4 503 1:=⟨Bu⟩
instance:AG prog 504 4:=bH
instance:ZV prog 504 [.pointer none,.pointer none,.pointer none,.pointer none]:=EZ
instance:SV prog 510 2 [(0,34),(1,29)]:=F6
instance:ZV prog 510 [υ 0,ι 0]:=EZ
abbrev tmE:Nat:=0x3fffffffffffffffffffffffffffffffffffffefffffffffffffffffffffffffffffffffffffffffffffffffffffffffff8
theorem sx:mkA (enB prog) tmE 394=true:=Bu
instance(t:Nat)[h:Vl (Nat.land (Nat.shiftRight tmE t) 1) 1]:EN prog t:=enB.en (V5 Bu sx h.e)
abbrev tmO:Nat:=0x4301fffdffbff9efbf3f7fdfffcbef9fedc7bbf9f038bffed7c7cfe71f87fe28d8d45b1cefff50ffc79fedffdd91f773fdff9fe6d7ff0be6d7fe7bff7098388207f067f30123e
theorem eX:mkA (ocB prog) tmO 563=true:=Bu
instance(t:Nat)[h:Vl (Nat.land (Nat.shiftRight tmO t) 1) 1]:OC prog t:=⟨(Bool.and_eq_true_iff.1 (V5 Bu eX h.e)).1⟩
instance(t:Nat)(z:Value)[h:Vl (Nat.land (Nat.shiftRight tmO t) 1) 1][hz:ZV prog t [z]]:ZO prog t z:=ocB.zo (V5 Bu eX h.e) hz
abbrev tmG:Nat:=0x61000c0002000300060001800060fc3000000183018e07801c30301806300000700386000000066000c000060180000f018000180000f63c33df80f980c02000
theorem sy:mkA (zoB prog yF) tmG 511=true:=Bu
instance(t:Nat)(l:Ap)[h:Vl (Nat.land (Nat.shiftRight tmG t) 1) 1][hz:ZV prog t l]:ZO prog t (.agg (τ l)):=agB.zo (V5 Bu sy h.e) hz
abbrev Acw:Nat:=0x42004000000000480020001000000001000002000020000000000c00000200009000000000000000001600000000000308801fe00000010400000000000000000000008000000
theorem mn:mkA (zoB prog (zeB (.pointer none))) Acw 563=true:=Bu
instance(t:Nat)[h:Vl (Nat.land (Nat.shiftRight Acw t) 1) 1]:ZV prog t [.pointer none]:=zeB.zv (V5 Bu mn h.e)
abbrev Acx:Nat:=0x20000000000000000000000100000000000000000000000000000010000000800000000000002000010000000000000000002000400010000790041000000
theorem mp:mkA (zoB prog (zeB (.slice none 0 0))) Acx 498=true:=Bu
instance(t:Nat)[h:Vl (Nat.land (Nat.shiftRight Acx t) 1) 1]:ZV prog t [.slice none 0 0]:=zeB.zv (V5 Bu mp h.e)
open Go.RowKit
section
variable{fr fr':Fr}{l:Ac}{d:Nat}
theorem zq(h:p:=by first|(show OpQ _ _ _ _ _ ⟨_,.move _,_,_,_,_⟩ _;exact yz rfl)|(show OpQ _ _ _ _ _ ⟨_,.load _ _,_,_,_,_⟩ _;first|exact DQ rfl (by((repeat(first|with_reducible apply Al|with_reducible apply An));try with_reducible assumption)) (by(first|with_reducible assumption|((with_reducible apply Lp);(repeat(first|with_reducible apply LGet.zero|with_reducible apply LGet.succ)))))|exact E1 rfl (by((repeat(first|with_reducible apply Al|with_reducible apply An));try with_reducible assumption)) (by(repeat(first|with_reducible apply LSub.done|with_reducible apply LSub.take|with_reducible apply LSub.drop))))|(show OpQ _ _ _ _ _ ⟨_,.fieldAddr _ _ _,_,_,_,_⟩ _;exact YK rfl (by(first|with_reducible exact BG _|with_reducible exact CM _|exact rfl)))|(show OpQ _ _ _ _ _ ⟨_,.nilCheck _,_,_,_,_⟩ _;first|exact aY rfl|exact q_nilCheck_f rfl|exact q_nilCheck_y rfl)|(show OpQ _ _ _ _ _ ⟨_,.assign _,_,_,_,_⟩ _;exact lR rfl)|(show OpQ _ _ _ _ _ ⟨_,.indexAddr _ _ _,_,_,_,_⟩ _;first|exact YL rfl rfl Af (by(first|with_reducible exact BG _|with_reducible exact CM _|exact rfl))|exact aZ rfl rfl Af (by(first|with_reducible exact BG _|with_reducible exact CM _|exact rfl))|exact TG rfl rfl Af|exact VX rfl rfl Af)|(show OpQ _ _ _ _ _ ⟨_,.binOp .eql _ _ _ _,_,_,_,_⟩ _;first|exact Ack rfl rfl|exact sc rfl rfl|exact Acn rfl rfl Tryz.underlying4|exact iI rfl rfl)|(show OpQ _ _ _ _ _ ⟨_,.binOp .add _ _ _ _,_,_,_,_⟩ _;exact Acc rfl rfl (by first|exact SR Af Af|exact QE Af Af))|(show OpQ _ _ _ _ _ ⟨_,.binOp .lss _ _ _ _,_,_,_,_⟩ _;exact Acg rfl rfl)|(show OpQ _ _ _ _ _ ⟨_,.pick _ _ _,_,_,_,_⟩ _;first|exact lS rfl rfl|exact lU rfl rfl)|(show OpQ _ _ _ _ _ ⟨_,.extract _ _,_,_,_,_⟩ _;exact iF rfl rfl)|(show OpQ _ _ _ _ _ ⟨_,.binOp .neq _ _ _ _,_,_,_,_⟩ _;first|exact Acl rfl rfl|exact sg rfl rfl|exact Aco rfl rfl Tryz.underlying4|exact q_nenilsl rfl rfl)|(show OpQ _ _ _ _ _ ⟨_,.binOp .geq _ _ _ _,_,_,_,_⟩ _;exact Acj rfl rfl)|(show OpQ _ _ _ _ _ ⟨_,.binOp .gtr _ _ _ _,_,_,_,_⟩ _;exact Aci rfl rfl)|(show OpQ _ _ _ _ _ ⟨_,.binOp .leq _ _ _ _,_,_,_,_⟩ _;exact Ach rfl rfl)|(show OpQ _ _ _ _ _ ⟨_,.unOp .not _ _,_,_,_,_⟩ _;exact Acm rfl)|(show OpQ _ _ _ _ _ ⟨_,.binOp .sub _ _ _ _,_,_,_,_⟩ _;exact wk rfl rfl (by first|exact SR Af Af|exact QE Af Af))|(show OpQ _ _ _ _ _ ⟨_,.call {callee:= .builtin .len,args:=_,argTypes:=_},_,_,_,_⟩ _;first|exact lZ rfl|exact q_len_map rfl (by((repeat(first|with_reducible apply Al|with_reducible apply An));try with_reducible assumption)))|(show OpQ _ _ _ _ _ ⟨_,.field _ _ _,_,_,_,_⟩ _;first|exact sm rfl (by(first|with_reducible assumption|((with_reducible apply Lp);(repeat(first|with_reducible apply LGet.zero|with_reducible apply LGet.succ)))))|exact l5 rfl (by(repeat(first|with_reducible apply LSub.done|with_reducible apply LSub.take|with_reducible apply LSub.drop))))|(show OpQ _ _ _ _ _ ⟨_,.build _ _,_,_,_,_⟩ _;exact eP rfl (by(repeat(first|apply BuildS.nil|(apply BuildS.one;(·infer_instance);(·infer_instance);(·rfl);(·(repeat(first|with_reducible apply LSet.zero|with_reducible apply LSet.succ))))|(apply BuildS.agg;(·infer_instance);(·infer_instance);(·rfl);(·(repeat(first|with_reducible apply LSetA.done|with_reducible apply LSetA.put|with_reducible apply LSetA.skip))))))))|(show OpQ _ _ _ _ _ ⟨_,.makeFunc _ _ _,_,_,_,_⟩ _;first|exact bi rfl|exact q_makeFunc0)|(show OpQ _ _ _ _ _ ⟨_,.convert _ _ _,_,_,_,_⟩ _;exact yB rfl (by exact⟨Af,Af⟩))|(show OpQ _ _ _ _ _ ⟨_,.binOp .mul _ _ _ _,_,_,_,_⟩ _;exact Acd rfl rfl (by first|exact SR Af Af|exact QE Af Af))|(show OpQ _ _ _ _ _ ⟨_,.binOp .quo _ _ _ _,_,_,_,_⟩ _;exact Ace rfl rfl Af Af (by first|exact SR Af Af|exact QE Af Af))|(show OpQ _ _ _ _ _ ⟨_,.binOp .rem _ _ _ _,_,_,_,_⟩ _;exact Acf rfl rfl Af Af)|(show OpQ _ _ _ _ _ ⟨_,.lookup _ _ _ _,_,_,_,_⟩ _;first|exact mj rfl rfl (by((repeat(first|with_reducible apply Al|with_reducible apply An));try with_reducible assumption))|exact iH rfl rfl (by((repeat(first|with_reducible apply Al|with_reducible apply An));try with_reducible assumption)))|fail):p:=h
theorem zst(h:p:=by first|(apply GM;(·rfl);(·rfl);(·first|rfl|assumption);(·((repeat(first|with_reducible apply Al|with_reducible apply An));try with_reducible assumption));(·(repeat(first|with_reducible apply LSet.zero|with_reducible apply LSet.succ)));(·(repeat(first|apply Upd.here|apply Upd.there))))|(apply VY;(·rfl);(·rfl);(·rfl);(·simp[Value.oneCell']);(·((repeat(first|with_reducible apply Al|with_reducible apply An));try with_reducible assumption));(·(repeat(first|with_reducible apply LSetA.done|with_reducible apply LSetA.put|with_reducible apply LSetA.skip)));(·(repeat(first|apply Upd.here|apply Upd.there))))|fail):p:=h
theorem zH0{l:Ac}(h:l.Sublist l':=by(repeat(first|with_reducible apply EP|with_reducible apply Ic|with_reducible apply List.Sublist.cons_cons|with_reducible apply List.Sublist.cons))): ∀c,c∈l->c∈l':=λ_ hc=>h.subset hc
theorem ozq(hk:DC P ro N E ops Q A6 ((d,v)::fr) ds l)(h:OpQ P ro N fr l o v:=by exact zq)(hw:RD ops fr o.guard=some true:=by rfl)(hd:o.dst=some d:=by rfl)(hb:Nat.blt d N=true:=by rfl):DC P ro N E ops Q (o::A6) fr ds l:=MU h hw hd hb hk
theorem ozs(hk:DC P ro N E ops Q A6 ((d,undef)::fr) ds l)(hw:RD ops fr o.guard=some false:=by rfl)(hd:o.dst=some d:=by rfl)(hb:Nat.blt d N=true:=by rfl):DC P ro N E ops Q (o::A6) fr ds l:=AfQ hw hd hb hk
theorem ozt{w:Bool}{ip:Decidable p}(h:DC P ro N E ops Q (o::A6) ((t,.bool true)::fr) ds l)(hw:o.guard=some (j,w):=by rfl)(hj:ops[j]?=some oj:=by rfl)(Lm:oj.dst=some t:=by rfl)(hc:Cc fr t=some (.bool (@decide p ip)):=by rfl)(hp:p:=by omega):DC P ro N E ops Q (o::A6) fr ds l:=eJ hw hj Lm hc hp h
theorem ozf{w:Bool}{ip:Decidable p}(h:DC P ro N E ops Q (o::A6) ((t,.bool false)::fr) ds l)(hw:o.guard=some (j,w):=by rfl)(hj:ops[j]?=some oj:=by rfl)(Lm:oj.dst=some t:=by rfl)(hc:Cc fr t=some (.bool (@decide p ip)):=by rfl)(hp:¬p:=by omega):DC P ro N E ops Q (o::A6) fr ds l:=eK hw hj Lm hc hp h
theorem ozn(hk:DC P ro N E ops Q A6 fr ds l2)(h:OpE P ro N fr l o (λv' l'=>v'=undef/\l'=l2):=by exact zst)(hw:o.guard=none:=by rfl)(hd:o.dst=none:=by rfl):DC P ro N E ops Q (o::A6) fr ds l:=Nk h hw hd λv l' h=>by rw[h.2];exact hk
variable{tbl:List (List Nat)}{sw:Sw}{sp:F5}{pl:List BI}{i:Nat}{k:Bool}
theorem qX(hk:PlanS P ro N E ops Q R tbl sw sp pl ((d,v)::fr) ds l)(h:OpQ P ro N fr R o v:=by exact zq)(hw:RD ops fr o.guard=some true:=by rfl)(hd:o.dst=some d:=by rfl)(hb:Nat.blt d N=true:=by rfl):PlanS P ro N E ops Q R tbl sw sp ((i,true,o)::pl) fr ds l:=N9 h hw hd hb hk
theorem pzs(hk:PlanS P ro N E ops Q R tbl none [] pl ((d,undef)::fr) ds l)(hR: ∀c,c∈R->c∈l:=by exact zH0)(hw:RD ops fr o.guard=some false:=by rfl)(hd:o.dst=some d:=by rfl)(hb:Nat.blt d N=true:=by rfl):PlanS P ro N E ops Q R tbl none [] ((i,k,o)::pl) fr ds l:=Acv hR hw hd hb hk
theorem pzt{w:Bool}{ip:Decidable p}(h:PlanS P ro N E ops Q R tbl sw sp ((i,k,o)::pl) ((t,.bool true)::fr) ds l)(hw:o.guard=some (j,w):=by rfl)(hj:ops[j]?=some oj:=by rfl)(Lm:oj.dst=some t:=by rfl)(hc:Cc fr t=some (.bool (@decide p ip)):=by rfl)(hp:p:=by omega):PlanS P ro N E ops Q R tbl sw sp ((i,k,o)::pl) fr ds l:=md hw hj Lm hc hp h
theorem pzf{w:Bool}{ip:Decidable p}(h:PlanS P ro N E ops Q R tbl sw sp ((i,k,o)::pl) ((t,.bool false)::fr) ds l)(hw:o.guard=some (j,w):=by rfl)(hj:ops[j]?=some oj:=by rfl)(Lm:oj.dst=some t:=by rfl)(hc:Cc fr t=some (.bool (@decide p ip)):=by rfl)(hp:¬p:=by omega):PlanS P ro N E ops Q R tbl sw sp ((i,k,o)::pl) fr ds l:=me hw hj Lm hc hp h
theorem wt(hk:PlanS P ro N E ops Q R tbl none [] pl fr ds l2)(h:OpE P ro N fr l o (λv' l'=>v'=undef/\l'=l2):=by exact zst)(hw:o.guard=none:=by rfl)(hd:o.dst=none:=by rfl)(hR: ∀c,c∈R->c∈l2:=by exact zH0):PlanS P ro N E ops Q R tbl none [] ((i,false,o)::pl) fr ds l:=Oy h hw hd (λv l' h=>by rw[h.2];exact hR) λv l' h=>by rw[h.2];exact hk
theorem pze(hk:PlanS P ro N E ops Q R tbl none [] pl ((d,v)::fr) ds l)(h:OpQ P ro N fr l o v:=by first|(show OpQ _ _ _ _ _ ⟨_,.load _ _,_,_,_,_⟩ _;first|exact DQ rfl (by((repeat(first|with_reducible apply Al|with_reducible apply An));try with_reducible assumption)) (by(first|with_reducible assumption|((with_reducible apply Lp);(repeat(first|with_reducible apply LGet.zero|with_reducible apply LGet.succ)))))|exact E1 rfl (by((repeat(first|with_reducible apply Al|with_reducible apply An));try with_reducible assumption)) (by(repeat(first|with_reducible apply LSub.done|with_reducible apply LSub.take|with_reducible apply LSub.drop))))|fail)(hw:o.guard=none:=by rfl)(hd:o.dst=some d:=by rfl)(hb:Nat.blt d N=true:=by rfl)(hR: ∀c,c∈R->c∈l:=by exact zH0):PlanS P ro N E ops Q R tbl none [] ((i,false,o)::pl) fr ds l:=Acu h hw hd hb hR hk
end
theorem OpE.re{fr:Fr}{l:Ac}(k:Keep l l2)(h:OpE P ro N fr l2 o K)(hk: ∀v l',K v l'-> ∃l3,Keep l' l3/\K' v l3):OpE P ro N fr l o K':=
 ⟨h.nodef,λE a W hf hs=>(h.val E a W hf (k.sat hs)).mono λv W' ⟨l',h1,h2⟩=>by obtain⟨l3,h3,h4⟩:=hk v l' h1;exact⟨l3,h4,h3.sat h2⟩⟩
theorem Fn.re{f:FuncId}{args:Ap}{l:Ac}(k:Keep l l2)(h:Fn P f args l2 K)(hk: ∀v l',K v l'-> ∃l3,Keep l' l3/\K' v l3):Fn P f args l K':=
 ⟨λE W hs=>(h.run E W (k.sat hs)).mono λe W' he=>by obtain⟨v,l',h1,h2,h3⟩:=he;obtain⟨l3,h4,h5⟩:=hk v l' h2;exact⟨v,l3,h1,h5,h4.sat h3⟩⟩
theorem eY{l l':Ac}{b:Nat}{o o':Obj}(h:Upd l b o o' l'): ∀(c:Ac),Upd (c++l) b o o' (c++l')
 |[]=>h
 |x::c=> .there (eY h c)
section
variable{fr:Fr}{l:Ac}{d:Option Nat}{ty:TypeId}{pos:String}{aft:Array Edge}{g:Option (Nat×Bool)}{x y z s:Operand}{u w:Value}{b:Nat}
theorem HM{T e k yb bl:Nat}{xs ws zs:Ap}{X cs F:Ac}(hx:ev fr s=some v)(hy:ev fr x=some (.slice (some ⟨bl,0,none⟩) 1 1))[c:ST P T e k yb][cz:ZV P e zs](Sv:zs.length=k)(EY:OwnSl e k v n xs cs)(hw:ws.length=k)(h1: ∀u∈ws,u.oneCell'=true)(hn:n<=1000000)(ee:yb<=1000):
 OpE P ro N fr ((bl,.cells (τ ws) e (0,0))::(X++(cs++F))) ⟨d,.call {callee:= .builtin .append,args:=#[s,x],argTypes:=#[T,T]},ty,pos,aft,g⟩ (λv' l'=> ∃c2,OwnSl e k v' (n+1) (xs++ws) c2/\l'=X++(c2++F)):=by
 have qR:((bl,Obj.cells (τ ws) e (0,0))::(X++(cs++F))).Perm (cs++(((bl,Obj.cells (τ ws) e (0,0))::X)++F)):=
  AC ((bl,Obj.cells (τ ws) e (0,0))::X) cs F
 have hb:(n+1)*yb<=140737488355328:=by have:=Jn (show n+1<=1000001 by omega) ee;omega
 refine OpE.re (Keep.of_perm qR) (GN (m:=1) (xs:=xs) (news:=ws) (zs:=zs) hx hy Sv EY (Aa _ Al) (λj u hj=>by simpa using hj) (by rw[hw,Nat.one_mul]) h1 (by unfold maxLen;omega) hb) ?_;rintro v' _ ⟨c2,ho,rfl⟩;exact⟨_,Keep.trans (Keep.of_perm (AC c2 ((bl,Obj.cells (τ ws) e (0,0))::X) F)) ζ,c2,ho,rfl⟩
theorem bI{a:Act}{d:Nat}(hf:FSat N fr a)(hj:ops[j]?=some oj)(hd:oj.dst=some d)(hb:Cc fr d=some undef):yielded ops a.tmps j=none:=by have:=hf.at_ d _ hb;simp[yielded,hj,hd,this,undef]
theorem yG{d dj:Nat}{bw:Bool}(hw:o.guard=some (j,bw))(hj:ops[j]?=some oj)(Lm:oj.dst=some dj)(hb:Cc fr dj=some undef)(hd:o.dst=some d)(SO:Nat.blt d N=true)(hk:DC P ro N E ops Q A6 ((d,undef)::fr) ds l):DC P ro N E ops Q (o::A6) fr ds l:=
 ⟨λa W hf hds hs=>by have hy:=bI hf hj Lm hb;refine wpListIn_step λK' hK'=>?_;rw[Ab (by simp[Region.wanted,hw,hy])];refine⟨λ_ _=>trivial,hK' _ _ (hk.run _ _ ?_ ((ES _ _ _).trans hds) hs)⟩;have:=hf.put (d:=o.dst) undef (by rw[hd];exact SO);rw[hd] at this⊢;exact this⟩
end
end Go.Proofs.YtlifcingifodfaaGreat
