/- Laws that the statement's proof leans on (joined out of several texts). -/
import Derived.Test.YtlifcingifodfaaGreatGc5
import Derived.Laws.AppendOwn
set_option maxHeartbeats 4000000
set_option linter.unusedVariables false
set_option linter.unusedSimpArgs false
namespace Go.Proofs.YtlifcingifodfaaGreat
open List(toArray replicate)
open Go.RowKit
variable{k T n e yb N j b dj t m cap i l0 h0 m0:Nat}{cs zs vs ws xs news:Ap}{l R F l':Ad}{E W:World}{ct ty t2:TypeId}{fz:Nat×Nat}{P:Program}{ro:Option Nat}{v u z0:Value}{ds:List Deferred}{oj o:Oper}{x y z s:Operand}{Q:Exit->Act->World->Prop}{K:Value->Ad->Prop}{ops:Array Oper}{sp:FM}{pos:String}{g:Option (Nat×Bool)}{rs:List ResultVar}{tbl:List (List Nat)}{pl:List BH}{p:Prop}{os:List Oper}{ρ:Operand->Value}{ps:List (Nat×Value)}{cl:Array Value}{α:Type}{lo hi mx:Option Operand}
section
variable{sw:Sw}{fr fr':Fr}{k:Bool}
theorem Z2(h:CU N E Q .normal fr ds l):PlanS P ro N E ops Q R tbl sw sp [] fr ds l:= .nil h
theorem EF{d:Nat}(h:OpQ P ro N fr R o v)(hw:o.guard=none)(hd:o.dst=some d)(hb:Nat.blt d N=true)(hk:PlanS P ro N E ops Q R tbl sw sp pl ((d,v)::fr) ds l):PlanS P ro N E ops Q R tbl sw sp ((i,true,o)::pl) fr ds l:=
 .q h hw (by rw[hd];exact hb) (by rw[hd];exact hk)
theorem XX{d:Nat}{b:Bool}(h:OpQ P ro N fr R o v)(hw:o.guard=some (j,b))(hj:ops[j]?=some oj)(KO:oj.dst=some dj)(hb:BX fr dj=some (.bool b))(hd:o.dst=some d)(R9:Nat.blt d N=true)(hk:PlanS P ro N E ops Q R tbl sw sp pl ((d,v)::fr) ds l):PlanS P ro N E ops Q R tbl sw sp ((i,true,o)::pl) fr ds l:=
 .gq h hw hj KO hb (by rw[hd];exact R9) (by rw[hd];exact hk)
theorem Aaf{d:Nat}{b b':Bool}(hR: ∀c,c∈R->c∈l)(hw:o.guard=some (j,b))(hj:ops[j]?=some oj)(KO:oj.dst=some dj)(hb:BX fr dj=some (.bool b'))(G5:(b'==b)=false)(hd:o.dst=some d)(R9:Nat.blt d N=true)(hk:PlanS P ro N E ops Q R tbl none [] pl ((d,undef)::fr) ds l):PlanS P ro N E ops Q R tbl none [] ((i,k,o)::pl) fr ds l:=
 .gs hw hj KO hb G5 (by rw[hd];exact R9) hR (λ_=>rfl) (λ_ x hx=>by cases hx) (by rw[hd];exact hk)
theorem CS{d:Nat}(h:OpE P ro N fr l o K)(hw:o.guard=none)(hd:o.dst=some d)(hb:Nat.blt d N=true)(hR: ∀v l',K v l'->(∀c,c∈R->c∈l'))(hk: ∀v l',K v l'->PlanS P ro N E ops Q R tbl none [] pl ((d,v)::fr) ds l'):PlanS P ro N E ops Q R tbl none [] ((i,false,o)::pl) fr ds l:=
 .e h hw (by rw[hd];exact hb) hR (λ_ _ _ x hx=>by cases hx) λv l' hkv=>by rw[hd];exact hk v l' hkv
theorem NZ(h:OpE P ro N fr l o K)(hw:o.guard=none)(hd:o.dst=none)(hR: ∀v l',K v l'->(∀c,c∈R->c∈l'))(hk: ∀v l',K v l'->PlanS P ro N E ops Q R tbl none [] pl fr ds l'):PlanS P ro N E ops Q R tbl none [] ((i,false,o)::pl) fr ds l:=
 .e h hw (by rw[hd];rfl) hR (λ_ _ _ x hx=>by cases hx) λv l' hkv=>by rw[hd];exact hk v l' hkv
theorem Aag{d:Nat}{b:Bool}(h:OpE P ro N fr l o K)(hw:o.guard=some (j,b))(hj:ops[j]?=some oj)(KO:oj.dst=some dj)(hb:BX fr dj=some (.bool b))(hd:o.dst=some d)(R9:Nat.blt d N=true)(hR: ∀v l',K v l'->(∀c,c∈R->c∈l'))(hk: ∀v l',K v l'->PlanS P ro N E ops Q R tbl none [] pl ((d,v)::fr) ds l'):PlanS P ro N E ops Q R tbl none [] ((i,false,o)::pl) fr ds l:=
 .ge h hw hj KO hb (by rw[hd];exact R9) hR (λ_ _ _ x hx=>by cases hx) λv l' hkv=>by rw[hd];exact hk v l' hkv
theorem Hb{d:Nat}(h:OpE P ro N fr l o K)(hw:o.guard=none)(hd:o.dst=some d)(hb:Nat.blt d N=true)(hR: ∀v l',K v l'->(∀c,c∈R->c∈l'))(hS: ∀v l',K v l'-> ∀x,x∈sp->FQ tbl i x.1=false-> ∀c,c∈x.2->c∈l')(hk: ∀v l',K v l'->PlanS P ro N E ops Q R tbl none sp pl ((d,v)::fr) ds l'):PlanS P ro N E ops Q R tbl none sp ((i,false,o)::pl) fr ds l:=
 .e h hw (by rw[hd];exact hb) hR hS λv l' hkv=>by rw[hd];exact hk v l' hkv
theorem Hs(h:OpE P ro N fr l o K)(hw:o.guard=none)(hd:o.dst=none)(hR: ∀v l',K v l'->(∀c,c∈R->c∈l'))(hS: ∀v l',K v l'-> ∀x,x∈sp->FQ tbl i x.1=false-> ∀c,c∈x.2->c∈l')(hk: ∀v l',K v l'->PlanS P ro N E ops Q R tbl none sp pl fr ds l'):PlanS P ro N E ops Q R tbl none sp ((i,false,o)::pl) fr ds l:=
 .e h hw (by rw[hd];rfl) hR hS λv l' hkv=>by rw[hd];exact hk v l' hkv
theorem Dg(h:(sp.map Prod.fst).all (λq=>FQ tbl i q)=true){x:Nat×Ad}(hx:x∈sp)(ha:FQ tbl i x.1=false): ∀c,c∈x.2->c∈l':=by have:=A3.1 h x.1 (Au.2 ⟨x,hx,rfl⟩);rw[ha] at this;cases this
theorem Gi{d:Nat}{S:Ad}(h:OpQ P ro N fr S o v)(hS: ∀c,c∈S->c∈l)(hw:o.guard=none)(hd:o.dst=some d)(hb:Nat.blt d N=true)(hk:PlanS P ro N E ops Q R tbl sw ((i,S)::sp) pl ((d,v)::fr) ds l):PlanS P ro N E ops Q R tbl sw sp ((i,true,o)::pl) fr ds l:=
 .sq h hS hw (by rw[hd];exact hb) (by rw[hd];exact hk)
theorem Aah{d:Nat}(h:OpQ P ro N fr l o v)(hw:o.guard=none)(hd:o.dst=some d)(hb:Nat.blt d N=true)(hR: ∀c,c∈R->c∈l)(hk:PlanS P ro N E ops Q R tbl none [] pl ((d,v)::fr) ds l):PlanS P ro N E ops Q R tbl none [] ((i,false,o)::pl) fr ds l:=by
 refine CS (h.run l λ_ h=>h) hw hd hb ?_ ?_
 ·rintro _ _ ⟨rfl,rfl⟩;exact hR
 ·rintro _ _ ⟨rfl,rfl⟩;exact hk
theorem Z3{d:Nat}(h:OpQ P ro N fr R o v)(hw:Rr ops fr o.guard=some true)(hd:o.dst=some d)(hb:Nat.blt d N=true)(hk:PlanS P ro N E ops Q R tbl sw sp pl ((d,v)::fr) ds l):PlanS P ro N E ops Q R tbl sw sp ((i,true,o)::pl) fr ds l:=by
 rcases KS hw with⟨h1,_⟩|⟨j,b,oj,dj,b',h1,h2,h3,h4,h5⟩
 ·exact EF h h1 hd hb hk
 ·have:b'=b:=by simpa using h5
  subst this;exact XX h h1 h2 h3 h4 hd hb hk
theorem Aai{d:Nat}(hR: ∀c,c∈R->c∈l)(hw:Rr ops fr o.guard=some false)(hd:o.dst=some d)(hb:Nat.blt d N=true)(hk:PlanS P ro N E ops Q R tbl none [] pl ((d,undef)::fr) ds l):PlanS P ro N E ops Q R tbl none [] ((i,k,o)::pl) fr ds l:=by
 rcases KS hw with⟨_,h1⟩|⟨j,b,oj,dj,b',h1,h2,h3,h4,h5⟩
 ·cases h1
 ·exact Aaf hR h1 h2 h3 h4 h5 hd hb hk
theorem ka{w:Bool}{ip:Decidable p}(hw:o.guard=some (j,w))(hj:ops[j]?=some oj)(KO:oj.dst=some t)(hc:BX fr t=some (.bool (@decide p ip)))(hp:p)(h:PlanS P ro N E ops Q R tbl sw sp ((i,k,o)::pl) ((t,.bool true)::fr) ds l):PlanS P ro N E ops Q R tbl sw sp ((i,k,o)::pl) fr ds l:=
 .weak (GJ (by rw[hc,Av hp])) h
theorem kc{w:Bool}{ip:Decidable p}(hw:o.guard=some (j,w))(hj:ops[j]?=some oj)(KO:oj.dst=some t)(hc:BX fr t=some (.bool (@decide p ip)))(hp:¬p)(h:PlanS P ro N E ops Q R tbl sw sp ((i,k,o)::pl) ((t,.bool false)::fr) ds l):PlanS P ro N E ops Q R tbl sw sp ((i,k,o)::pl) fr ds l:=
 .weak (GJ (by rw[hc,Ax hp])) h
end
section
def qm(os:List Oper)(plan:List (Nat×Bool))(tbl:List (List Nat))(i j:Nat):Bool:=Se os plan tbl (some [(i,j)])
theorem Lw{fr:Fr}(plan:List (Nat×Bool))(tbl:List (List Nat))(i j:Nat)(R:Ad)(hm:P.follows .mixedOrders=true)(hv:qm os plan tbl i j=true)(ha:Attach os plan pl)(hR: ∀c,c∈R->c∈l)
 (h:PlanS P ro N E os.toArray Q R tbl (some [(i,j)]) [] pl fr ds l):BN P ro N E (.region k os.toArray true) Q fr ds l:=Sf plan tbl (some [(i,j)]) R hm hv ha hR h
def tN(os:List Oper)(tbl:List (List Nat))(Mj:List (Nat×Bool))(i j:Nat):Bool:=
 Gq os.toArray tbl none (Is os Mj).tail&&Mj.head?==some (j,false)&&(Mj.map Prod.fst).count i==1&&j !=i
theorem N0{A0 alt:List BH}{fr:Fr}(Mj:List (Nat×Bool))(ha:Attach os Mj alt)(hp:alt.Perm ((i,false,o)::A0))(s7:tN os tbl Mj i j=true)
 (h1:PlanS P ro N E os.toArray Q R tbl none sp ((i,false,o)::A0) fr ds l)(h2:PlanS P ro N E os.toArray Q R tbl none sp alt fr ds l):PlanS P ro N E os.toArray Q R tbl (some [(i,j)]) sp ((i,false,o)::A0) fr ds l:=by
 unfold tN at s7;simp only[AW,Jz,Pv,ne_eq] at s7;obtain⟨⟨⟨p1,p2⟩,p3⟩,p4⟩:=s7;have Aco:(((i,false,o)::A0).map (λx:BH=>x.1)).count i=1:=by rw[<-(hp.map _).count_eq,ha.spec.2];exact p3
 have hni: ∀x,x∈A0->x.1≠i:=λx hx e=>by rw[AJ,List.count_cons_self] at Aco;have:0<(A0.map (λx:BH=>x.1)).count i:=List.count_pos_iff.2 (Au.2 ⟨x,hx,e⟩);omega
 rw[ha.fun_eq] at p1;cases ha with
 |nil=>cases p2
 |cons h0 hr=>simp only[List.head?_cons,I3] at p2;cases p2;exact .alt2 p4 hp p1 hni h1 h2
end
def btV(P:Program)(t:Nat):Bool:=match P.underlying t with
 |some (.struct fs)=>fs.all λf=>(P.info? f.type).isSome
 |_=>false
class BT(P:Program)(t:Nat):Prop where out:btV P t=true
section
variable{fr:Fr}{d:Option Nat}{aft:Array Edge}{w:Value}{off:Nat}{t:TypeId}
theorem cY{α β:Type}{f:α->Sem β}{h:α->β}{Q:List β->Ad->Prop}: ∀{xs:List α},(∀x,x∈xs-> ∀(Q:β->Ad->Prop) l,sl P (f x) l Q<->Q (h x) l)->(sl P (xs.mapM f) l Q<->Q (xs.map h) l)
 |[],_=>by simp only[List.mapM_nil,CQ];exact DF
 |x::xs,hx=>by rw[List.mapM_cons,AC,hx x Ak,AC,cY (h:=h) λy hy=>hx y (An _ hy)];exact DF
def Z4(fr:Fr):List (Nat×Operand)->Option (List (Nat×Value))
 |[]=>some []
 |(i,x)::r=>match ev fr x,Z4 fr r with
  |some v,some vs=>some ((i,v)::vs)
  |_,_=>none
theorem Agrees.parts(h:Agrees fr ρ): ∀{xs:List (Nat×Operand)} {vs:List (Nat×Value)},Z4 fr xs=some vs->(xs.map λ(i,x)=>(i,ρ x))=vs
 |[],vs,e=>by cases e;rfl
 |(i,x)::r,vs,e=>by
  unfold Z4 at e
  split at e
  ·rename_i v us h1 h2;cases e;rw[AJ,h.parts h2];show(i,ρ x)::us=_;rw[h x v h1]
  ·cases e
inductive BuildS(P:Program)(t:Nat):Ap->List (Nat×Value)->Ap->Prop
 |nil {cs:Ap}:BuildS P t cs [] cs
 |one {cs cs1 NG:Ap} {i off ft:Nat} {v:Value} {r:List (Nat×Value)} (c:FV P t i off ft) (c2:OC P ft):v.oneCell'=true->LSet cs off v cs1->BuildS P t cs1 r NG->BuildS P t cs ((i,v)::r) NG
 |agg {cs cs1 NG ws:Ap} {i off ft n:Nat} {r:List (Nat×Value)} (c:FV P t i off ft) (c2:AG P ft n):ws.length=n->LSetA cs off ws cs1->BuildS P t cs1 r NG->BuildS P t cs ((i,.agg (toArray ws))::r) NG
theorem Z5(vs:Ap): ∀(cs:Array Value) (off k:Nat),(vs.zipIdx k).foldl (λcs (c,j)=>cs.setIfInBounds (off+j) c) cs=C8 cs (off+k) vs:=by
 induction vs with
 |nil=>intro cs off k;rfl
 |cons v vs ih=>intro cs off k;rw[List.zipIdx_cons,ER,ih];rfl
theorem JP(vs cs:Array Value)(off:Nat):vs.zipIdx.foldl (λcs (c,j)=>cs.setIfInBounds (off+j) c) cs=C8 cs off vs.toList:=by rw[<-Array.foldl_toList,Array.toList_zipIdx,Z5];rfl
theorem XY{fs:Array Field}(hu:P.underlying t=some (.struct fs)){place:Nat->Option (Nat×Nat)}(hp: ∀i fd Hp,fs[i]?=some fd->P.info? fd.type=some Hp->place i=some (fd.offset,Hp.size)){NG:Ap}{parts:List (Nat×Value)}(h:BuildS P t cs parts NG):
 Instr.fill place (toArray cs) parts=some (toArray NG):=by
 induction h with
 |nil=>rfl
 | @one cs cs1 NG i off ft v r c c2 h1 hs _ ih=>obtain⟨fs',fd,k1,k2,k3,k4⟩:=SZ c.out;rw[hu] at k1;cases k1;obtain⟨ud,Hp,_,_,i1,i2⟩:=Mo c2.out;rw[<-k4] at i1;unfold Instr.fill;rw[hp _ _ _ k2 i1,k3,i2,OK h1];have Dc:=hs.spec.2;simp only;rw[Ab (by simp;omega),JP #[v] (toArray cs) off];simp only[C8,Bw,hs.spec.1];exact ih
 | @agg cs cs1 NG ws i off ft n r c c2 hn hs _ ih=>obtain⟨fs',fd,k1,k2,k3,k4⟩:=SZ c.out;rw[hu] at k1;cases k1;obtain⟨ud,Hp,_,_,i1,i2⟩:=KR c2.out;rw[<-k4] at i1;unfold Instr.fill;rw[hp _ _ _ k2 i1,k3,i2];have Dc:=hs.spec.2;have e:(Value.agg (toArray ws)).cells=toArray ws:=rfl;simp only[e];rw[Ab (by simp[hn];omega),JP (toArray ws) (toArray cs) off];have:=hs.spec.1;simp only at this⊢;rw[this];exact ih
theorem cZ{xs:List (Nat×Operand)}(hx:Z4 fr xs=some ps)[c:ZV P t zs][cb:BT P t](hb:BuildS P t zs ps cs):OpQ P ro N fr R ⟨d,.build t (toArray xs),ty,pos,aft,g⟩ (.agg (toArray cs)):=BM rfl λρ l hρ _=>by
 obtain⟨i,zv,h1,h2,h3⟩:=J0 c.out;have hbt:=cb.out;unfold btV at hbt
 split at hbt
 ·rename_i fs hu;simp only[execOp,AC,Instr.build,zeroValue,Dj,hρ.parts hx];rw[<-AC,JN h1,h2];simp only[Bn];rw[E0 hu];simp only[AC];have y4:fs=toArray fs.toList:=by simp
  rw[y4,List.mapM_toArray,map_eq_pure_bind,AC,cY (h:=λf=>(f.offset,((P.info? f.type).map (·.size)).getD 0)) (by
   intro f hf Q l;have:=Array.all_eq_true'.1 hbt f (by simpa using hf);cases hi:P.info? f.type with
   |none=>rw[hi] at this;cases this
   |some Hp=>rw[AC,Hr hi];exact DF)]
  simp only[Bn];have Pg:=XY (place:=λi=>(toArray (fs.toList.map λf=>(f.offset,((P.info? f.type).map (·.size)).getD 0)))[i]?) hu (by intro i fd Hp k1 k2;simp[k1,k2]) hb
  have hz:zv.cells=toArray zs:=by rw[<-h3]
  rw[hz,Pg];exact⟨rfl,rfl⟩
 ·cases hbt
theorem Vi{T:TypeId}{ud:TypeDesc}(h:P.underlying T=some ud)(W:World):(isAgg T).run P W= .ok (NV ud) W:=by unfold isAgg;rw[Sem.run_bind,run_underlying h];cases ud<;>rfl
theorem Ws{T:TypeId}(hc:p7 P T=true)(hs:Sat E l W)(hm:(b,Obj.cells (toArray cs) ct fz)∈l)(hv:ZX cs off=some v):(loadVar T ⟨b,off,none⟩).run P W= .ok v W:=by obtain⟨ud,i,e1,e2,_,_⟩:=Mo hc;have XE:=hs.cell hm off;rw[XP hv] at XE;unfold loadVar;rw[Sem.run_bind,Vi e1,e2];simp[Result.andThen,XE]
theorem Wt(hc:vO P T=some n)(hs:Sat E l W)(hm:(b,Obj.cells (toArray cs) ct fz)∈l)(hv:LSub cs off n ws):(loadVar T ⟨b,off,none⟩).run P W= .ok (.agg (toArray ws)) W:=by
 obtain⟨ud,i,e1,e2,e3,e4⟩:=KR hc;have UI:(sizeOf T).run P W= .ok n W:=by unfold sizeOf typeInfo;simp[Sem.run_bind,Result.andThen,program,Sem.run,e3,e4]
 obtain⟨Ju,hv2⟩:=hv.spec;have Ei:ws.length=n:=by rw[<-Ju];simp;omega
 unfold loadVar;rw[Sem.run_bind,Vi e1,e2];simp only[Result.andThen,C6];rw[Sem.run_bind,UI];simp only[Result.andThen];rw[Sem.run_bind];have:=run_loadCells_list (P:=P) (w:=W) ⟨b,off,none⟩ ws (λj u hj=>by
  rw[Gw,hs.cell hm];rw[<-Ju] at hj;simp only[AF];rw[GF] at hj
  split at hj
  ·simpa[Iu] using hj
  ·cases hj)
 rw[Ei] at this;rw[this];rfl
theorem vU{t:Nat}(h1:BX fr t=some v)(h:ResS P fr l rs vs):ResS P fr l (.tmp t::rs) (v::vs):= .tmp h1 h
theorem kh{T:TypeId}(h1:BX fr k=some (.pointer (some ⟨b,off,none⟩)))[c:OC P T](hm:(b,Obj.cells (toArray cs) ct fz)∈l)(hv:ZX cs off=some v)(h:ResS P fr l rs vs):ResS P fr l (.cell k T::rs) (v::vs):=
 .cell h1 (λE W hs=>Ws c.out hs hm hv) h
theorem Cz(h1:BX fr k=some (.pointer (some ⟨b,off,none⟩)))[c:AG P T n](hm:(b,Obj.cells (toArray cs) ct fz)∈l)(hv:LSub cs off n ws)(h:ResS P fr l rs vs):ResS P fr l (.cell k T::rs) (.agg (toArray ws)::vs):=
 .cell h1 (λE W hs=>Wt c.out hs hm hv) h
theorem FI{f:Nat}{xs:List Operand}{fs:Ap}{at_:Array TypeId}(hx:ev fr x=some (.func (.func f) (toArray fs) (toArray cs)))(hy:RS fr xs=some vs)[c:EN P f](h: ∀l,(∀c,c∈R->c∈l)->Fn P f (fs++vs++cs) l (λv' l'=>v'=v/\l'=l)):OpQ P ro N fr R ⟨d,.call {callee:= .value x,args:=xs.toArray,argTypes:=at_},ty,pos,aft,g⟩ v:=
 ⟨λl hl=>Dn hx hy (by simpa using h l hl)⟩
end
def OwnSl(e k:Nat)(v:Value)(n:Nat)(xs:Ap)(cs:Ad):Prop:=
 xs.length=n*k/\((v= .slice none 0 0/\n=0/\cs=[])\/(∃b cap sp,v= .slice (some ⟨b,0,none⟩) n cap/\cs=[(b,.cells (toArray (xs++sp)) e (0,0))]/\n<=cap/\cap<=maxLen/\(xs++sp).length=cap*k))
theorem OwnSl.nil(e k:Nat):OwnSl e k (.slice none 0 0) 0 [] []:=⟨by simp,.inl ⟨rfl,rfl,rfl⟩⟩
section
variable{fr:Fr}{d:Option Nat}{aft:Array Edge}{w:Value}{off:Nat}{t:TypeId}
theorem Sat.row{cs cs':Array Value}{e:TypeId}(h:Sat E ((b,.cells cs e fz)::F) W):Sat E ((b,.cells cs' e fz)::F) (W.setRow b cs'):=by
 refine⟨h.os,h.tape,h.output,h.nodup,λc hc=>?_⟩;rcases At.1 hc with rfl|hc'
 ·exact setRow_heap W b cs cs' e fz (h.has _ Ak)
 ·have hn:=h.nodup;rw[AJ,AP] at hn;have G5:c.1≠b:=λe=>hn.1 (Au.2 ⟨c,hc',e⟩);rw[setRow_other W b c.1 cs' G5];exact h.has c (An _ hc')
theorem Gy{cp:Nat}{cs:Ad}(hx:ev fr s=some v)(hy:ev fr x=some (.slice (some ⟨b,off,none⟩) m cp))[c:ST P T e k yb][cz:ZV P e zs](RN:zs.length=k)
 (ET:OwnSl e k v n xs cs)(hm:(b,Obj.cells cl ct fz)∈cs++F)(jD: ∀j u,news[j]?=some u->cl[off+j]?=some u)(jE:news.length=m*k)(h1: ∀u∈news,u.oneCell'=true)(h63:n+m<=maxLen)(cI:(n+m)*yb<=140737488355328):
 OpE P ro N fr (cs++F) ⟨d,.call {callee:= .builtin .append,args:=#[s,x],argTypes:=#[T,T]},ty,pos,aft,g⟩ (λv' l'=> ∃cs',OwnSl e k v' (n+m) (xs++news) cs'/\l'=cs'++F):=by
 refine⟨rfl,λE a W hf hs=>?_⟩;have hρ:=hf.agrees;obtain⟨Hp,u1,u2,u3,u4⟩:=E7 c.out;obtain⟨uQ,zv,z1,z2,z3⟩:=J0 cz.out;rw[u2] at z1;cases z1;have XD:execOp a.eval ⟨d,.call {callee:= .builtin .append,args:=#[s,x],argTypes:=#[T,T]},ty,pos,aft,g⟩=(do pure (.value (<-Builtin.append_ #[T,T] ty #[v,.slice (some ⟨b,off,none⟩) m cp])):Sem Next):=by simp[execOp,resolve,hρ s _ hx,hρ x _ hy,invoke,builtin]
 unfold OpVal;rw[XD,Sem.run_bind];have hnw: ∀j u,news[j]?=some u->W.cell? ((⟨b,off,none⟩:Addr).add j)=some u:=λj u hj=>by rw[Gw,hs.cell hm];exact jD j u hj
 have hn':news.length=m*Hp.size:=by rw[u3];exact jE
 have hmx:n+m<=9223372036854775807:=by simp only[maxLen] at h63;omega
 have Ei:(xs++news).length=(n+m)*k:=by rw[Ah,ET.1,jE,Fp]
 have fresh: ∀(s8:Nat) (W0:World),Sat E F W0->W0.heap=W.heap-> ∃cs',OwnSl e k (.slice (some ⟨W.heap.size,0,none⟩) (n+m) (grownCap W (n+m) s8 e)) (n+m) (xs++news) cs'/\Sat E (cs'++F) (W0.drew.alloc (.cells (toArray (xs++news)++Builtin.zeroCells zv.cells (grownCap W (n+m) s8 e-(n+m))) e)):=by
  intro s8 W0 yg hh;refine⟨_,⟨Ei,.inr ⟨W.heap.size,_,(Builtin.zeroCells zv.cells (grownCap W (n+m) s8 e-(n+m))).toList,rfl,rfl,grownCap_ge _ _ _ _,grownCap_le_maxLen _ _ _ _ h63,?_⟩⟩,?_⟩
  ·rw[Ah,Ei,Array.length_toList,size_zeroCells];have hzz:zv.cells.size=k:=by rw[<-RN,<-z3];simp
   rw[hzz,<-Fp];congr 1;have:=grownCap_ge W (n+m) s8 e;omega
  ·have h2:=yg.drew.alloc (.cells (toArray (xs++news)++Builtin.zeroCells zv.cells (grownCap W (n+m) s8 e-(n+m))) e);have e1:W0.drew.heap.size=W.heap.size:=by show W0.heap.size=_;rw[hh]
   rw[e1] at h2;have e2:toArray (xs++news++(Builtin.zeroCells zv.cells (grownCap W (n+m) s8 e-(n+m))).toList)=toArray (xs++news)++Builtin.zeroCells zv.cells (grownCap W (n+m) s8 e-(n+m)):=by apply BU.1;simp
   rw[e2];exact h2
 rcases ET.2 with⟨rfl,rfl,rfl⟩|⟨gb,cap,sp,rfl,rfl,fD,UK,Nu⟩
 ·have pE:xs=[]:=Eg (by simpa using ET.1);subst pE;by_cases hm0:m=0
  ·subst hm0;have PQ:news=[]:=Eg (by simpa using jE);subst PQ;have hr:(Builtin.append_ #[T,T] ty #[.slice none 0 0,.slice (some ⟨b,off,none⟩) 0 cp]).run P W= .ok (.slice none 0 0) W:=by
    simp[Builtin.append_,run_underlying u1,sizeOf,typeInfo,u2,Builtin.lenOf,Builtin.firstCells,loadCells,loadCellsFrom]
   rw[hr];exact⟨_,⟨[],OwnSl.nil e k,rfl⟩,hs⟩
  ·have hr:=run_append_nil (P:=P) W T ty e Hp zv u1 u2 z2 ⟨b,off,none⟩ m cp news hn' hnw Af Af (by rw[u4];simp only[BE] at cI;omega);rw[hr];obtain⟨cs',k1,k2⟩:=fresh 0 W hs rfl;simp only[BE,Ag] at k1 k2;refine⟨_,⟨cs',?_,rfl⟩,k2⟩;simpa using k1
 ·by_cases Ph:n+m<=cap
  ·have hg:=hs.has (gb,_) (Ai _ Ak);have hr:=run_append_room (P:=P) W T ty e Hp u1 u2 gb n cap (toArray (xs++sp)) hg ⟨b,off,none⟩ m cp news hn' hnw h1 Ph (by
    rw[hn',u3,<-Fp];simp only[Bt];rw[Nu];exact F6 _ Ph)
   rw[hr];have e1:(toArray (xs++sp)).toList.take (n*Hp.size)=xs:=by rw[u3,<-ET.1];show(xs++sp).take xs.length=xs;simp
   rw[e1];refine⟨_,⟨_,⟨Ei,.inr ⟨gb,cap,(toArray (xs++sp)).toList.drop (n*Hp.size+news.length),rfl,rfl,Ph,UK,?_⟩⟩,rfl⟩,?_⟩
   ·have h3:(xs++sp).length=cap*k:=Nu;have h4:n*k+news.length<=cap*k:=by rw[jE,<-Fp];exact F6 _ Ph
    rw[Ah,Ei,Dw];show(n+m)*k+((xs++sp).length-(n*Hp.size+news.length))=cap*k;rw[h3,u3,jE,<-Fp];have:=F6 k Ph;omega
   ·exact hs.row
  ·have hs':Sat E F W:=hs.tail;have hold: ∀j u,xs[j]?=some u->W.cell? ((⟨gb,0,none⟩:Addr).add j)=some u:=λj u hj=>by
    rw[Gw,hs.cell (Ai _ Ak),BE];have Dc:=(Ay.1 hj).1;simp only[AF];rw[AB Dc];exact hj
   have hr:=run_append_grow (P:=P) W T ty e Hp zv u1 u2 z2 ⟨gb,0,none⟩ n cap xs (by rw[u3];exact ET.1) hold ⟨b,off,none⟩ m cp news hn' hnw Af Af (growslice_fits Af (by rw[u4];exact cI));rw[hr];obtain⟨cs',k1,k2⟩:=fresh cap W hs' rfl;refine⟨_,⟨cs',k1,rfl⟩,?_⟩;have e3:xs.toArray++news.toArray=toArray (xs++news):=by simp
   rw[e3];exact k2
theorem JQ{Q:Value->Ad->Prop}(c:stV P T=some (e,k,yb))(cz:vM P e=some zs)(RN:zs.length=k)(hk:0<n*k)(hsm:n*k<=16777216)
 (Pg:Instr.fill (λi=>some (i*k,k)) (toArray (replicate n zs).flatten) ps=some (toArray cs))(hQ: ∀b,(∀c,c∈l->c.1≠b)->Q (.slice (some ⟨b,0,none⟩) n n) ((b,.cells (toArray cs) e (0,0))::l)):
 sl P (Instr.buildSlice T n (toArray ps)) l Q:=by
 obtain⟨Hp,u1,u2,u3,u4⟩:=E7 c;obtain⟨uQ,zv,z1,z2,z3⟩:=J0 cz;rw[u2] at z1;cases z1;unfold Instr.buildSlice;rw[Cc u1];simp only;rw[Fe u2,u3];rw[Ab Af];simp only[show ¬n*k=0 by omega,C3,AC,zeroValue];rw[<-AC,JN u2,z2];simp only[Bn];have za:zv.cells=toArray zs:=by rw[<-z3]
 have uR:(Array.range (n*k)).map (λj=>zv.cells[j%zv.cells.size]!)=toArray (replicate n zs).flatten:=by
  have hk0:0<k:=KI λe=>by subst e;simp at hk
  apply BU.1;apply Dl;intro j;rw[za];have hl:(replicate n zs).flatten.length=n*k:=by simp[RN]
  by_cases hj:j<n*k
  ·have:(replicate n zs).flatten[j]?=zs[j%k]?:=by
    clear Pg hQ hl hsm hk
    induction n generalizing j with
    |zero=>omega
    |succ n ih=>
     rw[BJ,Cv];by_cases jF:j<k
     ·rw[AB Af,Dx jF]
     ·rw[AN Af,RN,ih (j-k) (by have:=F5 n k;simp only[Km] at this;omega),<-KJ Af]
   simp only[Me,KL,A5,Fh hj,BQ];rw[this];have Dc:j%k<zs.length:=by rw[RN];exact Hi _ hk0
   simp[RN,Al Dc,Gt]
  ·rw[Bf (by simp;omega),Bf (by rw[hl];omega)]
 rw[uR,Pg];simp only[newRow,AC];intro b hb;exact hQ b hb
theorem KU(hy:ev fr y=some v)(h1:v.oneCell'=true)[c:ST P T e 1 yb][cz:ZV P e [z0]]:OpE P ro N fr l ⟨d,.buildSlice T 1 #[(0,y)],ty,pos,aft,g⟩ (λv' l'=> ∃b,(∀c,c∈l->c.1≠b)/\v'= .slice (some ⟨b,0,none⟩) 1 1/\l'=(b,.cells (toArray [v]) e (0,0))::l):=DM rfl λρ hρ=>by
 simp only[execOp,AC];have e:(#[(0,y)]:Array (Nat×Operand)).map (λ(i,x)=>(i,ρ x))=toArray [(0,v)]:=by simp[hρ y _ hy]
 rw[e];refine JQ (cs:=[v]) c.out cz.out rfl Af Af ?_ λb hb=>⟨b,hb,rfl,rfl⟩
 simp[Instr.fill,OK h1]
theorem FB(hy:ev fr y=some (.agg (toArray ws)))[c:ST P T e k yb][cz:ZV P e zs](hz:zs.length=k)(hw:ws.length=k)(hk:0<k)(Le:k<=16777216):OpE P ro N fr l ⟨d,.buildSlice T 1 #[(0,y)],ty,pos,aft,g⟩ (λv' l'=> ∃b,(∀c,c∈l->c.1≠b)/\v'= .slice (some ⟨b,0,none⟩) 1 1/\l'=(b,.cells (toArray ws) e (0,0))::l):=DM rfl λρ hρ=>by
 simp only[execOp,AC];have e:(#[(0,y)]:Array (Nat×Operand)).map (λ(i,x)=>(i,ρ x))=toArray [(0,.agg (toArray ws))]:=by simp[hρ y _ hy]
 rw[e];refine JQ (cs:=ws) c.out cz.out hz Af Af ?_ λb hb=>⟨b,hb,rfl,rfl⟩
 unfold Instr.fill;have e2:(Value.agg (toArray ws)).cells=toArray ws:=rfl;simp only[e2];rw[Ab (by simp[hw,hz])];rw[JP];unfold Instr.fill;congr 1;have key: ∀(vs pre cs:Ap),vs.length=cs.length->C8 (toArray (pre++cs)) pre.length vs=toArray (pre++vs):=by
  intro vs
  induction vs with
  |nil=>intro pre cs h;have:cs=[]:=Eg (by simpa using h.symm);subst this;rfl
  |cons v vs ih=>
   intro pre cs h;cases cs with
   |nil=>simp at h
   |cons c cs=>simp only[C8,Bw];rw[Cs _ _ (Bd _)];simp only[DR,Fv];have:=ih (pre++[v]) cs (by simpa using h);simpa using this
 have:=key ws [] zs Af;simpa using this
end
theorem OwnSl.one{e k n:Nat}{v:Value}{xs:Ap}{cs:Ad}(h:OwnSl e k v n xs cs):v.oneCell'=true:=by rcases h.2 with⟨rfl,_⟩|⟨b,cap,sp,rfl,_⟩<;>rfl
theorem Keep.dropL{L:Ad}(cs:Ad)(k:Keep L l):Keep (cs++L) l:=by
 induction cs with
 |nil=>exact k
 |cons c cs ih=>exact .drop ih
theorem OwnSl.shape{cs:Ad}(h:OwnSl e k v n xs cs): ∃p cap,v= .slice p n cap:=by
 rcases h.2 with⟨rfl,rfl,_⟩|⟨b,cap,sp,rfl,_⟩
 ·exact⟨_,_,rfl⟩
 ·exact⟨_,_,rfl⟩
section
variable{fr:Fr}
def db(N:Nat)(E:World){α:Type}(fx:α->Fr)(ds:List Deferred)(lx:α->Ad)(pre:α->Prop)(a:Act)(W:World):Prop:=
 ∃y,pre y/\FSat N (fx y) a/\a.defers=ds/\Sat E (lx y) W
theorem Z6{c1 c2:Code}(fx:α->Fr)(lx:α->Ad)(pre:α->Prop)(h1:BN P ro N E c1 (Exit.then (db N E fx ds lx pre) Q) fr ds l)(h2: ∀x,pre x->BN P ro N E c2 Q (fx x) ds (lx x)):BN P ro N E (.seq c1 c2) Q fr ds l:=
 ⟨λa W hf hds hs=>wpIn_seq (wpIn_mono (h1.run a W hf hds hs) λe a' W' h=>by
   cases e with
   |normal=>obtain⟨y,h3,h4,h5,h6⟩:=h;exact(h2 y h3).run a' W' h4 h5 h6
   |_=>exact h)⟩
theorem EG{fx:α->Fr}{lx:α->Ad}{pre:α->Prop}(y:α)(h1:pre y)(h3:FSub (fx y) fr)(h4:Keep l (lx y)):CU N E (Exit.then (db N E fx ds lx pre) Q) .normal fr ds l:=
 ⟨λa W hf hds hs=>⟨y,h1,hf.sub h3.spec,hds,h4.sat hs⟩⟩
end
theorem Tc(zs:Ap)(n:Nat):(Builtin.zeroCells (toArray zs) n).toList=(replicate n zs).flatten:=by
 apply Dl;intro j;unfold Builtin.zeroCells;have hl:(replicate n zs).flatten.length=n*zs.length:=by simp
 by_cases hj:j<n*zs.length
 ·have hk0:0<zs.length:=KI λe=>by rw[e] at hj;simp at hj
  have:(replicate n zs).flatten[j]?=zs[j%zs.length]?:=by
   clear hl
   induction n generalizing j with
   |zero=>omega
   |succ n ih=>
    rw[BJ,Cv];by_cases jF:j<zs.length
    ·rw[AB Af,Dx jF]
    ·rw[AN Af,ih (j-zs.length) (by have:=F5 n zs.length;simp only[Km] at this;omega),<-KJ Af]
  simp only[Me,KL,A5,Bt,Fh hj,BQ];rw[this];have Dc:j%zs.length<zs.length:=Hi _ hk0;simp[Al Dc,Gt]
 ·rw[Bf (by simp;omega),Bf (by rw[hl];omega)]
inductive kj(fr:Fr):Option Operand->Nat->Nat->Prop
 |none {d:Nat}:kj fr none d d
 |some {o:Operand} {d r:Nat} {k:IntKind} {i:Int}:ev fr o=some (.int k i)->0<=i->i.toNat=r->kj fr (some o) d r
section
variable{fr:Fr}{d:Option Nat}{aft:Array Edge}{w:Value}{off:Nat}{t:TypeId}
theorem E3{Q:Nat->Ad->Prop}{k:IntKind}{i:Int}{y r:Nat}{code:BoundsCode}(h0:0<=i)(hr:i.toNat=r)(hy:r<=y):sl P (Instr.sliceBound (.int k i) y code) l Q<->Q r l:=by unfold Instr.sliceBound;simp only[asIntOf,AC,Bn];rw[Ac ⟨h0,Af⟩,Bn,hr]
theorem N1{Q:Nat×Nat×Nat->Ad->Prop}(hρ:Agrees fr ρ)(hl:kj fr lo 0 l0)(hh:kj fr hi n h0)(hm:kj fr mx cap m0)(I8:mx.isSome=true->hi.isSome=true)(h1:l0<=h0)(h2:h0<=m0)(h3:m0<=cap):
 sl P (Instr.sliceBounds true n cap (lo.map ρ) (hi.map ρ) (mx.map ρ)) l Q<->Q (l0,h0,m0) l:=by
 unfold Instr.sliceBounds;cases hm with
 |none=>
  cases hh with
  |none=>
   cases hl with
   |none=>simp only[DJ,AC,Bn]
   |some e i0 ir=>simp only[DJ,BQ,AC,Bn,hρ _ _ e];rw[E3 i0 ir h1]
  |some e i0 ir=>
   cases hl with
   |none=>simp only[DJ,BQ,AC,Bn,hρ _ _ e];rw[E3 i0 ir h2]
   |some e' i0' ir'=>simp only[DJ,BQ,AC,Bn,hρ _ _ e,hρ _ _ e'];rw[E3 i0 ir h2,E3 i0' ir' h1]
 |some em m0' mr=>
  cases hh with
  |none=>simp at I8
  |some e i0 ir=>
   cases hl with
   |none=>simp only[DJ,BQ,AC,Bn,hρ _ _ e,hρ _ _ em];rw[E3 m0' mr h3,E3 i0 ir h2]
   |some e' i0' ir'=>simp only[DJ,BQ,AC,Bn,hρ _ _ e,hρ _ _ e',hρ _ _ em];rw[E3 m0' mr h3,E3 i0 ir h2,E3 i0' ir' h1]
theorem F9{off' n' c':Nat}(hx:ev fr x=some (.slice (some ⟨b,off,none⟩) n cap))[c:ST P T e k yb](hl:kj fr lo 0 l0)(hh:kj fr hi n h0)(hm:kj fr mx cap m0)(I8:mx.isSome=true->hi.isSome=true)(h1:l0<=h0)(h2:h0<=m0)(h3:m0<=cap)
 (ho:(if m0=l0 then off else off+l0*k)=off')(hn:h0-l0=n')(hc:m0-l0=c'):OpQ P ro N fr R ⟨d,.slice T x lo hi mx,ty,pos,aft,g⟩ (.slice (some ⟨b,off',none⟩) n' c'):=BM rfl λρ l hρ _=>by
 obtain⟨Hp,u1,u2,u3,_⟩:=E7 c.out;subst ho hn hc;simp only[execOp,hρ x _ hx];rw[AC];unfold Instr.sliceAt;rw[Cc u1];show sl P (Instr.slice T _ _ _ _) l _;unfold Instr.slice;rw[Cc u1];simp only[AC];rw[N1 hρ hl hh hm I8 h1 h2 h3];simp only;rw[Hr u2];simp only[Bn,u3];refine⟨?_,trivial⟩
 split<;>simp[Gw]
theorem dc{cp:Nat}{cs:Array Value}(hx:ev fr x=some (.slice (some ⟨b,off,none⟩) m cp))[c:ST P T e k yb][cz:ZV P e zs](hm:0<m)(h1: ∀v,v∈zs->v.oneCell'=true)(hu:Upd l b (.cells cs ct (0,0)) (.cells (C8 cs off (replicate m zs).flatten) ct (0,0)) l')(Dc:off+m*zs.length<=cs.size):OpE P ro N fr l ⟨d,.call {callee:= .builtin .clear,args:=#[x],argTypes:=#[T]},ty,pos,aft,g⟩ (λv' l2=>v'= .tuple #[]/\l2=l'):=DM rfl λρ hρ=>by
 obtain⟨Hp,u1,u2,u3,_⟩:=E7 c.out;obtain⟨i,zv,z1,z2,z3⟩:=J0 cz.out;rw[u2] at z1;cases z1;obtain⟨m,rfl⟩: ∃m',m=m'+1:=⟨m-1,Af⟩
 simp only[execOp,resolve,AC,Bn,invoke,builtin,Dj,AJ,CQ,hρ x _ hx];unfold Builtin.clear_;simp only[AF,Da,AC];rw[E0 u1];simp only[AC,zeroValue];rw[<-AC,JN u2,z2];simp only[Bn];have hz:zv.cells=toArray zs:=by rw[<-z3]
 have hzz:(Builtin.zeroCells zv.cells (m+1)).toList=(replicate (m+1) zs).flatten:=by rw[hz];exact Tc zs (m+1)
 rw[hzz];have:=LU (P:=P) (b:=b) (off:=off) (f:=λv=>(pure (.tuple #[]):Sem Value)) (Q:=λa l2=>XM P (λv' l2=>v'= .tuple #[]/\l2=l') (Next.value a) l2) (replicate (m+1) zs).flatten 0 cs l l' (by intro v hv;rw[List.mem_flatten] at hv;obtain⟨r,hr,hv⟩:=hv;rw[Ek hr] at hv;exact h1 v hv) (by simpa using Dc) hu ⟨rfl,rfl⟩
 rw[AC] at this;exact this
theorem Vj{cp gb:Nat}{cur:Array Value}(hs:ev fr s=some (.slice (some ⟨gb,0,none⟩) n cap))(hx:ev fr x=some (.slice (some ⟨b,off,none⟩) m cp))[c:ST P T e k yb]
 (hm:(b,Obj.cells cl ct fz)∈(gb,Obj.cells cur e (0,0))::F)(jD: ∀j u,news[j]?=some u->cl[off+j]?=some u)(jE:news.length=m*k)(h1: ∀u∈news,u.oneCell'=true)(Ph:n+m<=cap)(We:n*k+news.length<=cur.size):
 OpE P ro N fr ((gb,.cells cur e (0,0))::F) ⟨d,.call {callee:= .builtin .append,args:=#[s,x],argTypes:=#[T,T]},ty,pos,aft,g⟩ (λv' l'=>v'= .slice (some ⟨gb,0,none⟩) (n+m) cap/\l'=(gb,.cells (cur.toList.take (n*k)++news++cur.toList.drop (n*k+news.length)).toArray e (0,0))::F):=by
 refine⟨rfl,λE a W hf hs'=>?_⟩;have hρ:=hf.agrees;obtain⟨Hp,u1,u2,u3,u4⟩:=E7 c.out;have XD:execOp a.eval ⟨d,.call {callee:= .builtin .append,args:=#[s,x],argTypes:=#[T,T]},ty,pos,aft,g⟩=(do pure (.value (<-Builtin.append_ #[T,T] ty #[.slice (some ⟨gb,0,none⟩) n cap,.slice (some ⟨b,off,none⟩) m cp])):Sem Next):=by simp[execOp,resolve,hρ s _ hs,hρ x _ hx,invoke,builtin]
 unfold OpVal;rw[XD,Sem.run_bind];have hg:=hs'.has (gb,_) Ak;have hr:=run_append_room (P:=P) W T ty e Hp u1 u2 gb n cap cur hg ⟨b,off,none⟩ m cp news (by rw[u3];exact jE) (λj u hj=>by rw[Gw,hs'.cell hm];exact jD j u hj) h1 Ph (by rw[u3];exact We);rw[hr];rw[u3];exact⟨_,⟨rfl,rfl⟩,hs'.row⟩
theorem Jr{A0:List Oper}{d:Nat}(h:OpE P ro N fr l o K)(hw:Rr ops fr o.guard=some true)(hd:o.dst=some d)(hb:Nat.blt d N=true)(hk: ∀v l',K v l'->Dz P ro N E ops Q A0 ((d,v)::fr) ds l'):Dz P ro N E ops Q (o::A0) fr ds l:=by
 rcases KS hw with⟨h1,_⟩|⟨j,b,oj,dj,b',h1,h2,h3,h4,h5⟩
 ·exact jp h h1 hd hb hk
 ·have:b'=b:=by simpa using h5
  subst this;exact Adq h h1 h2 h3 h4 hd hb hk
theorem Z7{ps:List (Nat×Operand)}{pvs:List (Nat×Value)}(Nt:Z4 fr ps=some pvs)(PQ:0<n)(hn:n<=16777216)[c:ST P T e 1 yb][cz:ZV P e [z0]](Pg:Instr.fill (λi=>some (i*1,1)) (toArray (replicate n [z0]).flatten) pvs=some (toArray cs)):
 OpE P ro N fr l ⟨d,.buildSlice T n ps.toArray,ty,pos,aft,g⟩ (λv' l'=> ∃b,(∀c,c∈l->c.1≠b)/\v'= .slice (some ⟨b,0,none⟩) n n/\l'=(b,.cells (toArray cs) e (0,0))::l):=DM rfl λρ hρ=>by
 simp only[execOp,AC];have e:ps.toArray.map (λ(i,x)=>(i,ρ x))=toArray pvs:=by rw[<-hρ.parts Nt];simp
 rw[e];exact JQ (cs:=cs) c.out cz.out rfl Af Af Pg λb hb=>⟨b,hb,rfl,rfl⟩
theorem OwnSl.lit(h0:0<n)(hl:xs.length=n)(hm:n<=1000000):OwnSl e 1 (.slice (some ⟨b,0,none⟩) n n) n xs [(b,.cells (toArray xs) e (0,0))]:=
 ⟨Af,.inr ⟨b,n,[],rfl,by simp,Af,by unfold maxLen;omega,by simp[hl]⟩⟩
end
end Go.Proofs.YtlifcingifodfaaGreat
