/- Laws that the statement's proof leans on (joined out of several texts). -/
import Derived.Test.YtlkgekpmileobaaGreatGb5
import Derived.Laws.AppendOwn
import Derived.Test.YtlkgekpmileobaaGreatGb1
set_option linter.unusedVariables false
set_option linter.unusedSimpArgs false
namespace Go.Proofs.YtlkgekpmileobaaGreat
open List(toArray replicate)
open Go.RowKit
variable{k T n e yb N j b dj t off m cp cap i l0 h0 m0:Nat}{cs zs vs ws xs news:List Value}{l R F l':List Ab}{E W:World}{fr:Fr}{ct ty t2:TypeId}{fz:Nat×Nat}{P:Program}{ro:Option Nat}{v u w z0:Value}{ds:List Deferred}{oj o:Oper}{x y z s:Operand}{Q:Exit->Act->World->Prop}{K:Value->List Ab->Prop}{ops:Array Oper}{sp:Fd}{pos:String}{g:Option (Nat×Bool)}{rs:List ResultVar}{tbl:List (List Nat)}{pl:List BC}{p:Prop}{os:List Oper}{ρ:Operand->Value}{ps:List (Nat×Value)}{cl:Array Value}{α:Type}{lo hi mx:Option Operand}
section
variable{sw:Sw}{fr':Fr}{k:Bool}
theorem Xg(h:CH N E Q .normal fr ds l):PlanS P ro N E ops Q R tbl sw sp [] fr ds l:= .nil h
theorem D7{d:Nat}(h:OpQ P ro N fr R o v)(hw:o.guard=none)(hd:o.dst=some d)(hb:Nat.blt d N=true)(hk:PlanS P ro N E ops Q R tbl sw sp pl ((d,v)::fr) ds l):PlanS P ro N E ops Q R tbl sw sp ((i,true,o)::pl) fr ds l:=
 .q h hw (by rw[hd];exact hb) (by rw[hd];exact hk)
theorem Vy{d:Nat}{b:Bool}(h:OpQ P ro N fr R o v)(hw:o.guard=some (j,b))(hj:ops[j]?=some oj)(hjd:oj.dst=some dj)(hb:BP fr dj=some (.bool b))(hd:o.dst=some d)(hbl:Nat.blt d N=true)(hk:PlanS P ro N E ops Q R tbl sw sp pl ((d,v)::fr) ds l):PlanS P ro N E ops Q R tbl sw sp ((i,true,o)::pl) fr ds l:=
 .gq h hw hj hjd hb (by rw[hd];exact hbl) (by rw[hd];exact hk)
theorem qI{d:Nat}{b b':Bool}(hR: ∀c,c∈R->c∈l)(hw:o.guard=some (j,b))(hj:ops[j]?=some oj)(hjd:oj.dst=some dj)(hb:BP fr dj=some (.bool b'))(hne:(b'==b)=false)(hd:o.dst=some d)(hbl:Nat.blt d N=true)(hk:PlanS P ro N E ops Q R tbl none [] pl ((d,undef)::fr) ds l):PlanS P ro N E ops Q R tbl none [] ((i,k,o)::pl) fr ds l:=
 .gs hw hj hjd hb hne (by rw[hd];exact hbl) hR (λ_=>rfl) (λ_ x hx=>by cases hx) (by rw[hd];exact hk)
theorem CE{d:Nat}(h:OpE P ro N fr l o K)(hw:o.guard=none)(hd:o.dst=some d)(hb:Nat.blt d N=true)(hR: ∀v l',K v l'->(∀c,c∈R->c∈l'))(hk: ∀v l',K v l'->PlanS P ro N E ops Q R tbl none [] pl ((d,v)::fr) ds l'):PlanS P ro N E ops Q R tbl none [] ((i,false,o)::pl) fr ds l:=
 .e h hw (by rw[hd];exact hb) hR (λ_ _ _ x hx=>by cases hx) λv l' hkv=>by rw[hd];exact hk v l' hkv
theorem Mu(h:OpE P ro N fr l o K)(hw:o.guard=none)(hd:o.dst=none)(hR: ∀v l',K v l'->(∀c,c∈R->c∈l'))(hk: ∀v l',K v l'->PlanS P ro N E ops Q R tbl none [] pl fr ds l'):PlanS P ro N E ops Q R tbl none [] ((i,false,o)::pl) fr ds l:=
 .e h hw (by rw[hd];rfl) hR (λ_ _ _ x hx=>by cases hx) λv l' hkv=>by rw[hd];exact hk v l' hkv
theorem qJ{d:Nat}{b:Bool}(h:OpE P ro N fr l o K)(hw:o.guard=some (j,b))(hj:ops[j]?=some oj)(hjd:oj.dst=some dj)(hb:BP fr dj=some (.bool b))(hd:o.dst=some d)(hbl:Nat.blt d N=true)(hR: ∀v l',K v l'->(∀c,c∈R->c∈l'))(hk: ∀v l',K v l'->PlanS P ro N E ops Q R tbl none [] pl ((d,v)::fr) ds l'):PlanS P ro N E ops Q R tbl none [] ((i,false,o)::pl) fr ds l:=
 .ge h hw hj hjd hb (by rw[hd];exact hbl) hR (λ_ _ _ x hx=>by cases hx) λv l' hkv=>by rw[hd];exact hk v l' hkv
theorem Gq{d:Nat}(h:OpE P ro N fr l o K)(hw:o.guard=none)(hd:o.dst=some d)(hb:Nat.blt d N=true)(hR: ∀v l',K v l'->(∀c,c∈R->c∈l'))(hS: ∀v l',K v l'-> ∀x,x∈sp->Ff tbl i x.1=false-> ∀c,c∈x.2->c∈l')(hk: ∀v l',K v l'->PlanS P ro N E ops Q R tbl none sp pl ((d,v)::fr) ds l'):PlanS P ro N E ops Q R tbl none sp ((i,false,o)::pl) fr ds l:=
 .e h hw (by rw[hd];exact hb) hR hS λv l' hkv=>by rw[hd];exact hk v l' hkv
theorem GH(h:OpE P ro N fr l o K)(hw:o.guard=none)(hd:o.dst=none)(hR: ∀v l',K v l'->(∀c,c∈R->c∈l'))(hS: ∀v l',K v l'-> ∀x,x∈sp->Ff tbl i x.1=false-> ∀c,c∈x.2->c∈l')(hk: ∀v l',K v l'->PlanS P ro N E ops Q R tbl none sp pl fr ds l'):PlanS P ro N E ops Q R tbl none sp ((i,false,o)::pl) fr ds l:=
 .e h hw (by rw[hd];rfl) hR hS λv l' hkv=>by rw[hd];exact hk v l' hkv
theorem CV(h:(sp.map Prod.fst).all (λq=>Ff tbl i q)=true){x:Nat×List Ab}(hx:x∈sp)(ha:Ff tbl i x.1=false): ∀c,c∈x.2->c∈l':=by have:=A6.1 h x.1 (Au.2 ⟨x,hx,rfl⟩);rw[ha] at this;cases this
theorem FD{d:Nat}{S:List Ab}(h:OpQ P ro N fr S o v)(hS: ∀c,c∈S->c∈l)(hw:o.guard=none)(hd:o.dst=some d)(hb:Nat.blt d N=true)(hk:PlanS P ro N E ops Q R tbl sw ((i,S)::sp) pl ((d,v)::fr) ds l):PlanS P ro N E ops Q R tbl sw sp ((i,true,o)::pl) fr ds l:=
 .sq h hS hw (by rw[hd];exact hb) (by rw[hd];exact hk)
theorem qK{d:Nat}(h:OpQ P ro N fr l o v)(hw:o.guard=none)(hd:o.dst=some d)(hb:Nat.blt d N=true)(hR: ∀c,c∈R->c∈l)(hk:PlanS P ro N E ops Q R tbl none [] pl ((d,v)::fr) ds l):PlanS P ro N E ops Q R tbl none [] ((i,false,o)::pl) fr ds l:=by
 refine CE (h.run l λ_ h=>h) hw hd hb ?_ ?_
 ·rintro _ _ ⟨rfl,rfl⟩;exact hR
 ·rintro _ _ ⟨rfl,rfl⟩;exact hk
theorem Vz{d:Nat}(h:OpQ P ro N fr R o v)(hw:Pz ops fr o.guard=some true)(hd:o.dst=some d)(hb:Nat.blt d N=true)(hk:PlanS P ro N E ops Q R tbl sw sp pl ((d,v)::fr) ds l):PlanS P ro N E ops Q R tbl sw sp ((i,true,o)::pl) fr ds l:=by
 rcases JK hw with⟨h1,_⟩|⟨j,b,oj,dj,b',h1,h2,h3,h4,h5⟩
 ·exact D7 h h1 hd hb hk
 ·have:b'=b:=by simpa using h5
  subst this;exact Vy h h1 h2 h3 h4 hd hb hk
theorem qL{d:Nat}(hR: ∀c,c∈R->c∈l)(hw:Pz ops fr o.guard=some false)(hd:o.dst=some d)(hb:Nat.blt d N=true)(hk:PlanS P ro N E ops Q R tbl none [] pl ((d,undef)::fr) ds l):PlanS P ro N E ops Q R tbl none [] ((i,k,o)::pl) fr ds l:=by
 rcases JK hw with⟨_,h1⟩|⟨j,b,oj,dj,b',h1,h2,h3,h4,h5⟩
 ·cases h1
 ·exact qI hR h1 h2 h3 h4 h5 hd hb hk
theorem dz{w:Bool}{ip:Decidable p}(hw:o.guard=some (j,w))(hj:ops[j]?=some oj)(hjd:oj.dst=some t)(hc:BP fr t=some (.bool (@decide p ip)))(hp:p)(h:PlanS P ro N E ops Q R tbl sw sp ((i,k,o)::pl) ((t,.bool true)::fr) ds l):PlanS P ro N E ops Q R tbl sw sp ((i,k,o)::pl) fr ds l:=
 .weak (F0 (by rw[hc,At hp])) h
theorem dA{w:Bool}{ip:Decidable p}(hw:o.guard=some (j,w))(hj:ops[j]?=some oj)(hjd:oj.dst=some t)(hc:BP fr t=some (.bool (@decide p ip)))(hp:¬p)(h:PlanS P ro N E ops Q R tbl sw sp ((i,k,o)::pl) ((t,.bool false)::fr) ds l):PlanS P ro N E ops Q R tbl sw sp ((i,k,o)::pl) fr ds l:=
 .weak (F0 (by rw[hc,Aw hp])) h
end
section
def jj(os:List Oper)(plan:List (Nat×Bool))(tbl:List (List Nat))(i j:Nat):Bool:=Qb os plan tbl (some [(i,j)])
theorem Kk(plan:List (Nat×Bool))(tbl:List (List Nat))(i j:Nat)(R:List Ab)(hm:P.follows .mixedOrders=true)(hv:jj os plan tbl i j=true)(ha:Attach os plan pl)(hR: ∀c,c∈R->c∈l)
 (h:PlanS P ro N E os.toArray Q R tbl (some [(i,j)]) [] pl fr ds l):BF P ro N E (.region k os.toArray true) Q fr ds l:=Qc plan tbl (some [(i,j)]) R hm hv ha hR h
def me(os:List Oper)(tbl:List (List Nat))(plan2:List (Nat×Bool))(i j:Nat):Bool:=
 FI os.toArray tbl none (Hv os plan2).tail&&plan2.head?==some (j,false)&&(plan2.map Prod.fst).count i==1&&j !=i
theorem Mv{rest alt:List BC}(plan2:List (Nat×Bool))(ha:Attach os plan2 alt)(hp:alt.Perm ((i,false,o)::rest))(hpo:me os tbl plan2 i j=true)
 (h1:PlanS P ro N E os.toArray Q R tbl none sp ((i,false,o)::rest) fr ds l)(h2:PlanS P ro N E os.toArray Q R tbl none sp alt fr ds l):PlanS P ro N E os.toArray Q R tbl (some [(i,j)]) sp ((i,false,o)::rest) fr ds l:=by
 unfold me at hpo;simp only[AX,JD,bne_iff_ne,ne_eq] at hpo;obtain⟨⟨⟨p1,p2⟩,p3⟩,p4⟩:=hpo;have hcnt:(((i,false,o)::rest).map (λx:BC=>x.1)).count i=1:=by rw[<-(hp.map _).count_eq,ha.spec.2];exact p3
 have hni: ∀x,x∈rest->x.1≠i:=λx hx e=>by rw[AJ,List.count_cons_self] at hcnt;have:0<(rest.map (λx:BC=>x.1)).count i:=List.count_pos_iff.2 (Au.2 ⟨x,hx,e⟩);omega
 rw[ha.fun_eq] at p1;cases ha with
 |nil=>cases p2
 |cons h0 hr=>simp only[List.head?_cons,H0] at p2;cases p2;exact .alt2 p4 hp p1 hni h1 h2
end
def to(P:Program)(t:Nat):Bool:=match P.underlying t with
 |some (.struct fs)=>fs.all λf=>(P.info? f.type).isSome
 |_=>false
class BT(P:Program)(t:Nat):Prop where out:to P t=true
section
variable{d:Option Nat}{aft:Array Edge}{t:TypeId}
theorem YV{α β:Type}{f:α->Sem β}{h:α->β}{Q:List β->List Ab->Prop}: ∀{xs:List α},(∀x,x∈xs-> ∀(Q:β->List Ab->Prop) l,sl P (f x) l Q<->Q (h x) l)->(sl P (xs.mapM f) l Q<->Q (xs.map h) l)
 |[],_=>by simp only[List.mapM_nil,CY];exact Di
 |x::xs,hx=>by rw[List.mapM_cons,AB,hx x Ak,AB,YV (h:=h) λy hy=>hx y (An _ hy)];exact Di
def Xh(fr:Fr):List (Nat×Operand)->Option (List (Nat×Value))
 |[]=>some []
 |(i,x)::r=>match ev fr x,Xh fr r with
  |some v,some vs=>some ((i,v)::vs)
  |_,_=>none
theorem Agrees.parts(h:Agrees fr ρ): ∀{xs:List (Nat×Operand)} {vs:List (Nat×Value)},Xh fr xs=some vs->(xs.map λ(i,x)=>(i,ρ x))=vs
 |[],vs,e=>by cases e;rfl
 |(i,x)::r,vs,e=>by
  unfold Xh at e
  split at e
  ·rename_i v us h1 h2;cases e;rw[AJ,h.parts h2];show(i,ρ x)::us=_;rw[h x v h1]
  ·cases e
inductive BuildS(P:Program)(t:Nat):List Value->List (Nat×Value)->List Value->Prop
 |nil {cs:List Value}:BuildS P t cs [] cs
 |one {cs cs1 cs2:List Value} {i off ft:Nat} {v:Value} {r:List (Nat×Value)} (c:FV P t i off ft) (c2:OC P ft):v.oneCell'=true->LSet cs off v cs1->BuildS P t cs1 r cs2->BuildS P t cs ((i,v)::r) cs2
 |agg {cs cs1 cs2 ws:List Value} {i off ft n:Nat} {r:List (Nat×Value)} (c:FV P t i off ft) (c2:AG P ft n):ws.length=n->LSetA cs off ws cs1->BuildS P t cs1 r cs2->BuildS P t cs ((i,.agg (toArray ws))::r) cs2
theorem Xi(vs:List Value): ∀(cs:Array Value) (off k:Nat),(vs.zipIdx k).foldl (λcs (c,j)=>cs.setIfInBounds (off+j) c) cs=CO cs (off+k) vs:=by
 induction vs with
 |nil=>intro cs off k;rfl
 |cons v vs ih=>intro cs off k;rw[List.zipIdx_cons,Eg,ih];rfl
theorem IU(vs cs:Array Value)(off:Nat):vs.zipIdx.foldl (λcs (c,j)=>cs.setIfInBounds (off+j) c) cs=CO cs off vs.toList:=by rw[<-Array.foldl_toList,Array.toList_zipIdx,Xi];rfl
theorem VA{fs:Array Field}(hu:P.underlying t=some (.struct fs)){place:Nat->Option (Nat×Nat)}(hp: ∀i fd inf,fs[i]?=some fd->P.info? fd.type=some inf->place i=some (fd.offset,inf.size)){cs2:List Value}{parts:List (Nat×Value)}(h:BuildS P t cs parts cs2):
 Instr.fill place (toArray cs) parts=some (toArray cs2):=by
 induction h with
 |nil=>rfl
 | @one cs cs1 cs2 i off ft v r c c2 h1 hs _ ih=>obtain⟨fs',fd,k1,k2,k3,k4⟩:=Vt c.out;rw[hu] at k1;cases k1;obtain⟨ud,inf,_,_,i1,i2⟩:=K3 c2.out;rw[<-k4] at i1;unfold Instr.fill;rw[hp _ _ _ k2 i1,k3,i2,M9 h1];have hlt:=hs.spec.2;simp only;rw[Ac (by simp;omega),IU #[v] (toArray cs) off];simp only[CO,Bq,hs.spec.1];exact ih
 | @agg cs cs1 cs2 ws i off ft n r c c2 hn hs _ ih=>obtain⟨fs',fd,k1,k2,k3,k4⟩:=Vt c.out;rw[hu] at k1;cases k1;obtain⟨ud,inf,_,_,i1,i2⟩:=JJ c2.out;rw[<-k4] at i1;unfold Instr.fill;rw[hp _ _ _ k2 i1,k3,i2];have hlt:=hs.spec.2;have e:(Value.agg (toArray ws)).cells=toArray ws:=rfl;simp only[e];rw[Ac (by simp[hn];omega),IU (toArray ws) (toArray cs) off];have:=hs.spec.1;simp only at this⊢;rw[this];exact ih
theorem YW{xs:List (Nat×Operand)}(hx:Xh fr xs=some ps)[c:ZV P t zs][cb:BT P t](hb:BuildS P t zs ps cs):OpQ P ro N fr R ⟨d,.build t (toArray xs),ty,pos,aft,g⟩ (.agg (toArray cs)):=BL rfl λρ l hρ _=>by
 obtain⟨i,zv,h1,h2,h3⟩:=I7 c.out;have hbt:=cb.out;unfold to at hbt
 split at hbt
 ·rename_i fs hu;simp only[execOp,AB,Instr.build,zeroValue,Da,hρ.parts hx];rw[<-AB,IQ h1,h2];simp only[Bj];rw[EU hu];simp only[AB];have hfm:fs=toArray fs.toList:=by simp
  rw[hfm,List.mapM_toArray,map_eq_pure_bind,AB,YV (h:=λf=>(f.offset,((P.info? f.type).map (·.size)).getD 0)) (by
   intro f hf Q l;have:=Array.all_eq_true'.1 hbt f (by simpa using hf);cases hi:P.info? f.type with
   |none=>rw[hi] at this;cases this
   |some inf=>rw[AB,GG hi];exact Di)]
  simp only[Bj];have hfill:=VA (place:=λi=>(toArray (fs.toList.map λf=>(f.offset,((P.info? f.type).map (·.size)).getD 0)))[i]?) hu (by intro i fd inf k1 k2;simp[k1,k2]) hb
  have hz:zv.cells=toArray zs:=by rw[<-h3]
  rw[hz,hfill];exact⟨rfl,rfl⟩
 ·cases hbt
theorem S6{T:TypeId}{ud:TypeDesc}(h:P.underlying T=some ud)(W:World):(isAgg T).run P W= .ok (Mp ud) W:=by unfold isAgg;rw[Sem.run_bind,run_underlying h];cases ud<;>rfl
theorem Ui{T:TypeId}(hc:i7 P T=true)(hs:Sat E l W)(hm:(b,Obj.cells (toArray cs) ct fz)∈l)(hv:Xb cs off=some v):(loadVar T ⟨b,off,none⟩).run P W= .ok v W:=by obtain⟨ud,i,e1,e2,_,_⟩:=K3 hc;have hcell:=hs.cell hm off;rw[Vq hv] at hcell;unfold loadVar;rw[Sem.run_bind,S6 e1,e2];simp[Result.andThen,hcell]
theorem Uj(hc:nA P T=some n)(hs:Sat E l W)(hm:(b,Obj.cells (toArray cs) ct fz)∈l)(hv:LSub cs off n ws):(loadVar T ⟨b,off,none⟩).run P W= .ok (.agg (toArray ws)) W:=by
 obtain⟨ud,i,e1,e2,e3,e4⟩:=JJ hc;have hsz:(sizeOf T).run P W= .ok n W:=by unfold sizeOf typeInfo;simp[Sem.run_bind,Result.andThen,program,Sem.run,e3,e4]
 obtain⟨hv1,hv2⟩:=hv.spec;have hlen:ws.length=n:=by rw[<-hv1];simp;omega
 unfold loadVar;rw[Sem.run_bind,S6 e1,e2];simp only[Result.andThen,CT];rw[Sem.run_bind,hsz];simp only[Result.andThen];rw[Sem.run_bind];have:=run_loadCells_list (P:=P) (w:=W) ⟨b,off,none⟩ ws (λj u hj=>by
  rw[Gf,hs.cell hm];rw[<-hv1] at hj;simp only[AE];rw[EY] at hj
  split at hj
  ·simpa[JE] using hj
  ·cases hj)
 rw[hlen] at this;rw[this];rfl
theorem nI{t:Nat}(h1:BP fr t=some v)(h:ResS P fr l rs vs):ResS P fr l (.tmp t::rs) (v::vs):= .tmp h1 h
theorem dB{T:TypeId}(h1:BP fr k=some (.pointer (some ⟨b,off,none⟩)))[c:OC P T](hm:(b,Obj.cells (toArray cs) ct fz)∈l)(hv:Xb cs off=some v)(h:ResS P fr l rs vs):ResS P fr l (.cell k T::rs) (v::vs):=
 .cell h1 (λE W hs=>Ui c.out hs hm hv) h
theorem Cq(h1:BP fr k=some (.pointer (some ⟨b,off,none⟩)))[c:AG P T n](hm:(b,Obj.cells (toArray cs) ct fz)∈l)(hv:LSub cs off n ws)(h:ResS P fr l rs vs):ResS P fr l (.cell k T::rs) (.agg (toArray ws)::vs):=
 .cell h1 (λE W hs=>Uj c.out hs hm hv) h
theorem Fb{f:Nat}{xs:List Operand}{fs:List Value}{at_:Array TypeId}(hx:ev fr x=some (.func (.func f) (toArray fs) (toArray cs)))(hy:PX fr xs=some vs)[c:EN P f](h: ∀l,(∀c,c∈R->c∈l)->Fn P f (fs++vs++cs) l (λv' l'=>v'=v/\l'=l)):OpQ P ro N fr R ⟨d,.call {callee:= .value x,args:=xs.toArray,argTypes:=at_},ty,pos,aft,g⟩ v:=
 ⟨λl hl=>CZ hx hy (by simpa using h l hl)⟩
end
def OwnSl(e k:Nat)(v:Value)(n:Nat)(xs:List Value)(cs:List Ab):Prop:=
 xs.length=n*k/\((v= .slice none 0 0/\n=0/\cs=[])\/(∃b cap sp,v= .slice (some ⟨b,0,none⟩) n cap/\cs=[(b,.cells (toArray (xs++sp)) e (0,0))]/\n<=cap/\cap<=maxLen/\(xs++sp).length=cap*k))
theorem OwnSl.nil(e k:Nat):OwnSl e k (.slice none 0 0) 0 [] []:=⟨by simp,.inl ⟨rfl,rfl,rfl⟩⟩
section
variable{d:Option Nat}{aft:Array Edge}{t:TypeId}
theorem Sat.row{cs cs':Array Value}{e:TypeId}(h:Sat E ((b,.cells cs e fz)::F) W):Sat E ((b,.cells cs' e fz)::F) (W.setRow b cs'):=by
 refine⟨h.os,h.tape,h.output,h.nodup,λc hc=>?_⟩;rcases Aq.1 hc with rfl|hc'
 ·exact setRow_heap W b cs cs' e fz (h.has _ Ak)
 ·have hn:=h.nodup;rw[AJ,AM] at hn;have hne:c.1≠b:=λe=>hn.1 (Au.2 ⟨c,hc',e⟩);rw[setRow_other W b c.1 cs' hne];exact h.has c (An _ hc')
theorem Gk{cs:List Ab}(hx:ev fr s=some v)(hy:ev fr x=some (.slice (some ⟨b,off,none⟩) m cp))[c:ST P T e k yb][cz:ZV P e zs](hzs:zs.length=k)
 (hown:OwnSl e k v n xs cs)(hm:(b,Obj.cells cl ct fz)∈cs++F)(hnews: ∀j u,news[j]?=some u->cl[off+j]?=some u)(hnl:news.length=m*k)(h1: ∀u∈news,u.oneCell'=true)(h63:n+m<=maxLen)(hby:(n+m)*yb<=140737488355328):
 OpE P ro N fr (cs++F) ⟨d,.call {callee:= .builtin .append,args:=#[s,x],argTypes:=#[T,T]},ty,pos,aft,g⟩ (λv' l'=> ∃cs',OwnSl e k v' (n+m) (xs++news) cs'/\l'=cs'++F):=by
 refine⟨rfl,λE a W hf hs=>?_⟩;have hρ:=hf.agrees;obtain⟨inf,u1,u2,u3,u4⟩:=Ev c.out;obtain⟨inf',zv,z1,z2,z3⟩:=I7 cz.out;rw[u2] at z1;cases z1;have hex:execOp a.eval ⟨d,.call {callee:= .builtin .append,args:=#[s,x],argTypes:=#[T,T]},ty,pos,aft,g⟩=(do pure (.value (<-Builtin.append_ #[T,T] ty #[v,.slice (some ⟨b,off,none⟩) m cp])):Sem Next):=by simp[execOp,resolve,hρ s _ hx,hρ x _ hy,invoke,builtin]
 unfold OpVal;rw[hex,Sem.run_bind];have hnw: ∀j u,news[j]?=some u->W.cell? ((⟨b,off,none⟩:Addr).add j)=some u:=λj u hj=>by rw[Gf,hs.cell hm];exact hnews j u hj
 have hn':news.length=m*inf.size:=by rw[u3];exact hnl
 have hmx:n+m<=9223372036854775807:=by simp only[maxLen] at h63;omega
 have hlen:(xs++news).length=(n+m)*k:=by rw[Ah,hown.1,hnl,EM]
 have fresh: ∀(old:Nat) (W0:World),Sat E F W0->W0.heap=W.heap-> ∃cs',OwnSl e k (.slice (some ⟨W.heap.size,0,none⟩) (n+m) (grownCap W (n+m) old e)) (n+m) (xs++news) cs'/\Sat E (cs'++F) (W0.drew.alloc (.cells (toArray (xs++news)++Builtin.zeroCells zv.cells (grownCap W (n+m) old e-(n+m))) e)):=by
  intro old W0 hs0 hh;refine⟨_,⟨hlen,.inr ⟨W.heap.size,_,(Builtin.zeroCells zv.cells (grownCap W (n+m) old e-(n+m))).toList,rfl,rfl,grownCap_ge _ _ _ _,grownCap_le_maxLen _ _ _ _ h63,?_⟩⟩,?_⟩
  ·rw[Ah,hlen,Array.length_toList,size_zeroCells];have hzz:zv.cells.size=k:=by rw[<-hzs,<-z3];simp
   rw[hzz,<-EM];congr 1;have:=grownCap_ge W (n+m) old e;omega
  ·have h2:=hs0.drew.alloc (.cells (toArray (xs++news)++Builtin.zeroCells zv.cells (grownCap W (n+m) old e-(n+m))) e);have e1:W0.drew.heap.size=W.heap.size:=by show W0.heap.size=_;rw[hh]
   rw[e1] at h2;have e2:toArray (xs++news++(Builtin.zeroCells zv.cells (grownCap W (n+m) old e-(n+m))).toList)=toArray (xs++news)++Builtin.zeroCells zv.cells (grownCap W (n+m) old e-(n+m)):=by apply BJ.1;simp
   rw[e2];exact h2
 rcases hown.2 with⟨rfl,rfl,rfl⟩|⟨gb,cap,sp,rfl,rfl,hnc,hcm,hcl⟩
 ·have hx0:xs=[]:=DO (by simpa using hown.1);subst hx0;by_cases hm0:m=0
  ·subst hm0;have hn0:news=[]:=DO (by simpa using hnl);subst hn0;have hr:(Builtin.append_ #[T,T] ty #[.slice none 0 0,.slice (some ⟨b,off,none⟩) 0 cp]).run P W= .ok (.slice none 0 0) W:=by
    simp[Builtin.append_,run_underlying u1,sizeOf,typeInfo,u2,Builtin.lenOf,Builtin.firstCells,loadCells,loadCellsFrom]
   rw[hr];exact⟨_,⟨[],OwnSl.nil e k,rfl⟩,hs⟩
  ·have hr:=run_append_nil (P:=P) W T ty e inf zv u1 u2 z2 ⟨b,off,none⟩ m cp news hn' hnw Af Af (by rw[u4];simp only[Bw] at hby;omega);rw[hr];obtain⟨cs',k1,k2⟩:=fresh 0 W hs rfl;simp only[Bw,Ag] at k1 k2;refine⟨_,⟨cs',?_,rfl⟩,k2⟩;simpa using k1
 ·by_cases hroom:n+m<=cap
  ·have hg:=hs.has (gb,_) (Ai _ Ak);have hr:=run_append_room (P:=P) W T ty e inf u1 u2 gb n cap (toArray (xs++sp)) hg ⟨b,off,none⟩ m cp news hn' hnw h1 hroom (by
    rw[hn',u3,<-EM];simp only[Bm];rw[hcl];exact Gx _ hroom)
   rw[hr];have e1:(toArray (xs++sp)).toList.take (n*inf.size)=xs:=by rw[u3,<-hown.1];show(xs++sp).take xs.length=xs;simp
   rw[e1];refine⟨_,⟨_,⟨hlen,.inr ⟨gb,cap,(toArray (xs++sp)).toList.drop (n*inf.size+news.length),rfl,rfl,hroom,hcm,?_⟩⟩,rfl⟩,?_⟩
   ·have h3:(xs++sp).length=cap*k:=hcl;have h4:n*k+news.length<=cap*k:=by rw[hnl,<-EM];exact Gx _ hroom
    rw[Ah,hlen,DK];show(n+m)*k+((xs++sp).length-(n*inf.size+news.length))=cap*k;rw[h3,u3,hnl,<-EM];have:=Gx k hroom;omega
   ·exact hs.row
  ·have hs':Sat E F W:=hs.tail;have hold: ∀j u,xs[j]?=some u->W.cell? ((⟨gb,0,none⟩:Addr).add j)=some u:=λj u hj=>by
    rw[Gf,hs.cell (Ai _ Ak),Bw];have hlt:=(Ax.1 hj).1;simp only[AE];rw[AC hlt];exact hj
   have hr:=run_append_grow (P:=P) W T ty e inf zv u1 u2 z2 ⟨gb,0,none⟩ n cap xs (by rw[u3];exact hown.1) hold ⟨b,off,none⟩ m cp news hn' hnw Af Af (growslice_fits Af (by rw[u4];exact hby));rw[hr];obtain⟨cs',k1,k2⟩:=fresh cap W hs' rfl;refine⟨_,⟨cs',k1,rfl⟩,?_⟩;have e3:xs.toArray++news.toArray=toArray (xs++news):=by simp
   rw[e3];exact k2
theorem IV{Q:Value->List Ab->Prop}(c:sF P T=some (e,k,yb))(cz:nz P e=some zs)(hzs:zs.length=k)(hk:0<n*k)(hsm:n*k<=16777216)
 (hfill:Instr.fill (λi=>some (i*k,k)) (toArray (replicate n zs).flatten) ps=some (toArray cs))(hQ: ∀b,(∀c,c∈l->c.1≠b)->Q (.slice (some ⟨b,0,none⟩) n n) ((b,.cells (toArray cs) e (0,0))::l)):
 sl P (Instr.buildSlice T n (toArray ps)) l Q:=by
 obtain⟨inf,u1,u2,u3,u4⟩:=Ev c;obtain⟨inf',zv,z1,z2,z3⟩:=I7 cz;rw[u2] at z1;cases z1;unfold Instr.buildSlice;rw[BX u1];simp only;rw[EW u2,u3];rw[Ac Af];simp only[show ¬n*k=0 by omega,CS,AB,zeroValue];rw[<-AB,IQ u2,z2];simp only[Bj];have hzv:zv.cells=toArray zs:=by rw[<-z3]
 have hcells:(Array.range (n*k)).map (λj=>zv.cells[j%zv.cells.size]!)=toArray (replicate n zs).flatten:=by
  have hk0:0<k:=JF λe=>by subst e;simp at hk
  apply BJ.1;apply Dq;intro j;rw[hzv];have hl:(replicate n zs).flatten.length=n*k:=by simp[hzs]
  by_cases hj:j<n*k
  ·have:(replicate n zs).flatten[j]?=zs[j%k]?:=by
    clear hfill hQ hl hsm hk
    induction n generalizing j with
    |zero=>omega
    |succ n ih=>
     rw[BE,Cl];by_cases hjk:j<k
     ·rw[AC Af,Db hjk]
     ·rw[AP Af,hzs,ih (j-k) (by have:=Fq n k;simp only[Jn] at this;omega),<-JG Af]
   simp only[KV,JH,A0,EE hj,BH];rw[this];have hlt:j%k<zs.length:=by rw[hzs];exact Gy _ hk0
   simp[hzs,Am hlt,FL]
  ·rw[Bb (by simp;omega),Bb (by rw[hl];omega)]
 rw[hcells,hfill];simp only[newRow,AB];intro b hb;exact hQ b hb
theorem JL(hy:ev fr y=some v)(h1:v.oneCell'=true)[c:ST P T e 1 yb][cz:ZV P e [z0]]:OpE P ro N fr l ⟨d,.buildSlice T 1 #[(0,y)],ty,pos,aft,g⟩ (λv' l'=> ∃b,(∀c,c∈l->c.1≠b)/\v'= .slice (some ⟨b,0,none⟩) 1 1/\l'=(b,.cells (toArray [v]) e (0,0))::l):=Do rfl λρ hρ=>by
 simp only[execOp,AB];have e:(#[(0,y)]:Array (Nat×Operand)).map (λ(i,x)=>(i,ρ x))=toArray [(0,v)]:=by simp[hρ y _ hy]
 rw[e];refine IV (cs:=[v]) c.out cz.out rfl Af Af ?_ λb hb=>⟨b,hb,rfl,rfl⟩
 simp[Instr.fill,M9 h1]
theorem E3(hy:ev fr y=some (.agg (toArray ws)))[c:ST P T e k yb][cz:ZV P e zs](hz:zs.length=k)(hw:ws.length=k)(hk:0<k)(hk2:k<=16777216):OpE P ro N fr l ⟨d,.buildSlice T 1 #[(0,y)],ty,pos,aft,g⟩ (λv' l'=> ∃b,(∀c,c∈l->c.1≠b)/\v'= .slice (some ⟨b,0,none⟩) 1 1/\l'=(b,.cells (toArray ws) e (0,0))::l):=Do rfl λρ hρ=>by
 simp only[execOp,AB];have e:(#[(0,y)]:Array (Nat×Operand)).map (λ(i,x)=>(i,ρ x))=toArray [(0,.agg (toArray ws))]:=by simp[hρ y _ hy]
 rw[e];refine IV (cs:=ws) c.out cz.out hz Af Af ?_ λb hb=>⟨b,hb,rfl,rfl⟩
 unfold Instr.fill;have e2:(Value.agg (toArray ws)).cells=toArray ws:=rfl;simp only[e2];rw[Ac (by simp[hw,hz])];rw[IU];unfold Instr.fill;congr 1;have key: ∀(vs pre cs:List Value),vs.length=cs.length->CO (toArray (pre++cs)) pre.length vs=toArray (pre++vs):=by
  intro vs
  induction vs with
  |nil=>intro pre cs h;have:cs=[]:=DO (by simpa using h.symm);subst this;rfl
  |cons v vs ih=>
   intro pre cs h;cases cs with
   |nil=>simp at h
   |cons c cs=>simp only[CO,Bq];rw[Cg _ _ (A5 _)];simp only[Dr,EX];have:=ih (pre++[v]) cs (by simpa using h);simpa using this
 have:=key ws [] zs Af;simpa using this
end
theorem OwnSl.one{e k n:Nat}{v:Value}{xs:List Value}{cs:List Ab}(h:OwnSl e k v n xs cs):v.oneCell'=true:=by rcases h.2 with⟨rfl,_⟩|⟨b,cap,sp,rfl,_⟩<;>rfl
theorem Keep.dropL{L:List Ab}(cs:List Ab)(k:Keep L l):Keep (cs++L) l:=by
 induction cs with
 |nil=>exact k
 |cons c cs ih=>exact .drop ih
theorem OwnSl.shape{cs:List Ab}(h:OwnSl e k v n xs cs): ∃p cap,v= .slice p n cap:=by
 rcases h.2 with⟨rfl,rfl,_⟩|⟨b,cap,sp,rfl,_⟩
 ·exact⟨_,_,rfl⟩
 ·exact⟨_,_,rfl⟩
section
def YX(N:Nat)(E:World){α:Type}(fx:α->Fr)(ds:List Deferred)(lx:α->List Ab)(pre:α->Prop)(a:Act)(W:World):Prop:=
 ∃y,pre y/\FSat N (fx y) a/\a.defers=ds/\Sat E (lx y) W
theorem Xj{c1 c2:Code}(fx:α->Fr)(lx:α->List Ab)(pre:α->Prop)(h1:BF P ro N E c1 (Exit.then (YX N E fx ds lx pre) Q) fr ds l)(h2: ∀x,pre x->BF P ro N E c2 Q (fx x) ds (lx x)):BF P ro N E (.seq c1 c2) Q fr ds l:=
 ⟨λa W hf hds hs=>wpIn_seq (wpIn_mono (h1.run a W hf hds hs) λe a' W' h=>by
   cases e with
   |normal=>obtain⟨y,h3,h4,h5,h6⟩:=h;exact(h2 y h3).run a' W' h4 h5 h6
   |_=>exact h)⟩
theorem D8{fx:α->Fr}{lx:α->List Ab}{pre:α->Prop}(y:α)(h1:pre y)(h3:FSub (fx y) fr)(h4:Keep l (lx y)):CH N E (Exit.then (YX N E fx ds lx pre) Q) .normal fr ds l:=
 ⟨λa W hf hds hs=>⟨y,h1,hf.sub h3.spec,hds,h4.sat hs⟩⟩
end
theorem QW(zs:List Value)(n:Nat):(Builtin.zeroCells (toArray zs) n).toList=(replicate n zs).flatten:=by
 apply Dq;intro j;unfold Builtin.zeroCells;have hl:(replicate n zs).flatten.length=n*zs.length:=by simp
 by_cases hj:j<n*zs.length
 ·have hk0:0<zs.length:=JF λe=>by rw[e] at hj;simp at hj
  have:(replicate n zs).flatten[j]?=zs[j%zs.length]?:=by
   clear hl
   induction n generalizing j with
   |zero=>omega
   |succ n ih=>
    rw[BE,Cl];by_cases hjk:j<zs.length
    ·rw[AC Af,Db hjk]
    ·rw[AP Af,ih (j-zs.length) (by have:=Fq n zs.length;simp only[Jn] at this;omega),<-JG Af]
  simp only[KV,JH,A0,Bm,EE hj,BH];rw[this];have hlt:j%zs.length<zs.length:=Gy _ hk0;simp[Am hlt,FL]
 ·rw[Bb (by simp;omega),Bb (by rw[hl];omega)]
inductive YY(fr:Fr):Option Operand->Nat->Nat->Prop
 |none {d:Nat}:YY fr none d d
 |some {o:Operand} {d r:Nat} {k:IntKind} {i:Int}:ev fr o=some (.int k i)->0<=i->i.toNat=r->YY fr (some o) d r
section
variable{d:Option Nat}{aft:Array Edge}{t:TypeId}
theorem Eu{Q:Nat->List Ab->Prop}{k:IntKind}{i:Int}{y r:Nat}{code:BoundsCode}(h0:0<=i)(hr:i.toNat=r)(hy:r<=y):sl P (Instr.sliceBound (.int k i) y code) l Q<->Q r l:=by unfold Instr.sliceBound;simp only[asIntOf,AB,Bj];rw[Ae ⟨h0,Af⟩,Bj,hr]
theorem JM{Q:Nat×Nat×Nat->List Ab->Prop}(hρ:Agrees fr ρ)(hl:YY fr lo 0 l0)(hh:YY fr hi n h0)(hm:YY fr mx cap m0)(hno:mx.isSome=true->hi.isSome=true)(h1:l0<=h0)(h2:h0<=m0)(h3:m0<=cap):
 sl P (Instr.sliceBounds true n cap (lo.map ρ) (hi.map ρ) (mx.map ρ)) l Q<->Q (l0,h0,m0) l:=by
 unfold Instr.sliceBounds;cases hm with
 |none=>
  cases hh with
  |none=>
   cases hl with
   |none=>simp only[DF,AB,Bj]
   |some e i0 ir=>simp only[DF,BH,AB,Bj,hρ _ _ e];rw[Eu i0 ir h1]
  |some e i0 ir=>
   cases hl with
   |none=>simp only[DF,BH,AB,Bj,hρ _ _ e];rw[Eu i0 ir h2]
   |some e' i0' ir'=>simp only[DF,BH,AB,Bj,hρ _ _ e,hρ _ _ e'];rw[Eu i0 ir h2,Eu i0' ir' h1]
 |some em m0' mr=>
  cases hh with
  |none=>simp at hno
  |some e i0 ir=>
   cases hl with
   |none=>simp only[DF,BH,AB,Bj,hρ _ _ e,hρ _ _ em];rw[Eu m0' mr h3,Eu i0 ir h2]
   |some e' i0' ir'=>simp only[DF,BH,AB,Bj,hρ _ _ e,hρ _ _ e',hρ _ _ em];rw[Eu m0' mr h3,Eu i0 ir h2,Eu i0' ir' h1]
theorem Fu{off' n' c':Nat}(hx:ev fr x=some (.slice (some ⟨b,off,none⟩) n cap))[c:ST P T e k yb](hl:YY fr lo 0 l0)(hh:YY fr hi n h0)(hm:YY fr mx cap m0)(hno:mx.isSome=true->hi.isSome=true)(h1:l0<=h0)(h2:h0<=m0)(h3:m0<=cap)
 (ho:(if m0=l0 then off else off+l0*k)=off')(hn:h0-l0=n')(hc:m0-l0=c'):OpQ P ro N fr R ⟨d,.slice T x lo hi mx,ty,pos,aft,g⟩ (.slice (some ⟨b,off',none⟩) n' c'):=BL rfl λρ l hρ _=>by
 obtain⟨inf,u1,u2,u3,_⟩:=Ev c.out;subst ho hn hc;simp only[execOp,hρ x _ hx];rw[AB];unfold Instr.sliceAt;rw[BX u1];show sl P (Instr.slice T _ _ _ _) l _;unfold Instr.slice;rw[BX u1];simp only[AB];rw[JM hρ hl hh hm hno h1 h2 h3];simp only;rw[GG u2];simp only[Bj,u3];refine⟨?_,trivial⟩
 split<;>simp[Gf]
theorem YZ{cs:Array Value}(hx:ev fr x=some (.slice (some ⟨b,off,none⟩) m cp))[c:ST P T e k yb][cz:ZV P e zs](hm:0<m)(h1: ∀v,v∈zs->v.oneCell'=true)(hu:Upd l b (.cells cs ct (0,0)) (.cells (CO cs off (replicate m zs).flatten) ct (0,0)) l')(hlt:off+m*zs.length<=cs.size):OpE P ro N fr l ⟨d,.call {callee:= .builtin .clear,args:=#[x],argTypes:=#[T]},ty,pos,aft,g⟩ (λv' l2=>v'= .tuple #[]/\l2=l'):=Do rfl λρ hρ=>by
 obtain⟨inf,u1,u2,u3,_⟩:=Ev c.out;obtain⟨i,zv,z1,z2,z3⟩:=I7 cz.out;rw[u2] at z1;cases z1;obtain⟨m,rfl⟩: ∃m',m=m'+1:=⟨m-1,Af⟩
 simp only[execOp,resolve,AB,Bj,invoke,builtin,Da,AJ,CY,hρ x _ hx];unfold Builtin.clear_;simp only[AE,Dc,AB];rw[EU u1];simp only[AB,zeroValue];rw[<-AB,IQ u2,z2];simp only[Bj];have hz:zv.cells=toArray zs:=by rw[<-z3]
 have hzz:(Builtin.zeroCells zv.cells (m+1)).toList=(replicate (m+1) zs).flatten:=by rw[hz];exact QW zs (m+1)
 rw[hzz];have:=KG (P:=P) (b:=b) (off:=off) (f:=λv=>(pure (.tuple #[]):Sem Value)) (Q:=λa l2=>Vn P (λv' l2=>v'= .tuple #[]/\l2=l') (Next.value a) l2) (replicate (m+1) zs).flatten 0 cs l l' (by intro v hv;rw[List.mem_flatten] at hv;obtain⟨r,hr,hv⟩:=hv;rw[Fz hr] at hv;exact h1 v hv) (by simpa using hlt) hu ⟨rfl,rfl⟩
 rw[AB] at this;exact this
theorem S7{gb:Nat}{cur:Array Value}(hs:ev fr s=some (.slice (some ⟨gb,0,none⟩) n cap))(hx:ev fr x=some (.slice (some ⟨b,off,none⟩) m cp))[c:ST P T e k yb]
 (hm:(b,Obj.cells cl ct fz)∈(gb,Obj.cells cur e (0,0))::F)(hnews: ∀j u,news[j]?=some u->cl[off+j]?=some u)(hnl:news.length=m*k)(h1: ∀u∈news,u.oneCell'=true)(hroom:n+m<=cap)(hfit:n*k+news.length<=cur.size):
 OpE P ro N fr ((gb,.cells cur e (0,0))::F) ⟨d,.call {callee:= .builtin .append,args:=#[s,x],argTypes:=#[T,T]},ty,pos,aft,g⟩ (λv' l'=>v'= .slice (some ⟨gb,0,none⟩) (n+m) cap/\l'=(gb,.cells (cur.toList.take (n*k)++news++cur.toList.drop (n*k+news.length)).toArray e (0,0))::F):=by
 refine⟨rfl,λE a W hf hs'=>?_⟩;have hρ:=hf.agrees;obtain⟨inf,u1,u2,u3,u4⟩:=Ev c.out;have hex:execOp a.eval ⟨d,.call {callee:= .builtin .append,args:=#[s,x],argTypes:=#[T,T]},ty,pos,aft,g⟩=(do pure (.value (<-Builtin.append_ #[T,T] ty #[.slice (some ⟨gb,0,none⟩) n cap,.slice (some ⟨b,off,none⟩) m cp])):Sem Next):=by simp[execOp,resolve,hρ s _ hs,hρ x _ hx,invoke,builtin]
 unfold OpVal;rw[hex,Sem.run_bind];have hg:=hs'.has (gb,_) Ak;have hr:=run_append_room (P:=P) W T ty e inf u1 u2 gb n cap cur hg ⟨b,off,none⟩ m cp news (by rw[u3];exact hnl) (λj u hj=>by rw[Gf,hs'.cell hm];exact hnews j u hj) h1 hroom (by rw[u3];exact hfit);rw[hr];rw[u3];exact⟨_,⟨rfl,rfl⟩,hs'.row⟩
theorem It{rest:List Oper}{d:Nat}(h:OpE P ro N fr l o K)(hw:Pz ops fr o.guard=some true)(hd:o.dst=some d)(hb:Nat.blt d N=true)(hk: ∀v l',K v l'->Df P ro N E ops Q rest ((d,v)::fr) ds l'):Df P ro N E ops Q (o::rest) fr ds l:=by
 rcases JK hw with⟨h1,_⟩|⟨j,b,oj,dj,b',h1,h2,h3,h4,h5⟩
 ·exact db h h1 hd hb hk
 ·have:b'=b:=by simpa using h5
  subst this;exact ti h h1 h2 h3 h4 hd hb hk
theorem Xk{ps:List (Nat×Operand)}{pvs:List (Nat×Value)}(hps:Xh fr ps=some pvs)(hn0:0<n)(hn:n<=16777216)[c:ST P T e 1 yb][cz:ZV P e [z0]](hfill:Instr.fill (λi=>some (i*1,1)) (toArray (replicate n [z0]).flatten) pvs=some (toArray cs)):
 OpE P ro N fr l ⟨d,.buildSlice T n ps.toArray,ty,pos,aft,g⟩ (λv' l'=> ∃b,(∀c,c∈l->c.1≠b)/\v'= .slice (some ⟨b,0,none⟩) n n/\l'=(b,.cells (toArray cs) e (0,0))::l):=Do rfl λρ hρ=>by
 simp only[execOp,AB];have e:ps.toArray.map (λ(i,x)=>(i,ρ x))=toArray pvs:=by rw[<-hρ.parts hps];simp
 rw[e];exact IV (cs:=cs) c.out cz.out rfl Af Af hfill λb hb=>⟨b,hb,rfl,rfl⟩
theorem OwnSl.lit(h0:0<n)(hl:xs.length=n)(hm:n<=1000000):OwnSl e 1 (.slice (some ⟨b,0,none⟩) n n) n xs [(b,.cells (toArray xs) e (0,0))]:=
 ⟨Af,.inr ⟨b,n,[],rfl,by simp,Af,by unfold maxLen;omega,by simp[hl]⟩⟩
end
end Go.Proofs.YtlkgekpmileobaaGreat
