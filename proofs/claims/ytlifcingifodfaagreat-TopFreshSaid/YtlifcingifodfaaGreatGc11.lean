/- Laws that the statement's proof leans on (joined out of several texts). -/
import Derived.Test.YtlifcingifodfaaGreatGc10
import Derived.Lib.Overlaps
import Derived.Laws.CopyRow
set_option maxHeartbeats 4000000
set_option linter.unusedVariables false
set_option linter.unusedSimpArgs false
namespace Go.Proofs.YtlifcingifodfaaGreat
open Tryz
open List(toArray replicate)
variable{α:Type}
namespace Ar
open Go.RowKit
set_option maxRecDepth 20000
variable{e yb T k n cap N gb m:Nat}{P:Program}{ro:Option Nat}{R l F:Ad}{ty:TypeId}{pos:String}{g:Option (Nat×Bool)}{x:Operand}{p:Option Addr}
theorem af(w:World)(dT sT ty elem:TypeId)(i:TypeInfo)(g o dLen dCap:Nat)(a:Addr)(JF sCap:Nat)(cur:Array Value)(t:TypeId)(cs:Ap)
 (hu:P.underlying dT=some (.slice elem))(hi:P.info? elem=some i)
 (hg:w.heap[g]?=some (.cells cur t (0,0)))(hn:cs.length=Nat.min JF dLen*i.size)
 (uV: ∀j v,cs[j]?=some v->w.cell? (a.add j)=some v)(We:o+cs.length<=cur.size)(h1: ∀v∈cs,v.oneCell'=true):
 (Builtin.copy_ #[dT,sT] ty #[.slice (some ⟨g,o,none⟩) dLen dCap,.slice (some a) JF sCap]).run P w=
   .ok (goInt (Nat.min JF dLen)) (w.setRow g (cur.toList.take o++cs++cur.toList.drop (o+cs.length)).toArray):=by
 have hl:=run_firstCells_some (P:=P) (w:=w) i.size (Nat.min JF dLen) a JF sCap cs hn uV;have Mi:=run_storeCells_at P g o t cs 0 cur w hg (by simpa using We) h1;simp only[CP] at Mi;have e1:(Builtin.lenOf (.slice (some a) JF sCap)).run P w= .ok JF w:=rfl;have e2:(sizeOf elem).run P w= .ok i.size w:=by simp[sizeOf,typeInfo,hi]
 unfold Builtin.copy_;simp only[AF,Da,C9,Sem.run_bind,run_underlying hu,Result.andThen_ok,e1,e2,hl,Mi];rfl
theorem Q5(w:World)(t tn ty e:TypeId)(i:TypeInfo)(z:Value)(k kn:IntKind)(ht:P.underlying t=some (.slice e))(htn:P.underlying tn=some (.int kn))(hi:P.info? e=some i)(hz:i.zero=some z)
 (b:Addr)(JF sCap:Nat)(pG:Ap)(uW:pG.length=JF*i.size)(holds: ∀j v,pG[j]?=some v->w.cell? (b.add j)=some v)
 (n:Nat)(h0:0<n)(hs:0<i.size)(hg:sCap<JF+n)(h63:JF+n<=1000000)(cI:i.bytes<=1000)(We:Builtin.nextslicecap (JF+n) sCap*i.bytes<=281474976710656):
 (Builtin.append_ #[t,tn] ty #[.slice (some b) JF sCap,.int k n]).run P w=
   .ok (.slice (some ⟨w.heap.size,0,none⟩) (JF+n) (grownCap w (JF+n) sCap e)) (w.drew.alloc (.cells (pG.toArray++Builtin.zeroCells z.cells n++Builtin.zeroCells z.cells (grownCap w (JF+n) sCap e-(JF+n))) e)):=by
 have hw:IntKind.i64.wrap (n:Int)=n:=by rw[IntKind.wrap_i64];omega
 have h48:(n:Int)*(i.bytes:Int)<=1000000000:=by have:n*i.bytes<=1000000*1000:=I4 Af cI;rw[<-Kb];omega
 have Acu:¬(281474976710656<(n:Int)*(i.bytes:Int)):=by omega
 have Acv:¬((n:Int)<0):=by omega
 have uX:¬(n*i.size=0):=Nat.mul_ne_zero Af Af;have hn:¬(JF+n<=sCap):=by omega
 have Acw:¬(9223372036854775807<((JF:Int)+(n:Int))):=by omega
 have Acx:¬(281474976710656<Builtin.nextslicecap (JF+n) sCap*i.bytes):=by omega
 have tc:=run_firstCells_some (P:=P) (w:=w.drew) i.size JF b JF sCap pG uW (by simpa using holds);simp[Builtin.append_,run_underlying ht,run_underlying htn,sizeOf,typeInfo,zeroValue,hi,hz,asInt,asIntOf,hw,hn,Acv,uX,Acw,Acx,Acu,Question.forced,tc,newRow,grownCap]
section
variable{fr:Fr}{d:Option Nat}{t:TypeId}{aft:Array Edge}{y s:Operand}{off b:Nat}
theorem Aaq{kk:Nat}(hx:ev fr x=some (.slice p n cap))[c:ST P t e kk yb]:OpQ P ro N fr R ⟨d,.call {callee:= .builtin .cap,args:=#[x],argTypes:=#[t]},ty,pos,aft,g⟩ (.int .i64 (cap:Nat)):=BM rfl λρ l hρ _=>by obtain⟨Hp,h1,_⟩:=E7 c.out;simp only[execOp,resolve,AC,Bn,invoke,builtin,Dj,AJ,CQ,hρ x _ hx,Builtin.cap_];show sl P (underlying t>>=_) l _;rw[Cc h1];exact⟨rfl,rfl⟩
theorem Sj{T2 o sb so dLen dCap JF sCap:Nat}{cur cs:Ap}{cl:Array Value}{ct:TypeId}{fz:Nat×Nat}(hx:ev fr x=some (.slice (some ⟨gb,o,none⟩) dLen dCap))(hy:ev fr y=some (.slice (some ⟨sb,so,none⟩) JF sCap))[c:ST P T e k yb]
 (hm:Nat.min JF dLen=m)(hl:cs.length=m*k)(hs:(sb,Obj.cells cl ct fz)∈(gb,.cells (toArray cur) e (0,0))::F)(uV: ∀j u,cs[j]?=some u->cl[so+j]?=some u)(We:o+cs.length<=cur.length)(h1: ∀u∈cs,u.oneCell'=true):
 OpE P ro N fr ((gb,.cells (toArray cur) e (0,0))::F) ⟨d,.call {callee:= .builtin .copy,args:=#[x,y],argTypes:=#[T,T2]},ty,pos,aft,g⟩ (λv' l'=>v'= .int .i64 (m:Nat)/\l'=(gb,.cells (toArray (cur.take o++cs++cur.drop (o+cs.length))) e (0,0))::F):=by
 subst hm;refine⟨rfl,λE a W hf hs'=>?_⟩;have hρ:=hf.agrees;obtain⟨Hp,u1,u2,u3,u4⟩:=E7 c.out;have XD:execOp a.eval ⟨d,.call {callee:= .builtin .copy,args:=#[x,y],argTypes:=#[T,T2]},ty,pos,aft,g⟩=(do pure (.value (<-Builtin.copy_ #[T,T2] ty #[.slice (some ⟨gb,o,none⟩) dLen dCap,.slice (some ⟨sb,so,none⟩) JF sCap])):Sem Next):=by simp[execOp,resolve,hρ x _ hx,hρ y _ hy,invoke,builtin]
 unfold OpVal;rw[XD,Sem.run_bind];have hr:=af (P:=P) W T T2 ty e Hp gb o dLen dCap ⟨sb,so,none⟩ JF sCap (toArray cur) e cs u1 u2 (hs'.has (gb,_) Ak) (by rw[u3];exact hl) (λj u hj=>by rw[Gw,hs'.cell hs];exact uV j u hj) (by simpa using We) h1;rw[hr];exact⟨_,⟨rfl,rfl⟩,hs'.row⟩
theorem gh{tn:Nat}{xs sp zs:Ap}(hx:ev fr s=some (.slice (some ⟨gb,0,none⟩) n cap))(hy:ev fr x=some (.int .i64 (m:Nat)))[c:ST P T e k yb][cz:ZV P e zs][ci:IT P tn .i64](RN:zs.length=k)(hk:0<k)
 (QX:xs.length=n*k)(hm0:0<m)(Ph:cap<n+m)(hn:n+m<=1000000)(cI:yb<=1000):
 OpE P ro N fr ((gb,.cells (toArray (xs++sp)) e (0,0))::F) ⟨d,.call {callee:= .builtin .append,args:=#[s,x],argTypes:=#[T,tn]},ty,pos,aft,g⟩ (λv' l'=> ∃nb cap' H0,(∀c,c∈(gb,Obj.cells (toArray (xs++sp)) e (0,0))::F->c.1≠nb)/\v'= .slice (some ⟨nb,0,none⟩) (n+m) cap'/\l'=(nb,.cells (toArray (xs++(replicate m zs).flatten++H0)) e (0,0))::(gb,.cells (toArray (xs++sp)) e (0,0))::F/\n+m<=cap'/\cap'<=maxLen/\(xs++(replicate m zs).flatten++H0).length=cap'*k):=by
 refine⟨rfl,λE a W hf hs=>?_⟩;have hρ:=hf.agrees;obtain⟨Hp,u1,u2,u3,u4⟩:=E7 c.out;obtain⟨uQ,zv,z1,z2,z3⟩:=J0 cz.out;rw[u2] at z1;cases z1;have hu:=Te ci.out;have XD:execOp a.eval ⟨d,.call {callee:= .builtin .append,args:=#[s,x],argTypes:=#[T,tn]},ty,pos,aft,g⟩=(do pure (.value (<-Builtin.append_ #[T,tn] ty #[.slice (some ⟨gb,0,none⟩) n cap,.int .i64 (m:Nat)])):Sem Next):=by simp[execOp,resolve,hρ s _ hx,hρ x _ hy,invoke,builtin]
 unfold OpVal;rw[XD,Sem.run_bind];have hzc:zv.cells=toArray zs:=by rw[<-z3]
 have hold: ∀j u,xs[j]?=some u->W.cell? ((⟨gb,0,none⟩:Addr).add j)=some u:=λj u hj=>by rw[Gw,hs.cell Ak,BE];have Dc:=(Ay.1 hj).1;simp only[AF];rw[AB Dc];exact hj
 have Wf:(n+m)*yb<=140737488355328:=by have:=I4 hn cI;omega
 have hr:=Q5 (P:=P) W T tn ty e Hp zv .i64 .i64 u1 hu u2 z2 ⟨gb,0,none⟩ n cap xs (by rw[u3];exact QX) hold m hm0 (by rw[u3];exact hk) Ph hn (by rw[u4];exact cI) (growslice_fits Af (by rw[u4];exact Wf));rw[hr];have UI:=size_zeroCells zv.cells (grownCap W (n+m) cap e-(n+m));have hzm:Builtin.zeroCells zv.cells m=toArray (replicate m zs).flatten:=by unfold Builtin.zeroCells;have Le:0<m*k:=Nat.mul_pos hm0 hk;have:=Vr hzc RN Le;rw[show zv.cells.size=k by rw[hzc];simpa using RN];rw[<-this,show zv.cells.size=k by rw[hzc];simpa using RN]
 refine⟨_,⟨W.heap.size,grownCap W (n+m) cap e,(Builtin.zeroCells zv.cells (grownCap W (n+m) cap e-(n+m))).toList,λc hc=>?_,rfl,rfl,grownCap_ge _ _ _ _,grownCap_le_maxLen _ _ _ _ (by unfold maxLen;omega),?_⟩,?_⟩
 ·intro e1;have:=hs.has c hc;rw[e1] at this;simp at this
 ·have hge:=grownCap_ge W (n+m) cap e;have h1:(Builtin.zeroCells zv.cells (grownCap W (n+m) cap e-(n+m))).toList.length=(grownCap W (n+m) cap e-(n+m))*k:=by
   rw[Array.length_toList,UI,show zv.cells.size=k by rw[hzc];simpa using RN]
  have:(replicate m zs).flatten.length=m*k:=by simp[RN]
  rw[Ah,Ah,QX,h1,this,<-Fp,<-Fp];congr 1;omega
 ·have h2:=hs.drew.alloc (.cells (xs.toArray++Builtin.zeroCells zv.cells m++Builtin.zeroCells zv.cells (grownCap W (n+m) cap e-(n+m))) e);have e1:W.drew.heap.size=W.heap.size:=rfl;rw[e1] at h2;have e2:toArray (xs++(replicate m zs).flatten++(Builtin.zeroCells zv.cells (grownCap W (n+m) cap e-(n+m))).toList)=xs.toArray++Builtin.zeroCells zv.cells m++Builtin.zeroCells zv.cells (grownCap W (n+m) cap e-(n+m)):=by
   rw[hzm];apply BU.1;simp
  rw[e2];exact h2
theorem ag{f:Nat}{fn:Func}{at_:Array TypeId}{a1 o1 a2 o2 n1 c1 n2 c2:Nat}{cl1 cl2:Array Value}{t1 t2:TypeId}(hfx:ev fr s=some (.func (.func f) #[] #[]))(hx:ev fr x=some (.slice (some ⟨a1,o1,none⟩) n1 c1))(hy:ev fr y=some (.slice (some ⟨a2,o2,none⟩) n2 c2))[c:ST P T e k yb]
 (hf:P.funcs[f]?=some fn)(uM:(fn.name== "runtime.NumGoroutine")=false)(hb:fn.body.isNone=true)(Wg:Extern.findNext fn=none)(tR:TypeId)(Acy:Extern.find fn=some (Extern.SlicesOverlaps.overlaps #[T,T] #[tR]))
 (h1:(a1,Obj.cells cl1 t1 (0,0))∈R)(h2:(a2,Obj.cells cl2 t2 (0,0))∈R)(G5:a1≠a2)(h0:0<cl2.size):
 OpQ P ro N fr R ⟨d,.call {callee:= .value s,args:=#[x,y],argTypes:=at_},ty,pos,aft,g⟩ (.bool false):=by
 refine⟨λl hl=>⟨rfl,λE a W hfs hs=>?_⟩⟩;have hρ:=hfs.agrees;obtain⟨Hp,u1,u2,u3,u4⟩:=E7 c.out;have k1:=hs.has _ (hl _ h1);have k2:=hs.has _ (hl _ h2);simp only at k1 k2;have hr:=Lib.run_overlaps_apart (P:=P) W T tR e u1 Hp.size (λw=>by simp[sizeOf,typeInfo,u2]) ⟨a1,o1,none⟩ ⟨a2,o2,none⟩ n1 c1 n2 c2 G5 t1 t2 cl1.size cl2.size (by simp[World.shape?,k1]) (by simp[World.shape?,k2]) Af (by simp[World.frozen?,k1]) (by simp[World.frozen?,k1]);have hc:=run_callFunc_extern (P:=P) hf uM hb Wg Acy #[.slice (some ⟨a1,o1,none⟩) n1 c1,.slice (some ⟨a2,o2,none⟩) n2 c2] W;unfold OpVal;have XD:(execOp a.eval ⟨d,.call {callee:= .value s,args:=#[x,y],argTypes:=at_},ty,pos,aft,g⟩).run P W= .ok (.value (.bool false)) W:=by simp only[execOp,resolve,Dj,AJ,CQ,hρ s _ hfx,hρ x _ hx,hρ y _ hy,Deferred.ofValue,Sem.run_bind];simp only[Sem.run_pure,Result.andThen,invoke];simp only[KG,KH];rw[hc,hr];rfl
 rw[XD];exact⟨_,⟨rfl,rfl⟩,hs⟩
end
open Go.RowKit
set_option maxRecDepth 20000
section
variable{fr:Fr}{d:Option Nat}{aft:Array Edge}
theorem kF{lo hi mx:Option Operand}{l0 h0 m0 n' c':Nat}(hx:ev fr x=some (.slice p n cap))[c:ST P T e k yb](hl:kj fr lo 0 l0)(hh:kj fr hi n h0)(hm:kj fr mx cap m0)(I8:mx.isSome=true->hi.isSome=true)(h1:l0<=h0)(h2:h0<=m0)(h3:m0<=cap)
 (hn:h0-l0=n')(hc:m0-l0=c'):OpQ P ro N fr R ⟨d,.slice T x lo hi mx,ty,pos,aft,g⟩ (.slice (if m0=l0 then p else p.map (·.add (l0*k))) n' c'):=BM rfl λρ l hρ _=>by
 obtain⟨Hp,u1,u2,u3,_⟩:=E7 c.out;subst hn hc;simp only[execOp,hρ x _ hx];rw[AC];unfold Instr.sliceAt;rw[Cc u1];show sl P (Instr.slice T _ _ _ _) l _;unfold Instr.slice;rw[Cc u1];simp only[AC];rw[N1 hρ hl hh hm I8 h1 h2 h3];simp only;rw[Hr u2];simp only[Bn,u3];simp
end
theorem AdD:prog.funcs[240]?=some Tryz.f240:=func240
theorem AdE:(Tryz.f240.name== "runtime.NumGoroutine")=false:=BB
theorem AdF:Tryz.f240.body.isNone=true:=BB
theorem AdG:Extern.findNext Tryz.f240=none:=BB
theorem AdH:Extern.find Tryz.f240=some (Extern.SlicesOverlaps.overlaps #[43,43] #[4]):=BB
theorem v6(A X Y cs:Ap)(h:cs.length=X.length):(A++X++Y).take A.length++cs++(A++X++Y).drop (A.length+cs.length)=A++cs++Y:=by
 rw[h];have e1:(A++X++Y).take A.length=A:=by rw[Am,GP rfl]
 have e2:(A++X++Y).drop (A.length+X.length)=Y:=by rw[<-Ah,Ir rfl]
 rw[e1,e2]
abbrev pd:Ap:=[.int .i64 0,.int .i64 0,.int .i64 0,.int .i64 0,.int .i64 0,.int .i64 0,.int .i64 0,.int .i64 0,.int .i64 0]
theorem ah(v:Value)(n i bl:Nat)(xs ws:Ap)(cs F:Ad)(ho:OwnSl 100 9 v n xs cs)(hi:i<=n)(hw:ws.length=9)(h1: ∀u∈ws,u.oneCell'=true)(jh: ∀u∈xs,u.oneCell'=true)(G5: ∀c,c∈cs->c.1≠bl)(hn:n<=90000):
 Fn prog 182 [v,.int .i64 (i:Nat),.slice (some ⟨bl,0,none⟩) 1 1] ((bl,.cells (toArray ws) 100 (0,0))::(cs++F)) λv' l'=> ∃c2,OwnSl 100 9 v' (n+1) (xs.take (i*9)++ws++xs.drop (i*9)) c2/\l'=c2++F:=by
 obtain⟨p,cap,hv,fD⟩: ∃p cap,v= .slice p n cap/\n<=cap:=by
  rcases ho.2 with⟨h,h0,_⟩|⟨b,cap,sp,h,_,h2,_⟩
  ·exact⟨none,0,by rw[h,h0],Af⟩
  ·exact⟨_,cap,h,h2⟩
 subst hv;refine AO func182 ntmps182 λE=>?_;refine gz ?_;refine Be (kF (l0:=i) (h0:=n) (m0:=cap) rfl (.some rfl Af rfl) .none .none (by simp) hi fD Af rfl rfl) ?_;refine gz ?_;by_cases NO:i=n
 ·subst NO;refine gz ?_;refine AR (Ht (k:=9) (X:=[]) (cs:=cs) (F:=F) (xs:=xs) (n:=i) (ws:=ws) (zs:=pd) rfl rfl rfl ho hw h1 Af AZ) ?_;rintro v' _ ⟨c2,FK,rfl⟩;have Ju:v'.oneCell'=true:=FK.one;refine gz ?_;refine Bb (l':=c2++F) .refl ⟨c2,?_,rfl⟩;rw[Bz (by rw[ho.1];omega),DG (by rw[ho.1];omega),Bi];exact FK
 refine gz ?_;rcases ho.2 with⟨h,h0,_⟩|⟨gb,cap',sp,h,rfl,h2,UK,Nu⟩
 ·omega
 cases h;have hxl:xs.length=n*9:=ho.1;obtain⟨A,hA⟩: ∃A,xs.take (i*9)=A:=⟨_,rfl⟩
 obtain⟨B,hB⟩: ∃B,xs.drop (i*9)=B:=⟨_,rfl⟩
 have ZF:xs=A++B:=by rw[<-hA,<-hB,Cj]
 have tf:A.length=i*9:=by rw[<-hA,CV];omega
 have hBl:B.length=(n-i)*9:=by rw[<-hB,Dw];omega
 have uY: ∀u∈B,u.oneCell'=true:=λu hu=>jh u (by rw[ZF];exact Aa _ hu);rw[hA,hB];have RQ:gb≠bl:=G5 _ (.head _);rw[show xs++sp=A++(B++sp) by rw[ZF,Am]] at Nu⊢;rw[Ah,Ah] at Nu;simp only[Ae,Ag];refine Be (Aaq rfl) ?_;refine gz ?_;by_cases Ph:cap<n+1
 ·refine gz ?_;refine Be (F9 (l0:=0) (h0:=i) (m0:=cap) (off':=0) (n':=i) (c':=cap) rfl .none (.some rfl Af rfl) .none (by simp) Af Af Af (by simp) Af Af) ?_;refine gz ?_;refine Bq (Keep.of_perm (l':=(gb,.cells (toArray (A++(B++sp))) 100 (0,0))::((bl,.cells (toArray ws) 100 (0,0))::F)) (List.Perm.swap ..)) ?_;refine AR (gh (k:=9) (n:=i) (m:=n+1-i) (gb:=gb) (cap:=cap) (xs:=A) (sp:=B++sp) (zs:=pd) (F:=(bl,.cells (toArray ws) 100 (0,0))::F) rfl ?_ rfl Af tf Af Af Af AZ) ?_
  ·show some (Value.int .i64 _)=_;congr 2;omega
  rintro _ _ ⟨nb,cap2,Xp,hnb,rfl,rfl,pC,hc2,hc3⟩;rw[show i+(n+1-i)=n+1 by omega] at pC⊢;obtain⟨Z,hZ⟩: ∃Z,(replicate (n+1-i) pd).flatten=Z:=⟨_,rfl⟩
  have hZl:Z.length=9+B.length:=by rw[<-hZ,hBl];simp;omega
  rw[hZ] at hc3⊢;have e0:A++Z++Xp=A++Z.take 9++(Z.drop 9++Xp):=by rw[Am,Am,<-Am (Z.take 9),Cj]
  have hZ9:(Z.take 9).length=9:=by rw[CV];omega
  have hZd:(Z.drop 9).length=B.length:=by rw[Dw];omega
  rw[Ah,Ah] at hc3;refine gz ?_;refine Be (F9 (l0:=i) (h0:=n+1) (m0:=cap2) (off':=A.length) (n':=n+1-i) (c':=cap2-i) rfl (.some rfl Af rfl) .none .none (by simp) Af Af Af (by rw[Ab Af];omega) rfl rfl) ?_;refine gz ?_;have o4:(bl,Obj.cells (toArray ws) 100 (0,0))∈(nb,Obj.cells (toArray (A++Z++Xp)) 100 (0,0))::(gb,.cells (toArray (A++(B++sp))) 100 (0,0))::(bl,.cells (toArray ws) 100 (0,0))::F:= .tail _ (.tail _ (.head _));refine AR (Sj (k:=9) (m:=1) (cs:=ws) rfl rfl (by show min 1 (n+1-i)=1;omega) hw o4 (λj u hj=>by simpa using hj) (by simp only[Ah];omega) h1) ?_;rintro _ _ ⟨rfl,rfl⟩;rw[e0,v6 A _ _ ws (by rw[hw,hZ9])];refine gz ?_;have hAw:(A++ws).length=i*9+9:=by rw[Ah];omega
  have Lf:(gb,Obj.cells (toArray (A++(B++sp))) 100 (0,0))∈(nb,Obj.cells (toArray (A++ws++(Z.drop 9++Xp))) 100 (0,0))::(gb,.cells (toArray (A++(B++sp))) 100 (0,0))::(bl,.cells (toArray ws) 100 (0,0))::F:= .tail _ (.head _);refine Cn [8] 9 ([]) ?_;refine pz ?_;apply EF
  ·exact F9 (l0:=i+1) (h0:=n+1) (m0:=cap2) (off':=i*9+9) (n':=n-i) (c':=cap2-(i+1)) rfl (.some rfl Af rfl) .none .none (by simp) Af Af Af (by rw[Ab Af];omega) Af rfl
  ·rfl
  ·rfl
  ·rfl
  refine pz ?_;apply EF
  ·exact F9 (l0:=i) (h0:=n) (m0:=cap) (off':=i*9) (n':=n-i) (c':=cap-i) rfl (.some rfl Af rfl) .none .none (by simp) Af Af Af (by rw[Ab Af];omega) rfl rfl
  ·rfl
  ·rfl
  ·rfl
  refine pz ?_;apply CS
  ·apply Sj (k:=9) (m:=n-i) (cs:=B) (cur:=A++ws++(Z.drop 9++Xp))
   ·rfl
   ·rfl
   ·exact Nat.min_self _
   ·omega
   ·exact Lf
   ·intro j u hj;have fF:=(Ay.1 hj).1;rw[AF,AN Af,tf,show i*9+j-i*9=j by omega,AB fF];exact hj
   ·rw[Ah,Ah,Ah,hw,tf,hZd];omega
   ·exact uY
  ·rfl
  ·rfl
  ·rfl
  ·intro _ _ _ c hc;cases hc
  rintro _ _ ⟨rfl,rfl⟩;have e3:List.take (i*9+9) (A++ws++(List.drop 9 Z++Xp))++B++List.drop (i*9+9+B.length) (A++ws++(List.drop 9 Z++Xp))=A++ws++B++Xp:=by have:=v6 (A++ws) (Z.drop 9) Xp B hZd.symm;rw[hAw,Am (A++ws) (Z.drop 9) Xp] at this;exact this
  rw[e3];refine pz ?_;refine gz ?_;refine Bb (l':=(nb,.cells (toArray (A++ws++B++Xp)) 100 (0,0))::F) (by exact AU) ⟨[(nb,_)],⟨?_,.inr ⟨nb,cap2,Xp,rfl,rfl,pC,hc2,?_⟩⟩,rfl⟩
  ·rw[Ah,hAw];omega
  ·rw[Ah,Ah,hAw];omega
 ·obtain⟨s1,s2,hs12,R8⟩: ∃s1 s2,sp=s1++s2/\s1.length=9:=⟨sp.take 9,sp.drop 9,(Cj ..).symm,by rw[CV];omega⟩
  refine gz ?_;refine Be (F9 (l0:=0) (h0:=n+1) (m0:=cap) (off':=0) (n':=n+1) (c':=cap) rfl .none (.some rfl Af Af) .none (by simp) Af Af Af (by simp) Af Af) ?_;refine gz ?_;refine Be (F9 (l0:=i+1) (h0:=n+1) (m0:=cap) (off':=i*9+9) (n':=n-i) (c':=cap-(i+1)) rfl (.some rfl Af rfl) .none .none (by simp) Af Af Af (by rw[Ab Af];omega) Af rfl) ?_;refine gz ?_;have Lf:(gb,Obj.cells (toArray (A++(B++sp))) 100 (0,0))∈(bl,.cells (toArray ws) 100 (0,0))::(gb,Obj.cells (toArray (A++(B++sp))) 100 (0,0))::F:= .tail _ (.head _);refine Be (ag (cl1:=toArray ws) (cl2:=toArray (A++(B++sp))) rfl rfl rfl AdD AdE AdF AdG 4 AdH (.head _) Lf (λh=>RQ h.symm) (by simp;omega)) ?_;refine Bq (Keep.of_perm (l':=(gb,.cells (toArray (A++(B++sp))) 100 (0,0))::((bl,.cells (toArray ws) 100 (0,0))::F)) (List.Perm.swap ..)) ?_;refine gz ?_;refine Cn [8] 9 ([]) ?_;refine pz ?_;apply EF
  ·exact F9 (l0:=i+1) (h0:=n+1) (m0:=cap) (off':=i*9+9) (n':=n-i) (c':=cap-(i+1)) rfl (.some rfl Af rfl) .none .none (by simp) Af Af Af (by rw[Ab Af];omega) Af rfl
  ·rfl
  ·rfl
  ·rfl
  refine pz ?_;apply EF
  ·exact F9 (l0:=i) (h0:=n+1) (m0:=cap) (off':=i*9) (n':=n+1-i) (c':=cap-i) rfl (.some rfl Af rfl) .none .none (by simp) Af Af Af (by rw[Ab Af];omega) rfl rfl
  ·rfl
  ·rfl
  ·rfl
  refine pz ?_;apply CS
  ·apply Sj (k:=9) (m:=n-i) (cs:=B) (cur:=A++(B++sp))
   ·rfl
   ·rfl
   ·show min (n+1-i) (n-i)=n-i;omega
   ·omega
   ·exact .head _
   ·intro j u hj;have fF:=(Ay.1 hj).1;rw[AF,AN Af,tf,show i*9+j-i*9=j by omega,AB fF];exact hj
   ·rw[Ah,Ah,tf];omega
   ·exact uY
  ·rfl
  ·rfl
  ·rfl
  ·intro _ _ _ c hc;cases hc
  rintro _ _ ⟨rfl,rfl⟩;obtain⟨Y,hY⟩: ∃Y,(B++sp).take 9=Y:=⟨_,rfl⟩
  have hYl:Y.length=9:=by rw[<-hY,CV,Ah];omega
  have hD:(B++sp).drop (9+B.length)=s2:=by rw[Kr,<-KM,Ir rfl,hs12,Ir R8]
  have e3:List.take (i*9+9) (A++(B++sp))++B++List.drop (i*9+9+B.length) (A++(B++sp))=A++Y++(B++s2):=by rw[<-tf,JM,JA,List.take_append,DG Af,Bz Af,CG,CG,hD,hY];simp
  rw[e3];refine pz ?_;refine gz ?_;refine Be (F9 (l0:=i) (h0:=n+1) (m0:=cap) (off':=A.length) (n':=n+1-i) (c':=cap-i) rfl (.some rfl Af rfl) .none .none (by simp) Af Af Af (by rw[Ab Af];omega) rfl rfl) ?_;refine gz ?_;have hl3:(bl,Obj.cells (toArray ws) 100 (0,0))∈(gb,Obj.cells (toArray (A++Y++(B++s2))) 100 (0,0))::(bl,.cells (toArray ws) 100 (0,0))::F:= .tail _ (.head _);refine AR (Sj (k:=9) (m:=1) (cs:=ws) rfl rfl (by show min 1 (n+1-i)=1;omega) hw hl3 (λj u hj=>by simpa using hj) (by simp only[Ah];omega) h1) ?_;rintro _ _ ⟨rfl,rfl⟩;rw[v6 A _ _ ws (by rw[hw,hYl])];refine gz ?_;rw[hs12,Ah] at Nu;refine BD [] rfl (l':=(gb,.cells (toArray (A++ws++(B++s2))) 100 (0,0))::F) (by exact AU) (by exact Ba) ⟨[(gb,_)],⟨?_,.inr ⟨gb,cap,s2,rfl,?_,Af,UK,?_⟩⟩,rfl⟩
  ·rw[Ah,Ah];omega
  ·rw[Am (A++ws)]
  ·rw[Ah,Ah,Ah];omega
open Go.RowKit
set_option maxRecDepth 20000
theorem setFrom_mid(ys':Ap): ∀(X Y Z:Ap),ys'.length=Y.length->C8 (toArray (X++Y++Z)) X.length ys'=toArray (X++ys'++Z):=by
 induction ys' with
 |nil=>intro X Y Z h;cases Y with
  |nil=>rfl
  |cons a b=>simp at h
 |cons y r ih=>intro X Y Z h;cases Y with
  |nil=>simp at h
  |cons a b=>
   show C8 ((toArray (X++(a::b)++Z)).setIfInBounds X.length y) (X.length+1) r=_;have e1:(toArray (X++(a::b)++Z)).setIfInBounds X.length y=toArray ((X++[y])++b++Z):=by rw[Bw];congr 1;rw[Am,Cs _ _ (Bd _),DR];simp
   rw[e1,show X.length+1=(X++[y]).length by simp,ih (X++[y]) b Z (by simpa using h)];simp
end Ar
open Go.RowKit
def upd{α:Type}(f:Nat->α)(k:Nat)(v:α):Nat->α:=λi=>if i=k then v else f i
theorem DK(f:Nat->α)(k:Nat)(v:α):upd f k v k=v:=Ac rfl
theorem Dk(f:Nat->α)(k i:Nat)(v:α)(h:i≠k):upd f k v i=f i:=Ab h
def gi(f:Nat->Int)(a n:Nat):A4:=(List.range n).map λj=>f (a+j)
theorem Im(f:Nat->Int)(a n:Nat):(gi f a n).length=n:=by simp[gi]
set_option maxRecDepth 20000
theorem kG(x:Int):IntKind.u64.wrap x=x%18446744073709551616:=by simp[IntKind.wrap,IntKind.signed,IntKind.bits]
def P9(W:World):Ad:=W.heap.toList.zipIdx.map λx=>(x.2,x.1)
theorem Q6(W:World)(k:Nat)(o:Obj):(k,o)∈P9 W<->W.heap[k]?=some o:=by
 unfold P9;rw[Au];constructor
 ·rintro⟨⟨o',k'⟩,h,e⟩;cases e;have:=List.mem_zipIdx_iff_getElem?.1 h;simpa using this
 ·intro h;exact⟨(o,k),List.mem_zipIdx_iff_getElem?.2 (by simpa using h),rfl⟩
theorem qy(W:World):Sat W (P9 W) W:=by refine⟨rfl,rfl,rfl,?_,λc hc=>(Q6 W c.1 c.2).1 hc⟩;unfold P9;rw[CR];have:(Prod.fst∘λx:Obj×Nat=>(x.2,x.1))=Prod.snd:=rfl;rw[this,List.zipIdx_map_snd];exact List.nodup_range'
theorem kH{P:Program}{f:FuncId}{args:Ap}{W:World}(h:Fn P f args (P9 W) λv l'=>v= .bool true/\ ∃X,l'=X++P9 W):
 Calls P f args.toArray W λe W'=>e= .returned (.bool true)/\Below W.heap.size W W':=by
 refine(h.run W W (qy W)).mono ?_;rintro e W' ⟨v,l',rfl,⟨rfl,X,rfl⟩,hs⟩;have hb: ∀k,k<W.heap.size->W'.heap[k]?=W.heap[k]?:=λk hk=>by rw[CJ hk];exact hs.has (k,W.heap[k]) (Aa _ ((Q6 W k _).2 (CJ hk)))
 refine⟨rfl,⟨hs.os,hs.tape,hs.output,?_,hb⟩⟩;by_cases h0:W.heap.size=0
 ·omega
 ·have h1:=hb (W.heap.size-1) Af;rw[CJ (xs:=W.heap) Af] at h1;have:=(BF.1 h1).1;omega
namespace Ar
variable{i j:Nat}
abbrev MV(x:Int):Value:= .int .i64 x
structure ObT where
 id:Int
 kd:Int
 sz:Int
 fi:Int
 fr:Int
 ma:Int
 se:Int
 pg:Int
 lv:Int
deriving DecidableEq
variable{o:ObT}
abbrev obC(o:ObT):Ap:=[.int .i64 o.id,.int .i64 o.kd,.int .i64 o.sz,.int .i64 o.fi,.int .i64 o.fr,.int .i64 o.ma,.int .i64 o.se,.int .i64 o.pg,.int .i64 o.lv]
abbrev obO:ObT:=⟨0,0,0,0,0,0,0,0,0⟩
abbrev OL:=List ObT
variable{os:OL}
def ocs(os:OL):Ap:=os.flatMap obC
theorem N8(os:OL):(ocs os).length=os.length*9:=by
 induction os with
 |nil=>rfl
 |cons x r ih=>rw[show ocs (x::r)=obC x++ocs r from rfl,Ah,ih];show 9+r.length*9=(r.length+1)*9;omega
theorem MW(a b:OL):ocs (a++b)=ocs a++ocs b:=Ed ..
theorem dq(os:OL): ∀u∈ocs os,u.oneCell'=true:=by intro u hu;obtain⟨o,_,h⟩:=JB.1 hu;simp only[obC,At,BL,Ez] at h;rcases h with rfl|rfl|rfl|rfl|rfl|rfl|rfl|rfl|rfl<;>rfl
theorem PC(h:os[i]?=some o)(sp:Ap)(j:Nat)(hj:j<9):(toArray (ocs os++sp))[i*9+j]?=(obC o)[j]?:=by obtain⟨h1,h2⟩:=KV (enc:=obC) (k:=9) (λ_=>rfl) sp os i o h;rw[<-h1,GF,Ac hj,Iu,AF];rfl
theorem dr(h:os[i]?=some o)(sp:Ap):i*9+9<=(toArray (ocs os++sp)).size/\(toArray (ocs os++sp)).extract (i*9) (i*9+9)=toArray (obC o):=by obtain⟨h1,h2⟩:=KV (enc:=obC) (k:=9) (λ_=>rfl) sp os i o h;refine⟨by rw[Bt];exact h2,?_⟩;rw[E5,Cp,CG];exact BO toArray h1
theorem Yd(h:os[i]?=some o):os=os.take i++o::os.drop (i+1):=by obtain⟨hi,rfl⟩:=Ay.1 h;rw[List.getElem_cons_drop,Cj]
theorem Sk{o':ObT}(h:os[i]?=some o)(sp:Ap)(j:Nat)(v:Value)(hj:j<9)(he:(obC o).set j v=obC o'):(toArray (ocs os++sp)).setIfInBounds (i*9+j) v=toArray (ocs (os.set i o')++sp):=by
 have hi:=(Ay.1 h).1;have e1:ocs os++sp=ocs (os.take i)++(obC o++(ocs (os.drop (i+1))++sp)):=by
  conv=>lhs;rw[Yd h]
  rw[MW,show ocs (o::os.drop (i+1))=obC o++ocs (os.drop (i+1)) from rfl];simp
 have e2:ocs (os.set i o')++sp=ocs (os.take i)++(obC o'++(ocs (os.drop (i+1))++sp)):=by rw[IU,Ac hi,MW,show ocs (o'::os.drop (i+1))=obC o'++ocs (os.drop (i+1)) from rfl];simp
 have hl:(ocs (os.take i)).length=i*9:=by rw[N8,CV];omega
 rw[Bw,e1,e2,Cs _ _ Af,show i*9+j-(ocs (os.take i)).length=j by omega,Hl _ _ (by show j<9;omega),he]
def Ye(n:Int)(g:Nat->Int)(v:Value):Ap:= .int .i64 n::((gi g 0 64).map MV++[v])
theorem Wx(n:Int)(g:Nat->Int)(v:Value):(Ye n g v).length=66:=by unfold Ye;simp[Im]
theorem tU(n:Int)(g:Nat->Int)(v:Value):(toArray (Ye n g v))[0]?=some (.int .i64 n):=rfl
theorem Vu(n:Int)(g:Nat->Int)(v:Value):(toArray (Ye n g v))[65]?=some v:=by rw[AF];unfold Ye;rw[C9,AN (by simp[Im])];simp[Im]
theorem tV(n:Int)(g:Nat->Int)(v:Value)(hj:j<64):(toArray (Ye n g v))[1+j*1]?=some (.int .i64 (g j)):=by rw[AF,show 1+j*1=j+1 by omega];unfold Ye;rw[C9,AB (by simp[Im];omega),A5];simp[gi,hj]
theorem kI(n:Int)(g:Nat->Int)(v:Value)(hj:j<64)(x:Int):(toArray (Ye n g v)).setIfInBounds (1+j*1) (.int .i64 x)=toArray (Ye n (upd g j x) v):=by
 rw[Bw,show 1+j*1=j+1 by omega];unfold Ye;rw[Iv,Hl _ _ (by simp[Im];omega)];congr 3;apply Dl;intro k;rw[G8];by_cases hk:k<64
 ·by_cases e:j=k
  ·subst e;rw[Ac rfl,Ac (by simp[Im];omega)];simp[gi,hk,DK]
  ·rw[Ab e];simp[gi,hk,Dk _ _ _ _ (λh=>e h.symm)]
 ·rw[Ab Af];rw[Bf (by simp[Im];omega),Bf (by simp[Im];omega)]
theorem Yf(n:Int)(g:Nat->Int)(v u:Value):(toArray (Ye n g v)).setIfInBounds 65 u=toArray (Ye n g u):=by rw[Bw];unfold Ye;rw[Iv,Cs _ _ (by simp[Im])];simp[Im]
abbrev Tn(b:Nat)(n:Int)(g:Nat->Int)(v:Value):Bg:=(b,.cells (toArray (Ye n g v)) 316 (0,0))
structure ArT where
 n:Int
 g:Nat->Int
 os:OL
structure ArT.Ok(S:ArT):Prop where
 n1:1<=S.n
 n2:S.n<=64
 g1: ∀j,0<=S.g j/\S.g j<=1024
 asc:S.os.Pairwise λx y=>x.id<y.id
 rng: ∀x∈S.os,1<=x.id/\x.id<=65535
 num: ∀x∈S.os,0<=x.fi/\x.fi<S.n/\ ∃c:Int,0<=c/\c<S.g x.fi.toNat/\x.id=x.fi+1+64*c
theorem dt: ∀(os:OL) (a:Int),0<=a->a<=65535->(os.Pairwise λx y=>x.id<y.id)->(∀x∈os,a<x.id/\x.id<=65535)->(os.length:Int)<=65535-a
 |[],a,h0,ha,_,_=>by simp;omega
 |x::r,a,h0,ha,h,hr=>by
  obtain⟨h1,h2⟩:=Cd.1 h;have hx:=hr x (.head _);have:=dt r x.id Af Af h2 λy hy=>⟨h1 y hy,(hr y (.tail _ hy)).2⟩
  simp only[BC];omega
theorem ArT.Ok.len{S:ArT}(h:S.Ok):S.os.length<=65535:=by
 have:=dt S.os 0 Af Af h.asc λx hx=>by have:=h.rng x hx;omega
 omega
structure IsA(b:Nat)(S:ArT)(lq:Ad):Prop where
 ok:S.Ok
 ex: ∃v cs,lq=Tn b S.n S.g v::cs/\OwnSl 100 9 v S.os.length (ocs S.os) cs
end Ar
end Go.Proofs.YtlifcingifodfaaGreat
