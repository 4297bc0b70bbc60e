/- Laws that the statement's proof leans on (joined out of several texts). -/
import Derived.Test.YtlkgekpmileobaaGreatGb9
import Derived.Lib.Overlaps
import Derived.Laws.CopyRow
import Derived.Test.YtlkgekpmileobaaGreatGb8
import Derived.Test.YtlkgekpmileobaaGreatGb10
import Derived.Test.YtlkgekpmileobaaGreatGb6
import Derived.Test.YtlkgekpmileobaaGreatGb7
import Derived.Below
import Derived.Test.YtlkgekpmileobaaGreatGb1
set_option linter.unusedVariables false
set_option linter.unusedSimpArgs false
namespace Go.Proofs.YtlkgekpmileobaaGreat.Ar
open Tryz
open List(toArray replicate)
open Go.RowKit
set_option maxRecDepth 20000
variable{e yb T k n cap N gb m:Nat}{P:Program}{ro:Option Nat}{fr:Fr}{R l F:List Ab}{ty:TypeId}{pos:String}{g:Option (Nat×Bool)}{x:Operand}{p:Option Addr}
theorem Xr(w:World)(dT sT ty elem:TypeId)(i:TypeInfo)(g o dLen dCap:Nat)(a:Addr)(sLen sCap:Nat)(cur:Array Value)(t:TypeId)(cs:List Value)
 (hu:P.underlying dT=some (.slice elem))(hi:P.info? elem=some i)
 (hg:w.heap[g]?=some (.cells cur t (0,0)))(hn:cs.length=Nat.min sLen dLen*i.size)
 (hsrc: ∀j v,cs[j]?=some v->w.cell? (a.add j)=some v)(hfit:o+cs.length<=cur.size)(h1: ∀v∈cs,v.oneCell'=true):
 (Builtin.copy_ #[dT,sT] ty #[.slice (some ⟨g,o,none⟩) dLen dCap,.slice (some a) sLen sCap]).run P w=
   .ok (goInt (Nat.min sLen dLen)) (w.setRow g (cur.toList.take o++cs++cur.toList.drop (o+cs.length)).toArray):=by
 have hl:=run_firstCells_some (P:=P) (w:=w) i.size (Nat.min sLen dLen) a sLen sCap cs hn hsrc;have hst:=run_storeCells_at P g o t cs 0 cur w hg (by simpa using hfit) h1;simp only[CN] at hst;have e1:(Builtin.lenOf (.slice (some a) sLen sCap)).run P w= .ok sLen w:=rfl;have e2:(sizeOf elem).run P w= .ok i.size w:=by simp[sizeOf,typeInfo,hi]
 unfold Builtin.copy_;simp only[AE,Dc,C9,Sem.run_bind,run_underlying hu,Result.andThen_ok,e1,e2,hl,hst];rfl
theorem Pa(w:World)(t tn ty e:TypeId)(i:TypeInfo)(z:Value)(k kn:IntKind)(ht:P.underlying t=some (.slice e))(htn:P.underlying tn=some (.int kn))(hi:P.info? e=some i)(hz:i.zero=some z)
 (b:Addr)(sLen sCap:Nat)(olds:List Value)(hlo:olds.length=sLen*i.size)(holds: ∀j v,olds[j]?=some v->w.cell? (b.add j)=some v)
 (n:Nat)(h0:0<n)(hs:0<i.size)(hg:sCap<sLen+n)(h63:sLen+n<=1000000)(hby:i.bytes<=1000)(hfit:Builtin.nextslicecap (sLen+n) sCap*i.bytes<=281474976710656):
 (Builtin.append_ #[t,tn] ty #[.slice (some b) sLen sCap,.int k n]).run P w=
   .ok (.slice (some ⟨w.heap.size,0,none⟩) (sLen+n) (grownCap w (sLen+n) sCap e)) (w.drew.alloc (.cells (olds.toArray++Builtin.zeroCells z.cells n++Builtin.zeroCells z.cells (grownCap w (sLen+n) sCap e-(sLen+n))) e)):=by
 have hw:IntKind.i64.wrap (n:Int)=n:=by rw[IntKind.wrap_i64];omega
 have h48:(n:Int)*(i.bytes:Int)<=1000000000:=by have:n*i.bytes<=1000000*1000:=H9 Af hby;rw[<-Je];omega
 have h48i:¬(281474976710656<(n:Int)*(i.bytes:Int)):=by omega
 have hneg:¬((n:Int)<0):=by omega
 have hns:¬(n*i.size=0):=Nat.mul_ne_zero Af Af;have hn:¬(sLen+n<=sCap):=by omega
 have h63':¬(9223372036854775807<((sLen:Int)+(n:Int))):=by omega
 have h48':¬(281474976710656<Builtin.nextslicecap (sLen+n) sCap*i.bytes):=by omega
 have hfo:=run_firstCells_some (P:=P) (w:=w.drew) i.size sLen b sLen sCap olds hlo (by simpa using holds);simp[Builtin.append_,run_underlying ht,run_underlying htn,sizeOf,typeInfo,zeroValue,hi,hz,asInt,asIntOf,hw,hn,hneg,hns,h63',h48',h48i,Question.forced,hfo,newRow,grownCap]
section
variable{d:Option Nat}{t:TypeId}{aft:Array Edge}{y s:Operand}{off b:Nat}
theorem qT{kk:Nat}(hx:ev fr x=some (.slice p n cap))[c:ST P t e kk yb]:OpQ P ro N fr R ⟨d,.call {callee:= .builtin .cap,args:=#[x],argTypes:=#[t]},ty,pos,aft,g⟩ (.int .i64 (cap:Nat)):=BL rfl λρ l hρ _=>by obtain⟨inf,h1,_⟩:=Ev c.out;simp only[execOp,resolve,AB,Bj,invoke,builtin,Da,AJ,CY,hρ x _ hx,Builtin.cap_];show sl P (underlying t>>=_) l _;rw[BX h1];exact⟨rfl,rfl⟩
theorem Qg{T2 o sb so dLen dCap sLen sCap:Nat}{cur cs:List Value}{cl:Array Value}{ct:TypeId}{fz:Nat×Nat}(hx:ev fr x=some (.slice (some ⟨gb,o,none⟩) dLen dCap))(hy:ev fr y=some (.slice (some ⟨sb,so,none⟩) sLen sCap))[c:ST P T e k yb]
 (hm:Nat.min sLen dLen=m)(hl:cs.length=m*k)(hs:(sb,Obj.cells cl ct fz)∈(gb,.cells (toArray cur) e (0,0))::F)(hsrc: ∀j u,cs[j]?=some u->cl[so+j]?=some u)(hfit:o+cs.length<=cur.length)(h1: ∀u∈cs,u.oneCell'=true):
 OpE P ro N fr ((gb,.cells (toArray cur) e (0,0))::F) ⟨d,.call {callee:= .builtin .copy,args:=#[x,y],argTypes:=#[T,T2]},ty,pos,aft,g⟩ (λv' l'=>v'= .int .i64 (m:Nat)/\l'=(gb,.cells (toArray (cur.take o++cs++cur.drop (o+cs.length))) e (0,0))::F):=by
 subst hm;refine⟨rfl,λE a W hf hs'=>?_⟩;have hρ:=hf.agrees;obtain⟨inf,u1,u2,u3,u4⟩:=Ev c.out;have hex:execOp a.eval ⟨d,.call {callee:= .builtin .copy,args:=#[x,y],argTypes:=#[T,T2]},ty,pos,aft,g⟩=(do pure (.value (<-Builtin.copy_ #[T,T2] ty #[.slice (some ⟨gb,o,none⟩) dLen dCap,.slice (some ⟨sb,so,none⟩) sLen sCap])):Sem Next):=by simp[execOp,resolve,hρ x _ hx,hρ y _ hy,invoke,builtin]
 unfold OpVal;rw[hex,Sem.run_bind];have hr:=Xr (P:=P) W T T2 ty e inf gb o dLen dCap ⟨sb,so,none⟩ sLen sCap (toArray cur) e cs u1 u2 (hs'.has (gb,_) Ak) (by rw[u3];exact hl) (λj u hj=>by rw[Gf,hs'.cell hs];exact hsrc j u hj) (by simpa using hfit) h1;rw[hr];exact⟨_,⟨rfl,rfl⟩,hs'.row⟩
theorem aC{tn:Nat}{xs sp zs:List Value}(hx:ev fr s=some (.slice (some ⟨gb,0,none⟩) n cap))(hy:ev fr x=some (.int .i64 (m:Nat)))[c:ST P T e k yb][cz:ZV P e zs][ci:IT P tn .i64](hzs:zs.length=k)(hk:0<k)
 (hxs:xs.length=n*k)(hm0:0<m)(hroom:cap<n+m)(hn:n+m<=1000000)(hby:yb<=1000):
 OpE P ro N fr ((gb,.cells (toArray (xs++sp)) e (0,0))::F) ⟨d,.call {callee:= .builtin .append,args:=#[s,x],argTypes:=#[T,tn]},ty,pos,aft,g⟩ (λv' l'=> ∃nb cap' sp',(∀c,c∈(gb,Obj.cells (toArray (xs++sp)) e (0,0))::F->c.1≠nb)/\v'= .slice (some ⟨nb,0,none⟩) (n+m) cap'/\l'=(nb,.cells (toArray (xs++(replicate m zs).flatten++sp')) e (0,0))::(gb,.cells (toArray (xs++sp)) e (0,0))::F/\n+m<=cap'/\cap'<=maxLen/\(xs++(replicate m zs).flatten++sp').length=cap'*k):=by
 refine⟨rfl,λE a W hf hs=>?_⟩;have hρ:=hf.agrees;obtain⟨inf,u1,u2,u3,u4⟩:=Ev c.out;obtain⟨inf',zv,z1,z2,z3⟩:=I7 cz.out;rw[u2] at z1;cases z1;have hu:=QY ci.out;have hex:execOp a.eval ⟨d,.call {callee:= .builtin .append,args:=#[s,x],argTypes:=#[T,tn]},ty,pos,aft,g⟩=(do pure (.value (<-Builtin.append_ #[T,tn] ty #[.slice (some ⟨gb,0,none⟩) n cap,.int .i64 (m:Nat)])):Sem Next):=by simp[execOp,resolve,hρ s _ hx,hρ x _ hy,invoke,builtin]
 unfold OpVal;rw[hex,Sem.run_bind];have hzc:zv.cells=toArray zs:=by rw[<-z3]
 have hold: ∀j u,xs[j]?=some u->W.cell? ((⟨gb,0,none⟩:Addr).add j)=some u:=λj u hj=>by rw[Gf,hs.cell Ak,Bw];have hlt:=(Ax.1 hj).1;simp only[AE];rw[AC hlt];exact hj
 have hb2:(n+m)*yb<=140737488355328:=by have:=H9 hn hby;omega
 have hr:=Pa (P:=P) W T tn ty e inf zv .i64 .i64 u1 hu u2 z2 ⟨gb,0,none⟩ n cap xs (by rw[u3];exact hxs) hold m hm0 (by rw[u3];exact hk) hroom hn (by rw[u4];exact hby) (growslice_fits Af (by rw[u4];exact hb2));rw[hr];have hsz:=size_zeroCells zv.cells (grownCap W (n+m) cap e-(n+m));have hzm:Builtin.zeroCells zv.cells m=toArray (replicate m zs).flatten:=by unfold Builtin.zeroCells;have hk2:0<m*k:=Nat.mul_pos hm0 hk;have:=Te hzc hzs hk2;rw[show zv.cells.size=k by rw[hzc];simpa using hzs];rw[<-this,show zv.cells.size=k by rw[hzc];simpa using hzs]
 refine⟨_,⟨W.heap.size,grownCap W (n+m) cap e,(Builtin.zeroCells zv.cells (grownCap W (n+m) cap e-(n+m))).toList,λc hc=>?_,rfl,rfl,grownCap_ge _ _ _ _,grownCap_le_maxLen _ _ _ _ (by unfold maxLen;omega),?_⟩,?_⟩
 ·intro e1;have:=hs.has c hc;rw[e1] at this;simp at this
 ·have hge:=grownCap_ge W (n+m) cap e;have h1:(Builtin.zeroCells zv.cells (grownCap W (n+m) cap e-(n+m))).toList.length=(grownCap W (n+m) cap e-(n+m))*k:=by
   rw[Array.length_toList,hsz,show zv.cells.size=k by rw[hzc];simpa using hzs]
  have:(replicate m zs).flatten.length=m*k:=by simp[hzs]
  rw[Ah,Ah,hxs,h1,this,<-EM,<-EM];congr 1;omega
 ·have h2:=hs.drew.alloc (.cells (xs.toArray++Builtin.zeroCells zv.cells m++Builtin.zeroCells zv.cells (grownCap W (n+m) cap e-(n+m))) e);have e1:W.drew.heap.size=W.heap.size:=rfl;rw[e1] at h2;have e2:toArray (xs++(replicate m zs).flatten++(Builtin.zeroCells zv.cells (grownCap W (n+m) cap e-(n+m))).toList)=xs.toArray++Builtin.zeroCells zv.cells m++Builtin.zeroCells zv.cells (grownCap W (n+m) cap e-(n+m)):=by
   rw[hzm];apply BJ.1;simp
  rw[e2];exact h2
theorem Xs{f:Nat}{fn:Func}{at_:Array TypeId}{a1 o1 a2 o2 n1 c1 n2 c2:Nat}{cl1 cl2:Array Value}{t1 t2:TypeId}(hfx:ev fr s=some (.func (.func f) #[] #[]))(hx:ev fr x=some (.slice (some ⟨a1,o1,none⟩) n1 c1))(hy:ev fr y=some (.slice (some ⟨a2,o2,none⟩) n2 c2))[c:ST P T e k yb]
 (hf:P.funcs[f]?=some fn)(hfn:(fn.name== "runtime.NumGoroutine")=false)(hb:fn.body.isNone=true)(hnx:Extern.findNext fn=none)(tR:TypeId)(hext:Extern.find fn=some (Extern.SlicesOverlaps.overlaps #[T,T] #[tR]))
 (h1:(a1,Obj.cells cl1 t1 (0,0))∈R)(h2:(a2,Obj.cells cl2 t2 (0,0))∈R)(hne:a1≠a2)(h0:0<cl2.size):
 OpQ P ro N fr R ⟨d,.call {callee:= .value s,args:=#[x,y],argTypes:=at_},ty,pos,aft,g⟩ (.bool false):=by
 refine⟨λl hl=>⟨rfl,λE a W hfs hs=>?_⟩⟩;have hρ:=hfs.agrees;obtain⟨inf,u1,u2,u3,u4⟩:=Ev c.out;have k1:=hs.has _ (hl _ h1);have k2:=hs.has _ (hl _ h2);simp only at k1 k2;have hr:=Lib.run_overlaps_apart (P:=P) W T tR e u1 inf.size (λw=>by simp[sizeOf,typeInfo,u2]) ⟨a1,o1,none⟩ ⟨a2,o2,none⟩ n1 c1 n2 c2 hne t1 t2 cl1.size cl2.size (by simp[World.shape?,k1]) (by simp[World.shape?,k2]) Af (by simp[World.frozen?,k1]) (by simp[World.frozen?,k1]);have hc:=run_callFunc_extern (P:=P) hf hfn hb hnx hext #[.slice (some ⟨a1,o1,none⟩) n1 c1,.slice (some ⟨a2,o2,none⟩) n2 c2] W;unfold OpVal;have hex:(execOp a.eval ⟨d,.call {callee:= .value s,args:=#[x,y],argTypes:=at_},ty,pos,aft,g⟩).run P W= .ok (.value (.bool false)) W:=by simp only[execOp,resolve,Da,AJ,CY,hρ s _ hfx,hρ x _ hx,hρ y _ hy,Deferred.ofValue,Sem.run_bind];simp only[Sem.run_pure,Result.andThen,invoke];simp only[JB,JC];rw[hc,hr];rfl
 rw[hex];exact⟨_,⟨rfl,rfl⟩,hs⟩
end
section
variable{d:Option Nat}{aft:Array Edge}
theorem dO{lo hi mx:Option Operand}{l0 h0 m0 n' c':Nat}(hx:ev fr x=some (.slice p n cap))[c:ST P T e k yb](hl:YY fr lo 0 l0)(hh:YY fr hi n h0)(hm:YY fr mx cap m0)(hno:mx.isSome=true->hi.isSome=true)(h1:l0<=h0)(h2:h0<=m0)(h3:m0<=cap)
 (hn:h0-l0=n')(hc:m0-l0=c'):OpQ P ro N fr R ⟨d,.slice T x lo hi mx,ty,pos,aft,g⟩ (.slice (if m0=l0 then p else p.map (·.add (l0*k))) n' c'):=BL rfl λρ l hρ _=>by
 obtain⟨inf,u1,u2,u3,_⟩:=Ev c.out;subst hn hc;simp only[execOp,hρ x _ hx];rw[AB];unfold Instr.sliceAt;rw[BX u1];show sl P (Instr.slice T _ _ _ _) l _;unfold Instr.slice;rw[BX u1];simp only[AB];rw[JM hρ hl hh hm hno h1 h2 h3];simp only;rw[GG u2];simp only[Bj,u3];simp
end
theorem tC:prog.funcs[241]?=some Tryz.f241:=func241
theorem tD:(Tryz.f241.name== "runtime.NumGoroutine")=false:=Bv
theorem tE:Tryz.f241.body.isNone=true:=Bv
theorem tF:Extern.findNext Tryz.f241=none:=Bv
theorem tH:Extern.find Tryz.f241=some (Extern.SlicesOverlaps.overlaps #[43,43] #[4]):=Bv
theorem nO(A X Y cs:List Value)(h:cs.length=X.length):(A++X++Y).take A.length++cs++(A++X++Y).drop (A.length+cs.length)=A++cs++Y:=by
 rw[h];have e1:(A++X++Y).take A.length=A:=by rw[Al,F8 rfl]
 have e2:(A++X++Y).drop (A.length+X.length)=Y:=by rw[<-Ah,Hu rfl]
 rw[e1,e2]
abbrev iL:List Value:=[.int .i64 0,.int .i64 0,.int .i64 0,.int .i64 0,.int .i64 0,.int .i64 0,.int .i64 0,.int .i64 0,.int .i64 0]
set_option maxHeartbeats 400000
theorem Xt(v:Value)(n i bl:Nat)(xs ws:List Value)(cs F:List Ab)(ho:OwnSl 100 9 v n xs cs)(hi:i<=n)(hw:ws.length=9)(h1: ∀u∈ws,u.oneCell'=true)(hx1: ∀u∈xs,u.oneCell'=true)(hne: ∀c,c∈cs->c.1≠bl)(hn:n<=90000):
 Fn prog 183 [v,.int .i64 (i:Nat),.slice (some ⟨bl,0,none⟩) 1 1] ((bl,.cells (toArray ws) 100 (0,0))::(cs++F)) λv' l'=> ∃c2,OwnSl 100 9 v' (n+1) (xs.take (i*9)++ws++xs.drop (i*9)) c2/\l'=c2++F:=by
 obtain⟨p,cap,hv,hnc⟩: ∃p cap,v= .slice p n cap/\n<=cap:=by
  rcases ho.2 with⟨h,h0,_⟩|⟨b,cap,sp,h,_,h2,_⟩
  ·exact⟨none,0,by rw[h,h0],Af⟩
  ·exact⟨_,cap,h,h2⟩
 subst hv;refine AO func183 ntmps183 λE=>?_;refine gz ?_;refine Bc (dO (l0:=i) (h0:=n) (m0:=cap) rfl (.some rfl Af rfl) .none .none (by simp) hi hnc Af rfl rfl) ?_;refine gz ?_;by_cases hin:i=n
 ·subst hin;refine gz ?_;refine AS (GI (k:=9) (X:=[]) (cs:=cs) (F:=F) (xs:=xs) (n:=i) (ws:=ws) (zs:=iL) rfl rfl rfl ho hw h1 Af AW) ?_;rintro v' _ ⟨c2,ho2,rfl⟩;have hv1:v'.oneCell'=true:=ho2.one;refine gz ?_;refine A8 (l':=c2++F) .refl ⟨c2,?_,rfl⟩;rw[Bz (by rw[ho.1];omega),Dj (by rw[ho.1];omega),Be];exact ho2
 refine gz ?_;rcases ho.2 with⟨h,h0,_⟩|⟨gb,cap',sp,h,rfl,h2,hcm,hcl⟩
 ·omega
 cases h;have hxl:xs.length=n*9:=ho.1;obtain⟨A,hA⟩: ∃A,xs.take (i*9)=A:=⟨_,rfl⟩
 obtain⟨B,hB⟩: ∃B,xs.drop (i*9)=B:=⟨_,rfl⟩
 have hAB:xs=A++B:=by rw[<-hA,<-hB,Cb]
 have hAl:A.length=i*9:=by rw[<-hA,BU];omega
 have hBl:B.length=(n-i)*9:=by rw[<-hB,DK];omega
 have hB1: ∀u∈B,u.oneCell'=true:=λu hu=>hx1 u (by rw[hAB];exact Aa _ hu);rw[hA,hB];have hgb:gb≠bl:=hne _ (.head _);rw[show xs++sp=A++(B++sp) by rw[hAB,Al]] at hcl⊢;rw[Ah,Ah] at hcl;simp only[Ad,Ag];refine Bc (qT rfl) ?_;refine gz ?_;by_cases hroom:cap<n+1
 ·refine gz ?_;refine Bc (Fu (l0:=0) (h0:=i) (m0:=cap) (off':=0) (n':=i) (c':=cap) rfl .none (.some rfl Af rfl) .none (by simp) Af Af Af (by simp) Af Af) ?_;refine gz ?_;refine Bk (Keep.of_perm (l':=(gb,.cells (toArray (A++(B++sp))) 100 (0,0))::((bl,.cells (toArray ws) 100 (0,0))::F)) (List.Perm.swap ..)) ?_;refine AS (aC (k:=9) (n:=i) (m:=n+1-i) (gb:=gb) (cap:=cap) (xs:=A) (sp:=B++sp) (zs:=iL) (F:=(bl,.cells (toArray ws) 100 (0,0))::F) rfl ?_ rfl Af hAl Af Af Af AW) ?_
  ·show some (Value.int .i64 _)=_;congr 2;omega
  rintro _ _ ⟨nb,cap2,sp2,hnb,rfl,rfl,hc1,hc2,hc3⟩;rw[show i+(n+1-i)=n+1 by omega] at hc1⊢;obtain⟨Z,hZ⟩: ∃Z,(replicate (n+1-i) iL).flatten=Z:=⟨_,rfl⟩
  have hZl:Z.length=9+B.length:=by rw[<-hZ,hBl];simp;omega
  rw[hZ] at hc3⊢;have e0:A++Z++sp2=A++Z.take 9++(Z.drop 9++sp2):=by rw[Al,Al,<-Al (Z.take 9),Cb]
  have hZ9:(Z.take 9).length=9:=by rw[BU];omega
  have hZd:(Z.drop 9).length=B.length:=by rw[DK];omega
  rw[Ah,Ah] at hc3;refine gz ?_;refine Bc (Fu (l0:=i) (h0:=n+1) (m0:=cap2) (off':=A.length) (n':=n+1-i) (c':=cap2-i) rfl (.some rfl Af rfl) .none .none (by simp) Af Af Af (by rw[Ac Af];omega) rfl rfl) ?_;refine gz ?_;have hl1:(bl,Obj.cells (toArray ws) 100 (0,0))∈(nb,Obj.cells (toArray (A++Z++sp2)) 100 (0,0))::(gb,.cells (toArray (A++(B++sp))) 100 (0,0))::(bl,.cells (toArray ws) 100 (0,0))::F:= .tail _ (.tail _ (.head _));refine AS (Qg (k:=9) (m:=1) (cs:=ws) rfl rfl (by show min 1 (n+1-i)=1;omega) hw hl1 (λj u hj=>by simpa using hj) (by simp only[Ah];omega) h1) ?_;rintro _ _ ⟨rfl,rfl⟩;rw[e0,nO A _ _ ws (by rw[hw,hZ9])];refine gz ?_;have hAw:(A++ws).length=i*9+9:=by rw[Ah];omega
  have hl2:(gb,Obj.cells (toArray (A++(B++sp))) 100 (0,0))∈(nb,Obj.cells (toArray (A++ws++(Z.drop 9++sp2))) 100 (0,0))::(gb,.cells (toArray (A++(B++sp))) 100 (0,0))::(bl,.cells (toArray ws) 100 (0,0))::F:= .tail _ (.head _);refine Ce [8] 9 ([]) ?_;refine pz ?_;apply D7
  ·exact Fu (l0:=i+1) (h0:=n+1) (m0:=cap2) (off':=i*9+9) (n':=n-i) (c':=cap2-(i+1)) rfl (.some rfl Af rfl) .none .none (by simp) Af Af Af (by rw[Ac Af];omega) Af rfl
  ·rfl
  ·rfl
  ·rfl
  refine pz ?_;apply D7
  ·exact Fu (l0:=i) (h0:=n) (m0:=cap) (off':=i*9) (n':=n-i) (c':=cap-i) rfl (.some rfl Af rfl) .none .none (by simp) Af Af Af (by rw[Ac Af];omega) rfl rfl
  ·rfl
  ·rfl
  ·rfl
  refine pz ?_;apply CE
  ·apply Qg (k:=9) (m:=n-i) (cs:=B) (cur:=A++ws++(Z.drop 9++sp2))
   ·rfl
   ·rfl
   ·exact Nat.min_self _
   ·omega
   ·exact hl2
   ·intro j u hj;have hjl:=(Ax.1 hj).1;rw[AE,AP Af,hAl,show i*9+j-i*9=j by omega,AC hjl];exact hj
   ·rw[Ah,Ah,Ah,hw,hAl,hZd];omega
   ·exact hB1
  ·rfl
  ·rfl
  ·rfl
  ·intro _ _ _ c hc;cases hc
  rintro _ _ ⟨rfl,rfl⟩;have e3:List.take (i*9+9) (A++ws++(List.drop 9 Z++sp2))++B++List.drop (i*9+9+B.length) (A++ws++(List.drop 9 Z++sp2))=A++ws++B++sp2:=by have:=nO (A++ws) (Z.drop 9) sp2 B hZd.symm;rw[hAw,Al (A++ws) (Z.drop 9) sp2] at this;exact this
  rw[e3];refine pz ?_;refine gz ?_;refine A8 (l':=(nb,.cells (toArray (A++ws++B++sp2)) 100 (0,0))::F) (by exact AR) ⟨[(nb,_)],⟨?_,.inr ⟨nb,cap2,sp2,rfl,rfl,hc1,hc2,?_⟩⟩,rfl⟩
  ·rw[Ah,hAw];omega
  ·rw[Ah,Ah,hAw];omega
 ·obtain⟨s1,s2,hs12,hs1⟩: ∃s1 s2,sp=s1++s2/\s1.length=9:=⟨sp.take 9,sp.drop 9,(Cb ..).symm,by rw[BU];omega⟩
  refine gz ?_;refine Bc (Fu (l0:=0) (h0:=n+1) (m0:=cap) (off':=0) (n':=n+1) (c':=cap) rfl .none (.some rfl Af Af) .none (by simp) Af Af Af (by simp) Af Af) ?_;refine gz ?_;refine Bc (Fu (l0:=i+1) (h0:=n+1) (m0:=cap) (off':=i*9+9) (n':=n-i) (c':=cap-(i+1)) rfl (.some rfl Af rfl) .none .none (by simp) Af Af Af (by rw[Ac Af];omega) Af rfl) ?_;refine gz ?_;have hl2:(gb,Obj.cells (toArray (A++(B++sp))) 100 (0,0))∈(bl,.cells (toArray ws) 100 (0,0))::(gb,Obj.cells (toArray (A++(B++sp))) 100 (0,0))::F:= .tail _ (.head _);refine Bc (Xs (cl1:=toArray ws) (cl2:=toArray (A++(B++sp))) rfl rfl rfl tC tD tE tF 4 tH (.head _) hl2 (λh=>hgb h.symm) (by simp;omega)) ?_;refine Bk (Keep.of_perm (l':=(gb,.cells (toArray (A++(B++sp))) 100 (0,0))::((bl,.cells (toArray ws) 100 (0,0))::F)) (List.Perm.swap ..)) ?_;refine gz ?_;refine Ce [8] 9 ([]) ?_;refine pz ?_;apply D7
  ·exact Fu (l0:=i+1) (h0:=n+1) (m0:=cap) (off':=i*9+9) (n':=n-i) (c':=cap-(i+1)) rfl (.some rfl Af rfl) .none .none (by simp) Af Af Af (by rw[Ac Af];omega) Af rfl
  ·rfl
  ·rfl
  ·rfl
  refine pz ?_;apply D7
  ·exact Fu (l0:=i) (h0:=n+1) (m0:=cap) (off':=i*9) (n':=n+1-i) (c':=cap-i) rfl (.some rfl Af rfl) .none .none (by simp) Af Af Af (by rw[Ac Af];omega) rfl rfl
  ·rfl
  ·rfl
  ·rfl
  refine pz ?_;apply CE
  ·apply Qg (k:=9) (m:=n-i) (cs:=B) (cur:=A++(B++sp))
   ·rfl
   ·rfl
   ·show min (n+1-i) (n-i)=n-i;omega
   ·omega
   ·exact .head _
   ·intro j u hj;have hjl:=(Ax.1 hj).1;rw[AE,AP Af,hAl,show i*9+j-i*9=j by omega,AC hjl];exact hj
   ·rw[Ah,Ah,hAl];omega
   ·exact hB1
  ·rfl
  ·rfl
  ·rfl
  ·intro _ _ _ c hc;cases hc
  rintro _ _ ⟨rfl,rfl⟩;obtain⟨Y,hY⟩: ∃Y,(B++sp).take 9=Y:=⟨_,rfl⟩
  have hYl:Y.length=9:=by rw[<-hY,BU,Ah];omega
  have hD:(B++sp).drop (9+B.length)=s2:=by rw[Js,<-JI,Hu rfl,hs12,Hu hs1]
  have e3:List.take (i*9+9) (A++(B++sp))++B++List.drop (i*9+9+B.length) (A++(B++sp))=A++Y++(B++s2):=by rw[<-hAl,IP,IC,List.take_append,Dj Af,Bz Af,CP,CP,hD,hY];simp
  rw[e3];refine pz ?_;refine gz ?_;refine Bc (Fu (l0:=i) (h0:=n+1) (m0:=cap) (off':=A.length) (n':=n+1-i) (c':=cap-i) rfl (.some rfl Af rfl) .none .none (by simp) Af Af Af (by rw[Ac Af];omega) rfl rfl) ?_;refine gz ?_;have hl3:(bl,Obj.cells (toArray ws) 100 (0,0))∈(gb,Obj.cells (toArray (A++Y++(B++s2))) 100 (0,0))::(bl,.cells (toArray ws) 100 (0,0))::F:= .tail _ (.head _);refine AS (Qg (k:=9) (m:=1) (cs:=ws) rfl rfl (by show min 1 (n+1-i)=1;omega) hw hl3 (λj u hj=>by simpa using hj) (by simp only[Ah];omega) h1) ?_;rintro _ _ ⟨rfl,rfl⟩;rw[nO A _ _ ws (by rw[hw,hYl])];refine gz ?_;rw[hs12,Ah] at hcl;refine By [] rfl (l':=(gb,.cells (toArray (A++ws++(B++s2))) 100 (0,0))::F) (by exact AR) (by exact A7) ⟨[(gb,_)],⟨?_,.inr ⟨gb,cap,s2,rfl,?_,Af,hcm,?_⟩⟩,rfl⟩
  ·rw[Ah,Ah];omega
  ·rw[Al (A++ws)]
  ·rw[Ah,Ah,Ah];omega
theorem setFrom_mid(ys':List Value): ∀(X Y Z:List Value),ys'.length=Y.length->CO (toArray (X++Y++Z)) X.length ys'=toArray (X++ys'++Z):=by
 induction ys' with
 |nil=>intro X Y Z h;cases Y with
  |nil=>rfl
  |cons a b=>simp at h
 |cons y r ih=>intro X Y Z h;cases Y with
  |nil=>simp at h
  |cons a b=>
   show CO ((toArray (X++(a::b)++Z)).setIfInBounds X.length y) (X.length+1) r=_;have e1:(toArray (X++(a::b)++Z)).setIfInBounds X.length y=toArray ((X++[y])++b++Z):=by rw[Bq];congr 1;rw[Al,Cg _ _ (A5 _),Dr];simp
   rw[e1,show X.length+1=(X++[y]).length by simp,ih (X++[y]) b Z (by simpa using h)];simp
end Go.Proofs.YtlkgekpmileobaaGreat.Ar
namespace Go.Proofs.YtlkgekpmileobaaGreat
open Tryz
open List(toArray replicate)
open Go.RowKit
variable{α:Type}
def upd{α:Type}(f:Nat->α)(k:Nat)(v:α):Nat->α:=λi=>if i=k then v else f i
theorem DB(f:Nat->α)(k:Nat)(v:α):upd f k v k=v:=Ae rfl
theorem C3(f:Nat->α)(k i:Nat)(v:α)(h:i≠k):upd f k v i=f i:=Ac h
def aD(f:Nat->Int)(a n:Nat):List Int:=(List.range n).map λj=>f (a+j)
theorem Ho(f:Nat->Int)(a n:Nat):(aD f a n).length=n:=by simp[aD]
set_option maxRecDepth 20000
theorem dP(x:Int):IntKind.u64.wrap x=x%18446744073709551616:=by simp[IntKind.wrap,IntKind.signed,IntKind.bits]
def Ot(W:World):List Ab:=W.heap.toList.zipIdx.map λx=>(x.2,x.1)
theorem Pb(W:World)(k:Nat)(o:Obj):(k,o)∈Ot W<->W.heap[k]?=some o:=by
 unfold Ot;rw[Au];constructor
 ·rintro⟨⟨o',k'⟩,h,e⟩;cases e;have:=List.mem_zipIdx_iff_getElem?.1 h;simpa using this
 ·intro h;exact⟨(o,k),List.mem_zipIdx_iff_getElem?.2 (by simpa using h),rfl⟩
theorem js(W:World):Sat W (Ot W) W:=by refine⟨rfl,rfl,rfl,?_,λc hc=>(Pb W c.1 c.2).1 hc⟩;unfold Ot;rw[CD];have:(Prod.fst∘λx:Obj×Nat=>(x.2,x.1))=Prod.snd:=rfl;rw[this,List.zipIdx_map_snd];exact List.nodup_range'
theorem dQ{P:Program}{f:FuncId}{args:List Value}{W:World}(h:Fn P f args (Ot W) λv l'=>v= .bool true/\ ∃X,l'=X++Ot W):
 Calls P f args.toArray W λe W'=>e= .returned (.bool true)/\Below W.heap.size W W':=by
 refine(h.run W W (js W)).mono ?_;rintro e W' ⟨v,l',rfl,⟨rfl,X,rfl⟩,hs⟩;have hb: ∀k,k<W.heap.size->W'.heap[k]?=W.heap[k]?:=λk hk=>by rw[Cw hk];exact hs.has (k,W.heap[k]) (Aa _ ((Pb W k _).2 (Cw hk)))
 refine⟨rfl,⟨hs.os,hs.tape,hs.output,?_,hb⟩⟩;by_cases h0:W.heap.size=0
 ·omega
 ·have h1:=hb (W.heap.size-1) Af;rw[Cw (xs:=W.heap) Af] at h1;have:=(BA.1 h1).1;omega
end Go.Proofs.YtlkgekpmileobaaGreat
namespace Go.Proofs.YtlkgekpmileobaaGreat.Ar
open Tryz
open List(toArray replicate)
open Go.RowKit
set_option maxRecDepth 20000
variable{i j:Nat}
abbrev Lu(x:Int):Value:= .int .i64 x
structure ObT where
 id:Int
 kd:Int
 sz:Int
 fi:Int
 fr:Int
 ma:Int
 se:Int
 pg:Int
 lv:Int
deriving DecidableEq
variable{o:ObT}
abbrev obC(o:ObT):List Value:=[.int .i64 o.id,.int .i64 o.kd,.int .i64 o.sz,.int .i64 o.fi,.int .i64 o.fr,.int .i64 o.ma,.int .i64 o.se,.int .i64 o.pg,.int .i64 o.lv]
abbrev obO:ObT:=⟨0,0,0,0,0,0,0,0,0⟩
abbrev OL:=List ObT
variable{os:OL}
def ocs(os:OL):List Value:=os.flatMap obC
theorem MD(os:OL):(ocs os).length=os.length*9:=by
 induction os with
 |nil=>rfl
 |cons x r ih=>rw[show ocs (x::r)=obC x++ocs r from rfl,Ah,ih];show 9+r.length*9=(r.length+1)*9;omega
theorem Lv(a b:OL):ocs (a++b)=ocs a++ocs b:=DL ..
theorem Za(os:OL): ∀u∈ocs os,u.oneCell'=true:=by intro u hu;obtain⟨o,_,h⟩:=ID.1 hu;simp only[obC,Aq,BK,Ec] at h;rcases h with rfl|rfl|rfl|rfl|rfl|rfl|rfl|rfl|rfl<;>rfl
theorem NY(h:os[i]?=some o)(sp:List Value)(j:Nat)(hj:j<9):(toArray (ocs os++sp))[i*9+j]?=(obC o)[j]?:=by obtain⟨h1,h2⟩:=JN (enc:=obC) (k:=9) (λ_=>rfl) sp os i o h;rw[<-h1,EY,Ae hj,JE,AE];rfl
theorem Zb(h:os[i]?=some o)(sp:List Value):i*9+9<=(toArray (ocs os++sp)).size/\(toArray (ocs os++sp)).extract (i*9) (i*9+9)=toArray (obC o):=by obtain⟨h1,h2⟩:=JN (enc:=obC) (k:=9) (λ_=>rfl) sp os i o h;refine⟨by rw[Bm];exact h2,?_⟩;rw[Fs,Cx,CP];exact BM toArray h1
theorem VG(h:os[i]?=some o):os=os.take i++o::os.drop (i+1):=by obtain⟨hi,rfl⟩:=Ax.1 h;rw[List.getElem_cons_drop,Cb]
theorem Qh{o':ObT}(h:os[i]?=some o)(sp:List Value)(j:Nat)(v:Value)(hj:j<9)(he:(obC o).set j v=obC o'):(toArray (ocs os++sp)).setIfInBounds (i*9+j) v=toArray (ocs (os.set i o')++sp):=by
 have hi:=(Ax.1 h).1;have e1:ocs os++sp=ocs (os.take i)++(obC o++(ocs (os.drop (i+1))++sp)):=by
  conv=>lhs;rw[VG h]
  rw[Lv,show ocs (o::os.drop (i+1))=obC o++ocs (os.drop (i+1)) from rfl];simp
 have e2:ocs (os.set i o')++sp=ocs (os.take i)++(obC o'++(ocs (os.drop (i+1))++sp)):=by rw[HV,Ae hi,Lv,show ocs (o'::os.drop (i+1))=obC o'++ocs (os.drop (i+1)) from rfl];simp
 have hl:(ocs (os.take i)).length=i*9:=by rw[MD,BU];omega
 rw[Bq,e1,e2,Cg _ _ Af,show i*9+j-(ocs (os.take i)).length=j by omega,GA _ _ (by show j<9;omega),he]
def VH(n:Int)(g:Nat->Int)(v:Value):List Value:= .int .i64 n::((aD g 0 64).map Lu++[v])
theorem Uo(n:Int)(g:Nat->Int)(v:Value):(VH n g v).length=66:=by unfold VH;simp[Ho]
theorem mm(n:Int)(g:Nat->Int)(v:Value):(toArray (VH n g v))[0]?=some (.int .i64 n):=rfl
theorem Ti(n:Int)(g:Nat->Int)(v:Value):(toArray (VH n g v))[65]?=some v:=by rw[AE];unfold VH;rw[C9,AP (by simp[Ho])];simp[Ho]
theorem mn(n:Int)(g:Nat->Int)(v:Value)(hj:j<64):(toArray (VH n g v))[1+j*1]?=some (.int .i64 (g j)):=by rw[AE,show 1+j*1=j+1 by omega];unfold VH;rw[C9,AC (by simp[Ho];omega),A0];simp[aD,hj]
theorem dR(n:Int)(g:Nat->Int)(v:Value)(hj:j<64)(x:Int):(toArray (VH n g v)).setIfInBounds (1+j*1) (.int .i64 x)=toArray (VH n (upd g j x) v):=by
 rw[Bq,show 1+j*1=j+1 by omega];unfold VH;rw[Hx,GA _ _ (by simp[Ho];omega)];congr 3;apply Dq;intro k;rw[Ke];by_cases hk:k<64
 ·by_cases e:j=k
  ·subst e;rw[Ae rfl,Ae (by simp[Ho];omega)];simp[aD,hk,DB]
  ·rw[Ac e];simp[aD,hk,C3 _ _ _ _ (λh=>e h.symm)]
 ·rw[Ac Af];rw[Bb (by simp[Ho];omega),Bb (by simp[Ho];omega)]
theorem VI(n:Int)(g:Nat->Int)(v u:Value):(toArray (VH n g v)).setIfInBounds 65 u=toArray (VH n g u):=by rw[Bq];unfold VH;rw[Hx,Cg _ _ (by simp[Ho])];simp[Ho]
abbrev Q8(b:Nat)(n:Int)(g:Nat->Int)(v:Value):Ab:=(b,.cells (toArray (VH n g v)) 317 (0,0))
structure ArT where
 n:Int
 g:Nat->Int
 os:OL
structure ArT.Ok(S:ArT):Prop where
 n1:1<=S.n
 n2:S.n<=64
 g1: ∀j,0<=S.g j/\S.g j<=1024
 asc:S.os.Pairwise λx y=>x.id<y.id
 rng: ∀x∈S.os,1<=x.id/\x.id<=65535
 num: ∀x∈S.os,0<=x.fi/\x.fi<S.n/\ ∃c:Int,0<=c/\c<S.g x.fi.toNat/\x.id=x.fi+1+64*c
theorem Zc: ∀(os:OL) (a:Int),0<=a->a<=65535->(os.Pairwise λx y=>x.id<y.id)->(∀x∈os,a<x.id/\x.id<=65535)->(os.length:Int)<=65535-a
 |[],a,h0,ha,_,_=>by simp;omega
 |x::r,a,h0,ha,h,hr=>by
  obtain⟨h1,h2⟩:=BY.1 h;have hx:=hr x (.head _);have:=Zc r x.id Af Af h2 λy hy=>⟨h1 y hy,(hr y (.tail _ hy)).2⟩
  simp only[Bi];omega
theorem ArT.Ok.len{S:ArT}(h:S.Ok):S.os.length<=65535:=by
 have:=Zc S.os 0 Af Af h.asc λx hx=>by have:=h.rng x hx;omega
 omega
structure IsA(b:Nat)(S:ArT)(lq:List Ab):Prop where
 ok:S.Ok
 ex: ∃v cs,lq=Q8 b S.n S.g v::cs/\OwnSl 100 9 v S.os.length (ocs S.os) cs
end Go.Proofs.YtlkgekpmileobaaGreat.Ar
