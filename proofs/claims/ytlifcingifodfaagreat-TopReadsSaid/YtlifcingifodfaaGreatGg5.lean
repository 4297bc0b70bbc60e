/- Laws that the statement's proof leans on (joined out of several texts). -/
import Derived.Test.YtlifcingifodfaaGreatGg4
import Derived.Lib.Overlaps
import Derived.Laws.CopyRow
set_option maxHeartbeats 4000000
set_option linter.unusedVariables false
set_option linter.unusedSimpArgs false
namespace Go.Proofs.YtlifcingifodfaaGreat
open Tryz
open List(toArray replicate)
open Go.RowKit
variable{A B:Ac}{P:Program}{f:FuncId}{args:Ap}{α:Type}
theorem BX(h: ∀(f:Ac->Nat) (g:Bd->Nat),f []=0->(∀x l,f (x::l)=g x+f l)->(∀x y,f (x++y)=f x+f y)->f A=f B:=by intro f g h0 h1 h2;simp only[CX,AJ,h0,h1,h2];try omega):A.Perm B:=by
 classical
 refine List.perm_iff_count.2 λa=>h (λl=>List.count a l) (λx=>List.count a [x]) rfl (λx l=>?_) (λx y=>List.count_append);rw[show x::l=[x]++l from rfl,List.count_append]
theorem A8(X:Ac)(h: ∀(f:Ac->Nat) (g:Bd->Nat),f []=0->(∀x l,f (x::l)=g x+f l)->(∀x y,f (x++y)=f x+f y)->f A=f (X++B):=by intro f g h0 h1 h2;simp only[CX,AJ,h0,h1,h2];try omega):Keep A B:=⟨X,BX h⟩
theorem Fn.mvP{F:Ac}{Kv:Value->Prop}{I:Ac->Prop}(Γ:Ac->Ac)(h:Fn P f args (A++F) λv l'=>Kv v/\ ∃A',I A'/\l'=A'++F)
 (hΓ: ∀A,(Γ A).Perm (A++F):=by intro A;exact BX):Fn P f args (Γ A) λv l'=>Kv v/\ ∃A',I A'/\l'=Γ A':=
 Fn.re (.of_perm (hΓ A)) h λv l' ⟨h1,A',h2,h3⟩=>⟨_,by rw[h3];exact .of_perm (hΓ A').symm,h1,A',h2,rfl⟩
set_option maxRecDepth 20000
abbrev pV(b:Nat):Value:= .pointer (some ⟨b,0,none⟩)
abbrev TA(b:Nat)(v:Value):Bd:=(b,.cells (toArray [v]) 282 (0,0))
structure MJ where
 sp:Int
 pg:Int
 fr:Int
 rd:Bool
 wr:Bool
deriving DecidableEq
abbrev Re(t:MJ):Ap:=[.int .i64 t.sp,.int .i64 t.pg,.int .i64 t.fr,.bool t.rd,.bool t.wr]
abbrev Q3:MJ:=⟨0,0,0,false,false⟩
structure LC where
 w:Nat->MJ
 d:Nat->Int
def gR(T:LC)(s:Nat):Ap:=Re (T.w (2*s))++(Re (T.w (2*s+1))++[.int .i64 (T.d s)])
def Sz(T:LC):Ap:=gR T 0++(gR T 1++(gR T 2++gR T 3))
abbrev N0(b:Nat)(T:LC):Bd:=(b,.cells (toArray (Sz T)) 399 (0,0))
structure HX where
 ro:Int
 sp:Int
 tb:LC
abbrev Qj(c:HX×Nat):Ap:=[.int .i64 c.1.ro,.int .i64 c.1.sp,pV c.2]
def GI(ks:List (HX×Nat)):Ac:=ks.map λc=>N0 c.2 c.1.tb
def IsCos(b:Nat)(K:List HX)(lq:Ac):Prop:= ∃v cs ks,ks.map Prod.fst=K/\OwnSl 309 3 v ks.length (ks.flatMap Qj) cs/\(∀c,c∈ks-> ∀s,s<4->c.1.tb.d s=0\/c.1.tb.d s=1)/\lq=TA b v::(cs++GI ks)
abbrev tbZ:LC:=⟨λ_=>Q3,λ_=>0⟩
abbrev Z0:HX:=⟨-1,0,tbZ⟩
theorem lz(l:Ac):Fn prog 177 [] l λv l'=> ∃b,v= .pointer (some ⟨b,0,none⟩)/\l'=N0 b tbZ::l:=by refine AN func177 ntmps177 λE=>?_;refine AQ λb=>?_;exact Bb .refl ⟨_,rfl,rfl⟩
def Aby(b n:Nat)(lq:Ac):Prop:=IsCos b (replicate n Z0) lq
theorem lB(n:Nat)(h1:1<=n)(h2:n<=3)(l:Ac):Fn prog 127 [.int .i64 (n:Nat)] l λv l'=> ∃b,v= .tuple #[.pointer (some ⟨b,0,none⟩),.int .i64 0]/\ ∃lq X,Aby b n lq/\l'=lq++(X++l):=by
 refine AN func127 ntmps127 λE=>?_;refine AQ λb=>?_;refine CN (α:=Nat×Value×List Nat×Ac) (λx=>[(4,.pointer (some ⟨b,0,none⟩)),(13,.int .i64 n),(14,.int .i64 x.1)]) (λx=>TA b x.2.1::(x.2.2.2++(GI (x.2.2.1.map λc=>(Z0,c))++l)))
  (λx=>x.1<=n/\x.2.2.1.length=x.1/\OwnSl 309 3 x.2.1 x.1 ((x.2.2.1.map λc=>(Z0,c)).flatMap Qj) x.2.2.2) (λx=>n-x.1) (0,.slice none 0 0,[],[]) ⟨Bp _,rfl,OwnSl.nil _ _⟩ ⟨rfl,rfl,rfl,trivial⟩ .refl ?_
 rintro⟨i,v,bs,cs⟩ ⟨hi,hbs,ho⟩;simp only at hi hbs ho⊢;have Jz:v.oneCell'=true:=ho.one;by_cases C9:i<n
 ·refine Aj ?_;refine Cm [5,7,8,11] 12 ([]) ?_;refine BM ?_;apply Gp (S:=[TA b v]);(·exact Vb);(·exact C7 (.head _));(·rfl);(·rfl);(·rfl);refine BM ?_;apply G9
  ·exact Az rfl rfl (lz _)
  ·rfl
  ·rfl
  ·rfl
  ·intro _ _ _ c hc;cases hc
  ·rintro _ _ ⟨_,_,rfl⟩ x hx _ c hc;rw[AC.1 hx] at hc;rw[AC.1 hc];exact .tail _ (.head _)
  rintro _ _ ⟨bt,rfl,rfl⟩;refine BM ?_;apply G9
  ·exact FE (k:=3) (zs:=[.int .i64 0,.int .i64 0,.pointer none]) rfl rfl rfl AX AX
  ·rfl
  ·rfl
  ·rfl
  ·intro _ _ _ c hc;cases hc
  ·rintro _ _ ⟨_,_,_,rfl⟩ x hx _ c hc;rw[AC.1 hx] at hc;rw[AC.1 hc];exact .tail _ (.tail _ (.head _))
  rintro _ _ ⟨bl,_,rfl,rfl⟩;refine BM ?_;apply G9
  ·exact Hz (k:=3) (X:=[_,_]) (cs:=cs) (F:=GI (bs.map λc=>(Z0,c))++l) (n:=i) (xs:=(bs.map λc=>(Z0,c)).flatMap Qj) (zs:=[.int .i64 0,.int .i64 0,.pointer none]) rfl rfl rfl ho rfl (by simp[Value.oneCell']) Af AX
  (·rfl);(·rfl);(·rfl);(·intro _ _ _ c hc;cases hc);(·exact λ_ _ _ x hx ha=>Dh BA hx ha)
  rintro v2 _ ⟨c2,Fg,rfl⟩;simp only[Ae,Ag];have hv2:v2.oneCell'=true:=Fg.one;refine BM ?_;apply Hy
  ·exact GF rfl rfl hv2 (by exact BW) .zero (by exact DY)
  (·rfl);(·rfl);(·intro _ _ _ c hc;cases hc);(·exact λ_ _ _ x hx ha=>Dh BA hx ha)
  rintro _ _ ⟨rfl,rfl⟩;refine BM ?_;refine Aj ?_;have e1:GI ((bs++[bt]).map λc=>(Z0,c))=GI (bs.map λc=>(Z0,c))++[N0 bt tbZ]:=by unfold GI;rw[Aq,Aq];rfl
  have e2:((bs++[bt]).map λc=>(Z0,c)).flatMap Qj=(bs.map λc=>(Z0,c)).flatMap Qj++Qj (Z0,bt):=by rw[Aq,Ec];rfl
  exact BO (i+1,v2,bs++[bt],c2) ⟨by simp only;omega,by rw[Ah,hbs];rfl,by simp only;rw[e2];exact Fg⟩ (by simp only;omega) ⟨rfl,rfl,rfl,trivial⟩ (by
   simp only;rw[e1,Am];exact .of_perm ((List.Perm.swap _ _ _).trans (List.Perm.cons _ (by refine AI.symm.trans (EZ _ ?_);exact AI.symm))))
 ·obtain rfl:i=n:=by omega
  refine Aj ?_;refine BE [] rfl .refl (by exact Ba) ⟨_,rfl,_,[],⟨v,cs,bs.map λc=>(Z0,c),?_,by rw[A7,hbs];exact ho,?_,rfl⟩,by simp⟩
  ·rw[CY];exact List.eq_replicate_iff.2 ⟨by rw[A7,hbs],λx hx=>by obtain⟨_,_,rfl⟩:=Av.1 hx;rfl⟩
  ·intro c hc s _;obtain⟨_,_,rfl⟩:=Av.1 hc;exact .inl rfl
namespace Ar
variable{e yb T k n cap N gb m:Nat}{P:Program}{ro:Option Nat}{R F:Ac}{ty:TypeId}{pos:String}{g:Option (Nat×Bool)}{x:Operand}{p:Option Addr}
theorem aM(w:World)(dT sT ty elem:TypeId)(i:TypeInfo)(g o dLen dCap:Nat)(a:Addr)(JR sCap:Nat)(cur:Array Value)(t:TypeId)(cs:Ap)
 (hu:P.underlying dT=some (.slice elem))(hi:P.info? elem=some i)
 (hg:w.heap[g]?=some (.cells cur t (0,0)))(hn:cs.length=Nat.min JR dLen*i.size)
 (wk: ∀j v,cs[j]?=some v->w.cell? (a.add j)=some v)(Wv:o+cs.length<=cur.size)(h1: ∀v∈cs,v.oneCell'=true):
 (Builtin.copy_ #[dT,sT] ty #[.slice (some ⟨g,o,none⟩) dLen dCap,.slice (some a) JR sCap]).run P w=
   .ok (goInt (Nat.min JR dLen)) (w.setRow g (cur.toList.take o++cs++cur.toList.drop (o+cs.length)).toArray):=by
 have hl:=run_firstCells_some (P:=P) (w:=w) i.size (Nat.min JR dLen) a JR sCap cs hn wk;have K3:=run_storeCells_at P g o t cs 0 cur w hg (by simpa using Wv) h1;simp only[CV] at K3;have e1:(Builtin.lenOf (.slice (some a) JR sCap)).run P w= .ok JR w:=rfl;have e2:(sizeOf elem).run P w= .ok i.size w:=by simp[sizeOf,typeInfo,hi]
 unfold Builtin.copy_;simp only[AE,Dc,Db,Sem.run_bind,run_underlying hu,Result.andThen_ok,e1,e2,hl,K3];rfl
theorem Rf(w:World)(t tn ty e:TypeId)(i:TypeInfo)(z:Value)(k kn:IntKind)(ht:P.underlying t=some (.slice e))(htn:P.underlying tn=some (.int kn))(hi:P.info? e=some i)(hz:i.zero=some z)
 (b:Addr)(JR sCap:Nat)(qw:Ap)(wm:qw.length=JR*i.size)(holds: ∀j v,qw[j]?=some v->w.cell? (b.add j)=some v)
 (n:Nat)(h0:0<n)(hs:0<i.size)(hg:sCap<JR+n)(h63:JR+n<=1000000)(du:i.bytes<=1000)(Wv:Builtin.nextslicecap (JR+n) sCap*i.bytes<=281474976710656):
 (Builtin.append_ #[t,tn] ty #[.slice (some b) JR sCap,.int k n]).run P w=
   .ok (.slice (some ⟨w.heap.size,0,none⟩) (JR+n) (grownCap w (JR+n) sCap e)) (w.drew.alloc (.cells (qw.toArray++Builtin.zeroCells z.cells n++Builtin.zeroCells z.cells (grownCap w (JR+n) sCap e-(JR+n))) e)):=by
 have hw:IntKind.i64.wrap (n:Int)=n:=by rw[IntKind.wrap_i64];omega
 have h48:(n:Int)*(i.bytes:Int)<=1000000000:=by have:n*i.bytes<=1000000*1000:=Jc Af du;rw[<-Ks];omega
 have AdH:¬(281474976710656<(n:Int)*(i.bytes:Int)):=by omega
 have AdI:¬((n:Int)<0):=by omega
 have pS:¬(n*i.size=0):=Nat.mul_ne_zero Af Af;have hn:¬(JR+n<=sCap):=by omega
 have AdJ:¬(9223372036854775807<((JR:Int)+(n:Int))):=by omega
 have AdK:¬(281474976710656<Builtin.nextslicecap (JR+n) sCap*i.bytes):=by omega
 have uq:=run_firstCells_some (P:=P) (w:=w.drew) i.size JR b JR sCap qw wm (by simpa using holds);simp[Builtin.append_,run_underlying ht,run_underlying htn,sizeOf,typeInfo,zeroValue,hi,hz,asInt,asIntOf,hw,hn,AdI,pS,AdJ,AdK,AdH,Question.forced,uq,newRow,grownCap]
section
variable{fr:Fr}{l:Ac}{d:Option Nat}{t:TypeId}{aft:Array Edge}{y s:Operand}{off b:Nat}
theorem Abz{kk:Nat}(hx:ev fr x=some (.slice p n cap))[c:ST P t e kk yb]:OpQ P ro N fr R ⟨d,.call {callee:= .builtin .cap,args:=#[x],argTypes:=#[t]},ty,pos,aft,g⟩ (.int .i64 (cap:Nat)):=BN rfl λρ l hρ _=>by obtain⟨Hv,h1,_⟩:=E8 c.out;simp only[execOp,resolve,AB,Bn,invoke,builtin,Dj,AJ,CX,hρ x _ hx,Builtin.cap_];show sl P (underlying t>>=_) l _;rw[Cc h1];exact⟨rfl,rfl⟩
theorem SA{T2 o sb so dLen dCap JR sCap:Nat}{cur cs:Ap}{cl:Array Value}{ct:TypeId}{fz:Nat×Nat}(hx:ev fr x=some (.slice (some ⟨gb,o,none⟩) dLen dCap))(hy:ev fr y=some (.slice (some ⟨sb,so,none⟩) JR sCap))[c:ST P T e k yb]
 (hm:Nat.min JR dLen=m)(hl:cs.length=m*k)(hs:(sb,Obj.cells cl ct fz)∈(gb,.cells (toArray cur) e (0,0))::F)(wk: ∀j u,cs[j]?=some u->cl[so+j]?=some u)(Wv:o+cs.length<=cur.length)(h1: ∀u∈cs,u.oneCell'=true):
 OpE P ro N fr ((gb,.cells (toArray cur) e (0,0))::F) ⟨d,.call {callee:= .builtin .copy,args:=#[x,y],argTypes:=#[T,T2]},ty,pos,aft,g⟩ (λv' l'=>v'= .int .i64 (m:Nat)/\l'=(gb,.cells (toArray (cur.take o++cs++cur.drop (o+cs.length))) e (0,0))::F):=by
 subst hm;refine⟨rfl,λE a W hf hs'=>?_⟩;have hρ:=hf.agrees;obtain⟨Hv,u1,u2,u3,u4⟩:=E8 c.out;have XU:execOp a.eval ⟨d,.call {callee:= .builtin .copy,args:=#[x,y],argTypes:=#[T,T2]},ty,pos,aft,g⟩=(do pure (.value (<-Builtin.copy_ #[T,T2] ty #[.slice (some ⟨gb,o,none⟩) dLen dCap,.slice (some ⟨sb,so,none⟩) JR sCap])):Sem Next):=by simp[execOp,resolve,hρ x _ hx,hρ y _ hy,invoke,builtin]
 unfold OpVal;rw[XU,Sem.run_bind];have hr:=aM (P:=P) W T T2 ty e Hv gb o dLen dCap ⟨sb,so,none⟩ JR sCap (toArray cur) e cs u1 u2 (hs'.has (gb,_) Ak) (by rw[u3];exact hl) (λj u hj=>by rw[GE,hs'.cell hs];exact wk j u hj) (by simpa using Wv) h1;rw[hr];exact⟨_,⟨rfl,rfl⟩,hs'.row⟩
theorem gS{tn:Nat}{xs sp zs:Ap}(hx:ev fr s=some (.slice (some ⟨gb,0,none⟩) n cap))(hy:ev fr x=some (.int .i64 (m:Nat)))[c:ST P T e k yb][cz:ZV P e zs][ci:IT P tn .i64](R8:zs.length=k)(hk:0<k)
 (PG:xs.length=n*k)(hm0:0<m)(Pt:cap<n+m)(hn:n+m<=1000000)(du:yb<=1000):
 OpE P ro N fr ((gb,.cells (toArray (xs++sp)) e (0,0))::F) ⟨d,.call {callee:= .builtin .append,args:=#[s,x],argTypes:=#[T,tn]},ty,pos,aft,g⟩ (λv' l'=> ∃nb cap' Id,(∀c,c∈(gb,Obj.cells (toArray (xs++sp)) e (0,0))::F->c.1≠nb)/\v'= .slice (some ⟨nb,0,none⟩) (n+m) cap'/\l'=(nb,.cells (toArray (xs++(replicate m zs).flatten++Id)) e (0,0))::(gb,.cells (toArray (xs++sp)) e (0,0))::F/\n+m<=cap'/\cap'<=maxLen/\(xs++(replicate m zs).flatten++Id).length=cap'*k):=by
 refine⟨rfl,λE a W hf hs=>?_⟩;have hρ:=hf.agrees;obtain⟨Hv,u1,u2,u3,u4⟩:=E8 c.out;obtain⟨wg,zv,z1,z2,z3⟩:=Ke cz.out;rw[u2] at z1;cases z1;have hu:=Tt ci.out;have XU:execOp a.eval ⟨d,.call {callee:= .builtin .append,args:=#[s,x],argTypes:=#[T,tn]},ty,pos,aft,g⟩=(do pure (.value (<-Builtin.append_ #[T,tn] ty #[.slice (some ⟨gb,0,none⟩) n cap,.int .i64 (m:Nat)])):Sem Next):=by simp[execOp,resolve,hρ s _ hx,hρ x _ hy,invoke,builtin]
 unfold OpVal;rw[XU,Sem.run_bind];have hzc:zv.cells=toArray zs:=by rw[<-z3]
 have hold: ∀j u,xs[j]?=some u->W.cell? ((⟨gb,0,none⟩:Addr).add j)=some u:=λj u hj=>by rw[GE,hs.cell Ak,BF];have C9:=(Ay.1 hj).1;simp only[AE];rw[AH C9];exact hj
 have Ww:(n+m)*yb<=140737488355328:=by have:=Jc hn du;omega
 have hr:=Rf (P:=P) W T tn ty e Hv zv .i64 .i64 u1 hu u2 z2 ⟨gb,0,none⟩ n cap xs (by rw[u3];exact PG) hold m hm0 (by rw[u3];exact hk) Pt hn (by rw[u4];exact du) (growslice_fits Af (by rw[u4];exact Ww));rw[hr];have US:=size_zeroCells zv.cells (grownCap W (n+m) cap e-(n+m));have hzm:Builtin.zeroCells zv.cells m=toArray (replicate m zs).flatten:=by unfold Builtin.zeroCells;have LA:0<m*k:=Nat.mul_pos hm0 hk;have:=VH hzc R8 LA;rw[show zv.cells.size=k by rw[hzc];simpa using R8];rw[<-this,show zv.cells.size=k by rw[hzc];simpa using R8]
 refine⟨_,⟨W.heap.size,grownCap W (n+m) cap e,(Builtin.zeroCells zv.cells (grownCap W (n+m) cap e-(n+m))).toList,λc hc=>?_,rfl,rfl,grownCap_ge _ _ _ _,grownCap_le_maxLen _ _ _ _ (by unfold maxLen;omega),?_⟩,?_⟩
 ·intro e1;have:=hs.has c hc;rw[e1] at this;simp at this
 ·have hge:=grownCap_ge W (n+m) cap e;have h1:(Builtin.zeroCells zv.cells (grownCap W (n+m) cap e-(n+m))).toList.length=(grownCap W (n+m) cap e-(n+m))*k:=by
   rw[Array.length_toList,US,show zv.cells.size=k by rw[hzc];simpa using R8]
  have:(replicate m zs).flatten.length=m*k:=by simp[R8]
  rw[Ah,Ah,PG,h1,this,<-Fp,<-Fp];congr 1;omega
 ·have h2:=hs.drew.alloc (.cells (xs.toArray++Builtin.zeroCells zv.cells m++Builtin.zeroCells zv.cells (grownCap W (n+m) cap e-(n+m))) e);have e1:W.drew.heap.size=W.heap.size:=rfl;rw[e1] at h2;have e2:toArray (xs++(replicate m zs).flatten++(Builtin.zeroCells zv.cells (grownCap W (n+m) cap e-(n+m))).toList)=xs.toArray++Builtin.zeroCells zv.cells m++Builtin.zeroCells zv.cells (grownCap W (n+m) cap e-(n+m)):=by
   rw[hzm];apply BP.1;simp
  rw[e2];exact h2
theorem aN{f:Nat}{fn:Func}{at_:Array TypeId}{a1 o1 a2 o2 n1 c1 n2 c2:Nat}{cl1 cl2:Array Value}{t1 t2:TypeId}(hfx:ev fr s=some (.func (.func f) #[] #[]))(hx:ev fr x=some (.slice (some ⟨a1,o1,none⟩) n1 c1))(hy:ev fr y=some (.slice (some ⟨a2,o2,none⟩) n2 c2))[c:ST P T e k yb]
 (hf:P.funcs[f]?=some fn)(hfn:(fn.name== "runtime.NumGoroutine")=false)(hb:fn.body.isNone=true)(Wx:Extern.findNext fn=none)(tR:TypeId)(AdL:Extern.find fn=some (Extern.SlicesOverlaps.overlaps #[T,T] #[tR]))
 (h1:(a1,Obj.cells cl1 t1 (0,0))∈R)(h2:(a2,Obj.cells cl2 t2 (0,0))∈R)(He:a1≠a2)(h0:0<cl2.size):
 OpQ P ro N fr R ⟨d,.call {callee:= .value s,args:=#[x,y],argTypes:=at_},ty,pos,aft,g⟩ (.bool false):=by
 refine⟨λl hl=>⟨rfl,λE a W hfs hs=>?_⟩⟩;have hρ:=hfs.agrees;obtain⟨Hv,u1,u2,u3,u4⟩:=E8 c.out;have k1:=hs.has _ (hl _ h1);have k2:=hs.has _ (hl _ h2);simp only at k1 k2;have hr:=Lib.run_overlaps_apart (P:=P) W T tR e u1 Hv.size (λw=>by simp[sizeOf,typeInfo,u2]) ⟨a1,o1,none⟩ ⟨a2,o2,none⟩ n1 c1 n2 c2 He t1 t2 cl1.size cl2.size (by simp[World.shape?,k1]) (by simp[World.shape?,k2]) Af (by simp[World.frozen?,k1]) (by simp[World.frozen?,k1]);have hc:=run_callFunc_extern (P:=P) hf hfn hb Wx AdL #[.slice (some ⟨a1,o1,none⟩) n1 c1,.slice (some ⟨a2,o2,none⟩) n2 c2] W;unfold OpVal;have XU:(execOp a.eval ⟨d,.call {callee:= .value s,args:=#[x,y],argTypes:=at_},ty,pos,aft,g⟩).run P W= .ok (.value (.bool false)) W:=by simp only[execOp,resolve,Dj,AJ,CX,hρ s _ hfx,hρ x _ hx,hρ y _ hy,Deferred.ofValue,Sem.run_bind];simp only[Sem.run_pure,Result.andThen,invoke];simp only[K6,K7];rw[hc,hr];rfl
 rw[XU];exact⟨_,⟨rfl,rfl⟩,hs⟩
end
section
variable{fr:Fr}{l:Ac}{d:Option Nat}{aft:Array Edge}
theorem lC{lo hi mx:Option Operand}{l0 h0 m0 n' c':Nat}(hx:ev fr x=some (.slice p n cap))[c:ST P T e k yb](hl:k9 fr lo 0 l0)(hh:k9 fr hi n h0)(hm:k9 fr mx cap m0)(IU:mx.isSome=true->hi.isSome=true)(h1:l0<=h0)(h2:h0<=m0)(h3:m0<=cap)
 (hn:h0-l0=n')(hc:m0-l0=c'):OpQ P ro N fr R ⟨d,.slice T x lo hi mx,ty,pos,aft,g⟩ (.slice (if m0=l0 then p else p.map (·.add (l0*k))) n' c'):=BN rfl λρ l hρ _=>by
 obtain⟨Hv,u1,u2,u3,_⟩:=E8 c.out;subst hn hc;simp only[execOp,hρ x _ hx];rw[AB];unfold Instr.sliceAt;rw[Cc u1];show sl P (Instr.slice T _ _ _ _) l _;unfold Instr.slice;rw[Cc u1];simp only[AB];rw[Of hρ hl hh hm IU h1 h2 h3];simp only;rw[Hx u2];simp only[Bn,u3];simp
end
theorem AeX:prog.funcs[240]?=some Tryz.f240:=func240
theorem AeY:(Tryz.f240.name== "runtime.NumGoroutine")=false:=BA
theorem AeZ:Tryz.f240.body.isNone=true:=BA
theorem Ae0:Extern.findNext Tryz.f240=none:=BA
theorem Ae1:Extern.find Tryz.f240=some (Extern.SlicesOverlaps.overlaps #[43,43] #[4]):=BA
theorem xu(A X Y cs:Ap)(h:cs.length=X.length):(A++X++Y).take A.length++cs++(A++X++Y).drop (A.length+cs.length)=A++cs++Y:=by
 rw[h];have e1:(A++X++Y).take A.length=A:=by rw[Am,GX rfl]
 have e2:(A++X++Y).drop (A.length+X.length)=Y:=by rw[<-Ah,Iy rfl]
 rw[e1,e2]
abbrev p7:Ap:=[.int .i64 0,.int .i64 0,.int .i64 0,.int .i64 0,.int .i64 0,.int .i64 0,.int .i64 0,.int .i64 0,.int .i64 0]
theorem aO(v:Value)(n i bl:Nat)(xs ws:Ap)(cs F:Ac)(ho:OwnSl 100 9 v n xs cs)(hi:i<=n)(hw:ws.length=9)(h1: ∀u∈ws,u.oneCell'=true)(ZX: ∀u∈xs,u.oneCell'=true)(He: ∀c,c∈cs->c.1≠bl)(hn:n<=90000):
 Fn prog 182 [v,.int .i64 (i:Nat),.slice (some ⟨bl,0,none⟩) 1 1] ((bl,.cells (toArray ws) 100 (0,0))::(cs++F)) λv' l'=> ∃c2,OwnSl 100 9 v' (n+1) (xs.take (i*9)++ws++xs.drop (i*9)) c2/\l'=c2++F:=by
 obtain⟨p,cap,hv,ZW⟩: ∃p cap,v= .slice p n cap/\n<=cap:=by
  rcases ho.2 with⟨h,h0,_⟩|⟨b,cap,sp,h,_,h2,_⟩
  ·exact⟨none,0,by rw[h,h0],Af⟩
  ·exact⟨_,cap,h,h2⟩
 subst hv;refine AN func182 ntmps182 λE=>?_;refine gz ?_;refine Bh (lC (l0:=i) (h0:=n) (m0:=cap) rfl (.some rfl Af rfl) .none .none (by simp) hi ZW Af rfl rfl) ?_;refine gz ?_;by_cases M2:i=n
 ·subst M2;refine gz ?_;refine AS (Hz (k:=9) (X:=[]) (cs:=cs) (F:=F) (xs:=xs) (n:=i) (ws:=ws) (zs:=p7) rfl rfl rfl ho hw h1 Af AX) ?_;rintro v' _ ⟨c2,Fg,rfl⟩;have Jz:v'.oneCell'=true:=Fg.one;refine gz ?_;refine Bb (l':=c2++F) .refl ⟨c2,?_,rfl⟩;rw[BD (by rw[ho.1];omega),DH (by rw[ho.1];omega),Bj];exact Fg
 refine gz ?_;rcases ho.2 with⟨h,h0,_⟩|⟨gb,cap',sp,h,rfl,h2,UV,NP⟩
 ·omega
 cases h;have hxl:xs.length=n*9:=ho.1;obtain⟨A,hA⟩: ∃A,xs.take (i*9)=A:=⟨_,rfl⟩
 obtain⟨B,hB⟩: ∃B,xs.drop (i*9)=B:=⟨_,rfl⟩
 have aa:xs=A++B:=by rw[<-hA,<-hB,Cp]
 have ur:A.length=i*9:=by rw[<-hA,Dk];omega
 have hBl:B.length=(n-i)*9:=by rw[<-hB,DN];omega
 have wn: ∀u∈B,u.oneCell'=true:=λu hu=>ZX u (by rw[aa];exact Aa _ hu);rw[hA,hB];have Sa:gb≠bl:=He _ (.head _);rw[show xs++sp=A++(B++sp) by rw[aa,Am]] at NP⊢;rw[Ah,Ah] at NP;simp only[Ae,Ag];refine Bh (Abz rfl) ?_;refine gz ?_;by_cases Pt:cap<n+1
 ·refine gz ?_;refine Bh (Gf (l0:=0) (h0:=i) (m0:=cap) (off':=0) (n':=i) (c':=cap) rfl .none (.some rfl Af rfl) .none (by simp) Af Af Af (by simp) Af Af) ?_;refine gz ?_;refine Bs (Keep.of_perm (l':=(gb,.cells (toArray (A++(B++sp))) 100 (0,0))::((bl,.cells (toArray ws) 100 (0,0))::F)) (List.Perm.swap ..)) ?_;refine AS (gS (k:=9) (n:=i) (m:=n+1-i) (gb:=gb) (cap:=cap) (xs:=A) (sp:=B++sp) (zs:=p7) (F:=(bl,.cells (toArray ws) 100 (0,0))::F) rfl ?_ rfl Af ur Af Af Af AX) ?_
  ·show some (Value.int .i64 _)=_;congr 2;omega
  rintro _ _ ⟨nb,cap2,R7,hnb,rfl,rfl,jH,hc2,hc3⟩;rw[show i+(n+1-i)=n+1 by omega] at jH⊢;obtain⟨Z,hZ⟩: ∃Z,(replicate (n+1-i) p7).flatten=Z:=⟨_,rfl⟩
  have hZl:Z.length=9+B.length:=by rw[<-hZ,hBl];simp;omega
  rw[hZ] at hc3⊢;have e0:A++Z++R7=A++Z.take 9++(Z.drop 9++R7):=by rw[Am,Am,<-Am (Z.take 9),Cp]
  have hZ9:(Z.take 9).length=9:=by rw[Dk];omega
  have hZd:(Z.drop 9).length=B.length:=by rw[DN];omega
  rw[Ah,Ah] at hc3;refine gz ?_;refine Bh (Gf (l0:=i) (h0:=n+1) (m0:=cap2) (off':=A.length) (n':=n+1-i) (c':=cap2-i) rfl (.some rfl Af rfl) .none .none (by simp) Af Af Af (by rw[Ab Af];omega) rfl rfl) ?_;refine gz ?_;have kc:(bl,Obj.cells (toArray ws) 100 (0,0))∈(nb,Obj.cells (toArray (A++Z++R7)) 100 (0,0))::(gb,.cells (toArray (A++(B++sp))) 100 (0,0))::(bl,.cells (toArray ws) 100 (0,0))::F:= .tail _ (.tail _ (.head _));refine AS (SA (k:=9) (m:=1) (cs:=ws) rfl rfl (by show min 1 (n+1-i)=1;omega) hw kc (λj u hj=>by simpa using hj) (by simp only[Ah];omega) h1) ?_;rintro _ _ ⟨rfl,rfl⟩;rw[e0,xu A _ _ ws (by rw[hw,hZ9])];refine gz ?_;have hAw:(A++ws).length=i*9+9:=by rw[Ah];omega
  have Lf:(gb,Obj.cells (toArray (A++(B++sp))) 100 (0,0))∈(nb,Obj.cells (toArray (A++ws++(Z.drop 9++R7))) 100 (0,0))::(gb,.cells (toArray (A++(B++sp))) 100 (0,0))::(bl,.cells (toArray ws) 100 (0,0))::F:= .tail _ (.head _);refine Cm [8] 9 ([]) ?_;refine pz ?_;apply Eo
  ·exact Gf (l0:=i+1) (h0:=n+1) (m0:=cap2) (off':=i*9+9) (n':=n-i) (c':=cap2-(i+1)) rfl (.some rfl Af rfl) .none .none (by simp) Af Af Af (by rw[Ab Af];omega) Af rfl
  ·rfl
  ·rfl
  ·rfl
  refine pz ?_;apply Eo
  ·exact Gf (l0:=i) (h0:=n) (m0:=cap) (off':=i*9) (n':=n-i) (c':=cap-i) rfl (.some rfl Af rfl) .none .none (by simp) Af Af Af (by rw[Ab Af];omega) rfl rfl
  ·rfl
  ·rfl
  ·rfl
  refine pz ?_;apply CM
  ·apply SA (k:=9) (m:=n-i) (cs:=B) (cur:=A++ws++(Z.drop 9++R7))
   ·rfl
   ·rfl
   ·exact Nat.min_self _
   ·omega
   ·exact Lf
   ·intro j u hj;have kA:=(Ay.1 hj).1;rw[AE,AY Af,ur,show i*9+j-i*9=j by omega,AH kA];exact hj
   ·rw[Ah,Ah,Ah,hw,ur,hZd];omega
   ·exact wn
  ·rfl
  ·rfl
  ·rfl
  ·intro _ _ _ c hc;cases hc
  rintro _ _ ⟨rfl,rfl⟩;have e3:List.take (i*9+9) (A++ws++(List.drop 9 Z++R7))++B++List.drop (i*9+9+B.length) (A++ws++(List.drop 9 Z++R7))=A++ws++B++R7:=by have:=xu (A++ws) (Z.drop 9) R7 B hZd.symm;rw[hAw,Am (A++ws) (Z.drop 9) R7] at this;exact this
  rw[e3];refine pz ?_;refine gz ?_;refine Bb (l':=(nb,.cells (toArray (A++ws++B++R7)) 100 (0,0))::F) (by exact AW) ⟨[(nb,_)],⟨?_,.inr ⟨nb,cap2,R7,rfl,rfl,jH,hc2,?_⟩⟩,rfl⟩
  ·rw[Ah,hAw];omega
  ·rw[Ah,Ah,hAw];omega
 ·obtain⟨s1,s2,hs12,Sn⟩: ∃s1 s2,sp=s1++s2/\s1.length=9:=⟨sp.take 9,sp.drop 9,(Cp ..).symm,by rw[Dk];omega⟩
  refine gz ?_;refine Bh (Gf (l0:=0) (h0:=n+1) (m0:=cap) (off':=0) (n':=n+1) (c':=cap) rfl .none (.some rfl Af Af) .none (by simp) Af Af Af (by simp) Af Af) ?_;refine gz ?_;refine Bh (Gf (l0:=i+1) (h0:=n+1) (m0:=cap) (off':=i*9+9) (n':=n-i) (c':=cap-(i+1)) rfl (.some rfl Af rfl) .none .none (by simp) Af Af Af (by rw[Ab Af];omega) Af rfl) ?_;refine gz ?_;have Lf:(gb,Obj.cells (toArray (A++(B++sp))) 100 (0,0))∈(bl,.cells (toArray ws) 100 (0,0))::(gb,Obj.cells (toArray (A++(B++sp))) 100 (0,0))::F:= .tail _ (.head _);refine Bh (aN (cl1:=toArray ws) (cl2:=toArray (A++(B++sp))) rfl rfl rfl AeX AeY AeZ Ae0 4 Ae1 (.head _) Lf (λh=>Sa h.symm) (by simp;omega)) ?_;refine Bs (Keep.of_perm (l':=(gb,.cells (toArray (A++(B++sp))) 100 (0,0))::((bl,.cells (toArray ws) 100 (0,0))::F)) (List.Perm.swap ..)) ?_;refine gz ?_;refine Cm [8] 9 ([]) ?_;refine pz ?_;apply Eo
  ·exact Gf (l0:=i+1) (h0:=n+1) (m0:=cap) (off':=i*9+9) (n':=n-i) (c':=cap-(i+1)) rfl (.some rfl Af rfl) .none .none (by simp) Af Af Af (by rw[Ab Af];omega) Af rfl
  ·rfl
  ·rfl
  ·rfl
  refine pz ?_;apply Eo
  ·exact Gf (l0:=i) (h0:=n+1) (m0:=cap) (off':=i*9) (n':=n+1-i) (c':=cap-i) rfl (.some rfl Af rfl) .none .none (by simp) Af Af Af (by rw[Ab Af];omega) rfl rfl
  ·rfl
  ·rfl
  ·rfl
  refine pz ?_;apply CM
  ·apply SA (k:=9) (m:=n-i) (cs:=B) (cur:=A++(B++sp))
   ·rfl
   ·rfl
   ·show min (n+1-i) (n-i)=n-i;omega
   ·omega
   ·exact .head _
   ·intro j u hj;have kA:=(Ay.1 hj).1;rw[AE,AY Af,ur,show i*9+j-i*9=j by omega,AH kA];exact hj
   ·rw[Ah,Ah,ur];omega
   ·exact wn
  ·rfl
  ·rfl
  ·rfl
  ·intro _ _ _ c hc;cases hc
  rintro _ _ ⟨rfl,rfl⟩;obtain⟨Y,hY⟩: ∃Y,(B++sp).take 9=Y:=⟨_,rfl⟩
  have hYl:Y.length=9:=by rw[<-hY,Dk,Ah];omega
  have hD:(B++sp).drop (9+B.length)=s2:=by rw[KM,<-Lc,Iy rfl,hs12,Iy Sn]
  have e3:List.take (i*9+9) (A++(B++sp))++B++List.drop (i*9+9+B.length) (A++(B++sp))=A++Y++(B++s2):=by rw[<-ur,J0,JM,List.take_append,DH Af,BD Af,CJ,CJ,hD,hY];simp
  rw[e3];refine pz ?_;refine gz ?_;refine Bh (Gf (l0:=i) (h0:=n+1) (m0:=cap) (off':=A.length) (n':=n+1-i) (c':=cap-i) rfl (.some rfl Af rfl) .none .none (by simp) Af Af Af (by rw[Ab Af];omega) rfl rfl) ?_;refine gz ?_;have wo:(bl,Obj.cells (toArray ws) 100 (0,0))∈(gb,Obj.cells (toArray (A++Y++(B++s2))) 100 (0,0))::(bl,.cells (toArray ws) 100 (0,0))::F:= .tail _ (.head _);refine AS (SA (k:=9) (m:=1) (cs:=ws) rfl rfl (by show min 1 (n+1-i)=1;omega) hw wo (λj u hj=>by simpa using hj) (by simp only[Ah];omega) h1) ?_;rintro _ _ ⟨rfl,rfl⟩;rw[xu A _ _ ws (by rw[hw,hYl])];refine gz ?_;rw[hs12,Ah] at NP;refine BE [] rfl (l':=(gb,.cells (toArray (A++ws++(B++s2))) 100 (0,0))::F) (by exact AW) (by exact Ba) ⟨[(gb,_)],⟨?_,.inr ⟨gb,cap,s2,rfl,?_,Af,UV,?_⟩⟩,rfl⟩
  ·rw[Ah,Ah];omega
  ·rw[Am (A++ws)]
  ·rw[Ah,Ah,Ah];omega
theorem setFrom_mid(ys':Ap): ∀(X Y Z:Ap),ys'.length=Y.length->Da (toArray (X++Y++Z)) X.length ys'=toArray (X++ys'++Z):=by
 induction ys' with
 |nil=>intro X Y Z h;cases Y with
  |nil=>rfl
  |cons a b=>simp at h
 |cons y r ih=>intro X Y Z h;cases Y with
  |nil=>simp at h
  |cons a b=>
   show Da ((toArray (X++(a::b)++Z)).setIfInBounds X.length y) (X.length+1) r=_;have e1:(toArray (X++(a::b)++Z)).setIfInBounds X.length y=toArray ((X++[y])++b++Z):=by rw[BB];congr 1;rw[Am,Cv _ _ (Bf _),DV];simp
   rw[e1,show X.length+1=(X++[y]).length by simp,ih (X++[y]) b Z (by simpa using h)];simp
end Ar
def upd{α:Type}(f:Nat->α)(k:Nat)(v:α):Nat->α:=λi=>if i=k then v else f i
theorem DL(f:Nat->α)(k:Nat)(v:α):upd f k v k=v:=Ad rfl
theorem Dl(f:Nat->α)(k i:Nat)(v:α)(h:i≠k):upd f k v i=f i:=Ab h
def gT(f:Nat->Int)(a n:Nat):A4:=(List.range n).map λj=>f (a+j)
theorem Ir(f:Nat->Int)(a n:Nat):(gT f a n).length=n:=by simp[gT]
theorem lD(x:Int):IntKind.u64.wrap x=x%18446744073709551616:=by simp[IntKind.wrap,IntKind.signed,IntKind.bits]
def Qk(W:World):Ac:=W.heap.toList.zipIdx.map λx=>(x.2,x.1)
theorem Rg(W:World)(k:Nat)(o:Obj):(k,o)∈Qk W<->W.heap[k]?=some o:=by
 unfold Qk;rw[Av];constructor
 ·rintro⟨⟨o',k'⟩,h,e⟩;cases e;have:=List.mem_zipIdx_iff_getElem?.1 h;simpa using this
 ·intro h;exact⟨(o,k),List.mem_zipIdx_iff_getElem?.2 (by simpa using h),rfl⟩
theorem rr(W:World):Sat W (Qk W) W:=by refine⟨rfl,rfl,rfl,?_,λc hc=>(Rg W c.1 c.2).1 hc⟩;unfold Qk;rw[CY];have:(Prod.fst∘λx:Obj×Nat=>(x.2,x.1))=Prod.snd:=rfl;rw[this,List.zipIdx_map_snd];exact List.nodup_range'
theorem lF{W:World}(h:Fn P f args (Qk W) λv l'=>v= .bool true/\ ∃X,l'=X++Qk W):
 Calls P f args.toArray W λe W'=>e= .returned (.bool true)/\Below W.heap.size W W':=by
 refine(h.run W W (rr W)).mono ?_;rintro e W' ⟨v,l',rfl,⟨rfl,X,rfl⟩,hs⟩;have hb: ∀k,k<W.heap.size->W'.heap[k]?=W.heap[k]?:=λk hk=>by rw[CP hk];exact hs.has (k,W.heap[k]) (Aa _ ((Rg W k _).2 (CP hk)))
 refine⟨rfl,⟨hs.os,hs.tape,hs.output,?_,hb⟩⟩;by_cases h0:W.heap.size=0
 ·omega
 ·have h1:=hb (W.heap.size-1) Af;rw[CP (xs:=W.heap) Af] at h1;have:=(BH.1 h1).1;omega
namespace Ar
variable{i k j:Nat}{id f:Int}
abbrev Nh(x:Int):Value:= .int .i64 x
structure ObT where
 id:Int
 kd:Int
 sz:Int
 fi:Int
 fr:Int
 ma:Int
 se:Int
 pg:Int
 lv:Int
deriving DecidableEq
variable{o:ObT}{pre:List (ObT×Nat)}{x:ObT×Nat}
abbrev obC(o:ObT):Ap:=[.int .i64 o.id,.int .i64 o.kd,.int .i64 o.sz,.int .i64 o.fi,.int .i64 o.fr,.int .i64 o.ma,.int .i64 o.se,.int .i64 o.pg,.int .i64 o.lv]
abbrev obO:ObT:=⟨0,0,0,0,0,0,0,0,0⟩
abbrev OL:=List ObT
variable{os:OL}
def ocs(os:OL):Ap:=os.flatMap obC
theorem On(os:OL):(ocs os).length=os.length*9:=by
 induction os with
 |nil=>rfl
 |cons x r ih=>rw[show ocs (x::r)=obC x++ocs r from rfl,Ah,ih];show 9+r.length*9=(r.length+1)*9;omega
theorem Ni(a b:OL):ocs (a++b)=ocs a++ocs b:=Ec ..
theorem dZ(os:OL): ∀u∈ocs os,u.oneCell'=true:=by intro u hu;obtain⟨o,_,h⟩:=JN.1 hu;simp only[obC,At,BQ,EE] at h;rcases h with rfl|rfl|rfl|rfl|rfl|rfl|rfl|rfl|rfl<;>rfl
theorem PN(h:os[i]?=some o)(sp:Ap)(j:Nat)(hj:j<9):(toArray (ocs os++sp))[i*9+j]?=(obC o)[j]?:=by obtain⟨h1,h2⟩:=Lk (enc:=obC) (k:=9) (λ_=>rfl) sp os i o h;rw[<-h1,IC,Ad hj,K8,AE];rfl
theorem ea(h:os[i]?=some o)(sp:Ap):i*9+9<=(toArray (ocs os++sp)).size/\(toArray (ocs os++sp)).extract (i*9) (i*9+9)=toArray (obC o):=by obtain⟨h1,h2⟩:=Lk (enc:=obC) (k:=9) (λ_=>rfl) sp os i o h;refine⟨by rw[Bv];exact h2,?_⟩;rw[E7,Cj,CJ];exact BI toArray h1
theorem Yw(h:os[i]?=some o):os=os.take i++o::os.drop (i+1):=by obtain⟨hi,rfl⟩:=Ay.1 h;rw[List.getElem_cons_drop,Cp]
theorem SC{o':ObT}(h:os[i]?=some o)(sp:Ap)(j:Nat)(v:Value)(hj:j<9)(he:(obC o).set j v=obC o'):(toArray (ocs os++sp)).setIfInBounds (i*9+j) v=toArray (ocs (os.set i o')++sp):=by
 have hi:=(Ay.1 h).1;have e1:ocs os++sp=ocs (os.take i)++(obC o++(ocs (os.drop (i+1))++sp)):=by
  conv=>lhs;rw[Yw h]
  rw[Ni,show ocs (o::os.drop (i+1))=obC o++ocs (os.drop (i+1)) from rfl];simp
 have e2:ocs (os.set i o')++sp=ocs (os.take i)++(obC o'++(ocs (os.drop (i+1))++sp)):=by rw[I6,Ad hi,Ni,show ocs (o'::os.drop (i+1))=obC o'++ocs (os.drop (i+1)) from rfl];simp
 have hl:(ocs (os.take i)).length=i*9:=by rw[On,Dk];omega
 rw[BB,e1,e2,Cv _ _ Af,show i*9+j-(ocs (os.take i)).length=j by omega,Hr _ _ (by show j<9;omega),he]
def Yx(n:Int)(g:Nat->Int)(v:Value):Ap:= .int .i64 n::((gT g 0 64).map Nh++[v])
theorem WP(n:Int)(g:Nat->Int)(v:Value):(Yx n g v).length=66:=by unfold Yx;simp[Ir]
theorem uZ(n:Int)(g:Nat->Int)(v:Value):(toArray (Yx n g v))[0]?=some (.int .i64 n):=rfl
theorem VK(n:Int)(g:Nat->Int)(v:Value):(toArray (Yx n g v))[65]?=some v:=by rw[AE];unfold Yx;rw[Db,AY (by simp[Ir])];simp[Ir]
theorem u7(n:Int)(g:Nat->Int)(v:Value)(hj:j<64):(toArray (Yx n g v))[1+j*1]?=some (.int .i64 (g j)):=by rw[AE,show 1+j*1=j+1 by omega];unfold Yx;rw[Db,AH (by simp[Ir];omega),A6];simp[gT,hj]
theorem lG(n:Int)(g:Nat->Int)(v:Value)(hj:j<64)(x:Int):(toArray (Yx n g v)).setIfInBounds (1+j*1) (.int .i64 x)=toArray (Yx n (upd g j x) v):=by
 rw[BB,show 1+j*1=j+1 by omega];unfold Yx;rw[ID,Hr _ _ (by simp[Ir];omega)];congr 3;apply CI;intro k;rw[EP];by_cases hk:k<64
 ·by_cases e:j=k
  ·subst e;rw[Ad rfl,Ad (by simp[Ir];omega)];simp[gT,hk,DL]
  ·rw[Ab e];simp[gT,hk,Dl _ _ _ _ (λh=>e h.symm)]
 ·rw[Ab Af];rw[Bg (by simp[Ir];omega),Bg (by simp[Ir];omega)]
theorem Yy(n:Int)(g:Nat->Int)(v u:Value):(toArray (Yx n g v)).setIfInBounds 65 u=toArray (Yx n g u):=by rw[BB];unfold Yx;rw[ID,Cv _ _ (by simp[Ir])];simp[Ir]
abbrev TC(b:Nat)(n:Int)(g:Nat->Int)(v:Value):Bd:=(b,.cells (toArray (Yx n g v)) 316 (0,0))
structure ArT where
 n:Int
 g:Nat->Int
 os:OL
variable{S:ArT}
structure ArT.Ok(S:ArT):Prop where
 n1:1<=S.n
 n2:S.n<=64
 g1: ∀j,0<=S.g j/\S.g j<=1024
 asc:S.os.Pairwise λx y=>x.id<y.id
 rng: ∀x∈S.os,1<=x.id/\x.id<=65535
 num: ∀x∈S.os,0<=x.fi/\x.fi<S.n/\ ∃c:Int,0<=c/\c<S.g x.fi.toNat/\x.id=x.fi+1+64*c
theorem eb: ∀(os:OL) (a:Int),0<=a->a<=65535->(os.Pairwise λx y=>x.id<y.id)->(∀x∈os,a<x.id/\x.id<=65535)->(os.length:Int)<=65535-a
 |[],a,h0,ha,_,_=>by simp;omega
 |x::r,a,h0,ha,h,hr=>by
  obtain⟨h1,h2⟩:=Cf.1 h;have hx:=hr x (.head _);have:=eb r x.id Af Af h2 λy hy=>⟨h1 y hy,(hr y (.tail _ hy)).2⟩
  simp only[Bu];omega
theorem ArT.Ok.len(h:S.Ok):S.os.length<=65535:=by
 have:=eb S.os 0 Af Af h.asc λx hx=>by have:=h.rng x hx;omega
 omega
structure IsA(b:Nat)(S:ArT)(lq:Ac):Prop where
 ok:S.Ok
 ex: ∃v cs,lq=TC b S.n S.g v::cs/\OwnSl 100 9 v S.os.length (ocs S.os) cs
def framesD(k s:Int):Int:=
 if k=1 then(if 1<=s/\s<=64 then s else 0)
 else if k=2 then(if s=1 then 1 else if s=2 then 1 else if s=3 then 2 else if s=4 then 4 else 0)
 else if k=3\/k=4\/k=5\/k=6\/k=8\/k=9 then(if s=0 then 1 else 0) else 0
def slotsD(k s:Int):Int:=
 if k=2 then(if s=1 then 2 else if s=2 then 4 else if s=3 then 8 else if s=4 then 16 else 0)
 else if k=9 then(if s=0 then 3 else 0) else 0
def Jl(x:Int):Prop:=0<=x/\x<=1048576
instance(x:Int):Decidable (Jl x):=by unfold Jl;exact inferInstance
def Yz(a n b k:Int):Bool:=decide (Jl a/\Jl n/\Jl b/\Jl k)
def Ql(a n b k:Int):Bool:=Yz a n b k&&decide (n>0)&&decide (k>0)&&decide (a<b+k)&&decide (b<a+n)
def KR(a n b k:Int):Bool:=Yz a n b k&&(decide (n=0)||(decide (a>=b)&&decide (a+n<=b+k)))
def JT(kd fi n:Int)(o:ObT):Bool:=!Ql fi n o.fi o.fr||((decide (o.kd=1)&&KR fi n o.fi o.fr)||(decide (kd=1)&&KR o.fi o.fr fi n))
def nextD(S:ArT)(f:Int):Int:=if f<0 then 0 else if f>=S.n then 0 else if f+1+64*S.g f.toNat>65535 then 0 else f+1+64*S.g f.toNat
theorem new_any(n:Int)(l:Ac):Fn prog 128 [.int .i64 n] l λv l'=>
 (¬(1<=n/\n<=64)/\v= .tuple #[.pointer none,.int .i64 3]/\l'=l)\/((1<=n/\n<=64)/\ ∃b lq,v= .tuple #[.pointer (some ⟨b,0,none⟩),.int .i64 0]/\IsA b ⟨n,λ_=>0,[]⟩ lq/\l'=lq++l):=by
 refine AN func128 ntmps128 λE=>?_;by_cases h1:n<1
 ·refine Aj ?_;exact BE [] rfl .refl (by exact Ba) (.inl ⟨Af,rfl,rfl⟩)
 by_cases h2:n>64
 ·refine Aj ?_;exact BE [] rfl .refl (by exact Ba) (.inl ⟨Af,rfl,rfl⟩)
 refine Aj ?_;refine AS (CH rfl) ?_;rintro _ _ ⟨b,hb,rfl,rfl⟩;refine Aj ?_;refine BE [] rfl .refl (by exact Ba) (.inr ⟨Af,b,[TC b n (λ_=>0) (.slice none 0 0)],rfl,⟨⟨by show 1<=n;omega,by show n<=64;omega,λj=>by simp,.nil,(λx hx=>by cases hx),λx hx=>by cases hx⟩,_,[],rfl,OwnSl.nil _ _⟩,rfl⟩)
theorem Jm(b:Value)(h1:b.oneCell'=true)(l:Ac):Fn prog 113 [b] l λv l'=> ∃B,v= .func (.func 168) #[] #[.pointer (some ⟨B,0,none⟩)]/\l'=(B,.cells #[b] 155 (0,0))::l:=by refine AN func113 ntmps113 λE=>?_;refine Aj ?_;refine AS (Ez rfl h1) ?_;rintro _ _ ⟨B,hB,rfl,rfl⟩;refine Aj ?_;exact Bb .refl ⟨B,rfl,rfl⟩
theorem slots_any(k s:Int)(l:Ac):Fn prog 68 [.int .i64 k,.int .i64 s] l λv l'=>v= .int .i64 (slotsD k s)/\l'=l:=by
 refine AN func68 ntmps68 λE=>?_;by_cases h2:k=2
 ·subst h2;by_cases h1:1<=s/\s<=4
  ·have hs:s=1\/s=2\/s=3\/s=4:=by omega
   rcases hs with rfl|rfl|rfl|rfl
   ·refine Aj ?_;refine Bh (Tx (i:=1) (n:=1) rfl rfl AX) ?_;exact E3
   ·refine Aj ?_;refine Bh (Tx (i:=1) (n:=2) rfl rfl AX) ?_;exact E3
   ·refine Aj ?_;refine Bh (Tx (i:=1) (n:=3) rfl rfl AX) ?_;exact E3
   ·refine Aj ?_;refine Bh (Tx (i:=1) (n:=4) rfl rfl AX) ?_;exact E3
  ·by_cases h3:1<=s
   ·refine Aj ?_;refine Bb .refl ⟨?_,rfl⟩;unfold slotsD;rw[Ad rfl,Ab Af,Ab Af,Ab Af,Ab Af];rfl
   ·refine Aj ?_;refine Bb .refl ⟨?_,rfl⟩;unfold slotsD;rw[Ad rfl,Ab Af,Ab Af,Ab Af,Ab Af];rfl
 ·by_cases h9:k=9
  ·subst h9;by_cases h0:s=0
   ·subst h0;exact E3
   ·refine Aj ?_;refine Bb .refl ⟨?_,rfl⟩;unfold slotsD;rw[Ab Af,Ad rfl,Ab h0];rfl
  ·refine Aj ?_;refine Bb .refl ⟨?_,rfl⟩;unfold slotsD;rw[Ab h2,Ab h9];rfl
theorem Qm(a n b k:Int)(B:Nat)(l:Ac)(hm:(B,Obj.cells (toArray [.int .i64 a,.int .i64 n,.int .i64 b,.int .i64 k]) 3 (0,0))∈l):Fn prog 310 [.slice (some ⟨B,0,none⟩) 4 4] l λv l'=>v= .bool (Yz a n b k)/\l'=l:=by
 refine AN func310 ntmps310 λE=>?_;refine Aj ?_;refine CN (α:=Nat) (λi=>[(5,.slice (some ⟨B,0,none⟩) 4 4),(6,.int .i64 4),(7,.int .i64 i)]) (λi=>l) (λi=>i<=4/\ ∀j x,j<i->[a,n,b,k][j]?=some x->Jl x) (λi=>4-i) 0 ⟨Bp _,λj x h=>by omega⟩ ⟨rfl,rfl,rfl,trivial⟩ .refl ?_;rintro i ⟨hi,hj⟩;by_cases C9:i<4
 ·obtain⟨x,hx⟩: ∃x,[a,n,b,k][i]?=some x:=⟨_,Al (show i<[a,n,b,k].length from C9)⟩
  have hc:(toArray [Value.int .i64 a,.int .i64 n,.int .i64 b,.int .i64 k])[i*1]?=some (.int .i64 x):=by
   have:i=0\/i=1\/i=2\/i=3:=by omega
   rcases this with rfl|rfl|rfl|rfl<;>(simp at hx;subst hx;rfl)
  have hF:¬Jl x->Yz a n b k=false:=λh=>by
   refine Aw λhh=>h ?_;have:i=0\/i=1\/i=2\/i=3:=by omega
   rcases this with rfl|rfl|rfl|rfl<;>(simp at hx;subst hx;simp[hh])
  refine Aj ?_;by_cases h1:x<0
  ·refine Aj ?_;exact BE [] rfl .refl (by exact Ba) ⟨by rw[hF (λh=>by unfold Jl at h;omega)];rfl,rfl⟩
  by_cases h2:x>1048576
  ·refine Aj ?_;exact BE [] rfl .refl (by exact Ba) ⟨by rw[hF (λh=>by unfold Jl at h;omega)];rfl,rfl⟩
  ·refine Aj ?_;refine BO (i+1) ⟨Af,λj y hji hy=>?_⟩ Af ⟨rfl,rfl,rfl,trivial⟩ .refl;by_cases e:j=i
   ·subst e;rw[hx] at hy;cases hy;exact⟨Af,Af⟩
   ·exact hj j y Af hy
 ·obtain rfl:i=4:=by omega
  have hT:Yz a n b k=true:=Au ⟨hj 0 a Af rfl,hj 1 n Af rfl,hj 2 b Af rfl,hj 3 k Af rfl⟩;refine Aj ?_;exact BE [] rfl .refl (by exact Ba) ⟨by rw[hT];rfl,rfl⟩
theorem lI{a n b k:Int}(h:Yz a n b k=true):Jl a/\Jl n/\Jl b/\Jl k:=ER h
theorem lJ(a n b k:Int)(l:Ac):Fn prog 238 [.int .i64 a,.int .i64 n,.int .i64 b,.int .i64 k] l λv l'=>v= .bool (Ql a n b k)/\l'=l:=by
 refine AN func238 ntmps238 λE=>?_;refine Aj ?_;refine AS (aF rfl AX AX rfl) ?_;rintro _ _ ⟨B,hB,rfl,rfl⟩;refine Aj ?_;refine Bh (AL rfl rfl λl2 hl=>Qm a n b k B l2 (hl _ (.head _))) ?_;cases hm:Yz a n b k with
 |false=>refine Aj ?_;exact BE [] rfl (.drop .refl) (by exact Ba) ⟨by unfold Ql;rw[hm];rfl,rfl⟩
 |true=>
  obtain⟨⟨a1,a2⟩,⟨n1,n2⟩,⟨b1,b2⟩,k1,k2⟩:=lI hm;by_cases h1:n>0
  ·by_cases h2:k>0
   ·by_cases h3:a<b+k
    ·by_cases h4:b<a+n
     ·refine Aj ?_;exact BE [] rfl (.drop .refl) (by exact Ba) ⟨by unfold Ql;rw[hm,Au h1,Au h2,Au h3,Au h4];rfl,rfl⟩
     ·refine Aj ?_;exact BE [] rfl (.drop .refl) (by exact Ba) ⟨by unfold Ql;rw[hm,Au h1,Au h2,Au h3,Aw h4];rfl,rfl⟩
    ·refine Aj ?_;exact BE [] rfl (.drop .refl) (by exact Ba) ⟨by unfold Ql;rw[hm,Au h1,Au h2,Aw h3];rfl,rfl⟩
   ·refine Aj ?_;exact BE [] rfl (.drop .refl) (by exact Ba) ⟨by unfold Ql;rw[hm,Au h1,Aw h2];rfl,rfl⟩
  ·refine Aj ?_;exact BE [] rfl (.drop .refl) (by exact Ba) ⟨by unfold Ql;rw[hm,Aw h1];rfl,rfl⟩
theorem DB(a n b k:Int)(l:Ac):Fn prog 239 [.int .i64 a,.int .i64 n,.int .i64 b,.int .i64 k] l λv l'=>v= .bool (KR a n b k)/\l'=l:=by
 refine AN func239 ntmps239 λE=>?_;refine Aj ?_;refine AS (aF rfl AX AX rfl) ?_;rintro _ _ ⟨B,hB,rfl,rfl⟩;refine Aj ?_;refine Bh (AL rfl rfl λl2 hl=>Qm a n b k B l2 (hl _ (.head _))) ?_;cases hm:Yz a n b k with
 |false=>refine Aj ?_;exact BE [] rfl (.drop .refl) (by exact Ba) ⟨by unfold KR;rw[hm];rfl,rfl⟩
 |true=>
  obtain⟨⟨a1,a2⟩,⟨n1,n2⟩,⟨b1,b2⟩,k1,k2⟩:=lI hm;by_cases h1:n=0
  ·refine Aj ?_;exact BE [] rfl (.drop .refl) (by exact Ba) ⟨by unfold KR;rw[hm,Au h1];rfl,rfl⟩
  ·by_cases h3:a>=b
   ·by_cases h4:a+n<=b+k
    ·refine Aj ?_;exact BE [] rfl (.drop .refl) (by exact Ba) ⟨by unfold KR;rw[hm,Aw h1,Au h3,Au h4];rfl,rfl⟩
    ·refine Aj ?_;exact BE [] rfl (.drop .refl) (by exact Ba) ⟨by unfold KR;rw[hm,Aw h1,Au h3,Aw h4];rfl,rfl⟩
   ·refine Aj ?_;exact BE [] rfl (.drop .refl) (by exact Ba) ⟨by unfold KR;rw[hm,Aw h1,Aw h3];rfl,rfl⟩
theorem frames_any(k s:Int)(l:Ac):Fn prog 50 [.int .i64 k,.int .i64 s] l λv l'=>v= .int .i64 (framesD k s)/\l'=l:=by
 refine AN func50 ntmps50 λE=>?_;by_cases h1:k=1
 ·subst h1;by_cases hs:s>=1
  ·by_cases M1:s<=64
   ·refine Aj ?_;exact BE [] rfl .refl (by exact Ba) ⟨by unfold framesD;rw[Ad rfl,Ad ⟨hs,M1⟩];rfl,rfl⟩
   ·refine Aj ?_;exact BE [] rfl .refl (by exact Ba) ⟨by unfold framesD;rw[Ad rfl,Ab Af];rfl,rfl⟩
  ·refine Aj ?_;exact BE [] rfl .refl (by exact Ba) ⟨by unfold framesD;rw[Ad rfl,Ab Af];rfl,rfl⟩
 by_cases h2:k=2
 ·subst h2;by_cases hs:s=1\/s=2\/s=3\/s=4
  ·rcases hs with rfl|rfl|rfl|rfl
   ·refine Aj ?_;refine Bh (AL rfl rfl λl2 _=>slots_any 2 _ l2) ?_;simp only[slotsD,CS,C6,Int.reduceEq];exact E3
   ·refine Aj ?_;refine Bh (AL rfl rfl λl2 _=>slots_any 2 _ l2) ?_;simp only[slotsD,CS,C6,Int.reduceEq];exact E3
   ·refine Aj ?_;refine Bh (AL rfl rfl λl2 _=>slots_any 2 _ l2) ?_;simp only[slotsD,CS,C6,Int.reduceEq];exact E3
   ·refine Aj ?_;refine Bh (AL rfl rfl λl2 _=>slots_any 2 _ l2) ?_;simp only[slotsD,CS,C6,Int.reduceEq];exact E3
  ·refine Aj ?_;refine Bh (AL rfl rfl λl2 _=>slots_any 2 _ l2) ?_;rw[show slotsD 2 s=0 by unfold slotsD;rw[Ad rfl,Ab Af,Ab Af,Ab Af,Ab Af]];refine Aj ?_;exact BE [] rfl .refl (by exact Ba) ⟨by unfold framesD;rw[Ab Af,Ad rfl,Ab Af,Ab Af,Ab Af,Ab Af];rfl,rfl⟩
 by_cases hk:k=3\/k=4\/k=5\/k=6\/k=8\/k=9
 ·have e:framesD k s=if s=0 then 1 else 0:=by unfold framesD;rw[Ab h1,Ab h2,Ad hk]
  rw[e];rcases hk with rfl|rfl|rfl|rfl|rfl|rfl
  ·by_cases hs:s=0
   ·refine Aj ?_;exact BE [] rfl .refl (by exact Ba) ⟨by rw[Ad hs];rfl,rfl⟩
   ·refine Aj ?_;exact BE [] rfl .refl (by exact Ba) ⟨by rw[Ab hs];rfl,rfl⟩
  ·by_cases hs:s=0
   ·refine Aj ?_;exact BE [] rfl .refl (by exact Ba) ⟨by rw[Ad hs];rfl,rfl⟩
   ·refine Aj ?_;exact BE [] rfl .refl (by exact Ba) ⟨by rw[Ab hs];rfl,rfl⟩
  ·by_cases hs:s=0
   ·refine Aj ?_;exact BE [] rfl .refl (by exact Ba) ⟨by rw[Ad hs];rfl,rfl⟩
   ·refine Aj ?_;exact BE [] rfl .refl (by exact Ba) ⟨by rw[Ab hs];rfl,rfl⟩
  ·by_cases hs:s=0
   ·refine Aj ?_;exact BE [] rfl .refl (by exact Ba) ⟨by rw[Ad hs];rfl,rfl⟩
   ·refine Aj ?_;exact BE [] rfl .refl (by exact Ba) ⟨by rw[Ab hs];rfl,rfl⟩
  ·by_cases hs:s=0
   ·refine Aj ?_;exact BE [] rfl .refl (by exact Ba) ⟨by rw[Ad hs];rfl,rfl⟩
   ·refine Aj ?_;exact BE [] rfl .refl (by exact Ba) ⟨by rw[Ab hs];rfl,rfl⟩
  ·by_cases hs:s=0
   ·refine Aj ?_;exact BE [] rfl .refl (by exact Ba) ⟨by rw[Ad hs];rfl,rfl⟩
   ·refine Aj ?_;exact BE [] rfl .refl (by exact Ba) ⟨by rw[Ab hs];rfl,rfl⟩
 ·have e:framesD k s=0:=by unfold framesD;rw[Ab h1,Ab h2,Ab hk]
  rw[e];exact E3
theorem gU(kd fi n:Int)(o:ObT)(gb off:Nat)(cs:Array Value)(t:TypeId)(fz:Nat×Nat)(l:Ac)(hm:(gb,Obj.cells cs t fz)∈l)(hc: ∀j,j<9->cs[off+j]?=(obC o)[j]?):
 Fn prog 180 [.int .i64 kd,.int .i64 fi,.int .i64 n,.pointer (some ⟨gb,off,none⟩)] l λv l'=>v= .bool (JT kd fi n o)/\l'=l:=by
 have c1:cs[off+1]?=some (.int .i64 o.kd):=hc 1 Af;have c3:cs[off+3]?=some (.int .i64 o.fi):=hc 3 Af;have c4:cs[off+4]?=some (.int .i64 o.fr):=hc 4 Af;refine AN func180 ntmps180 λE=>?_;refine Aj ?_;refine Cm [] 13 _ ?_ (hR:=(λ_ h=>h));refine BM ?_;apply Eo
 ·exact AL rfl rfl λl2 hl=>lJ fi n o.fi o.fr l2
 ·rfl
 ·rfl
 ·rfl
 cases hM:Ql fi n o.fi o.fr with
 |false=>refine BM ?_;refine Aj ?_;exact BE [] rfl .refl (by exact Ba) ⟨by unfold JT;rw[hM];rfl,rfl⟩
 |true=>
  refine BM ?_;refine Aj ?_;refine Cm [] 19 _ ?_ (hR:=(λ_ h=>h));refine BM ?_;by_cases h1:o.kd=1
  ·refine BM ?_;apply Ym
   ·exact AL rfl rfl λl2 hl=>DB fi n o.fi o.fr l2
   all_goals try rfl
   cases hW:KR fi n o.fi o.fr with
   |true=>refine BM ?_;refine Aj ?_;exact BE [] rfl .refl (by exact Ba) ⟨by unfold JT;rw[hM,Au h1,hW];rfl,rfl⟩
   |false=>
    refine BM ?_;refine Aj ?_;refine Cm [] 16 _ ?_ (hR:=(λ_ h=>h));by_cases h5:kd=1
    ·refine BM ?_;apply Ym
     ·exact AL rfl rfl λl2 hl=>DB o.fi o.fr fi n l2
     all_goals try rfl
     refine BM ?_;refine Aj ?_;exact BE [] rfl .refl (by exact Ba) ⟨by unfold JT;rw[hM,Au h1,hW,Au h5];rfl,rfl⟩
    ·refine BM ?_;refine Aj ?_;exact BE [] rfl .refl (by exact Ba) ⟨by unfold JT;rw[hM,Au h1,hW,Aw h5];rfl,rfl⟩
  ·refine BM ?_;refine Aj ?_;refine Cm [] 16 _ ?_ (hR:=(λ_ h=>h));by_cases h5:kd=1
   ·refine BM ?_;apply Ym
    ·exact AL rfl rfl λl2 hl=>DB o.fi o.fr fi n l2
    all_goals try rfl
    refine BM ?_;refine Aj ?_;exact BE [] rfl .refl (by exact Ba) ⟨by unfold JT;rw[hM,Aw h1,Au h5];rfl,rfl⟩
   ·refine BM ?_;refine Aj ?_;exact BE [] rfl .refl (by exact Ba) ⟨by unfold JT;rw[hM,Aw h1,Aw h5];rfl,rfl⟩
theorem next_any(b:Nat)(S:ArT)(lq:Ac)(hA:IsA b S lq)(f:Int)(l:Ac)(CG: ∀c,c∈lq->c∈l):
 Fn prog 181 [.pointer (some ⟨b,0,none⟩),.int .i64 f] l λv l'=>v= .int .i64 (nextD S f)/\l'=l:=by
 obtain⟨Dm,v,cs,rfl,ho⟩:=hA;have hm:=CG _ (.head _);have c0:=uZ S.n S.g v;have Z7:=Dm.n1;have kh:=Dm.n2;refine AN func181 ntmps181 λE=>?_;refine Aj ?_;by_cases h1:f<0
 ·refine Aj ?_;exact BE [] rfl .refl (by exact Ba) ⟨by unfold nextD;rw[Ad h1];rfl,rfl⟩
 by_cases h2:f>=S.n
 ·refine Aj ?_;exact BE [] rfl .refl (by exact Ba) ⟨by unfold nextD;rw[Ab h1,Ad h2];rfl,rfl⟩
 obtain⟨j,rfl⟩: ∃j:Nat,f=j:=⟨f.toNat,Af⟩
 have hj:j<64:=by omega
 have cg:=u7 S.n S.g v hj;have hg:=Dm.g1 j;by_cases h3:(j:Int)+1+64*S.g j>65535
 ·refine Aj ?_;exact BE [] rfl .refl (by exact Ba) ⟨by unfold nextD;rw[Ab h1,Ab h2,A0,Ad h3];rfl,rfl⟩
 ·refine Aj ?_;exact BE [] rfl .refl (by exact Ba) ⟨by unfold nextD;rw[Ab h1,Ab h2,A0,Ab h3];rfl,rfl⟩
def XN(os:OL):List (ObT×Nat):=os.zipIdx
theorem Qn(os:OL)(k:Nat):(XN os)[k]?=os[k]?.map λo=>(o,k):=by unfold XN;rw[List.getElem?_zipIdx];simp
theorem ed(os:OL):(XN os).length=os.length:=List.length_zipIdx
theorem TD(h:os[k]?=some o):(XN os).take (k+1)=(XN os).take k++[(o,k)]:=by rw[Ch,Qn,h];rfl
theorem Qo(h:pre++[x]<+:XN os):os[x.2]?=some x.1/\x.2=pre.length/\pre=(XN os).take x.2:=by
 obtain⟨r,hr⟩:=h;have h1:(XN os)[pre.length]?=some x:=by rw[<-hr];simp
 rw[Qn] at h1;cases ho:os[pre.length]? with
 |none=>rw[ho] at h1;simp at h1
 |some o=>
  rw[ho] at h1;have:x=(o,pre.length):=by simpa using h1.symm
  subst this;refine⟨ho,rfl,?_⟩;show pre=(XN os).take pre.length;rw[<-hr,Am,GX rfl]
abbrev xB(B:Nat)(b:Option Addr):Bd:=(B,.cells #[.pointer b] 155 (0,0))
abbrev AbA(gb:Nat)(v:Value)(os:OL):Prop:=v= .slice none 0 0/\os.length=0\/ ∃cap,v= .slice (some ⟨gb,0,none⟩) os.length cap
theorem HY(B b:Nat)(n:Int)(g:Nat->Int)(v:Value)(os:OL)(gb:Nat)(hv:AbA gb v os)(hn:os.length<=900000):
 FC prog 168 [.pointer (some ⟨B,0,none⟩)] (λx:ObT×Nat=>[.int .i64 (x.2:Nat),.pointer (some ⟨gb,x.2*9,none⟩)]) (λxs=>xs=XN os) (λpre=>pre<+:XN os)
  (λ_ l=>xB B (some ⟨b,0,none⟩)∈l/\TC b n g v∈l):=by
 refine⟨λr I Ix G0 Cb hY l G hG h0=>?_⟩;obtain⟨p,cap,rfl,hp⟩: ∃p cap,v= .slice p os.length cap/\(0<os.length->p=some ⟨gb,0,none⟩):=by
  rcases hv with⟨h,h0⟩|⟨cap,h⟩
  ·exact⟨none,0,by rw[h,h0],λh=>by omega⟩
  ·exact⟨_,cap,h,λ_=>rfl⟩
 obtain⟨n1,n2⟩:=Cb _ _ G hG h0;have cl:=VK n g (.slice p os.length cap);refine AN func168 ntmps168 λE=>?_;refine Aj ?_;refine CN (α:=Nat×Ac) (λx=>[(0,.func (.yield r) #[] #[]),(1,.pointer (some ⟨B,0,none⟩)),(10,.int .i64 os.length),(11,.int .i64 x.1)]) (λx=>x.2++G) (λx=>x.1<=os.length/\I ((XN os).take x.1) x.2) (λx=>os.length-x.1) (0,l) ⟨Bp _,h0⟩ ⟨rfl,rfl,rfl,rfl,trivial⟩ .refl ?_;clear n1 n2;rintro⟨k,l⟩ ⟨hk,hI⟩;simp only at hk hI⊢;obtain⟨n1,n2⟩:=Cb _ _ G hG hI;by_cases C9:k<os.length
 ·obtain⟨o,ho⟩: ∃o,os[k]?=some o:=⟨_,Al C9⟩
  have qx:=hp Af;subst qx;refine Aj ?_;have hy:=hY ((XN os).take k) (o,k) l G hG hI (by rw[<-TD ho];exact BK _ _);refine AS (C5 rfl rfl hy) ?_;rintro v l' ⟨l1,rfl,⟨rfl,LB⟩|⟨rfl,hx⟩⟩
  ·refine Aj ?_;exact BO (k+1,l1) ⟨by simp only;omega,by simp only;rw[TD ho];exact LB⟩ (by simp only;omega) ⟨rfl,rfl,rfl,rfl,trivial⟩ .refl
  ·refine Aj ?_;exact BE [] rfl .refl (by exact Ba) ⟨l1,rfl,.inr ⟨_,by rw[<-TD ho];exact BK _ _,hx⟩⟩
 ·obtain rfl:k=os.length:=by omega
  rw[<-ed,D8] at hI;refine Aj ?_;exact Bb .refl ⟨l,rfl,.inl ⟨_,rfl,hI⟩⟩
abbrev GJ(B:Nat)(x:Int):Bd:=(B,.cells #[.int .i64 x] 3 (0,0))
abbrev obK(B:Nat)(o:ObT):Bd:=(B,.cells (toArray (obC o)) 100 (0,0))
def atO(os:OL)(id:Int):Option Nat:=os.findIdx? λo=>decide (o.id=id)
def WQ(os:OL)(id:Int):Int:=match atO os id with|some k=>(k:Int)|none=> -1
theorem atO_some(h:atO os id=some k): ∃o,os[k]?=some o/\o.id=id:=by unfold atO at h;rw[I7] at h;obtain⟨h1,h2,_⟩:=h;exact⟨_,Al h1,by simpa using h2⟩
theorem Oo(h:atO os id=none):WQ os id= -1:=by unfold WQ;rw[h]
theorem Oq(h:atO os id=some k):WQ os id=(k:Int):=by unfold WQ;rw[h]
theorem WR{e:Nat}{v:Value}{cs:Ac}(ho:OwnSl e 9 v os.length (ocs os) cs): ∃gb,AbA gb v os/\ ∀(k:Nat) (o:ObT),os[k]?=some o-> ∃sp,cs=[(gb,Obj.cells (toArray (ocs os++sp)) e (0,0))]:=by
 rcases ho.2 with⟨rfl,h0,rfl⟩|⟨b,cap,sp,rfl,rfl,_⟩
 ·exact⟨0,.inl ⟨rfl,h0⟩,λk o h=>by have:=(Ay.1 h).1;omega⟩
 ·exact⟨b,.inr ⟨cap,rfl⟩,λk o h=>⟨sp,rfl⟩⟩
theorem xx(h:pre++[x]<+:XN os)(hp: ∀y,y∈pre->y.1.id≠id)(hx:x.1.id=id):WQ os id=(x.2:Int):=by
 obtain⟨h1,h2,h3⟩:=Qo h;refine Oq ?_;unfold atO;rw[I7];obtain⟨hl,he⟩:=Ay.1 h1;refine⟨hl,by rw[he];simpa using hx,λj hj=>?_⟩;have kA:j<os.length:=by omega
 have hm:(os[j],j)∈pre:=by rw[h3];refine Bc (i:=j) ?_;rw[IC,Ad Af,Qn,Al kA];rfl
 have:=hp _ hm;simpa using this
theorem ru(hp: ∀y,y∈XN os->y.1.id≠id):WQ os id= -1:=by refine Oo ?_;unfold atO;rw[List.findIdx?_eq_none_iff];intro o ho;obtain⟨k,hk⟩:=J8 ho;have:(o,k)∈XN os:=Bc (i:=k) (by rw[Qn,hk];rfl);simpa using hp _ this
theorem JU(b:Nat)(S:ArT)(lq:Ac)(hA:IsA b S lq)(id:Int)(l:Ac)(CG: ∀c,c∈lq->c∈l):
 Fn prog 167 [.pointer (some ⟨b,0,none⟩),.int .i64 id] l λv l'=>v= .int .i64 (WQ S.os id)/\l'=l:=by
 have Eh:=hA.ok.len;obtain⟨Dm,v,cs,rfl,ho⟩:=hA;obtain⟨gb,LD,Oz⟩:=WR ho;refine AN func167 ntmps167 λE=>?_;refine Im λb3=>?_;refine Im λb4=>?_;refine AS (Az rfl rfl (Jm _ rfl _)) ?_;rintro _ _ ⟨B,rfl,rfl⟩;refine gz ?_;refine Dg (α:=ObT×Nat) (ps:=[9,10]) (lb:=[.pointer (some ⟨B,0,none⟩)]) rfl (HY B b S.n S.g v S.os gb LD Af) (λ_=>rfl) rfl
  (λpre l=>l=[xB B (some ⟨b,0,none⟩),GJ b4 0,GJ b3 id]/\ ∀x,x∈pre->¬x.1.id=id)
  (λc pre l=>c= .ret/\ ∃(G8:List (ObT×Nat)) (x:ObT×Nat),pre=G8++[x]/\(∀x,x∈G8->¬x.1.id=id)/\x.1.id=id/\l=[GJ b4 (x.2:Nat)])
  _ l (λpre l2 X2 hX h=>⟨by rw[h.1];exact List.Mem.head _,Aa _ (hX _ (CG _ (.head _)))⟩) (by exact AW) ⟨rfl,by simp⟩ ?_ ?_ ?_
 ·rintro E r0 FU pre ⟨o,k⟩ l' T ⟨fn,tmps,D,rfl⟩ hT ⟨rfl,Gn⟩ Dw;obtain⟨Gc,_,_⟩:=Qo Dw;simp only at Gc;obtain⟨sp,rfl⟩:=Oz _ _ Gc;have ut:=hT _ (CG _ (.tail _ (.head _)));have c0:(toArray (ocs S.os++sp))[k*9]?=some (.int .i64 o.id):=PN Gc sp 0 Af;simp only[DX,Ae,Ag];refine gz ?_;refine CK (by exact DY) ?_;refine gz ?_;refine Cm [] 6 _ ?_ (hR:=(λ_ h=>h));refine pz ?_;by_cases hy:o.id=id
  ·refine gz ?_;refine EI [GJ b4 (k:Nat)] (by exact AW) ⟨rfl,pre,(o,k),rfl,Gn,hy,rfl⟩
  ·refine gz ?_;refine Ci _ .refl ⟨rfl,λx hx=>?_⟩;rcases AF.1 hx with hx|hx
   ·exact Gn x hx
   ·rw[AC.1 hx];exact hy
 ·rintro D xs l' rfl ⟨rfl,Gn⟩;rw[ru Gn];simp only[Ae,Ag];refine gz ?_;exact AU [D] (GJ b4 (-1)::l) rfl (l':=l) (by exact AW) (by exact Ba) (.drop .refl) ⟨rfl,rfl⟩
 ·rintro D c pre l' Dw ⟨rfl,G8,x,rfl,km,ht,rfl⟩;rw[xx Dw km ht];simp only[Ae,Ag];refine gz ?_;exact AU [D] (GJ b4 (x.2:Nat)::l) rfl (l':=l) (by exact AW) (by exact Ba) (.drop .refl) ⟨rfl,rfl⟩
def getD'(S:ArT)(id:Int):ObT×Bool:=match atO S.os id with
 |some k=>(S.os.getD k obO,true)
 |none=>(obO,false)
theorem get_any(b:Nat)(S:ArT)(lq:Ac)(hA:IsA b S lq)(id:Int)(l:Ac)(CG: ∀c,c∈lq->c∈l):
 Fn prog 112 [.pointer (some ⟨b,0,none⟩),.int .i64 id] l λv l'=>v= .tuple #[.agg (toArray (obC (getD' S id).1)),.bool (getD' S id).2]/\l'=l:=by
 have NG:=hA;have Eh:=hA.ok.len;obtain⟨Dm,v,cs,rfl,ho⟩:=hA;have hm:=CG _ (.head _);have cl:=VK S.n S.g v;refine AN func112 ntmps112 λE=>?_;refine Im λb4=>?_;refine Bh (AL rfl rfl λl2 hl=>JU b S _ NG id l2 (λc hc=>hl _ (.tail _ (CG _ hc)))) ?_;cases hk:atO S.os id with
 |none=>rw[Oo hk];refine gz ?_;exact AU [] (obK b4 obO::l) rfl (l':=l) .refl (by exact Ba) (.drop .refl) ⟨by unfold getD';rw[hk];rfl,rfl⟩
 |some k=>
  rw[Oq hk];obtain⟨o,Gc,_⟩:=atO_some hk;have ZT:=(Ay.1 Gc).1;rcases ho.2 with⟨_,h0,_⟩|⟨gb,cap,sp,rfl,rfl,_⟩
  ·omega
  obtain⟨x1,x2⟩:=ea Gc sp;have UW:=CG _ (.tail _ (.head _));refine gz ?_;refine Bh (Dt rfl (List.Mem.tail _ UW) x1 x2) ?_;refine gz ?_;refine CT (l':=l) (obK b4 o::l) .refl (.drop .refl) ⟨?_,rfl⟩;unfold getD';rw[hk];simp only[List.getD,Gc,Dx,JH]
theorem lK(pre:OL)(y:ObT):ocs (pre++[y])=ocs pre++obC y:=by rw[Ni];show _++(obC y++[])=_;rw[Bj]
def insD(os:OL)(o:ObT):OL:=os.takeWhile (λx=>decide (x.id<=o.id))++o::os.dropWhile (λx=>decide (x.id<=o.id))
def newO(S:ArT)(kd sz fi:Int):ObT:=⟨nextD S fi,kd,sz,fi,framesD kd sz,0,0,0,0⟩
def addE(S:ArT)(kd sz fi:Int):Int:=
 if framesD kd sz=0 then 2 else if fi<0\/fi>S.n-framesD kd sz then 3
 else if(S.os.all λo=>JT kd fi (framesD kd sz) o)=false then 16 else if nextD S fi=0 then 11 else 0
def addD(S:ArT)(kd sz fi:Int):(Int×Int)×ArT:=
 if addE S kd sz fi=0 then((nextD S fi,0),{S with g:=upd S.g fi.toNat (S.g fi.toNat+1),os:=insD S.os (newO S kd sz fi)}) else((0,addE S kd sz fi),S)
theorem frames_rng(k s:Int):0<=framesD k s/\framesD k s<=64:=by
 unfold framesD
 repeat' split
 all_goals omega
theorem xz(hk:k<=os.length)(h1: ∀x∈os.take k,x.id<=o.id)(h2: ∀x∈os.drop k,¬x.id<=o.id):insD os o=os.take k++o::os.drop k:=by
 have e:os=os.take k++os.drop k:=(Cp ..).symm;have t1:os.takeWhile (λx=>decide (x.id<=o.id))=os.take k:=by
  conv=>lhs;rw[e]
  rw[GY λx hx=>by simpa using h1 x hx];cases hd:os.drop k with
  |nil=>simp
  |cons y r=>rw[Fz,Bj];simpa using h2 y (by rw[hd];exact .head _)
 have t2:os.dropWhile (λx=>decide (x.id<=o.id))=os.drop k:=by
  conv=>lhs;rw[e]
  rw[List.dropWhile_append_of_pos λx hx=>by simpa using h1 x hx];cases hd:os.drop k with
  |nil=>simp
  |cons y r=>rw[Hs];simpa using h2 y (by rw[hd];exact .head _)
 unfold insD;rw[t1,t2]
theorem rv(h:os.Pairwise λx y=>x.id<y.id){x y:ObT}(hx:os[i]?=some x)(hy:os[j]?=some y)(Wt:i<j):x.id<y.id:=by obtain⟨h1,rfl⟩:=Ay.1 hx;obtain⟨h2,rfl⟩:=Ay.1 hy;exact FT.1 h i j h1 h2 Wt
theorem SE{x:ObT}:x∈insD os o<->x=o\/x∈os:=by
 unfold insD;have e:=Cd (p:=λx:ObT=>decide (x.id<=o.id)) (l:=os)
 conv=>rhs;rw[<-e]
 simp only[AF,At];constructor
 ·rintro(h|h|h)
  ·exact .inr (.inl h)
  ·exact .inl h
  ·exact .inr (.inr h)
 ·rintro(h|h|h)
  ·exact .inr (.inl h)
  ·exact .inl h
  ·exact .inr (.inr h)
theorem WS(os:OL)(o:ObT):(insD os o).length=os.length+1:=by unfold insD;have e:=BI List.length (Cd (p:=λx:ObT=>decide (x.id<=o.id)) (l:=os));rw[Ah] at e;rw[Ah,Bu];omega
theorem YA(h:os.Pairwise λx y=>x.id<y.id)(a:Int): ∀x∈os.dropWhile (λx=>decide (x.id<=a)),a<x.id:=by
 induction os with
 |nil=>intro x hx;cases hx
 |cons y r ih=>
  obtain⟨h1,h2⟩:=Cf.1 h;intro x hx;by_cases hy:y.id<=a
  ·rw[List.dropWhile_cons_of_pos (by simpa using hy)] at hx;exact ih h2 x hx
  ·rw[Hs (by simpa using hy)] at hx;rcases At.1 hx with rfl|hx
   ·omega
   ·have:=h1 x hx;omega
theorem lL(a:Int): ∀x∈os.takeWhile (λx=>decide (x.id<=a)),x.id<=a:=by
 induction os with
 |nil=>intro x hx;cases hx
 |cons y r ih=>
  intro x hx;by_cases hy:y.id<=a
  ·rw[Ht (by simpa using hy)] at hx;rcases At.1 hx with rfl|hx
   ·exact hy
   ·exact ih x hx
  ·rw[Fz (by simpa using hy)] at hx;cases hx
theorem SF(h:os.Pairwise λx y=>x.id<y.id)(He: ∀x∈os,x.id≠o.id):(insD os o).Pairwise λx y=>x.id<y.id:=by
 unfold insD;have hT:=(List.takeWhile_sublist (l:=os) λx:ObT=>decide (x.id<=o.id))
 have hD:=(Je (l:=os) λx:ObT=>decide (x.id<=o.id))
 refine Br.2 ⟨h.sublist hT,Cf.2 ⟨λx hx=>YA h o.id x hx,h.sublist hD⟩,λx hx y hy=>?_⟩;have h1:=lL o.id x hx;have h2:=He x (hT.subset hx);rcases At.1 hy with rfl|hy
 ·omega
 ·have:=YA h o.id y hy;omega
theorem TE(hS:S.Ok)(h:nextD S f≠0):0<=f/\f<S.n/\nextD S f=f+1+64*S.g f.toNat/\nextD S f<=65535/\1<=nextD S f:=by
 unfold nextD at*;have:=hS.g1 f.toNat
 split at h
 ·exact absurd rfl h
 split at h
 ·exact absurd rfl h
 split at h
 ·exact absurd rfl h
 rename_i h1 h2 h3;rw[Ab h1,Ab h2,Ab h3];refine⟨Af,Af,rfl,Af,Af⟩
theorem lM(hS:S.Ok)(h:nextD S f≠0): ∀x∈S.os,x.id≠nextD S f:=by
 intro x hx he;obtain⟨f0,f1,f2,_⟩:=TE hS h;obtain⟨a0,a1,c,c0,c1,c2⟩:=hS.num x hx;have:=hS.n2;have e:x.fi=f:=by omega
 subst e;omega
theorem gV{kd sz fi:Int}(h:addE S kd sz fi=0):framesD kd sz≠0/\0<=fi/\fi<=S.n-framesD kd sz/\(S.os.all λo=>JT kd fi (framesD kd sz) o)=true/\nextD S fi≠0:=by
 unfold addE at h
 split at h
 ·omega
 split at h
 ·omega
 split at h
 ·omega
 split at h
 ·omega
 rename_i h1 h2 h3 h4;exact⟨h1,Af,Af,by simpa using h3,h4⟩
theorem xA(hS:S.Ok)(kd sz fi:Int):(addD S kd sz fi).2.Ok:=by
 unfold addD
 split
 ·rename_i h;obtain⟨h1,h2,h3,h4,h5⟩:=gV h;obtain⟨f0,f1,f2,f3,f4⟩:=TE hS h5;have hg:=hS.g1 fi.toNat;refine⟨hS.n1,hS.n2,λj=>?_,SF hS.asc (lM hS h5),λx hx=>?_,λx hx=>?_⟩
  ·show 0<=upd S.g fi.toNat (S.g fi.toNat+1) j/\upd S.g fi.toNat (S.g fi.toNat+1) j<=1024;by_cases e:j=fi.toNat
   ·subst e;rw[DL];omega
   ·rw[Dl _ _ _ _ e];exact hS.g1 j
  ·rcases SE.1 hx with rfl|hx
   ·exact⟨f4,f3⟩
   ·exact hS.rng x hx
  ·show 0<=x.fi/\x.fi<S.n/\ ∃c:Int,0<=c/\c<upd S.g fi.toNat (S.g fi.toNat+1) x.fi.toNat/\_;rcases SE.1 hx with rfl|hx
   ·exact⟨f0,f1,S.g fi.toNat,hg.1,by rw[show(newO S kd sz fi).fi.toNat=fi.toNat from rfl,DL];omega,f2⟩
   ·obtain⟨a0,a1,c,c0,c1,c2⟩:=hS.num x hx;refine⟨a0,a1,c,c0,?_,c2⟩;by_cases e:x.fi.toNat=fi.toNat
    ·rw[e,DL];rw[e] at c1;omega
    ·rw[Dl _ _ _ _ e];exact c1
 ·exact hS
end Ar
end Go.Proofs.YtlifcingifodfaaGreat
