/- Laws. -/
import Derived.Test.YtlifcingifodfaaGreatGd4
import Derived.Lib.Overlaps
import Derived.Laws.CopyRow
set_option maxHeartbeats 4000000
set_option linter.all false
namespace Go.Proofs.YtlifcingifodfaaGreat
open Tryz
open List(replicate)
open List renaming toArray→τ
open Go.RowKit
variable{A B:Ac}{P:Program}{f:FuncId}{args:Ap}{α:Type}
theorem BV(h: ∀(f:Ac->Nat) (g:Bh->Nat),f []=0->(∀x l,f (x::l)=g x+f l)->(∀x y,f (x++y)=f x+f y)->f A=f B:=by intro f g h0 h1 h2;simp only[CZ,AK,h0,h1,h2];try omega):A.Perm B:=by
 classical
 refine List.perm_iff_count.2 λa=>h (λl=>List.count a l) (λx=>List.count a [x]) rfl (λx l=>?_) (λx y=>List.count_append);rw[show x::l=[x]++l from rfl,List.count_append]
theorem A9(X:Ac)(h: ∀(f:Ac->Nat) (g:Bh->Nat),f []=0->(∀x l,f (x::l)=g x+f l)->(∀x y,f (x++y)=f x+f y)->f A=f (X++B):=by intro f g h0 h1 h2;simp only[CZ,AK,h0,h1,h2];try omega):Keep A B:=⟨X,BV h⟩
theorem Fn.mvP{F:Ac}{Kv:Value->Prop}{I:Ac->Prop}(Γ:Ac->Ac)(h:Fn P f args (A++F) λv l'=>Kv v/\ ∃A',I A'/\l'=A'++F)
 (hΓ: ∀A,(Γ A).Perm (A++F):=by intro A;exact BV):Fn P f args (Γ A) λv l'=>Kv v/\ ∃A',I A'/\l'=Γ A':=
 Fn.re (.of_perm (hΓ A)) h λv l' ⟨h1,A',h2,h3⟩=>⟨_,by rw[h3];exact .of_perm (hΓ A').symm,h1,A',h2,rfl⟩
set_option maxRecDepth 20000
abbrev pV(b:Nat):Value:= π b
abbrev TX(b:Nat)(v:Value):Bh:=(b,.cells (τ [v]) 282 (0,0))
structure M9 where
 sp:Int
 pg:Int
 fr:Int
 rd:Bool
 wr:Bool
deriving DecidableEq
abbrev RF(t:M9):Ap:=[ι t.sp,ι t.pg,ι t.fr,.bool t.rd,.bool t.wr]
abbrev Rq:M9:=⟨0,0,0,false,false⟩
structure LQ where
 w:Nat->M9
 d:Nat->Int
def iN(T:LQ)(s:Nat):Ap:=RF (T.w (2*s))++(RF (T.w (2*s+1))++[ι (T.d s)])
def SY(T:LQ):Ap:=iN T 0++(iN T 1++(iN T 2++iN T 3))
abbrev Oh(b:Nat)(T:LQ):Bh:=(b,.cells (τ (SY T)) 399 (0,0))
structure IQ where
 ro:Int
 sp:Int
 tb:LQ
abbrev QO(c:IQ×Nat):Ap:=[ι c.1.ro,ι c.1.sp,pV c.2]
def GP(ks:List (IQ×Nat)):Ac:=ks.map λc=>Oh c.2 c.1.tb
def IsCos(b:Nat)(K:List IQ)(lq:Ac):Prop:= ∃v cs ks,ks.map Prod.fst=K/\OwnSl 309 3 v ks.length (ks.flatMap QO) cs/\(∀c,c∈ks-> ∀s,s<4->c.1.tb.d s=0\/c.1.tb.d s=1)/\lq=TX b v::(cs++GP ks)
abbrev tbZ:LQ:=⟨λ_=>Rq,λ_=>0⟩
abbrev aE:IQ:=⟨-1,0,tbZ⟩
theorem mD(l:Ac):Fn prog 177 [] l λv l'=> ∃b,v= π b/\l'=Oh b tbZ::l:=by refine AO func177 ntmps177 λE=>?_;refine AR λb=>?_;exact Bc .refl ⟨_,rfl,rfl⟩
def AcC(b n:Nat)(lq:Ac):Prop:=IsCos b (replicate n aE) lq
theorem mF(n:Nat)(h1:1<=n)(h2:n<=3)(l:Ac):Fn prog 127 [ι (n:Nat)] l λv l'=> ∃b,v= .tuple #[π b,ι 0]/\ ∃lq X,AcC b n lq/\l'=lq++(X++l):=by
 refine AO func127 ntmps127 λE=>?_;refine AR λb=>?_;refine CF (α:=Nat×Value×List Nat×Ac) (λx=>[(4,π b),(13,ι n),(14,ι x.1)]) (λx=>TX b x.2.1::(x.2.2.2++(GP (x.2.2.1.map λc=>(aE,c))++l)))
  (λx=>x.1<=n/\x.2.2.1.length=x.1/\OwnSl 309 3 x.2.1 x.1 ((x.2.2.1.map λc=>(aE,c)).flatMap QO) x.2.2.2) (λx=>n-x.1) (0,.slice none 0 0,[],[]) ⟨Bm _,rfl,OwnSl.nil _ _⟩ ⟨rfl,rfl,rfl,trivial⟩ .refl ?_
 rintro⟨i,v,bs,cs⟩ ⟨hi,hbs,ho⟩;simp only at hi hbs ho⊢;have Js:v.oneCell'=true:=ho.one;by_cases C7:i<n
 ·refine Aj ?_;refine Ct [5,7,8,11] 12 ([]) ?_;refine BJ ?_;apply Gy (S:=[TX b v]);(·exact VE);(·exact Da (.head _));(·rfl);(·rfl);(·rfl);refine BJ ?_;apply Hi
  ·exact Az rfl rfl (mD _)
  ·rfl
  ·rfl
  ·rfl
  ·intro _ _ _ c hc;cases hc
  ·rintro _ _ ⟨_,_,rfl⟩ x hx _ c hc;rw[Ay.1 hx] at hc;rw[Ay.1 hc];exact .tail _ (.head _)
  rintro _ _ ⟨bt,rfl,rfl⟩;refine BJ ?_;apply Hi
  ·exact FB (k:=3) (zs:=[ι 0,ι 0,.pointer none]) rfl rfl rfl A0 A0
  ·rfl
  ·rfl
  ·rfl
  ·intro _ _ _ c hc;cases hc
  ·rintro _ _ ⟨_,_,_,rfl⟩ x hx _ c hc;rw[Ay.1 hx] at hc;rw[Ay.1 hc];exact .tail _ ν
  rintro _ _ ⟨bl,_,rfl,rfl⟩;refine BJ ?_;apply Hi
  ·exact HM (k:=3) (X:=[_,_]) (cs:=cs) (F:=GP (bs.map λc=>(aE,c))++l) (n:=i) (xs:=(bs.map λc=>(aE,c)).flatMap QO) (zs:=[ι 0,ι 0,.pointer none]) rfl rfl rfl ho rfl (by simp[Value.oneCell']) Af A0
  (·rfl);(·rfl);(·rfl);(·intro _ _ _ c hc;cases hc);(·exact λ_ _ _ x hx ha=>Dk Bu hx ha)
  rintro v2 _ ⟨c2,F0,rfl⟩;simp only[Ae,Ag];have hv2:v2.oneCell'=true:=F0.one;refine BJ ?_;apply HL
  ·exact GM rfl rfl hv2 Ca .zero D1
  (·rfl);(·rfl);(·intro _ _ _ c hc;cases hc);(·exact λ_ _ _ x hx ha=>Dk Bu hx ha)
  rintro _ _ ⟨rfl,rfl⟩;refine BJ ?_;refine Aj ?_;have e1:GP ((bs++[bt]).map λc=>(aE,c))=GP (bs.map λc=>(aE,c))++[Oh bt tbZ]:=by unfold GP;rw[At,At];rfl
  have e2:((bs++[bt]).map λc=>(aE,c)).flatMap QO=(bs.map λc=>(aE,c)).flatMap QO++QO (aE,bt):=by rw[At,Eg];rfl
  exact BZ (i+1,v2,bs++[bt],c2) ⟨by simp only;omega,by rw[Ah,hbs];rfl,by simp only;rw[e2];exact F0⟩ (by simp only;omega) ⟨rfl,rfl,rfl,trivial⟩ (by
   simp only;rw[e1,Am];exact .of_perm ((List.Perm.swap _ _ _).trans (List.Perm.cons _ (by refine AJ.symm.trans (E2 _ ?_);exact AJ.symm))))
 ·obtain rfl:i=n:=by omega
  refine Aj ?_;refine BF [] rfl .refl Ba ⟨_,rfl,_,[],⟨v,cs,bs.map λc=>(aE,c),?_,by rw[A5,hbs];exact ho,?_,rfl⟩,by simp⟩
  ·rw[CO];exact List.eq_replicate_iff.2 ⟨by rw[A5,hbs],λx hx=>by obtain⟨_,_,rfl⟩:=Ax.1 hx;rfl⟩
  ·intro c hc s _;obtain⟨_,_,rfl⟩:=Ax.1 hc;exact .inl rfl
namespace Ar
variable{e yb T k n cap N gb m:Nat}{P:Program}{ro:Option Nat}{R F:Ac}{ty:TypeId}{pos:String}{g:Option (Nat×Bool)}{x:Operand}{p:Option Addr}
theorem bM(w:World)(dT sT ty elem:TypeId)(i:TypeInfo)(g o dLen dCap:Nat)(a:Addr)(JY sCap:Nat)(cur:Array Value)(t:TypeId)(cs:Ap)
 (hu:P.underlying dT=some (.slice elem))(hi:P.info? elem=some i)
 (hg:w.heap[g]?=some (.cells cur t (0,0)))(hn:cs.length=Nat.min JY dLen*i.size)
 (xP: ∀j v,cs[j]?=some v->w.cell? (a.add j)=some v)(W6:o+cs.length<=cur.size)(h1: ∀v∈cs,v.oneCell'=true):
 (Builtin.copy_ #[dT,sT] ty #[.slice (some ⟨g,o,none⟩) dLen dCap,.slice (some a) JY sCap]).run P w=
   .ok (goInt (Nat.min JY dLen)) (w.setRow g (cur.toList.take o++cs++cur.toList.drop (o+cs.length)).toArray):=by
 have hl:=run_firstCells_some (P:=P) (w:=w) i.size (Nat.min JY dLen) a JY sCap cs hn xP;have LF:=run_storeCells_at P g o t cs 0 cur w hg (by simpa using W6) h1;simp only[CM] at LF;have e1:(Builtin.lenOf (.slice (some a) JY sCap)).run P w= .ok JY w:=rfl;have e2:(sizeOf elem).run P w= .ok i.size w:=by simp[sizeOf,typeInfo,hi]
 unfold Builtin.copy_;simp only[AF,Df,De,Sem.run_bind,run_underlying hu,Result.andThen_ok,e1,e2,hl,LF];rfl
theorem RG(w:World)(t tn ty e:TypeId)(i:TypeInfo)(z:Value)(k kn:IntKind)(ht:P.underlying t=some (.slice e))(htn:P.underlying tn=some (.int kn))(hi:P.info? e=some i)(hz:i.zero=some z)
 (b:Addr)(JY sCap:Nat)(rE:Ap)(xQ:rE.length=JY*i.size)(holds: ∀j v,rE[j]?=some v->w.cell? (b.add j)=some v)
 (n:Nat)(h0:0<n)(hs:0<i.size)(hg:sCap<JY+n)(h63:JY+n<=1000000)(ee:i.bytes<=1000)(W6:Builtin.nextslicecap (JY+n) sCap*i.bytes<=281474976710656):
 (Builtin.append_ #[t,tn] ty #[.slice (some b) JY sCap,.int k n]).run P w=
   .ok (.slice (some ⟨w.heap.size,0,none⟩) (JY+n) (grownCap w (JY+n) sCap e)) (w.drew.alloc (.cells (rE.toArray++Builtin.zeroCells z.cells n++Builtin.zeroCells z.cells (grownCap w (JY+n) sCap e-(JY+n))) e)):=by
 have hw:IntKind.i64.wrap (n:Int)=n:=by rw[IntKind.wrap_i64];omega
 have h48:(n:Int)*(i.bytes:Int)<=1000000000:=by have:n*i.bytes<=1000000*1000:=Jn Af ee;rw[<-KB];omega
 have AeK:¬(281474976710656<(n:Int)*(i.bytes:Int)):=by omega
 have AeL:¬((n:Int)<0):=by omega
 have xR:¬(n*i.size=0):=Nat.mul_ne_zero Af Af;have hn:¬(JY+n<=sCap):=by omega
 have AeM:¬(9223372036854775807<((JY:Int)+(n:Int))):=by omega
 have AeN:¬(281474976710656<Builtin.nextslicecap (JY+n) sCap*i.bytes):=by omega
 have vK:=run_firstCells_some (P:=P) (w:=w.drew) i.size JY b JY sCap rE xQ (by simpa using holds);simp[Builtin.append_,run_underlying ht,run_underlying htn,sizeOf,typeInfo,zeroValue,hi,hz,asInt,asIntOf,hw,hn,AeL,xR,AeM,AeN,AeK,Question.forced,vK,newRow,grownCap]
section
variable{fr:Fr}{l:Ac}{d:Option Nat}{t:TypeId}{aft:Array Edge}{y s:Operand}{off b:Nat}
theorem AcD{kk:Nat}(hx:ev fr x=some (.slice p n cap))[c:ST P t e kk yb]:OpQ P ro N fr R ⟨d,.call {callee:= .builtin .cap,args:=#[x],argTypes:=#[t]},ty,pos,aft,g⟩ (ι (cap:Nat)):=BO rfl λρ l hρ _=>by obtain⟨HH,h1,_⟩:=Fj c.out;simp only[execOp,resolve,AE,Bq,invoke,builtin,Dm,AK,CZ,hρ x _ hx,Builtin.cap_];show sl P (underlying t>>=_) l _;rw[Cg h1];exact⟨rfl,rfl⟩
theorem SZ{T2 o sb so dLen dCap JY sCap:Nat}{cur cs:Ap}{cl:Array Value}{ct:TypeId}{fz:Nat×Nat}(hx:ev fr x=some (.slice (some ⟨gb,o,none⟩) dLen dCap))(hy:ev fr y=some (.slice (some ⟨sb,so,none⟩) JY sCap))[c:ST P T e k yb]
 (hm:Nat.min JY dLen=m)(hl:cs.length=m*k)(hs:(sb,Obj.cells cl ct fz)∈(gb,.cells (τ cur) e (0,0))::F)(xP: ∀j u,cs[j]?=some u->cl[so+j]?=some u)(W6:o+cs.length<=cur.length)(h1: ∀u∈cs,u.oneCell'=true):
 OpE P ro N fr ((gb,.cells (τ cur) e (0,0))::F) ⟨d,.call {callee:= .builtin .copy,args:=#[x,y],argTypes:=#[T,T2]},ty,pos,aft,g⟩ (λv' l'=>v'= ι (m:Nat)/\l'=(gb,.cells (τ (cur.take o++cs++cur.drop (o+cs.length))) e (0,0))::F):=by
 subst hm;refine⟨rfl,λE a W hf hs'=>?_⟩;have hρ:=hf.agrees;obtain⟨HH,u1,u2,u3,u4⟩:=Fj c.out;have Yz:execOp a.eval ⟨d,.call {callee:= .builtin .copy,args:=#[x,y],argTypes:=#[T,T2]},ty,pos,aft,g⟩=(do pure (.value (<-Builtin.copy_ #[T,T2] ty #[.slice (some ⟨gb,o,none⟩) dLen dCap,.slice (some ⟨sb,so,none⟩) JY sCap])):Sem Next):=by simp[execOp,resolve,hρ x _ hx,hρ y _ hy,invoke,builtin]
 unfold OpVal;rw[Yz,Sem.run_bind];have hr:=bM (P:=P) W T T2 ty e HH gb o dLen dCap ⟨sb,so,none⟩ JY sCap (τ cur) e cs u1 u2 (hs'.has (gb,_) Al) (by rw[u3];exact hl) (λj u hj=>by rw[GL,hs'.cell hs];exact xP j u hj) (by simpa using W6) h1;rw[hr];exact⟨_,⟨rfl,rfl⟩,hs'.row⟩
theorem iO{tn:Nat}{xs sp zs:Ap}(hx:ev fr s=some (.slice (some ⟨gb,0,none⟩) n cap))(hy:ev fr x=some (ι (m:Nat)))[c:ST P T e k yb][cz:ZV P e zs][ci:IT P tn .i64](Sv:zs.length=k)(hk:0<k)
 (Rx:xs.length=n*k)(hm0:0<m)(PL:cap<n+m)(hn:n+m<=1000000)(ee:yb<=1000):
 OpE P ro N fr ((gb,.cells (τ (xs++sp)) e (0,0))::F) ⟨d,.call {callee:= .builtin .append,args:=#[s,x],argTypes:=#[T,tn]},ty,pos,aft,g⟩ (λv' l'=> ∃nb cap' In,(∀c,c∈(gb,Obj.cells (τ (xs++sp)) e (0,0))::F->c.1≠nb)/\v'= .slice (some ⟨nb,0,none⟩) (n+m) cap'/\l'=(nb,.cells (τ (xs++(replicate m zs).flatten++In)) e (0,0))::(gb,.cells (τ (xs++sp)) e (0,0))::F/\n+m<=cap'/\cap'<=maxLen/\(xs++(replicate m zs).flatten++In).length=cap'*k):=by
 refine⟨rfl,λE a W hf hs=>?_⟩;have hρ:=hf.agrees;obtain⟨HH,u1,u2,u3,u4⟩:=Fj c.out;obtain⟨xL,zv,z1,z2,z3⟩:=Kl cz.out;rw[u2] at z1;cases z1;have hu:=TQ ci.out;have Yz:execOp a.eval ⟨d,.call {callee:= .builtin .append,args:=#[s,x],argTypes:=#[T,tn]},ty,pos,aft,g⟩=(do pure (.value (<-Builtin.append_ #[T,tn] ty #[.slice (some ⟨gb,0,none⟩) n cap,ι (m:Nat)])):Sem Next):=by simp[execOp,resolve,hρ s _ hx,hρ x _ hy,invoke,builtin]
 unfold OpVal;rw[Yz,Sem.run_bind];have hzc:zv.cells=τ zs:=by rw[<-z3]
 have hold: ∀j u,xs[j]?=some u->W.cell? ((⟨gb,0,none⟩:Addr).add j)=some u:=λj u hj=>by rw[GL,hs.cell Al,BG];have C7:=(Aw.1 hj).1;simp only[AF];rw[AH C7];exact hj
 have W7:(n+m)*yb<=140737488355328:=by have:=Jn hn ee;omega
 have hr:=RG (P:=P) W T tn ty e HH zv .i64 .i64 u1 hu u2 z2 ⟨gb,0,none⟩ n cap xs (by rw[u3];exact Rx) hold m hm0 (by rw[u3];exact hk) PL hn (by rw[u4];exact ee) (growslice_fits Af (by rw[u4];exact W7));rw[hr];have Vk:=size_zeroCells zv.cells (grownCap W (n+m) cap e-(n+m));have hzm:Builtin.zeroCells zv.cells m=τ (replicate m zs).flatten:=by unfold Builtin.zeroCells;have LH:0<m*k:=Nat.mul_pos hm0 hk;have:=Wa hzc Sv LH;rw[show zv.cells.size=k by rw[hzc];simpa using Sv];rw[<-this,show zv.cells.size=k by rw[hzc];simpa using Sv]
 refine⟨_,⟨W.heap.size,grownCap W (n+m) cap e,(Builtin.zeroCells zv.cells (grownCap W (n+m) cap e-(n+m))).toList,λc hc=>?_,rfl,rfl,grownCap_ge _ _ _ _,grownCap_le_maxLen _ _ _ _ (by unfold maxLen;omega),?_⟩,?_⟩
 ·intro e1;have:=hs.has c hc;rw[e1] at this;simp at this
 ·have hge:=grownCap_ge W (n+m) cap e;have h1:(Builtin.zeroCells zv.cells (grownCap W (n+m) cap e-(n+m))).toList.length=(grownCap W (n+m) cap e-(n+m))*k:=by
   rw[Array.length_toList,Vk,show zv.cells.size=k by rw[hzc];simpa using Sv]
  have:(replicate m zs).flatten.length=m*k:=by simp[Sv]
  rw[Ah,Ah,Rx,h1,this,<-FE,<-FE];congr 1;omega
 ·have h2:=hs.drew.alloc (.cells (xs.toArray++Builtin.zeroCells zv.cells m++Builtin.zeroCells zv.cells (grownCap W (n+m) cap e-(n+m))) e);have e1:W.drew.heap.size=W.heap.size:=rfl;rw[e1] at h2;have e2:τ (xs++(replicate m zs).flatten++(Builtin.zeroCells zv.cells (grownCap W (n+m) cap e-(n+m))).toList)=xs.toArray++Builtin.zeroCells zv.cells m++Builtin.zeroCells zv.cells (grownCap W (n+m) cap e-(n+m)):=by
   rw[hzm];apply BQ.1;simp
  rw[e2];exact h2
theorem bO{f:Nat}{fn:Func}{at_:Array TypeId}{a1 o1 a2 o2 n1 c1 n2 c2:Nat}{cl1 cl2:Array Value}{t1 t2:TypeId}(hfx:ev fr s=some (.func (.func f) #[] #[]))(hx:ev fr x=some (.slice (some ⟨a1,o1,none⟩) n1 c1))(hy:ev fr y=some (.slice (some ⟨a2,o2,none⟩) n2 c2))[c:ST P T e k yb]
 (hf:P.funcs[f]?=some fn)(hfn:(fn.name== "runtime.NumGoroutine")=false)(hb:fn.body.isNone=true)(W8:Extern.findNext fn=none)(tR:TypeId)(AeO:Extern.find fn=some (Extern.SlicesOverlaps.overlaps #[T,T] #[tR]))
 (h1:(a1,Obj.cells cl1 t1 (0,0))∈R)(h2:(a2,Obj.cells cl2 t2 (0,0))∈R)(GS:a1≠a2)(h0:0<cl2.size):
 OpQ P ro N fr R ⟨d,.call {callee:= .value s,args:=#[x,y],argTypes:=at_},ty,pos,aft,g⟩ (.bool false):=by
 refine⟨λl hl=>⟨rfl,λE a W hfs hs=>?_⟩⟩;have hρ:=hfs.agrees;obtain⟨HH,u1,u2,u3,u4⟩:=Fj c.out;have k1:=hs.has _ (hl _ h1);have k2:=hs.has _ (hl _ h2);simp only at k1 k2;have hr:=Lib.run_overlaps_apart (P:=P) W T tR e u1 HH.size (λw=>by simp[sizeOf,typeInfo,u2]) ⟨a1,o1,none⟩ ⟨a2,o2,none⟩ n1 c1 n2 c2 GS t1 t2 cl1.size cl2.size (by simp[World.shape?,k1]) (by simp[World.shape?,k2]) Af (by simp[World.frozen?,k1]) (by simp[World.frozen?,k1]);have hc:=run_callFunc_extern (P:=P) hf hfn hb W8 AeO #[.slice (some ⟨a1,o1,none⟩) n1 c1,.slice (some ⟨a2,o2,none⟩) n2 c2] W;unfold OpVal;have Yz:(execOp a.eval ⟨d,.call {callee:= .value s,args:=#[x,y],argTypes:=at_},ty,pos,aft,g⟩).run P W= .ok (.value (.bool false)) W:=by simp only[execOp,resolve,Dm,AK,CZ,hρ s _ hfx,hρ x _ hx,hρ y _ hy,Deferred.ofValue,Sem.run_bind];simp only[Sem.run_pure,Result.andThen,invoke];simp only[Lf,Lg];rw[hc,hr];rfl
 rw[Yz];exact⟨_,⟨rfl,rfl⟩,hs⟩
end
section
variable{fr:Fr}{l:Ac}{d:Option Nat}{aft:Array Edge}
theorem mI{lo hi mx:Option Operand}{l0 h0 m0 n' c':Nat}(hx:ev fr x=some (.slice p n cap))[c:ST P T e k yb](hl:mi fr lo 0 l0)(hh:mi fr hi n h0)(hm:mi fr mx cap m0)(HI:mx.isSome=true->hi.isSome=true)(h1:l0<=h0)(h2:h0<=m0)(h3:m0<=cap)
 (hn:h0-l0=n')(hc:m0-l0=c'):OpQ P ro N fr R ⟨d,.slice T x lo hi mx,ty,pos,aft,g⟩ (.slice (if m0=l0 then p else p.map (·.add (l0*k))) n' c'):=BO rfl λρ l hρ _=>by
 obtain⟨HH,u1,u2,u3,_⟩:=Fj c.out;subst hn hc;simp only[execOp,hρ x _ hx];rw[AE];unfold Instr.sliceAt;rw[Cg u1];show sl P (Instr.slice T _ _ _ _) l _;unfold Instr.slice;rw[Cg u1];simp only[AE];rw[OA hρ hl hh hm HI h1 h2 h3];simp only;rw[HK u2];simp only[Bq,u3];simp
end
theorem Af1:prog.funcs[240]?=some Tryz.f240:=func240
theorem Af2:(Tryz.f240.name== "runtime.NumGoroutine")=false:=Bu
theorem Af3:Tryz.f240.body.isNone=true:=Bu
theorem Af4:Extern.findNext Tryz.f240=none:=Bu
theorem Af5:Extern.find Tryz.f240=some (Extern.SlicesOverlaps.overlaps #[43,43] #[4]):=Bu
theorem yK(A X Y cs:Ap)(h:cs.length=X.length):(A++X++Y).take A.length++cs++(A++X++Y).drop (A.length+cs.length)=A++cs++Y:=by
 rw[h];have e1:(A++X++Y).take A.length=A:=by rw[Am,Hb rfl]
 have e2:(A++X++Y).drop (A.length+X.length)=Y:=by rw[<-Ah,IM rfl]
 rw[e1,e2]
abbrev qY:Ap:=[ι 0,ι 0,ι 0,ι 0,ι 0,ι 0,ι 0,ι 0,ι 0]
theorem bP(v:Value)(n i bl:Nat)(xs ws:Ap)(cs F:Ac)(ho:OwnSl 100 9 v n xs cs)(hi:i<=n)(hw:ws.length=9)(h1: ∀u∈ws,u.oneCell'=true)(kM: ∀u∈xs,u.oneCell'=true)(GS: ∀c,c∈cs->c.1≠bl)(hn:n<=90000):
 Fn prog 182 [v,ι (i:Nat),.slice (some ⟨bl,0,none⟩) 1 1] ((bl,.cells (τ ws) 100 (0,0))::(cs++F)) λv' l'=> ∃c2,OwnSl 100 9 v' (n+1) (xs.take (i*9)++ws++xs.drop (i*9)) c2/\l'=c2++F:=by
 obtain⟨p,cap,hv,im⟩: ∃p cap,v= .slice p n cap/\n<=cap:=by
  rcases ho.2 with⟨h,h0,_⟩|⟨b,cap,sp,h,_,h2,_⟩
  ·exact⟨none,0,by rw[h,h0],Af⟩
  ·exact⟨_,cap,h,h2⟩
 subst hv;refine AO func182 ntmps182 λE=>?_;refine gz ?_;refine Be (mI (l0:=i) (h0:=n) (m0:=cap) rfl (.some rfl Af rfl) .none .none (by simp) hi im Af rfl rfl) ?_;refine gz ?_;by_cases MK:i=n
 ·subst MK;refine gz ?_;refine AP (HM (k:=9) (X:=[]) (cs:=cs) (F:=F) (xs:=xs) (n:=i) (ws:=ws) (zs:=qY) rfl rfl rfl ho hw h1 Af A0) ?_;rintro v' _ ⟨c2,F0,rfl⟩;have Js:v'.oneCell'=true:=F0.one;refine gz ?_;refine Bc (l':=c2++F) .refl ⟨c2,?_,rfl⟩;rw[BD (by rw[ho.1];omega),DL (by rw[ho.1];omega),Bj];exact F0
 refine gz ?_;rcases ho.2 with⟨h,h0,_⟩|⟨gb,cap',sp,h,rfl,h2,Vn,N5⟩
 ·omega
 cases h;have hxl:xs.length=n*9:=ho.1;obtain⟨A,hA⟩:=ξ (xs.take (i*9))
 obtain⟨B,hB⟩:=ξ (xs.drop (i*9))
 have aL:xs=A++B:=by rw[<-hA,<-hB,Cs]
 have vL:A.length=i*9:=by rw[<-hA,C4];omega
 have hBl:B.length=(n-i)*9:=by rw[<-hB,DR];omega
 have xS: ∀u∈B,u.oneCell'=true:=λu hu=>kM u (by rw[aL];exact Aa _ hu);rw[hA,hB];have Sz:gb≠bl:=GS _ (.head _);rw[show xs++sp=A++(B++sp) by rw[aL,Am]] at N5⊢;rw[Ah,Ah] at N5;simp only[Ae,Ag];refine Be (AcD rfl) ?_;refine gz ?_;by_cases PL:cap<n+1
 ·refine gz ?_;refine Be (Gp (l0:=0) (h0:=i) (m0:=cap) (off':=0) (n':=i) (c':=cap) rfl .none (.some rfl Af rfl) .none (by simp) Af Af Af (by simp) Af Af) ?_;refine gz ?_;refine Bt (Keep.of_perm (l':=(gb,.cells (τ (A++(B++sp))) 100 (0,0))::((bl,.cells (τ ws) 100 (0,0))::F)) (List.Perm.swap ..)) ?_;refine AP (iO (k:=9) (n:=i) (m:=n+1-i) (gb:=gb) (cap:=cap) (xs:=A) (sp:=B++sp) (zs:=qY) (F:=(bl,.cells (τ ws) 100 (0,0))::F) rfl ?_ rfl Af vL Af Af Af A0) ?_
  ·show some (Value.int .i64 _)=_;congr 2;omega
  rintro _ _ ⟨nb,cap2,Yk,hnb,rfl,rfl,rv,hc2,hc3⟩;rw[show i+(n+1-i)=n+1 by omega] at rv⊢;obtain⟨Z,hZ⟩:=ξ ((replicate (n+1-i) qY).flatten)
  have hZl:Z.length=9+B.length:=by rw[<-hZ,hBl];simp;omega
  rw[hZ] at hc3⊢;have e0:A++Z++Yk=A++Z.take 9++(Z.drop 9++Yk):=by rw[Am,Am,<-Am (Z.take 9),Cs]
  have hZ9:(Z.take 9).length=9:=by rw[C4];omega
  have hZd:(Z.drop 9).length=B.length:=by rw[DR];omega
  rw[Ah,Ah] at hc3;refine gz ?_;refine Be (Gp (l0:=i) (h0:=n+1) (m0:=cap2) (off':=A.length) (n':=n+1-i) (c':=cap2-i) rfl (.some rfl Af rfl) .none .none (by simp) Af Af Af (by rw[Ab Af];omega) rfl rfl) ?_;refine gz ?_;have aC:(bl,Obj.cells (τ ws) 100 (0,0))∈(nb,Obj.cells (τ (A++Z++Yk)) 100 (0,0))::(gb,.cells (τ (A++(B++sp))) 100 (0,0))::(bl,.cells (τ ws) 100 (0,0))::F:= .tail _ ν;refine AP (SZ (k:=9) (m:=1) (cs:=ws) rfl rfl (by show min 1 (n+1-i)=1;omega) hw aC (λj u hj=>by simpa using hj) (by simp only[Ah];omega) h1) ?_;rintro _ _ ⟨rfl,rfl⟩;rw[e0,yK A _ _ ws (by rw[hw,hZ9])];refine gz ?_;have hAw:(A++ws).length=i*9+9:=by rw[Ah];omega
  have JP:(gb,Obj.cells (τ (A++(B++sp))) 100 (0,0))∈(nb,Obj.cells (τ (A++ws++(Z.drop 9++Yk))) 100 (0,0))::(gb,.cells (τ (A++(B++sp))) 100 (0,0))::(bl,.cells (τ ws) 100 (0,0))::F:= .tail _ (.head _);refine Ct [8] 9 ([]) ?_;refine pz ?_;apply EI
  ·exact Gp (l0:=i+1) (h0:=n+1) (m0:=cap2) (off':=i*9+9) (n':=n-i) (c':=cap2-(i+1)) rfl (.some rfl Af rfl) .none .none (by simp) Af Af Af (by rw[Ab Af];omega) Af rfl
  ·rfl
  ·rfl
  ·rfl
  refine pz ?_;apply EI
  ·exact Gp (l0:=i) (h0:=n) (m0:=cap) (off':=i*9) (n':=n-i) (c':=cap-i) rfl (.some rfl Af rfl) .none .none (by simp) Af Af Af (by rw[Ab Af];omega) rfl rfl
  ·rfl
  ·rfl
  ·rfl
  refine pz ?_;apply CX
  ·apply SZ (k:=9) (m:=n-i) (cs:=B) (cur:=A++ws++(Z.drop 9++Yk))
   ·rfl
   ·rfl
   ·exact Nat.min_self _
   ·omega
   ·exact JP
   ·intro j u hj;have lC:=(Aw.1 hj).1;rw[AF,AW Af,vL,show i*9+j-i*9=j by omega,AH lC];exact hj
   ·rw[Ah,Ah,Ah,hw,vL,hZd];omega
   ·exact xS
  ·rfl
  ·rfl
  ·rfl
  ·intro _ _ _ c hc;cases hc
  rintro _ _ ⟨rfl,rfl⟩;have e3:List.take (i*9+9) (A++ws++(List.drop 9 Z++Yk))++B++List.drop (i*9+9+B.length) (A++ws++(List.drop 9 Z++Yk))=A++ws++B++Yk:=by have:=yK (A++ws) (Z.drop 9) Yk B hZd.symm;rw[hAw,Am (A++ws) (Z.drop 9) Yk] at this;exact this
  rw[e3];refine pz ?_;refine gz ?_;refine Bc (l':=(nb,.cells (τ (A++ws++B++Yk)) 100 (0,0))::F) AY ⟨[(nb,_)],⟨?_,.inr ⟨nb,cap2,Yk,rfl,rfl,rv,hc2,?_⟩⟩,rfl⟩
  ·rw[Ah,hAw];omega
  ·rw[Ah,Ah,hAw];omega
 ·obtain⟨s1,s2,hs12,Nc⟩: ∃s1 s2,sp=s1++s2/\s1.length=9:=⟨sp.take 9,sp.drop 9,(Cs ..).symm,by rw[C4];omega⟩
  refine gz ?_;refine Be (Gp (l0:=0) (h0:=n+1) (m0:=cap) (off':=0) (n':=n+1) (c':=cap) rfl .none (.some rfl Af Af) .none (by simp) Af Af Af (by simp) Af Af) ?_;refine gz ?_;refine Be (Gp (l0:=i+1) (h0:=n+1) (m0:=cap) (off':=i*9+9) (n':=n-i) (c':=cap-(i+1)) rfl (.some rfl Af rfl) .none .none (by simp) Af Af Af (by rw[Ab Af];omega) Af rfl) ?_;refine gz ?_;have JP:(gb,Obj.cells (τ (A++(B++sp))) 100 (0,0))∈(bl,.cells (τ ws) 100 (0,0))::(gb,Obj.cells (τ (A++(B++sp))) 100 (0,0))::F:= .tail _ (.head _);refine Be (bO (cl1:=τ ws) (cl2:=τ (A++(B++sp))) rfl rfl rfl Af1 Af2 Af3 Af4 4 Af5 (.head _) JP (λh=>Sz h.symm) (by simp;omega)) ?_;refine Bt (Keep.of_perm (l':=(gb,.cells (τ (A++(B++sp))) 100 (0,0))::((bl,.cells (τ ws) 100 (0,0))::F)) (List.Perm.swap ..)) ?_;refine gz ?_;refine Ct [8] 9 ([]) ?_;refine pz ?_;apply EI
  ·exact Gp (l0:=i+1) (h0:=n+1) (m0:=cap) (off':=i*9+9) (n':=n-i) (c':=cap-(i+1)) rfl (.some rfl Af rfl) .none .none (by simp) Af Af Af (by rw[Ab Af];omega) Af rfl
  ·rfl
  ·rfl
  ·rfl
  refine pz ?_;apply EI
  ·exact Gp (l0:=i) (h0:=n+1) (m0:=cap) (off':=i*9) (n':=n+1-i) (c':=cap-i) rfl (.some rfl Af rfl) .none .none (by simp) Af Af Af (by rw[Ab Af];omega) rfl rfl
  ·rfl
  ·rfl
  ·rfl
  refine pz ?_;apply CX
  ·apply SZ (k:=9) (m:=n-i) (cs:=B) (cur:=A++(B++sp))
   ·rfl
   ·rfl
   ·show min (n+1-i) (n-i)=n-i;omega
   ·omega
   ·exact .head _
   ·intro j u hj;have lC:=(Aw.1 hj).1;rw[AF,AW Af,vL,show i*9+j-i*9=j by omega,AH lC];exact hj
   ·rw[Ah,Ah,vL];omega
   ·exact xS
  ·rfl
  ·rfl
  ·rfl
  ·intro _ _ _ c hc;cases hc
  rintro _ _ ⟨rfl,rfl⟩;obtain⟨Y,hY⟩:=ξ ((B++sp).take 9)
  have hYl:Y.length=9:=by rw[<-hY,C4,Ah];omega
  have hD:(B++sp).drop (9+B.length)=s2:=by rw[KY,<-Lk,IM rfl,hs12,IM Nc]
  have e3:List.take (i*9+9) (A++(B++sp))++B++List.drop (i*9+9+B.length) (A++(B++sp))=A++Y++(B++s2):=by rw[<-vL,Iz,JU,List.take_append,DL Af,BD Af,CN,CN,hD,hY];simp
  rw[e3];refine pz ?_;refine gz ?_;refine Be (Gp (l0:=i) (h0:=n+1) (m0:=cap) (off':=A.length) (n':=n+1-i) (c':=cap-i) rfl (.some rfl Af rfl) .none .none (by simp) Af Af Af (by rw[Ab Af];omega) rfl rfl) ?_;refine gz ?_;have hl3:(bl,Obj.cells (τ ws) 100 (0,0))∈(gb,Obj.cells (τ (A++Y++(B++s2))) 100 (0,0))::(bl,.cells (τ ws) 100 (0,0))::F:= .tail _ (.head _);refine AP (SZ (k:=9) (m:=1) (cs:=ws) rfl rfl (by show min 1 (n+1-i)=1;omega) hw hl3 (λj u hj=>by simpa using hj) (by simp only[Ah];omega) h1) ?_;rintro _ _ ⟨rfl,rfl⟩;rw[yK A _ _ ws (by rw[hw,hYl])];refine gz ?_;rw[hs12,Ah] at N5;refine BF [] rfl (l':=(gb,.cells (τ (A++ws++(B++s2))) 100 (0,0))::F) AY Ba ⟨[(gb,_)],⟨?_,.inr ⟨gb,cap,s2,rfl,?_,Af,Vn,?_⟩⟩,rfl⟩
  ·rw[Ah,Ah];omega
  ·rw[Am (A++ws)]
  ·rw[Ah,Ah,Ah];omega
theorem setFrom_mid(ys':Ap): ∀(X Y Z:Ap),ys'.length=Y.length->Dc (τ (X++Y++Z)) X.length ys'=τ (X++ys'++Z):=by
 induction ys' with
 |nil=>intro X Y Z h;cases Y with
  |nil=>rfl
  |cons a b=>simp at h
 |cons y r ih=>intro X Y Z h;cases Y with
  |nil=>simp at h
  |cons a b=>
   show Dc ((τ (X++(a::b)++Z)).setIfInBounds X.length y) (X.length+1) r=_;have e1:(τ (X++(a::b)++Z)).setIfInBounds X.length y=τ ((X++[y])++b++Z):=by rw[BB];congr 1;rw[Am,Cq _ _ (Bf _),Dx];simp
   rw[e1,show X.length+1=(X++[y]).length by simp,ih (X++[y]) b Z (by simpa using h)];simp
end Ar
def upd{α:Type}(f:Nat->α)(k:Nat)(v:α):Nat->α:=λi=>if i=k then v else f i
theorem upd_same(f:Nat->α)(k:Nat)(v:α):upd f k v k=v:=Ad rfl
theorem upd_other(f:Nat->α)(k i:Nat)(v:α)(h:i≠k):upd f k v i=f i:=Ab h
def iP(f:Nat->Int)(a n:Nat):A8:=(List.range n).map λj=>f (a+j)
theorem IF(f:Nat->Int)(a n:Nat):(iP f a n).length=n:=by simp[iP]
theorem Y6(x:Int):IntKind.u64.wrap x=x%18446744073709551616:=by simp[IntKind.wrap,IntKind.signed,IntKind.bits]
def Y7(x n:Int):Nat:=((x%18446744073709551616)%n).toNat
theorem S6(x:Int)(n:Nat)(h:0<n):Y7 x n<n:=by have h1:=IN (x%18446744073709551616) (b:=(n:Int)) Af;have h2:=Int.emod_lt_of_pos (x%18446744073709551616) (b:=(n:Int)) Af;unfold Y7;omega
theorem iQ(x:Int)(n:Nat)(h:0<n):((Y7 x n:Nat):Int)=(x%18446744073709551616)%n:=by have h1:=IN (x%18446744073709551616) (b:=(n:Int)) Af;unfold Y7;omega
def QP(W:World):Ac:=W.heap.toList.zipIdx.map λx=>(x.2,x.1)
theorem RH(W:World)(k:Nat)(o:Obj):(k,o)∈QP W<->W.heap[k]?=some o:=by
 unfold QP;rw[Ax];constructor
 ·rintro⟨⟨o',k'⟩,h,e⟩;cases e;have:=List.mem_zipIdx_iff_getElem?.1 h;simpa using this
 ·intro h;exact⟨(o,k),List.mem_zipIdx_iff_getElem?.2 (by simpa using h),rfl⟩
theorem sG(W:World):Sat W (QP W) W:=by refine⟨rfl,rfl,rfl,?_,λc hc=>(RH W c.1 c.2).1 hc⟩;unfold QP;rw[CO];have:(Prod.fst∘λx:Obj×Nat=>(x.2,x.1))=Prod.snd:=rfl;rw[this,List.zipIdx_map_snd];exact List.nodup_range'
theorem mJ{W:World}(h:Fn P f args (QP W) λv l'=>v= .bool true/\ ∃X,l'=X++QP W):
 Calls P f args.toArray W λe W'=>e= .returned (.bool true)/\Below W.heap.size W W':=by
 refine(h.run W W (sG W)).mono ?_;rintro e W' ⟨v,l',rfl,⟨rfl,X,rfl⟩,hs⟩;have hb: ∀k,k<W.heap.size->W'.heap[k]?=W.heap[k]?:=λk hk=>by rw[CQ hk];exact hs.has (k,W.heap[k]) (Aa _ ((RH W k _).2 (CQ hk)))
 refine⟨rfl,⟨hs.os,hs.tape,hs.output,?_,hb⟩⟩;by_cases h0:W.heap.size=0
 ·omega
 ·have h1:=hb (W.heap.size-1) Af;rw[CQ (xs:=W.heap) Af] at h1;have:=(BK.1 h1).1;omega
namespace Ar
variable{i k j:Nat}{id f:Int}
abbrev Nq(x:Int):Value:= ι x
structure ObT where
 id:Int
 kd:Int
 sz:Int
 fi:Int
 fr:Int
 ma:Int
 se:Int
 pg:Int
 lv:Int
deriving DecidableEq
variable{o:ObT}{pre:List (ObT×Nat)}{x:ObT×Nat}
abbrev obC(o:ObT):Ap:=[ι o.id,ι o.kd,ι o.sz,ι o.fi,ι o.fr,ι o.ma,ι o.se,ι o.pg,ι o.lv]
abbrev obO:ObT:=⟨0,0,0,0,0,0,0,0,0⟩
abbrev OL:=List ObT
variable{os:OL}
def ocs(os:OL):Ap:=os.flatMap obC
theorem OJ(os:OL):(ocs os).length=os.length*9:=by
 induction os with
 |nil=>rfl
 |cons x r ih=>rw[show ocs (x::r)=obC x++ocs r from rfl,Ah,ih];show 9+r.length*9=(r.length+1)*9;omega
theorem Nr(a b:OL):ocs (a++b)=ocs a++ocs b:=Eg ..
theorem fh(os:OL): ∀u∈ocs os,u.oneCell'=true:=by intro u hu;obtain⟨o,_,h⟩:=FI.1 hu;simp only[obC,Au,BR,EF] at h;rcases h with rfl|rfl|rfl|rfl|rfl|rfl|rfl|rfl|rfl<;>rfl
theorem P9(h:os[i]?=some o)(sp:Ap)(j:Nat)(hj:j<9):(τ (ocs os++sp))[i*9+j]?=(obC o)[j]?:=by obtain⟨h1,h2⟩:=Lr (enc:=obC) (k:=9) (λ_=>rfl) sp os i o h;rw[<-h1,IR,Ad hj,G3,AF];rfl
theorem fj(h:os[i]?=some o)(sp:Ap):i*9+9<=(τ (ocs os++sp)).size/\(τ (ocs os++sp)).extract (i*9) (i*9+9)=τ (obC o):=by obtain⟨h1,h2⟩:=Lr (enc:=obC) (k:=9) (λ_=>rfl) sp os i o h;refine⟨by rw[Bz];exact h2,?_⟩;rw[Fi,Co,CN];exact BM τ h1
theorem Y8(h:os[i]?=some o):os=os.take i++o::os.drop (i+1):=by obtain⟨hi,rfl⟩:=Aw.1 h;rw[List.getElem_cons_drop,Cs]
theorem S7{o':ObT}(h:os[i]?=some o)(sp:Ap)(j:Nat)(v:Value)(hj:j<9)(he:(obC o).set j v=obC o'):(τ (ocs os++sp)).setIfInBounds (i*9+j) v=τ (ocs (os.set i o')++sp):=by
 have hi:=(Aw.1 h).1;have e1:ocs os++sp=ocs (os.take i)++(obC o++(ocs (os.drop (i+1))++sp)):=by
  conv=>lhs;rw[Y8 h]
  rw[Nr,show ocs (o::os.drop (i+1))=obC o++ocs (os.drop (i+1)) from rfl];simp
 have e2:ocs (os.set i o')++sp=ocs (os.take i)++(obC o'++(ocs (os.drop (i+1))++sp)):=by rw[Jf,Ad hi,Nr,show ocs (o'::os.drop (i+1))=obC o'++ocs (os.drop (i+1)) from rfl];simp
 have hl:(ocs (os.take i)).length=i*9:=by rw[OJ,C4];omega
 rw[BB,e1,e2,Cq _ _ Af,show i*9+j-(ocs (os.take i)).length=j by omega,HA _ _ (by show j<9;omega),he]
def Y9(n:Int)(g:Nat->Int)(v:Value):Ap:= ι n::((iP g 0 64).map Nq++[v])
theorem Xq(n:Int)(g:Nat->Int)(v:Value):(Y9 n g v).length=66:=by unfold Y9;simp[IF]
theorem wx(n:Int)(g:Nat->Int)(v:Value):(τ (Y9 n g v))[0]?=some (ι n):=rfl
theorem Wd(n:Int)(g:Nat->Int)(v:Value):(τ (Y9 n g v))[65]?=some v:=by rw[AF];unfold Y9;rw[De,AW (by simp[IF])];simp[IF]
theorem wz(n:Int)(g:Nat->Int)(v:Value)(hj:j<64):(τ (Y9 n g v))[1+j*1]?=some (ι (g j)):=by rw[AF,show 1+j*1=j+1 by omega];unfold Y9;rw[De,AH (by simp[IF];omega),A7];simp[iP,hj]
theorem mK(n:Int)(g:Nat->Int)(v:Value)(hj:j<64)(x:Int):(τ (Y9 n g v)).setIfInBounds (1+j*1) (ι x)=τ (Y9 n (upd g j x) v):=by
 rw[BB,show 1+j*1=j+1 by omega];unfold Y9;rw[IS,HA _ _ (by simp[IF];omega)];congr 3;apply Dn;intro k;rw[Hp];by_cases hk:k<64
 ·by_cases e:j=k
  ·subst e;rw[Ad rfl,Ad (by simp[IF];omega)];simp[iP,hk,upd_same]
  ·rw[Ab e];simp[iP,hk,upd_other _ _ _ _ (λh=>e h.symm)]
 ·rw[Ab Af];rw[Bi (by simp[IF];omega),Bi (by simp[IF];omega)]
theorem Za(n:Int)(g:Nat->Int)(v u:Value):(τ (Y9 n g v)).setIfInBounds 65 u=τ (Y9 n g u):=by rw[BB];unfold Y9;rw[IS,Cq _ _ (by simp[IF])];simp[IF]
abbrev TY(b:Nat)(n:Int)(g:Nat->Int)(v:Value):Bh:=(b,.cells (τ (Y9 n g v)) 316 (0,0))
structure ArT where
 n:Int
 g:Nat->Int
 os:OL
variable{S:ArT}
structure ArT.Ok(S:ArT):Prop where
 n1:1<=S.n
 n2:S.n<=64
 g1: ∀j,0<=S.g j/\S.g j<=1024
 asc:S.os.Pairwise λx y=>x.id<y.id
 rng: ∀x∈S.os,1<=x.id/\x.id<=65535
 num: ∀x∈S.os,0<=x.fi/\x.fi<S.n/\ ∃c:Int,0<=c/\c<S.g x.fi.toNat/\x.id=x.fi+1+64*c
theorem fl: ∀(os:OL) (a:Int),0<=a->a<=65535->(os.Pairwise λx y=>x.id<y.id)->(∀x∈os,a<x.id/\x.id<=65535)->(os.length:Int)<=65535-a
 |[],a,h0,ha,_,_=>by simp;omega
 |x::r,a,h0,ha,h,hr=>by
  obtain⟨h1,h2⟩:=Ck.1 h;have hx:=hr x (.head _);have:=fl r x.id Af Af h2 λy hy=>⟨h1 y hy,(hr y (.tail _ hy)).2⟩
  simp only[By];omega
theorem ArT.Ok.len(h:S.Ok):S.os.length<=65535:=by
 have:=fl S.os 0 Af Af h.asc λx hx=>by have:=h.rng x hx;omega
 omega
structure IsA(b:Nat)(S:ArT)(lq:Ac):Prop where
 ok:S.Ok
 ex: ∃v cs,lq=TY b S.n S.g v::cs/\OwnSl 100 9 v S.os.length (ocs S.os) cs
def framesD(k s:Int):Int:=
 if k=1 then(if 1<=s/\s<=64 then s else 0)
 else if k=2 then(if s=1 then 1 else if s=2 then 1 else if s=3 then 2 else if s=4 then 4 else 0)
 else if k=3\/k=4\/k=5\/k=6\/k=8\/k=9 then(if s=0 then 1 else 0) else 0
def slotsD(k s:Int):Int:=
 if k=2 then(if s=1 then 2 else if s=2 then 4 else if s=3 then 8 else if s=4 then 16 else 0)
 else if k=9 then(if s=0 then 3 else 0) else 0
def Jx(x:Int):Prop:=0<=x/\x<=1048576
instance(x:Int):Decidable (Jx x):=by unfold Jx;exact inferInstance
def Zb(a n b k:Int):Bool:=decide (Jx a/\Jx n/\Jx b/\Jx k)
def QQ(a n b k:Int):Bool:=Zb a n b k&&decide (n>0)&&decide (k>0)&&decide (a<b+k)&&decide (b<a+n)
def K3(a n b k:Int):Bool:=Zb a n b k&&(decide (n=0)||(decide (a>=b)&&decide (a+n<=b+k)))
def J3(kd fi n:Int)(o:ObT):Bool:=!QQ fi n o.fi o.fr||((decide (o.kd=1)&&K3 fi n o.fi o.fr)||(decide (kd=1)&&K3 o.fi o.fr fi n))
def nextD(S:ArT)(f:Int):Int:=if f<0 then 0 else if f>=S.n then 0 else if f+1+64*S.g f.toNat>65535 then 0 else f+1+64*S.g f.toNat
theorem new_any(n:Int)(l:Ac):Fn prog 128 [ι n] l λv l'=>
 (¬(1<=n/\n<=64)/\v= .tuple #[.pointer none,ι 3]/\l'=l)\/((1<=n/\n<=64)/\ ∃b lq,v= .tuple #[π b,ι 0]/\IsA b ⟨n,λ_=>0,[]⟩ lq/\l'=lq++l):=by
 refine AO func128 ntmps128 λE=>?_;by_cases h1:n<1
 ·refine Aj ?_;exact BF [] rfl .refl Ba (.inl ⟨Af,rfl,rfl⟩)
 by_cases h2:n>64
 ·refine Aj ?_;exact BF [] rfl .refl Ba (.inl ⟨Af,rfl,rfl⟩)
 refine Aj ?_;refine AP (Cw rfl) ?_;rintro _ _ ⟨b,hb,rfl,rfl⟩;refine Aj ?_;refine BF [] rfl .refl Ba (.inr ⟨Af,b,[TY b n (λ_=>0) (.slice none 0 0)],rfl,⟨⟨by show 1<=n;omega,by show n<=64;omega,λj=>by simp,.nil,(λx hx=>by cases hx),λx hx=>by cases hx⟩,_,[],rfl,OwnSl.nil _ _⟩,rfl⟩)
theorem Jy(b:Value)(h1:b.oneCell'=true)(l:Ac):Fn prog 113 [b] l λv l'=> ∃B,v= .func (.func 168) #[] #[π B]/\l'=(B,.cells #[b] 155 (0,0))::l:=by refine AO func113 ntmps113 λE=>?_;refine Aj ?_;refine AP (EA rfl h1) ?_;rintro _ _ ⟨B,hB,rfl,rfl⟩;refine Aj ?_;exact Bc .refl ⟨B,rfl,rfl⟩
theorem slots_any(k s:Int)(l:Ac):Fn prog 68 [ι k,ι s] l λv l'=>v= ι (slotsD k s)/\l'=l:=by
 refine AO func68 ntmps68 λE=>?_;by_cases h2:k=2
 ·subst h2;by_cases h1:1<=s/\s<=4
  ·have hs:s=1\/s=2\/s=3\/s=4:=by omega
   rcases hs with rfl|rfl|rfl|rfl
   ·refine Aj ?_;refine Be (QN (i:=1) (n:=1) rfl rfl A0) ?_;exact Fd
   ·refine Aj ?_;refine Be (QN (i:=1) (n:=2) rfl rfl A0) ?_;exact Fd
   ·refine Aj ?_;refine Be (QN (i:=1) (n:=3) rfl rfl A0) ?_;exact Fd
   ·refine Aj ?_;refine Be (QN (i:=1) (n:=4) rfl rfl A0) ?_;exact Fd
  ·by_cases h3:1<=s
   ·refine Aj ?_;refine Bc .refl ⟨?_,rfl⟩;unfold slotsD;rw[Ad rfl,Ab Af,Ab Af,Ab Af,Ab Af];rfl
   ·refine Aj ?_;refine Bc .refl ⟨?_,rfl⟩;unfold slotsD;rw[Ad rfl,Ab Af,Ab Af,Ab Af,Ab Af];rfl
 ·by_cases h9:k=9
  ·subst h9;by_cases h0:s=0
   ·subst h0;exact Fd
   ·refine Aj ?_;refine Bc .refl ⟨?_,rfl⟩;unfold slotsD;rw[Ab Af,Ad rfl,Ab h0];rfl
  ·refine Aj ?_;refine Bc .refl ⟨?_,rfl⟩;unfold slotsD;rw[Ab h2,Ab h9];rfl
theorem QR(a n b k:Int)(B:Nat)(l:Ac)(hm:(B,Obj.cells (τ [ι a,ι n,ι b,ι k]) 3 (0,0))∈l):Fn prog 310 [.slice (some ⟨B,0,none⟩) 4 4] l λv l'=>v= .bool (Zb a n b k)/\l'=l:=by
 refine AO func310 ntmps310 λE=>?_;refine Aj ?_;refine CF (α:=Nat) (λi=>[(5,.slice (some ⟨B,0,none⟩) 4 4),(6,ι 4),(7,ι i)]) (λi=>l) (λi=>i<=4/\ ∀j x,j<i->[a,n,b,k][j]?=some x->Jx x) (λi=>4-i) 0 ⟨Bm _,λj x h=>by omega⟩ ⟨rfl,rfl,rfl,trivial⟩ .refl ?_;rintro i ⟨hi,hj⟩;by_cases C7:i<4
 ·obtain⟨x,hx⟩: ∃x,[a,n,b,k][i]?=some x:=⟨_,Ak (show i<[a,n,b,k].length from C7)⟩
  have hc:(τ [Value.int .i64 a,ι n,ι b,ι k])[i*1]?=some (ι x):=by
   have:i=0\/i=1\/i=2\/i=3:=by omega
   rcases this with rfl|rfl|rfl|rfl<;>(simp at hx;subst hx;rfl)
  have hF:¬Jx x->Zb a n b k=false:=λh=>by
   refine Av λhh=>h ?_;have:i=0\/i=1\/i=2\/i=3:=by omega
   rcases this with rfl|rfl|rfl|rfl<;>(simp at hx;subst hx;simp[hh])
  refine Aj ?_;by_cases h1:x<0
  ·refine Aj ?_;exact BF [] rfl .refl Ba ⟨by rw[hF (λh=>by unfold Jx at h;omega)];rfl,rfl⟩
  by_cases h2:x>1048576
  ·refine Aj ?_;exact BF [] rfl .refl Ba ⟨by rw[hF (λh=>by unfold Jx at h;omega)];rfl,rfl⟩
  ·refine Aj ?_;refine BZ (i+1) ⟨Af,λj y hji hy=>?_⟩ Af ⟨rfl,rfl,rfl,trivial⟩ .refl;by_cases e:j=i
   ·subst e;rw[hx] at hy;cases hy;exact⟨Af,Af⟩
   ·exact hj j y Af hy
 ·obtain rfl:i=4:=by omega
  have hT:Zb a n b k=true:=Aq ⟨hj 0 a Af rfl,hj 1 n Af rfl,hj 2 b Af rfl,hj 3 k Af rfl⟩;refine Aj ?_;exact BF [] rfl .refl Ba ⟨by rw[hT];rfl,rfl⟩
theorem mL{a n b k:Int}(h:Zb a n b k=true):Jx a/\Jx n/\Jx b/\Jx k:=Do h
theorem mO(a n b k:Int)(l:Ac):Fn prog 238 [ι a,ι n,ι b,ι k] l λv l'=>v= .bool (QQ a n b k)/\l'=l:=by
 refine AO func238 ntmps238 λE=>?_;refine Aj ?_;refine AP (bF rfl A0 A0 rfl) ?_;rintro _ _ ⟨B,hB,rfl,rfl⟩;refine Aj ?_;refine Be (AI rfl rfl λl2 hl=>QR a n b k B l2 (hl _ (.head _))) ?_;cases hm:Zb a n b k with
 |false=>refine Aj ?_;exact BF [] rfl ζ Ba ⟨by unfold QQ;rw[hm];rfl,rfl⟩
 |true=>
  obtain⟨⟨a1,a2⟩,⟨n1,n2⟩,⟨b1,b2⟩,k1,k2⟩:=mL hm;by_cases h1:n>0
  ·by_cases h2:k>0
   ·by_cases h3:a<b+k
    ·by_cases h4:b<a+n
     ·refine Aj ?_;exact BF [] rfl ζ Ba ⟨by unfold QQ;rw[hm,Aq h1,Aq h2,Aq h3,Aq h4];rfl,rfl⟩
     ·refine Aj ?_;exact BF [] rfl ζ Ba ⟨by unfold QQ;rw[hm,Aq h1,Aq h2,Aq h3,Av h4];rfl,rfl⟩
    ·refine Aj ?_;exact BF [] rfl ζ Ba ⟨by unfold QQ;rw[hm,Aq h1,Aq h2,Av h3];rfl,rfl⟩
   ·refine Aj ?_;exact BF [] rfl ζ Ba ⟨by unfold QQ;rw[hm,Aq h1,Av h2];rfl,rfl⟩
  ·refine Aj ?_;exact BF [] rfl ζ Ba ⟨by unfold QQ;rw[hm,Av h1];rfl,rfl⟩
theorem DD(a n b k:Int)(l:Ac):Fn prog 239 [ι a,ι n,ι b,ι k] l λv l'=>v= .bool (K3 a n b k)/\l'=l:=by
 refine AO func239 ntmps239 λE=>?_;refine Aj ?_;refine AP (bF rfl A0 A0 rfl) ?_;rintro _ _ ⟨B,hB,rfl,rfl⟩;refine Aj ?_;refine Be (AI rfl rfl λl2 hl=>QR a n b k B l2 (hl _ (.head _))) ?_;cases hm:Zb a n b k with
 |false=>refine Aj ?_;exact BF [] rfl ζ Ba ⟨by unfold K3;rw[hm];rfl,rfl⟩
 |true=>
  obtain⟨⟨a1,a2⟩,⟨n1,n2⟩,⟨b1,b2⟩,k1,k2⟩:=mL hm;by_cases h1:n=0
  ·refine Aj ?_;exact BF [] rfl ζ Ba ⟨by unfold K3;rw[hm,Aq h1];rfl,rfl⟩
  ·by_cases h3:a>=b
   ·by_cases h4:a+n<=b+k
    ·refine Aj ?_;exact BF [] rfl ζ Ba ⟨by unfold K3;rw[hm,Av h1,Aq h3,Aq h4];rfl,rfl⟩
    ·refine Aj ?_;exact BF [] rfl ζ Ba ⟨by unfold K3;rw[hm,Av h1,Aq h3,Av h4];rfl,rfl⟩
   ·refine Aj ?_;exact BF [] rfl ζ Ba ⟨by unfold K3;rw[hm,Av h1,Av h3];rfl,rfl⟩
theorem frames_any(k s:Int)(l:Ac):Fn prog 50 [ι k,ι s] l λv l'=>v= ι (framesD k s)/\l'=l:=by
 refine AO func50 ntmps50 λE=>?_;by_cases h1:k=1
 ·subst h1;by_cases hs:s>=1
  ·by_cases Ol:s<=64
   ·refine Aj ?_;exact BF [] rfl .refl Ba ⟨by unfold framesD;rw[Ad rfl,Ad ⟨hs,Ol⟩];rfl,rfl⟩
   ·refine Aj ?_;exact BF [] rfl .refl Ba ⟨by unfold framesD;rw[Ad rfl,Ab Af];rfl,rfl⟩
  ·refine Aj ?_;exact BF [] rfl .refl Ba ⟨by unfold framesD;rw[Ad rfl,Ab Af];rfl,rfl⟩
 by_cases h2:k=2
 ·subst h2;by_cases hs:s=1\/s=2\/s=3\/s=4
  ·rcases hs with rfl|rfl|rfl|rfl
   ·refine Aj ?_;refine Be (AI rfl rfl λl2 _=>slots_any 2 _ l2) ?_;simp only[slotsD,CV,C0,Int.reduceEq];exact Fd
   ·refine Aj ?_;refine Be (AI rfl rfl λl2 _=>slots_any 2 _ l2) ?_;simp only[slotsD,CV,C0,Int.reduceEq];exact Fd
   ·refine Aj ?_;refine Be (AI rfl rfl λl2 _=>slots_any 2 _ l2) ?_;simp only[slotsD,CV,C0,Int.reduceEq];exact Fd
   ·refine Aj ?_;refine Be (AI rfl rfl λl2 _=>slots_any 2 _ l2) ?_;simp only[slotsD,CV,C0,Int.reduceEq];exact Fd
  ·refine Aj ?_;refine Be (AI rfl rfl λl2 _=>slots_any 2 _ l2) ?_;rw[show slotsD 2 s=0 by unfold slotsD;rw[Ad rfl,Ab Af,Ab Af,Ab Af,Ab Af]];refine Aj ?_;exact BF [] rfl .refl Ba ⟨by unfold framesD;rw[Ab Af,Ad rfl,Ab Af,Ab Af,Ab Af,Ab Af];rfl,rfl⟩
 by_cases hk:k=3\/k=4\/k=5\/k=6\/k=8\/k=9
 ·have e:framesD k s=if s=0 then 1 else 0:=by unfold framesD;rw[Ab h1,Ab h2,Ad hk]
  rw[e];rcases hk with rfl|rfl|rfl|rfl|rfl|rfl
  ·by_cases hs:s=0
   ·refine Aj ?_;exact BF [] rfl .refl Ba ⟨by rw[Ad hs];rfl,rfl⟩
   ·refine Aj ?_;exact BF [] rfl .refl Ba ⟨by rw[Ab hs];rfl,rfl⟩
  ·by_cases hs:s=0
   ·refine Aj ?_;exact BF [] rfl .refl Ba ⟨by rw[Ad hs];rfl,rfl⟩
   ·refine Aj ?_;exact BF [] rfl .refl Ba ⟨by rw[Ab hs];rfl,rfl⟩
  ·by_cases hs:s=0
   ·refine Aj ?_;exact BF [] rfl .refl Ba ⟨by rw[Ad hs];rfl,rfl⟩
   ·refine Aj ?_;exact BF [] rfl .refl Ba ⟨by rw[Ab hs];rfl,rfl⟩
  ·by_cases hs:s=0
   ·refine Aj ?_;exact BF [] rfl .refl Ba ⟨by rw[Ad hs];rfl,rfl⟩
   ·refine Aj ?_;exact BF [] rfl .refl Ba ⟨by rw[Ab hs];rfl,rfl⟩
  ·by_cases hs:s=0
   ·refine Aj ?_;exact BF [] rfl .refl Ba ⟨by rw[Ad hs];rfl,rfl⟩
   ·refine Aj ?_;exact BF [] rfl .refl Ba ⟨by rw[Ab hs];rfl,rfl⟩
  ·by_cases hs:s=0
   ·refine Aj ?_;exact BF [] rfl .refl Ba ⟨by rw[Ad hs];rfl,rfl⟩
   ·refine Aj ?_;exact BF [] rfl .refl Ba ⟨by rw[Ab hs];rfl,rfl⟩
 ·have e:framesD k s=0:=by unfold framesD;rw[Ab h1,Ab h2,Ab hk]
  rw[e];exact Fd
theorem iR(kd fi n:Int)(o:ObT)(gb off:Nat)(cs:Array Value)(t:TypeId)(fz:Nat×Nat)(l:Ac)(hm:(gb,Obj.cells cs t fz)∈l)(hc: ∀j,j<9->cs[off+j]?=(obC o)[j]?):
 Fn prog 180 [ι kd,ι fi,ι n,.pointer (some ⟨gb,off,none⟩)] l λv l'=>v= .bool (J3 kd fi n o)/\l'=l:=by
 have c1:cs[off+1]?=some (ι o.kd):=hc 1 Af;have c3:cs[off+3]?=some (ι o.fi):=hc 3 Af;have c4:cs[off+4]?=some (ι o.fr):=hc 4 Af;refine AO func180 ntmps180 λE=>?_;refine Aj ?_;refine Ct [] 13 _ ?_ (hR:=(λ_ h=>h));refine BJ ?_;apply EI
 ·exact AI rfl rfl λl2 hl=>mO fi n o.fi o.fr l2
 ·rfl
 ·rfl
 ·rfl
 cases hM:QQ fi n o.fi o.fr with
 |false=>refine BJ ?_;refine Aj ?_;exact BF [] rfl .refl Ba ⟨by unfold J3;rw[hM];rfl,rfl⟩
 |true=>
  refine BJ ?_;refine Aj ?_;refine Ct [] 19 _ ?_ (hR:=(λ_ h=>h));refine BJ ?_;by_cases h1:o.kd=1
  ·refine BJ ?_;apply YU
   ·exact AI rfl rfl λl2 hl=>DD fi n o.fi o.fr l2
   all_goals try rfl
   cases hW:K3 fi n o.fi o.fr with
   |true=>refine BJ ?_;refine Aj ?_;exact BF [] rfl .refl Ba ⟨by unfold J3;rw[hM,Aq h1,hW];rfl,rfl⟩
   |false=>
    refine BJ ?_;refine Aj ?_;refine Ct [] 16 _ ?_ (hR:=(λ_ h=>h));by_cases h5:kd=1
    ·refine BJ ?_;apply YU
     ·exact AI rfl rfl λl2 hl=>DD o.fi o.fr fi n l2
     all_goals try rfl
     refine BJ ?_;refine Aj ?_;exact BF [] rfl .refl Ba ⟨by unfold J3;rw[hM,Aq h1,hW,Aq h5];rfl,rfl⟩
    ·refine BJ ?_;refine Aj ?_;exact BF [] rfl .refl Ba ⟨by unfold J3;rw[hM,Aq h1,hW,Av h5];rfl,rfl⟩
  ·refine BJ ?_;refine Aj ?_;refine Ct [] 16 _ ?_ (hR:=(λ_ h=>h));by_cases h5:kd=1
   ·refine BJ ?_;apply YU
    ·exact AI rfl rfl λl2 hl=>DD o.fi o.fr fi n l2
    all_goals try rfl
    refine BJ ?_;refine Aj ?_;exact BF [] rfl .refl Ba ⟨by unfold J3;rw[hM,Av h1,Aq h5];rfl,rfl⟩
   ·refine BJ ?_;refine Aj ?_;exact BF [] rfl .refl Ba ⟨by unfold J3;rw[hM,Av h1,Av h5];rfl,rfl⟩
theorem next_any(b:Nat)(S:ArT)(lq:Ac)(hA:IsA b S lq)(f:Int)(l:Ac)(CJ: ∀c,c∈lq->c∈l):
 Fn prog 181 [π b,ι f] l λv l'=>v= ι (nextD S f)/\l'=l:=by
 obtain⟨Dh,v,cs,rfl,ho⟩:=hA;have hm:=CJ _ (.head _);have c0:=wx S.n S.g v;have Vj:=Dh.n1;have kI:=Dh.n2;refine AO func181 ntmps181 λE=>?_;refine Aj ?_;by_cases h1:f<0
 ·refine Aj ?_;exact BF [] rfl .refl Ba ⟨by unfold nextD;rw[Ad h1];rfl,rfl⟩
 by_cases h2:f>=S.n
 ·refine Aj ?_;exact BF [] rfl .refl Ba ⟨by unfold nextD;rw[Ab h1,Ad h2];rfl,rfl⟩
 obtain⟨j,rfl⟩: ∃j:Nat,f=j:=⟨f.toNat,Af⟩
 have hj:j<64:=by omega
 have cg:=wz S.n S.g v hj;have hg:=Dh.g1 j;by_cases h3:(j:Int)+1+64*S.g j>65535
 ·refine Aj ?_;exact BF [] rfl .refl Ba ⟨by unfold nextD;rw[Ab h1,Ab h2,AV,Ad h3];rfl,rfl⟩
 ·refine Aj ?_;exact BF [] rfl .refl Ba ⟨by unfold nextD;rw[Ab h1,Ab h2,AV,Ab h3];rfl,rfl⟩
def Ys(os:OL):List (ObT×Nat):=os.zipIdx
theorem QU(os:OL)(k:Nat):(Ys os)[k]?=os[k]?.map λo=>(o,k):=by unfold Ys;rw[List.getElem?_zipIdx];simp
theorem fm(os:OL):(Ys os).length=os.length:=List.length_zipIdx
theorem TZ(h:os[k]?=some o):(Ys os).take (k+1)=(Ys os).take k++[(o,k)]:=by rw[BP,QU,h];rfl
theorem QV(h:pre++[x]<+:Ys os):os[x.2]?=some x.1/\x.2=pre.length/\pre=(Ys os).take x.2:=by
 obtain⟨r,hr⟩:=h;have h1:(Ys os)[pre.length]?=some x:=by rw[<-hr];simp
 rw[QU] at h1;cases ho:os[pre.length]? with
 |none=>rw[ho] at h1;simp at h1
 |some o=>
  rw[ho] at h1;have:x=(o,pre.length):=by simpa using h1.symm
  subst this;refine⟨ho,rfl,?_⟩;show pre=(Ys os).take pre.length;rw[<-hr,Am,Hb rfl]
abbrev xB(B:Nat)(b:Option Addr):Bh:=(B,.cells #[.pointer b] 155 (0,0))
abbrev AcE(gb:Nat)(v:Value)(os:OL):Prop:=v= .slice none 0 0/\os.length=0\/ ∃cap,v= .slice (some ⟨gb,0,none⟩) os.length cap
theorem Ii(B b:Nat)(n:Int)(g:Nat->Int)(v:Value)(os:OL)(gb:Nat)(hv:AcE gb v os)(hn:os.length<=900000):
 FN prog 168 [π B] (λx:ObT×Nat=>[ι (x.2:Nat),.pointer (some ⟨gb,x.2*9,none⟩)]) (λxs=>xs=Ys os) (λpre=>pre<+:Ys os)
  (λ_ l=>xB B (some ⟨b,0,none⟩)∈l/\TY b n g v∈l):=by
 refine⟨λr I Ix G0 Cf hY l G hG h0=>?_⟩;obtain⟨p,cap,rfl,hp⟩: ∃p cap,v= .slice p os.length cap/\(0<os.length->p=some ⟨gb,0,none⟩):=by
  rcases hv with⟨h,h0⟩|⟨cap,h⟩
  ·exact⟨none,0,by rw[h,h0],λh=>by omega⟩
  ·exact⟨_,cap,h,λ_=>rfl⟩
 obtain⟨n1,n2⟩:=Cf _ _ G hG h0;have cl:=Wd n g (.slice p os.length cap);refine AO func168 ntmps168 λE=>?_;refine Aj ?_;refine CF (α:=Nat×Ac) (λx=>[(0,.func (.yield r) #[] #[]),(1,π B),(10,ι os.length),(11,ι x.1)]) (λx=>x.2++G) (λx=>x.1<=os.length/\I ((Ys os).take x.1) x.2) (λx=>os.length-x.1) (0,l) ⟨Bm _,h0⟩ ⟨rfl,rfl,rfl,rfl,trivial⟩ .refl ?_;clear n1 n2;rintro⟨k,l⟩ ⟨hk,hI⟩;simp only at hk hI⊢;obtain⟨n1,n2⟩:=Cf _ _ G hG hI;by_cases C7:k<os.length
 ·obtain⟨o,ho⟩: ∃o,os[k]?=some o:=⟨_,Ak C7⟩
  have rF:=hp Af;subst rF;refine Aj ?_;have hy:=hY ((Ys os).take k) (o,k) l G hG hI (by rw[<-TZ ho];exact BL _ _);refine AP (C8 rfl rfl hy) ?_;rintro v l' ⟨l1,rfl,⟨rfl,Kz⟩|⟨rfl,hx⟩⟩
  ·refine Aj ?_;exact BZ (k+1,l1) ⟨by simp only;omega,by simp only;rw[TZ ho];exact Kz⟩ (by simp only;omega) ⟨rfl,rfl,rfl,rfl,trivial⟩ .refl
  ·refine Aj ?_;exact BF [] rfl .refl Ba ⟨l1,rfl,.inr ⟨_,by rw[<-TZ ho];exact BL _ _,hx⟩⟩
 ·obtain rfl:k=os.length:=by omega
  rw[<-fm,CK] at hI;refine Aj ?_;exact Bc .refl ⟨l,rfl,.inl ⟨_,rfl,hI⟩⟩
abbrev GT(B:Nat)(x:Int):Bh:=(B,.cells #[ι x] 3 (0,0))
abbrev obK(B:Nat)(o:ObT):Bh:=(B,.cells (τ (obC o)) 100 (0,0))
def atO(os:OL)(id:Int):Option Nat:=os.findIdx? λo=>decide (o.id=id)
def Xr(os:OL)(id:Int):Int:=match atO os id with|some k=>(k:Int)|none=> -1
theorem atO_some(h:atO os id=some k): ∃o,os[k]?=some o/\o.id=id:=by unfold atO at h;rw[Jg] at h;obtain⟨h1,h2,_⟩:=h;exact⟨_,Ak h1,by simpa using h2⟩
theorem OK(h:atO os id=none):Xr os id= -1:=by unfold Xr;rw[h]
theorem OM(h:atO os id=some k):Xr os id=(k:Int):=by unfold Xr;rw[h]
theorem Xs{e:Nat}{v:Value}{cs:Ac}(ho:OwnSl e 9 v os.length (ocs os) cs): ∃gb,AcE gb v os/\ ∀(k:Nat) (o:ObT),os[k]?=some o-> ∃sp,cs=[(gb,Obj.cells (τ (ocs os++sp)) e (0,0))]:=by
 rcases ho.2 with⟨rfl,h0,rfl⟩|⟨b,cap,sp,rfl,rfl,_⟩
 ·exact⟨0,.inl ⟨rfl,h0⟩,λk o h=>by have:=(Aw.1 h).1;omega⟩
 ·exact⟨b,.inr ⟨cap,rfl⟩,λk o h=>⟨sp,rfl⟩⟩
theorem yL(h:pre++[x]<+:Ys os)(hp: ∀y,y∈pre->y.1.id≠id)(hx:x.1.id=id):Xr os id=(x.2:Int):=by
 obtain⟨h1,h2,h3⟩:=QV h;refine OM ?_;unfold atO;rw[Jg];obtain⟨hl,he⟩:=Aw.1 h1;refine⟨hl,by rw[he];simpa using hx,λj hj=>?_⟩;have lC:j<os.length:=by omega
 have hm:(os[j],j)∈pre:=by rw[h3];refine Bg (i:=j) ?_;rw[IR,Ad Af,QU,Ak lC];rfl
 have:=hp _ hm;simpa using this
theorem sH(hp: ∀y,y∈Ys os->y.1.id≠id):Xr os id= -1:=by refine OK ?_;unfold atO;rw[List.findIdx?_eq_none_iff];intro o ho;obtain⟨k,hk⟩:=Ke ho;have:(o,k)∈Ys os:=Bg (i:=k) (by rw[QU,hk];rfl);simpa using hp _ this
theorem J4(b:Nat)(S:ArT)(lq:Ac)(hA:IsA b S lq)(id:Int)(l:Ac)(CJ: ∀c,c∈lq->c∈l):
 Fn prog 167 [π b,ι id] l λv l'=>v= ι (Xr S.os id)/\l'=l:=by
 have Ef:=hA.ok.len;obtain⟨Dh,v,cs,rfl,ho⟩:=hA;obtain⟨gb,KZ,OR⟩:=Xs ho;refine AO func167 ntmps167 λE=>?_;refine Iy λb3=>?_;refine Iy λb4=>?_;refine AP (Az rfl rfl (Jy _ rfl _)) ?_;rintro _ _ ⟨B,rfl,rfl⟩;refine gz ?_;refine Dj (α:=ObT×Nat) (ps:=[9,10]) (lb:=[π B]) rfl (Ii B b S.n S.g v S.os gb KZ Af) (λ_=>rfl) rfl
  (λpre l=>l=[xB B (some ⟨b,0,none⟩),GT b4 0,GT b3 id]/\ ∀x,x∈pre->¬x.1.id=id)
  (λc pre l=>c= .ret/\ ∃(Hh:List (ObT×Nat)) (x:ObT×Nat),pre=Hh++[x]/\(∀x,x∈Hh->¬x.1.id=id)/\x.1.id=id/\l=[GT b4 (x.2:Nat)])
  _ l (λpre l2 X2 hX h=>⟨by rw[h.1];exact List.Mem.head _,Aa _ (hX _ (CJ _ (.head _)))⟩) AY ⟨rfl,by simp⟩ ?_ ?_ ?_
 ·rintro E r0 Gb pre ⟨o,k⟩ l' T ⟨fn,tmps,D,rfl⟩ hT ⟨rfl,Gx⟩ DG;obtain⟨Gc,_,_⟩:=QV DG;simp only at Gc;obtain⟨sp,rfl⟩:=OR _ _ Gc;have vM:=hT _ (CJ _ ν);have c0:(τ (ocs S.os++sp))[k*9]?=some (ι o.id):=P9 Gc sp 0 Af;simp only[DY,Ae,Ag];refine gz ?_;refine CP D1 ?_;refine gz ?_;refine Ct [] 6 _ ?_ (hR:=(λ_ h=>h));refine pz ?_;by_cases hy:o.id=id
  ·refine gz ?_;refine EH [GT b4 (k:Nat)] AY ⟨rfl,pre,(o,k),rfl,Gx,hy,rfl⟩
  ·refine gz ?_;refine Cn _ .refl ⟨rfl,λx hx=>?_⟩;rcases AB.1 hx with hx|hx
   ·exact Gx x hx
   ·rw[Ay.1 hx];exact hy
 ·rintro D xs l' rfl ⟨rfl,Gx⟩;rw[sH Gx];simp only[Ae,Ag];refine gz ?_;exact AU [D] (GT b4 (-1)::l) rfl (l':=l) AY Ba ζ ⟨rfl,rfl⟩
 ·rintro D c pre l' DG ⟨rfl,Hh,x,rfl,lj,ht,rfl⟩;rw[yL DG lj ht];simp only[Ae,Ag];refine gz ?_;exact AU [D] (GT b4 (x.2:Nat)::l) rfl (l':=l) AY Ba ζ ⟨rfl,rfl⟩
def getD'(S:ArT)(id:Int):ObT×Bool:=match atO S.os id with
 |some k=>(S.os.getD k obO,true)
 |none=>(obO,false)
theorem get_any(b:Nat)(S:ArT)(lq:Ac)(hA:IsA b S lq)(id:Int)(l:Ac)(CJ: ∀c,c∈lq->c∈l):
 Fn prog 112 [π b,ι id] l λv l'=>v= .tuple #[.agg (τ (obC (getD' S id).1)),.bool (getD' S id).2]/\l'=l:=by
 have NU:=hA;have Ef:=hA.ok.len;obtain⟨Dh,v,cs,rfl,ho⟩:=hA;have hm:=CJ _ (.head _);have cl:=Wd S.n S.g v;refine AO func112 ntmps112 λE=>?_;refine Iy λb4=>?_;refine Be (AI rfl rfl λl2 hl=>J4 b S _ NU id l2 (λc hc=>hl _ (.tail _ (CJ _ hc)))) ?_;cases hk:atO S.os id with
 |none=>rw[OK hk];refine gz ?_;exact AU [] (obK b4 obO::l) rfl (l':=l) .refl Ba ζ ⟨by unfold getD';rw[hk];rfl,rfl⟩
 |some k=>
  rw[OM hk];obtain⟨o,Gc,_⟩:=atO_some hk;have aB:=(Aw.1 Gc).1;rcases ho.2 with⟨_,h0,_⟩|⟨gb,cap,sp,rfl,rfl,_⟩
  ·omega
  obtain⟨x1,x2⟩:=fj Gc sp;have Vo:=CJ _ ν;refine gz ?_;refine Be (Dp rfl (List.Mem.tail _ Vo) x1 x2) ?_;refine gz ?_;refine CY (l':=l) (obK b4 o::l) .refl ζ ⟨?_,rfl⟩;unfold getD';rw[hk];simp only[List.getD,Gc,Dl,JQ]
theorem mP(pre:OL)(y:ObT):ocs (pre++[y])=ocs pre++obC y:=by rw[Nr];show _++(obC y++[])=_;rw[Bj]
def insD(os:OL)(o:ObT):OL:=os.takeWhile (λx=>decide (x.id<=o.id))++o::os.dropWhile (λx=>decide (x.id<=o.id))
def newO(S:ArT)(kd sz fi:Int):ObT:=⟨nextD S fi,kd,sz,fi,framesD kd sz,0,0,0,0⟩
def addE(S:ArT)(kd sz fi:Int):Int:=
 if framesD kd sz=0 then 2 else if fi<0\/fi>S.n-framesD kd sz then 3
 else if(S.os.all λo=>J3 kd fi (framesD kd sz) o)=false then 16 else if nextD S fi=0 then 11 else 0
def addD(S:ArT)(kd sz fi:Int):(Int×Int)×ArT:=
 if addE S kd sz fi=0 then((nextD S fi,0),{S with g:=upd S.g fi.toNat (S.g fi.toNat+1),os:=insD S.os (newO S kd sz fi)}) else((0,addE S kd sz fi),S)
theorem frames_rng(k s:Int):0<=framesD k s/\framesD k s<=64:=by
 unfold framesD
 repeat' split
 all_goals omega
theorem yM(hk:k<=os.length)(h1: ∀x∈os.take k,x.id<=o.id)(h2: ∀x∈os.drop k,¬x.id<=o.id):insD os o=os.take k++o::os.drop k:=by
 have e:os=os.take k++os.drop k:=(Cs ..).symm;have t1:os.takeWhile (λx=>decide (x.id<=o.id))=os.take k:=by
  conv=>lhs;rw[e]
  rw[Hc λx hx=>by simpa using h1 x hx];cases hd:os.drop k with
  |nil=>simp
  |cons y r=>rw[FK,Bj];simpa using h2 y (by rw[hd];exact .head _)
 have t2:os.dropWhile (λx=>decide (x.id<=o.id))=os.drop k:=by
  conv=>lhs;rw[e]
  rw[List.dropWhile_append_of_pos λx hx=>by simpa using h1 x hx];cases hd:os.drop k with
  |nil=>simp
  |cons y r=>rw[HC];simpa using h2 y (by rw[hd];exact .head _)
 unfold insD;rw[t1,t2]
theorem sI(h:os.Pairwise λx y=>x.id<y.id){x y:ObT}(hx:os[i]?=some x)(hy:os[j]?=some y)(W4:i<j):x.id<y.id:=by obtain⟨h1,rfl⟩:=Aw.1 hx;obtain⟨h2,rfl⟩:=Aw.1 hy;exact Il.1 h i j h1 h2 W4
theorem S8{x:ObT}:x∈insD os o<->x=o\/x∈os:=by
 unfold insD;have e:=Ci (p:=λx:ObT=>decide (x.id<=o.id)) (l:=os)
 conv=>rhs;rw[<-e]
 simp only[AB,Au];constructor
 ·rintro(h|h|h)
  ·exact .inr (.inl h)
  ·exact .inl h
  ·exact .inr (.inr h)
 ·rintro(h|h|h)
  ·exact .inr (.inl h)
  ·exact .inl h
  ·exact .inr (.inr h)
theorem Xt(os:OL)(o:ObT):(insD os o).length=os.length+1:=by unfold insD;have e:=BM List.length (Ci (p:=λx:ObT=>decide (x.id<=o.id)) (l:=os));rw[Ah] at e;rw[Ah,By];omega
theorem Zc(h:os.Pairwise λx y=>x.id<y.id)(a:Int): ∀x∈os.dropWhile (λx=>decide (x.id<=a)),a<x.id:=by
 induction os with
 |nil=>intro x hx;cases hx
 |cons y r ih=>
  obtain⟨h1,h2⟩:=Ck.1 h;intro x hx;by_cases hy:y.id<=a
  ·rw[List.dropWhile_cons_of_pos (by simpa using hy)] at hx;exact ih h2 x hx
  ·rw[HC (by simpa using hy)] at hx;rcases Au.1 hx with rfl|hx
   ·omega
   ·have:=h1 x hx;omega
theorem mS(a:Int): ∀x∈os.takeWhile (λx=>decide (x.id<=a)),x.id<=a:=by
 induction os with
 |nil=>intro x hx;cases hx
 |cons y r ih=>
  intro x hx;by_cases hy:y.id<=a
  ·rw[HE (by simpa using hy)] at hx;rcases Au.1 hx with rfl|hx
   ·exact hy
   ·exact ih x hx
  ·rw[FK (by simpa using hy)] at hx;cases hx
theorem S9(h:os.Pairwise λx y=>x.id<y.id)(GS: ∀x∈os,x.id≠o.id):(insD os o).Pairwise λx y=>x.id<y.id:=by
 unfold insD;have hT:=(List.takeWhile_sublist (l:=os) λx:ObT=>decide (x.id<=o.id))
 have hD:=(Jp (l:=os) λx:ObT=>decide (x.id<=o.id))
 refine Br.2 ⟨h.sublist hT,Ck.2 ⟨λx hx=>Zc h o.id x hx,h.sublist hD⟩,λx hx y hy=>?_⟩;have h1:=mS o.id x hx;have h2:=GS x (hT.subset hx);rcases Au.1 hy with rfl|hy
 ·omega
 ·have:=Zc h o.id y hy;omega
theorem T0(hS:S.Ok)(h:nextD S f≠0):0<=f/\f<S.n/\nextD S f=f+1+64*S.g f.toNat/\nextD S f<=65535/\1<=nextD S f:=by
 unfold nextD at*;have:=hS.g1 f.toNat
 split at h
 ·exact absurd rfl h
 split at h
 ·exact absurd rfl h
 split at h
 ·exact absurd rfl h
 rename_i h1 h2 h3;rw[Ab h1,Ab h2,Ab h3];refine⟨Af,Af,rfl,Af,Af⟩
theorem mU(hS:S.Ok)(h:nextD S f≠0): ∀x∈S.os,x.id≠nextD S f:=by
 intro x hx he;obtain⟨f0,f1,f2,_⟩:=T0 hS h;obtain⟨a0,a1,c,c0,c1,c2⟩:=hS.num x hx;have:=hS.n2;have e:x.fi=f:=by omega
 subst e;omega
theorem iS{kd sz fi:Int}(h:addE S kd sz fi=0):framesD kd sz≠0/\0<=fi/\fi<=S.n-framesD kd sz/\(S.os.all λo=>J3 kd fi (framesD kd sz) o)=true/\nextD S fi≠0:=by
 unfold addE at h
 split at h
 ·omega
 split at h
 ·omega
 split at h
 ·omega
 split at h
 ·omega
 rename_i h1 h2 h3 h4;exact⟨h1,Af,Af,by simpa using h3,h4⟩
theorem yN(hS:S.Ok)(kd sz fi:Int):(addD S kd sz fi).2.Ok:=by
 unfold addD
 split
 ·rename_i h;obtain⟨h1,h2,h3,h4,h5⟩:=iS h;obtain⟨f0,f1,f2,f3,f4⟩:=T0 hS h5;have hg:=hS.g1 fi.toNat;refine⟨hS.n1,hS.n2,λj=>?_,S9 hS.asc (mU hS h5),λx hx=>?_,λx hx=>?_⟩
  ·show 0<=upd S.g fi.toNat (S.g fi.toNat+1) j/\upd S.g fi.toNat (S.g fi.toNat+1) j<=1024;by_cases e:j=fi.toNat
   ·subst e;rw[upd_same];omega
   ·rw[upd_other _ _ _ _ e];exact hS.g1 j
  ·rcases S8.1 hx with rfl|hx
   ·exact⟨f4,f3⟩
   ·exact hS.rng x hx
  ·show 0<=x.fi/\x.fi<S.n/\ ∃c:Int,0<=c/\c<upd S.g fi.toNat (S.g fi.toNat+1) x.fi.toNat/\_;rcases S8.1 hx with rfl|hx
   ·exact⟨f0,f1,S.g fi.toNat,hg.1,by rw[show(newO S kd sz fi).fi.toNat=fi.toNat from rfl,upd_same];omega,f2⟩
   ·obtain⟨a0,a1,c,c0,c1,c2⟩:=hS.num x hx;refine⟨a0,a1,c,c0,?_,c2⟩;by_cases e:x.fi.toNat=fi.toNat
    ·rw[e,upd_same];rw[e] at c1;omega
    ·rw[upd_other _ _ _ _ e];exact c1
 ·exact hS
end Ar
end Go.Proofs.YtlifcingifodfaaGreat
