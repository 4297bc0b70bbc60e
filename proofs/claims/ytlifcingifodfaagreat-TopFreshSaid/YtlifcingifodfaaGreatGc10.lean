/- Laws that the statement's proof leans on (joined out of several texts). -/
import Derived.Test.YtlifcingifodfaaGreatGc9
set_option maxHeartbeats 4000000
set_option linter.unusedVariables false
set_option linter.unusedSimpArgs false
namespace Go.Proofs.YtlifcingifodfaaGreat
open Tryz
open List(toArray)
open Go.RowKit
variable{P:Program}{l R A l' l2 B:Ad}{N k f i n:Nat}{ro:Option Nat}{E:World}{v:Value}{Q:Exit->Act->World->Prop}{ds:List Deferred}{vs args:Ap}{pl:List BH}{ops:Array Oper}{ty:TypeId}{pos:String}{x:Operand}{xs:List Operand}{g:Option (Nat×Bool)}{A0 os:List Oper}{tbl:List (List Nat)}{sp:FM}{K:Value->Ad->Prop}{sw:Sw}{c:Code}{o:Oper}{fn:Func}{rs:List ResultVar}
theorem zKp(h:Keep l l':=by(repeat(first|exact .refl|apply Keep.drop))):Keep l l':=h
theorem zLf{w:Value}(h:v=w:=by first|rfl|(exfalso;omega)|(simp[Jv, *];done)|(simp_all [Jv];done)|(simp_all [Jv];omega)):v=w:=h
class QF(P:Program)(f:Nat)(vs:Ap)(l:Ad)(v:outParam Value):Prop where
 out: ∀l2,(∀c,c∈l->c∈l2)->Fn P f vs l2 (λv' l'=>v'=v/\l'=l2)
instance{P:Program}{f:Nat}{vs:Ap}{l:Ad}{v:Value}{c:Bg}[h:QF P f vs l v]:QF P f vs (c::l) v:=⟨λl2 hl=>h.out l2 λx hx=>hl x (.tail _ hx)⟩
theorem EI{fr:Fr}{d:Nat}{at_:Array TypeId}{aft:Array Edge}(hk:Dz P ro N E ops Q A0 ((d,v)::fr) ds l)(hx:ev fr x=some (.func (.func f) #[] #[]):=by rfl)(hy:RS fr xs=some vs:=by rfl)(c:EN P f:=by infer_instance)(q:QF P f vs l v:=by infer_instance)(hw:Rr ops fr g=some true:=by rfl)(hb:Nat.blt d N=true:=by rfl):Dz P ro N E ops Q (⟨some d,.call {callee:= .value x,args:=xs.toArray,argTypes:=at_},ty,pos,aft,g⟩::A0) fr ds l:=
 QO (AL hx hy q.out) hw rfl hb hk
def vY:Nat->Nat->List (Nat×Bool)
 |_,0=>[]
 |i,k+1=>(i,true)::vY (i+1) k
def Aao(ops:List Oper):List (List Nat):=ops.foldl (λacc o=>acc++[((o.after.toList.filter λe=>Region.binds .any e).map λe=>e.on)++(((o.after.toList.filter λe=>Region.binds .any e).map λe=>e.on).flatMap λd=>acc.getD d [])]) []
theorem It{fr:Fr}(h:PlanS P ro N E os.toArray Q l (Aao os) none [] pl fr ds l)(ha:Attach os (vY 0 os.length) pl:=by exact GZ)(hm:P.follows .mixedOrders=true:=by kernel_rfl)(hv:Wr os (vY 0 os.length) (Aao os)=true:=by kernel_rfl):BN P ro N E (.region k os.toArray true) Q fr ds l:=LV _ _ l hm hv ha (λ_ h=>h) h
theorem Vs{fr:Fr}{d:Nat}{at_:Array TypeId}{aft:Array Edge}(hk:PlanS P ro N E ops Q R tbl sw sp pl ((d,v)::fr) ds l)(hx:ev fr x=some (.func (.func f) #[] #[]):=by rfl)(hy:RS fr xs=some vs:=by rfl)(c:EN P f:=by infer_instance)(q:QF P f vs R v:=by infer_instance)(hw:Rr ops fr g=some true:=by rfl)(hb:Nat.blt d N=true:=by rfl):PlanS P ro N E ops Q R tbl sw sp ((i,true,⟨some d,.call {callee:= .value x,args:=xs.toArray,argTypes:=at_},ty,pos,aft,g⟩)::pl) fr ds l:=
 Z3 (AL hx hy q.out) hw rfl hb hk
section
variable{fr:Fr}{d:Nat}{at_:Array TypeId}{aft:Array Edge}[c:EN P f]
theorem tq(h: ∀l2,(∀c,c∈l->c∈l2)->Fn P f vs l2 (λv' l'=>v'=v/\l'=l2))(hk:Dz P ro N E ops Q A0 ((d,v)::fr) ds l)(hx:ev fr x=some (.func (.func f) #[] #[]):=by rfl)(hy:RS fr xs=some vs:=by rfl)(hw:Rr ops fr g=some true:=by rfl)(hb:Nat.blt d N=true:=by rfl):Dz P ro N E ops Q (⟨some d,.call {callee:= .value x,args:=xs.toArray,argTypes:=at_},ty,pos,aft,g⟩::A0) fr ds l:=
 QO (AL hx hy h) hw rfl hb hk
theorem pq(h: ∀l2,(∀c,c∈R->c∈l2)->Fn P f vs l2 (λv' l'=>v'=v/\l'=l2))(hk:PlanS P ro N E ops Q R tbl sw sp pl ((d,v)::fr) ds l)(hx:ev fr x=some (.func (.func f) #[] #[]):=by rfl)(hy:RS fr xs=some vs:=by rfl)(hw:Rr ops fr g=some true:=by rfl)(hb:Nat.blt d N=true:=by rfl):PlanS P ro N E ops Q R tbl sw sp ((i,true,⟨some d,.call {callee:= .value x,args:=xs.toArray,argTypes:=at_},ty,pos,aft,g⟩)::pl) fr ds l:=
 Z3 (AL hx hy h) hw rfl hb hk
end
def AdA(ops:List Oper):List Nat:=ops.foldl (λacc o=>acc++[o.after.toList.foldl (λm e=>bif Region.binds .any e then Nat.lor m (Nat.lor (Nat.shiftLeft 1 e.on) (acc.getD e.on 0)) else m) 0]) []
def qw(ops:List Oper):List (List Nat):=(AdA ops).map λm=>(List.range ops.length).filter λi=>Nat.testBit m i
def Cr(ef:List Nat):Nat->Nat->List (Nat×Bool)
 |_,0=>[]
 |i,k+1=>(i,!ef.contains i)::Cr ef (i+1) k
section
variable{fr:Fr}
structure MP(P:Program)(ro:Option Nat)(N:Nat)(E:World)(ops:Array Oper)(Q:Exit->Act->World->Prop)(tbl:List (List Nat))(g:Bool)(sp:FM)(pl:List BH)(fr:Fr)(ds:List Deferred)(l:Ad):Prop where
 h:(g=true-> ∀x,x∈sp-> ∀c,c∈x.2->c∈l)->PlanS P ro N E ops Q [] tbl none sp pl fr ds l
theorem Cx(plan:List (Nat×Bool))(h:MP P ro N E os.toArray Q (qw os) true [] pl fr ds l)(ha:Attach os plan pl:=by exact GZ)(hm:P.follows .mixedOrders=true:=by kernel_rfl)(hv:Wr os plan (qw os)=true:=by kernel_rfl):BN P ro N E (.region k os.toArray true) Q fr ds l:=
 LV plan _ [] hm hv ha (λ_ h=>nomatch h) (h.h λ_ _ h=>nomatch h)
variable{g:Bool}{d:Nat}
theorem Q3(h:CU N E Q .normal fr ds l):MP P ro N E ops Q tbl g sp [] fr ds l:=⟨λ_=> .nil h⟩
theorem Yb(hk:MP P ro N E ops Q tbl g sp pl ((d,v)::fr) ds l)(h:OpQ P ro N fr [] o v:=by exact zq)(hw:Rr ops fr o.guard=some true:=by rfl)(hd:o.dst=some d:=by rfl)(hb:Nat.blt d N=true:=by rfl):MP P ro N E ops Q tbl g sp ((i,true,o)::pl) fr ds l:=⟨λhs=>Z3 h hw hd hb (hk.h hs)⟩
theorem dl(hk:MP P ro N E ops Q tbl g ((i,l)::sp) pl ((d,v)::fr) ds l)(h:OpQ P ro N fr l o v:=by exact zq)(hw:o.guard=none:=by rfl)(hd:o.dst=some d:=by rfl)(hb:Nat.blt d N=true:=by rfl):MP P ro N E ops Q tbl g sp ((i,true,o)::pl) fr ds l:=
 ⟨λhs=>Gi h (λ_ h=>h) hw hd hb (hk.h λhg x hx=>by rcases At.1 hx with rfl|hx;exact λ_ h=>h;exact hs hg x hx)⟩
theorem mqa{at_:Array TypeId}{aft:Array Edge}(hk:MP P ro N E ops Q tbl g ((i,l)::sp) pl ((d,v)::fr) ds l)(hx:ev fr x=some (.func (.func f) #[] #[]):=by rfl)(hy:RS fr xs=some vs:=by rfl)(c:EN P f:=by infer_instance)(q:QF P f vs l v:=by infer_instance)(hb:Nat.blt d N=true:=by rfl):MP P ro N E ops Q tbl g sp ((i,true,⟨some d,.call {callee:= .value x,args:=xs.toArray,argTypes:=at_},ty,pos,aft,none⟩)::pl) fr ds l:=
 dl hk (AL hx hy q.out) rfl rfl hb
theorem Ll(h:OpE P ro N fr l o K)(hk: ∀v l',K v l'->MP P ro N E ops Q tbl false sp pl ((d,v)::fr) ds l')(hw:o.guard=none:=by rfl)(hd:o.dst=some d:=by rfl)(hb:Nat.blt d N=true:=by rfl)(ha:(sp.map Prod.fst).all (λq=>FQ tbl i q)=true:=by kernel_rfl):MP P ro N E ops Q tbl g sp ((i,false,o)::pl) fr ds l:=
 ⟨λhs=>Hb h hw hd hb (λ_ _ _ _ h=>nomatch h) (λ_ _ _ x hx hn=>Dg ha hx hn) λv l' k=>(hk v l' k).h λh=>by cases h⟩
theorem kA(hk:MP P ro N E ops Q tbl false sp pl fr ds l2)(h:OpE P ro N fr l o (λv' l'=>v'=undef/\l'=l2):=by exact zst)(hw:o.guard=none:=by rfl)(hd:o.dst=none:=by rfl)(ha:(sp.map Prod.fst).all (λq=>FQ tbl i q)=true:=by kernel_rfl):MP P ro N E ops Q tbl g sp ((i,false,o)::pl) fr ds l:=
 ⟨λhs=>Hs h hw hd (λ_ _ _ _ h=>nomatch h) (λ_ _ _ x hx hn=>Dg ha hx hn) λv l' k=>by rw[k.2];exact hk.h λh=>by cases h⟩
theorem Id(h:OpE P ro N fr l o K)(hl: ∀v l',K v l'-> ∀c,c∈l->c∈l')(hk: ∀v l',K v l'->MP P ro N E ops Q tbl g sp pl ((d,v)::fr) ds l')(hw:o.guard=none:=by rfl)(hd:o.dst=some d:=by rfl)(hb:Nat.blt d N=true:=by rfl)(hg:g=true:=by rfl):MP P ro N E ops Q tbl g sp ((i,false,o)::pl) fr ds l:=
 ⟨λhs=>Hb h hw hd hb (λ_ _ _ _ h=>nomatch h) (λv l' k x hx _ c hc=>hl v l' k c (hs hg x hx c hc)) λv l' k=>(hk v l' k).h λh x hx c hc=>hl v l' k c (hs h x hx c hc)⟩
theorem qr{fr:Fr}{l0:Ad}{y:Value}(hr:fn.results=rs.toArray:=by rfl)(h:ResS P fr l rs vs:=by exact Ba)(hk:Keep l l0:=by exact zKp)(hx:Jv vs=y:=by exact zLf):CU N E (bodyPostM Fence.wide 0 P fn (RK E λv l'=>v=y/\l'=l0)) .ret fr [] l:=AV [] l hr .refl h hk ⟨hx,rfl⟩
theorem CC{H G:Prop}(k:H)(h:Bx H->G:=by(intro k;(repeat(first|refine Q3 ?_|(show MP _ _ _ _ _ _ _ _ _ ((_,true,⟨_,.load _ _,_,_,_,_⟩)::_) _ _ _;refine dl ?_)|(show MP _ _ _ _ _ _ _ _ _ ((_,true,⟨_,.call _,_,_,_,_⟩)::_) _ _ _;first|refine mqa ?_|refine Yb ?_|refine dl ?_)|(show MP _ _ _ _ _ _ _ _ _ ((_,true,_)::_) _ _ _;first|refine Yb ?_|refine dl ?_)|(show MP _ _ _ _ _ _ _ _ _ ((_,false,_)::_) _ _ _;refine kA ?_)));exact k.h)):G:=h ⟨k⟩
def vZ(P:Program)(ro:Option Nat)(c:Code)(Q:Exit->Act->World->Prop)(m:Nat):Act->World->Prop:=λa W=>Code.roundsIn (Fw ro) 0 P c Q m a W
theorem H9(m:Nat)(h:BN P ro N E c (Exit.then (vZ P ro c Q m) Q) fr ds l):BN P ro N E (.loop c) Q fr ds l:=⟨λa W hf hds hs=>wpIn_loop_rounds (m+1) (h.run a W hf hds hs)⟩
theorem E8{m:Nat}(h:BN P ro N E c (Exit.then (vZ P ro c Q m) Q) fr ds l):CU N E (Exit.then (vZ P ro c Q (m+1)) Q) .normal fr ds l:=⟨λa W hf hds hs=>h.run a W hf hds hs⟩
end
section
variable{fr:Fr}{d:Nat}
theorem AR(h:OpE P ro N fr l o K)(hk: ∀v l',K v l'->Dz P ro N E ops Q A0 ((d,v)::fr) ds l')(hw:o.guard=none:=by rfl)(hd:o.dst=some d:=by rfl)(hb:Nat.blt d N=true:=by rfl):Dz P ro N E ops Q (o::A0) fr ds l:=jp h hw hd hb hk
theorem Be(h:OpQ P ro N fr l o v)(hk:Dz P ro N E ops Q A0 ((d,v)::fr) ds l)(hw:o.guard=none:=by rfl)(hd:o.dst=some d:=by rfl)(hb:Nat.blt d N=true:=by rfl):Dz P ro N E ops Q (o::A0) fr ds l:=tJ h hw hd hb hk
theorem Bb(hp:Keep l l')(hk:K (Jv vs) l')(hr:fn.results=rs.toArray:=by rfl)(h:ResS P fr l' rs vs:=by exact Ba):CU N E (bodyPostM Fence.wide 0 P fn (RK E K)) .ret fr [] l:=BD [] hr hp h hk
theorem CM(l2:Ad)(hp:Keep l l2)(p2:Keep l2 l')(hk:K (Jv vs) l')(hr:fn.results=rs.toArray:=by rfl)(h:ResS P fr l2 rs vs:=by exact Ba):CU N E (bodyPostM Fence.wide 0 P fn (RK E K)) .ret fr [] l:=AV [] l2 hr hp h p2 hk
theorem E4{p:Prop}(h:p:=by(refine Aj ?_;first|exact Bb .refl ⟨rfl,rfl⟩|exact Bb (.drop .refl) ⟨rfl,rfl⟩|exact Bb (.drop (.drop .refl)) ⟨rfl,rfl⟩)):p:=h
theorem AO{f:FuncId}(hf:P.funcs[f]?=some fn)(hn:fn.ntmps=N)(h: ∀E,BN P none N E c (bodyPostM Fence.wide 0 P fn (RK E K)) fr [] l)(hb:fn.body=some c:=by rfl)(ha:Wl 0 args=fr:=by(simp only[Wl];rfl))(hl:Nat.ble args.length fn.ntmps=true:=by rfl):Fn P f args l K:=SW hf hb hl λE=>by rw[ha,hn];exact h E
theorem zPl{a b:List (Nat×Bool)}(h:a=b:=by(simp only[Cr,List.contains_cons,List.contains_nil,Nat.reduceBEq,Nat.reduceAdd,Bool.or_false,Bool.or_true,LR,Bool.true_or,Bool.not_true,Hj];rfl)):a=b:=h
theorem Cn{plan:List (Nat×Bool)}(ef:List Nat)(n:Nat)(R:Ad)(h:PlanS P ro N E os.toArray Q R (qw os) none [] pl fr ds l)(hR: ∀c,c∈R->c∈l:=by exact UM)(hp:Cr ef 0 n=plan:=by exact zPl)(ha:Attach os plan pl:=by exact GZ)(hm:P.follows .mixedOrders=true:=by kernel_rfl)(hv:Wr os plan (qw os)=true:=by kernel_rfl):BN P ro N E (.region k os.toArray true) Q fr ds l:=LV plan _ R hm hv ha hR h
end
set_option maxRecDepth 20000
theorem GL{fr:Fr}{d:Option Nat}{aft:Array Edge}{t e:Nat}{zs cs:Ap}{xs:List (Nat×Operand)}{ps:List (Nat×Value)}(hx:Z4 fr xs=some ps)[c:ZV P t zs][ca:AT P t n e k](Pg:Instr.fill (λi=>some (i*k,k)) (toArray zs) ps=some (toArray cs)):OpQ P ro N fr R ⟨d,.build t (toArray xs),ty,pos,aft,g⟩ (.agg (toArray cs)):=BM rfl λρ l hρ _=>by
 obtain⟨i,zv,h1,h2,h3⟩:=J0 c.out;obtain⟨Hp,k1,k2,k3⟩:=Mn ca.out;simp only[execOp,AC,Instr.build,zeroValue,Dj,hρ.parts hx];rw[<-AC,JN h1,h2];simp only[Bn];rw[E0 k1];show sl P (sizeOf e>>=_) l _;rw[AC,Hr k2];have hz:zv.cells=toArray zs:=by rw[<-h3]
 simp only[k3];rw[hz,Pg];exact⟨rfl,rfl⟩
abbrev z8:Ap:=[.int .u64 0,.int .u64 0,.int .u64 0,.int .u64 0,.int .u64 0,.int .u64 0,.int .u64 0,.int .u64 0]
def dm(n:Nat):Ap:=List.replicate (n*8) (.int .u64 0)
theorem kB(n:Nat):dm n=(List.replicate n z8).flatten:=by
 unfold dm
 induction n with
 |zero=>rfl
 |succ n ih=>rw[BJ,Cv,<-ih,show(n+1)*8=8+n*8 by omega,<-Jp];rfl
theorem qx(h:k<n):C8 (toArray (dm n)) (k*8) z8=toArray (dm n):=by
 apply DH;intro j;have UI:(toArray (dm n)).size=n*8:=by simp[dm]
 rw[Tk,UI];by_cases hj:k*8<=j/\j<k*8+8
 ·rw[Ac ⟨hj.1,by simp;omega,Af⟩];obtain⟨i,hi,rfl⟩: ∃i,i<8/\j=k*8+i:=⟨j-k*8,Af,Af⟩
  rw[CG];have h1:(toArray (dm n))[k*8+i]?=some (.int .u64 0):=by unfold dm;rw[AF,Dy,Ac Af]
  rw[h1];rcases i with _|_|_|_|_|_|_|_|i<;>first|rfl|omega
 ·rw[Ab λh=>hj ⟨h.1,by have:=h.2.1;simp at this;omega⟩]
abbrev Pn(b gb n:Nat):Bg:=(b,.cells (toArray [.slice (some ⟨gb,0,none⟩) n n]) 253 (0,0))
abbrev yL(gb n:Nat):Bg:=(gb,.cells (toArray (dm n)) 254 (0,0))
def IsM(b n:Nat)(lq:Ad):Prop:=1<=n/\n<=64/\ ∃gb,lq=[Pn b gb n,yL gb n]
theorem kC(n:Nat)(h1:1<=n)(h2:n<=64)(l:Ad):Fn prog 126 [.int .i64 (n:Nat)] l λv l'=> ∃b,v= .tuple #[.pointer (some ⟨b,0,none⟩),.int .i64 0]/\ ∃lq,IsM b n lq/\l'=lq++l:=by refine AO func126 ntmps126 λE=>?_;refine Aj ?_;refine AR (Ga (n:=n) (kk:=8) (xs:=dm n) rfl rfl Af Af AZ (kB n)) ?_;rintro _ _ ⟨gb,RQ,rfl,rfl⟩;refine AQ λb=>?_;exact Bb .refl ⟨_,rfl,_,⟨h1,h2,gb,rfl⟩,rfl⟩
abbrev BP(B:Nat)(x:Int):Bg:=(B,.cells (toArray [.int .i64 x]) 3 (0,0))
abbrev Xt(B b:Nat):Bg:=(B,.cells (toArray [.pointer (some ⟨b,0,none⟩)]) 153 (0,0))
theorem Yc(b f:Nat)(l:Ad):Fn prog 183 [.pointer (some ⟨b,0,none⟩),.int .i64 (f:Nat)] l λv l'=> ∃B1 B2,v= .func (.func 242) #[] #[.pointer (some ⟨B1,0,none⟩),.pointer (some ⟨B2,0,none⟩)]/\l'=BP B1 f::Xt B2 b::l:=by refine AO func183 ntmps183 λE=>?_;refine Aj ?_;refine AR (Ex rfl rfl) ?_;rintro _ _ ⟨B2,_,rfl,rfl⟩;refine AR (Ex rfl rfl) ?_;rintro _ _ ⟨B1,_,rfl,rfl⟩;refine Aj ?_;exact Bb .refl ⟨_,_,rfl,rfl⟩
theorem PB(h:f<=k)(hk:k<n):(List.range' f (n-f)).take (k+1-f)=(List.range' f (n-f)).take (k-f)++[k]:=by rw[show k+1-f=(k-f)+1 by omega,Cf,List.getElem?_range' Af];simp;omega
theorem Vt(B1 B2 b gb n f:Nat)(hf:f<n)(hn:n<=64):FA prog 242 [.pointer (some ⟨B1,0,none⟩),.pointer (some ⟨B2,0,none⟩)] (λx:Nat=>[.int .i64 (x:Nat),.pointer (some ⟨gb,x*8,none⟩)]) (λxs=>xs=List.range' f (n-f)) (λpre=>pre<+:List.range' f (n-f))
 (λ_ l=>BP B1 f∈l/\Xt B2 b∈l/\Pn b gb n∈l):=by
 refine⟨λr I Ix G0 Ca hY l G hG h0=>?_⟩;obtain⟨n1,n2,n3⟩:=Ca _ _ G hG h0;refine AO func242 ntmps242 λE=>?_;refine Aj ?_;refine CF (α:=Nat×Ad) (λx=>[(0,.func (.yield r) #[] #[]),(2,.pointer (some ⟨B2,0,none⟩)),(4,.int .i64 x.1)]) (λx=>x.2++G) (λx=>f<=x.1/\x.1<=n/\I ((List.range' f (n-f)).take (x.1-f)) x.2) (λx=>n-x.1) (f,l) ⟨Bd _,by simp only;omega,by simp only;rw[DR];exact h0⟩ ⟨rfl,rfl,rfl,trivial⟩ .refl ?_;clear n1 n2 n3;rintro⟨k,l⟩ ⟨jy,Le,hI⟩;simp only at jy Le hI⊢;obtain⟨n1,n2,n3⟩:=Ca _ _ G hG hI;by_cases Dc:k<n
 ·refine Aj ?_;have hy:=hY ((List.range' f (n-f)).take (k-f)) k l G hG hI (by rw[<-PB jy Dc];exact BI _ _);refine AR (C0 rfl rfl hy) ?_;rintro v l' ⟨l1,rfl,⟨rfl,Lg⟩|⟨rfl,hx⟩⟩
  ·refine Aj ?_;exact BR (k+1,l1) ⟨by simp only;omega,by simp only;omega,by simp only;rw[PB jy Dc];exact Lg⟩ (by simp only;omega) ⟨rfl,rfl,rfl,trivial⟩ .refl
  ·refine Aj ?_;exact BD [] rfl .refl (by exact Ba) ⟨l1,rfl,.inr ⟨_,by rw[<-PB jy Dc];exact BI _ _,hx⟩⟩
 ·obtain rfl:k=n:=by omega
  rw[Bz (by simp)] at hI;refine Aj ?_;exact Bb .refl ⟨l,rfl,.inl ⟨_,rfl,hI⟩⟩
theorem gc(b n f k:Nat)(lq:Ad)(hq:IsM b n lq)(hf:f<n)(hk:k<=n-f)(G:Ad):Fn prog 138 [.pointer (some ⟨b,0,none⟩),.int .i64 (f:Nat),.int .i64 (k:Nat)] (lq++G) λv l'=>v= .int .i64 0/\ ∃X,l'=lq++(X++G):=by
 obtain⟨h1,h2,gb,rfl⟩:=hq;simp only[Ae,Ag];refine AO func138 ntmps138 λE=>?_;refine Aj ?_;refine AR (Ex rfl rfl) ?_;rintro _ _ ⟨b4,_,rfl,rfl⟩;refine AR (Ex rfl rfl) ?_;rintro _ _ ⟨b5,_,rfl,rfl⟩;refine Aj ?_;refine Cn [] 27 _ ?_ (hR:=(λ_ h=>h));refine BS ?_;refine Aj ?_;refine AR (AA rfl rfl (Yc b f _)) ?_;rintro _ _ ⟨B1,B2,rfl,rfl⟩;refine Aj ?_;refine Df (α:=Nat) (ps:=[42,43]) (lb:=[.pointer (some ⟨B1,0,none⟩),.pointer (some ⟨B2,0,none⟩)]) rfl (Vt B1 B2 b gb n f hf h2) (λ_=>rfl) rfl
  (λpre l=>l=[BP B1 f,Xt B2 b,BP b5 k,BP b4 f,Pn b gb n,yL gb n])
  (λc pre l=>c= .exit 1/\l=[BP B1 f,Xt B2 b,BP b5 k,BP b4 f,Pn b gb n,yL gb n])
  _ G (λpre l2 X2 hX h=>by rw[h];exact⟨Ai _ (by exact BW),Ai _ (by exact BW),Ai _ (by exact BW)⟩) (by exact AU) rfl ?_ ?_ ?_
 ·rintro E r0 FS pre x l' T ⟨fn,tmps,D,rfl⟩ hT rfl DB;have hx:f<=x/\x<n:=by
   have h3:x∈List.range' f (n-f):=DB.subset (by simp);rw[Lp] at h3;omega
  simp only[DU,Ae,Ag];refine Aj ?_;refine CH (by exact DX) ?_;refine Aj ?_;by_cases hb:(x:Int)-f>=k
  ·refine Aj ?_;refine E2 [BP B1 f,Xt B2 b,BP b5 k,BP b4 f,Pn b gb n,yL gb n] (by exact AU) ⟨rfl,rfl⟩
  ·refine Aj ?_;refine Be (GL (zs:=z8) (cs:=z8) rfl rfl) ?_;refine Aam ?_;apply ME
   ·exact El (cs:=toArray (dm n)) (n:=8) rfl rfl rfl (by simp[Value.oneCell']) (by exact DX) (by simp[dm];omega)
   ·rfl
   ·rfl
   rintro _ _ ⟨rfl,rfl⟩;rw[show(toArray z8).toList=z8 from rfl,qx hx.2];refine Aj ?_;exact Cg _ .refl rfl
 ·rintro D xs l' rfl rfl;simp only[Ae,Ag];refine Aj ?_;exact AV [D] _ rfl (l':=Pn b gb n::yL gb n::G) (by exact AU) (by exact Ba) (by exact AU) ⟨rfl,[],rfl⟩
 ·rintro D c pre l' DB ⟨rfl,rfl⟩;simp only[Ae,Ag];refine Aj ?_;exact AV [D] _ rfl (l':=Pn b gb n::yL gb n::G) (by exact AU) (by exact Ba) (by exact AU) ⟨rfl,[],rfl⟩
theorem B0(h: ∀(f:Ad->Nat) (g:Bg->Nat),f []=0->(∀x l,f (x::l)=g x+f l)->(∀x y,f (x++y)=f x+f y)->f A=f B:=by intro f g h0 h1 h2;simp only[CQ,AJ,h0,h1,h2];try omega):A.Perm B:=by
 classical
 refine List.perm_iff_count.2 λa=>h (λl=>List.count a l) (λx=>List.count a [x]) rfl (λx l=>?_) (λx y=>List.count_append);rw[show x::l=[x]++l from rfl,List.count_append]
theorem A8(X:Ad)(h: ∀(f:Ad->Nat) (g:Bg->Nat),f []=0->(∀x l,f (x::l)=g x+f l)->(∀x y,f (x++y)=f x+f y)->f A=f (X++B):=by intro f g h0 h1 h2;simp only[CQ,AJ,h0,h1,h2];try omega):Keep A B:=⟨X,B0 h⟩
theorem Fn.mvP{f:FuncId}{F:Ad}{Kv:Value->Prop}{I:Ad->Prop}(Γ:Ad->Ad)(h:Fn P f args (A++F) λv l'=>Kv v/\ ∃A',I A'/\l'=A'++F)
 (hΓ: ∀A,(Γ A).Perm (A++F):=by intro A;exact B0):Fn P f args (Γ A) λv l'=>Kv v/\ ∃A',I A'/\l'=Γ A':=
 Fn.re (.of_perm (hΓ A)) h λv l' ⟨h1,A',h2,h3⟩=>⟨_,by rw[h3];exact .of_perm (hΓ A').symm,h1,A',h2,rfl⟩
abbrev pV(b:Nat):Value:= .pointer (some ⟨b,0,none⟩)
abbrev Tm(b:Nat)(v:Value):Bg:=(b,.cells (toArray [v]) 282 (0,0))
structure MF where
 sp:Int
 pg:Int
 fr:Int
 rd:Bool
 wr:Bool
deriving DecidableEq
abbrev Q4(t:MF):Ap:=[.int .i64 t.sp,.int .i64 t.pg,.int .i64 t.fr,.bool t.rd,.bool t.wr]
abbrev QP:MF:=⟨0,0,0,false,false⟩
structure Lh where
 w:Nat->MF
 d:Nat->Int
def gd(T:Lh)(s:Nat):Ap:=Q4 (T.w (2*s))++(Q4 (T.w (2*s+1))++[.int .i64 (T.d s)])
def Si(T:Lh):Ap:=gd T 0++(gd T 1++(gd T 2++gd T 3))
abbrev NI(b:Nat)(T:Lh):Bg:=(b,.cells (toArray (Si T)) 399 (0,0))
structure IW where
 ro:Int
 sp:Int
 tb:Lh
abbrev P8(c:IW×Nat):Ap:=[.int .i64 c.1.ro,.int .i64 c.1.sp,pV c.2]
def Gz(ks:List (IW×Nat)):Ad:=ks.map λc=>NI c.2 c.1.tb
def IsCos(b:Nat)(K:List IW)(lq:Ad):Prop:= ∃v cs ks,ks.map Prod.fst=K/\OwnSl 309 3 v ks.length (ks.flatMap P8) cs/\(∀c,c∈ks-> ∀s,s<4->c.1.tb.d s=0\/c.1.tb.d s=1)/\lq=Tm b v::(cs++Gz ks)
abbrev tbZ:Lh:=⟨λ_=>QP,λ_=>0⟩
abbrev Zw:IW:=⟨-1,0,tbZ⟩
theorem kD(l:Ad):Fn prog 177 [] l λv l'=> ∃b,v= .pointer (some ⟨b,0,none⟩)/\l'=NI b tbZ::l:=by refine AO func177 ntmps177 λE=>?_;refine AQ λb=>?_;exact Bb .refl ⟨_,rfl,rfl⟩
def Aap(b n:Nat)(lq:Ad):Prop:=IsCos b (List.replicate n Zw) lq
theorem kE(n:Nat)(h1:1<=n)(h2:n<=3)(l:Ad):Fn prog 127 [.int .i64 (n:Nat)] l λv l'=> ∃b,v= .tuple #[.pointer (some ⟨b,0,none⟩),.int .i64 0]/\ ∃lq X,Aap b n lq/\l'=lq++(X++l):=by
 refine AO func127 ntmps127 λE=>?_;refine AQ λb=>?_;refine CF (α:=Nat×Value×List Nat×Ad) (λx=>[(4,.pointer (some ⟨b,0,none⟩)),(13,.int .i64 n),(14,.int .i64 x.1)]) (λx=>Tm b x.2.1::(x.2.2.2++(Gz (x.2.2.1.map λc=>(Zw,c))++l)))
  (λx=>x.1<=n/\x.2.2.1.length=x.1/\OwnSl 309 3 x.2.1 x.1 ((x.2.2.1.map λc=>(Zw,c)).flatMap P8) x.2.2.2) (λx=>n-x.1) (0,.slice none 0 0,[],[]) ⟨Bm _,rfl,OwnSl.nil _ _⟩ ⟨rfl,rfl,rfl,trivial⟩ .refl ?_
 rintro⟨i,v,bs,cs⟩ ⟨hi,hbs,ho⟩;simp only at hi hbs ho⊢;have Ju:v.oneCell'=true:=ho.one;by_cases Dc:i<n
 ·refine Aj ?_;refine Cn [5,7,8,11] 12 ([]) ?_;refine BS ?_;apply Gi (S:=[Tm b v]);(·exact UV);(·exact C5 (.head _));(·rfl);(·rfl);(·rfl);refine BS ?_;apply Hb
  ·exact AA rfl rfl (kD _)
  ·rfl
  ·rfl
  ·rfl
  ·intro _ _ _ c hc;cases hc
  ·rintro _ _ ⟨_,_,rfl⟩ x hx _ c hc;rw[AE.1 hx] at hc;rw[AE.1 hc];exact .tail _ (.head _)
  rintro _ _ ⟨bt,rfl,rfl⟩;refine BS ?_;apply Hb
  ·exact FB (k:=3) (zs:=[.int .i64 0,.int .i64 0,.pointer none]) rfl rfl rfl AZ AZ
  ·rfl
  ·rfl
  ·rfl
  ·intro _ _ _ c hc;cases hc
  ·rintro _ _ ⟨_,_,_,rfl⟩ x hx _ c hc;rw[AE.1 hx] at hc;rw[AE.1 hc];exact .tail _ (.tail _ (.head _))
  rintro _ _ ⟨bl,_,rfl,rfl⟩;refine BS ?_;apply Hb
  ·exact Ht (k:=3) (X:=[_,_]) (cs:=cs) (F:=Gz (bs.map λc=>(Zw,c))++l) (n:=i) (xs:=(bs.map λc=>(Zw,c)).flatMap P8) (zs:=[.int .i64 0,.int .i64 0,.pointer none]) rfl rfl rfl ho rfl (by simp[Value.oneCell']) Af AZ
  (·rfl);(·rfl);(·rfl);(·intro _ _ _ c hc;cases hc);(·exact λ_ _ _ x hx ha=>Dg BB hx ha)
  rintro v2 _ ⟨c2,FK,rfl⟩;simp only[Ae,Ag];have hv2:v2.oneCell'=true:=FK.one;refine BS ?_;apply Hs
  ·exact Gx rfl rfl hv2 (by exact BW) .zero (by exact DX)
  (·rfl);(·rfl);(·intro _ _ _ c hc;cases hc);(·exact λ_ _ _ x hx ha=>Dg BB hx ha)
  rintro _ _ ⟨rfl,rfl⟩;refine BS ?_;refine Aj ?_;have e1:Gz ((bs++[bt]).map λc=>(Zw,c))=Gz (bs.map λc=>(Zw,c))++[NI bt tbZ]:=by unfold Gz;rw[Aq,Aq];rfl
  have e2:((bs++[bt]).map λc=>(Zw,c)).flatMap P8=(bs.map λc=>(Zw,c)).flatMap P8++P8 (Zw,bt):=by rw[Aq,Ed];rfl
  exact BR (i+1,v2,bs++[bt],c2) ⟨by simp only;omega,by rw[Ah,hbs];rfl,by simp only;rw[e2];exact FK⟩ (by simp only;omega) ⟨rfl,rfl,rfl,trivial⟩ (by
   simp only;rw[e1,Am];exact .of_perm ((List.Perm.swap _ _ _).trans (List.Perm.cons _ (by refine AI.symm.trans (EX _ ?_);exact AI.symm))))
 ·obtain rfl:i=n:=by omega
  refine Aj ?_;refine BD [] rfl .refl (by exact Ba) ⟨_,rfl,_,[],⟨v,cs,bs.map λc=>(Zw,c),?_,by rw[A7,hbs];exact ho,?_,rfl⟩,by simp⟩
  ·rw[CR];exact List.eq_replicate_iff.2 ⟨by rw[A7,hbs],λx hx=>by obtain⟨_,_,rfl⟩:=Au.1 hx;rfl⟩
  ·intro c hc s _;obtain⟨_,_,rfl⟩:=Au.1 hc;exact .inl rfl
end Go.Proofs.YtlifcingifodfaaGreat
