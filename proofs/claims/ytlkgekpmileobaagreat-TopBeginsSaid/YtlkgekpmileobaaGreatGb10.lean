/- Laws that the statement's proof leans on (joined out of several texts). -/
import Derived.Test.YtlkgekpmileobaaGreatGb8
import Derived.Test.YtlkgekpmileobaaGreatGb9
import Derived.LoopNIn
import Derived.Test.YtlkgekpmileobaaGreatGb1
set_option linter.unusedVariables false
set_option linter.unusedSimpArgs false
namespace Go.Proofs.YtlkgekpmileobaaGreat
open Tryz
open List(toArray)
open Go.RowKit
variable{P:Program}{l R A l' l2 B:List Ab}{N k f i n:Nat}{fr:Fr}{ro:Option Nat}{E:World}{v:Value}{Q:Exit->Act->World->Prop}{ds:List Deferred}{vs args:List Value}{pl:List BC}{ops:Array Oper}{ty:TypeId}{pos:String}{x:Operand}{xs:List Operand}{g:Option (Nat×Bool)}{rest os:List Oper}{tbl:List (List Nat)}{sp:Fd}{K:Value->List Ab->Prop}{sw:Sw}{c:Code}{o:Oper}{fn:Func}{rs:List ResultVar}
theorem vi(h:Keep l l':=by(repeat(first|exact .refl|apply Keep.drop))):Keep l l':=h
theorem uJ{w:Value}(h:v=w:=by first|rfl|(exfalso;omega)|(simp[Iw, *];done)|(simp_all [Iw];done)|(simp_all [Iw];omega)):v=w:=h
class QF(P:Program)(f:Nat)(vs:List Value)(l:List Ab)(v:outParam Value):Prop where
 out: ∀l2,(∀c,c∈l->c∈l2)->Fn P f vs l2 (λv' l'=>v'=v/\l'=l2)
instance{P:Program}{f:Nat}{vs:List Value}{l:List Ab}{v:Value}{c:Ab}[h:QF P f vs l v]:QF P f vs (c::l) v:=⟨λl2 hl=>h.out l2 λx hx=>hl x (.tail _ hx)⟩
theorem Ea{d:Nat}{at_:Array TypeId}{aft:Array Edge}(hk:Df P ro N E ops Q rest ((d,v)::fr) ds l)(hx:ev fr x=some (.func (.func f) #[] #[]):=by rfl)(hy:PX fr xs=some vs:=by rfl)(c:EN P f:=by infer_instance)(q:QF P f vs l v:=by infer_instance)(hw:Pz ops fr g=some true:=by rfl)(hb:Nat.blt d N=true:=by rfl):Df P ro N E ops Q (⟨some d,.call {callee:= .value x,args:=xs.toArray,argTypes:=at_},ty,pos,aft,g⟩::rest) fr ds l:=
 N9 (AK hx hy q.out) hw rfl hb hk
def nM:Nat->Nat->List (Nat×Bool)
 |_,0=>[]
 |i,k+1=>(i,true)::nM (i+1) k
def qR(ops:List Oper):List (List Nat):=ops.foldl (λacc o=>acc++[((o.after.toList.filter λe=>Region.binds .any e).map λe=>e.on)++(((o.after.toList.filter λe=>Region.binds .any e).map λe=>e.on).flatMap λd=>acc.getD d [])]) []
theorem Hw(h:PlanS P ro N E os.toArray Q l (qR os) none [] pl fr ds l)(ha:Attach os (nM 0 os.length) pl:=by exact Gh)(hm:P.follows .mixedOrders=true:=by kernel_rfl)(hv:Uh os (nM 0 os.length) (qR os)=true:=by kernel_rfl):BF P ro N E (.region k os.toArray true) Q fr ds l:=KH _ _ l hm hv ha (λ_ h=>h) h
theorem Tf{d:Nat}{at_:Array TypeId}{aft:Array Edge}(hk:PlanS P ro N E ops Q R tbl sw sp pl ((d,v)::fr) ds l)(hx:ev fr x=some (.func (.func f) #[] #[]):=by rfl)(hy:PX fr xs=some vs:=by rfl)(c:EN P f:=by infer_instance)(q:QF P f vs R v:=by infer_instance)(hw:Pz ops fr g=some true:=by rfl)(hb:Nat.blt d N=true:=by rfl):PlanS P ro N E ops Q R tbl sw sp ((i,true,⟨some d,.call {callee:= .value x,args:=xs.toArray,argTypes:=at_},ty,pos,aft,g⟩)::pl) fr ds l:=
 Vz (AK hx hy q.out) hw rfl hb hk
section
variable{d:Nat}{at_:Array TypeId}{aft:Array Edge}[c:EN P f]
theorem tq(h: ∀l2,(∀c,c∈l->c∈l2)->Fn P f vs l2 (λv' l'=>v'=v/\l'=l2))(hk:Df P ro N E ops Q rest ((d,v)::fr) ds l)(hx:ev fr x=some (.func (.func f) #[] #[]):=by rfl)(hy:PX fr xs=some vs:=by rfl)(hw:Pz ops fr g=some true:=by rfl)(hb:Nat.blt d N=true:=by rfl):Df P ro N E ops Q (⟨some d,.call {callee:= .value x,args:=xs.toArray,argTypes:=at_},ty,pos,aft,g⟩::rest) fr ds l:=
 N9 (AK hx hy h) hw rfl hb hk
theorem pq(h: ∀l2,(∀c,c∈R->c∈l2)->Fn P f vs l2 (λv' l'=>v'=v/\l'=l2))(hk:PlanS P ro N E ops Q R tbl sw sp pl ((d,v)::fr) ds l)(hx:ev fr x=some (.func (.func f) #[] #[]):=by rfl)(hy:PX fr xs=some vs:=by rfl)(hw:Pz ops fr g=some true:=by rfl)(hb:Nat.blt d N=true:=by rfl):PlanS P ro N E ops Q R tbl sw sp ((i,true,⟨some d,.call {callee:= .value x,args:=xs.toArray,argTypes:=at_},ty,pos,aft,g⟩)::pl) fr ds l:=
 Vz (AK hx hy h) hw rfl hb hk
end
def tz(ops:List Oper):List Nat:=ops.foldl (λacc o=>acc++[o.after.toList.foldl (λm e=>bif Region.binds .any e then Nat.lor m (Nat.lor (Nat.shiftLeft 1 e.on) (acc.getD e.on 0)) else m) 0]) []
def jq(ops:List Oper):List (List Nat):=(tz ops).map λm=>(List.range ops.length).filter λi=>Nat.testBit m i
def Cf(ef:List Nat):Nat->Nat->List (Nat×Bool)
 |_,0=>[]
 |i,k+1=>(i,!ef.contains i)::Cf ef (i+1) k
section
structure MP(P:Program)(ro:Option Nat)(N:Nat)(E:World)(ops:Array Oper)(Q:Exit->Act->World->Prop)(tbl:List (List Nat))(g:Bool)(sp:Fd)(pl:List BC)(fr:Fr)(ds:List Deferred)(l:List Ab):Prop where
 h:(g=true-> ∀x,x∈sp-> ∀c,c∈x.2->c∈l)->PlanS P ro N E ops Q [] tbl none sp pl fr ds l
theorem Ch(plan:List (Nat×Bool))(h:MP P ro N E os.toArray Q (jq os) true [] pl fr ds l)(ha:Attach os plan pl:=by exact Gh)(hm:P.follows .mixedOrders=true:=by kernel_rfl)(hv:Uh os plan (jq os)=true:=by kernel_rfl):BF P ro N E (.region k os.toArray true) Q fr ds l:=
 KH plan _ [] hm hv ha (λ_ h=>nomatch h) (h.h λ_ _ h=>nomatch h)
variable{g:Bool}{d:Nat}
theorem O8(h:CH N E Q .normal fr ds l):MP P ro N E ops Q tbl g sp [] fr ds l:=⟨λ_=> .nil h⟩
theorem Un(hk:MP P ro N E ops Q tbl g sp pl ((d,v)::fr) ds l)(h:OpQ P ro N fr [] o v:=by exact zq)(hw:Pz ops fr o.guard=some true:=by rfl)(hd:o.dst=some d:=by rfl)(hb:Nat.blt d N=true:=by rfl):MP P ro N E ops Q tbl g sp ((i,true,o)::pl) fr ds l:=⟨λhs=>Vz h hw hd hb (hk.h hs)⟩
theorem Y8(hk:MP P ro N E ops Q tbl g ((i,l)::sp) pl ((d,v)::fr) ds l)(h:OpQ P ro N fr l o v:=by exact zq)(hw:o.guard=none:=by rfl)(hd:o.dst=some d:=by rfl)(hb:Nat.blt d N=true:=by rfl):MP P ro N E ops Q tbl g sp ((i,true,o)::pl) fr ds l:=
 ⟨λhs=>FD h (λ_ h=>h) hw hd hb (hk.h λhg x hx=>by rcases Aq.1 hx with rfl|hx;exact λ_ h=>h;exact hs hg x hx)⟩
theorem uK{at_:Array TypeId}{aft:Array Edge}(hk:MP P ro N E ops Q tbl g ((i,l)::sp) pl ((d,v)::fr) ds l)(hx:ev fr x=some (.func (.func f) #[] #[]):=by rfl)(hy:PX fr xs=some vs:=by rfl)(c:EN P f:=by infer_instance)(q:QF P f vs l v:=by infer_instance)(hb:Nat.blt d N=true:=by rfl):MP P ro N E ops Q tbl g sp ((i,true,⟨some d,.call {callee:= .value x,args:=xs.toArray,argTypes:=at_},ty,pos,aft,none⟩)::pl) fr ds l:=
 Y8 hk (AK hx hy q.out) rfl rfl hb
theorem Ju(h:OpE P ro N fr l o K)(hk: ∀v l',K v l'->MP P ro N E ops Q tbl false sp pl ((d,v)::fr) ds l')(hw:o.guard=none:=by rfl)(hd:o.dst=some d:=by rfl)(hb:Nat.blt d N=true:=by rfl)(ha:(sp.map Prod.fst).all (λq=>Ff tbl i q)=true:=by kernel_rfl):MP P ro N E ops Q tbl g sp ((i,false,o)::pl) fr ds l:=
 ⟨λhs=>Gq h hw hd hb (λ_ _ _ _ h=>nomatch h) (λ_ _ _ x hx hn=>CV ha hx hn) λv l' k=>(hk v l' k).h λh=>by cases h⟩
theorem dJ(hk:MP P ro N E ops Q tbl false sp pl fr ds l2)(h:OpE P ro N fr l o (λv' l'=>v'=undef/\l'=l2):=by exact ts)(hw:o.guard=none:=by rfl)(hd:o.dst=none:=by rfl)(ha:(sp.map Prod.fst).all (λq=>Ff tbl i q)=true:=by kernel_rfl):MP P ro N E ops Q tbl g sp ((i,false,o)::pl) fr ds l:=
 ⟨λhs=>GH h hw hd (λ_ _ _ _ h=>nomatch h) (λ_ _ _ x hx hn=>CV ha hx hn) λv l' k=>by rw[k.2];exact hk.h λh=>by cases h⟩
theorem Hf(h:OpE P ro N fr l o K)(hl: ∀v l',K v l'-> ∀c,c∈l->c∈l')(hk: ∀v l',K v l'->MP P ro N E ops Q tbl g sp pl ((d,v)::fr) ds l')(hw:o.guard=none:=by rfl)(hd:o.dst=some d:=by rfl)(hb:Nat.blt d N=true:=by rfl)(hg:g=true:=by rfl):MP P ro N E ops Q tbl g sp ((i,false,o)::pl) fr ds l:=
 ⟨λhs=>Gq h hw hd hb (λ_ _ _ _ h=>nomatch h) (λv l' k x hx _ c hc=>hl v l' k c (hs hg x hx c hc)) λv l' k=>(hk v l' k).h λh x hx c hc=>hl v l' k c (hs h x hx c hc)⟩
theorem qr{l0:List Ab}{y:Value}(hr:fn.results=rs.toArray:=by rfl)(h:ResS P fr l rs vs:=by exact A7)(hk:Keep l l0:=by exact vi)(hx:Iw vs=y:=by exact uJ):CH N E (bodyPostM Fence.wide 0 P fn (RK E λv l'=>v=y/\l'=l0)) .ret fr [] l:=AU [] l hr .refl h hk ⟨hx,rfl⟩
theorem Ci{H G:Prop}(k:H)(h:Bx H->G:=by(intro k;(repeat(first|refine O8 ?_|(show MP _ _ _ _ _ _ _ _ _ ((_,true,⟨_,.load _ _,_,_,_,_⟩)::_) _ _ _;refine Y8 ?_)|(show MP _ _ _ _ _ _ _ _ _ ((_,true,⟨_,.call _,_,_,_,_⟩)::_) _ _ _;first|refine uK ?_|refine Un ?_|refine Y8 ?_)|(show MP _ _ _ _ _ _ _ _ _ ((_,true,_)::_) _ _ _;first|refine Un ?_|refine Y8 ?_)|(show MP _ _ _ _ _ _ _ _ _ ((_,false,_)::_) _ _ _;refine dJ ?_)));exact k.h)):G:=h ⟨k⟩
def nN(P:Program)(ro:Option Nat)(c:Code)(Q:Exit->Act->World->Prop)(m:Nat):Act->World->Prop:=λa W=>Code.roundsIn (Fw ro) 0 P c Q m a W
theorem Hb(m:Nat)(h:BF P ro N E c (Exit.then (nN P ro c Q m) Q) fr ds l):BF P ro N E (.loop c) Q fr ds l:=⟨λa W hf hds hs=>wpIn_loop_rounds (m+1) (h.run a W hf hds hs)⟩
theorem Ew{m:Nat}(h:BF P ro N E c (Exit.then (nN P ro c Q m) Q) fr ds l):CH N E (Exit.then (nN P ro c Q (m+1)) Q) .normal fr ds l:=⟨λa W hf hds hs=>h.run a W hf hds hs⟩
end
section
variable{d:Nat}
theorem AS(h:OpE P ro N fr l o K)(hk: ∀v l',K v l'->Df P ro N E ops Q rest ((d,v)::fr) ds l')(hw:o.guard=none:=by rfl)(hd:o.dst=some d:=by rfl)(hb:Nat.blt d N=true:=by rfl):Df P ro N E ops Q (o::rest) fr ds l:=db h hw hd hb hk
theorem Bc(h:OpQ P ro N fr l o v)(hk:Df P ro N E ops Q rest ((d,v)::fr) ds l)(hw:o.guard=none:=by rfl)(hd:o.dst=some d:=by rfl)(hb:Nat.blt d N=true:=by rfl):Df P ro N E ops Q (o::rest) fr ds l:=l6 h hw hd hb hk
theorem A8(hp:Keep l l')(hk:K (Iw vs) l')(hr:fn.results=rs.toArray:=by rfl)(h:ResS P fr l' rs vs:=by exact A7):CH N E (bodyPostM Fence.wide 0 P fn (RK E K)) .ret fr [] l:=By [] hr hp h hk
theorem Cy(l2:List Ab)(hp:Keep l l2)(p2:Keep l2 l')(hk:K (Iw vs) l')(hr:fn.results=rs.toArray:=by rfl)(h:ResS P fr l2 rs vs:=by exact A7):CH N E (bodyPostM Fence.wide 0 P fn (RK E K)) .ret fr [] l:=AU [] l2 hr hp h p2 hk
theorem Es{p:Prop}(h:p:=by(refine Aj ?_;first|exact A8 .refl ⟨rfl,rfl⟩|exact A8 (.drop .refl) ⟨rfl,rfl⟩|exact A8 (.drop (.drop .refl)) ⟨rfl,rfl⟩)):p:=h
theorem AO{f:FuncId}(hf:P.funcs[f]?=some fn)(hn:fn.ntmps=N)(h: ∀E,BF P none N E c (bodyPostM Fence.wide 0 P fn (RK E K)) fr [] l)(hb:fn.body=some c:=by rfl)(ha:Ub 0 args=fr:=by(simp only[Ub];rfl))(hl:Nat.ble args.length fn.ntmps=true:=by rfl):Fn P f args l K:=QL hf hb hl λE=>by rw[ha,hn];exact h E
theorem vj{a b:List (Nat×Bool)}(h:a=b:=by(simp only[Cf,List.contains_cons,List.contains_nil,Nat.reduceBEq,Nat.reduceAdd,Bool.or_false,Bool.or_true,KE,Bool.true_or,Bool.not_true,Ib];rfl)):a=b:=h
theorem Ce{plan:List (Nat×Bool)}(ef:List Nat)(n:Nat)(R:List Ab)(h:PlanS P ro N E os.toArray Q R (jq os) none [] pl fr ds l)(hR: ∀c,c∈R->c∈l:=by exact Sn)(hp:Cf ef 0 n=plan:=by exact vj)(ha:Attach os plan pl:=by exact Gh)(hm:P.follows .mixedOrders=true:=by kernel_rfl)(hv:Uh os plan (jq os)=true:=by kernel_rfl):BF P ro N E (.region k os.toArray true) Q fr ds l:=KH plan _ R hm hv ha hR h
end
set_option maxRecDepth 20000
theorem F5{d:Option Nat}{aft:Array Edge}{t e:Nat}{zs cs:List Value}{xs:List (Nat×Operand)}{ps:List (Nat×Value)}(hx:Xh fr xs=some ps)[c:ZV P t zs][ca:AT P t n e k](hfill:Instr.fill (λi=>some (i*k,k)) (toArray zs) ps=some (toArray cs)):OpQ P ro N fr R ⟨d,.build t (toArray xs),ty,pos,aft,g⟩ (.agg (toArray cs)):=BL rfl λρ l hρ _=>by
 obtain⟨i,zv,h1,h2,h3⟩:=I7 c.out;obtain⟨inf,k1,k2,k3⟩:=Mr ca.out;simp only[execOp,AB,Instr.build,zeroValue,Da,hρ.parts hx];rw[<-AB,IQ h1,h2];simp only[Bj];rw[EU k1];show sl P (sizeOf e>>=_) l _;rw[AB,GG k2];have hz:zv.cells=toArray zs:=by rw[<-h3]
 simp only[k3];rw[hz,hfill];exact⟨rfl,rfl⟩
abbrev z8:List Value:=[.int .u64 0,.int .u64 0,.int .u64 0,.int .u64 0,.int .u64 0,.int .u64 0,.int .u64 0,.int .u64 0]
def Y9(n:Nat):List Value:=List.replicate (n*8) (.int .u64 0)
theorem dK(n:Nat):Y9 n=(List.replicate n z8).flatten:=by
 unfold Y9
 induction n with
 |zero=>rfl
 |succ n ih=>rw[BE,Cl,<-ih,show(n+1)*8=8+n*8 by omega,<-Is];rfl
theorem jr(h:k<n):CO (toArray (Y9 n)) (k*8) z8=toArray (Y9 n):=by
 apply Dk;intro j;have hsz:(toArray (Y9 n)).size=n*8:=by simp[Y9]
 rw[Q5,hsz];by_cases hj:k*8<=j/\j<k*8+8
 ·rw[Ae ⟨hj.1,by simp;omega,Af⟩];obtain⟨i,hi,rfl⟩: ∃i,i<8/\j=k*8+i:=⟨j-k*8,Af,Af⟩
  rw[CP];have h1:(toArray (Y9 n))[k*8+i]?=some (.int .u64 0):=by unfold Y9;rw[AE,List.getElem?_replicate,Ae Af]
  rw[h1];rcases i with _|_|_|_|_|_|_|_|i<;>first|rfl|omega
 ·rw[Ac λh=>hj ⟨h.1,by have:=h.2.1;simp at this;omega⟩]
abbrev NW(b gb n:Nat):Ab:=(b,.cells (toArray [.slice (some ⟨gb,0,none⟩) n n]) 254 (0,0))
abbrev p7(gb n:Nat):Ab:=(gb,.cells (toArray (Y9 n)) 255 (0,0))
def tA(b n:Nat)(lq:List Ab):Prop:=1<=n/\n<=64/\ ∃gb,lq=[NW b gb n,p7 gb n]
theorem dL(n:Nat)(h1:1<=n)(h2:n<=64)(l:List Ab):Fn prog 127 [.int .i64 (n:Nat)] l λv l'=> ∃b,v= .tuple #[.pointer (some ⟨b,0,none⟩),.int .i64 0]/\ ∃lq,tA b n lq/\l'=lq++l:=by refine AO func127 ntmps127 λE=>?_;refine Aj ?_;refine AS (Fv (n:=n) (kk:=8) (xs:=Y9 n) rfl rfl Af Af AW (dK n)) ?_;rintro _ _ ⟨gb,hgb,rfl,rfl⟩;refine AQ λb=>?_;exact A8 .refl ⟨_,rfl,_,⟨h1,h2,gb,rfl⟩,rfl⟩
abbrev BG(B:Nat)(x:Int):Ab:=(B,.cells (toArray [.int .i64 x]) 3 (0,0))
abbrev Vd(B b:Nat):Ab:=(B,.cells (toArray [.pointer (some ⟨b,0,none⟩)]) 154 (0,0))
theorem VF(b f:Nat)(l:List Ab):Fn prog 184 [.pointer (some ⟨b,0,none⟩),.int .i64 (f:Nat)] l λv l'=> ∃B1 B2,v= .func (.func 243) #[] #[.pointer (some ⟨B1,0,none⟩),.pointer (some ⟨B2,0,none⟩)]/\l'=BG B1 f::Vd B2 b::l:=by refine AO func184 ntmps184 λE=>?_;refine Aj ?_;refine AS (DZ rfl rfl) ?_;rintro _ _ ⟨B2,_,rfl,rfl⟩;refine AS (DZ rfl rfl) ?_;rintro _ _ ⟨B1,_,rfl,rfl⟩;refine Aj ?_;exact A8 .refl ⟨_,_,rfl,rfl⟩
theorem NX(h:f<=k)(hk:k<n):(List.range' f (n-f)).take (k+1-f)=(List.range' f (n-f)).take (k-f)++[k]:=by rw[show k+1-f=(k-f)+1 by omega,B0,List.getElem?_range' Af];simp;omega
theorem Tg(B1 B2 b gb n f:Nat)(hf:f<n)(hn:n<=64):E2 prog 243 [.pointer (some ⟨B1,0,none⟩),.pointer (some ⟨B2,0,none⟩)] (λx:Nat=>[.int .i64 (x:Nat),.pointer (some ⟨gb,x*8,none⟩)]) (λxs=>xs=List.range' f (n-f)) (λpre=>pre<+:List.range' f (n-f))
 (λ_ l=>BG B1 f∈l/\Vd B2 b∈l/\NW b gb n∈l):=by
 refine⟨λr I Ix G0 hneed hY l G hG h0=>?_⟩;obtain⟨n1,n2,n3⟩:=hneed _ _ G hG h0;refine AO func243 ntmps243 λE=>?_;refine Aj ?_;refine Cu (α:=Nat×List Ab) (λx=>[(0,.func (.yield r) #[] #[]),(2,.pointer (some ⟨B2,0,none⟩)),(4,.int .i64 x.1)]) (λx=>x.2++G) (λx=>f<=x.1/\x.1<=n/\I ((List.range' f (n-f)).take (x.1-f)) x.2) (λx=>n-x.1) (f,l) ⟨A5 _,by simp only;omega,by simp only;rw[Dr];exact h0⟩ ⟨rfl,rfl,rfl,trivial⟩ .refl ?_;clear n1 n2 n3;rintro⟨k,l⟩ ⟨hk1,hk2,hI⟩;simp only at hk1 hk2 hI⊢;obtain⟨n1,n2,n3⟩:=hneed _ _ G hG hI;by_cases hlt:k<n
 ·refine Aj ?_;have hy:=hY ((List.range' f (n-f)).take (k-f)) k l G hG hI (by rw[<-NX hk1 hlt];exact BD _ _);refine AS (CK rfl rfl hy) ?_;rintro v l' ⟨l1,rfl,⟨rfl,hI'⟩|⟨rfl,hx⟩⟩
  ·refine Aj ?_;exact BS (k+1,l1) ⟨by simp only;omega,by simp only;omega,by simp only;rw[NX hk1 hlt];exact hI'⟩ (by simp only;omega) ⟨rfl,rfl,rfl,trivial⟩ .refl
  ·refine Aj ?_;exact By [] rfl .refl (by exact A7) ⟨l1,rfl,.inr ⟨_,by rw[<-NX hk1 hlt];exact BD _ _,hx⟩⟩
 ·obtain rfl:k=n:=by omega
  rw[Bz (by simp)] at hI;refine Aj ?_;exact A8 .refl ⟨l,rfl,.inl ⟨_,rfl,hI⟩⟩
set_option maxHeartbeats 1000000 in
theorem aA(b n f k:Nat)(lq:List Ab)(hq:tA b n lq)(hf:f<n)(hk:k<=n-f)(G:List Ab):Fn prog 139 [.pointer (some ⟨b,0,none⟩),.int .i64 (f:Nat),.int .i64 (k:Nat)] (lq++G) λv l'=>v= .int .i64 0/\ ∃X,l'=lq++(X++G):=by
 obtain⟨h1,h2,gb,rfl⟩:=hq;simp only[Ad,Ag];refine AO func139 ntmps139 λE=>?_;refine Aj ?_;refine AS (DZ rfl rfl) ?_;rintro _ _ ⟨b4,_,rfl,rfl⟩;refine AS (DZ rfl rfl) ?_;rintro _ _ ⟨b5,_,rfl,rfl⟩;refine Aj ?_;refine Ce [] 27 _ ?_ (hR:=(λ_ h=>h));refine BI ?_;refine Aj ?_;refine AS (Az rfl rfl (VF b f _)) ?_;rintro _ _ ⟨B1,B2,rfl,rfl⟩;refine Aj ?_;refine CU (α:=Nat) (ps:=[42,43]) (lb:=[.pointer (some ⟨B1,0,none⟩),.pointer (some ⟨B2,0,none⟩)]) rfl (Tg B1 B2 b gb n f hf h2) (λ_=>rfl) rfl
  (λpre l=>l=[BG B1 f,Vd B2 b,BG b5 k,BG b4 f,NW b gb n,p7 gb n])
  (λc pre l=>c= .exit 1/\l=[BG B1 f,Vd B2 b,BG b5 k,BG b4 f,NW b gb n,p7 gb n])
  _ G (λpre l2 X2 hX h=>by rw[h];exact⟨Ai _ (by exact BO),Ai _ (by exact BO),Ai _ (by exact BO)⟩) (by exact AR) rfl ?_ ?_ ?_
 ·rintro E r0 rec pre x l' T ⟨fn,tmps,D,rfl⟩ hT rfl hsp;have hx:f<=x/\x<n:=by
   have h3:x∈List.range' f (n-f):=hsp.subset (by simp);rw[Kc] at h3;omega
  simp only[Du,Ad,Ag];refine Aj ?_;refine Cp (by exact Dw) ?_;refine Aj ?_;by_cases hb:(x:Int)-f>=k
  ·refine Aj ?_;refine Et [BG B1 f,Vd B2 b,BG b5 k,BG b4 f,NW b gb n,p7 gb n] (by exact AR) ⟨rfl,rfl⟩
  ·refine Aj ?_;refine Bc (F5 (zs:=z8) (cs:=z8) rfl rfl) ?_;refine qP ?_;apply LV
   ·exact Ee (cs:=toArray (Y9 n)) (n:=8) rfl rfl rfl (by simp[Value.oneCell']) (by exact Dw) (by simp[Y9];omega)
   ·rfl
   ·rfl
   rintro _ _ ⟨rfl,rfl⟩;rw[show(toArray z8).toList=z8 from rfl,jr hx.2];refine Aj ?_;exact B9 _ .refl rfl
 ·rintro D xs l' rfl rfl;simp only[Ad,Ag];refine Aj ?_;exact AU [D] _ rfl (l':=NW b gb n::p7 gb n::G) (by exact AR) (by exact A7) (by exact AR) ⟨rfl,[],rfl⟩
 ·rintro D c pre l' hsp ⟨rfl,rfl⟩;simp only[Ad,Ag];refine Aj ?_;exact AU [D] _ rfl (l':=NW b gb n::p7 gb n::G) (by exact AR) (by exact A7) (by exact AR) ⟨rfl,[],rfl⟩
theorem Cc(h: ∀(f:List Ab->Nat) (g:Ab->Nat),f []=0->(∀x l,f (x::l)=g x+f l)->(∀x y,f (x++y)=f x+f y)->f A=f B:=by intro f g h0 h1 h2;simp only[CY,AJ,h0,h1,h2];try omega):A.Perm B:=by
 classical
 refine List.perm_iff_count.2 λa=>h (λl=>List.count a l) (λx=>List.count a [x]) rfl (λx l=>?_) (λx y=>List.count_append);rw[show x::l=[x]++l from rfl,List.count_append]
theorem AY(X:List Ab)(h: ∀(f:List Ab->Nat) (g:Ab->Nat),f []=0->(∀x l,f (x::l)=g x+f l)->(∀x y,f (x++y)=f x+f y)->f A=f (X++B):=by intro f g h0 h1 h2;simp only[CY,AJ,h0,h1,h2];try omega):Keep A B:=⟨X,Cc h⟩
theorem Fn.mvP{f:FuncId}{F:List Ab}{Kv:Value->Prop}{I:List Ab->Prop}(Γ:List Ab->List Ab)(h:Fn P f args (A++F) λv l'=>Kv v/\ ∃A',I A'/\l'=A'++F)
 (hΓ: ∀A,(Γ A).Perm (A++F):=by intro A;exact Cc):Fn P f args (Γ A) λv l'=>Kv v/\ ∃A',I A'/\l'=Γ A':=
 Fn.re (.of_perm (hΓ A)) h λv l' ⟨h1,A',h2,h3⟩=>⟨_,by rw[h3];exact .of_perm (hΓ A').symm,h1,A',h2,rfl⟩
abbrev pV(b:Nat):Value:= .pointer (some ⟨b,0,none⟩)
abbrev Q7(b:Nat)(v:Value):Ab:=(b,.cells (toArray [v]) 283 (0,0))
structure Lt where
 sp:Int
 pg:Int
 fr:Int
 rd:Bool
 wr:Bool
deriving DecidableEq
abbrev O9(t:Lt):List Value:=[.int .i64 t.sp,.int .i64 t.pg,.int .i64 t.fr,.bool t.rd,.bool t.wr]
abbrev O4:Lt:=⟨0,0,0,false,false⟩
structure J7 where
 w:Nat->Lt
 d:Nat->Int
def aB(T:J7)(s:Nat):List Value:=O9 (T.w (2*s))++(O9 (T.w (2*s+1))++[.int .i64 (T.d s)])
def Qf(T:J7):List Value:=aB T 0++(aB T 1++(aB T 2++aB T 3))
abbrev Mj(b:Nat)(T:J7):Ab:=(b,.cells (toArray (Qf T)) 400 (0,0))
structure LW where
 ro:Int
 sp:Int
 tb:J7
abbrev Oq(c:LW×Nat):List Value:=[.int .i64 c.1.ro,.int .i64 c.1.sp,pV c.2]
def FQ(ks:List (LW×Nat)):List Ab:=ks.map λc=>Mj c.2 c.1.tb
def IsCos(b:Nat)(K:List LW)(lq:List Ab):Prop:= ∃v cs ks,ks.map Prod.fst=K/\OwnSl 310 3 v ks.length (ks.flatMap Oq) cs/\(∀c,c∈ks-> ∀s,s<4->c.1.tb.d s=0\/c.1.tb.d s=1)/\lq=Q7 b v::(cs++FQ ks)
abbrev tB:J7:=⟨λ_=>O4,λ_=>0⟩
abbrev dc:LW:=⟨-1,0,tB⟩
theorem dM(l:List Ab):Fn prog 178 [] l λv l'=> ∃b,v= .pointer (some ⟨b,0,none⟩)/\l'=Mj b tB::l:=by refine AO func178 ntmps178 λE=>?_;refine AQ λb=>?_;exact A8 .refl ⟨_,rfl,rfl⟩
def qS(b n:Nat)(lq:List Ab):Prop:=IsCos b (List.replicate n dc) lq
set_option maxHeartbeats 1000000 in
theorem dN(n:Nat)(h1:1<=n)(h2:n<=3)(l:List Ab):Fn prog 128 [.int .i64 (n:Nat)] l λv l'=> ∃b,v= .tuple #[.pointer (some ⟨b,0,none⟩),.int .i64 0]/\ ∃lq X,qS b n lq/\l'=lq++(X++l):=by
 refine AO func128 ntmps128 λE=>?_;refine AQ λb=>?_;refine Cu (α:=Nat×Value×List Nat×List Ab) (λx=>[(4,.pointer (some ⟨b,0,none⟩)),(13,.int .i64 n),(14,.int .i64 x.1)]) (λx=>Q7 b x.2.1::(x.2.2.2++(FQ (x.2.2.1.map λc=>(dc,c))++l)))
  (λx=>x.1<=n/\x.2.2.1.length=x.1/\OwnSl 310 3 x.2.1 x.1 ((x.2.2.1.map λc=>(dc,c)).flatMap Oq) x.2.2.2) (λx=>n-x.1) (0,.slice none 0 0,[],[]) ⟨Bf _,rfl,OwnSl.nil _ _⟩ ⟨rfl,rfl,rfl,trivial⟩ .refl ?_
 rintro⟨i,v,bs,cs⟩ ⟨hi,hbs,ho⟩;simp only at hi hbs ho⊢;have hv1:v.oneCell'=true:=ho.one;by_cases hlt:i<n
 ·refine Aj ?_;refine Ce [5,7,8,11] 12 ([]) ?_;refine BI ?_;apply FD (S:=[Q7 b v]);(·exact SA);(·exact CM (.head _));(·rfl);(·rfl);(·rfl);refine BI ?_;apply Gq
  ·exact Az rfl rfl (dM _)
  ·rfl
  ·rfl
  ·rfl
  ·intro _ _ _ c hc;cases hc
  ·rintro _ _ ⟨_,_,rfl⟩ x hx _ c hc;rw[AA.1 hx] at hc;rw[AA.1 hc];exact .tail _ (.head _)
  rintro _ _ ⟨bt,rfl,rfl⟩;refine BI ?_;apply Gq
  ·exact E3 (k:=3) (zs:=[.int .i64 0,.int .i64 0,.pointer none]) rfl rfl rfl AW AW
  ·rfl
  ·rfl
  ·rfl
  ·intro _ _ _ c hc;cases hc
  ·rintro _ _ ⟨_,_,_,rfl⟩ x hx _ c hc;rw[AA.1 hx] at hc;rw[AA.1 hc];exact .tail _ (.tail _ (.head _))
  rintro _ _ ⟨bl,_,rfl,rfl⟩;refine BI ?_;apply Gq
  ·exact GI (k:=3) (X:=[_,_]) (cs:=cs) (F:=FQ (bs.map λc=>(dc,c))++l) (n:=i) (xs:=(bs.map λc=>(dc,c)).flatMap Oq) (zs:=[.int .i64 0,.int .i64 0,.pointer none]) rfl rfl rfl ho rfl (by simp[Value.oneCell']) Af AW
  (·rfl);(·rfl);(·rfl);(·intro _ _ _ c hc;cases hc);(·exact λ_ _ _ x hx ha=>CV Bv hx ha)
  rintro v2 _ ⟨c2,ho2,rfl⟩;simp only[Ad,Ag];have hv2:v2.oneCell'=true:=ho2.one;refine BI ?_;apply GH
  ·exact FP rfl rfl hv2 (by exact BO) .zero (by exact Dw)
  (·rfl);(·rfl);(·intro _ _ _ c hc;cases hc);(·exact λ_ _ _ x hx ha=>CV Bv hx ha)
  rintro _ _ ⟨rfl,rfl⟩;refine BI ?_;refine Aj ?_;have e1:FQ ((bs++[bt]).map λc=>(dc,c))=FQ (bs.map λc=>(dc,c))++[Mj bt tB]:=by unfold FQ;rw[Ap,Ap];rfl
  have e2:((bs++[bt]).map λc=>(dc,c)).flatMap Oq=(bs.map λc=>(dc,c)).flatMap Oq++Oq (dc,bt):=by rw[Ap,DL];rfl
  exact BS (i+1,v2,bs++[bt],c2) ⟨by simp only;omega,by rw[Ah,hbs];rfl,by simp only;rw[e2];exact ho2⟩ (by simp only;omega) ⟨rfl,rfl,rfl,trivial⟩ (by
   simp only;rw[e1,Al];exact .of_perm ((List.Perm.swap _ _ _).trans (List.Perm.cons _ (by refine AH.symm.trans (El _ ?_);exact AH.symm))))
 ·obtain rfl:i=n:=by omega
  refine Aj ?_;refine By [] rfl .refl (by exact A7) ⟨_,rfl,_,[],⟨v,cs,bs.map λc=>(dc,c),?_,by rw[AZ,hbs];exact ho,?_,rfl⟩,by simp⟩
  ·rw[CD];exact List.eq_replicate_iff.2 ⟨by rw[AZ,hbs],λx hx=>by obtain⟨_,_,rfl⟩:=Au.1 hx;rfl⟩
  ·intro c hc s _;obtain⟨_,_,rfl⟩:=Au.1 hc;exact .inl rfl
end Go.Proofs.YtlkgekpmileobaaGreat
