/- Laws that the statement's proof leans on (joined out of several texts). -/
import Derived.Test.YtlifcingifodfaaGreatGc27
set_option maxHeartbeats 4000000
set_option linter.unusedVariables false
set_option linter.unusedSimpArgs false
namespace Go.Proofs.YtlifcingifodfaaGreat
open Tryz
open List(toArray)
variable{G L l l0:Ad}{Γ:Ad->Ad}{p:RP}{s:RL}{F C k b:Nat}{vs:Ap}
namespace As
open Go.RowKit
set_option maxRecDepth 20000
def ww(s:ASt)(p:Nat)(i:Fin 4):Bool:=decide (s.root (4*p+i.val)≠0)
def AaI(p:Nat)(i:Fin 4):Value:= .int .i64 ((4*p+i.val:Nat):Int)
def dropL(s:ASt)(p:Nat)(pre:List (Fin 4)):Ap:=(pre.filter (ww s p)).map (AaI p)
def dropP(s:ASt)(o:Int):Ap×Int×ASt:=
 match atO s o with
 |none=>([],2,s)
 |some p=>(dropL s p (RU p),0,s.drop p)
theorem nums_len(p:Nat):(RU p).length<=4:=by have:(RU p).length<=(List.range 4).length:=List.length_filterMap_le _ _;simpa using this
theorem dropL_len(s:ASt)(p:Nat)(pre:List (Fin 4)):(dropL s p pre).length<=pre.length:=by unfold dropL;rw[A7];exact C7 _ _
theorem lX(s:ASt)(p:Nat)(pre:List (Fin 4))(i:Fin 4)(h:s.root (4*p+i.val)≠0):dropL s p (pre++[i])=dropL s p pre++[AaI p i]:=by simp[dropL,ww,h]
theorem gW(s:ASt)(p:Nat)(pre:List (Fin 4))(i:Fin 4)(h:s.root (4*p+i.val)=0):dropL s p (pre++[i])=dropL s p pre:=by simp[dropL,ww,h]
theorem dropPool_any(b:Nat)(s:ASt)(o:Int)(F:Ad):
 Fn prog 386 [.pointer (some ⟨b,0,none⟩),.int .i64 o] (asA b s::F) λv l'=> ∃sl cs,v= .tuple #[sl,.int .i64 (dropP s o).2.1]/\OwnSl 3 1 sl (dropP s o).1.length (dropP s o).1 cs/\l'=asA b (dropP s o).2.2::(cs++F):=by
 refine AO func386 ntmps386 λE=>?_;refine Ih λb2=>?_;cases hq:atO s o with
 |none=>refine Be (AL rfl rfl (λl hl=>OS b s o (-1) (by simp[Wy,hq]) l (hl _ (by exact BW)))) ?_;refine Ih λb6=>?_;refine AV [] (asA b s::F) rfl (l':=asA b s::F) (by exact AU) (by exact Ba) (by exact AU) ⟨_,[],by simp only[Jv,dropP,hq];rfl,by simp only[dropP,hq];exact OwnSl.nil _ _,by simp[dropP,hq]⟩
 |some p=>
  have hp:=kT s o p hq;refine Be (AL rfl rfl (λl hl=>OS b s o p (by simp[Wy,hq]) l (hl _ (by exact BW)))) ?_;refine Ih λb6=>?_;refine Ih λb7=>?_;refine AR (AA rfl rfl (Od p _)) ?_;rintro v l' ⟨B,hB,rfl,rfl⟩;refine gz ?_;refine Df (α:=Fin 4) (ps:=[21,22]) (lb:=[.pointer (some ⟨B,0,none⟩)]) rfl (LW B p hp) (λ_=>rfl) rfl
   (λpre l=> ∃v cs,OwnSl 3 1 v (dropL s p pre).length (dropL s p pre) cs/\l=[(B,.cells #[.int .i64 (p:Nat)] 3 (0,0)),(b6,.cells #[.int .i64 (p:Nat)] 3 (0,0)),(b2,.cells #[.pointer (some ⟨b,0,none⟩)] 157 (0,0)),(b7,.cells #[v] 40 (0,0)),asA b s]++cs)
   (λc pre l=>False)
   _ F (λpre l X _ h=>by obtain⟨v,cs,_,rfl⟩:=h;exact List.Mem.head _) (by exact AU) ⟨_,[],OwnSl.nil _ _,rfl⟩ ?_ ?_ ?_
  ·rintro E r0 FS pre y l' T ⟨fn,tmps,D,rfl⟩ hT ⟨v,cs,ET,rfl⟩ DB;have ti:=y.isLt;have qr:=s.c_root p y.val hp ti;simp only[DU,Ae,Ag];refine gz ?_;refine CH (.there (.there (.there (.there (.there (FH _ _ _ _ _)))))) ?_;refine gz ?_;refine Cn [] 10 _ ?_ (hR:=(λ_ h=>h));refine pz ?_;by_cases hr:s.root (4*p+y.val)=0
   ·refine gz ?_;refine Cg _ (.refl) ⟨v,cs,?_,rfl⟩;rw[gW s p pre y hr];exact ET
   ·refine gz ?_;refine AR (KU rfl rfl) ?_;rintro _ _ ⟨bl,_,rfl,rfl⟩;refine Bq (Keep.of_perm (Az [(bl,.cells (toArray [.int .i64 ((4*p+y.val:Nat):Int)]) 3 (0,0)),(B,.cells #[.int .i64 (p:Nat)] 3 (0,0)),(b6,.cells #[.int .i64 (p:Nat)] 3 (0,0)),(b2,.cells #[.pointer (some ⟨b,0,none⟩)] 157 (0,0)),(b7,.cells #[v] 40 (0,0)),asA b s] cs _)) ?_;have Ei:(dropL s p pre).length<=4:=BY (dropL_len s p pre) (by have h1:=List.IsPrefix.length_le DB;have h2:=nums_len p;simp at h1;omega);apply jp
    ·apply Gy (xs:=dropL s p pre) (news:=[.int .i64 ((4*p+y.val:Nat):Int)]) (zs:=[.int .i64 0])
     ·rfl
     ·rfl
     ·rfl
     ·exact ET
     ·exact Aa _ Ak
     ·intro j u hj;simpa using hj
     ·rfl
     ·simp[Value.oneCell']
     ·unfold maxLen;omega
     ·omega
    ·rfl
    ·rfl
    ·rfl
    rintro v' _ ⟨cs',hown',rfl⟩;have Ju:v'.oneCell'=true:=hown'.one;refine Bq (Keep.of_perm (Az cs' [(bl,.cells (toArray [.int .i64 ((4*p+y.val:Nat):Int)]) 3 (0,0)),(B,.cells #[.int .i64 (p:Nat)] 3 (0,0)),(b6,.cells #[.int .i64 (p:Nat)] 3 (0,0)),(b2,.cells #[.pointer (some ⟨b,0,none⟩)] 157 (0,0)),(b7,.cells #[v] 40 (0,0)),asA b s] _)) ?_;simp only[Ae,Ag];refine gz ?_;refine Cg _ (.drop .refl) ⟨v',cs',?_,rfl⟩;rw[lX s p pre y hr,Ah];exact hown'
  ·rintro D xs l' rfl ⟨v,cs,ET,rfl⟩;simp only[Ae,Ag];refine gz ?_;refine Cn [6] 7 ([(b6,.cells #[.int .i64 (p:Nat)] 3 (0,0)),(b2,.cells #[.pointer (some ⟨b,0,none⟩)] 157 (0,0))]) ?_;refine pz ?_;apply NZ
   ·apply El (cs:=s.cells)
    ·rfl
    ·rfl
    ·rfl
    ·simp[Value.oneCell']
    ·exact DX
    ·rw[s.cells_size];omega
   ·rfl
   ·rfl
   ·rintro _ _ ⟨rfl,rfl⟩;exact(Ce (by exact Mq))
   rintro _ _ ⟨rfl,rfl⟩;rw[Dr,s.s_drop p hp];refine pz ?_;refine gz ?_;refine AV [D] (asA b (s.drop p)::(cs++F)) rfl (l':=asA b (s.drop p)::(cs++F)) (by exact AU) (by exact Ba) .refl ⟨v,cs,by simp[Jv,dropP,hq],by simp only[dropP,hq];exact ET,by simp[dropP,hq]⟩
  ·rintro D c pre l' DB h;exact h.elim
end As
open Go.RowKit
set_option maxRecDepth 20000
abbrev K6(x:Int):Prop:=0<=x/\x<18446744073709551616
abbrev Bc(x:Int):Value:= .int .u64 x
abbrev T3(gb:Nat)(W:A4):Bg:=(gb,.cells (toArray (W.map Bc)) 254 (0,0))
def AaJ(b F:Nat)(W:A4)(lq:Ad):Prop:= ∃gb,1<=F/\F<=64/\W.length=F*8/\(∀w,w∈W->K6 w)/\lq=[Pn b gb F,T3 gb W]
theorem Mz:K6 0:=⟨by decide,by decide⟩
class TW(t:Th.ThT):Prop where
 out:K6 t.va/\K6 t.vl
structure KT where
 A:Ar.ArT
 H:HS
 N:As.ASt
 T:Th.TL
 Q:Nat->A4
 E:En.DE
 W:A4
 K:List IW
 U:A4
variable{S S':KT}
class IsK(F C k:outParam Nat)(S:KT)(p:RP)(s:RL):Prop where
 mem:AaJ p.m F S.W s.M
 co:IsCos p.c S.K s.C
 kl:S.K.length=C
 ar:Ar.IsA p.a S.A s.A
 an:S.A.n=F
 rad:qZ S.A
 ho:IsH p.h S.H s.H
 inv: ∃m,m+k<=900/\InvH S.H m
 giv: ∀n,n<32->0<=S.N.given n/\S.N.given n+k<=900
 th:Th.IsX p.t S.T s.T
 tl:S.T.length+k<=900
 tw: ∀t,t∈S.T->TW t/\Th.mayH t=true
 qu:Qu.IsQ p.q S.Q s.Q
 ql: ∀n,n<8->(S.Q n).length+k<=900
 en:En.IsE p.e S.E s.E
 el: ∀x,x∈S.E->x.2.1.length+k<=900
 eo: ∀t,En.OneAt S.E t
 ul:S.U.length=C
 cu:OwnSl 3 1 p.v C (S.U.map CN) s.V
 c1:1<=C/\C<=3
def Aw(b:Nat)(p:RP)(s:RL)(S:KT)(G:Ad):Ad:=CD b p::As.asA p.n S.N::(s.M++(s.C++(s.A++(s.H++(s.T++(s.Q++(s.E++(s.V++G))))))))
theorem IsK.mono{m:Nat}(h:IsK F C k S p s)(hm:m<=k):IsK F C m S p s:=
 {h with inv:=let⟨n,h1,h2⟩:=h.inv;⟨n,Af,h2⟩,giv:=λn hn=>by have:=h.giv n hn;omega,tl:=by have:=h.tl;omega,ql:=λn hn=>by have:=h.ql n hn;omega,el:=λx hx=>by have:=h.el x hx;omega}
def Tail(L G:Ad):Prop:= ∃X,L=X++G
theorem Tail.nil:Tail G G:=⟨[],rfl⟩
theorem Tail.step(X:Ad)(h:Tail L G):Tail (X++L) G:=by obtain⟨Y,rfl⟩:=h;exact⟨X++Y,by simp⟩
theorem Tail.cons{c:Bg}(h:Tail L G):Tail (c::L) G:=h.step [c]
theorem Tail.trans{M:Ad}(h:Tail L M)(h2:Tail M G):Tail L G:=by obtain⟨Y,rfl⟩:=h;exact h2.step Y
inductive Fr1(l0:Ad):Ad->(Ad->Ad)->Prop
 |nil:Fr1 l0 l0 λx=>x
 |cons {c:Bg} {l:Ad} {Γ:Ad->Ad}:Fr1 l0 l Γ->Fr1 l0 (c::l) λx=>c::Γ x
theorem Fr1.eq(h:Fr1 l0 l Γ): ∃A,l=A++l0/\ ∀x,Γ x=A++x:=by
 induction h with
 |nil=>exact⟨[],rfl,λ_=>rfl⟩
 |cons _ ih=>obtain⟨A,h1,h2⟩:=ih;exact⟨_::A,by rw[h1];rfl,λx=>BO _ (h2 x)⟩
def KK(F C b:Nat)(p:RP)(k:Nat)(x:Value)(S:KT)(G:Ad):Value->Ad->Prop:=λv l'=>v=x/\ ∃s L,IsK F C k S p s/\Tail L G/\l'=Aw b p s S L
class EK(P:Program)(F C b:Nat)(p:RP)(f:Nat)(vs:Ap)(k:Nat)(S:KT)(k':outParam Nat)(x:outParam Value)(S':outParam KT):Prop where
 out: ∀s G,IsK F C k S p s->Fn P f vs (Aw b p s S G) (KK F C b p k' x S' G)
theorem Fi(b:Nat)(p:RP)(s:RL)(S:KT)(A G:Ad):(A++Aw b p s S G).Perm (Aw b p s S (A++G)):=by unfold Aw;exact B0
theorem T4(b:Nat)(p:RP)(s:RL)(S:KT)(X A G:Ad):(Aw b p s S (X++(A++G))).Perm (A++Aw b p s S (X++G)):=by unfold Aw;exact B0
section
theorem mG(h: ∀c,c∈Aw b p s S G->c∈l): ∀c,c∈G->c∈l:=λc hc=>h c (by unfold Aw;simp[hc])
theorem mR(h: ∀c,c∈Aw b p s S G->c∈l):CD b p∈l:=h _ (.head _)
theorem mN(h: ∀c,c∈Aw b p s S G->c∈l):As.asA p.n S.N∈l:=h _ (.tail _ (.head _))
theorem mM(h: ∀c,c∈Aw b p s S G->c∈l): ∀c,c∈s.M->c∈l:=λc hc=>h c (by unfold Aw;simp[hc])
theorem mC(h: ∀c,c∈Aw b p s S G->c∈l): ∀c,c∈s.C->c∈l:=λc hc=>h c (by unfold Aw;simp[hc])
theorem mA(h: ∀c,c∈Aw b p s S G->c∈l): ∀c,c∈s.A->c∈l:=λc hc=>h c (by unfold Aw;simp[hc])
theorem mH(h: ∀c,c∈Aw b p s S G->c∈l): ∀c,c∈s.H->c∈l:=λc hc=>h c (by unfold Aw;simp[hc])
theorem mT(h: ∀c,c∈Aw b p s S G->c∈l): ∀c,c∈s.T->c∈l:=λc hc=>h c (by unfold Aw;simp[hc])
theorem mQ(h: ∀c,c∈Aw b p s S G->c∈l): ∀c,c∈s.Q->c∈l:=λc hc=>h c (by unfold Aw;simp[hc])
theorem mE(h: ∀c,c∈Aw b p s S G->c∈l): ∀c,c∈s.E->c∈l:=λc hc=>h c (by unfold Aw;simp[hc])
theorem mV(h: ∀c,c∈Aw b p s S G->c∈l): ∀c,c∈s.V->c∈l:=λc hc=>h c (by unfold Aw;simp[hc])
end
theorem dI(h:Fr1 l0 l Γ:=by(repeat(first|exact .nil|apply Fr1.cons))):Fr1 l0 l Γ:=h
theorem zTl(h:Tail L G:=by(repeat(first|assumption|exact Tail.nil|apply Tail.cons|(refine Tail.trans (by assumption) ?_)))):Tail L G:=h
theorem zSt(h:S=S':=by first|rfl|(subst_vars;rfl)|(subst_vars;simp[*];done)|(simp_all;done)):S=S':=h
section
variable{P:Program}{ro:Option Nat}{N:Nat}{E:World}{ops:Array Oper}{Q:Exit->Act->World->Prop}{A0:List Oper}{fr:Fr}{ds:List Deferred}{x0:Value}{d f:Nat}{x:Operand}{xs:List Operand}{at_:Array TypeId}{ty:TypeId}{pos:String}{aft:Array Edge}{g:Option (Nat×Bool)}{k':Nat}
theorem EK.on(q:EK P F C b p f vs k S k' x0 S')(hK:IsK F C k S p s)(hF:Fr1 (Aw b p s S G) l Γ):Fn P f vs l λv l'=>v=x0/\ ∃s' L,IsK F C k' S' p s'/\Tail L G/\l'=Γ (Aw b p s' S' L):=by
 obtain⟨A,rfl,hA⟩:=hF.eq;refine Fn.re (.of_perm (Fi b p s S A G)) (q.out s (A++G) hK) λv l' ⟨h1,s',L,h2,⟨X,h3⟩,h4⟩=>⟨Γ (Aw b p s' S' (X++G)),?_,h1,s',_,h2,⟨X,rfl⟩,rfl⟩
 rw[h4,h3,hA];exact .of_perm (T4 ..)
theorem Gc(hk: ∀S1 s' L,S1=S'->IsK F C k' S1 p s'->Tail L G->CD b p∈Aw b p s' S1 L->Dz P ro N E ops Q A0 ((d,x0)::fr) ds (Γ (Aw b p s' S1 L)))(hx:ev fr x=some (.func (.func f) #[] #[]):=by rfl)(hy:RS fr xs=some vs:=by rfl)(hF:Fr1 (Aw b p s S G) l Γ:=by exact dI)(c:EN P f:=by infer_instance)(hK:IsK F C k S p s:=by infer_instance)(q:EK P F C b p f vs k S k' x0 S':=by infer_instance)(hw:Rr ops fr g=some true:=by rfl)(hb:Nat.blt d N=true:=by rfl):Dz P ro N E ops Q (⟨some d,.call {callee:= .value x,args:=xs.toArray,argTypes:=at_},ty,pos,aft,g⟩::A0) fr ds l:=
 Jr (AA hx hy (q.on hK hF)) hw rfl hb λv l' ⟨h1,s',L,h2,h3,h4⟩=>by rw[h1,h4];exact hk S' s' L rfl h2 h3 (mR λ_ h=>h)
variable{tbl:List (List Nat)}{sp:FM}{pl:List BH}{i:Nat}{gg:Bool}
theorem MG(hk: ∀S1 s' L,S1=S'->IsK F C k' S1 p s'->Tail L G->CD b p∈Aw b p s' S1 L->MP P ro N E ops Q tbl false sp pl ((d,x0)::fr) ds (Γ (Aw b p s' S1 L)))(hx:ev fr x=some (.func (.func f) #[] #[]):=by rfl)(hy:RS fr xs=some vs:=by rfl)(hF:Fr1 (Aw b p s S G) l Γ:=by exact dI)(c:EN P f:=by infer_instance)(hK:IsK F C k S p s:=by infer_instance)(q:EK P F C b p f vs k S k' x0 S':=by infer_instance)(hb:Nat.blt d N=true:=by rfl)(ha:(sp.map Prod.fst).all (λq=>FQ tbl i q)=true:=by kernel_rfl):MP P ro N E ops Q tbl gg sp ((i,false,⟨some d,.call {callee:= .value x,args:=xs.toArray,argTypes:=at_},ty,pos,aft,none⟩)::pl) fr ds l:=
 Ll (AA hx hy (q.on hK hF)) (λv l' ⟨h1,s',L,h2,h3,h4⟩=>by rw[h1,h4];exact hk S' s' L rfl h2 h3 (mR λ_ h=>h)) rfl rfl hb ha
theorem A9{fn:Func}{rs:List ResultVar}{S1:KT}{k1:Nat}{y:Value}(hr:fn.results=rs.toArray:=by rfl)(h:ResS P fr l rs vs:=by exact Ba)(hF:Fr1 (Aw b p s S1 L) l Γ:=by exact dI)(hK:IsK F C k1 S1 p s:=by infer_instance)(ht:Tail L G:=by exact zTl)(hx:Jv vs=y:=by exact zLf)(hk:k<=k1:=by omega)(hS:S1=S:=by exact zSt):CU N E (bodyPostM Fence.wide 0 P fn (RK E (KK F C b p k y S G))) .ret fr [] l:=by subst hS hx;obtain⟨A,rfl,_⟩:=hF.eq;exact AV [] _ hr .refl h (Keep.dropL' A .refl) ⟨rfl,s,L,hK.mono hk,ht,rfl⟩
end
def Ot(W:A4)(a:Int):Int:=if ¬a%8=0 then 4 else if a>=(W.length:Int)*8 then 3 else 0
def O1(W:A4)(a:Int):Int×Int:=if Ot W a=0 then(W.getD (a/8).toNat 0,0) else(0,Ot W a)
def gX(W:A4)(a v:Int):Int×A4:=if Ot W a=0 then(0,W.set (a/8).toNat v) else(Ot W a,W)
abbrev nF(W:A4):Int:=(W.length/8:Nat)
def YK(W:A4)(f n:Int):Int×A4:=if f<0\/f>=nF W\/n<0\/n>nF W-f then(3,W) else(0,W.take (8*f.toNat)++(List.replicate (8*n.toNat) 0++W.drop (8*(f.toNat+n.toNat))))
structure T5 where
 vd:Bool
 lf:Bool
 rd:Bool
 wr:Bool
 fr:Int
deriving DecidableEq
abbrev T6(e:T5):Ap:=[.bool e.vd,.bool e.lf,.bool e.rd,.bool e.wr,.int .i64 e.fr]
abbrev aN:T5:=⟨false,false,false,false,0⟩
def UY(e:T5):Bool:=if e.vd=false then decide (e=aN) else if e.fr<0\/e.fr>=64 then false else e.lf==(e.rd||e.wr)
def Qm(e:T5):Int×Int:=if UY e=true then((e.vd.toNat+2*e.lf.toNat+4*e.rd.toNat+8*e.wr.toNat:Nat)+256*e.fr,0) else(0,5)
def gY(n:Nat):T5:=⟨n.testBit 0,n.testBit 1,n.testBit 2,n.testBit 3,(n/256%64:Nat)⟩
def K7(w:Int):T5×Int:=if w.toNat/16%16=0/\w.toNat/16384=0/\UY (gY w.toNat)=true then(gY w.toNat,0) else(aN,5)
def HC(W:A4)(a:Int)(Nw:Bool):T5×Int:=
 if ¬(O1 W a).2=0 then(aN,5) else if ¬(K7 (O1 W a).1).2=0 then(aN,5)
 else if(K7 (O1 W a).1).1.vd=false then(aN,6) else if ¬(K7 (O1 W a).1).1.lf=Nw\/(K7 (O1 W a).1).1.fr>=nF W then(aN,5) else((K7 (O1 W a).1).1,0)
def rc(page level:Int):Int:=if page<0\/page>=512\/level<1\/level>3 then-1 else if level=1 then page/64%8 else if level=2 then page/8%8 else page%8
abbrev Gk(f page level:Int):Int:=f*64+8*rc page level
def M6(W:A4)(root page:Int):List (Int×Int×Int):=
 (1,Gk root page 1,0)::
 if ¬(HC W (Gk root page 1) false).2=0 then[(2,0,(HC W (Gk root page 1) false).2)] else
 (2,Gk (HC W (Gk root page 1) false).1.fr page 2,0)::
 if ¬(HC W (Gk (HC W (Gk root page 1) false).1.fr page 2) false).2=0 then[(3,0,(HC W (Gk (HC W (Gk root page 1) false).1.fr page 2) false).2)] else
 [(3,Gk (HC W (Gk (HC W (Gk root page 1) false).1.fr page 2) false).1.fr page 3,0)]
def T7(W:A4)(root page level:Int):Int:=if root<0\/root>=nF W\/page<0\/page>=512\/level<1\/level>3 then 3 else 0
def QQ(W:A4)(root page level:Int):Int×Int:=
 if T7 W root page level≠0 then(0,3) else
 match(M6 W root page).find? λx=>decide (x.1=level)||!decide (x.2.2=0) with
 |some x=>x.2
 |none=>(0,0)
def Ou(W:A4)(root page:Int):T5×Int:=if ¬(QQ W root page 3).2=0 then(aN,(QQ W root page 3).2) else HC W (QQ W root page 3).1 true
def LY(T:Lh):List Nat:=(List.range 8).filter λk=>!decide ((T.w k).sp=0)
def T8(T:Lh)(sp pg:Int):MF×Bool:=match(LY T).find? λk=>decide ((T.w k).sp=sp)&&decide ((T.w k).pg=pg) with
 |some k=>(T.w k,true)
 |none=>(QP,false)
def Qn(T:Lh)(k:Nat)(x:MF):Lh:={T with w:=Qu.upd T.w k x}
def UZ(x:MF):Prop:=x.sp<1\/x.pg<0\/x.pg>=512\/x.fr<0\/x.fr>=64\/(x.rd=false/\x.wr=false)
instance(x:MF):Decidable (UZ x):=by unfold UZ;exact inferInstance
def aO(T:Lh)(x:MF):Option Nat:=
 let s:=(x.pg%4).toNat
 if(T.w (2*s)).sp=x.sp/\(T.w (2*s)).pg=x.pg then some (2*s) else if(T.w (2*s+1)).sp=x.sp/\(T.w (2*s+1)).pg=x.pg then some (2*s+1)
 else if(T.w (2*s)).sp=0 then some (2*s) else if(T.w (2*s+1)).sp=0 then some (2*s+1) else none
def Kp(T:Lh)(x:MF):Int×Lh:=if UZ x then(2,T) else match aO T x with
 |some k=>(0,Qn T k x)
 |none=>(0,{w:=Qu.upd T.w (2*(x.pg%4).toNat+(T.d (x.pg%4).toNat).toNat) x,d:=Qu.upd T.d (x.pg%4).toNat ((T.d (x.pg%4).toNat+1)%2)})
def M7(T:Lh)(st wy:Int):Bool×Lh:=if st<0\/st>=4\/wy<0\/wy>=2 then(false,T) else(!decide ((T.w (2*st.toNat+wy.toNat)).sp=0),Qn T (2*st.toNat+wy.toNat) QP)
def rh(T:Lh)(f:MF->Bool)(k:Nat):Bool:=decide (k<8)&&!decide ((T.w k).sp=0)&&f (T.w k)
def Pq(T:Lh)(f:MF->Bool):Lh:={T with w:=λk=>if rh T f k=true then QP else T.w k}
def Nl(T:Lh)(f:MF->Bool):Nat:=((List.range 8).filter (rh T f)).length
abbrev Ki(sp pg:Int):MF->Bool:=λx=>decide (x.sp=sp)&&decide (x.pg=pg)
abbrev QR(sp:Int):MF->Bool:=λx=>decide (x.sp=sp)
abbrev M8(K:List IW)(n:Int):Int:=if n<0\/n>=K.length then 3 else 0
def pf:IW:=⟨0,0,⟨λ_=>QP,λ_=>0⟩⟩
abbrev QU(K:List IW)(n:Int):IW:=K.getD n.toNat pf
def LL(root sp:Int):Prop:=(root= -1/\sp=0)\/(0<=root/\root<64/\1<=sp)
instance(root sp:Int):Decidable (LL root sp):=by unfold LL;exact inferInstance
def setC(K:List IW)(n root sp:Int):Int×List IW:=if ¬M8 K n=0 then(3,K) else if ¬LL root sp then(2,K) else(0,K.set n.toNat {QU K n with ro:=root,sp:=sp})
def Pr(K:List IW)(n:Int):Int×Int×Int:=if ¬M8 K n=0 then(0,0,3) else((QU K n).ro,(QU K n).sp,0)
def trW(W:A4)(c:IW)(pg:Int):MF:=⟨c.sp,pg,(Ou W c.ro pg).1.fr,(Ou W c.ro pg).1.rd,(Ou W c.ro pg).1.wr⟩
def DQ(K:List IW)(W:A4)(n pg:Int):(MF×Bool×Int)×List IW:=
 if ¬M8 K n=0 then((QP,false,3),K) else if pg<0\/pg>=512 then((QP,false,3),K) else if(QU K n).ro<0 then((QP,false,19),K)
 else if(T8 (QU K n).tb (QU K n).sp pg).2=true then(((T8 (QU K n).tb (QU K n).sp pg).1,true,0),K)
 else if ¬(Ou W (QU K n).ro pg).2=0 then((QP,false,(Ou W (QU K n).ro pg).2),K)
 else((trW W (QU K n) pg,false,0),K.set n.toNat {QU K n with tb:=(Kp (QU K n).tb (trW W (QU K n) pg)).2})
def lY(K:List IW)(n st wy:Int):Bool×List IW:=if ¬M8 K n=0 then(false,K) else((M7 (QU K n).tb st wy).1,K.set n.toNat {QU K n with tb:=(M7 (QU K n).tb st wy).2})
def IE(K:List IW)(f:MF->Bool):List IW:=K.map λc=>{c with tb:=Pq c.tb f}
def Rf(K:List IW)(f:MF->Bool):Nat:=(K.map λc=>Nl c.tb f).sum
namespace Ar
theorem YL(v:Value)(i m:Nat)(A W B:Ap)(hA:A.length=i*9)(hW:W.length=9)(hB:B.length=m*9)(uY: ∀u∈B,u.oneCell'=true)(cs F:Ad)(h:OwnSl 100 9 v (i+m+1) (A++W++B) cs)(hn:i+m<=90000):
 Fn prog 388 [v,.int .i64 (i:Nat),.int .i64 ((i:Int)+1)] (cs++F) λr l'=> ∃cs',OwnSl 100 9 r (i+m) (A++B) cs'/\l'=cs'++F:=by
 obtain⟨Ei,h⟩:=h;rcases h with⟨rfl,h0,rfl⟩|⟨gb,cap,sp,rfl,rfl,fD,UK,Nu⟩
 ·omega
 have Agi:sp.length+(i+m+1)*9=cap*9:=by rw[Ah,Ei] at Nu;omega
 obtain⟨cur,hcur⟩: ∃cur,A++W++B++sp=cur:=⟨_,rfl⟩
 have zy:cur.length=cap*9:=by rw[<-hcur];exact Nu
 obtain⟨off',hoff⟩: ∃o,(if cap=i+1 then 0 else 0+(i+1)*9)=o:=⟨_,rfl⟩
 have pO:cur.take (i*9)=A:=by rw[<-hcur,Am,Am,GP hA]
 obtain⟨T,hT⟩: ∃T,cur.drop (i*9+m*9)=T:=⟨_,rfl⟩
 have hTl:T.length=cap*9-(i*9+m*9):=by rw[<-hT,Dw,zy]
 rw[hcur];refine AO func388 ntmps388 λE=>?_;simp only[Ae,Ag];refine gz ?_;refine Be (F9 (l0:=i) (h0:=i+1) (m0:=i+m+1) rfl (.some rfl Af rfl) (.some rfl Af Af) (.some rfl Af rfl) (λ_=>rfl) Af Af Af rfl rfl rfl) ?_;refine gz ?_;refine Cn [6] 8 ([]) ?_;refine pz ?_;apply EF
 ·exact F9 (l0:=0) (h0:=i) (m0:=cap) (off':=0) (n':=i) (c':=cap) rfl (.none) (.some rfl Af rfl) (.none) (by simp) Af Af Af (by simp) Af Af
 ·rfl
 ·rfl
 ·rfl
 refine pz ?_;apply EF
 ·exact F9 (l0:=i+1) (h0:=i+m+1) (m0:=cap) (off':=off') (n':=m) rfl (.some rfl Af Af) (.none) (.none) (by simp) Af Af Af hoff Af rfl
 ·rfl
 ·rfl
 ·rfl
 refine pz ?_;apply CS
 ·apply Vj (news:=B) (cl:=toArray cur) (cur:=toArray cur)
  ·rfl
  ·rfl
  ·exact Ak
  ·intro j u hj;have fF:=(Ay.1 hj).1;rw[<-hoff,Ab Af,AF,<-hcur,AB (by simp;omega),AN (by simp;omega),show 0+(i+1)*9+j-(A++W).length=j by rw[Ah,hA,hW];omega];exact hj
  ·exact hB
  ·exact uY
  ·omega
  ·rw[hB];simp only[Bt];omega
 ·rfl
 ·rfl
 ·rfl
 ·intro _ _ _ c hc;cases hc
 rintro _ _ ⟨rfl,rfl⟩;have e1:(toArray cur).toList.take (i*9)++B++(toArray cur).toList.drop (i*9+B.length)=A++B++T:=by rw[hB];show cur.take (i*9)++B++cur.drop (i*9+m*9)=_;rw[pO,hT]
 rw[e1];refine pz ?_;refine gz ?_;refine Be (F9 (l0:=i+m) (h0:=i+m+1) (m0:=cap) (off':=i*9+m*9) (n':=1) rfl (.some rfl Af rfl) (.some rfl Af rfl) (.none) (by simp) Af Af Af (by rw[Ab Af];omega) Af rfl) ?_;refine gz ?_;have zz:(A++B).length=i*9+m*9:=by rw[Ah];omega
 have eS:C8 (toArray (A++B++T)) (i*9+m*9) (List.replicate 1 pd).flatten=toArray (A++B++(pd++T.drop 9)):=by rw[<-zz];have:=setFrom_mid (List.replicate 1 pd).flatten (A++B) (T.take 9) (T.drop 9) (by rw[CV];show 9=_;omega);rw[Am (A++B),Cj] at this;rw[this];show _=toArray (A++B++(pd++List.drop 9 T));rw[Am (A++B)];rfl
 apply ME
 ·apply dc (zs:=pd) (cs:=toArray (A++B++T))
  ·rfl
  ·omega
  ·simp[Value.oneCell']
  ·rw[eS];exact .here
  ·simp;omega
 ·rfl
 ·rfl
 rintro _ _ ⟨rfl,rfl⟩;refine gz ?_;refine BD [] rfl .refl (by exact Ba) ⟨[(gb,_)],⟨Af,.inr ⟨gb,cap,pd++T.drop 9,rfl,rfl,Af,UK,?_⟩⟩,rfl⟩;rw[Ah,zz,Ah,Dw];show i*9+m*9+(9+(T.length-9))=_;omega
theorem aP(X:Ad)(v:Value)(i m:Nat)(A W B:Ap)(hA:A.length=i*9)(hW:W.length=9)(hB:B.length=m*9)(uY: ∀u∈B,u.oneCell'=true)(cs F:Ad)(h:OwnSl 100 9 v (i+m+1) (A++W++B) cs)(hn:i+m<=90000):
 Fn prog 388 [v,.int .i64 (i:Nat),.int .i64 ((i:Int)+1)] (X++(cs++F)) λr l'=> ∃cs',OwnSl 100 9 r (i+m) (A++B) cs'/\l'=X++(cs'++F):=
 Fn.re (Keep.in_mid X cs F) (YL v i m A W B hA hW hB uY cs (X++F) h hn) λr l' ⟨c2,h2,e⟩=>⟨X++(c2++F),by rw[e];exact Keep.in_mid c2 X F,c2,h2,rfl⟩
theorem drop_any(b:Nat)(S:ArT)(lq:Ad)(hA:IsA b S lq)(id:Int)(F:Ad):
 Fn prog 366 [.pointer (some ⟨b,0,none⟩),.int .i64 id] (lq++F) λv l'=>v= .int .i64 (dropD S id).1/\ ∃DD,IsA b (dropD S id).2 DD/\l'=DD++F:=by
 have Nj:=hA;have Ei:=hA.ok.len;have Xq:=qT hA.ok id;obtain⟨Dm,v,cs,rfl,ho⟩:=hA;have cl:=Vu S.n S.g v;refine AO func366 ntmps366 λE=>?_;simp only[Ae,Ag];refine Aj ?_;refine Be (AL rfl rfl λl2 hl=>JI b S _ Nj id l2 (λc hc=>hl _ (aJ hc))) ?_;unfold dropD at Xq⊢;cases hk:atO S.os id with
 |none=>rw[N9 hk];refine Aj ?_;exact Bb .refl ⟨rfl,_,Nj,rfl⟩
 |some k=>rw[Oa hk];rw[hk] at Xq;obtain⟨o,Gh,_⟩:=atO_some hk;have Xn:=(Ay.1 Gh).1;have cJ:=ho;rw[gT Gh,show S.os.length=k+(S.os.length-k-1)+1 by omega] at cJ;refine Aj ?_;refine AR (AA rfl rfl (aP [Tn b S.n S.g v] v k (S.os.length-k-1) (ocs (S.os.take k)) (obC o) (ocs (S.os.drop (k+1))) (by rw[N8,CV];omega) rfl (by rw[N8,Dw];omega) (dq _) cs F cJ Af)) ?_;rintro v' _ ⟨c2,FK,rfl⟩;have Ju:v'.oneCell'=true:=FK.one;simp only[Ae,Ag];refine Aj ?_;refine ME (Du (b:=b) (off:=65) (cs:=toArray (Ye S.n S.g v)) rfl rfl Ju (by rw[Yf];exact DX) (by rw[Bt,Wx];omega)) rfl rfl ?_;rintro _ _ ⟨rfl,rfl⟩;refine Aj ?_;refine Bb .refl ⟨rfl,Tn b S.n S.g v'::c2,⟨Xq,v',c2,rfl,?_⟩,rfl⟩;show OwnSl 100 9 v' (S.os.eraseIdx k).length (ocs (S.os.eraseIdx k)) c2;rw[gS _ _ Xn,MW,Ah,CV,Dw,show min k S.os.length+(S.os.length-(k+1))=k+(S.os.length-k-1) by omega];exact FK
theorem mark_any(b:Nat)(S:ArT)(lq:Ad)(hA:IsA b S lq)(id m:Int)(F:Ad):
 Fn prog 285 [.pointer (some ⟨b,0,none⟩),.int .i64 id,.int .i64 m] (lq++F) λv l'=>v= .int .i64 (markD' S id m).1/\ ∃DD,IsA b (markD' S id m).2 DD/\l'=DD++F:=by
 have Nj:=hA;have Ei:=hA.ok.len;have Xq:=qU hA.ok id m;obtain⟨Dm,v,cs,rfl,ho⟩:=hA;have cl:=Vu S.n S.g v;refine AO func285 ntmps285 λE=>?_;simp only[Ae,Ag];refine Aj ?_;refine Be (AL rfl rfl λl2 hl=>JI b S _ Nj id l2 (λc hc=>hl _ (aJ hc))) ?_;cases hk:atO S.os id with
 |none=>rw[N9 hk];refine Aj ?_;exact BD [] rfl .refl (by exact Ba) ⟨by rw[VR hk];rfl,_,by rw[VR hk];exact Nj,rfl⟩
 |some k=>
  rw[Oa hk];obtain⟨o,Gh,_⟩:=atO_some hk;have Xn:=(Ay.1 Gh).1;rcases ho.2 with⟨_,h0,_⟩|⟨gb,cap,sp,rfl,rfl,fD,UK,Nu⟩
  ·omega
  have c1:(toArray (ocs S.os++sp))[k*9+1]?=some (.int .i64 o.kd):=PC Gh sp 1 Af;have c4:(toArray (ocs S.os++sp))[k*9+4]?=some (.int .i64 o.fr):=PC Gh sp 4 Af;simp only[Ae,Ag];by_cases h1:o.kd=1
  ·by_cases h2:m<0
   ·refine Aj ?_;have e:=lS (m:=m) hk Gh h1 (.inl h2);exact BD [] rfl .refl (by exact Ba) ⟨by rw[e];rfl,_,by rw[e];exact Nj,rfl⟩
   by_cases h3:m>o.fr
   ·refine Aj ?_;have e:=lS hk Gh h1 (.inr h3);exact BD [] rfl .refl (by exact Ba) ⟨by rw[e];rfl,_,by rw[e];exact Nj,rfl⟩
   refine Aj ?_;have hs:=Sk (o':=setMa o m) Gh sp 5 (.int .i64 m) Af rfl;refine ME (Du (b:=gb) (off:=k*9+5) (cs:=toArray (ocs S.os++sp)) rfl rfl rfl (by rw[hs];exact DX) (by rw[Bt,Ah,N8];omega)) rfl rfl ?_;rintro _ _ ⟨rfl,rfl⟩;refine Aj ?_;have e:=wt (m:=m) hk Gh h1 Af;rw[e] at Xq⊢;exact Bb .refl ⟨rfl,[Tn b S.n S.g (.slice (some ⟨gb,0,none⟩) S.os.length cap),(gb,.cells (toArray (ocs (S.os.set k (setMa o m))++sp)) 100 (0,0))],dF Xq fD UK Nu,rfl⟩
  ·refine Aj ?_;have e:=wq (m:=m) hk Gh h1;exact BD [] rfl .refl (by exact Ba) ⟨by rw[e];rfl,_,by rw[e];exact Nj,rfl⟩
theorem place_any(b:Nat)(S:ArT)(lq:Ad)(hA:IsA b S lq)(id s p w:Int)(F:Ad):
 Fn prog 295 [.pointer (some ⟨b,0,none⟩),.int .i64 id,.int .i64 s,.int .i64 p,.int .i64 w] (lq++F) λv l'=>v= .int .i64 (placeD S id s p w).1/\ ∃DD,IsA b (placeD S id s p w).2 DD/\l'=DD++F:=by
 have Nj:=hA;have Ei:=hA.ok.len;have Xq:=lR hA.ok id s p w;obtain⟨Dm,v,cs,rfl,ho⟩:=hA;have cl:=Vu S.n S.g v;refine AO func295 ntmps295 λE=>?_;simp only[Ae,Ag];refine Aj ?_;refine Be (AL rfl rfl λl2 hl=>JI b S _ Nj id l2 (λc hc=>hl _ (aJ hc))) ?_;cases hk:atO S.os id with
 |none=>
  rw[N9 hk];by_cases z1:s=0<;>by_cases z2:p=0;all_goals
   refine Aj ?_;exact BD [] rfl .refl (by exact Ba) ⟨by rw[TY hk];rfl,_,by rw[TY hk];exact Nj,rfl⟩
 |some k=>
  rw[Oa hk];obtain⟨o,Gh,_⟩:=atO_some hk;have Xn:=(Ay.1 Gh).1;rcases ho.2 with⟨_,h0,_⟩|⟨gb,cap,sp,rfl,rfl,fD,UK,Nu⟩
  ·omega
  have c1:(toArray (ocs S.os++sp))[k*9+1]?=some (.int .i64 o.kd):=PC Gh sp 1 Af;simp only[Ae,Ag];by_cases h1:o.kd=4
  case neg=>
   have e:=qV (s:=s) (p:=p) (v:=w) hk Gh h1;by_cases z1:s=0<;>by_cases z2:p=0;all_goals
    refine Aj ?_;exact BD [] rfl .refl (by exact Ba) ⟨by rw[e];rfl,_,by rw[e];exact Nj,rfl⟩
  have R8:=Sk (o':={o with se:=s}) Gh sp 6 (.int .i64 s) Af rfl;have g1:(S.os.set k {o with se:=s})[k]?=some {o with se:=s}:=by rw[Ea Xn]
  have NM:=Sk (o':={o with se:=s,pg:=p}) g1 sp 7 (.int .i64 p) Af rfl;have g2:((S.os.set k {o with se:=s}).set k {o with se:=s,pg:=p})[k]?=some {o with se:=s,pg:=p}:=by rw[Ea (by rw[CB];exact Xn)]
  have Ro:=Sk (o':=setPl o s p w) g2 sp 8 (.int .i64 w) Af rfl;rw[Ks] at NM Ro;rw[Ks] at Ro;by_cases hp:So s p w
  case neg=>
   have e:=qW hk Gh h1 hp;have hN1:¬(s=0/\p=0/\w=0):=λh=>hp (.inl h);have hN2:s<1\/16777215<s\/p<0\/512<=p\/w<1\/2<w:=by
    by_cases z:s<1\/16777215<s\/p<0\/512<=p\/w<1\/2<w
    ·exact z
    ·exact absurd (.inr Af) hp
   clear hp;by_cases z1:s=0
   ·by_cases z2:p=0
    ·have z3:¬w=0:=λh=>hN1 ⟨z1,z2,h⟩;refine Aj ?_;rw[Ax z3,Hj];refine Aj ?_;exact BD [] rfl .refl (by exact Ba) ⟨by rw[e];rfl,_,by rw[e];exact Nj,rfl⟩
    ·refine Aj ?_;exact BD [] rfl .refl (by exact Ba) ⟨by rw[e];rfl,_,by rw[e];exact Nj,rfl⟩
   by_cases z4:s<1
   case pos=>refine Aj ?_;exact BD [] rfl .refl (by exact Ba) ⟨by rw[e];rfl,_,by rw[e];exact Nj,rfl⟩
   by_cases z5:s>16777215
   case pos=>refine Aj ?_;exact BD [] rfl .refl (by exact Ba) ⟨by rw[e];rfl,_,by rw[e];exact Nj,rfl⟩
   by_cases z6:p<0
   case pos=>refine Aj ?_;exact BD [] rfl .refl (by exact Ba) ⟨by rw[e];rfl,_,by rw[e];exact Nj,rfl⟩
   by_cases z7:p>=512
   case pos=>refine Aj ?_;exact BD [] rfl .refl (by exact Ba) ⟨by rw[e];rfl,_,by rw[e];exact Nj,rfl⟩
   by_cases z8:w<1
   case pos=>refine Aj ?_;exact BD [] rfl .refl (by exact Ba) ⟨by rw[e];rfl,_,by rw[e];exact Nj,rfl⟩
   have z9:w>2:=by omega
   refine Aj ?_;exact BD [] rfl .refl (by exact Ba) ⟨by rw[e];rfl,_,by rw[e];exact Nj,rfl⟩
  have e:=qX hk Gh h1 hp;rw[e] at Xq⊢;rcases hp with⟨z1,z2,z3⟩|z1
  case' inl=>
   refine Aj ?_;rw[Av z3,Bool.not_true]
  all_goals
   refine Aj ?_;refine Cn [20,23,26] 27 ([Tn b S.n S.g (.slice (some ⟨gb,0,none⟩) S.os.length cap)]) ?_ (hR:=(C5 (.head _)));refine BS ?_;apply Hs
   ·exact Du (b:=gb) (off:=k*9+6) (cs:=toArray (ocs S.os++sp)) rfl rfl rfl (by rw[R8];exact DX) (by rw[Bt,Ah,N8];omega)
   ·rfl
   ·rfl
   ·rintro _ _ ⟨rfl,rfl⟩ c hc;cases hc with
    |head=>exact .head _
    |tail _ h=>cases h
   ·exact λ_ _ _ x hx ha=>Dg BB hx ha
   rintro _ _ ⟨rfl,rfl⟩;refine BS ?_;apply Hs
   ·exact Du (b:=gb) (off:=k*9+7) (cs:=toArray (ocs (S.os.set k {o with se:=s})++sp)) rfl rfl rfl (by rw[NM];exact DX) (by rw[Bt,Ah,N8,CB];omega)
   ·rfl
   ·rfl
   ·rintro _ _ ⟨rfl,rfl⟩ c hc;cases hc with
    |head=>exact .head _
    |tail _ h=>cases h
   ·exact λ_ _ _ x hx ha=>Dg BB hx ha
   rintro _ _ ⟨rfl,rfl⟩;refine BS ?_;apply Hs
   ·exact Du (b:=gb) (off:=k*9+8) (cs:=toArray (ocs (S.os.set k {o with se:=s,pg:=p})++sp)) rfl rfl rfl (by rw[Ro];exact DX) (by rw[Bt,Ah,N8,CB];omega)
   ·rfl
   ·rfl
   ·rintro _ _ ⟨rfl,rfl⟩ c hc;cases hc with
    |head=>exact .head _
    |tail _ h=>cases h
   ·exact λ_ _ _ x hx ha=>Dg BB hx ha
   rintro _ _ ⟨rfl,rfl⟩;refine BS ?_;refine Aj ?_;exact Bb .refl ⟨rfl,[Tn b S.n S.g (.slice (some ⟨gb,0,none⟩) S.os.length cap),(gb,.cells (toArray (ocs (S.os.set k (setPl o s p w))++sp)) 100 (0,0))],dF Xq fD UK Nu,rfl⟩
end Ar
end Go.Proofs.YtlifcingifodfaaGreat
