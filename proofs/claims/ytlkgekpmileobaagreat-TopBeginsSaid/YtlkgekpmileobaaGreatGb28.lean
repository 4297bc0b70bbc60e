/- Laws that the statement's proof leans on (joined out of several texts). -/
import Derived.Test.YtlkgekpmileobaaGreatGb8
import Derived.Test.YtlkgekpmileobaaGreatGb27
import Derived.Test.YtlkgekpmileobaaGreatGb10
import Derived.Test.YtlkgekpmileobaaGreatGb23
import Derived.Test.YtlkgekpmileobaaGreatGb24
import Derived.Test.YtlkgekpmileobaaGreatGb26
set_option linter.unusedVariables false
set_option linter.unusedSimpArgs false
namespace Go.Proofs.YtlkgekpmileobaaGreat.As
open Tryz
open List(toArray)
open Go.RowKit
set_option maxRecDepth 20000
def oe(s:ASt)(p:Nat)(i:Fin 4):Bool:=decide (s.root (4*p+i.val)≠0)
def rq(p:Nat)(i:Fin 4):Value:= .int .i64 ((4*p+i.val:Nat):Int)
def dropL(s:ASt)(p:Nat)(pre:List (Fin 4)):List Value:=(pre.filter (oe s p)).map (rq p)
def dropP(s:ASt)(o:Int):List Value×Int×ASt:=
 match atO s o with
 |none=>([],2,s)
 |some p=>(dropL s p (PY p),0,s.drop p)
theorem nums_len(p:Nat):(PY p).length<=4:=by have:(PY p).length<=(List.range 4).length:=List.length_filterMap_le _ _;simpa using this
theorem dropL_len(s:ASt)(p:Nat)(pre:List (Fin 4)):(dropL s p pre).length<=pre.length:=by unfold dropL;rw[AZ];exact C6 _ _
theorem fu(s:ASt)(p:Nat)(pre:List (Fin 4))(i:Fin 4)(h:s.root (4*p+i.val)≠0):dropL s p (pre++[i])=dropL s p pre++[rq p i]:=by simp[dropL,oe,h]
theorem bA(s:ASt)(p:Nat)(pre:List (Fin 4))(i:Fin 4)(h:s.root (4*p+i.val)=0):dropL s p (pre++[i])=dropL s p pre:=by simp[dropL,oe,h]
set_option maxHeartbeats 400000 in
theorem dropPool_any(b:Nat)(s:ASt)(o:Int)(F:List Ab):
 Fn prog 387 [.pointer (some ⟨b,0,none⟩),.int .i64 o] (asA b s::F) λv l'=> ∃sl cs,v= .tuple #[sl,.int .i64 (dropP s o).2.1]/\OwnSl 3 1 sl (dropP s o).1.length (dropP s o).1 cs/\l'=asA b (dropP s o).2.2::(cs++F):=by
 refine AO func387 ntmps387 λE=>?_;refine Hj λb2=>?_;cases hq:atO s o with
 |none=>refine Bc (AK rfl rfl (λl hl=>Nh b s o (-1) (by simp[Up,hq]) l (hl _ (by exact BO)))) ?_;refine Hj λb6=>?_;refine AU [] (asA b s::F) rfl (l':=asA b s::F) (by exact AR) (by exact A7) (by exact AR) ⟨_,[],by simp only[Iw,dropP,hq];rfl,by simp only[dropP,hq];exact OwnSl.nil _ _,by simp[dropP,hq]⟩
 |some p=>
  have hp:=eb s o p hq;refine Bc (AK rfl rfl (λl hl=>Nh b s o p (by simp[Up,hq]) l (hl _ (by exact BO)))) ?_;refine Hj λb6=>?_;refine Hj λb7=>?_;refine AS (Az rfl rfl (MJ p _)) ?_;rintro v l' ⟨B,hB,rfl,rfl⟩;refine gz ?_;refine CU (α:=Fin 4) (ps:=[21,22]) (lb:=[.pointer (some ⟨B,0,none⟩)]) rfl (KI B p hp) (λ_=>rfl) rfl
   (λpre l=> ∃v cs,OwnSl 3 1 v (dropL s p pre).length (dropL s p pre) cs/\l=[(B,.cells #[.int .i64 (p:Nat)] 3 (0,0)),(b6,.cells #[.int .i64 (p:Nat)] 3 (0,0)),(b2,.cells #[.pointer (some ⟨b,0,none⟩)] 158 (0,0)),(b7,.cells #[v] 40 (0,0)),asA b s]++cs)
   (λc pre l=>False)
   _ F (λpre l X _ h=>by obtain⟨v,cs,_,rfl⟩:=h;exact List.Mem.head _) (by exact AR) ⟨_,[],OwnSl.nil _ _,rfl⟩ ?_ ?_ ?_
  ·rintro E r0 rec pre y l' T ⟨fn,tmps,D,rfl⟩ hT ⟨v,cs,hown,rfl⟩ hsp;have hy4:=y.isLt;have qr:=s.c_root p y.val hp hy4;simp only[Du,Ad,Ag];refine gz ?_;refine Cp (.there (.there (.there (.there (.there (Fa _ _ _ _ _)))))) ?_;refine gz ?_;refine Ce [] 10 _ ?_ (hR:=(λ_ h=>h));refine pz ?_;by_cases hr:s.root (4*p+y.val)=0
   ·refine gz ?_;refine B9 _ (.refl) ⟨v,cs,?_,rfl⟩;rw[bA s p pre y hr];exact hown
   ·refine gz ?_;refine AS (JL rfl rfl) ?_;rintro _ _ ⟨bl,_,rfl,rfl⟩;refine Bk (Keep.of_perm (Ay [(bl,.cells (toArray [.int .i64 ((4*p+y.val:Nat):Int)]) 3 (0,0)),(B,.cells #[.int .i64 (p:Nat)] 3 (0,0)),(b6,.cells #[.int .i64 (p:Nat)] 3 (0,0)),(b2,.cells #[.pointer (some ⟨b,0,none⟩)] 158 (0,0)),(b7,.cells #[v] 40 (0,0)),asA b s] cs _)) ?_;have hlen:(dropL s p pre).length<=4:=BW (dropL_len s p pre) (by have h1:=List.IsPrefix.length_le hsp;have h2:=nums_len p;simp at h1;omega);apply db
    ·apply Gk (xs:=dropL s p pre) (news:=[.int .i64 ((4*p+y.val:Nat):Int)]) (zs:=[.int .i64 0])
     ·rfl
     ·rfl
     ·rfl
     ·exact hown
     ·exact Aa _ Ak
     ·intro j u hj;simpa using hj
     ·rfl
     ·simp[Value.oneCell']
     ·unfold maxLen;omega
     ·omega
    ·rfl
    ·rfl
    ·rfl
    rintro v' _ ⟨cs',hown',rfl⟩;have hv1:v'.oneCell'=true:=hown'.one;refine Bk (Keep.of_perm (Ay cs' [(bl,.cells (toArray [.int .i64 ((4*p+y.val:Nat):Int)]) 3 (0,0)),(B,.cells #[.int .i64 (p:Nat)] 3 (0,0)),(b6,.cells #[.int .i64 (p:Nat)] 3 (0,0)),(b2,.cells #[.pointer (some ⟨b,0,none⟩)] 158 (0,0)),(b7,.cells #[v] 40 (0,0)),asA b s] _)) ?_;simp only[Ad,Ag];refine gz ?_;refine B9 _ (.drop .refl) ⟨v',cs',?_,rfl⟩;rw[fu s p pre y hr,Ah];exact hown'
  ·rintro D xs l' rfl ⟨v,cs,hown,rfl⟩;simp only[Ad,Ag];refine gz ?_;refine Ce [6] 7 ([(b6,.cells #[.int .i64 (p:Nat)] 3 (0,0)),(b2,.cells #[.pointer (some ⟨b,0,none⟩)] 158 (0,0))]) ?_;refine pz ?_;apply Mu
   ·apply Ee (cs:=s.cells)
    ·rfl
    ·rfl
    ·rfl
    ·simp[Value.oneCell']
    ·exact Dw
    ·rw[s.cells_size];omega
   ·rfl
   ·rfl
   ·rintro _ _ ⟨rfl,rfl⟩;exact(BZ (by exact K5))
   rintro _ _ ⟨rfl,rfl⟩;rw[DM,s.s_drop p hp];refine pz ?_;refine gz ?_;refine AU [D] (asA b (s.drop p)::(cs++F)) rfl (l':=asA b (s.drop p)::(cs++F)) (by exact AR) (by exact A7) .refl ⟨v,cs,by simp[Iw,dropP,hq],by simp only[dropP,hq];exact hown,by simp[dropP,hq]⟩
  ·rintro D c pre l' hsp h;exact h.elim
end Go.Proofs.YtlkgekpmileobaaGreat.As
namespace Go.Proofs.YtlkgekpmileobaaGreat
open Tryz
open List(toArray)
open Go.RowKit
set_option maxRecDepth 20000
variable{G L l l0:List Ab}{Γ:List Ab->List Ab}{p:RP}{s:RL}{F C k b:Nat}{vs:List Value}
abbrev JW(x:Int):Prop:=0<=x/\x<18446744073709551616
abbrev Ba(x:Int):Value:= .int .u64 x
abbrev So(gb:Nat)(W:List Int):Ab:=(gb,.cells (toArray (W.map Ba)) 255 (0,0))
def rr(b F:Nat)(W:List Int)(lq:List Ab):Prop:= ∃gb,1<=F/\F<=64/\W.length=F*8/\(∀w,w∈W->JW w)/\lq=[NW b gb F,So gb W]
theorem Lf:JW 0:=⟨by decide,by decide⟩
class TW(t:Th.ThT):Prop where
 out:JW t.va/\JW t.vl
structure KT where
 A:Ar.ArT
 H:HS
 N:As.ASt
 T:Th.TL
 Q:Nat->List Int
 E:En.DE
 W:List Int
 K:List LW
 U:List Int
variable{S S':KT}
class IsK(F C k:outParam Nat)(S:KT)(p:RP)(s:RL):Prop where
 mem:rr p.m F S.W s.M
 co:IsCos p.c S.K s.C
 kl:S.K.length=C
 ar:Ar.IsA p.a S.A s.A
 an:S.A.n=F
 rad:jS S.A
 ho:IsH p.h S.H s.H
 inv: ∃m,m+k<=900/\InvH S.H m
 giv: ∀n,n<32->0<=S.N.given n/\S.N.given n+k<=900
 th:Th.IsX p.t S.T s.T
 tl:S.T.length+k<=900
 tw: ∀t,t∈S.T->TW t/\Th.mayH t=true
 qu:Qu.IsQ p.q S.Q s.Q
 ql: ∀n,n<8->(S.Q n).length+k<=900
 en:En.IsE p.e S.E s.E
 el: ∀x,x∈S.E->x.2.1.length+k<=900
 eo: ∀t,En.OneAt S.E t
 ul:S.U.length=C
 cu:OwnSl 3 1 p.v C (S.U.map CA) s.V
 c1:1<=C/\C<=3
def Av(b:Nat)(p:RP)(s:RL)(S:KT)(G:List Ab):List Ab:=Co b p::As.asA p.n S.N::(s.M++(s.C++(s.A++(s.H++(s.T++(s.Q++(s.E++(s.V++G))))))))
theorem IsK.mono{m:Nat}(h:IsK F C k S p s)(hm:m<=k):IsK F C m S p s:=
 {h with inv:=let⟨n,h1,h2⟩:=h.inv;⟨n,Af,h2⟩,giv:=λn hn=>by have:=h.giv n hn;omega,tl:=by have:=h.tl;omega,ql:=λn hn=>by have:=h.ql n hn;omega,el:=λx hx=>by have:=h.el x hx;omega}
def Tail(L G:List Ab):Prop:= ∃X,L=X++G
theorem Tail.nil:Tail G G:=⟨[],rfl⟩
theorem Tail.step(X:List Ab)(h:Tail L G):Tail (X++L) G:=by obtain⟨Y,rfl⟩:=h;exact⟨X++Y,by simp⟩
theorem Tail.cons{c:Ab}(h:Tail L G):Tail (c::L) G:=h.step [c]
theorem Tail.trans{M:List Ab}(h:Tail L M)(h2:Tail M G):Tail L G:=by obtain⟨Y,rfl⟩:=h;exact h2.step Y
inductive Fr1(l0:List Ab):List Ab->(List Ab->List Ab)->Prop
 |nil:Fr1 l0 l0 λx=>x
 |cons {c:Ab} {l:List Ab} {Γ:List Ab->List Ab}:Fr1 l0 l Γ->Fr1 l0 (c::l) λx=>c::Γ x
theorem Fr1.eq(h:Fr1 l0 l Γ): ∃A,l=A++l0/\ ∀x,Γ x=A++x:=by
 induction h with
 |nil=>exact⟨[],rfl,λ_=>rfl⟩
 |cons _ ih=>obtain⟨A,h1,h2⟩:=ih;exact⟨_::A,by rw[h1];rfl,λx=>BM _ (h2 x)⟩
def KK(F C b:Nat)(p:RP)(k:Nat)(x:Value)(S:KT)(G:List Ab):Value->List Ab->Prop:=λv l'=>v=x/\ ∃s L,IsK F C k S p s/\Tail L G/\l'=Av b p s S L
class EK(P:Program)(F C b:Nat)(p:RP)(f:Nat)(vs:List Value)(k:Nat)(S:KT)(k':outParam Nat)(x:outParam Value)(S':outParam KT):Prop where
 out: ∀s G,IsK F C k S p s->Fn P f vs (Av b p s S G) (KK F C b p k' x S' G)
theorem EF(b:Nat)(p:RP)(s:RL)(S:KT)(A G:List Ab):(A++Av b p s S G).Perm (Av b p s S (A++G)):=by unfold Av;exact Cc
theorem RI(b:Nat)(p:RP)(s:RL)(S:KT)(X A G:List Ab):(Av b p s S (X++(A++G))).Perm (A++Av b p s S (X++G)):=by unfold Av;exact Cc
section
theorem mG(h: ∀c,c∈Av b p s S G->c∈l): ∀c,c∈G->c∈l:=λc hc=>h c (by unfold Av;simp[hc])
theorem mR(h: ∀c,c∈Av b p s S G->c∈l):Co b p∈l:=h _ (.head _)
theorem mN(h: ∀c,c∈Av b p s S G->c∈l):As.asA p.n S.N∈l:=h _ (.tail _ (.head _))
theorem mM(h: ∀c,c∈Av b p s S G->c∈l): ∀c,c∈s.M->c∈l:=λc hc=>h c (by unfold Av;simp[hc])
theorem mC(h: ∀c,c∈Av b p s S G->c∈l): ∀c,c∈s.C->c∈l:=λc hc=>h c (by unfold Av;simp[hc])
theorem mA(h: ∀c,c∈Av b p s S G->c∈l): ∀c,c∈s.A->c∈l:=λc hc=>h c (by unfold Av;simp[hc])
theorem mH(h: ∀c,c∈Av b p s S G->c∈l): ∀c,c∈s.H->c∈l:=λc hc=>h c (by unfold Av;simp[hc])
theorem mT(h: ∀c,c∈Av b p s S G->c∈l): ∀c,c∈s.T->c∈l:=λc hc=>h c (by unfold Av;simp[hc])
theorem mQ(h: ∀c,c∈Av b p s S G->c∈l): ∀c,c∈s.Q->c∈l:=λc hc=>h c (by unfold Av;simp[hc])
theorem mE(h: ∀c,c∈Av b p s S G->c∈l): ∀c,c∈s.E->c∈l:=λc hc=>h c (by unfold Av;simp[hc])
theorem mV(h: ∀c,c∈Av b p s S G->c∈l): ∀c,c∈s.V->c∈l:=λc hc=>h c (by unfold Av;simp[hc])
end
theorem Zr(h:Fr1 l0 l Γ:=by(repeat(first|exact .nil|apply Fr1.cons))):Fr1 l0 l Γ:=h
theorem sN(h:Tail L G:=by(repeat(first|assumption|exact Tail.nil|apply Tail.cons|(refine Tail.trans (by assumption) ?_)))):Tail L G:=h
theorem uM(h:S=S':=by first|rfl|(subst_vars;rfl)|(subst_vars;simp[*];done)|(simp_all;done)):S=S':=h
section
variable{P:Program}{ro:Option Nat}{N:Nat}{E:World}{ops:Array Oper}{Q:Exit->Act->World->Prop}{rest:List Oper}{fr:Fr}{ds:List Deferred}{x0:Value}{d f:Nat}{x:Operand}{xs:List Operand}{at_:Array TypeId}{ty:TypeId}{pos:String}{aft:Array Edge}{g:Option (Nat×Bool)}{k':Nat}
theorem EK.on(q:EK P F C b p f vs k S k' x0 S')(hK:IsK F C k S p s)(hF:Fr1 (Av b p s S G) l Γ):Fn P f vs l λv l'=>v=x0/\ ∃s' L,IsK F C k' S' p s'/\Tail L G/\l'=Γ (Av b p s' S' L):=by
 obtain⟨A,rfl,hA⟩:=hF.eq;refine Fn.re (.of_perm (EF b p s S A G)) (q.out s (A++G) hK) λv l' ⟨h1,s',L,h2,⟨X,h3⟩,h4⟩=>⟨Γ (Av b p s' S' (X++G)),?_,h1,s',_,h2,⟨X,rfl⟩,rfl⟩
 rw[h4,h3,hA];exact .of_perm (RI ..)
theorem Fy(hk: ∀S1 s' L,S1=S'->IsK F C k' S1 p s'->Tail L G->Co b p∈Av b p s' S1 L->Df P ro N E ops Q rest ((d,x0)::fr) ds (Γ (Av b p s' S1 L)))(hx:ev fr x=some (.func (.func f) #[] #[]):=by rfl)(hy:PX fr xs=some vs:=by rfl)(hF:Fr1 (Av b p s S G) l Γ:=by exact Zr)(c:EN P f:=by infer_instance)(hK:IsK F C k S p s:=by infer_instance)(q:EK P F C b p f vs k S k' x0 S':=by infer_instance)(hw:Pz ops fr g=some true:=by rfl)(hb:Nat.blt d N=true:=by rfl):Df P ro N E ops Q (⟨some d,.call {callee:= .value x,args:=xs.toArray,argTypes:=at_},ty,pos,aft,g⟩::rest) fr ds l:=
 It (Az hx hy (q.on hK hF)) hw rfl hb λv l' ⟨h1,s',L,h2,h3,h4⟩=>by rw[h1,h4];exact hk S' s' L rfl h2 h3 (mR λ_ h=>h)
variable{tbl:List (List Nat)}{sp:Fd}{pl:List BC}{i:Nat}{gg:Bool}
theorem Lj(hk: ∀S1 s' L,S1=S'->IsK F C k' S1 p s'->Tail L G->Co b p∈Av b p s' S1 L->MP P ro N E ops Q tbl false sp pl ((d,x0)::fr) ds (Γ (Av b p s' S1 L)))(hx:ev fr x=some (.func (.func f) #[] #[]):=by rfl)(hy:PX fr xs=some vs:=by rfl)(hF:Fr1 (Av b p s S G) l Γ:=by exact Zr)(c:EN P f:=by infer_instance)(hK:IsK F C k S p s:=by infer_instance)(q:EK P F C b p f vs k S k' x0 S':=by infer_instance)(hb:Nat.blt d N=true:=by rfl)(ha:(sp.map Prod.fst).all (λq=>Ff tbl i q)=true:=by kernel_rfl):MP P ro N E ops Q tbl gg sp ((i,false,⟨some d,.call {callee:= .value x,args:=xs.toArray,argTypes:=at_},ty,pos,aft,none⟩)::pl) fr ds l:=
 Ju (Az hx hy (q.on hK hF)) (λv l' ⟨h1,s',L,h2,h3,h4⟩=>by rw[h1,h4];exact hk S' s' L rfl h2 h3 (mR λ_ h=>h)) rfl rfl hb ha
theorem A4{fn:Func}{rs:List ResultVar}{S1:KT}{k1:Nat}{y:Value}(hr:fn.results=rs.toArray:=by rfl)(h:ResS P fr l rs vs:=by exact A7)(hF:Fr1 (Av b p s S1 L) l Γ:=by exact Zr)(hK:IsK F C k1 S1 p s:=by infer_instance)(ht:Tail L G:=by exact sN)(hx:Iw vs=y:=by exact uJ)(hk:k<=k1:=by omega)(hS:S1=S:=by exact uM):CH N E (bodyPostM Fence.wide 0 P fn (RK E (KK F C b p k y S G))) .ret fr [] l:=by subst hS hx;obtain⟨A,rfl,_⟩:=hF.eq;exact AU [] _ hr .refl h (Keep.dropL' A .refl) ⟨rfl,s,L,hK.mono hk,ht,rfl⟩
end
def MY(W:List Int)(a:Int):Int:=if ¬a%8=0 then 4 else if a>=(W.length:Int)*8 then 3 else 0
def Np(W:List Int)(a:Int):Int×Int:=if MY W a=0 then(W.getD (a/8).toNat 0,0) else(0,MY W a)
def bD(W:List Int)(a v:Int):Int×List Int:=if MY W a=0 then(0,W.set (a/8).toNat v) else(MY W a,W)
abbrev nF(W:List Int):Int:=(W.length/8:Nat)
def jV(W:List Int)(f n:Int):Int×List Int:=if f<0\/f>=nF W\/n<0\/n>nF W-f then(3,W) else(0,W.take (8*f.toNat)++(List.replicate (8*n.toNat) 0++W.drop (8*(f.toNat+n.toNat))))
structure RJ where
 vd:Bool
 lf:Bool
 rd:Bool
 wr:Bool
 fr:Int
deriving DecidableEq
abbrev RM(e:RJ):List Value:=[.bool e.vd,.bool e.lf,.bool e.rd,.bool e.wr,.int .i64 e.fr]
abbrev XU:RJ:=⟨false,false,false,false,0⟩
def SF(e:RJ):Bool:=if e.vd=false then decide (e=XU) else if e.fr<0\/e.fr>=64 then false else e.lf==(e.rd||e.wr)
def OK(e:RJ):Int×Int:=if SF e=true then((e.vd.toNat+2*e.lf.toNat+4*e.rd.toNat+8*e.wr.toNat:Nat)+256*e.fr,0) else(0,5)
def bE(n:Nat):RJ:=⟨n.testBit 0,n.testBit 1,n.testBit 2,n.testBit 3,(n/256%64:Nat)⟩
def JY(w:Int):RJ×Int:=if w.toNat/16%16=0/\w.toNat/16384=0/\SF (bE w.toNat)=true then(bE w.toNat,0) else(XU,5)
def GO(W:List Int)(a:Int)(leaf:Bool):RJ×Int:=
 if ¬(Np W a).2=0 then(XU,5) else if ¬(JY (Np W a).1).2=0 then(XU,5)
 else if(JY (Np W a).1).1.vd=false then(XU,6) else if ¬(JY (Np W a).1).1.lf=leaf\/(JY (Np W a).1).1.fr>=nF W then(XU,5) else((JY (Np W a).1).1,0)
def jW(page level:Int):Int:=if page<0\/page>=512\/level<1\/level>3 then-1 else if level=1 then page/64%8 else if level=2 then page/8%8 else page%8
abbrev FF(f page level:Int):Int:=f*64+8*jW page level
def LF(W:List Int)(root page:Int):List (Int×Int×Int):=
 (1,FF root page 1,0)::
 if ¬(GO W (FF root page 1) false).2=0 then[(2,0,(GO W (FF root page 1) false).2)] else
 (2,FF (GO W (FF root page 1) false).1.fr page 2,0)::
 if ¬(GO W (FF (GO W (FF root page 1) false).1.fr page 2) false).2=0 then[(3,0,(GO W (FF (GO W (FF root page 1) false).1.fr page 2) false).2)] else
 [(3,FF (GO W (FF (GO W (FF root page 1) false).1.fr page 2) false).1.fr page 3,0)]
def RN(W:List Int)(root page level:Int):Int:=if root<0\/root>=nF W\/page<0\/page>=512\/level<1\/level>3 then 3 else 0
def O5(W:List Int)(root page level:Int):Int×Int:=
 if RN W root page level≠0 then(0,3) else
 match(LF W root page).find? λx=>decide (x.1=level)||!decide (x.2.2=0) with
 |some x=>x.2
 |none=>(0,0)
def MZ(W:List Int)(root page:Int):RJ×Int:=if ¬(O5 W root page 3).2=0 then(XU,(O5 W root page 3).2) else GO W (O5 W root page 3).1 true
def KL(T:J7):List Nat:=(List.range 8).filter λk=>!decide ((T.w k).sp=0)
def RO(T:J7)(sp pg:Int):Lt×Bool:=match(KL T).find? λk=>decide ((T.w k).sp=sp)&&decide ((T.w k).pg=pg) with
 |some k=>(T.w k,true)
 |none=>(O4,false)
def OM(T:J7)(k:Nat)(x:Lt):J7:={T with w:=Qu.upd T.w k x}
def SG(x:Lt):Prop:=x.sp<1\/x.pg<0\/x.pg>=512\/x.fr<0\/x.fr>=64\/(x.rd=false/\x.wr=false)
instance(x:Lt):Decidable (SG x):=by unfold SG;exact inferInstance
def XV(T:J7)(x:Lt):Option Nat:=
 let s:=(x.pg%4).toNat
 if(T.w (2*s)).sp=x.sp/\(T.w (2*s)).pg=x.pg then some (2*s) else if(T.w (2*s+1)).sp=x.sp/\(T.w (2*s+1)).pg=x.pg then some (2*s+1)
 else if(T.w (2*s)).sp=0 then some (2*s) else if(T.w (2*s+1)).sp=0 then some (2*s+1) else none
def Jp(T:J7)(x:Lt):Int×J7:=if SG x then(2,T) else match XV T x with
 |some k=>(0,OM T k x)
 |none=>(0,{w:=Qu.upd T.w (2*(x.pg%4).toNat+(T.d (x.pg%4).toNat).toNat) x,d:=Qu.upd T.d (x.pg%4).toNat ((T.d (x.pg%4).toNat+1)%2)})
def LH(T:J7)(st wy:Int):Bool×J7:=if st<0\/st>=4\/wy<0\/wy>=2 then(false,T) else(!decide ((T.w (2*st.toNat+wy.toNat)).sp=0),OM T (2*st.toNat+wy.toNat) O4)
def jX(T:J7)(f:Lt->Bool)(k:Nat):Bool:=decide (k<8)&&!decide ((T.w k).sp=0)&&f (T.w k)
def NM(T:J7)(f:Lt->Bool):J7:={T with w:=λk=>if jX T f k=true then O4 else T.w k}
def LZ(T:J7)(f:Lt->Bool):Nat:=((List.range 8).filter (jX T f)).length
abbrev Jk(sp pg:Int):Lt->Bool:=λx=>decide (x.sp=sp)&&decide (x.pg=pg)
abbrev PF(sp:Int):Lt->Bool:=λx=>decide (x.sp=sp)
abbrev N2(K:List LW)(n:Int):Int:=if n<0\/n>=K.length then 3 else 0
def ru:LW:=⟨0,0,⟨λ_=>O4,λ_=>0⟩⟩
abbrev P2(K:List LW)(n:Int):LW:=K.getD n.toNat ru
def TK(root sp:Int):Prop:=(root= -1/\sp=0)\/(0<=root/\root<64/\1<=sp)
instance(root sp:Int):Decidable (TK root sp):=by unfold TK;exact inferInstance
def ON(K:List LW)(n root sp:Int):Int×List LW:=if ¬N2 K n=0 then(3,K) else if ¬TK root sp then(2,K) else(0,K.set n.toNat {P2 K n with ro:=root,sp:=sp})
def NN(K:List LW)(n:Int):Int×Int×Int:=if ¬N2 K n=0 then(0,0,3) else((P2 K n).ro,(P2 K n).sp,0)
def sO(W:List Int)(c:LW)(pg:Int):Lt:=⟨c.sp,pg,(MZ W c.ro pg).1.fr,(MZ W c.ro pg).1.rd,(MZ W c.ro pg).1.wr⟩
def DD(K:List LW)(W:List Int)(n pg:Int):(Lt×Bool×Int)×List LW:=
 if ¬N2 K n=0 then((O4,false,3),K) else if pg<0\/pg>=512 then((O4,false,3),K) else if(P2 K n).ro<0 then((O4,false,19),K)
 else if(RO (P2 K n).tb (P2 K n).sp pg).2=true then(((RO (P2 K n).tb (P2 K n).sp pg).1,true,0),K)
 else if ¬(MZ W (P2 K n).ro pg).2=0 then((O4,false,(MZ W (P2 K n).ro pg).2),K)
 else((sO W (P2 K n) pg,false,0),K.set n.toNat {P2 K n with tb:=(Jp (P2 K n).tb (sO W (P2 K n) pg)).2})
def jY(K:List LW)(n st wy:Int):Bool×List LW:=if ¬N2 K n=0 then(false,K) else((LH (P2 K n).tb st wy).1,K.set n.toNat {P2 K n with tb:=(LH (P2 K n).tb st wy).2})
def IN(K:List LW)(f:Lt->Bool):List LW:=K.map λc=>{c with tb:=NM c.tb f}
def Pk(K:List LW)(f:Lt->Bool):Nat:=(K.map λc=>LZ c.tb f).sum
end Go.Proofs.YtlkgekpmileobaaGreat
namespace Go.Proofs.YtlkgekpmileobaaGreat.Ar
open Tryz
open List(toArray)
open Go.RowKit
set_option maxRecDepth 20000
set_option maxHeartbeats 400000
theorem We(v:Value)(i m:Nat)(A W B:List Value)(hA:A.length=i*9)(hW:W.length=9)(hB:B.length=m*9)(hB1: ∀u∈B,u.oneCell'=true)(cs F:List Ab)(h:OwnSl 100 9 v (i+m+1) (A++W++B) cs)(hn:i+m<=90000):
 Fn prog 389 [v,.int .i64 (i:Nat),.int .i64 ((i:Int)+1)] (cs++F) λr l'=> ∃cs',OwnSl 100 9 r (i+m) (A++B) cs'/\l'=cs'++F:=by
 obtain⟨hlen,h⟩:=h;rcases h with⟨rfl,h0,rfl⟩|⟨gb,cap,sp,rfl,rfl,hnc,hcm,hcl⟩
 ·omega
 have hcl':sp.length+(i+m+1)*9=cap*9:=by rw[Ah,hlen] at hcl;omega
 obtain⟨cur,hcur⟩: ∃cur,A++W++B++sp=cur:=⟨_,rfl⟩
 have hcurl:cur.length=cap*9:=by rw[<-hcur];exact hcl
 obtain⟨off',hoff⟩: ∃o,(if cap=i+1 then 0 else 0+(i+1)*9)=o:=⟨_,rfl⟩
 have htk:cur.take (i*9)=A:=by rw[<-hcur,Al,Al,F8 hA]
 obtain⟨T,hT⟩: ∃T,cur.drop (i*9+m*9)=T:=⟨_,rfl⟩
 have hTl:T.length=cap*9-(i*9+m*9):=by rw[<-hT,DK,hcurl]
 rw[hcur];refine AO func389 ntmps389 λE=>?_;simp only[Ad,Ag];refine gz ?_;refine Bc (Fu (l0:=i) (h0:=i+1) (m0:=i+m+1) rfl (.some rfl Af rfl) (.some rfl Af Af) (.some rfl Af rfl) (λ_=>rfl) Af Af Af rfl rfl rfl) ?_;refine gz ?_;refine Ce [6] 8 ([]) ?_;refine pz ?_;apply D7
 ·exact Fu (l0:=0) (h0:=i) (m0:=cap) (off':=0) (n':=i) (c':=cap) rfl (.none) (.some rfl Af rfl) (.none) (by simp) Af Af Af (by simp) Af Af
 ·rfl
 ·rfl
 ·rfl
 refine pz ?_;apply D7
 ·exact Fu (l0:=i+1) (h0:=i+m+1) (m0:=cap) (off':=off') (n':=m) rfl (.some rfl Af Af) (.none) (.none) (by simp) Af Af Af hoff Af rfl
 ·rfl
 ·rfl
 ·rfl
 refine pz ?_;apply CE
 ·apply S7 (news:=B) (cl:=toArray cur) (cur:=toArray cur)
  ·rfl
  ·rfl
  ·exact Ak
  ·intro j u hj;have hjl:=(Ax.1 hj).1;rw[<-hoff,Ac Af,AE,<-hcur,AC (by simp;omega),AP (by simp;omega),show 0+(i+1)*9+j-(A++W).length=j by rw[Ah,hA,hW];omega];exact hj
  ·exact hB
  ·exact hB1
  ·omega
  ·rw[hB];simp only[Bm];omega
 ·rfl
 ·rfl
 ·rfl
 ·intro _ _ _ c hc;cases hc
 rintro _ _ ⟨rfl,rfl⟩;have e1:(toArray cur).toList.take (i*9)++B++(toArray cur).toList.drop (i*9+B.length)=A++B++T:=by rw[hB];show cur.take (i*9)++B++cur.drop (i*9+m*9)=_;rw[htk,hT]
 rw[e1];refine pz ?_;refine gz ?_;refine Bc (Fu (l0:=i+m) (h0:=i+m+1) (m0:=cap) (off':=i*9+m*9) (n':=1) rfl (.some rfl Af rfl) (.some rfl Af rfl) (.none) (by simp) Af Af Af (by rw[Ac Af];omega) Af rfl) ?_;refine gz ?_;have hABl:(A++B).length=i*9+m*9:=by rw[Ah];omega
 have eS:CO (toArray (A++B++T)) (i*9+m*9) (List.replicate 1 iL).flatten=toArray (A++B++(iL++T.drop 9)):=by rw[<-hABl];have:=setFrom_mid (List.replicate 1 iL).flatten (A++B) (T.take 9) (T.drop 9) (by rw[BU];show 9=_;omega);rw[Al (A++B),Cb] at this;rw[this];show _=toArray (A++B++(iL++List.drop 9 T));rw[Al (A++B)];rfl
 apply LV
 ·apply YZ (zs:=iL) (cs:=toArray (A++B++T))
  ·rfl
  ·omega
  ·simp[Value.oneCell']
  ·rw[eS];exact .here
  ·simp;omega
 ·rfl
 ·rfl
 rintro _ _ ⟨rfl,rfl⟩;refine gz ?_;refine By [] rfl .refl (by exact A7) ⟨[(gb,_)],⟨Af,.inr ⟨gb,cap,iL++T.drop 9,rfl,rfl,Af,hcm,?_⟩⟩,rfl⟩;rw[Ah,hABl,Ah,DK];show i*9+m*9+(9+(T.length-9))=_;omega
theorem XW(X:List Ab)(v:Value)(i m:Nat)(A W B:List Value)(hA:A.length=i*9)(hW:W.length=9)(hB:B.length=m*9)(hB1: ∀u∈B,u.oneCell'=true)(cs F:List Ab)(h:OwnSl 100 9 v (i+m+1) (A++W++B) cs)(hn:i+m<=90000):
 Fn prog 389 [v,.int .i64 (i:Nat),.int .i64 ((i:Int)+1)] (X++(cs++F)) λr l'=> ∃cs',OwnSl 100 9 r (i+m) (A++B) cs'/\l'=X++(cs'++F):=
 Fn.re (Keep.in_mid X cs F) (We v i m A W B hA hW hB hB1 cs (X++F) h hn) λr l' ⟨c2,h2,e⟩=>⟨X++(c2++F),by rw[e];exact Keep.in_mid c2 X F,c2,h2,rfl⟩
theorem drop_any(b:Nat)(S:ArT)(lq:List Ab)(hA:IsA b S lq)(id:Int)(F:List Ab):
 Fn prog 367 [.pointer (some ⟨b,0,none⟩),.int .i64 id] (lq++F) λv l'=>v= .int .i64 (dropD S id).1/\ ∃lq',IsA b (dropD S id).2 lq'/\l'=lq'++F:=by
 have hA':=hA;have hlen:=hA.ok.len;have hOk:=jM hA.ok id;obtain⟨hok,v,cs,rfl,ho⟩:=hA;have cl:=Ti S.n S.g v;refine AO func367 ntmps367 λE=>?_;simp only[Ad,Ag];refine Aj ?_;refine Bc (AK rfl rfl λl2 hl=>II b S _ hA' id l2 (λc hc=>hl _ (XQ hc))) ?_;unfold dropD at hOk⊢;cases hk:atO S.os id with
 |none=>rw[MF hk];refine Aj ?_;exact A8 .refl ⟨rfl,_,hA',rfl⟩
 |some k=>rw[MG hk];rw[hk] at hOk;obtain⟨o,ho1,_⟩:=ME hk;have hkl:=(Ax.1 ho1).1;have ho':=ho;rw[bj ho1,show S.os.length=k+(S.os.length-k-1)+1 by omega] at ho';refine Aj ?_;refine AS (Az rfl rfl (XW [Q8 b S.n S.g v] v k (S.os.length-k-1) (ocs (S.os.take k)) (obC o) (ocs (S.os.drop (k+1))) (by rw[MD,BU];omega) rfl (by rw[MD,DK];omega) (Za _) cs F ho' Af)) ?_;rintro v' _ ⟨c2,ho2,rfl⟩;have hv1:v'.oneCell'=true:=ho2.one;simp only[Ad,Ag];refine Aj ?_;refine LV (C7 (b:=b) (off:=65) (cs:=toArray (VH S.n S.g v)) rfl rfl hv1 (by rw[VI];exact Dw) (by rw[Bm,Uo];omega)) rfl rfl ?_;rintro _ _ ⟨rfl,rfl⟩;refine Aj ?_;refine A8 .refl ⟨rfl,Q8 b S.n S.g v'::c2,⟨hOk,v',c2,rfl,?_⟩,rfl⟩;show OwnSl 100 9 v' (S.os.eraseIdx k).length (ocs (S.os.eraseIdx k)) c2;rw[bi _ _ hkl,Lv,Ah,BU,DK,show min k S.os.length+(S.os.length-(k+1))=k+(S.os.length-k-1) by omega];exact ho2
theorem mark_any(b:Nat)(S:ArT)(lq:List Ab)(hA:IsA b S lq)(id m:Int)(F:List Ab):
 Fn prog 286 [.pointer (some ⟨b,0,none⟩),.int .i64 id,.int .i64 m] (lq++F) λv l'=>v= .int .i64 (markD' S id m).1/\ ∃lq',IsA b (markD' S id m).2 lq'/\l'=lq'++F:=by
 have hA':=hA;have hlen:=hA.ok.len;have hOk:=jN hA.ok id m;obtain⟨hok,v,cs,rfl,ho⟩:=hA;have cl:=Ti S.n S.g v;refine AO func286 ntmps286 λE=>?_;simp only[Ad,Ag];refine Aj ?_;refine Bc (AK rfl rfl λl2 hl=>II b S _ hA' id l2 (λc hc=>hl _ (XQ hc))) ?_;cases hk:atO S.os id with
 |none=>rw[MF hk];refine Aj ?_;exact By [] rfl .refl (by exact A7) ⟨by rw[TH hk];rfl,_,by rw[TH hk];exact hA',rfl⟩
 |some k=>
  rw[MG hk];obtain⟨o,ho1,_⟩:=ME hk;have hkl:=(Ax.1 ho1).1;rcases ho.2 with⟨_,h0,_⟩|⟨gb,cap,sp,rfl,rfl,hnc,hcm,hcl⟩
  ·omega
  have c1:(toArray (ocs S.os++sp))[k*9+1]?=some (.int .i64 o.kd):=NY ho1 sp 1 Af;have c4:(toArray (ocs S.os++sp))[k*9+4]?=some (.int .i64 o.fr):=NY ho1 sp 4 Af;simp only[Ad,Ag];by_cases h1:o.kd=1
  ·by_cases h2:m<0
   ·refine Aj ?_;have e:=fl (m:=m) hk ho1 h1 (.inl h2);exact By [] rfl .refl (by exact A7) ⟨by rw[e];rfl,_,by rw[e];exact hA',rfl⟩
   by_cases h3:m>o.fr
   ·refine Aj ?_;have e:=fl hk ho1 h1 (.inr h3);exact By [] rfl .refl (by exact A7) ⟨by rw[e];rfl,_,by rw[e];exact hA',rfl⟩
   refine Aj ?_;have hs:=Qh (o':=Zm o m) ho1 sp 5 (.int .i64 m) Af rfl;refine LV (C7 (b:=gb) (off:=k*9+5) (cs:=toArray (ocs S.os++sp)) rfl rfl rfl (by rw[hs];exact Dw) (by rw[Bm,Ah,MD];omega)) rfl rfl ?_;rintro _ _ ⟨rfl,rfl⟩;refine Aj ?_;have e:=oa (m:=m) hk ho1 h1 Af;rw[e] at hOk⊢;exact A8 .refl ⟨rfl,[Q8 b S.n S.g (.slice (some ⟨gb,0,none⟩) S.os.length cap),(gb,.cells (toArray (ocs (S.os.set k (Zm o m))++sp)) 100 (0,0))],Zo hOk hnc hcm hcl,rfl⟩
  ·refine Aj ?_;have e:=n9 (m:=m) hk ho1 h1;exact By [] rfl .refl (by exact A7) ⟨by rw[e];rfl,_,by rw[e];exact hA',rfl⟩
theorem place_any(b:Nat)(S:ArT)(lq:List Ab)(hA:IsA b S lq)(id s p w:Int)(F:List Ab):
 Fn prog 296 [.pointer (some ⟨b,0,none⟩),.int .i64 id,.int .i64 s,.int .i64 p,.int .i64 w] (lq++F) λv l'=>v= .int .i64 (placeD S id s p w).1/\ ∃lq',IsA b (placeD S id s p w).2 lq'/\l'=lq'++F:=by
 have hA':=hA;have hlen:=hA.ok.len;have hOk:=fj hA.ok id s p w;obtain⟨hok,v,cs,rfl,ho⟩:=hA;have cl:=Ti S.n S.g v;refine AO func296 ntmps296 λE=>?_;simp only[Ad,Ag];refine Aj ?_;refine Bc (AK rfl rfl λl2 hl=>II b S _ hA' id l2 (λc hc=>hl _ (XQ hc))) ?_;cases hk:atO S.os id with
 |none=>
  rw[MF hk];by_cases z1:s=0<;>by_cases z2:p=0;all_goals
   refine Aj ?_;exact By [] rfl .refl (by exact A7) ⟨by rw[RE hk];rfl,_,by rw[RE hk];exact hA',rfl⟩
 |some k=>
  rw[MG hk];obtain⟨o,ho1,_⟩:=ME hk;have hkl:=(Ax.1 ho1).1;rcases ho.2 with⟨_,h0,_⟩|⟨gb,cap,sp,rfl,rfl,hnc,hcm,hcl⟩
  ·omega
  have c1:(toArray (ocs S.os++sp))[k*9+1]?=some (.int .i64 o.kd):=NY ho1 sp 1 Af;simp only[Ad,Ag];by_cases h1:o.kd=4
  case neg=>
   have e:=jO (s:=s) (p:=p) (v:=w) hk ho1 h1;by_cases z1:s=0<;>by_cases z2:p=0;all_goals
    refine Aj ?_;exact By [] rfl .refl (by exact A7) ⟨by rw[e];rfl,_,by rw[e];exact hA',rfl⟩
  have hs1:=Qh (o':={o with se:=s}) ho1 sp 6 (.int .i64 s) Af rfl;have g1:(S.os.set k {o with se:=s})[k]?=some {o with se:=s}:=by rw[EJ hkl]
  have hs2:=Qh (o':={o with se:=s,pg:=p}) g1 sp 7 (.int .i64 p) Af rfl;have g2:((S.os.set k {o with se:=s}).set k {o with se:=s,pg:=p})[k]?=some {o with se:=s,pg:=p}:=by rw[EJ (by rw[Ct];exact hkl)]
  have hs3:=Qh (o':=Zn o s p w) g2 sp 8 (.int .i64 w) Af rfl;rw[List.set_set] at hs2 hs3;rw[List.set_set] at hs3;by_cases hp:Ql s p w
  case neg=>
   have e:=jP hk ho1 h1 hp;have hN1:¬(s=0/\p=0/\w=0):=λh=>hp (.inl h);have hN2:s<1\/16777215<s\/p<0\/512<=p\/w<1\/2<w:=by
    by_cases z:s<1\/16777215<s\/p<0\/512<=p\/w<1\/2<w
    ·exact z
    ·exact absurd (.inr Af) hp
   clear hp;by_cases z1:s=0
   ·by_cases z2:p=0
    ·have z3:¬w=0:=λh=>hN1 ⟨z1,z2,h⟩;refine Aj ?_;rw[Aw z3,Ib];refine Aj ?_;exact By [] rfl .refl (by exact A7) ⟨by rw[e];rfl,_,by rw[e];exact hA',rfl⟩
    ·refine Aj ?_;exact By [] rfl .refl (by exact A7) ⟨by rw[e];rfl,_,by rw[e];exact hA',rfl⟩
   by_cases z4:s<1
   case pos=>refine Aj ?_;exact By [] rfl .refl (by exact A7) ⟨by rw[e];rfl,_,by rw[e];exact hA',rfl⟩
   by_cases z5:s>16777215
   case pos=>refine Aj ?_;exact By [] rfl .refl (by exact A7) ⟨by rw[e];rfl,_,by rw[e];exact hA',rfl⟩
   by_cases z6:p<0
   case pos=>refine Aj ?_;exact By [] rfl .refl (by exact A7) ⟨by rw[e];rfl,_,by rw[e];exact hA',rfl⟩
   by_cases z7:p>=512
   case pos=>refine Aj ?_;exact By [] rfl .refl (by exact A7) ⟨by rw[e];rfl,_,by rw[e];exact hA',rfl⟩
   by_cases z8:w<1
   case pos=>refine Aj ?_;exact By [] rfl .refl (by exact A7) ⟨by rw[e];rfl,_,by rw[e];exact hA',rfl⟩
   have z9:w>2:=by omega
   refine Aj ?_;exact By [] rfl .refl (by exact A7) ⟨by rw[e];rfl,_,by rw[e];exact hA',rfl⟩
  have e:=jQ hk ho1 h1 hp;rw[e] at hOk⊢;rcases hp with⟨z1,z2,z3⟩|z1
  case' inl=>
   refine Aj ?_;rw[At z3,Bool.not_true]
  all_goals
   refine Aj ?_;refine Ce [20,23,26] 27 ([Q8 b S.n S.g (.slice (some ⟨gb,0,none⟩) S.os.length cap)]) ?_ (hR:=(CM (.head _)));refine BI ?_;apply GH
   ·exact C7 (b:=gb) (off:=k*9+6) (cs:=toArray (ocs S.os++sp)) rfl rfl rfl (by rw[hs1];exact Dw) (by rw[Bm,Ah,MD];omega)
   ·rfl
   ·rfl
   ·rintro _ _ ⟨rfl,rfl⟩ c hc;cases hc with
    |head=>exact .head _
    |tail _ h=>cases h
   ·exact λ_ _ _ x hx ha=>CV Bv hx ha
   rintro _ _ ⟨rfl,rfl⟩;refine BI ?_;apply GH
   ·exact C7 (b:=gb) (off:=k*9+7) (cs:=toArray (ocs (S.os.set k {o with se:=s})++sp)) rfl rfl rfl (by rw[hs2];exact Dw) (by rw[Bm,Ah,MD,Ct];omega)
   ·rfl
   ·rfl
   ·rintro _ _ ⟨rfl,rfl⟩ c hc;cases hc with
    |head=>exact .head _
    |tail _ h=>cases h
   ·exact λ_ _ _ x hx ha=>CV Bv hx ha
   rintro _ _ ⟨rfl,rfl⟩;refine BI ?_;apply GH
   ·exact C7 (b:=gb) (off:=k*9+8) (cs:=toArray (ocs (S.os.set k {o with se:=s,pg:=p})++sp)) rfl rfl rfl (by rw[hs3];exact Dw) (by rw[Bm,Ah,MD,Ct];omega)
   ·rfl
   ·rfl
   ·rintro _ _ ⟨rfl,rfl⟩ c hc;cases hc with
    |head=>exact .head _
    |tail _ h=>cases h
   ·exact λ_ _ _ x hx ha=>CV Bv hx ha
   rintro _ _ ⟨rfl,rfl⟩;refine BI ?_;refine Aj ?_;exact A8 .refl ⟨rfl,[Q8 b S.n S.g (.slice (some ⟨gb,0,none⟩) S.os.length cap),(gb,.cells (toArray (ocs (S.os.set k (Zn o s p w))++sp)) 100 (0,0))],Zo hOk hnc hcm hcl,rfl⟩
end Go.Proofs.YtlkgekpmileobaaGreat.Ar
