/- Laws that the statement's proof leans on (joined out of several texts). -/
import Derived.Test.YtlkgekpmileobaaGreatGd11
set_option maxHeartbeats 4000000
set_option linter.unusedVariables false
set_option linter.unusedSimpArgs false
namespace Go.Proofs.YtlkgekpmileobaaGreat
open Tryz
open List(toArray)
open Go.RowKit
set_option maxRecDepth 20000
variable{k F C b n i N e gf r t:Nat}{S:KT}{p:RP}{s:RL}{G A T lo L cs B X Z:List Ab}{c lp a c10 c8 cB cv c5 c6 c7 c2:Ab}{x:Ce}{lb:List Value}{P:Program}{ro:Option Nat}{E:World}{v:Value}{Fm:Th.ThT->Th.ThT}{ds:List Deferred}{ty:TypeId}{pos:String}{g:Option (Nat×Bool)}{Γ:List Ab->List Ab}{ys:List Ce}{H:HS}{o:Obj}
theorem uM{l:List Ab}: ∀c,c∈([]:List Ab)->c∈l:=λ_ h=>nomatch h
theorem ry{l:List Ab}(h1:a∈l)(h2: ∀c,c∈A->c∈l): ∀c,c∈a::A->c∈l:=λc hc=>by
 rcases Ap.1 hc with rfl|hc
 ·exact h1
 ·exact h2 c hc
theorem yW{l:List Ab}(h: ∀c,c∈A->c∈l:=by(repeat(first|exact uM|(apply ry;·exact BS)))): ∀c,c∈A->c∈l:=h
structure jr(P:Program)(g:Nat)(lb:List Value)(A:List Ab)(Fm:Th.ThT->Th.ThT):Prop where
 run: ∀(x:Nat) (t:Th.ThT) (l:List Ab),(∀c,c∈A->c∈l)->Fn P g (pV x::lb) (Th.thC x t::l) λv l'=>v= .tuple #[]/\l'=Th.thC x (Fm t)::l
section
theorem uN(hK:IsK F C k S p s)(id:Int){g:Nat}[en:EN prog g](q:jr prog g lb A Fm)(hw:TW (Fm (DB S id)))(hA: ∀c,c∈A->c∈G):Fn prog 266 [pV b,.int .i64 id,.func (.func g) #[] (toArray lb)] (Aw b p s S G) (KK F C b p k (Th.thV (Fm (DB S id))) (Dw S (Fm (DB S id))) G):=by
 have mr:Cw b p∈Aw b p s S G:=mR λ_ h=>h;refine AM func266 ntmps266 λE=>?_;refine AO λb6=>?_;refine El ?_;refine Aj ?_;refine El ?_;obtain⟨t,ht⟩: ∃t,DB S id=t:=⟨_,rfl⟩
 rw[ht] at hw⊢;refine AO λb7=>?_;obtain⟨u,hu⟩: ∃u,Fm t=u:=⟨_,rfl⟩
 refine AP (nT (vs:=[pV b7]) (cs:=lb) rfl rfl (q.run b7 t _ λc hc=> .tail _ (mG (λ_ h=>h) c (hA c hc)))) ?_;rintro _ _ ⟨rfl,rfl⟩;rw[hu] at hw⊢;refine Aj ?_;refine Cn (Ck [3] 0 4) ?_;refine Cs ?_;refine LN (q:=Nv u hw) ?_;intro S1 s1 L1 hS1 hK1 hT1 mr1;refine Cs ?_;refine Aj ?_;exact A5 (h:=Cz rfl (.tail _ (.head _)) (As.LSub.of_all (n:=24) (Th.encH u) rfl) .nil)
variable{ops:Array Oper}{Q:Exit->Act->World->Prop}{rest:List Oper}{fr:Fr}{l:List Ab}{d:Nat}{x:Operand}{xs:List Operand}{at_:Array TypeId}{aft:Array Edge}
theorem Tp{id:Int}[en:EN prog gf](q:jr prog gf lb A Fm)(hw:TW (Fm (DB S id)))(hk: ∀S1 s' L,S1=Dw S (Fm (DB S id))->IsK F C k S1 p s'->Tail L G->Cw b p∈Aw b p s' S1 L->Dk prog ro N E ops Q rest ((d,Th.thV (Fm (DB S id)))::fr) ds (Γ (Aw b p s' S1 L)))
 (hx:ev fr x=some (.func (.func 266) #[] #[]):=by rfl)(hy:Qm fr xs=some [pV b,.int .i64 id,.func (.func gf) #[] (toArray lb)]:=by rfl)(hF:Fr1 (Aw b p s S G) l Γ:=by exact Z9)(hA: ∀c,c∈A->c∈Γ []:=by exact yW)(hK:IsK F C k S p s:=by infer_instance)(hw':P6 ops fr g=some true:=by rfl)(hb:Nat.blt d N=true:=by rfl):
 Dk prog ro N E ops Q (⟨some d,.call {callee:= .value x,args:=xs.toArray,argTypes:=at_},ty,pos,aft,g⟩::rest) fr ds l:=by
 obtain⟨B,rfl,hB⟩:=hF.eq;have hA2: ∀c,c∈A->c∈B++G:=λc hc=>Ah _ (by have:=hA c hc;rw[hB,Bf] at this;exact this);refine Ia (Az hx hy (Fn.re (.of_perm (ET b p s S B G)) (uN (G:=B++G) hK id q hw hA2) (K':=λv l'=>v=Th.thV (Fm (DB S id))/\ ∃s' L,IsK F C k (Dw S (Fm (DB S id))) p s'/\Tail L G/\l'=Γ (Aw b p s' (Dw S (Fm (DB S id))) L)) λv l' ⟨h1,s',L,h2,⟨X,h3⟩,h4⟩=>⟨Γ (Aw b p s' (Dw S (Fm (DB S id))) (X++G)),?_,h1,s',_,h2,⟨X,rfl⟩,rfl⟩)) hw' rfl hb λv l' ⟨h1,s',L,h2,h3,h4⟩=>by rw[h1,h4];exact hk _ s' L rfl h2 h3 (mR λ_ h=>h)
 rw[h4,h3,hB];exact .of_perm (Sf ..)
end
section
def Hc(S:KT)(t addr:Int):Th.ThT×Int:=if My S t=false\/¬(DB S t).st=1\/addr<0\/4096<addr then(Th.thZ,2) else(DB S t,0)
theorem nU(hK:IsK F C k S p s)(t addr:Int)(l:List Ab)(hl: ∀c,c∈Aw b p s S G->c∈l):Fn prog 262 [pV b,.int .i64 t,.int .i64 addr] l λv l'=>v= .tuple #[Th.thV (Hc S t addr).1,iV (Hc S t addr).2]/\l'=l:=by
 have mr:Cw b p∈l:=mR hl;have I: ∀{f:Nat} {vs:List Value} {v:Value} [QF prog f vs (Aw b p s S G) v],QF prog f vs l v:=XE hl;unfold Hc My;refine AM func262 ntmps262 λE=>?_;refine AO λb6=>?_;refine El ?_;refine Aj ?_;refine El ?_;obtain⟨u,hu⟩: ∃u,DB S t=u:=⟨_,rfl⟩
 obtain⟨ok,hok⟩: ∃q,(Th.findH S.T t).isSome=q:=⟨_,rfl⟩
 rw[hu,hok];refine AO λb8=>?_;by_cases h0:ok=false\/¬u.st=1\/addr<0\/4096<addr
 ·rw[Ad h0];cases ok<;>by_cases h1:u.st=1<;>by_cases h2:addr<0<;>by_cases h3:4096<addr;all_goals first
   |(exfalso;simp[h1,h2,h3] at h0;done)
   |(exfalso;omega)
   |(refine Aj ?_
     exact AW [] _ rfl .refl (Cz rfl (.tail _ (.head _)) (As.LSub.of_all (n:=24) (Th.encH Th.thZ) rfl) (by exact A8)) (.drop (.drop .refl)) ⟨rfl,rfl⟩)
 rw[Ac h0];obtain⟨h1,h2,h3,h4⟩:ok=true/\u.st=1/\¬addr<0/\¬4096<addr:=by simp at h0;exact⟨h0.1,h0.2.1,Af,Af⟩
 subst h1;refine Aj ?_;exact AW [] _ rfl .refl (Cz rfl (.tail _ (.head _)) (As.LSub.of_all (n:=24) (Th.encH u) rfl) (by exact A8)) (.drop (.drop .refl)) ⟨rfl,rfl⟩
instance[h:IsK F C k S p s]{t addr:Int}:QF prog 262 [pV b,.int .i64 t,.int .i64 addr] (Aw b p s S G) (.tuple #[Th.thV (Hc S t addr).1,iV (Hc S t addr).2]):=⟨λl hl=>nU h t addr l hl⟩
class AD(a:Int):Prop where
 out:a<18446744073709551616
instance[h:IsK F C k S p s]{id a:Int}[ha:AD a]:QF prog 160 [pV b,.int .i64 id,.int .i64 a] (Aw b p s S G) (.tuple #[Fz (Hq S id a).1,iV (Hq S id a).2]):=⟨λl hl=>qV h id a ha.out l hl⟩
def Pq(S:KT)(t u:Th.ThT):Bool×KT:=
 if t.gv=4096\/u.inn=4096 then(false,S)
 else if(Hq S t.id t.gv).2=0/\(Hq S u.id u.inn).2=0 then(decide ((Fs S.H (Hq S t.id t.gv).1 (Hq S u.id u.inn).1 (D4 (DJ S.H.1 (Hq S t.id t.gv).1) 7)).1=0),{S with H:=(Fs S.H (Hq S t.id t.gv).1 (Hq S u.id u.inn).1 (D4 (DJ S.H.1 (Hq S t.id t.gv).1) 7)).2})
 else(false,S)
theorem nW(hK:IsK F C (k+1) S p s)(t u:Th.ThT)(ht:AD t.gv)(hu:AD u.inn):Fn prog 319 [pV b,Th.thV t,Th.thV u] (Aw b p s S G) (KK F C b p k (.bool (Pq S t u).1) (Pq S t u).2 G):=by
 have mr:Cw b p∈Aw b p s S G:=mR λ_ h=>h;obtain⟨R,hR⟩: ∃R,Pq S t u=R:=⟨_,rfl⟩
 rw[hR];unfold Pq at hR;refine AM func319 ntmps319 λE=>?_;refine AO λb4=>?_;refine AO λb5=>?_;by_cases h0:t.gv=4096\/u.inn=4096
 ·rw[Ad h0] at hR;subst hR;by_cases h1:t.gv=4096<;>by_cases h2:u.inn=4096;all_goals first
   |(exfalso;omega)
   |(refine Aj ?_
     exact A5)
 rw[Ac h0] at hR;obtain⟨h1,h2⟩:¬t.gv=4096/\¬u.inn=4096:=by omega
 refine Aj ?_;refine El ?_;obtain⟨q,hq⟩: ∃q,Hq S t.id t.gv=q:=⟨_,rfl⟩
 rw[hq] at hR⊢;refine AO λb7=>?_;refine El ?_;obtain⟨w,hw⟩: ∃q,Hq S u.id u.inn=q:=⟨_,rfl⟩
 rw[hw] at hR⊢;refine AO λb9=>?_;by_cases h3:q.2=0/\w.2=0
 case neg=>
  rw[Ac h3] at hR;subst hR;by_cases h4:q.2=0<;>by_cases h5:w.2=0;all_goals first
   |(exfalso;exact h3 ⟨h4,h5⟩)
   |(refine HU ?_
     refine BM ?_;refine Aj ?_;exact A5)
 rw[Ad h3] at hR;subst hR;obtain⟨h4,h5⟩:=h3;refine Ch [11] 15 ([Ul b9 w.1,Ul b7 q.1,Cw b p]) ?_ (hR:=(Up BS BS BS));refine BM ?_;refine TK ?_;refine BM ?_;refine wY ?_ ?_
 ·intro S2 s2 L2;have mr2:Cw b p∈Aw b p s2 S2 L2:=mR λ_ h=>h;exact Up BS BS BS
 intro S2 s2 L2 hS2 hK2 hT2 mr2;refine BM ?_;refine Aj ?_;exact A5
end
structure MN where
 a:Int
 b:Int
 c:Int
 d:Int
deriving DecidableEq
abbrev yf(m:MN):List Value:=[Ba m.a,Ba m.b,Ba m.c,Ba m.d]
abbrev k9(m:MN):Value:= .agg (toArray (yf m))
abbrev S7(B:Nat)(m:MN):Ab:=(B,.cells (toArray (yf m)) 55 (0,0))
abbrev yg(B:Nat)(x:Int):Ab:=(B,.cells (toArray [Ba x]) 34 (0,0))
structure GJ where
 th:Int
 co:Int
 va:Int
 ms:MN
 bd:Int
 got:Bool
 fk:Int
 fv:Int
 fw:Bool
deriving DecidableEq
abbrev Qi(n:GJ):List Value:=[iV n.th,iV n.co,Ba n.va,Ba n.ms.a,Ba n.ms.b,Ba n.ms.c,Ba n.ms.d,Ba n.bd,.bool n.got,iV n.fk,Ba n.fv,.bool n.fw]
abbrev aC(n:GJ):Value:= .agg (toArray (Qi n))
abbrev Tq(B:Nat)(n:GJ):Ab:=(B,.cells (toArray (Qi n)) 69 (0,0))
abbrev vX(B:Nat)(v:Value):Ab:=(B,.cells (toArray [v]) 30 (0,0))
abbrev sW:MN:=⟨0,0,0,0⟩
abbrev MC(t:Int):GJ:=⟨t,0,0,sW,0,false,0,0,false⟩
abbrev pH(m:MN)(bd:Int)(got:Bool)(t:Th.ThT):Th.ThT:={t with m0:=m.a,m1:=m.b,m2:=m.c,m3:=m.d,bd:=bd,got:=got,inn:=4096,wa:=0}
theorem js(b1 b2 b3:Nat)(m:MN)(bd:Int)(got:Bool):jr prog 320 [pV b1,pV b2,pV b3] [S7 b1 m,yg b2 bd,VI b3 got] (pH m bd got):=by refine⟨λx t l hA=>?_⟩;have n1:S7 b1 m∈l:=hA _ (.head _);have n2:yg b2 bd∈l:=hA _ (.tail _ (.head _));have n3:VI b3 got∈l:=hA _ (.tail _ (.tail _ (.head _)));refine AM func320 ntmps320 λE=>?_;refine Aj ?_;refine Ch [10,13,16,19,22] 23 (l) ?_ (hR:=(λc hc=> .tail _ hc));refine BM ?_;exact EA
theorem Uq(b1:Nat)(u:Int):jr prog 321 [pV b1] [BJ b1 u] (λt=>{t with ca:=u}):=by refine⟨λx t l hA=>?_⟩;have n1:BJ b1 u∈l:=hA _ (.head _);refine AM func321 ntmps321 λE=>?_;exact EA
abbrev aD(m:MN)(c:CapT)(gv:Int)(cl:Bool)(t:Th.ThT):Th.ThT:={t with o0:=m.a,o1:=m.b,o2:=m.c,o3:=m.d,ob:=c.badge,gv:=gv,cl:=cl,wa:=c.obj}
theorem jt(b1 b2 b3 b4:Nat)(m:MN)(c:CapT)(gv:Int)(cl:Bool):jr prog 267 [pV b1,pV b2,pV b3,pV b4] [S7 b1 m,Bq b2 c,BJ b3 gv,VI b4 cl] (aD m c gv cl):=by refine⟨λx t l hA=>?_⟩;have n1:S7 b1 m∈l:=hA _ (.head _);have n2:Bq b2 c∈l:=hA _ (.tail _ (.head _));have n3:BJ b3 gv∈l:=hA _ (.tail _ (.tail _ (.head _)));have n4:VI b4 cl∈l:=hA _ (.tail _ (.tail _ (.tail _ (.head _))));refine AM func267 ntmps267 λE=>?_;refine Aj ?_;refine Ch [14,17,20,23,26] 27 (l) ?_ (hR:=(λc hc=> .tail _ hc));refine BM ?_;exact EA
theorem dC:jr prog 271 [] [] (λt=>{t with cl:=true}):=by refine⟨λx t l hA=>?_⟩;refine AM func271 ntmps271 λE=>?_;exact EA
theorem ju(b1:Nat)(u:Int):jr prog 275 [pV b1] [BJ b1 u] (λt=>{t with inn:=u}):=by refine⟨λx t l hA=>?_⟩;have n1:BJ b1 u∈l:=hA _ (.head _);refine AM func275 ntmps275 λE=>?_;exact EA
theorem jv(b1:Nat)(c:CapT):jr prog 276 [pV b1] [Bq b1 c] (λt=>{t with wa:=c.obj}):=by refine⟨λx t l hA=>?_⟩;have n1:Bq b1 c∈l:=hA _ (.head _);refine AM func276 ntmps276 λE=>?_;exact EA
theorem dD:jr prog 278 [] [] (λt=>{t with wa:=0,o0:=0,o1:=0,o2:=0,o3:=0,ob:=0,gv:=4096}):=by refine⟨λx t l hA=>?_⟩;refine AM func278 ntmps278 λE=>?_;refine Aj ?_;refine Bb (Gf (zs:=[.int .u64 0,.int .u64 0,.int .u64 0,.int .u64 0]) (cs:=[.int .u64 0,.int .u64 0,.int .u64 0,.int .u64 0]) rfl rfl) ?_;exact EA
theorem dE:jr prog 279 [] [] (λt=>{t with ca:=0}):=by refine⟨λx t l hA=>?_⟩;refine AM func279 ntmps279 λE=>?_;exact EA
def ND(m:MN)(t:Th.ThT):Th.ThT:=if t.fa=true then{t with fa:=false} else{t with cl:=false,m0:=m.a,m1:=m.b,m2:=m.c,m3:=m.d,bd:=0,got:=false}
theorem YZ(b1:Nat)(m:MN):jr prog 281 [pV b1] [S7 b1 m] (ND m):=by
 refine⟨λx t l hA=>?_⟩;have n1:S7 b1 m∈l:=hA _ (.head _);unfold ND;refine AM func281 ntmps281 λE=>?_;refine Aj ?_;cases hf:t.fa with
 |true=>rw[Ad rfl];exact EA
 |false=>rw[Ac AX];refine Aj ?_;refine Ch [7,10,13,16] 17 (l) ?_ (hR:=(λc hc=> .tail _ hc));refine BM ?_;refine Aj ?_;exact BA [] rfl .refl (by exact A8) ⟨rfl,by rw[hf]⟩
theorem wZ:((a::cs)++c::T).Perm (a::c::(cs++T)):=List.Perm.cons _ AH
theorem w9{b:Ab}:(a::b::c::(cs++T)).Perm (a::b::(cs++c::T)):=List.Perm.cons _ (List.Perm.cons _ AH.symm)
abbrev GK(xs:List GJ):List Value:=xs.flatMap Qi
theorem dF(xs:List GJ)(x:GJ):GK (xs++[x])=GK xs++Qi x:=by simp[GK]
theorem PZ{C:List Ab}{Out:List GJ->List Ab->Prop}[en:EN prog gf](hit:W8 prog gf lb (λn:GJ=>[aC n]) C Out):Fn prog 268 [.func (.func gf) #[] (toArray lb)] C λv l'=> ∃xs cs C',OwnSl 69 12 v xs.length (GK xs) cs/\Out xs C'/\l'=cs++C':=by
 refine AM func268 ntmps268 λE=>?_;refine AO λb3=>?_;refine jl (α:=GJ) (ps:=[6]) (lb:=lb) rfl hit (λ_=>rfl) rfl (λpre l=> ∃v cs,OwnSl 69 12 v pre.length (GK pre) cs/\l=vX b3 v::cs) [vX b3 (.slice none 0 0)] .refl ⟨_,[],OwnSl.nil _ _,rfl⟩ ?_ ?_
 ·rintro E r0 rec pre x l T ⟨fn,tmps,D,rfl⟩ h3 ⟨v,cs,ho,rfl⟩;refine D3 (.of_perm wZ) ?_;simp only[DG];refine AO λb4=>?_;refine Cy (by exact DI) ?_;refine D3 (.of_perm w9) ?_;refine Aj ?_;refine AP (Fb (ws:=Qi x) (k:=12) rfl rfl rfl AX AX) ?_;rintro _ _ ⟨bz,_,rfl,rfl⟩;refine Aj ?_;refine AP (GX (k:=12) (X:=[Tq b4 x,vX b3 v]) (cs:=cs) (xs:=GK pre) (n:=pre.length) (zs:=Qi (MC 0)) (ws:=Qi x) rfl rfl rfl ho rfl (by simp[Value.oneCell']) Af AX) ?_;rintro v2 _ ⟨cs2,ho2,rfl⟩;simp only[Ae,Ag];have o2:=Q3 ho2;refine Aj ?_;refine B0 (vX b3 v2::cs2) (.drop .refl) ?_;exact⟨v2,cs2,by rw[dF,Ai];exact ho2,rfl⟩
 ·rintro D xs l C' ⟨v,cs,ho,rfl⟩ hO;simp only[Ae];refine Aj ?_;exact AW (vs:=[v]) [D] _ rfl .refl (by exact A8) (.drop .refl) ⟨xs,cs,C',ho,hO,rfl⟩
abbrev ld(bl:Nat)(v:Value):Ab:=(bl,.cells (toArray [v]) 492 (0,0))
abbrev vY(gb:Nat)(ys:List Ce)(sp:List Value):Ab:=(gb,.cells (toArray (Tr.scs ys++sp)) 61 (0,0))
abbrev sX(B bl:Nat):Ab:=(B,.cells #[pV bl] 490 (0,0))
theorem aE(h:ys[i]?=some x)(sp:List Value):i*2+2<=(toArray (Tr.scs ys++sp)).size/\(toArray (Tr.scs ys++sp)).extract (i*2) (i*2+2)=toArray (Co x):=by obtain⟨h1,h2⟩:=Kh (enc:=Co) (k:=2) (λ_=>rfl) sp ys i x h;refine⟨by rw[Bn];exact h2,?_⟩;rw[EG,Cj,Cx];exact BN toArray h1
theorem jw(bl:Nat)(l:List Ab):Fn prog 326 [pV bl] l λv l'=> ∃B,v= .func (.func 362) #[] #[pV B]/\l'=sX B bl::l:=by refine AM func326 ntmps326 λE=>?_;refine AO λB=>?_;exact A9 .refl ⟨B,rfl,rfl⟩
def yX(B bl:Nat)(pre:List Ce)(o:Option Ce)(L:List Ab):Prop:= ∃gb cap sp ys,sX B bl∈L/\ld bl (.slice (some ⟨gb,0,none⟩) ys.length cap)∈L/\vY gb ys sp∈L/\ys.length<=1000000/\o=ys[pre.length]?
theorem dG(B bl:Nat):pG prog 362 [pV B] (λx:Ce=>[Fz x]) (yX B bl):=by
 refine⟨λr I Ix hnx hY m o l X h0=>?_⟩;refine AM func362 ntmps362 λE=>?_;refine Aj ?_;refine CE (α:=Nat×Nat×List Ce×Option Ce×List Ab) (λx=>[(0,.func (.yield r) #[] #[]),(1,pV B),(3,.int .i64 x.1)]) (λx=>x.2.2.2.2++X) (λx=>x.2.2.1.length=x.1/\I x.2.1 x.2.2.1 x.2.2.2.1 x.2.2.2.2) (λx=>x.2.1) (0,m,[],o,l) ⟨rfl,h0⟩ ⟨rfl,rfl,rfl,trivial⟩ .refl ?_;rintro⟨i,m,pre,o,l⟩ ⟨hi,hI⟩;simp only at hi hI⊢;obtain⟨gb,cap,sp,ys,n1,n2,n3,hl,ho⟩:=hnx _ _ _ _ X hI;rw[hi] at ho;by_cases hlt:i<ys.length
 ·obtain⟨x,hx⟩: ∃x,ys[i]?=some x:=⟨_,Al hlt⟩
  rw[hx] at ho;subst ho;obtain⟨z1,z2⟩:=aE hx sp;refine Aj ?_;refine Bb (Dn rfl n3 z1 z2) ?_;refine Aj ?_;have hy:=hY m pre x l X hI;refine AP (CQ rfl rfl hy) ?_;rintro v _ ⟨l1,rfl,⟨rfl,m',o',hm,hI'⟩|⟨rfl,hx⟩⟩
  ·refine Aj ?_;exact BV (i+1,m',pre++[x],o',l1) ⟨by simp[hi],hI'⟩ hm ⟨rfl,rfl,rfl,trivial⟩ .refl
  ·refine Aj ?_;exact A9 .refl ⟨l1,rfl,.inr ⟨_,hx⟩⟩
 ·rw[Bc Af] at ho;subst ho;refine Aj ?_;exact A9 .refl ⟨l,rfl,.inl ⟨m,pre,hI⟩⟩
def rC(S:KT)(id:Int):KT:=Dw S {DB S id with ca:=0}
def endT(S:KT)(id:Int):KT:=if My S id=true/\¬(DB S id).ca=0 then rC (Ha S (DB S id).ca).2 id else S
def JY(S:KT)(c:CapT):KT:=
 if c.kind=4\/c.kind=5\/c.kind=6 then(OM S c.obj).2
 else if c.kind=8 then(En.listD S.E c.obj).1.foldl (λS t=>(Ha S t).2) S
 else if c.kind=9 then endT (Ha S c.obj).2 c.obj
 else S
def dH(S:KT)(x:Ce):Bool:=decide ((getD' S.H.1 x).2=0)&&!decide ((DU S x).kind=0)
def Lj(S:KT)(c:CapT)(n:Nat):List Ce:=((List.range n).map λi=>(c.obj,((i:Nat):Int))).filter (dH S)
def Lk(S:KT)(c:CapT):List Ce:=Lj S c (Ar.slotsD c.kind (Ar.getD' S.A c.obj).1.sz).toNat
theorem aF(k z:Int):0<=Ar.slotsD k z/\Ar.slotsD k z<=16:=by unfold Ar.slotsD;(repeat' split)<;>omega
theorem Ur(S:KT)(c:CapT)(n:Nat):(Lj S c n).length<=n:=BP (CU _ _) (by simp)
theorem Qj(S:KT)(c:CapT)(n:Nat):Lj S c (n+1)=Lj S c n++(if dH S (c.obj,n)=true then[(c.obj,(n:Int))] else[]):=by unfold Lj;rw[Cu,Aq,Dr,AI,CI,E4,List.filter_nil]
theorem jx(h:OwnSl e 2 v (ys.length+1) (Tr.scs ys++Co x) cs):OwnSl e 2 v (ys++[x]).length (Tr.scs (ys++[x])) cs:=by rw[Tr.scs_snoc,Ai];exact h
theorem Us{U:List Int}{j:Nat}(h:j<U.length):U.take (j+1)=U.take j++[U.getD j 0]:=by rw[Cg,List.getD,Al h];rfl
section
theorem aG{xs:List Value}(h:OwnSl e k v n xs cs):n<=9223372036854775807:=by
 have hm:maxLen<=9223372036854775807:=by decide
 rcases h.2 with⟨_,rfl,_⟩|⟨_,cap,_,_,_,h1,h2,_⟩<;>omega
theorem rD{X d:Ab}:([X]++(c::d::Aw b p s S G)).Perm (c::d::Aw b p s S (X::G)):=by unfold Aw;exact BR
theorem uO(hK:IsK F C k S p s)(c:CapT)(bl:Nat)(v:Value)(ys:List Ce)(cs:List Ab)(hys:ys.length<=500000)(ho:OwnSl 61 2 v ys.length (Tr.scs ys) cs):
 Fn prog 329 [pV b,pV bl,U8 c] (ld bl v::(cs++Aw b p s S G)) λv' l'=>v'= .tuple #[]/\ ∃v2 cs2 s' L,OwnSl 61 2 v2 (ys++Lk (JY S c) c).length (Tr.scs (ys++Lk (JY S c) c)) cs2/\IsK F C k (JY S c) p s'/\Tail L G/\l'=ld bl v2::(cs2++Aw b p s' (JY S c) L):=by
 refine Fn.keep (l':=ld bl v::Aw b p s S (cs++G)) (.of_perm (List.Perm.cons _ (ET ..))) ?_;have mr:Cw b p∈Aw b p s S (cs++G):=mR λ_ h=>h;obtain⟨R,hR⟩: ∃R,JY S c=R:=⟨_,rfl⟩
 rw[hR];unfold JY at hR;refine AM func329 ntmps329 λE=>?_;refine Aj ?_
 (first|refine AP (Eb rfl rfl) ?_|refine AP (CK rfl) ?_);rintro _ _ ⟨b5,_,rfl,rfl⟩
 refine Tu ?_;refine MY ?_;refine XT (α:=KT×RL×List Ab) (λ_=>[(0,pV b),(1,pV bl),(5,pV b5)]) (λx=>Bq b5 c::ld bl v::(cs++Aw b p x.2.1 x.1 x.2.2)) (λx=>x.1=R/\IsK F C k x.1 p x.2.1/\Tail x.2.2 G) ?_ ?_
 ·refine Aj ?_;by_cases h4:c.kind=4\/c.kind=5\/c.kind=6
  ·rw[Ad h4] at hR;rcases h4 with h|h|h;all_goals
    refine Aj ?_;refine FI ?_;intro S1 s1 L1 hS1 hK1 hT1 mr1;refine Aj ?_;obtain⟨L2,hL2,hp⟩:=GD (b:=b) (p:=p) (s:=s1) (S:=S1) hT1;exact Ek (S1,s1,L2) ⟨hS1.trans hR,hK1,hL2⟩ ⟨rfl,rfl,rfl,trivial⟩ (.of_perm (.cons _ (.cons _ hp)))
  rw[Ac h4] at hR;by_cases h8:c.kind=8
  ·rw[Ad h8] at hR;refine Aj ?_;refine Cn (Ck [4] 0 10) ?_;refine Cs ?_;refine JS (Az rfl rfl (En.list_any p.e S.E s.E c.obj hK.en hK.el9 _ λx hx=> .tail _ (.tail _ (mE (λ_ h=>h) x hx)))) ?_ rfl rfl;rintro _ _ ⟨sl,cw,rfl,hw,rfl⟩;obtain⟨W,hW⟩: ∃W,(En.listD S.E c.obj).1=W:=⟨_,rfl⟩
   rw[hW] at hR hw;refine Cs ?_;by_cases hW0:W.length=0
   ·obtain⟨pp,cap,hsh⟩:=hw.shape;rw[hW0] at hsh;rw[FW.1 hW0] at hR;rw[hsh];refine Aj ?_;refine Hu 0 ?_;refine Aj ?_;obtain⟨L2,hL2,hp⟩:=GD (b:=b) (p:=p) (s:=s) (S:=S) (Tail.nil (G:=cs++G));exact Ek (S,s,L2) ⟨hR,hK,hL2⟩ ⟨rfl,rfl,rfl,trivial⟩ (Keep.trans (Keep.dropL' cw .refl) (.of_perm (.cons _ (.cons _ hp))))
   obtain⟨gw,cap,sw,rfl,rfl⟩:=Mr hw Af;have hwl:=aG hw;refine Aj ?_;refine CE (α:=Nat×KT×RL×List Ab) (λx=>[(0,pV b),(1,pV bl),(5,pV b5),(38,.slice (some ⟨gw,0,none⟩) W.length cap),(39,.int .i64 (W.length:Nat)),(40,.int .i64 x.1)]) (λx=>Bq b5 c::ld bl v::Aw b p x.2.2.1 x.2.1 x.2.2.2) (λx=>x.1<=W.length/\x.2.1=(W.take x.1).foldl (λS t=>(Ha S t).2) S/\IsK F C k x.2.1 p x.2.2.1/\Tail x.2.2.2 (ML gw W sw::(cs++G))) (λx=>W.length-x.1) (0,S,s,ML gw W sw::(cs++G)) ⟨Bl _,rfl,hK,.nil⟩ ⟨rfl,rfl,rfl,rfl,rfl,rfl,trivial⟩ (.of_perm rD) ?_;rintro⟨i,S1,s1,L1⟩ ⟨hi,hS1,hK1,hT1⟩;simp only at hi hS1 hK1 hT1⊢;have mr1:Cw b p∈Aw b p s1 S1 L1:=mR λ_ h=>h;have mw:ML gw W sw∈Aw b p s1 S1 L1:=mG (λ_ h=>h) _ (by obtain⟨X,rfl⟩:=hT1;simp);by_cases hlt:i<W.length
   ·obtain⟨t,ht⟩: ∃t,W.getD i 0=t:=⟨_,rfl⟩
    have c0:(toArray (W.map CG++sw))[i*1]?=some (.int .i64 t):=by rw[Df,<-ht];exact Qg hlt
    refine Aj ?_;refine FI ?_;intro S2 s2 L2 hS2 hK2 hT2 mr2;refine Aj ?_;exact BV (i+1,S2,s2,L2) ⟨by simp only;omega,by simp only;rw[Us hlt,EO,<-hS1,ht];exact hS2,hK2,hT2.trans hT1⟩ (by simp only;omega) ⟨rfl,rfl,rfl,rfl,rfl,rfl,trivial⟩ .refl
   ·rw[Bv Af] at hS1;refine Aj ?_;obtain⟨L2,hL2,hp⟩:=GD (b:=b) (p:=p) (s:=s1) (S:=S1) (hT1.trans (Tail.nil.cons));exact Ek (S1,s1,L2) ⟨hS1.trans hR,hK1,hL2⟩ ⟨rfl,rfl,rfl,trivial⟩ (.of_perm (.cons _ (.cons _ hp)))
  rw[Ac h8] at hR;by_cases h9:c.kind=9
  case neg=>rw[Ac h9] at hR;refine Aj ?_;obtain⟨L2,hL2,hp⟩:=GD (b:=b) (p:=p) (s:=s) (S:=S) (Tail.nil (G:=cs++G));exact Ek (S,s,L2) ⟨hR,hK,hL2⟩ ⟨rfl,rfl,rfl,trivial⟩ (.of_perm (.cons _ (.cons _ hp)))
  rw[Ad h9] at hR;refine Aj ?_;refine FI ?_;intro S1 s1 L1 hS1 hK1 hT1 mr1;rw[<-hS1] at hR;unfold endT My at hR;refine Aj ?_;refine Cn (Ck [8,9] 0 11) ?_;refine Cs ?_;obtain⟨t,ht⟩: ∃t,DB S1 c.obj=t:=⟨_,rfl⟩
  obtain⟨ok,hok⟩: ∃ok,(Th.findH S1.T c.obj).isSome=ok:=⟨_,rfl⟩
  rw[ht,hok] at hR⊢;refine Hm e_alloc (by rintro _ _ ⟨_,_,_,rfl⟩ c hc;exact .tail _ hc) ?_;rintro _ _ ⟨b10,_,rfl,rfl⟩;refine Cs ?_;by_cases h2:ok=true/\¬t.ca=0
  case neg=>
   rw[Ac h2] at hR;obtain⟨L2,hL2,hp⟩:=GD (b:=b) (p:=p) (s:=s1) (S:=S1) hT1;cases ok<;>by_cases h3:t.ca=0;all_goals first
    |(exfalso;simp[h3] at h2;done)
    |(refine Aj ?_
      exact Ek (S1,s1,L2) ⟨hR,hK1,hL2⟩ ⟨rfl,rfl,rfl,trivial⟩ (.drop (.of_perm (.cons _ (.cons _ hp)))))
  rw[Ad h2] at hR;obtain⟨rfl,h3⟩:=h2;refine Aj ?_;refine FI ?_;intro S2 s2 L2 hS2 hK2 hT2 mr2;rw[<-hS2] at hR;unfold rC at hR;refine Aj ?_;refine Cn (Ck [8] 0 9) ?_;refine Cs ?_;have htw:=hK2.tO c.obj;obtain⟨t2,ht2⟩: ∃t,DB S2 c.obj=t:=⟨_,rfl⟩
  rw[ht2] at hR htw⊢;refine Cs ?_;refine Aj ?_;refine Cn (Ck [3] 0 4) ?_;refine Cs ?_;refine LN (q:=Nv {t2 with ca:=0} ⟨htw.out⟩) ?_;intro S3 s3 L3 hS3 hK3 hT3 mr3;refine Cs ?_;refine Aj ?_;obtain⟨L4,hL4,hp⟩:=GD (b:=b) (p:=p) (s:=s3) (S:=S3) (hT3.trans (hT2.trans hT1));exact Ek (S3,s3,L4) ⟨hS3.trans hR,hK3,hL4⟩ ⟨rfl,rfl,rfl,trivial⟩ (.drop (.of_perm (.cons _ (.cons _ hp))))
 rintro⟨S1,s1,L1⟩ ⟨hS1,hK1,hT1⟩;simp only at hS1 hK1 hT1⊢;rw[<-hS1];have I: ∀cq,∀{f:Nat} {vs:List Value} {v:Value} [QF prog f vs (Aw b p s1 S1 L1) v],QF prog f vs (cq++Aw b p s1 S1 L1) v:=λcq=>XE λc hc=>Aa _ hc;have I1:=λ{f:Nat} {vs:List Value} {v:Value}=> @I cs f vs v;refine Aj ?_;refine Cn (Ck [8,9] 0 11) ?_;refine Cs ?_;obtain⟨o,ho1⟩: ∃o,(Ar.getD' S1.A c.obj).1=o:=⟨_,rfl⟩
 unfold Lk;rw[ho1];refine Hm e_alloc (by rintro _ _ ⟨_,_,_,rfl⟩ c hc;exact .tail _ hc) ?_;rintro _ _ ⟨b12,_,rfl,rfl⟩;refine Cs ?_;refine Aj ?_;refine El ?_;obtain⟨n0,n16⟩:=aF c.kind o.sz;obtain⟨n,hn⟩: ∃n:Nat,Ar.slotsD c.kind o.sz=n:=⟨(Ar.slotsD c.kind o.sz).toNat,Af⟩
 rw[hn] at n0 n16⊢;rw[AY];refine Aj ?_;refine CE (α:=Nat×Value×List Ab) (λx=>[(0,pV b),(1,pV bl),(5,pV b5),(97,.int .i64 (n:Nat)),(98,.int .i64 x.1)]) (λx=>Bq b5 c::ld bl x.2.1::(x.2.2++Aw b p s1 S1 L1)) (λx=>x.1<=n/\OwnSl 61 2 x.2.1 (ys++Lj S1 c x.1).length (Tr.scs (ys++Lj S1 c x.1)) x.2.2) (λx=>n-x.1) (0,v,cs) ⟨Bl _,by simpa[Lj] using ho⟩ ⟨rfl,rfl,rfl,rfl,rfl,trivial⟩ (.drop .refl) ?_;rintro⟨i,w,cw⟩ ⟨hi,how⟩;simp only at hi how⊢;have I1:=λ{f:Nat} {vs:List Value} {v:Value}=> @I cw f vs v;by_cases hlt:i<n
 case neg=>
  obtain rfl:i=n:=by omega
  refine Aj ?_;exact CF _ .refl (.drop .refl) ⟨rfl,w,cw,s1,L1,how,hK1,hT1,rfl⟩
 obtain⟨h,hh⟩: ∃h,(getD' S1.H.1 (c.obj,(i:Int))).1=h:=⟨_,rfl⟩
 obtain⟨e,he⟩: ∃e,(getD' S1.H.1 (c.obj,(i:Int))).2=e:=⟨_,rfl⟩
 have hs:dH S1 (c.obj,(i:Int))=(decide (e=0)&&!decide (h.kind=0)):=by unfold dH;rw[he,show DU S1 (c.obj,(i:Int))=h from hh]
 refine AO λb15=>?_;refine Cn (Ck [7,8] 0 10) ?_;refine Cs ?_;rw[hh,he];refine Hm e_alloc (by rintro _ _ ⟨_,_,_,rfl⟩ c hc;exact .tail _ hc) ?_;rintro _ _ ⟨b16,_,rfl,rfl⟩;refine Cs ?_;by_cases h0:e=0/\¬h.kind=0
 case neg=>
  have hs0:dH S1 (c.obj,(i:Int))=false:=by rw[hs];simpa using h0
  by_cases h1:e=0<;>by_cases h2:h.kind=0;all_goals first
   |(exfalso;exact h0 ⟨h1,h2⟩)
   |(refine Aj ?_
     exact BV (i+1,w,cw) ⟨by simp only;omega,by simp only;rw[Qj,hs0,Ac AX,Bf];exact how⟩ (by simp only;omega) ⟨rfl,rfl,rfl,rfl,rfl,trivial⟩ (.drop (.drop .refl)))
 obtain⟨h1,h2⟩:=h0;have hs0:dH S1 (c.obj,(i:Int))=true:=by rw[hs];simp[h1,h2]
 refine Aj ?_;refine Cn (Ck [6,7,10] 0 11) ?_;refine Cs ?_;refine Hm (Fb (ws:=Co (c.obj,(i:Int))) (k:=2) rfl rfl rfl AX AX) ?_ ?_ rfl rfl
 ·rintro _ _ ⟨_,_,_,rfl⟩ c hc;exact .tail _ hc
 rintro _ _ ⟨bx,_,rfl,rfl⟩;refine Cs ?_;refine JS (GX (k:=2) (X:=[Bq b16 h,(b15,Obj.cells (toArray (Co (c.obj,(i:Int)))) 61 (0,0)),Bq b5 c,ld bl w]) (cs:=cw) (xs:=Tr.scs (ys++Lj S1 c i)) (n:=(ys++Lj S1 c i).length) (zs:=Co (0,0)) (ws:=Co (c.obj,(i:Int))) rfl rfl rfl how rfl (by simp[Value.oneCell']) (by have:=Ur S1 c i;rw[Ai];omega) AX) ?_ rfl rfl;rintro w2 _ ⟨cw2,how2,rfl⟩;have o2:=Q3 how2;simp only[Ae,Ag];refine Cs ?_;refine Aj ?_;exact BV (i+1,w2,cw2) ⟨by simp only;omega,by simp only;rw[Qj,hs0,Ad rfl,<-Am];exact jx how2⟩ (by simp only;omega) ⟨rfl,rfl,rfl,rfl,rfl,trivial⟩ (.drop (.drop .refl))
end
abbrev LK(S:KT):Nat:=S.H.2.length
theorem uP(S:KT)(id st:Int):(Mm S id st).2.H=S.H:=by unfold Mm;(repeat' split)<;>rfl
theorem uQ(S:KT)(id:Int):(kU S id).H=S.H:=by unfold kU;split<;>rfl
theorem Q4(S:KT)(id:Int):(Ha S id).2.H=S.H:=by
 unfold Ha haltE
 split
 ·rfl
 ·rw[uP];exact uQ _ _
theorem rE(S:KT)(id:Int):(OM S id).2.H=S.H:=by
 unfold OM Qh W5
 (repeat' split)<;>rfl
theorem jy(l:List Int)(S:KT):(l.foldl (λS t=>(Ha S t).2) S).H=S.H:=by
 induction l generalizing S with
 |nil=>rfl
 |cons a l ih=>rw[D5,ih,Q4]
theorem rF(S:KT)(c:CapT):(JY S c).H=S.H:=by
 unfold JY
 split
 ·exact rE _ _
 split
 ·exact jy _ _
 split
 ·unfold endT rC
  split
  ·show(Ha _ _).2.H=_;rw[Q4,Q4]
  ·exact Q4 _ _
 ·rfl
theorem nX(S:KT)(c:CapT):(MA S c).H=S.H:=by unfold MA je;split<;>rfl
theorem R4(d:Int)(B:Tr.DT):(Tr.decW d B).length=B.length:=by unfold Tr.decW;have:=BN List.length (BI (p:=λx:Ce×Int=>decide (d<x.2)) (l:=B));simp only[Ai,A3] at this⊢;exact this
theorem Y0(hI:InvH H n)(h:(DS H x).1.2=0):(DS H x).2.2.length+1=H.2.length:=by
 unfold DS at h⊢
 split at h
 ·cases h
 rename_i h1;rw[Ac h1]
 split at h
 ·cases h
 rename_i h2;rw[Ac h2];have h3:=(hI.link x).2 ⟨by simpa using h1,h2⟩;unfold Tr.hasD at h3;dsimp only;unfold Tr.removeD;cases hs:Tr.splitD x H.2 with
 |none=>rw[hs] at h3;cases h3
 |some y=>obtain⟨A,d,B⟩:=y;obtain⟨h4,_⟩:=Tr.splitD_some hs;dsimp only;rw[h4,Ai,Ai,R4,Br];omega
theorem Y1(h:¬(DS H x).1.2=0):(DS H x).2=H:=by
 unfold DS at h⊢
 split
 ·rfl
 ·rename_i h1;rw[Ac h1] at h
  split
  ·rfl
  ·rename_i h2;rw[Ac h2] at h;exact absurd rfl h
def dropX(S:KT)(x:Ce):KT:=if(DS S.H x).1.1.kind=3 then MA {S with H:=(DS S.H x).2} (DS S.H x).1.1 else{S with H:=(DS S.H x).2}
def dropR:Nat->KT->List Ce->List Int->Nat->KT×List Int×Nat
 |0,S,_,es,n=>(S,es,n)
 |_+1,S,[],es,n=>(S,es,n)
 |m+1,S,x::ys,es,n=>
  if ¬(DS S.H x).1.2=0 then dropR m {S with H:=(DS S.H x).2} ys es n
  else if Lf S.H x=false\/(DS S.H x).1.1.obj=0 then dropR m (dropX S x) ys es (n+1)
  else dropR m (JY (dropX S x) (DS S.H x).1.1) (ys++Lk (JY (dropX S x) (DS S.H x).1.1) (DS S.H x).1.1) (es++[(DS S.H x).1.1.obj]) (n+1)
theorem dI(m:Nat)(S:KT)(es:List Int)(n:Nat):dropR m S [] es n=(S,es,n):=by cases m<;>rfl
def jz(S:KT)(l:List Int):KT:=l.foldl (λS id=>(Tm S id).2) S
def Pr(S:KT)(x:Ce):Nat×KT:=((dropR (17*LK S+1) S [x] [] 0).2.2,K7 (jz (dropR (17*LK S+1) S [x] [] 0).1 (dropR (17*LK S+1) S [x] [] 0).2.1))
section
theorem rG:((lo++(A++(B++Aw b p s S L)))++(r,o)::T).Perm (lo++(r,o)::Aw b p s S (A++(B++(L++T)))):=by unfold Aw;exact BR
end
abbrev aH(B bl b5 b6 b7 b2 b:Nat)(vl ve:Value)(n:Nat):List Ab:=[sX B bl,ld bl vl,sX b5 bl,Mz b6 ve,BJ b7 n,rB b2 b]
section
def vZ(F C k b:Nat)(p:RP)(G:List Ab)(R:KT×List Int×Nat)(M B bl b5 b6 b7 b2 m:Nat)(pre:List Ce)(o:Option Ce)(l:List Ab):Prop:=
 ∃(S':KT) (s':RL) (L:List Ab) (ys:List Ce) (vl ve:Value) (cl ce:List Ab) (es:List Int) (n:Nat),IsK F C k S' p s'/\Tail L G/\1<=ys.length/\o=ys[pre.length]?/\17*LK S'+(ys.drop pre.length).length<=m/\17*LK S'+ys.length<=M/\es.length<=pre.length/\n<=pre.length/\pre.length<=ys.length/\dropR m S' (ys.drop pre.length) es n=R/\
  OwnSl 61 2 vl ys.length (Tr.scs ys) cl/\OwnSl 3 1 ve es.length (es.map CG) ce/\l=aH B bl b5 b6 b7 b2 b vl ve n++(cl++(ce++Aw b p s' S' L))
theorem uR:(lo++(r,o)::Aw b p s S L).Perm (lo++Aw b p s S ((r,o)::L)):=by unfold Aw;exact BR
theorem uS:(lo++(A++(B++Aw b p s S L))).Perm (lo++Aw b p s S (A++(B++L))):=by unfold Aw;exact BR
theorem aI{L9:List Ab}(h:Tail L9 (lp::(A++(B++(L++T))))): ∃L',Tail L' L/\ ∀lo,(lo++Aw b p s S L9).Perm ((lo++(A++(B++Aw b p s S L')))++lp::T):=by obtain⟨X,rfl⟩:=h;exact⟨X++L,⟨X,rfl⟩,λlo=>by unfold Aw;exact BR⟩
theorem rH:([c10,c8,cB,cv,c5,c6,c7,c2]++Aw b p s S (X++lp::(A++(B++(L++T))))).Perm (cv::(A++Aw b p s S ([c10,c8,cB,c5,c6,c7,c2]++(B++(X++lp::(L++T)))))):=by unfold Aw;exact BR
theorem nY:(cv::(A++Aw b p s S (Z++([c10,c8,cB,c5,c6,c7,c2]++(B++(X++lp::(L++T))))))).Perm ([c10,c8,cB,cv,c5,c6,c7,c2]++(B++(A++Aw b p s S (Z++(X++lp::(L++T)))))):=by unfold Aw;exact BR
theorem nZ:(lo++(B++(A++Aw b p s S (Z++(X++lp::(L++T)))))).Perm ((lo++(A++(B++Aw b p s S (Z++(X++L)))))++lp::T):=by unfold Aw;exact BR
theorem rI(hK:IsK F C k S p s)(x:Ce):Fn prog 290 [pV b,Fz x] (Aw b p s S G) (KK F C b p k (iV (Pr S x).1) (Pr S x).2 G):=by
 have mr:Cw b p∈Aw b p s S G:=mR λ_ h=>h;obtain⟨m9,h91,h92,_,h93⟩:=hK.small;have t93:LK S<=1000:=h93;obtain⟨R,hR⟩: ∃R,dropR (17*LK S+1) S [x] [] 0=R:=⟨_,rfl⟩
 unfold Pr;rw[hR];refine AM func290 ntmps290 λE=>?_;refine AO λb2=>?_;refine AO λb3=>?_;refine AP (Fb (ws:=Co x) (k:=2) rfl rfl rfl AX AX) ?_;rintro _ _ ⟨gs,_,rfl,rfl⟩;refine AO λbl=>?_;refine AO λb5=>?_;refine AO λb6=>?_;refine AO λb7=>?_;refine AP (Az rfl rfl (jw bl _)) ?_;rintro _ _ ⟨B,rfl,rfl⟩;refine Aj ?_;refine jm (α:=Ce) (ps:=[20]) (lb:=[pV B]) rfl (dG B bl) (λ_=>rfl) rfl
  (vZ F C k b p G R (17*LK S+1) B bl b5 b6 b7 b2) (λ_ _ _=>False) (aH B bl b5 b6 b7 b2 b (.slice (some ⟨gs,0,none⟩) 1 1) (.slice none 0 0) 0++([vY gs [x] []]++([]++Aw b p s S G))) (m0:=17*LK S+1) (o0:=some x) ?_ (by exact AS) ⟨S,s,G,[x],_,_,_,_,[],0,hK,.nil,A7 _,rfl,A7 _,A7 _,A7 _,A7 _,Bl _,hR,⟨rfl,.inr ⟨gs,1,[],rfl,rfl,A7 _,by unfold maxLen;omega,rfl⟩⟩,OwnSl.nil _ _,rfl⟩ ?_ ?_ ?_
 ·rintro m pre o l X ⟨S1,s1,L1,ys,vl,ve,cl,ce,es,n,hK1,hT1,hy1,ho,hm,hM,hes,hn,hp,hR1,hol,hoe,rfl⟩;obtain⟨gb,cap,sp,rfl,rfl⟩:=Mr hol hy1;exact⟨gb,cap,sp,ys,by simp,by simp,by simp,Af,ho⟩
 ·rintro E r0 rec m pre x1 l T ⟨fn,tmps,D,hrec⟩ ⟨S1,s1,L1,ys,vl,ve,cl,ce,es,n,hK1,hT1,hy1,ho,hm,hM,hes,hn,hp,hR1,hol,hoe,rfl⟩;obtain⟨m8,h81,h82,_⟩:=hK1.small;have hlt:=(Ay.1 ho.symm).1;have hd:ys.drop pre.length=x1::ys.drop (pre.length+1):=by rw[C4 hlt,(Ay.1 ho.symm).2]
  rw[hd] at hm hR1;rw[Br] at hm;obtain⟨m,rfl⟩: ∃q,m=q+1:=⟨m-1,Af⟩
  unfold dropR at hR1;have hln:(ys.drop (pre.length+1)).length=ys.length-(pre.length+1):=Dx;have hl1:(pre++[x1]).length=pre.length+1:=by simp
  refine D3 (.of_perm (rG (lo:=aH B bl b5 b6 b7 b2 b vl ve n))) ?_;rw[hrec];simp only[DG,aH,Ae,Ag];refine AO λb8=>?_;refine Cy (by exact DI) ?_;rw[<-hrec];refine D3 (.of_perm (uR (lo:=Ul b8 x1::aH B bl b5 b6 b7 b2 b vl ve n))) ?_;obtain⟨lp,hlp⟩: ∃lp:Ab,(r0,Obj.loop (rec .busy none))=lp:=⟨_,rfl⟩
  rw[hlp];have mr1:Cw b p∈Aw b p s1 S1 (lp::(cl++(ce++(L1++T)))):=mR λ_ h=>h;simp only[aH,Ae,Ag];refine Aj ?_;refine Cn (Ck [] 0 5) ?_;refine Cs ?_;obtain⟨fin,hfin⟩: ∃q,Lf S1.H x1=q:=⟨_,rfl⟩
  rw[hfin] at hR1⊢;refine Aj ?_;obtain⟨q,hq⟩: ∃q,DS S1.H x1=q:=⟨_,rfl⟩
  have hless:q.1.2=0->q.2.2.length+1=LK S1:=λh=>by rw[<-hq] at h⊢;exact Y0 h82 h
  have hsame:¬q.1.2=0->q.2=S1.H:=λh=>by rw[<-hq] at h⊢;exact Y1 h
  unfold dropX at hR1;rw[hq] at hR1;refine KQ [(0,true),(1,true),(2,true),(3,false),(4,true),(5,true),(6,true),(7,false),(8,false),(9,true)] [[],[0],[],[0,1,2],[0,1,2,3],[0,1,2,3,4],[0,1,2,3,4],[],[0,1,2,3,4,5,7],[0,1,2,3,4,5,6,7,8]] 3 7 ([rB b2 b,Ul b8 x1,Cw b p]) Bs Bs Gt ((Up BS BS BS)) ?_;refine BM ?_;refine TK ?_;refine BM ?_;refine M3 [(7,false),(3,false),(4,true),(5,true),(6,true),(8,false),(9,true)] Gt (AH (l₁:=[_,_,_,_])).symm Bs ?_ ?_
  case' refine_1=>
   refine sU ?_ ?_
   ·intro S2 s2 L2;have mr2:Cw b p∈Aw b p s2 S2 L2:=mR λ_ h=>h;exact Up BS BS BS
   intro S2 s2 L2 hS2 hK2 hT2 mr2;iterate 3 refine V4 ?_
   refine CM e_alloc rfl rfl rfl ?_ ?_
   ·rintro _ _ ⟨_,_,_,rfl⟩ c hc;exact .tail _ (Up BS BS BS c hc)
   rintro _ _ ⟨b10,_,rfl,rfl⟩
  case' refine_2=>
   refine CM e_alloc rfl rfl rfl ?_ ?_
   ·rintro _ _ ⟨_,_,_,rfl⟩ c hc;exact .tail _ (Up BS BS BS c hc)
   rintro _ _ ⟨b10,_,rfl,rfl⟩;refine sU ?_ ?_
   ·intro S2 s2 L2;have mr2:Cw b p∈Aw b p s2 S2 L2:=mR λ_ h=>h;exact Up BS BS BS
   intro S2 s2 L2 hS2 hK2 hT2 mr2;iterate 3 refine V4 ?_
  all_goals
   rw[hq] at hS2⊢;obtain⟨c,hc⟩: ∃c,q.1.1=c:=⟨_,rfl⟩
   obtain⟨er,her⟩: ∃e,q.1.2=e:=⟨_,rfl⟩
   rw[hc,her] at hR1⊢;rw[her] at hless hsame;refine o5 ?_ (hR:=Up BS BS BS);refine BM ?_;refine Aj ?_;by_cases h0:er=0
   case neg=>
    rw[Ad h0] at hR1;have e2:LK S2=LK S1:=by rw[hS2];show q.2.2.length=_;rw[hsame h0]
    rw[<-hS2] at hR1;refine Aj ?_;subst hlp hrec;obtain⟨L9,hL9,hp9⟩:=aI (b:=b) (p:=p) (s:=s2) (S:=S2) hT2;exact B0 (aH B bl b5 b6 b7 b2 b vl ve n++(cl++(ce++Aw b p s2 S2 L9))) (Keep.trans (.drop (.drop .refl)) (.of_perm (hp9 (aH B bl b5 b6 b7 b2 b vl ve n)))) ⟨m,ys[pre.length+1]?,Hi _,by unfold vZ;simp only[hl1];exact⟨S2,s2,L9,ys,vl,ve,cl,ce,es,n,hK2,hL9.trans hT1,hy1,rfl,Af,Af,Af,Af,Af,hR1,hol,hoe,rfl⟩⟩
   rw[Ac (λh=>h h0)] at hR1;have e2:LK S2+1=LK S1:=by rw[hS2];exact hless h0
   have hn9:n<=18000:=by omega
   refine Aj ?_;by_cases h3:c.kind=3
   case' pos=>
    rw[Ad h3] at hR1;refine Aj ?_;refine FI ?_;intro S3 s3 L3 hS3 hK3 hT3' mr3;have hT3:=hT3'.trans hT2;have e3:LK S3=LK S2:=by rw[hS3];exact BN (λH:HS=>H.2.length) (nX S2 c)
    rw[show MA {S1 with H:=q.2} c=S3 by rw[hS3,<-hS2];rfl] at hR1;refine Aj ?_
   case' neg=>
    rw[Ac h3] at hR1;obtain⟨S3,hS3⟩: ∃S3,S2=S3:=⟨_,rfl⟩
    obtain⟨s3,hs3⟩: ∃s3,s2=s3:=⟨_,rfl⟩
    obtain⟨L3,hL3⟩: ∃L3,L2=L3:=⟨_,rfl⟩
    have hK3:=hK2;have hT3:=hT2;have mr3:=mr2;rw[hS3,hs3] at hK3;rw[hS3,hs3,hL3] at mr3;rw[hL3] at hT3;have e3:LK S3=LK S2:=by rw[hS3]
    rw[show({S1 with H:=q.2}:KT)=S3 by rw[<-hS3,hS2]] at hR1;refine Aj ?_;rw[hS3,hs3,hL3]
   all_goals
    by_cases h4:fin=false\/c.obj=0
    ·rw[Ad h4] at hR1;cases fin<;>by_cases h5:c.obj=0;all_goals first
      |(exfalso;simp[h5] at h4;done)
      |(refine Aj ?_
        subst hlp hrec;obtain⟨L9,hL9,hp9⟩:=aI (b:=b) (p:=p) (s:=s3) (S:=S3) hT3;exact B0 (aH B bl b5 b6 b7 b2 b vl ve (n+1)++(cl++(ce++Aw b p s3 S3 L9))) (Keep.trans (.drop (.drop .refl)) (.of_perm (hp9 (aH B bl b5 b6 b7 b2 b vl ve (n+1))))) ⟨m,ys[pre.length+1]?,Hi _,by unfold vZ;simp only[hl1];exact⟨S3,s3,L9,ys,vl,ve,cl,ce,es,n+1,hK3,hL9.trans hT1,hy1,rfl,Af,Af,Af,Af,Af,hR1,hol,hoe,rfl⟩⟩)
    rw[Ac h4] at hR1;obtain⟨h5,h6⟩:fin=true/\¬c.obj=0:=by simpa using h4
    subst h5;refine Aj ?_;obtain⟨X,rfl⟩:=hT3;refine AP (Az rfl rfl (Fn.keep (.of_perm rH) (uO hK3 c bl vl ys cl Af hol))) ?_;rintro _ _ ⟨rfl,v2,cs2,s4,L4,ho4,hK4,⟨Z,rfl⟩,rfl⟩;refine Bk (.of_perm nY) ?_;simp only[Ae,Ag];refine Aj ?_;refine AP (Kg (v:=iV c.obj) rfl rfl) ?_;rintro _ _ ⟨bz,_,rfl,rfl⟩;refine Aj ?_;refine AP (GX (k:=1) (X:=[Bq b10 c,Ul b8 x1,sX B bl,ld bl v2,sX b5 bl,Mz b6 ve,BJ b7 ((n:Int)+1),rB b2 b]) (cs:=ce) (xs:=es.map CG) (n:=es.length) (zs:=[iV 0]) (ws:=[iV c.obj]) rfl rfl rfl hoe rfl (by simp[Value.oneCell']) Af AX) ?_;rintro ve2 _ ⟨ce2,hoe2,rfl⟩;have o2:=Q3 hoe2;simp only[Ae,Ag];refine Aj ?_;have hz:(Lk (JY S3 c) c).length<=16:=by have h1:=Ur (JY S3 c) c (Ar.slotsD c.kind (Ar.getD' (JY S3 c).A c.obj).1.sz).toNat;have h2:=aF c.kind (Ar.getD' (JY S3 c).A c.obj).1.sz;unfold Lk;omega
    have e4:LK (JY S3 c)=LK S3:=by show(JY S3 c).H.2.length=_;rw[rF]
    have e5:(ys++Lk (JY S3 c) c).drop (pre.length+1)=ys.drop (pre.length+1)++Lk (JY S3 c) c:=List.drop_append_of_le_length Af;subst hlp hrec;exact B0 (aH B bl b5 b6 b7 b2 b v2 ve2 (n+1)++(cs2++(ce2++Aw b p s4 (JY S3 c) (Z++(X++L1))))) (Keep.trans (.drop (.drop .refl)) (.of_perm (nZ (lo:=aH B bl b5 b6 b7 b2 b v2 ve2 (n+1))))) ⟨m,(ys++Lk (JY S3 c) c)[pre.length+1]?,Hi _,by unfold vZ;simp only[hl1];exact⟨JY S3 c,s4,Z++(X++L1),ys++Lk (JY S3 c) c,v2,ve2,cs2,ce2,es++[c.obj],n+1,hK4,Tail.trans ⟨Z++X,by simp⟩ hT1,by rw[Ai];omega,rfl,by rw[e5,Ai];omega,by rw[Ai];omega,by rw[Ai,Bh];omega,Af,by rw[Ai];omega,by rw[e5];exact hR1,ho4,by rw[Ai,Aq];exact hoe2,rfl⟩⟩
 ·rintro D m xs l ⟨S1,s1,L1,ys,vl,ve,cl,ce,es,n,hK1,hT1,hy1,ho,hm,hM,hes,hn,hp,hR1,hol,hoe,rfl⟩;rw[List.drop_eq_nil_of_le (List.getElem?_eq_none_iff.1 ho.symm),dI] at hR1;subst hR1;refine JF (.of_perm (.cons _ (uS (lo:=aH B bl b5 b6 b7 b2 b vl ve n)))) ?_;have mr1:Cw b p∈Aw b p s1 S1 (cl++(ce++L1)):=mR λ_ h=>h;simp only[aH,Ae,Ag];by_cases he:es.length=0
  ·obtain⟨pp,cap,hsh⟩:=hoe.shape;rw[he] at hsh;rw[hsh,FW.1 he];refine Aj ?_;refine Hu 0 ?_;refine Aj ?_;refine FI ?_;intro S2 s2 L2 hS2 hK2 hT2 mr2;refine Aj ?_;exact AW [D] _ rfl .refl (by exact A8) (.drop (.drop (.drop (.drop (.drop (.drop .refl)))))) ⟨rfl,s2,L2,by rw[show K7 (jz S1 [])=S2 from hS2.symm];exact hK2,hT2.trans (Tail.trans ⟨cl++ce,by simp⟩ hT1),by rw[show K7 (jz S1 [])=S2 from hS2.symm]⟩
  have hel:=aG hoe;obtain⟨gw,cap,sw,rfl,rfl⟩:=Mr hoe Af;refine Aj ?_;refine CE (α:=Nat×KT×RL×List Ab) (λx=>[(2,pV b2),(7,pV b7),(58,.slice (some ⟨gw,0,none⟩) es.length cap),(59,.int .i64 (es.length:Nat)),(60,.int .i64 x.1)]) (λx=>Cf D::BJ b7 n::rB b2 b::Aw b p x.2.2.1 x.2.1 x.2.2.2) (λx=>x.1<=es.length/\x.2.1=jz S1 (es.take x.1)/\IsK F C k x.2.1 p x.2.2.1/\Tail x.2.2.2 (cl++([ML gw es sw]++L1))) (λx=>es.length-x.1) (0,S1,s1,_) ⟨Bl _,rfl,hK1,.nil⟩ ⟨rfl,rfl,rfl,rfl,rfl,trivial⟩ (by exact AS) ?_;rintro⟨i,S2,s2,L2⟩ ⟨hi,hS2,hK2,hT2⟩;simp only at hi hS2 hK2 hT2⊢;have mr2:Cw b p∈Aw b p s2 S2 L2:=mR λ_ h=>h;have mw:ML gw es sw∈Aw b p s2 S2 L2:=mG (λ_ h=>h) _ (by obtain⟨X,rfl⟩:=hT2;simp);by_cases hlt:i<es.length
  ·obtain⟨t,ht⟩: ∃t,es.getD i 0=t:=⟨_,rfl⟩
   have c0:(toArray (es.map CG++sw))[i*1]?=some (.int .i64 t):=by rw[Df,<-ht];exact Qg hlt
   refine Aj ?_;refine FI ?_;intro S3 s3 L3 hS3 hK3 hT3 mr3;refine Aj ?_;exact BV (i+1,S3,s3,L3) ⟨by simp only;omega,by simp only;unfold jz;rw[Us hlt,EO,ht];exact hS3.trans (by rw[hS2];rfl),hK3,hT3.trans hT2⟩ (by simp only;omega) ⟨rfl,rfl,rfl,rfl,rfl,trivial⟩ .refl
  ·rw[Bv Af] at hS2;refine Aj ?_;refine FI ?_;intro S3 s3 L3 hS3 hK3 hT3 mr3;refine Aj ?_;rw[hS2] at hS3;exact AW [D] _ rfl .refl (by exact A8) (.drop (.drop .refl)) ⟨rfl,s3,L3,by rw[<-hS3];exact hK3,hT3.trans (hT2.trans (Tail.trans ⟨cl++[ML gw es sw],by simp⟩ hT1)),by rw[<-hS3]⟩
 ·rintro D c pre l h;exact h.elim
instance{x:Ce}:EK prog F C b p 290 [pV b,Fz x] k S k (iV (Pr S x).1) (Pr S x).2:=⟨λs G h=>rI h x⟩
end
section
def NE(S:KT)(x:Ce):(Int×Int)×KT:=if ¬SE S x=0 then((0,SE S x),S) else((((Pr S x).1:Nat),0),(Pr S x).2)
theorem uT(hK:IsK F C k S p s)(x:Ce):Fn prog 213 [pV b,Fz x] (Aw b p s S G) (KK F C b p k (.tuple #[iV (NE S x).1.1,iV (NE S x).1.2]) (NE S x).2 G):=by
 have mr:Cw b p∈Aw b p s S G:=mR λ_ h=>h;obtain⟨R,hR⟩: ∃R,NE S x=R:=⟨_,rfl⟩
 rw[hR];unfold NE at hR;refine AM func213 ntmps213 λE=>?_;refine AO λb3=>?_;refine El ?_;obtain⟨e,he⟩: ∃e,SE S x=e:=⟨_,rfl⟩
 rw[he] at hR⊢;by_cases h0:e=0
 case neg=>rw[Ad h0] at hR;subst hR;refine Aj ?_;exact A5
 rw[Ac (λh=>h h0)] at hR;subst hR;refine Aj ?_;refine FI ?_;intro S1 s1 L1 hS1 hK1 hT1 mr1;refine Aj ?_;exact A5
instance{x:Ce}:EK prog F C b p 213 [pV b,Fz x] k S k (.tuple #[iV (NE S x).1.1,iV (NE S x).1.2]) (NE S x).2:=⟨λs G h=>uT h x⟩
def revR:Nat->KT->Ce->Nat->Nat->(Int×Int)×KT
 |0,S,_,_,n=>((n,0),S)
 |m+1,S,x,bu,n=>
  if ¬SE S x=0 then((n,0),S) else match Tr.belowD S.H.2 x with
  |[]=>((n,0),S)
  |y::_=>if n=bu then((n,17),S) else revR m (Pr S y).2 x bu (n+1)
def Oc(S:KT)(x:Ce)(bu:Int):(Int×Int)×KT:=
 if ¬SE S x=0 then((0,SE S x),S) else if bu<1\/64<bu then((0,2),S) else revR (bu.toNat+1) S x bu.toNat 0
theorem rJ:(A++(c::Aw b p s S G)).Perm (c::Aw b p s S (A++G)):=by unfold Aw;exact BR
theorem uU(hK:IsK F C k S p s)(x:Ce)(bu:Int):Fn prog 214 [pV b,Fz x,.int .i64 bu] (Aw b p s S G) (KK F C b p k (.tuple #[iV (Oc S x bu).1.1,iV (Oc S x bu).1.2]) (Oc S x bu).2 G):=by
 have mr:Cw b p∈Aw b p s S G:=mR λ_ h=>h;obtain⟨R,hR⟩: ∃R,Oc S x bu=R:=⟨_,rfl⟩
 rw[hR];unfold Oc at hR;refine AM func214 ntmps214 λE=>?_;refine AO λb4=>?_;refine El ?_;obtain⟨e,he⟩: ∃e,SE S x=e:=⟨_,rfl⟩
 rw[he] at hR⊢;by_cases h0:e=0
 case neg=>rw[Ad h0] at hR;subst hR;refine Aj ?_;exact A5
 rw[Ac (λh=>h h0)] at hR;by_cases h1:bu<1\/64<bu
 ·rw[Ad h1] at hR;subst hR;by_cases h2:bu<1<;>by_cases h3:64<bu;all_goals first
   |(exfalso;omega)
   |(refine Aj ?_
     exact A5)
 rw[Ac h1] at hR;obtain⟨h2,h3⟩:¬bu<1/\¬64<bu:=by omega
 obtain⟨w,rfl⟩: ∃w:Nat,bu=w:=⟨bu.toNat,Af⟩
 rw[AY] at hR;refine Aj ?_;refine CE (α:=Nat×KT×RL×List Ab) (λy=>[(0,pV b),(2,.int .i64 (w:Nat)),(4,pV b4),(9,.int .i64 y.1)]) (λy=>Ul b4 x::Aw b p y.2.2.1 y.2.1 y.2.2.2) (λy=>y.1<=w/\revR (w-y.1+1) y.2.1 x w y.1=R/\IsK F C k y.2.1 p y.2.2.1/\Tail y.2.2.2 G) (λy=>w-y.1) (0,S,s,G) ⟨Bl _,hR,hK,.nil⟩ ⟨rfl,rfl,rfl,rfl,trivial⟩ .refl ?_;rintro⟨n,S1,s1,L1⟩ ⟨hn,hR1,hK1,hT1⟩;simp only at hn hR1 hK1 hT1⊢;have mr1:Cw b p∈Aw b p s1 S1 L1:=mR λ_ h=>h;obtain⟨m8,h81,h82,_,h83⟩:=hK1.small;unfold revR at hR1;refine Aj ?_;refine El ?_;obtain⟨e1,he1⟩: ∃e,SE S1 x=e:=⟨_,rfl⟩
 rw[he1] at hR1⊢;by_cases h4:e1=0
 case neg=>rw[Ad h4] at hR1;subst hR1;refine Aj ?_;exact A5
 rw[Ac (λh=>h h4)] at hR1;refine Aj ?_;refine Cn (Ck [3] 0 5) ?_;refine Cs ?_;refine JS (Az rfl rfl (R9 p.h S1.H s1.H hK1.ho Af x _ λy hy=> .tail _ (mH (λ_ h=>h) y hy))) ?_ rfl rfl;rintro sl _ ⟨cs,ho,rfl⟩;refine Cs ?_;refine JF (.of_perm rJ) ?_;have mr2:Cw b p∈Aw b p s1 S1 (cs++L1):=mR λ_ h=>h;have hT2:Tail (cs++L1) G:=hT1.step cs;cases hD:Tr.belowD S1.H.2 x with
 |nil=>rw[hD] at hR1 ho;simp only at hR1;subst hR1;obtain⟨pp,cap,hsh⟩:=ho.shape;rw[ER] at hsh;rw[hsh];refine Aj ?_;exact A5
 |cons y r=>
 rw[hD] at hR1 ho;simp only at hR1;obtain⟨gb,cap,sp,rfl,rfl⟩:=Mr ho (by simp);have hl:0<(y::r).length:=by simp
 obtain⟨z1,z2⟩:=aE (ys:=y::r) (i:=0) (x:=y) rfl sp;have mw:vY gb (y::r) sp∈Aw b p s1 S1 ([vY gb (y::r) sp]++L1):=mG (λ_ h=>h) _ (by simp);obtain⟨ln,hln⟩: ∃ln:Nat,(y::r).length=ln:=⟨_,rfl⟩
 rw[hln] at hl⊢;by_cases h5:n=w
 ·rw[Ad h5] at hR1;subst hR1;refine Aj ?_;exact A5
 rw[Ac h5] at hR1;have h6:¬(n:Int)=(w:Int):=by omega
 refine Aj ?_;refine Bb (Dn rfl (.tail _ mw) z1 z2) ?_;refine Aj ?_;refine FI ?_;intro S2 s2 L2 hS2 hK2 hT3 mr3;refine Aj ?_;exact BV (n+1,S2,s2,L2) ⟨by simp only;omega,by simp only;rw[hS2,show w-(n+1)+1=w-n by omega];exact hR1,hK2,hT3.trans hT2⟩ (by simp only;omega) ⟨rfl,rfl,rfl,rfl,trivial⟩ .refl
instance{x:Ce}{bu:Int}:EK prog F C b p 214 [pV b,Fz x,.int .i64 bu] k S k (.tuple #[iV (Oc S x bu).1.1,iV (Oc S x bu).1.2]) (Oc S x bu).2:=⟨λs G h=>uU h x bu⟩
end
section
variable{fr:Fr}{R:List Ab}{d:Option Nat}{aft:Array Edge}{x y:Operand}
theorem dJ{Q:Value->List Ab->Prop}{off:Nat}{l:List Ab}{cs:Array Value}(hc:ly P t=true)(hv:cs[off]?=some v)(h:Q v l):sl P (part t cs off) l Q:=by have h2:=fG (P:=P) (f:=λv=>(pure v:Sem Value)) (Q:=Q) hc hv (by simpa only[Bj] using h);simpa using h2
theorem Vq{m:Nat}{ki:IntKind}{cs:Array Value}(hx:ev fr x=some (.agg cs))(hy:ev fr y=some (.int ki (m:Nat)))[c:AT P t n e k][co:OC P e](hk:k=1)(hi:m<n)(hv:cs[m]?=some v):OpQ P ro N fr R ⟨d,.index t x y,ty,pos,aft,g⟩ v:=BK rfl λρ l hρ _=>by
 obtain⟨inf,k1,k2,k3⟩:=Lv c.out;simp only[execOp,hρ x _ hx,hρ y _ hy];unfold Instr.index;simp only[asIntOf,AB,Bj];rw[EC k1];have h0:(0:Int)<=(m:Nat)/\((m:Nat):Int)<(n:Nat):=by omega
 simp only[Ad h0,AB,AY];rw[GV k2,k3,hk,Df];exact dJ co.out hv ⟨rfl,rfl⟩
end
structure In where
 op:Int
 a:Int
 b:Int
 c:Int
 n0:Int
 n1:Int
 n2:Int
 w:Int
 ms:MN
deriving DecidableEq
abbrev Qr(o:In):List Value:=[iV o.op,iV o.a,iV o.b,iV o.c,iV o.n0,iV o.n1,iV o.n2,Ba o.w,Ba o.ms.a,Ba o.ms.b,Ba o.ms.c,Ba o.ms.d]
abbrev v6(o:In):Value:= .agg (toArray (Qr o))
abbrev lg(b:Nat)(t:Int)(o:In)(x y:Ce):List Value:=[pV b,iV t,iV o.op,iV o.a,iV o.b,iV o.c,iV o.n0,iV o.n1,iV o.n2,Ba o.w,Ba o.ms.a,Ba o.ms.b,Ba o.ms.c,Ba o.ms.d,iV x.1,iV x.2,iV y.1,iV y.2]
abbrev NF(b:Nat)(t:Int)(o:In)(x y:Ce):Value:= .agg (toArray (lg b t o x y))
abbrev VL(B b:Nat)(t:Int)(o:In)(x y:Ce):Ab:=(B,.cells (toArray (lg b t o x y)) 293 (0,0))
section
theorem uV(hK:IsK F C k S p s)(t:Int)(o:In)(x y z:Ce)(kd:Int)(l:List Ab)(hl: ∀c,c∈Aw b p s S G->c∈l):Fn prog 282 [NF b t o x y,Fz z,.int .i64 kd] l λv l'=>v= .tuple #[U8 (DU S z),.bool (decide (E5 S z kd))]/\l'=l:=by
 have mr:Cw b p∈l:=mR hl;have I: ∀{f:Nat} {vs:List Value} {v:Value} [QF prog f vs (Aw b p s S G) v],QF prog f vs l v:=XE hl;refine AM func282 ntmps282 λE=>?_;refine AO λb3=>?_;refine AO λb4=>?_;refine AO λb6=>?_;refine Cn (Ck [8,9] 0 11) ?_;refine Cs ?_;obtain⟨c,hc⟩: ∃c,(getD' S.H.1 z).1=c:=⟨_,rfl⟩
 obtain⟨e,he⟩: ∃e,(getD' S.H.1 z).2=e:=⟨_,rfl⟩
 have hd:decide (E5 S z kd)=(decide (e=0)&&decide (c.kind=kd)):=by rw[JD,AR,H9,H9,H9];show(_=0/\(DU S z).kind=kd)<->_;rw[he,show DU S z=c from hc]
 rw[show DU S z=c from hc,hd,hc,he];refine Hm e_alloc (by rintro _ _ ⟨_,_,_,rfl⟩ c hc;exact .tail _ hc) ?_;rintro _ _ ⟨b8,_,rfl,rfl⟩;refine Cs ?_;refine Aj ?_;by_cases h1:e=0<;>by_cases h2:c.kind=kd;all_goals
  refine Ch [9] 11 ([Bq b8 c]) ?_ (hR:=(To BS));refine BM ?_;refine Aj ?_
  first|rw[At h1]|rw[Av h1]
  first|rw[At h2]|rw[Av h2]|skip
  simp only[Bool.and_true,Bp,IE,Be];exact AW [] _ rfl .refl (Cz rfl (.tail _ (.head _)) (As.LSub.of_all (n:=8) (BW c) rfl) (by exact A8)) (.drop (.drop (.drop (.drop .refl)))) ⟨rfl,rfl⟩
instance[h:IsK F C k S p s]{t:Int}{o:In}{x y z:Ce}{kd:Int}:QF prog 282 [NF b t o x y,Fz z,.int .i64 kd] (Aw b p s S G) (.tuple #[U8 (DU S z),.bool (decide (E5 S z kd))]):=⟨λl hl=>uV h t o x y z kd l hl⟩
def Y3(S:KT)(t:Int)(j:Nat):KT:=if Lh S.U j=t then(Li S j 0).2 else S
def n7(S:KT)(t:Int):KT:=(List.range S.K.length).foldl (λS j=>Y3 S t j) S
theorem dK(hK:IsK F C k S p s)(t:Int):Fn prog 304 [pV b,.int .i64 t] (Aw b p s S G) (KK F C b p k (.tuple #[]) (n7 S t) G):=by
 have mr:Cw b p∈Aw b p s S G:=mR λ_ h=>h;have hc1:=hK.c1;have hkl:=hK.kl;refine AM func304 ntmps304 λE=>?_;refine Aj ?_;refine El ?_;refine Aj ?_;refine El ?_;refine Aj ?_;refine CE (α:=Nat×KT×RL×List Ab) (λx=>[(0,pV b),(1,.int .i64 t),(7,.int .i64 (S.K.length:Nat)),(8,.int .i64 x.1)]) (λx=>Aw b p x.2.2.1 x.2.1 x.2.2.2) (λx=>x.1<=S.K.length/\x.2.1=(List.range x.1).foldl (λS j=>Y3 S t j) S/\IsK F C k x.2.1 p x.2.2.1/\Tail x.2.2.2 G) (λx=>S.K.length-x.1) (0,S,s,G) ⟨Bl _,rfl,hK,.nil⟩ ⟨rfl,rfl,rfl,rfl,trivial⟩ .refl ?_;rintro⟨j,S1,s1,L1⟩ ⟨hj,hS1,hK1,hT1⟩;simp only at hj hS1 hK1 hT1⊢;have mr1:Cw b p∈Aw b p s1 S1 L1:=mR λ_ h=>h;have hs:(List.range (j+1)).foldl (λS j=>Y3 S t j) S=Y3 S1 t j:=by rw[Cu,EO,<-hS1];rfl
 by_cases hlt:j<S.K.length
 ·refine Aj ?_;refine El ?_;unfold Y3 at hs;obtain⟨u,hu⟩: ∃u,Lh S1.U j=u:=⟨_,rfl⟩
  rw[hu] at hs⊢;by_cases h0:u=t
  ·rw[Ad h0] at hs;refine Aj ?_;refine FI ?_;intro S2 s2 L2 hS2 hK2 hT2 mr2;refine Aj ?_;exact BV (j+1,S2,s2,L2) ⟨by simp only;omega,by simp only;exact hS2.trans hs.symm,hK2,hT2.trans hT1⟩ (by simp only;omega) ⟨rfl,rfl,rfl,rfl,trivial⟩ .refl
  ·rw[Ac h0] at hs;refine Aj ?_;exact BV (j+1,S1,s1,L1) ⟨by simp only;omega,by simp only;exact hs.symm,hK1,hT1⟩ (by simp only;omega) ⟨rfl,rfl,rfl,rfl,trivial⟩ .refl
 ·obtain rfl:j=S.K.length:=by omega
  refine Aj ?_;exact A5
instance{t:Int}:EK prog F C b p 304 [pV b,.int .i64 t] k S k (.tuple #[]) (n7 S t):=⟨λs G h=>dK h t⟩
def Vr(S:KT)(t:Int):KT:=n7 {S with Q:=(Qu.backQ S.Q t).2} t
theorem jA(hK:IsK F C k S p s)(t:Int)(o:In)(x y:Ce):Fn prog 221 [NF b t o x y] (Aw b p s S G) (KK F C b p k (iV 0) (Vr S t) G):=by have mr:Cw b p∈Aw b p s S G:=mR λ_ h=>h;unfold Vr;refine AM func221 ntmps221 λE=>?_;refine AO λb1=>?_;refine Cn (Ck [5] 0 6) ?_;refine Cs ?_;refine LN ?_;intro S1 s1 L1 hS1 hK1 hT1 mr1;rw[<-hS1];refine Cs ?_;refine Aj ?_;refine FI ?_;intro S2 s2 L2 hS2 hK2 hT2 mr2;refine Aj ?_;exact A5
def aJ(n:Int):Int:=if n=0 then 2 else if n=1 then 5 else 8
def MD(S:KT)(n:Int)(x y:Ce):Int×KT:=
 if ¬E5 S x 9\/¬E5 S y (aJ n) then(8,S)
 else((Fs S.H y ((DU S x).obj,n) (D4 (DJ S.H.1 y) 7)).1,{S with H:=(Fs S.H y ((DU S x).obj,n) (D4 (DJ S.H.1 y) 7)).2})
theorem rK(hK:IsK F C (k+1) S p s)(t:Int)(o:In)(x y:Ce)(hn:0<=o.n0/\o.n0<=2):Fn prog 222 [NF b t o x y] (Aw b p s S G) (KK F C b p k (iV (MD S o.n0 x y).1) (MD S o.n0 x y).2 G):=by
 have mr:Cw b p∈Aw b p s S G:=mR λ_ h=>h;obtain⟨R,hR⟩: ∃R,MD S o.n0 x y=R:=⟨_,rfl⟩
 rw[hR];unfold MD at hR;obtain⟨n,hn0⟩: ∃n:Nat,o.n0=n:=⟨o.n0.toNat,Af⟩
 have hn3:n<3:=by omega
 have z0:(toArray (lg b t o x y))[2+4+(0:Int).toNat*1]?=some (iV o.n0):=rfl;have hv:(toArray [iV 2,iV 5,iV 8])[n]?=some (iV (aJ o.n0)):=by
  rw[hn0];have:n=0\/n=1\/n=2:=by omega
  rcases this with rfl|rfl|rfl<;>rfl
 refine AM func222 ntmps222 λE=>?_;refine AO λb1=>?_;refine El (vs:=[NF b t o x y,Fz x,.int .i64 9]) ?_;obtain⟨c,hc⟩: ∃c,DU S x=c:=⟨_,rfl⟩
 rw[hc] at hR⊢;refine AO λb3=>?_;refine Cn (Ck [13,14] 0 16) ?_;refine Cs ?_;refine V8 ?_ (Gf (zs:=[iV 0,iV 0,iV 0]) (cs:=[iV 2,iV 5,iV 8]) rfl rfl);refine Cs ?_;refine V8 (v:=iV (aJ o.n0)) ?_ (by refine Vq (m:=n) rfl (by rw[<-hn0];rfl) rfl hn3 hv);obtain⟨w,hw⟩: ∃w,aJ o.n0=w:=⟨_,rfl⟩
 rw[hw] at hR⊢;refine xU (vs:=[NF b t o x y,Fz y,.int .i64 w]) ?_;obtain⟨d,hd⟩: ∃d,DU S y=d:=⟨_,rfl⟩
 rw[hd];refine Cs ?_;refine Hm e_alloc (by rintro _ _ ⟨_,_,_,rfl⟩ c hc;exact .tail _ hc) ?_;rintro _ _ ⟨b5,_,rfl,rfl⟩;refine Cs ?_;by_cases h0:¬E5 S x 9\/¬E5 S y w
 ·rw[Ad h0] at hR;subst hR;by_cases h1:E5 S x 9<;>by_cases h2:E5 S y w;all_goals first
   |(exfalso;simp[h1,h2] at h0;done)
   |(simp only[h1,h2,F7,Hk]
     refine Aj ?_;exact A5)
 rw[Ac h0] at hR;subst hR;obtain⟨h1,h2⟩:E5 S x 9/\E5 S y w:=by simpa using h0
 simp only[h1,h2,F7];refine Aj ?_;refine Cn (Ck [12] 0 14) ?_;refine Cs ?_;obtain⟨z,hz⟩: ∃z:Ce,(c.obj,o.n0)=z:=⟨_,rfl⟩
 try rw[hz] at hR
 try rw[hz]
 refine LN (vs:=[pV p.h,Fz y,Fz z,.int .i64 7]) ?_ (hy:=by subst hz;rfl);intro S1 s1 L1 hS1 hK1 hT1 mr1;refine Cs ?_;refine Aj ?_;exact A5
end
def S8(m e:Int)(n:Nat):List (Int×Int):=(List.range n).map λi:Nat=>(m+(i:Int)*e,m+(i:Int)*e+e)
theorem Xa(m e:Int)(h:i<=n):(S8 m e n).take i=S8 m e i:=by unfold S8;rw[<-Gx,Gr,Ev h]
theorem SG(m e:Int)(n:Nat):S8 m e (n+1)=S8 m e n++[(m+(n:Int)*e,m+(n:Int)*e+e)]:=by unfold S8;rw[Cu,Aq];rfl
theorem aK(m e:Int)(h:i<n):S8 m e i++[(m+(i:Int)*e,m+(i:Int)*e+e)]<+:S8 m e n:=by rw[<-SG,<-Xa m e (show i+1<=n by omega)];exact BE _ _
abbrev yY(x:Int×Int):List Value:=[iV x.1,iV x.2]
theorem Y4(m e n:Int)(l:List Ab):Fn prog 324 [.int .i64 m,.int .i64 e,.int .i64 n] l λv l'=> ∃B3 B4 B5,v= .func (.func 361) #[] #[pV B5,pV B3,pV B4]/\l'=BJ B5 n::BJ B4 e::BJ B3 m::l:=by refine AM func324 ntmps324 λE=>?_;refine AO λb3=>?_;refine AO λb4=>?_;refine AO λb5=>?_;exact A9 .refl ⟨_,_,_,rfl,rfl⟩
theorem Xb(B3 B4 B5:Nat)(m e:Int)(n:Nat)(hm:0<=m/\m<=64)(he:1<=e/\e<=64)(hn:n<=4):
 Fa prog 361 [pV B5,pV B3,pV B4] yY (λxs=>xs=S8 m e n) (λpre=>pre<+:S8 m e n) (λ_ l=>BJ B5 n∈l/\BJ B4 e∈l/\BJ B3 m∈l):=by
 refine⟨λr I Ix G0 hneed hY l G hG h0=>?_⟩;obtain⟨n1,n2,n3⟩:=hneed _ _ G hG h0;refine AM func361 ntmps361 λE=>?_;refine Aj ?_;refine CE (α:=Nat×List Ab) (λx=>[(0,.func (.yield r) #[] #[]),(1,pV B5),(2,pV B3),(3,pV B4),(6,.int .i64 n),(7,.int .i64 x.1)]) (λx=>x.2++G) (λx=>x.1<=n/\I (S8 m e x.1) x.2) (λx=>n-x.1) (0,l) ⟨Bl _,h0⟩ ⟨rfl,rfl,rfl,rfl,rfl,rfl,trivial⟩ .refl ?_;clear n1 n2 n3;rintro⟨k,l⟩ ⟨hk,hI⟩;simp only at hk hI⊢;obtain⟨n1,n2,n3⟩:=hneed _ _ G hG hI;by_cases hlt:k<n
 ·have hke:(k:Int)*e<=4*64:=Int.mul_le_mul Af Af Af Af;have hk0:0<=(k:Int)*e:=Int.mul_nonneg Af Af;have hy:=hY (S8 m e k) (m+(k:Int)*e,m+(k:Int)*e+e) l G hG hI (aK m e hlt);refine Aj ?_;refine AP (CQ rfl rfl hy) ?_;rintro v l' ⟨l1,rfl,⟨rfl,hI'⟩|⟨rfl,hx⟩⟩
  ·rw[<-SG] at hI';refine Aj ?_;exact BV (k+1,l1) ⟨by simp only;omega,hI'⟩ (by simp only;omega) ⟨rfl,rfl,rfl,rfl,rfl,rfl,trivial⟩ .refl
  ·refine Aj ?_;exact A9 .refl ⟨l1,rfl,.inr ⟨_,aK m e hlt,hx⟩⟩
 ·obtain rfl:k=n:=by omega
  refine Aj ?_;exact A9 .refl ⟨l,rfl,.inl ⟨_,rfl,hI⟩⟩
def Hd(t m e n:Int):(List Int×Int)×Int:=
 if t<0\/64<t\/m<0\/t<m\/e<1\/64<e\/n<1\/4<n then(([],0),2)
 else if e*n>t-m then(([],0),7)
 else(((S8 m e n.toNat).map Prod.fst,m+n*e),0)
theorem rL{m e:Int}{pre:List (Int×Int)}{x:Int×Int}(h:pre++[x]<+:S8 m e n):x=(m+(pre.length:Int)*e,m+(pre.length:Int)*e+e)/\pre.length<n/\pre=S8 m e pre.length:=by
 have hl:=h.length_le;have hn:(S8 m e n).length=n:=by unfold S8;simp
 rw[hn,Ai,Bh] at hl;have h2:=Ij.1 h;rw[Xa m e (by simp;omega),Ai,Bh,SG] at h2;obtain⟨h3,h4⟩:=I9 h2 rfl;exact⟨by simpa using h4,Af,h3⟩
theorem xb:((lo++cs)++c::T).Perm (lo++c::(cs++T)):=BR
theorem uW:(lo++c::(cs++T)).Perm (lo++(cs++c::T)):=BR
theorem dL(t m e n:Int)(l:List Ab):Fn prog 284 [.int .i64 t,.int .i64 m,.int .i64 e,.int .i64 n] l λv l'=> ∃sl cs,v= .tuple #[sl,iV (Hd t m e n).1.2,iV (Hd t m e n).2]/\OwnSl 3 1 sl (Hd t m e n).1.1.length ((Hd t m e n).1.1.map CG) cs/\l'=cs++l:=by
 obtain⟨R,hR⟩: ∃R,Hd t m e n=R:=⟨_,rfl⟩
 rw[hR];unfold Hd at hR;refine AM func284 ntmps284 λE=>?_;refine Aj ?_;by_cases h1:t<0
 ·rw[Ad Af] at hR;subst hR;refine Aj ?_;exact CF _ .refl .refl ⟨_,[],rfl,OwnSl.nil _ _,rfl⟩
 by_cases h2:64<t
 ·rw[Ad Af] at hR;subst hR;refine Aj ?_;exact CF _ .refl .refl ⟨_,[],rfl,OwnSl.nil _ _,rfl⟩
 by_cases h3:m<0
 ·rw[Ad Af] at hR;subst hR;refine Aj ?_;exact CF _ .refl .refl ⟨_,[],rfl,OwnSl.nil _ _,rfl⟩
 by_cases h4:t<m
 ·rw[Ad Af] at hR;subst hR;refine Aj ?_;exact CF _ .refl .refl ⟨_,[],rfl,OwnSl.nil _ _,rfl⟩
 by_cases h5:e<1
 ·rw[Ad Af] at hR;subst hR;refine Aj ?_;exact CF _ .refl .refl ⟨_,[],rfl,OwnSl.nil _ _,rfl⟩
 by_cases h6:64<e
 ·rw[Ad Af] at hR;subst hR;refine Aj ?_;exact CF _ .refl .refl ⟨_,[],rfl,OwnSl.nil _ _,rfl⟩
 by_cases h7:n<1
 ·rw[Ad Af] at hR;subst hR;refine Aj ?_;exact CF _ .refl .refl ⟨_,[],rfl,OwnSl.nil _ _,rfl⟩
 by_cases h8:4<n
 ·rw[Ad Af] at hR;subst hR;refine Aj ?_;exact CF _ .refl .refl ⟨_,[],rfl,OwnSl.nil _ _,rfl⟩
 rw[Ac Af] at hR;obtain⟨n,rfl⟩: ∃k:Nat,n=k:=⟨n.toNat,Af⟩
 rw[AY] at hR;have hke:e*(n:Int)<=64*4:=Int.mul_le_mul Af Af Af Af;have hk0:0<=e*(n:Int):=Int.mul_nonneg Af Af;refine Aj ?_;by_cases h9:e*(n:Int)>t-m
 ·rw[Ad h9] at hR;subst hR;refine Aj ?_;exact CF _ .refl .refl ⟨_,[],rfl,OwnSl.nil _ _,rfl⟩
 rw[Ac h9] at hR;subst hR;refine AO λb11=>?_;refine AO λb12=>?_;refine AP (Az rfl rfl (Y4 m e n _)) ?_;rintro _ _ ⟨B3,B4,B5,rfl,rfl⟩;refine Aj ?_;refine C0 (α:=Int×Int) (ps:=[60,61]) (lb:=[pV B5,pV B3,pV B4]) rfl (Xb B3 B4 B5 m e n Af Af Af) (λ_=>rfl) rfl
  (λpre l1=> ∃v cs,OwnSl 3 1 v pre.length ((pre.map Prod.fst).map CG) cs/\l1=[BJ B5 n,BJ B4 e,BJ B3 m,BJ b12 (m+(pre.length:Int)*e),Mz b11 v]++cs) (λ_ _ _=>False)
  [BJ B5 n,BJ B4 e,BJ B3 m,BJ b12 m,Mz b11 (.slice none 0 0)] l (λpre l1 X hX h=>by obtain⟨v,cs,ho,rfl⟩:=h;exact⟨by simp,by simp,by simp⟩) (by exact AS) ⟨_,[],OwnSl.nil _ _,by simp⟩ ?_ ?_ λ_ _ _ _ _ h=>h.elim
 ·rintro E r0 rec pre x l1 T ⟨fn,tmps,D,rfl⟩ hX ⟨v,cs,ho,rfl⟩ hsp;obtain⟨rfl,hlt,_⟩:=rL hsp;refine D3 (.of_perm xb) ?_;simp only[DG,Ae,Ag];refine Aj ?_;refine Cy (by exact DI) ?_;refine D3 (.of_perm (uW (lo:=[BJ B5 n,BJ B4 e,BJ B3 m,BJ b12 (m+(pre.length:Int)*e),Mz b11 v]))) ?_;simp only[Ae,Ag];obtain⟨w,hw⟩: ∃w,m+(pre.length:Int)*e=w:=⟨_,rfl⟩
  rw[hw];refine Aj ?_;refine AP (Kg (v:=iV w) rfl rfl) ?_;rintro _ _ ⟨bz,_,rfl,rfl⟩;refine Aj ?_;refine AP (GX (k:=1) (X:=[BJ B5 n,BJ B4 e,BJ B3 m,BJ b12 w,Mz b11 v]) (cs:=cs) (xs:=(pre.map Prod.fst).map CG) (n:=pre.length) (zs:=[iV 0]) (ws:=[iV w]) rfl rfl rfl ho rfl (by simp[Value.oneCell']) Af AX) ?_;rintro v2 _ ⟨cs2,ho2,rfl⟩;simp only[Ae,Ag];have o2:=Q3 ho2;refine Aj ?_;refine B0 ([BJ B5 n,BJ B4 e,BJ B3 m,BJ b12 (w+e),Mz b11 v2]++cs2) (by exact .refl) ?_;exact⟨v2,cs2,by rw[Ai,Aq,Aq];exact ho2,by
   have:m+((pre.length+1:Nat):Int)*e=m+(pre.length:Int)*e+e:=by rw[Int.natCast_add,Int.add_mul];omega
   rw[Ai,Bh,this,hw];rfl⟩
 ·rintro D xs l1 rfl ⟨v,cs,ho,rfl⟩;have hlen:(S8 m e n).length=n:=by unfold S8;simp
  rw[hlen] at ho⊢;simp only[Ae,Ag];refine Aj ?_;refine Cn (Ck [] 0 5) ?_;refine Cs ?_;refine Aj ?_;have hq2:m+(n:Int)*e=m+(n:Int)*e:=rfl;exact AW [D] _ rfl .refl (by exact A8) (by exact AS) ⟨v,cs,rfl,by rw[A3,hlen];exact ho,rfl⟩
def Xc(P:List Int)(nd ix:Int)(n:Nat):List (Int×Ce):=(List.range n).map λi:Nat=>(P.getD i 0,(nd,ix+(i:Int)))
theorem Xd(P:List Int)(nd ix:Int)(h:i<=n):(Xc P nd ix n).take i=Xc P nd ix i:=by unfold Xc;rw[<-Gx,Gr,Ev h]
theorem SH(P:List Int)(nd ix:Int)(n:Nat):Xc P nd ix (n+1)=Xc P nd ix n++[(P.getD n 0,(nd,ix+(n:Int)))]:=by unfold Xc;rw[Cu,Aq];rfl
theorem aL(P:List Int)(nd ix:Int)(h:i<n):Xc P nd ix i++[(P.getD i 0,(nd,ix+(i:Int)))]<+:Xc P nd ix n:=by rw[<-SH,<-Xd P nd ix (show i+1<=n by omega)];exact BE _ _
theorem aM(P:List Int)(nd ix:Int)(n:Nat):(Xc P nd ix n).length=n:=by unfold Xc;simp
theorem jB{P:List Int}{nd ix:Int}{pre:List (Int×Ce)}{x:Int×Ce}(h:pre++[x]<+:Xc P nd ix n):x=(P.getD pre.length 0,(nd,ix+(pre.length:Int)))/\pre.length<n/\pre=Xc P nd ix pre.length:=by have hl:=h.length_le;rw[aM,Ai,Bh] at hl;have h2:=Ij.1 h;rw[Xd P nd ix (by simp;omega),Ai,Bh,SH] at h2;obtain⟨h3,h4⟩:=I9 h2 rfl;exact⟨by simpa using h4,Af,h3⟩
abbrev yZ(x:Int×Ce):List Value:=[iV x.1,Fz x.2]
theorem Qk(v:Value)(hv:v.oneCell'=true)(nd ix:Int)(l:List Ab):Fn prog 285 [v,.int .i64 nd,.int .i64 ix] l λv' l'=> ∃B3 B4 B5,v'= .func (.func 325) #[] #[pV B3,pV B4,pV B5]/\l'=BJ B5 ix::BJ B4 nd::Mz B3 v::l:=by refine AM func285 ntmps285 λE=>?_;refine Aj ?_;refine AP (Eb rfl hv) ?_;rintro _ _ ⟨b3,_,rfl,rfl⟩;refine AO λb4=>?_;refine AO λb5=>?_;exact A9 .refl ⟨_,_,_,rfl,rfl⟩
theorem Ps(B3 B4 B5 gb cap:Nat)(P:List Int)(sp:List Value)(nd ix:Int)(hP:P.length<=4)(hx:0<=ix/\ix<=100):
 Fa prog 325 [pV B3,pV B4,pV B5] yZ (λxs=>xs=Xc P nd ix P.length) (λpre=>pre<+:Xc P nd ix P.length) (λ_ l=>Mz B3 (.slice (some ⟨gb,0,none⟩) P.length cap)∈l/\BJ B4 nd∈l/\BJ B5 ix∈l/\ML gb P sp∈l):=by
 refine⟨λr I Ix G0 hneed hY l G hG h0=>?_⟩;obtain⟨n1,n2,n3,n4⟩:=hneed _ _ G hG h0;refine AM func325 ntmps325 λE=>?_;refine Aj ?_;refine CE (α:=Nat×List Ab) (λx=>[(0,.func (.yield r) #[] #[]),(2,pV B4),(3,pV B5),(7,.slice (some ⟨gb,0,none⟩) P.length cap),(8,.int .i64 (P.length:Nat)),(9,.int .i64 x.1)]) (λx=>x.2++G) (λx=>x.1<=P.length/\I (Xc P nd ix x.1) x.2) (λx=>P.length-x.1) (0,l) ⟨Bl _,h0⟩ ⟨rfl,rfl,rfl,rfl,rfl,rfl,trivial⟩ .refl ?_;clear n1 n2 n3 n4;rintro⟨k,l⟩ ⟨hk,hI⟩;simp only at hk hI⊢;obtain⟨n1,n2,n3,n4⟩:=hneed _ _ G hG hI;by_cases hlt:k<P.length
 ·have hy:=hY (Xc P nd ix k) (P.getD k 0,(nd,ix+(k:Int))) l G hG hI (aL P nd ix hlt);obtain⟨t,ht⟩: ∃t,P.getD k 0=t:=⟨_,rfl⟩
  have c0:(toArray (P.map CG++sp))[k*1]?=some (.int .i64 t):=by rw[Df,<-ht];exact Qg hlt
  rw[ht] at hy;refine Aj ?_;refine AP (CQ (vs:=[iV t,Fz (nd,ix+(k:Int))]) rfl rfl hy) ?_;rintro v l' ⟨l1,rfl,⟨rfl,hI'⟩|⟨rfl,hx⟩⟩
  ·rw[<-ht,<-SH] at hI';refine Aj ?_;exact BV (k+1,l1) ⟨by simp only;omega,hI'⟩ (by simp only;omega) ⟨rfl,rfl,rfl,rfl,rfl,rfl,trivial⟩ .refl
  ·rw[<-ht] at hx;refine Aj ?_;exact A9 .refl ⟨l1,rfl,.inr ⟨_,aL P nd ix hlt,hx⟩⟩
 ·obtain rfl:k=P.length:=by omega
  refine Aj ?_;exact A9 .refl ⟨l,rfl,.inl ⟨_,rfl,hI⟩⟩
def N6(kind:Int):Int:=if kind=3 then 3 else if kind=8 then 7 else 0
theorem jC(kind:Int):0<=N6 kind/\N6 kind<=7:=by unfold N6;repeat' split<;>constructor<;>omega
def Oq(x:Ce)(kind size first:Int)(S:KT)(q:Int×Ce):KT:=
 {(I0 S kind size (first+q.1)).2 with H:=(Gz (I0 S kind size (first+q.1)).2.H x q.2 ⟨kind,(I0 S kind size (first+q.1)).1.1,N6 kind,0,0,0,0,0⟩).2}
def Ll(S:KT)(first:Int):List (Int×Ce)->Int->Option Int
 |[],c=>some c
 |q::r,c=>if ¬(getD' S.H.1 q.2).2=0 then none else Ll S first r (if ¬(DU S q.2).kind=0\/Ar.nextD S.A (first+q.1)=0 then 11 else c)
def Vs(S:KT)(x:Ce):Int:=if(Tr.belowD S.H.2 x).length=0 then 0 else(Ar.getD' S.A (DU S x).obj).1.ma
def IR(S:KT)(o:In)(x:Ce):(List Int×Int)×Int:=Hd (Ar.getD' S.A (DU S x).obj).1.fr (Vs S x) (Ar.framesD o.n0 o.n1) (o.n2/16)
def Vt(S:KT)(o:In)(x y:Ce):List (Int×Ce):=Xc (IR S o x).1.1 (DU S y).obj (o.n2%16) (IR S o x).1.1.length
def aN(S:KT)(id m:Int):Int×KT:=((Ar.markD' S.A id m).1,{S with A:=(Ar.markD' S.A id m).2})
def EY(S:KT)(o:In)(x y:Ce):Int×KT:=
 if ¬E5 S x 1\/¬E5 S y 2 then(8,S)
 else if ¬(IR S o x).2=0 then((IR S o x).2,S)
 else match Ll S (Ar.getD' S.A (DU S x).obj).1.fi (Vt S o x y) 0 with
 |none=>(3,S)
 |some code=>if ¬code=0 then(code,S) else aN ((Vt S o x y).foldl (Oq x o.n0 o.n1 (Ar.getD' S.A (DU S x).obj).1.fi) S) (DU S x).obj (IR S o x).1.2
theorem dM(t m e n:Int)(h:(Hd t m e n).2=0):1<=(Hd t m e n).1.1.length:=by
 unfold Hd S8 at h⊢
 split at h
 ·simp at h
 ·split at h
  ·simp at h
  ·rename_i h1 h2;rw[Ac h1,Ac h2];simp;omega
theorem Xe(S:KT)(fi c:Int)(q:Int×Ce)(r:List (Int×Ce)):Ll S fi (q::r) c=if ¬(getD' S.H.1 q.2).2=0 then none else Ll S fi r (if ¬(DU S q.2).kind=0\/Ar.nextD S.A (fi+q.1)=0 then 11 else c):=rfl
theorem dN(t m e n:Int): ∀u,u∈(Hd t m e n).1.1->0<=u/\u<=64:=by
 unfold Hd S8
 split
 ·simp
 split
 ·simp
 rename_i h1 h2;intro u hu;simp only[CJ,Au,Er] at hu;obtain⟨i,hi,rfl⟩:=hu;simp only[Function.comp];have h3:(i:Int)*e<=n*e:=Int.mul_le_mul_of_nonneg_right Af Af;have h4:0<=(i:Int)*e:=Int.mul_nonneg Af Af;have h5:n*e=e*n:=Int.mul_comm _ _;omega
theorem IsK.obfi(h:IsK F C k S p s)(id:Int):0<=(Ar.getD' S.A id).1.fi/\(Ar.getD' S.A id).1.fi<=64:=by
 have h2:=h.ar.ok.n2;unfold Ar.getD'
 split
 ·rename_i k hk;obtain⟨h3,h4,_⟩:=h.ar.ok.num _ (Vb hk);exact⟨h3,by dsimp only;omega⟩
 ·exact⟨by decide,by decide⟩
theorem dO(t m e n:Int):(Hd t m e n).1.1.length<=4:=by
 unfold Hd S8
 repeat' split
 all_goals simp
 omega
section
variable{Q1:Act->World->Prop}{Q2:Exit->Act->World->Prop}{c:Code}{fr:Fr}{l:List Ab}
theorem Ql{α:Type}(fx:α->Fr)(lx:α->List Ab)(pre:α->Prop)(h1:BH P ro N E c (Exit.then (ZH N E fx ds lx pre) Q2) fr ds l)(h2: ∀x,pre x->CO N E (Exit.then Q1 Q2) .normal (fx x) ds (lx x)):BH P ro N E c (Exit.then Q1 Q2) fr ds l:=
 ⟨λa W hf hds hs=>wpIn_mono (h1.run a W hf hds hs) λe a' W' h=>by
   cases e with
   |normal=>obtain⟨y,h3,h4,h5,h6⟩:=h;exact(h2 y h3).run a' W' h4 h5 h6
   |_=>exact h⟩
end
abbrev SI(B:Nat)(x:Int):Ab:=(B,.cells (toArray [iV x]) 29 (0,0))
abbrev aO(B:Nat)(o:Ar.ObT):Ab:=(B,.cells (toArray (Ar.obC o)) 100 (0,0))
section
instance n8{x y:Ce}{c:CapT}[hc:CW c]:EK prog F C b p 251 [pV p.h,Fz x,Fz y,U8 c] (k+1) S k (iV (Gz S.H x y c).1) {S with H:=(Gz S.H x y c).2}:=⟨λs G h=>mZ h Af (λn hn=>(hn.child x y c hc.out).mono Af) λn G hn h9=>R5 p.h S.H n hn h9 s.H h.ho x y c G⟩
theorem jD(hK:IsK F C (k+8) S p s)(t:Int)(o:In)(x y:Ce)(hn:0<=o.n2/\o.n2<=1000):Fn prog 210 [NF b t o x y] (Aw b p s S G) (KK F C b p k (iV (EY S o x y).1) (EY S o x y).2 G):=by
 have mr:Cw b p∈Aw b p s S G:=mR λ_ h=>h;obtain⟨m9,h91,h92,_,h93⟩:=hK.small;obtain⟨R,hR⟩: ∃R,EY S o x y=R:=⟨_,rfl⟩
 rw[hR];unfold EY at hR;have z0:(toArray (lg b t o x y))[2+4+(0:Int).toNat*1]?=some (iV o.n0):=rfl;have z1:(toArray (lg b t o x y))[2+4+(1:Int).toNat*1]?=some (iV o.n1):=rfl;have z2:(toArray (lg b t o x y))[2+4+(2:Int).toNat*1]?=some (iV o.n2):=rfl;refine AM func210 ntmps210 λE=>?_;refine AO λb1=>?_;refine AO λb2=>?_;refine El (vs:=[NF b t o x y,Fz x,.int .i64 1]) ?_;obtain⟨c,hc⟩: ∃c,DU S x=c:=⟨_,rfl⟩
 rw[hc] at hR⊢;refine AO λb3=>?_;refine El (vs:=[NF b t o x y,Fz y,.int .i64 2]) ?_;obtain⟨d,hd⟩: ∃d,DU S y=d:=⟨_,rfl⟩
 rw[hd];refine AO λb5=>?_;by_cases h0:¬E5 S x 1\/¬E5 S y 2
 ·rw[Ad h0] at hR;subst hR;by_cases h1:E5 S x 1<;>by_cases h2:E5 S y 2;all_goals first
   |(exfalso;simp[h1,h2] at h0;done)
   |(simp only[h1,h2,F7,Hk]
     refine Aj ?_;exact A5)
 rw[Ac h0] at hR;obtain⟨h1,h2⟩:E5 S x 1/\E5 S y 2:=by simpa using h0
 simp only[h1,h2,F7];refine Aj ?_;refine Cn (Ck [9,10] 0 12) ?_;refine Cs ?_;obtain⟨ob,hob⟩: ∃ob,(Ar.getD' S.A c.obj).1=ob:=⟨_,rfl⟩
 obtain⟨okb,hokb⟩: ∃k,(Ar.getD' S.A c.obj).2=k:=⟨_,rfl⟩
 rw[hob] at hR;rw[hob,hokb];refine Hm e_alloc (by rintro _ _ ⟨_,_,_,rfl⟩ c hc;exact .tail _ hc) ?_;rintro _ _ ⟨b7,_,rfl,rfl⟩;refine Cs ?_;refine Aj ?_;refine Cn (Ck [5] 0 8) ?_;refine Cs ?_;refine JS (Az rfl rfl (R9 p.h S.H s.H hK.ho Af x _ λy hy=> .tail _ (.tail _ (.tail _ (.tail _ (.tail _ (mH (λ_ h=>h) y hy))))))) ?_ rfl rfl;rintro sl _ ⟨cb,hob2,rfl⟩;obtain⟨pp,cap,rfl⟩:=hob2.shape;refine Cs ?_;refine Aj ?_;obtain⟨mk,hmk⟩: ∃m,Vs S x=m:=⟨_,rfl⟩
 have hmk0:=hmk;unfold Vs at hmk;rw[hc,hob] at hmk;refine Ql (α:=Unit) (λ_=>[(1,pV b1),(2,pV b2),(3,pV b3),(5,pV b5),(7,pV b7),(9,iV mk)]) (λ_=>[aO b7 ob,Bq b5 d,Bq b3 c,SI b2 0,VL b1 b t o x y]++Aw b p s S G) (λ_=>True) ?_ ?_
 ·by_cases hl:(Tr.belowD S.H.2 x).length=0
  ·rw[Ad hl] at hmk;subst hmk;refine Aj ?_;exact Ek () trivial ⟨rfl,rfl,rfl,rfl,rfl,rfl,trivial⟩ (Keep.dropL' cb .refl)
  ·rw[Ac hl] at hmk;subst hmk;refine Aj ?_;exact Ek () trivial ⟨rfl,rfl,rfl,rfl,rfl,rfl,trivial⟩ (Keep.dropL' cb .refl)
 rintro- -;simp only[Ae,Ag];refine Aj ?_;refine Ql (α:=Nat×Nat) (λz=>[(1,pV b1),(2,pV b2),(3,pV b3),(5,pV b5),(7,pV b7),(9,iV mk),(10,pV z.1),(11,pV z.2),(12,iV (o.n2%16))]) (λz=>[BJ z.1 o.n0,BJ z.2 o.n1,aO b7 ob,Bq b5 d,Bq b3 c,SI b2 0,VL b1 b t o x y]++Aw b p s S G) (λ_=>True) ?_ ?_
 ·refine KQ [(0,true),(1,true),(2,true),(3,true),(4,true),(5,true),(6,true),(7,true),(8,true),(9,true),(10,true),(11,true),(12,true),(13,false),(14,false),(15,false),(16,false),(17,true)] [[],[0],[0,1],[0,1,2],[],[4],[4,5],[4,5,6],[],[8],[8,9],[8,9,10],[8,9,10,11],[],[],[0,1,2,3,13,14],[0,1,2,3,4,5,6,7,13,14,15],[0,1,2,3,4,5,6,7,8,9,10,11,12,13,14,15,16]] 13 14 ([VL b1 b t o x y]) Bs Bs Gt ((To BS)) ?_;refine BM ?_;refine M3 [(14,false),(13,false),(15,false),(16,false),(17,true)] Gt (List.Perm.swap _ _ _) Bs ?_ ?_;all_goals
   refine CM e_alloc rfl rfl rfl ?_ ?_
   ·rintro _ _ ⟨_,_,_,rfl⟩ c hc;exact .tail _ (To BS c hc)
   rintro _ _ ⟨u,_,rfl,rfl⟩;refine CM e_alloc rfl rfl rfl ?_ ?_
   ·rintro _ _ ⟨_,_,_,rfl⟩ c hc;exact .tail _ (To BS c hc)
   rintro _ _ ⟨v,_,rfl,rfl⟩;refine BM ?_
   first
    |exact Ek (u,v) trivial ⟨rfl,rfl,rfl,rfl,rfl,rfl,rfl,rfl,rfl,trivial⟩ (.of_perm (.swap _ _ _))
    |exact Ek (v,u) trivial ⟨rfl,rfl,rfl,rfl,rfl,rfl,rfl,rfl,rfl,trivial⟩ .refl
 rintro⟨b10,b11⟩-;simp only[Ae,Ag];refine Aj ?_;refine Cn (Ck [11] 0 19) ?_;refine Cs ?_;refine JS (Az rfl rfl (dL ob.fr mk (Ar.framesD o.n0 o.n1) (o.n2/16) _)) ?_ rfl rfl;rintro _ _ ⟨sl,cs,rfl,Nl,rfl⟩;obtain⟨cv,hcv⟩: ∃cv,Hd ob.fr mk (Ar.framesD o.n0 o.n1) (o.n2/16)=cv:=⟨_,rfl⟩
 have hcr:IR S o x=cv:=by unfold IR;rw[hc,hob,hmk0];exact hcv
 have hcp:=dM ob.fr mk (Ar.framesD o.n0 o.n1) (o.n2/16);have hcl:=dO ob.fr mk (Ar.framesD o.n0 o.n1) (o.n2/16);rw[hcv] at Nl hcp hcl⊢;unfold Vt at hR;rw[hcr] at hR;refine Cs ?_;refine Aj ?_;by_cases h3:cv.2=0
 case neg=>rw[Ad h3] at hR;subst hR;refine D3 (Keep.dropL' cs .refl) ?_;refine Aj ?_;exact A5
 rw[Ac (λh=>h h3),hd] at hR;have hcp1:=hcp h3;obtain⟨P,hP⟩: ∃P,cv.1.1=P:=⟨_,rfl⟩
 obtain⟨en,hen⟩: ∃e,cv.1.2=e:=⟨_,rfl⟩
 rw[hP] at Nl hcl hcp1 hR;rw[hen] at hR;try rw[hen]
 obtain⟨gb,cap2,sp,rfl,rfl⟩:=Mr Nl hcp1;simp only[Ae,Ag];refine AO λb16=>?_;refine AP (Az rfl rfl (Qk _ rfl d.obj (o.n2%16) _)) ?_;rintro _ _ ⟨B3,B4,B5,rfl,rfl⟩;refine Aj ?_;have hfi:=hK.obfi c.obj;rw[hob] at hfi;have hPr: ∀u,u∈P->0<=u/\u<=64:=by rw[<-hP,<-hcv];exact dN _ _ _ _
 refine SA (F:=F) (C:=C) (b:=b) (p:=p) (G:=G) (α:=Int×Ce) (ps:=[102,103]) (lb:=[pV B3,pV B4,pV B5]) rfl (Ps B3 B4 B5 gb cap2 P sp d.obj (o.n2%16) hcl ⟨Af,Af⟩) (λ_=>rfl) rfl
  (λpre k' S' lo=>k'=k+8/\S=S'/\ ∃ca,(∀r,Ll S ob.fi (pre++r) 0=Ll S ob.fi r ca)/\lo=[BJ B5 (o.n2%16),BJ B4 d.obj,Mz B3 (.slice (some ⟨gb,0,none⟩) P.length cap2),SI b16 ca,ML gb P sp,BJ b10 o.n0,BJ b11 o.n1,aO b7 ob,Bq b5 d,Bq b3 c,SI b2 0,VL b1 b t o x y])
  (λc' pre k' S' lo=>c'= .ret/\k'=k+8/\S=S'/\(∀r,Ll S ob.fi (pre++r) 0=none)/\ ∃ca:Int,lo=[BJ B5 (o.n2%16),BJ B4 d.obj,Mz B3 (.slice (some ⟨gb,0,none⟩) P.length cap2),SI b16 ca,ML gb P sp,BJ b10 o.n0,BJ b11 o.n1,aO b7 ob,Bq b5 d,Bq b3 c,SI b2 3,VL b1 b t o x y])
  (λpre lo k S s L X h hK=>by obtain⟨_,_,_,_,rfl⟩:=h;exact⟨by simp,by simp,by simp,by simp⟩)
  (.refl:Keep _ ([BJ B5 (o.n2%16),BJ B4 d.obj,Mz B3 (.slice (some ⟨gb,0,none⟩) P.length cap2),SI b16 0,ML gb P sp,BJ b10 o.n0,BJ b11 o.n1,aO b7 ob,Bq b5 d,Bq b3 c,SI b2 0,VL b1 b t o x y]++Aw b p s S G)) ⟨rfl,rfl,0,λ_=>rfl,rfl⟩ hK ?_ ?_ ?_
 ·rintro E r0 rec pre ⟨fp,si,sj⟩ lo k' S' s' L T ⟨fn,tmps,D,rfl⟩ hT ⟨rfl,rfl,ca,hca,rfl⟩ hK' hsp mr';obtain⟨hq,hlt,hpre⟩:=jB hsp;have hfp:0<=fp/\fp<=64:=by
   have e1:fp=P.getD pre.length 0:=BN Prod.fst hq;rw[e1];exact hPr _ (by rw[List.getD,Al hlt];exact Hg hlt)
  have hst: ∀r,Ll S ob.fi ((pre++[(fp,(si,sj))])++r) 0=if ¬(getD' S.H.1 (si,sj)).2=0 then none else Ll S ob.fi r (if ¬(DU S (si,sj)).kind=0\/Ar.nextD S.A (ob.fi+fp)=0 then 11 else ca):=λr=>by rw[Am,Cb,hca,Xe]
  obtain⟨hh,hhh⟩: ∃c,(getD' S.H.1 (si,sj)).1=c:=⟨_,rfl⟩
  obtain⟨e,he⟩: ∃e,(getD' S.H.1 (si,sj)).2=e:=⟨_,rfl⟩
  rw[he,show DU S (si,sj)=hh from hhh] at hst;simp only[DG,Ae,Ag];refine AO λb18=>?_;refine Cy (by exact DI) ?_;refine Aj ?_;refine Cn (Ck [8,9] 0 11) ?_;refine Cs ?_;rw[hhh,he];refine Hm e_alloc (by rintro _ _ ⟨_,_,_,rfl⟩ c hc;exact .tail _ hc) ?_;rintro _ _ ⟨b19,_,rfl,rfl⟩;refine Cs ?_;refine Aj ?_;by_cases h5:e=0
  case neg=>refine Aj ?_;exact nE ([BJ B5 (o.n2%16),BJ B4 d.obj,Mz B3 (.slice (some ⟨gb,0,none⟩) P.length cap2),SI b16 ca,ML gb P sp,BJ b10 o.n0,BJ b11 o.n1,aO b7 ob,Bq b5 d,Bq b3 c,SI b2 3,VL b1 b t o x y]) (by exact AS) ⟨rfl,rfl,rfl,λr=>by rw[hst,Ad h5],ca,rfl⟩
  refine Aj ?_;obtain⟨nx,hnx⟩: ∃v,Ar.nextD S.A (ob.fi+fp)=v:=⟨_,rfl⟩
  rw[hnx] at hst;by_cases h6:hh.kind=0
  case' pos=>
   refine Ch [] 15 _ ?_ (hR:=(λ_ h=>h));refine BM ?_;refine TK ?_;refine BM ?_;refine TK ?_;rw[hnx];refine BM ?_;refine Aj ?_;by_cases h7:nx=0
   case' pos=>
    refine Aj ?_;exact dv ([BJ B5 (o.n2%16),BJ B4 d.obj,Mz B3 (.slice (some ⟨gb,0,none⟩) P.length cap2),SI b16 11,ML gb P sp,BJ b10 o.n0,BJ b11 o.n1,aO b7 ob,Bq b5 d,Bq b3 c,SI b2 0,VL b1 b t o x y]) (by exact AS) ⟨rfl,rfl,11,λr=>by rw[hst,Ac (λh=>h h5),Ad (.inr h7)],rfl⟩
   case' neg=>
    refine Aj ?_;exact dv ([BJ B5 (o.n2%16),BJ B4 d.obj,Mz B3 (.slice (some ⟨gb,0,none⟩) P.length cap2),SI b16 ca,ML gb P sp,BJ b10 o.n0,BJ b11 o.n1,aO b7 ob,Bq b5 d,Bq b3 c,SI b2 0,VL b1 b t o x y]) (by exact AS) ⟨rfl,rfl,ca,λr=>by rw[hst,Ac (λh=>h h5),Ac (by rintro(h|h);exact h h6;exact h7 h)],rfl⟩
  case' neg=>
   refine Ch [] 15 _ ?_ (hR:=(λ_ h=>h));refine BM ?_;refine Aj ?_;exact dv ([BJ B5 (o.n2%16),BJ B4 d.obj,Mz B3 (.slice (some ⟨gb,0,none⟩) P.length cap2),SI b16 11,ML gb P sp,BJ b10 o.n0,BJ b11 o.n1,aO b7 ob,Bq b5 d,Bq b3 c,SI b2 0,VL b1 b t o x y]) (by exact AS) ⟨rfl,rfl,11,λr=>by rw[hst,Ac (λh=>h h5),Ad (.inl h6)],rfl⟩
 case' refine_3=>
  rintro D c' pre lo k' S' s' L ⟨r,hr⟩ ⟨rfl,rfl,rfl,hcn,ca,rfl⟩ hK1 hT1 mr1;have hrc:=hcn r;rw[hr] at hrc;rw[hrc] at hR;dsimp only at hR;subst hR;simp only[Ae,Ag];refine Aj ?_;exact AW [D] _ rfl .refl (by exact A8) (Keep.dropL' [BJ B5 (o.n2%16),BJ B4 d.obj,Mz B3 (.slice (some ⟨gb,0,none⟩) P.length cap2),SI b16 ca,ML gb P sp,BJ b10 o.n0,BJ b11 o.n1,aO b7 ob,Bq b5 d,Bq b3 c,SI b2 3,VL b1 b t o x y] .refl) ⟨rfl,s',L,hK1.mono Af,hT1,rfl⟩
 rintro D xs lo k' S' s' L rfl ⟨rfl,rfl,ca,hca,rfl⟩ hK1 hT1 mr1;have hrc:=hca [];rw[Bf] at hrc;rw[hrc] at hR;unfold Ll at hR;dsimp only at hR;simp only[Ae,Ag];refine Aj ?_;by_cases h8:ca=0
 case neg=>rw[Ad h8] at hR;subst hR;refine Aj ?_;exact AW [D] _ rfl .refl (by exact A8) (Keep.dropL' [BJ B5 (o.n2%16),BJ B4 d.obj,Mz B3 (.slice (some ⟨gb,0,none⟩) P.length cap2),SI b16 ca,ML gb P sp,BJ b10 o.n0,BJ b11 o.n1,aO b7 ob,Bq b5 d,Bq b3 c,SI b2 ca,VL b1 b t o x y] .refl) ⟨rfl,s',L,hK1.mono Af,hT1,rfl⟩
 rw[Ac (λh=>h h8)] at hR;refine Aj ?_;refine AP (Az rfl rfl (Qk _ rfl d.obj (o.n2%16) _)) ?_;rintro _ _ ⟨B6,B7,B8,rfl,rfl⟩;refine Aj ?_;refine SA (F:=F) (C:=C) (b:=b) (p:=p) (G:=L) (α:=Int×Ce) (ps:=[138,139]) (lb:=[pV B6,pV B7,pV B8]) (lo:=[BJ B8 (o.n2%16),BJ B7 d.obj,Mz B6 (.slice (some ⟨gb,0,none⟩) P.length cap2),ML gb P sp,Cf D,BJ b10 o.n0,BJ b11 o.n1,aO b7 ob,Bq b3 c,Bq b5 d,SI b2 0,VL b1 b t o x y]) (s:=s') (S:=S) rfl (Ps B6 B7 B8 gb cap2 P sp d.obj (o.n2%16) hcl ⟨Af,Af⟩) (λ_=>rfl) rfl
  (λpre k' S' lo=>k'+2*pre.length=k+8/\S'=pre.foldl (Oq x o.n0 o.n1 ob.fi) S/\lo=[BJ B8 (o.n2%16),BJ B7 d.obj,Mz B6 (.slice (some ⟨gb,0,none⟩) P.length cap2),ML gb P sp,Cf D,BJ b10 o.n0,BJ b11 o.n1,aO b7 ob,Bq b3 c,Bq b5 d,SI b2 0,VL b1 b t o x y])
  (λ_ _ _ _ _=>False)
  (λpre lo k S s L X h hK=>by obtain⟨_,_,rfl⟩:=h;exact⟨by simp,by simp,by simp,by simp⟩)
  (by exact AS) ⟨rfl,rfl,rfl⟩ hK1 ?_ ?_ (λ_ _ _ _ _ _ _ _ _ h=>h.elim)
 ·rintro E r0 rec pre ⟨fp,si,sj⟩ lo k' S' s2 L2 T ⟨fn,tmps,D2,rfl⟩ hT ⟨hk',hS',rfl⟩ hK' hsp mr';obtain⟨hq,hlt,hpre⟩:=jB hsp;have hfp:0<=fp/\fp<=64:=by
   have e1:fp=P.getD pre.length 0:=BN Prod.fst hq;rw[e1];exact hPr _ (by rw[List.getD,Al hlt];exact Hg hlt)
  obtain⟨k2,rfl⟩: ∃j,k'=j+2:=⟨k'-2,Af⟩
  simp only[DG,Ae,Ag];refine AO λb22=>?_;refine Cy (by exact DI) ?_;refine Aj ?_;refine FI ?_;intro S1 s1 L1 hS1 hK1' hT1' mr1';obtain⟨id,hid⟩: ∃i,(I0 S' o.n0 o.n1 (ob.fi+fp)).1.1=i:=⟨_,rfl⟩
  rw[hid];refine AO λb25=>?_;obtain⟨rg,hrg⟩: ∃r,N6 o.n0=r:=⟨_,rfl⟩
  have hrg0:=hrg;have hrr:=jC o.n0;rw[hrg] at hrr;have hcw:CW ⟨o.n0,id,rg,0,0,0,0,0⟩:=⟨by constructor<;>dsimp only<;>omega⟩
  unfold N6 at hrg;by_cases h9:o.n0=3
  case' pos=>
   rw[Ad h9] at hrg;refine Aj ?_
  case' neg=>
   rw[Ac h9] at hrg;refine Aj ?_;by_cases h10:o.n0=8
   case' pos=>
    rw[Ad h10] at hrg;refine Aj ?_
   case' neg=>
    rw[Ac h10] at hrg;refine Aj ?_
  all_goals
   refine Cn (Ck [7] 0 8) ?_;refine Cs ?_;refine LN (vs:=[pV p.h,Fz x,Fz (si,sj),U8 ⟨o.n0,id,rg,0,0,0,0,0⟩]) ?_ (hy:=by rw[<-hrg];rfl) (q:=n8 (x:=x) (y:=(si,sj)) (c:=⟨o.n0,id,rg,0,0,0,0,0⟩));intro S2 s3 L3 hS2 hK2 hT2 mr2;refine Cs ?_;refine Aj ?_;exact dv (k:=k2) ([BJ B8 (o.n2%16),BJ B7 d.obj,Mz B6 (.slice (some ⟨gb,0,none⟩) P.length cap2),ML gb P sp,Cf D,BJ b10 o.n0,BJ b11 o.n1,aO b7 ob,Bq b3 c,Bq b5 d,SI b2 0,VL b1 b t o x y]) (by exact AS) ⟨by rw[Ai,Bh];omega,by rw[EO,D5,FY,<-hS'];unfold Oq;rw[hid,hrg0,<-hS1];exact hS2,rfl⟩
 rintro D2 xs lo k' S' s2 L2 rfl ⟨hk',hS',rfl⟩ hK2 hT2 mr2;rw[aM] at hk';simp only[Ae,Ag];have hR2:aN S' c.obj en=R:=by rw[hS'];exact hR
 unfold aN at hR2;refine Aj ?_;refine Cn (Ck [6,7] 0 8) ?_;refine Cs ?_;simp only[AL,AK,AQ];refine LN ?_;intro S3 s3 L3 hS3 hK3 hT3 mr3;rw[<-hS3] at hR2;refine Cs ?_;refine Aj ?_;subst hR2;exact AW [D2,D] _ rfl (by exact AS) (by exact A8) (.drop (.drop (.drop (.drop (.drop (.drop (.drop (.drop (.drop (.drop (.drop .refl))))))))))) ⟨rfl,s3,L3,hK3.mono Af,hT3.trans (hT2.trans hT1),rfl⟩
end
section
def HV(S:KT)(n:Int)(x:Ce):Int×KT:=if ¬E5 S x 9 then(8,S) else((NE S ((DU S x).obj,n)).1.2,(NE S ((DU S x).obj,n)).2)
def HW(S:KT)(x:Ce):Int×KT:=if ¬E5 S x 9 then(8,S) else if ¬(DB S (DU S x).obj).st=0 then(16,S) else Mm S (DU S x).obj 1
def Gv(S:KT)(x:Ce):Int×KT:=if ¬E5 S x 9 then(8,S) else Ha S (DU S x).obj
def aP(S:KT)(id pr:Int):KT:=if(Qu.dropQ S.Q id).1=true then{S with Q:=(Qu.addQ (Qu.dropQ S.Q id).2 id pr).2} else{S with Q:=(Qu.dropQ S.Q id).2}
def ME(S:KT)(n:Int)(x:Ce):Int×KT:=
 if ¬E5 S x 9 then(8,S) else(0,aP (Dw S {DB S (DU S x).obj with pr:=n}) (DB S (DU S x).obj).id n)
theorem jE(hK:IsK F C k S p s)(t:Int)(o:In)(x y:Ce):Fn prog 223 [NF b t o x y] (Aw b p s S G) (KK F C b p k (iV (HV S o.n0 x).1) (HV S o.n0 x).2 G):=by
 have mr:Cw b p∈Aw b p s S G:=mR λ_ h=>h;obtain⟨R,hR⟩: ∃R,HV S o.n0 x=R:=⟨_,rfl⟩
 rw[hR];unfold HV at hR;have z0:(toArray (lg b t o x y))[2+4+(0:Int).toNat*1]?=some (iV o.n0):=rfl;refine AM func223 ntmps223 λE=>?_;refine AO λb1=>?_;refine El (vs:=[NF b t o x y,Fz x,.int .i64 9]) ?_;obtain⟨c,hc⟩: ∃c,DU S x=c:=⟨_,rfl⟩
 rw[hc] at hR⊢;refine AO λb3=>?_;by_cases h1:E5 S x 9
 case neg=>rw[Ad h1] at hR;subst hR;simp only[h1,Hk];refine Aj ?_;exact A5
 rw[Ac (λh=>h h1)] at hR;simp only[h1,F7];refine Aj ?_;obtain⟨z,hz⟩: ∃z:Ce,(c.obj,o.n0)=z:=⟨_,rfl⟩
 rw[hz] at hR;refine FI (vs:=[pV b,Fz z]) ?_ (hy:=by subst hz;rfl);intro S1 s1 L1 hS1 hK1 hT1 mr1;refine Aj ?_;subst hR;exact A5
theorem jF(hK:IsK F C (k+1) S p s)(t:Int)(o:In)(x y:Ce):Fn prog 224 [NF b t o x y] (Aw b p s S G) (KK F C b p k (iV (HW S x).1) (HW S x).2 G):=by
 have mr:Cw b p∈Aw b p s S G:=mR λ_ h=>h;obtain⟨R,hR⟩: ∃R,HW S x=R:=⟨_,rfl⟩
 rw[hR];unfold HW at hR;refine AM func224 ntmps224 λE=>?_;refine AO λb1=>?_;refine El (vs:=[NF b t o x y,Fz x,.int .i64 9]) ?_;obtain⟨c,hc⟩: ∃c,DU S x=c:=⟨_,rfl⟩
 rw[hc] at hR⊢;refine AO λb3=>?_;by_cases h1:E5 S x 9
 case neg=>rw[Ad h1] at hR;subst hR;simp only[h1,Hk];refine Aj ?_;exact A5
 rw[Ac (λh=>h h1)] at hR;simp only[h1,F7];refine Aj ?_;refine Cn (Ck [9,10] 0 12) ?_;refine Cs ?_;obtain⟨u,hu⟩: ∃u,DB S c.obj=u:=⟨_,rfl⟩
 rw[hu] at hR⊢;refine Hm e_alloc (by rintro _ _ ⟨_,_,_,rfl⟩ c hc;exact .tail _ hc) ?_;rintro _ _ ⟨b5,_,rfl,rfl⟩;refine Cs ?_;by_cases h2:u.st=0
 case neg=>rw[Ad h2] at hR;subst hR;refine Aj ?_;exact A5
 rw[Ac (λh=>h h2)] at hR;refine Aj ?_;refine FI ?_;intro S1 s1 L1 hS1 hK1 hT1 mr1;refine Aj ?_;subst hR;exact A5
theorem dP(hK:IsK F C k S p s)(t:Int)(o:In)(x y:Ce):Fn prog 225 [NF b t o x y] (Aw b p s S G) (KK F C b p k (iV (Gv S x).1) (Gv S x).2 G):=by
 have mr:Cw b p∈Aw b p s S G:=mR λ_ h=>h;obtain⟨R,hR⟩: ∃R,Gv S x=R:=⟨_,rfl⟩
 rw[hR];unfold Gv at hR;refine AM func225 ntmps225 λE=>?_;refine AO λb1=>?_;refine El (vs:=[NF b t o x y,Fz x,.int .i64 9]) ?_;obtain⟨c,hc⟩: ∃c,DU S x=c:=⟨_,rfl⟩
 rw[hc] at hR⊢;refine AO λb3=>?_;by_cases h1:E5 S x 9
 case neg=>rw[Ad h1] at hR;subst hR;simp only[h1,Hk];refine Aj ?_;exact A5
 rw[Ac (λh=>h h1)] at hR;simp only[h1,F7];refine Aj ?_;refine FI ?_;intro S1 s1 L1 hS1 hK1 hT1 mr1;refine Aj ?_;subst hR;exact A5
theorem rM(hK:IsK F C (k+1) S p s)(t:Int)(o:In)(x y:Ce):Fn prog 226 [NF b t o x y] (Aw b p s S G) (KK F C b p k (iV (ME S o.n0 x).1) (ME S o.n0 x).2 G):=by
 have mr:Cw b p∈Aw b p s S G:=mR λ_ h=>h;obtain⟨R,hR⟩: ∃R,ME S o.n0 x=R:=⟨_,rfl⟩
 rw[hR];unfold ME aP at hR;have z0:(toArray (lg b t o x y))[2+4+(0:Int).toNat*1]?=some (iV o.n0):=rfl;refine AM func226 ntmps226 λE=>?_;refine AO λb1=>?_;refine El (vs:=[NF b t o x y,Fz x,.int .i64 9]) ?_;obtain⟨c,hc⟩: ∃c,DU S x=c:=⟨_,rfl⟩
 rw[hc] at hR⊢;refine AO λb3=>?_;by_cases h1:E5 S x 9
 case neg=>rw[Ad h1] at hR;subst hR;simp only[h1,Hk];refine Aj ?_;exact A5
 rw[Ac (λh=>h h1)] at hR;simp only[h1,F7];refine Aj ?_;refine Cn (Ck [9,10] 0 12) ?_;refine Cs ?_;have htw:=hK.tO c.obj;obtain⟨u,hu⟩: ∃u,DB S c.obj=u:=⟨_,rfl⟩
 rw[hu] at hR htw⊢;refine Hm e_alloc (by rintro _ _ ⟨_,_,_,rfl⟩ c hc;exact .tail _ hc) ?_;rintro _ _ ⟨b5,_,rfl,rfl⟩;refine Cs ?_;refine Aj ?_;refine Cn (Ck [4] 0 5) ?_;refine Cs ?_;refine LN (q:=Nv {u with pr:=o.n0} ⟨htw.out⟩) ?_;intro S1 s1 L1 hS1 hK1 hT1 mr1;rw[show Dw S {u with pr:=o.n0}=S1 from hS1.symm] at hR;refine Cs ?_;refine Aj ?_;refine Cn (Ck [5] 0 6) ?_;refine Cs ?_;refine LN ?_;intro S2 s2 L2 hS2 hK2 hT2 mr2;rw[<-hS2] at hR;obtain⟨q,hq⟩: ∃q,(Qu.dropQ S1.Q u.id).1=q:=⟨_,rfl⟩
 rw[hq] at hR⊢;have eQ:(Qu.dropQ S1.Q u.id).2=S2.Q:=by rw[hS2]
 rw[eQ] at hR;refine Cs ?_;cases q with
 |false=>rw[Ac AX] at hR;refine Aj ?_;subst hR;exact A5
 |true=>
 rw[Ad rfl] at hR;refine Aj ?_;refine Cn (Ck [7] 0 8) ?_;refine Cs ?_;refine LN ?_;intro S3 s3 L3 hS3 hK3 hT3 mr3;refine Cs ?_;refine Aj ?_;subst hR;have hS:S3={S1 with Q:=(Qu.addQ S2.Q u.id o.n0).2}:=by rw[hS3,hS2]
 exact A5
end
section
instance{t u:Th.ThT}[ht:AD t.gv][hu:AD u.inn]:EK prog F C b p 319 [pV b,Th.thV t,Th.thV u] (k+1) S k (.bool (Pq S t u).1) (Pq S t u).2:=⟨λs G h=>nW h t u ht hu⟩
theorem rN(S:KT)(t u:Th.ThT):(Pq S t u).2.T=S.T:=by unfold Pq;(repeat' split)<;>rfl
theorem pI{S':KT}(h:S'.T=S.T)(id:Int):DB S' id=DB S id:=by unfold DB;rw[h]
abbrev pJ(id:Int)(m:MN)(bd:Int)(got:Bool):GJ:=⟨id,0,0,m,bd,got,0,0,false⟩
def JA(S:KT)(t:Th.ThT)(id:Int)(m:MN)(bd:Int):GJ×KT:=
 (pJ id m bd (Pq S t (DB S id)).1,Dw (Pq S t (DB S id)).2 (pH m bd (Pq S t (DB S id)).1 (DB S id)))
theorem jG(hK:IsK F C (k+1) S p s)(t:Th.ThT)(id:Int)(m:MN)(bd:Int)[ht:AD t.gv]:Fn prog 270 [pV b,Th.thV t,.int .i64 id,k9 m,Ba bd] (Aw b p s S G) (KK F C b p k (aC (JA S t id m bd).1) (JA S t id m bd).2 G):=by
 have mr:Cw b p∈Aw b p s S G:=mR λ_ h=>h;have hu:AD (DB S id).inn:=⟨by have:=hK.tG id;omega⟩
 have htw:=hK.tO id;obtain⟨R,hR⟩: ∃R,JA S t id m bd=R:=⟨_,rfl⟩
 rw[hR];unfold JA at hR;refine AM func270 ntmps270 λE=>?_;refine AO λb6=>?_;refine AO λb8=>?_;refine AO λb9=>?_;refine AO λb10=>?_;refine El ?_;refine Aj ?_;refine El ?_;obtain⟨u,hu1⟩: ∃u,DB S id=u:=⟨_,rfl⟩
 rw[hu1] at hR hu htw⊢;refine AO λb11=>?_;refine FI ?_;intro S1 s1 L1 hS1 hK1 hT1 mr1;have e1:DB S1 id=u:=by rw[hS1,pI (rN _ _ _),hu1]
 obtain⟨q,hq⟩: ∃q,Pq S t u=q:=⟨_,rfl⟩
 rw[hq] at hR hS1⊢;rw[<-hS1] at hR;obtain⟨got,hgot⟩: ∃g,q.1=g:=⟨_,rfl⟩
 rw[hgot] at hR⊢;refine AO λb13=>?_;refine Tp (id:=id) (js b8 b9 b13 m bd got) ⟨by rw[e1];exact htw.out⟩ ?_;intro S2 s2 L2 hS2 hK2 hT2 mr2;rw[e1] at hS2⊢;refine Aj ?_;subst hR;exact A5 (h:=Cz rfl (.tail _ (.tail _ (.head _))) (As.LSub.of_all (n:=12) (Qi (pJ id m bd got)) rfl) .nil)
instance{t:Th.ThT}{id:Int}{m:MN}{bd:Int}[ht:AD t.gv]:EK prog F C b p 270 [pV b,Th.thV t,.int .i64 id,k9 m,Ba bd] (k+1) S k (aC (JA S t id m bd).1) (JA S t id m bd).2:=⟨λs G h=>jG h t id m bd⟩
def JZ(S:KT)(u:Int):KT:=if(DB S u).ca=0 then S else(Ha S (DB S u).ca).2
def ON(S:KT)(t u:Int):KT:=(Mm (Dw (JZ S u) {DB (JZ S u) u with ca:=t}) t 4).2
theorem n9(hK:IsK F C k S p s)(t u:Int):Fn prog 272 [pV b,.int .i64 t,.int .i64 u] (Aw b p s S G) (KK F C b p k (.tuple #[]) (ON S t u) G):=by
 have mr:Cw b p∈Aw b p s S G:=mR λ_ h=>h;obtain⟨R,hR⟩: ∃R,ON S t u=R:=⟨_,rfl⟩
 rw[hR];unfold ON at hR;refine AM func272 ntmps272 λE=>?_;refine AO λb4=>?_;refine El ?_;refine Aj ?_;refine El ?_;obtain⟨x,hx⟩: ∃x,DB S u=x:=⟨_,rfl⟩
 rw[hx];refine AO λb6=>?_;by_cases h0:x.ca=0
 ·rw[show JZ S u=S by unfold JZ;rw[hx,Ad h0]] at hR;refine Aj ?_;have htw:=hK.tO u;refine Tp (id:=u) (Uq b4 t) ⟨htw.out⟩ ?_;intro S2 s2 L2 hS2 hK2 hT2 mr2;rw[<-hS2] at hR;refine Aj ?_;refine FI ?_;intro S3 s3 L3 hS3 hK3 hT3 mr3;refine Aj ?_;exact A5
 ·refine Aj ?_;refine FI ?_;intro S1 s1 L1 hS1 hK1 hT1 mr1;rw[show JZ S u=S1 by unfold JZ;rw[hx,Ac h0,hS1]] at hR;refine Aj ?_;have htw:=hK1.tO u;refine Tp (id:=u) (Uq b4 t) ⟨htw.out⟩ ?_;intro S2 s2 L2 hS2 hK2 hT2 mr2;rw[<-hS2] at hR;refine Aj ?_;refine FI ?_;intro S3 s3 L3 hS3 hK3 hT3 mr3;refine Aj ?_;exact A5
instance{t u:Int}:EK prog F C b p 272 [pV b,.int .i64 t,.int .i64 u] k S k (.tuple #[]) (ON S t u):=⟨λs G h=>n9 h t u⟩
end
section
theorem NG{l:List Ab}:(l++(lo++Aw b p s S G)).Perm (lo++Aw b p s S (l++G)):=by unfold Aw;exact BR
theorem Hy{l:List Ab}:(lo++Aw b p s S (X++(l++G))).Perm (l++(lo++Aw b p s S (X++G))):=by unfold Aw;exact BR
theorem SJ{t a:Int}(h:(Hc S t a).2=0):(Hc S t a).1=DB S t/\My S t=true/\(DB S t).st=1/\0<=a/\a<=4096:=by
 unfold Hc at h⊢
 split at h
 ·cases h
 ·rename_i h1;rw[Ac h1];simp only[not_or] at h1;exact⟨rfl,by cases hx:My S t;exact absurd hx h1.1;rfl,Decidable.not_not.1 h1.2.1,Af,Af⟩
def sendH(S:KT)(x:Th.ThT)(t u:Int)(m:MN)(bd:Int)(cl:Bool):List GJ×KT:=
 if cl=true then([(JA {S with E:=(En.removeD S.E u).2} x u m bd).1],ON (Dw (Mm (JA {S with E:=(En.removeD S.E u).2} x u m bd).2 u 1).2 {DB (Mm (JA {S with E:=(En.removeD S.E u).2} x u m bd).2 u 1).2 t with cl:=true}) t u)
 else([(JA {S with E:=(En.removeD S.E u).2} x u m bd).1,MC t],(Mm (JA {S with E:=(En.removeD S.E u).2} x u m bd).2 u 1).2)
theorem Y5(hK:IsK F C (k+2) S p s)(B1 B2 B3 B4 B5 B6 B7:Nat)(x:Th.ThT)(hx:AD x.gv)(t u:Int)(m:MN)(c:CapT)(cl:Bool):
 W8 prog 269 [pV B1,pV B2,pV B3,pV B4,pV B5,pV B6,pV B7] (λn:GJ=>[aC n]) ([rB B1 b,BJ B2 u,Th.thC B3 x,S7 B4 m,Bq B5 c,VI B6 cl,BJ B7 t]++Aw b p s S G) (λxs C'=>xs=(sendH S x t u m c.badge cl).1/\ ∃s' L,IsK F C k (sendH S x t u m c.badge cl).2 p s'/\Tail L G/\C'=[rB B1 b,BJ B2 u,Th.thC B3 x,S7 B4 m,Bq B5 c,VI B6 cl,BJ B7 t]++Aw b p s' (sendH S x t u m c.badge cl).2 L):=by
 refine⟨λr I hY l h0=>?_⟩;refine Fn.keep (.of_perm (NG (lo:=[rB B1 b,BJ B2 u,Th.thC B3 x,S7 B4 m,Bq B5 c,VI B6 cl,BJ B7 t]))) ?_;have mr:Cw b p∈Aw b p s S (l++G):=mR λ_ h=>h;obtain⟨R,hR⟩: ∃R,sendH S x t u m c.badge cl=R:=⟨_,rfl⟩
 rw[hR];unfold sendH at hR;simp only[Ae,Ag];refine AM func269 ntmps269 λE=>?_;refine Aj ?_;refine Cn (Ck [3] 0 4) ?_;refine Cs ?_;refine LN ?_;intro S1 s1 L1 hS1 hK1 hT1 mr1;rw[<-hS1] at hR;refine Cs ?_;refine Aj ?_;refine FI (vs:=[pV b,Th.thV x,.int .i64 u,k9 m,Ba c.badge]) ?_;intro S2 s2 L2 hS2 hK2 hT2 mr2;rw[<-hS2] at hR;obtain⟨n1,hn1⟩: ∃n,(JA S1 x u m c.badge).1=n:=⟨_,rfl⟩
 rw[hn1] at hR⊢;refine AO λc9=>?_;refine FI ?_;intro S3 s3 L3 hS3 hK3 hT3 mr3;rw[<-hS3] at hR;refine Aj ?_;cases cl with
 |true=>rw[Ad rfl] at hR;refine Aj ?_;have htw:=hK3.tO t;refine Tp (id:=t) dC ⟨htw.out⟩ ?_;intro S4 s4 L4 hS4 hK4 hT4 mr4;rw[<-hS4] at hR;refine Aj ?_;refine FI ?_;intro S5 s5 L5 hS5 hK5 hT5 mr5;rw[<-hS5] at hR;refine Aj ?_;obtain⟨X,rfl⟩:Tail L5 (l++G):=hT5.trans (hT4.trans (hT3.trans (hT2.trans hT1)));refine Bk (.of_perm (Hy (lo:=[Tq c9 n1,rB B1 b,BJ B2 u,Th.thC B3 x,S7 B4 m,Bq B5 c,VI B6 true,BJ B7 t]))) ?_;refine AP (CQ (vs:=[aC n1]) rfl rfl (hY [] n1 l _ (Bl _) h0)) ?_;rintro v _ ⟨l1,rfl,hI,rfl⟩;refine Bk (.of_perm NG) ?_;simp only[Ae,Ag];refine Aj ?_;subst hR;exact CF _ .refl (.drop (.of_perm (Hy (X:=[]) (lo:=[rB B1 b,BJ B2 u,Th.thC B3 x,S7 B4 m,Bq B5 c,VI B6 true,BJ B7 t])))) ⟨[n1],l1,_,hI,⟨rfl,s5,X++G,hK5,⟨X,rfl⟩,rfl⟩,rfl⟩
 |false=>rw[Ac AX] at hR;refine Aj ?_;obtain⟨X,rfl⟩:Tail L3 (l++G):=hT3.trans (hT2.trans hT1);refine Bk (.of_perm (Hy (lo:=[Tq c9 n1,rB B1 b,BJ B2 u,Th.thC B3 x,S7 B4 m,Bq B5 c,VI B6 false,BJ B7 t]))) ?_;refine AP (CQ (vs:=[aC n1]) rfl rfl (hY [] n1 l _ (Bl _) h0)) ?_;rintro v _ ⟨l1,rfl,hI,rfl⟩;refine Bk (.of_perm NG) ?_;simp only[Ae,Ag];refine Aj ?_;refine Bk (.of_perm (Hy (X:=[]) (lo:=[Tq c9 n1,rB B1 b,BJ B2 u,Th.thC B3 x,S7 B4 m,Bq B5 c,VI B6 false,BJ B7 t]))) ?_;refine AP (CQ (vs:=[aC (MC t)]) rfl rfl (hY [n1] (MC t) l1 _ (by simp) hI)) ?_;rintro v _ ⟨l2,rfl,hI2,rfl⟩;refine Bk (.of_perm NG) ?_;simp only[Ae,Ag];refine Aj ?_;subst hR;exact CF _ .refl (.drop (.of_perm (Hy (X:=[]) (lo:=[rB B1 b,BJ B2 u,Th.thC B3 x,S7 B4 m,Bq B5 c,VI B6 false,BJ B7 t])))) ⟨[n1,MC t],l2,_,hI2,⟨rfl,s3,X++G,hK3,⟨X,rfl⟩,rfl⟩,rfl⟩
end
theorem Q5{Y:List Ab}:Keep (cs++(lo++Y)) (cs++Y):=⟨lo,AA cs lo Y⟩
def KN(F C b:Nat)(p:RP)(k:Nat)(xs:List GJ)(co:Int)(S:KT)(G:List Ab):Value->List Ab->Prop:=λv l'=> ∃sl cs s L,v= .tuple #[sl,iV co]/\OwnSl 69 12 sl xs.length (GK xs) cs/\IsK F C k S p s/\Tail L G/\l'=cs++Aw b p s S L
section
theorem Fx{fr:Fr}{l:List Ab}{fn:Func}{rs:List ResultVar}{k1:Nat}{S1:KT}{co:Int}(hr:fn.results=rs.toArray:=by rfl)(h:ResS prog fr l rs [.slice none 0 0,iV co]:=by exact A8)(hF:Fr1 (Aw b p s S1 L) l Γ:=by exact Z9)(hK:IsK F C k1 S1 p s:=by infer_instance)(ht:Tail L G:=by exact vS)(hk:k<=k1:=by omega)(hS:S1=S:=by exact xW):CO N E (bodyPostM Fence.wide 0 prog fn (RK E (KN F C b p k [] co S G))) .ret fr [] l:=by subst hS;obtain⟨A,rfl,_⟩:=hF.eq;exact AW [] _ hr .refl h (Keep.dropL' A .refl) ⟨_,[],s,L,rfl,OwnSl.nil _ _,hK.mono hk,ht,rfl⟩
def GE(S:KT)(t:Int)(x:Ce)(m:MN)(gv:Int)(cl:Bool):(List GJ×Int)×KT:=
 if ¬(Hc S t gv).2=0 then(([],(Hc S t gv).2),S)
 else if ¬(getD' S.H.1 x).2=0\/¬(DU S x).kind=8 then(([],8),S)
 else if K8 (DU S x).rights 2=0\/(¬gv=4096/\K8 (DU S x).rights 4=0) then(([],9),S)
 else if(En.firstD S.E (DU S x).obj).2.2=false\/(En.firstD S.E (DU S x).obj).2.1=true then
  (([],0),(Mm (Dw {S with E:=(En.waitD S.E (DU S x).obj t true).2} (aD m (DU S x) gv cl (DB S t))) t 2).2)
 else(((sendH S {DB S t with gv:=gv} t (En.firstD S.E (DU S x).obj).1 m (DU S x).badge cl).1,0),(sendH S {DB S t with gv:=gv} t (En.firstD S.E (DU S x).obj).1 m (DU S x).badge cl).2)
theorem Y6(hK:IsK F C (k+2) S p s)(t:Int)(x:Ce)(m:MN)(gv:Int)(cl:Bool):Fn prog 205 [pV b,.int .i64 t,Fz x,k9 m,.int .i64 gv,.bool cl] (Aw b p s S G) (KN F C b p k (GE S t x m gv cl).1.1 (GE S t x m gv cl).1.2 (GE S t x m gv cl).2 G):=by
 have mr:Cw b p∈Aw b p s S G:=mR λ_ h=>h;have htw:=hK.tO t;obtain⟨R,hR⟩: ∃R,GE S t x m gv cl=R:=⟨_,rfl⟩
 rw[hR];unfold GE at hR;refine AM func205 ntmps205 λE=>?_;refine AO λb6=>?_;refine AO λb7=>?_;refine AO λb8=>?_;refine AO λb9=>?_;refine AO λb10=>?_;refine AO λb11=>?_;refine El ?_;have hro:=SJ (S:=S) (t:=t) (a:=gv);obtain⟨r,hr⟩: ∃r,Hc S t gv=r:=⟨_,rfl⟩
 rw[hr] at hR hro⊢;refine AO λb14=>?_;by_cases h0:r.2=0
 case neg=>rw[Ad h0] at hR;subst hR;refine Aj ?_;exact Fx
 rw[Ac (λh=>h h0)] at hR;obtain⟨e1,e2,e3,e4,e5⟩:=hro h0;obtain⟨y,hy⟩: ∃y,DB S t=y:=⟨_,rfl⟩
 rw[hy] at e1 e3 hR htw;rw[e1];refine Aj ?_;refine Cn (Ck [7,8] 0 10) ?_;refine Cs ?_;obtain⟨c,hc⟩: ∃c,(getD' S.H.1 x).1=c:=⟨_,rfl⟩
 obtain⟨e,he⟩: ∃e,(getD' S.H.1 x).2=e:=⟨_,rfl⟩
 rw[show DU S x=c from hc,he] at hR;rw[hc,he];refine Hm e_alloc (by rintro _ _ ⟨_,_,_,rfl⟩ c hc;exact .tail _ hc) ?_;rintro _ _ ⟨b16,_,rfl,rfl⟩;refine Cs ?_;by_cases h1:¬e=0\/¬c.kind=8
 ·rw[Ad h1] at hR;subst hR;by_cases h2:e=0<;>by_cases h3:c.kind=8;all_goals first
   |(exfalso;omega)
   |(refine Aj ?_
     exact Fx)
 rw[Ac h1] at hR;obtain⟨h2,h3⟩:e=0/\c.kind=8:=by omega
 refine Aj ?_;refine Bb (JW rfl rfl) ?_;obtain⟨w2,hw2⟩: ∃w,K8 c.rights 2=w:=⟨_,rfl⟩
 obtain⟨w4,hw4⟩: ∃w,K8 c.rights 4=w:=⟨_,rfl⟩
 rw[hw2,hw4] at hR;rw[hw2];by_cases h4:w2=0\/(¬gv=4096/\w4=0)
 ·rw[Ad h4] at hR;subst hR;by_cases h5:w2=0
  ·refine Aj ?_;exact Fx
  obtain⟨h6,h7⟩:¬gv=4096/\w4=0:=by omega
  refine Aj ?_;refine VW (JW rfl rfl) rfl rfl rfl rfl rfl rfl ?_;rw[hw4];refine Aj ?_;exact Fx
 rw[Ac h4] at hR;have h5:¬w2=0:=by omega
 by_cases h6:gv=4096
 case' pos=>refine Aj ?_
 case' neg=>
  have h7:¬w4=0:=by omega
  refine Aj ?_;refine VW (JW rfl rfl) rfl rfl rfl rfl rfl rfl ?_;rw[hw4];refine Aj ?_
 all_goals
  obtain⟨f,hf⟩: ∃f,En.firstD S.E c.obj=f:=⟨_,rfl⟩
  rw[hf] at hR;refine KQ [(0,true),(1,true),(2,true),(3,true),(4,false),(5,true),(6,true),(7,true),(8,true),(9,false),(10,false),(11,true),(12,true)] [[],[0],[],[2],[0,1,2,3],[0,1,2,3,4],[0,1,2,3,4,5],[0,1,2,3,4,5],[0,1,2,3,4,5],[],[0,1,2,3,4,5,6,9],[0,1,2,3,4,5,6,7,9,10],[0,1,2,3,4,5,6,7,8,9,10,11]] 4 9 ([rB b6 b,Bq b16 c,Cw b p]) Bs Bs Gt ((Up BS BS BS)) ?_;refine BM ?_;refine TK ?_;refine BM ?_;refine M3 [(9,false),(4,false),(5,true),(6,true),(7,true),(8,true),(10,false),(11,true),(12,true)] Gt (AH (l₁:=[_,_,_,_,_])).symm Bs ?_ ?_
  case' refine_1=>
   refine sU ?_ ?_
   ·intro S2 s2 L2;have mr2:Cw b p∈Aw b p s2 S2 L2:=mR λ_ h=>h;exact Up BS BS BS
   intro S1 s1 L1 hS1 hK1 hT1 mr1;iterate 4 refine V4 ?_
   refine CM e_alloc rfl rfl rfl ?_ ?_
   ·rintro _ _ ⟨_,_,_,rfl⟩ c hc;exact .tail _ (Up BS BS BS c hc)
   rintro _ _ ⟨b17,_,rfl,rfl⟩
  case' refine_2=>
   refine CM e_alloc rfl rfl rfl ?_ ?_
   ·rintro _ _ ⟨_,_,_,rfl⟩ c hc;exact .tail _ (Up BS BS BS c hc)
   rintro _ _ ⟨b17,_,rfl,rfl⟩;refine sU ?_ ?_
   ·intro S2 s2 L2;have mr2:Cw b p∈Aw b p s2 S2 L2:=mR λ_ h=>h;exact Up BS BS BS
   intro S1 s1 L1 hS1 hK1 hT1 mr1;iterate 4 refine V4 ?_
  all_goals
   subst hS1;rw[hf];refine o5 ?_ (hR:=Up BS BS BS);refine BM ?_;refine Aj ?_;by_cases h8:f.2.2=false\/f.2.1=true
   ·rw[Ad h8] at hR;cases h9:f.2.2<;>cases h10:f.2.1;all_goals first
     |(exfalso;simp[h9,h10] at h8;done)
     |(refine Aj ?_
       refine Cn (Ck [5] 0 6) ?_;refine Cs ?_;refine LN ?_;intro S2 s2 L2 hS2 hK2 hT2 mr2;refine Cs ?_;refine Aj ?_;have e6:DB S2 t=y:=by rw[hS2];exact hy
       refine Tp (id:=t) (jt b9 b16 b10 b11 m c gv cl) ⟨by rw[e6];exact htw.out⟩ ?_;intro S3 s3 L3 hS3 hK3 hT3 mr3;rw[e6] at hS3;rw[<-hS2,show Dw S2 (aD m c gv cl y)=S3 from hS3.symm] at hR;refine Aj ?_;refine FI ?_;intro S4 s4 L4 hS4 hK4 hT4 mr4;refine Aj ?_;rw[<-hS4] at hR;subst hR;exact Fx)
   rw[Ac h8] at hR;obtain⟨h9,h10⟩:f.2.2=true/\f.2.1=false:=by simpa using h8
   rw[h9,h10];obtain⟨u,hu⟩: ∃u,f.1=u:=⟨_,rfl⟩
   rw[hu] at hR⊢;refine Aj ?_;have hx:AD ({y with gv:=gv}:Th.ThT).gv:=⟨by show gv<_;omega⟩
   refine AP (Az rfl rfl (Fn.keep ?_ (PZ (Y5 (b:=b) (G:=L1) hK1 b6 b17 b14 b9 b16 b11 b7 {y with gv:=gv} hx t u m c cl)))) ?_
   ·exact AS
   rintro sl _ ⟨xs,cs,C',ho,⟨rfl,s',L',hK',hT',rfl⟩,rfl⟩;refine Aj ?_;subst hR;exact CF _ .refl Q5 ⟨sl,cs,s',L',rfl,ho,hK',hT'.trans hT1,rfl⟩
end
section
abbrev dQ(t:Th.ThT):MN:=⟨t.o0,t.o1,t.o2,t.o3⟩
abbrev jH(t:Th.ThT):Th.ThT:={t with wa:=0,o0:=0,o1:=0,o2:=0,o3:=0,ob:=0,gv:=4096}
def recvW(S:KT)(w:Bool)(id t:Int):KT:=if w=true then ON S id t else(Mm S id 1).2
def recvH(S:KT)(t id:Int):List GJ×KT:=
 let x:=DB S id
 let h:=JA {S with E:=(En.removeD S.E id).2} x t (dQ x) x.ob
 let w:=x.cl||x.fa
 let S2:=recvW h.2 w id t
 (if w=true then[h.1] else[h.1,MC id],Dw S2 (jH (DB S2 id)))
theorem Y7(hK:IsK F C (k+2) S p s)(B1 B2 B3:Nat)(t id:Int):
 W8 prog 277 [pV B1,pV B2,pV B3] (λn:GJ=>[aC n]) ([rB B1 b,BJ B2 id,BJ B3 t]++Aw b p s S G) (λxs C'=>xs=(recvH S t id).1/\ ∃s' L,IsK F C k (recvH S t id).2 p s'/\Tail L G/\C'=[rB B1 b,BJ B2 id,BJ B3 t]++Aw b p s' (recvH S t id).2 L):=by
 refine⟨λr I hY l h0=>?_⟩;refine Fn.keep (.of_perm (NG (lo:=[rB B1 b,BJ B2 id,BJ B3 t]))) ?_;have mr:Cw b p∈Aw b p s S (l++G):=mR λ_ h=>h;have htw0:=hK.tO id;have hgv:AD (DB S id).gv:=⟨by have:=hK.tG id;omega⟩
 obtain⟨R,hR⟩: ∃R,recvH S t id=R:=⟨_,rfl⟩
 rw[hR];unfold recvH at hR;simp only[Ae,Ag];refine AM func277 ntmps277 λE=>?_;refine Aj ?_;refine Cn (Ck [3] 0 4) ?_;refine Cs ?_;refine LN ?_;intro S1 s1 L1 hS1 hK1 hT1 mr1;rw[<-hS1] at hR;refine Cs ?_;refine Aj ?_;refine Cn (Ck [7,8] 0 10) ?_;refine Cs ?_;have e1:DB S1 id=DB S id:=pI (by rw[hS1]) id;rw[e1];obtain⟨x,hx⟩: ∃x,DB S id=x:=⟨_,rfl⟩
 rw[hx] at hR htw0 hgv e1⊢;refine Hm e_alloc (by rintro _ _ ⟨_,_,_,rfl⟩ c hc;exact .tail _ hc) ?_;rintro _ _ ⟨c5,_,rfl,rfl⟩;refine Cs ?_;refine Aj ?_;refine FI (q:=(⟨λs G h=>jG h x t (dQ x) x.ob⟩:EK prog F C b p 270 [pV b,Th.thV x,.int .i64 t,k9 (dQ x),Ba x.ob] (k+2) S1 (k+1) _ _)) ?_;intro S2 s2 L2 hS2 hK2 hT2 mr2;dsimp only at hR;rw[<-hS2] at hR;obtain⟨n1,hn1⟩: ∃n,(JA S1 x t (dQ x) x.ob).1=n:=⟨_,rfl⟩
 rw[hn1] at hR⊢;refine AO λc7=>?_;obtain⟨w,hw⟩: ∃w,(x.cl||x.fa)=w:=⟨_,rfl⟩
 rw[hw] at hR;unfold recvW at hR;have hcf:(x.cl=true/\w=true)\/(x.cl=false/\x.fa=w):=by
  cases h1:x.cl<;>rw[h1] at hw<;>simp at hw
  ·exact .inr ⟨rfl,hw⟩
  ·exact .inl ⟨rfl,hw⟩
 rcases hcf with⟨h1,rfl⟩|⟨h1,h2⟩
 case' inr=>cases w
 case' inl=>
  rw[Ad rfl,Ad rfl] at hR;rw[h1];refine Aj ?_;refine FI ?_;intro S3 s3 L3 hS3 hK3 hT3 mr3;refine Aj ?_
 case' inr.true=>
  rw[Ad rfl,Ad rfl] at hR;rw[h1,h2];refine Aj ?_;refine FI ?_;intro S3 s3 L3 hS3 hK3 hT3 mr3;refine Aj ?_
 case' inr.false=>
  rw[Ac AX,Ac AX] at hR;rw[h1,h2];refine Aj ?_;refine FI ?_;intro S3 s3 L3 hS3 hK3 hT3 mr3;refine Aj ?_
 all_goals
  rw[<-hS3] at hR;have htw:=hK3.tO id;refine Tp (id:=id) dD ⟨htw.out⟩ ?_;intro S4 s4 L4 hS4 hK4 hT4 mr4;rw[show Dw S3 (jH (DB S3 id))=S4 from hS4.symm] at hR;refine Aj ?_;obtain⟨X,rfl⟩:Tail L4 (l++G):=hT4.trans (hT3.trans (hT2.trans hT1))
  first
   |refine Bk (.of_perm (Hy (lo:=[Tq c7 n1,Th.thC c5 {x with cl:=true},rB B1 b,BJ B2 id,BJ B3 t]))) ?_
   |refine Bk (.of_perm (Hy (lo:=[Tq c7 n1,Th.thC c5 {x with cl:=false,fa:=true},rB B1 b,BJ B2 id,BJ B3 t]))) ?_
   |refine Bk (.of_perm (Hy (lo:=[Tq c7 n1,Th.thC c5 {x with cl:=false,fa:=false},rB B1 b,BJ B2 id,BJ B3 t]))) ?_
  refine AP (CQ (vs:=[aC n1]) rfl rfl (hY [] n1 l _ (Bl _) h0)) ?_;rintro v _ ⟨l1,rfl,hI,rfl⟩;refine Bk (.of_perm NG) ?_;simp only[Ae,Ag]
  first
   |(have hgo:R.1=[n1]:=by rw[<-hR]
     refine Aj ?_;subst hR;exact AW [] _ rfl .refl (by exact A8) (.drop (.drop (.of_perm (Hy (X:=[]) (lo:=[rB B1 b,BJ B2 id,BJ B3 t]))))) ⟨[n1],l1,_,hI,⟨rfl,s4,X++G,hK4.mono Af,⟨X,rfl⟩,rfl⟩,rfl⟩)
   |(have hgo:R.1=[n1,MC id]:=by rw[<-hR]
     refine Aj ?_;refine Bk (.of_perm (Hy (X:=[]) (lo:=[Tq c7 n1,Th.thC c5 {x with cl:=false,fa:=false},rB B1 b,BJ B2 id,BJ B3 t]))) ?_;refine AP (CQ (vs:=[aC (MC id)]) rfl rfl (hY [n1] (MC id) l1 _ (by simp) hI)) ?_;rintro v _ ⟨l2,rfl,hI2,rfl⟩;refine Bk (.of_perm NG) ?_;simp only[Ae,Ag];refine Aj ?_;subst hR;exact AW [] _ rfl .refl (by exact A8) (.drop (.drop (.of_perm (Hy (X:=[]) (lo:=[rB B1 b,BJ B2 id,BJ B3 t]))))) ⟨[n1,MC id],l2,_,hI2,⟨rfl,s4,X++G,hK4.mono Af,⟨X,rfl⟩,rfl⟩,rfl⟩)
def replyH(S:KT)(ca:Int)(m:MN)(t:Int):List GJ×KT:=
 let c:=DB S ca
 (if c.fa=true then[MC t] else[⟨c.id,0,0,m,0,false,0,0,false⟩,MC t],(Mm (Dw S (ND m (DB S c.id))) c.id 1).2)
theorem dR{m:MN}{t:Th.ThT}(h:TW t):TW (ND m t):=by
 unfold ND
 split<;>exact⟨h.out⟩
theorem Xf(hK:IsK F C (k+1) S p s)(B1 B2 B3 B4:Nat)(x:Th.ThT)(m:MN)(t:Int):
 W8 prog 280 [pV B1,pV B2,pV B3,pV B4] (λn:GJ=>[aC n]) ([rB B1 b,Th.thC B2 x,S7 B3 m,BJ B4 t]++Aw b p s S G) (λxs C'=>xs=(replyH S x.ca m t).1/\ ∃s' L,IsK F C k (replyH S x.ca m t).2 p s'/\Tail L G/\C'=[rB B1 b,Th.thC B2 x,S7 B3 m,BJ B4 t]++Aw b p s' (replyH S x.ca m t).2 L):=by
 refine⟨λr I hY l h0=>?_⟩;refine Fn.keep (.of_perm (NG (lo:=[rB B1 b,Th.thC B2 x,S7 B3 m,BJ B4 t]))) ?_;have mr:Cw b p∈Aw b p s S (l++G):=mR λ_ h=>h;obtain⟨R,hR⟩: ∃R,replyH S x.ca m t=R:=⟨_,rfl⟩
 rw[hR];unfold replyH at hR;simp only[Ae,Ag];refine AM func280 ntmps280 λE=>?_;refine Aj ?_;refine Cn (Ck [8,9] 0 11) ?_;refine Cs ?_;obtain⟨c,hc⟩: ∃c,DB S x.ca=c:=⟨_,rfl⟩
 rw[hc] at hR⊢;dsimp only at hR;refine Hm e_alloc (by rintro _ _ ⟨_,_,_,rfl⟩ c hc;exact .tail _ hc) ?_;rintro _ _ ⟨c6,_,rfl,rfl⟩;refine Cs ?_;refine Aj ?_;have htw:=hK.tO c.id;refine Tp (id:=c.id) (YZ B3 m) (dR htw) ?_;intro S1 s1 L1 hS1 hK1 hT1 mr1;rw[show Dw S (ND m (DB S c.id))=S1 from hS1.symm] at hR;refine Aj ?_;refine FI ?_;intro S2 s2 L2 hS2 hK2 hT2 mr2;rw[<-hS2] at hR;refine Aj ?_;obtain⟨X,rfl⟩:Tail L2 (l++G):=hT2.trans hT1;cases hf:c.fa with
 |true=>rw[Ad hf] at hR;refine Aj ?_;refine Bk (.of_perm (Hy (lo:=[Th.thC c6 {c with fa:=true},rB B1 b,Th.thC B2 x,S7 B3 m,BJ B4 t]))) ?_;refine AP (CQ (vs:=[aC (MC t)]) rfl rfl (hY [] (MC t) l _ (Bl _) h0)) ?_;rintro v _ ⟨l1,rfl,hI,rfl⟩;refine Aj ?_;subst hR;exact CF _ .refl (Keep.trans (.of_perm NG) (.drop (.of_perm (Hy (X:=[]) (lo:=[rB B1 b,Th.thC B2 x,S7 B3 m,BJ B4 t]))))) ⟨[MC t],l1,_,hI,⟨rfl,s2,X++G,hK2,⟨X,rfl⟩,rfl⟩,rfl⟩
 |false=>
  rw[Ac (by rw[hf];decide)] at hR;refine Aj ?_;obtain⟨n1,hn1⟩: ∃n:GJ,n=⟨c.id,0,0,m,0,false,0,0,false⟩:=⟨_,rfl⟩
  refine Bk (.of_perm (Hy (lo:=[Th.thC c6 {c with fa:=false},rB B1 b,Th.thC B2 x,S7 B3 m,BJ B4 t]))) ?_;refine Ia (CQ (vs:=[aC n1]) rfl (by rw[hn1];rfl) (hY [] n1 l _ (Bl _) h0)) rfl rfl rfl ?_;rintro v _ ⟨l1,rfl,hI,rfl⟩;refine Bk (.of_perm NG) ?_;simp only[Ae,Ag];refine Aj ?_;refine Bk (.of_perm (Hy (X:=[]) (lo:=[Th.thC c6 {c with fa:=false},rB B1 b,Th.thC B2 x,S7 B3 m,BJ B4 t]))) ?_;refine AP (CQ (vs:=[aC (MC t)]) rfl rfl (hY [n1] (MC t) l1 _ (by simp) hI)) ?_;rintro v _ ⟨l2,rfl,hI2,rfl⟩;refine Aj ?_;subst hR;subst hn1;exact CF _ .refl (Keep.trans (.of_perm NG) (.drop (.of_perm (Hy (X:=[]) (lo:=[rB B1 b,Th.thC B2 x,S7 B3 m,BJ B4 t]))))) ⟨_,l2,_,hI2,⟨rfl,s2,X++G,hK2,⟨X,rfl⟩,rfl⟩,rfl⟩
end
end Go.Proofs.YtlkgekpmileobaaGreat
