/- Laws that the statement's proof leans on (joined out of several texts). -/
import Derived.Test.YtlkgekpmileobaaGreatGb8
import Derived.Test.YtlkgekpmileobaaGreatGb40
import Derived.Test.YtlkgekpmileobaaGreatGb10
import Derived.Test.YtlkgekpmileobaaGreatGb39
set_option linter.unusedVariables false
set_option linter.unusedSimpArgs false
namespace Go.Proofs.YtlkgekpmileobaaGreat
open Tryz
open List(toArray)
open Go.RowKit
set_option maxRecDepth 20000
variable{T L A B cs lo G X Z:List Ab}{x:CB}{k F C b e n r:Nat}{lp c a c10 c8 cB cv c5 c6 c7 c2:Ab}{S:KT}{p:RP}{s:RL}{ys:List CB}{v:Value}{H:HS}{o:Obj}
structure Ob where
 a:Int
 b:Int
 c:Int
 d:Int
deriving DecidableEq
abbrev uW(m:Ob):List Value:=[Ba m.a,Ba m.b,Ba m.c,Ba m.d]
abbrev iT(m:Ob):Value:= .agg (toArray (uW m))
abbrev Sr(B:Nat)(m:Ob):Ab:=(B,.cells (toArray (uW m)) 55 (0,0))
abbrev uX(B:Nat)(x:Int):Ab:=(B,.cells (toArray [Ba x]) 34 (0,0))
structure Hs where
 th:Int
 co:Int
 va:Int
 ms:Ob
 bd:Int
 got:Bool
 fk:Int
 fv:Int
 fw:Bool
deriving DecidableEq
abbrev Ps(n:Hs):List Value:=[iV n.th,iV n.co,Ba n.va,Ba n.ms.a,Ba n.ms.b,Ba n.ms.c,Ba n.ms.d,Ba n.bd,.bool n.got,iV n.fk,Ba n.fv,.bool n.fw]
abbrev ZQ(n:Hs):Value:= .agg (toArray (Ps n))
abbrev SL(B:Nat)(n:Hs):Ab:=(B,.cells (toArray (Ps n)) 69 (0,0))
abbrev sU(B:Nat)(v:Value):Ab:=(B,.cells (toArray [v]) 30 (0,0))
abbrev qf:Ob:=⟨0,0,0,0⟩
abbrev L8(t:Int):Hs:=⟨t,0,0,qf,0,false,0,0,false⟩
abbrev nc(m:Ob)(bd:Int)(got:Bool)(t:Th.ThT):Th.ThT:={t with m0:=m.a,m1:=m.b,m2:=m.c,m3:=m.d,bd:=bd,got:=got,inn:=4096,wa:=0}
theorem gF(b1 b2 b3:Nat)(m:Ob)(bd:Int)(got:Bool):gE prog 320 [pV b1,pV b2,pV b3] [Sr b1 m,uX b2 bd,Vf b3 got] (nc m bd got):=by refine⟨λx t l hA=>?_⟩;have n1:Sr b1 m∈l:=hA _ (.head _);have n2:uX b2 bd∈l:=hA _ (.tail _ (.head _));have n3:Vf b3 got∈l:=hA _ (.tail _ (.tail _ (.head _)));refine AO func320 ntmps320 λE=>?_;refine Aj ?_;refine Ce [10,13,16,19,22] 23 (l) ?_ (hR:=(λc hc=> .tail _ hc));refine BI ?_;exact Es
theorem T4(b1:Nat)(u:Int):gE prog 321 [pV b1] [BG b1 u] (λt=>{t with ca:=u}):=by refine⟨λx t l hA=>?_⟩;have n1:BG b1 u∈l:=hA _ (.head _);refine AO func321 ntmps321 λE=>?_;exact Es
abbrev gG(m:Ob)(c:CapT)(gv:Int)(cl:Bool)(t:Th.ThT):Th.ThT:={t with o0:=m.a,o1:=m.b,o2:=m.c,o3:=m.d,ob:=c.badge,gv:=gv,cl:=cl,wa:=c.obj}
theorem gH(b1 b2 b3 b4:Nat)(m:Ob)(c:CapT)(gv:Int)(cl:Bool):gE prog 267 [pV b1,pV b2,pV b3,pV b4] [Sr b1 m,Bp b2 c,BG b3 gv,Vf b4 cl] (gG m c gv cl):=by refine⟨λx t l hA=>?_⟩;have n1:Sr b1 m∈l:=hA _ (.head _);have n2:Bp b2 c∈l:=hA _ (.tail _ (.head _));have n3:BG b3 gv∈l:=hA _ (.tail _ (.tail _ (.head _)));have n4:Vf b4 cl∈l:=hA _ (.tail _ (.tail _ (.tail _ (.head _))));refine AO func267 ntmps267 λE=>?_;refine Aj ?_;refine Ce [14,17,20,23,26] 27 (l) ?_ (hR:=(λc hc=> .tail _ hc));refine BI ?_;exact Es
theorem cf:gE prog 271 [] [] (λt=>{t with cl:=true}):=by refine⟨λx t l hA=>?_⟩;refine AO func271 ntmps271 λE=>?_;exact Es
theorem gI(b1:Nat)(u:Int):gE prog 275 [pV b1] [BG b1 u] (λt=>{t with inn:=u}):=by refine⟨λx t l hA=>?_⟩;have n1:BG b1 u∈l:=hA _ (.head _);refine AO func275 ntmps275 λE=>?_;exact Es
theorem gJ(b1:Nat)(c:CapT):gE prog 276 [pV b1] [Bp b1 c] (λt=>{t with wa:=c.obj}):=by refine⟨λx t l hA=>?_⟩;have n1:Bp b1 c∈l:=hA _ (.head _);refine AO func276 ntmps276 λE=>?_;exact Es
theorem ck:gE prog 278 [] [] (λt=>{t with wa:=0,o0:=0,o1:=0,o2:=0,o3:=0,ob:=0,gv:=4096}):=by refine⟨λx t l hA=>?_⟩;refine AO func278 ntmps278 λE=>?_;refine Aj ?_;refine Bc (F5 (zs:=[.int .u64 0,.int .u64 0,.int .u64 0,.int .u64 0]) (cs:=[.int .u64 0,.int .u64 0,.int .u64 0,.int .u64 0]) rfl rfl) ?_;exact Es
theorem cm:gE prog 279 [] [] (λt=>{t with ca:=0}):=by refine⟨λx t l hA=>?_⟩;refine AO func279 ntmps279 λE=>?_;exact Es
def Pt(m:Ob)(t:Th.ThT):Th.ThT:=if t.fa=true then{t with fa:=false} else{t with cl:=false,m0:=m.a,m1:=m.b,m2:=m.c,m3:=m.d,bd:=0,got:=false}
theorem Yo(b1:Nat)(m:Ob):gE prog 281 [pV b1] [Sr b1 m] (Pt m):=by
 refine⟨λx t l hA=>?_⟩;have n1:Sr b1 m∈l:=hA _ (.head _);unfold Pt;refine AO func281 ntmps281 λE=>?_;refine Aj ?_;cases hf:t.fa with
 |true=>rw[Ae rfl];exact Es
 |false=>rw[Ac AW];refine Aj ?_;refine Ce [7,10,13,16] 17 (l) ?_ (hR:=(λc hc=> .tail _ hc));refine BI ?_;refine Aj ?_;exact By [] rfl .refl (by exact A7) ⟨rfl,by rw[hf]⟩
theorem ub:((a::cs)++c::T).Perm (a::c::(cs++T)):=List.Perm.cons _ AH
theorem uc{b:Ab}:(a::b::c::(cs++T)).Perm (a::b::(cs++c::T)):=List.Perm.cons _ (List.Perm.cons _ AH.symm)
abbrev GS(xs:List Hs):List Value:=xs.flatMap Ps
theorem cx(xs:List Hs)(x:Hs):GS (xs++[x])=GS xs++Ps x:=by simp[GS]
theorem Pu{gf:Nat}{lb:List Value}{C:List Ab}{Out:List Hs->List Ab->Prop}[en:EN prog gf](hit:WB prog gf lb (λn:Hs=>[ZQ n]) C Out):Fn prog 268 [.func (.func gf) #[] (toArray lb)] C λv l'=> ∃xs cs C',OwnSl 69 12 v xs.length (GS xs) cs/\Out xs C'/\l'=cs++C':=by
 refine AO func268 ntmps268 λE=>?_;refine AQ λb3=>?_;refine gx (α:=Hs) (ps:=[6]) (lb:=lb) rfl hit (λ_=>rfl) rfl (λpre l=> ∃v cs,OwnSl 69 12 v pre.length (GS pre) cs/\l=sU b3 v::cs) [sU b3 (.slice none 0 0)] .refl ⟨_,[],OwnSl.nil _ _,rfl⟩ ?_ ?_
 ·rintro E r0 rec pre x l T ⟨fn,tmps,D,rfl⟩ h3 ⟨v,cs,ho,rfl⟩;refine DQ (.of_perm ub) ?_;simp only[Du];refine AQ λb4=>?_;refine Cp (by exact Dw) ?_;refine DQ (.of_perm uc) ?_;refine Aj ?_;refine AS (E3 (ws:=Ps x) (k:=12) rfl rfl rfl AW AW) ?_;rintro _ _ ⟨bz,_,rfl,rfl⟩;refine Aj ?_;refine AS (GI (k:=12) (X:=[SL b4 x,sU b3 v]) (cs:=cs) (xs:=GS pre) (n:=pre.length) (zs:=Ps (L8 0)) (ws:=Ps x) rfl rfl rfl ho rfl (by simp[Value.oneCell']) Af AW) ?_;rintro v2 _ ⟨cs2,ho2,rfl⟩;simp only[Ad,Ag];have o2:=Qy ho2;refine Aj ?_;refine B9 (sU b3 v2::cs2) (.drop .refl) ?_;exact⟨v2,cs2,by rw[cx,Ah];exact ho2,rfl⟩
 ·rintro D xs l C' ⟨v,cs,ho,rfl⟩ hO;simp only[Ad];refine Aj ?_;exact AU (vs:=[v]) [D] _ rfl .refl (by exact A7) (.drop .refl) ⟨xs,cs,C',ho,hO,rfl⟩
abbrev iU(bl:Nat)(v:Value):Ab:=(bl,.cells (toArray [v]) 492 (0,0))
abbrev sW(gb:Nat)(ys:List CB)(sp:List Value):Ab:=(gb,.cells (toArray (Tr.scs ys++sp)) 61 (0,0))
abbrev qh(B bl:Nat):Ab:=(B,.cells #[pV bl] 490 (0,0))
theorem ZR{i:Nat}(h:ys[i]?=some x)(sp:List Value):i*2+2<=(toArray (Tr.scs ys++sp)).size/\(toArray (Tr.scs ys++sp)).extract (i*2) (i*2+2)=toArray (Cj x):=by obtain⟨h1,h2⟩:=JN (enc:=Cj) (k:=2) (λ_=>rfl) sp ys i x h;refine⟨by rw[Bm];exact h2,?_⟩;rw[Fs,Cx,CP];exact BM toArray h1
theorem gK(bl:Nat)(l:List Ab):Fn prog 326 [pV bl] l λv l'=> ∃B,v= .func (.func 362) #[] #[pV B]/\l'=qh B bl::l:=by refine AO func326 ntmps326 λE=>?_;refine AQ λB=>?_;exact A8 .refl ⟨B,rfl,rfl⟩
def vR(B bl:Nat)(pre:List CB)(o:Option CB)(L:List Ab):Prop:= ∃gb cap sp ys,qh B bl∈L/\iU bl (.slice (some ⟨gb,0,none⟩) ys.length cap)∈L/\sW gb ys sp∈L/\ys.length<=1000000/\o=ys[pre.length]?
theorem cy(B bl:Nat):na prog 362 [pV B] (λx:CB=>[Fp x]) (vR B bl):=by
 refine⟨λr I Ix hnx hY m o l X h0=>?_⟩;refine AO func362 ntmps362 λE=>?_;refine Aj ?_;refine Cu (α:=Nat×Nat×List CB×Option CB×List Ab) (λx=>[(0,.func (.yield r) #[] #[]),(1,pV B),(3,.int .i64 x.1)]) (λx=>x.2.2.2.2++X) (λx=>x.2.2.1.length=x.1/\I x.2.1 x.2.2.1 x.2.2.2.1 x.2.2.2.2) (λx=>x.2.1) (0,m,[],o,l) ⟨rfl,h0⟩ ⟨rfl,rfl,rfl,trivial⟩ .refl ?_;rintro⟨i,m,pre,o,l⟩ ⟨hi,hI⟩;simp only at hi hI⊢;obtain⟨gb,cap,sp,ys,n1,n2,n3,hl,ho⟩:=hnx _ _ _ _ X hI;rw[hi] at ho;by_cases hlt:i<ys.length
 ·obtain⟨x,hx⟩: ∃x,ys[i]?=some x:=⟨_,Am hlt⟩
  rw[hx] at ho;subst ho;obtain⟨z1,z2⟩:=ZR hx sp;refine Aj ?_;refine Bc (Dm rfl n3 z1 z2) ?_;refine Aj ?_;have hy:=hY m pre x l X hI;refine AS (CK rfl rfl hy) ?_;rintro v _ ⟨l1,rfl,⟨rfl,m',o',hm,hI'⟩|⟨rfl,hx⟩⟩
  ·refine Aj ?_;exact BS (i+1,m',pre++[x],o',l1) ⟨by simp[hi],hI'⟩ hm ⟨rfl,rfl,rfl,trivial⟩ .refl
  ·refine Aj ?_;exact A8 .refl ⟨l1,rfl,.inr ⟨_,hx⟩⟩
 ·rw[Bb Af] at ho;subst ho;refine Aj ?_;exact A8 .refl ⟨l,rfl,.inl ⟨m,pre,hI⟩⟩
def oZ(S:KT)(id:Int):KT:=DS S {Er S id with ca:=0}
def o4(S:KT)(id:Int):KT:=if Oa S id=true/\¬(Er S id).ca=0 then oZ (Jq S (Er S id).ca).2 id else S
def J9(S:KT)(c:CapT):KT:=
 if c.kind=4\/c.kind=5\/c.kind=6 then(Pq S c.obj).2
 else if c.kind=8 then(En.listD S.E c.obj).1.foldl (λS t=>(Jq S t).2) S
 else if c.kind=9 then o4 (Jq S c.obj).2 c.obj
 else S
def cA(S:KT)(x:CB):Bool:=decide ((getD' S.H.1 x).2=0)&&!decide ((D5 S x).kind=0)
def KO(S:KT)(c:CapT)(n:Nat):List CB:=((List.range n).map λi=>(c.obj,((i:Nat):Int))).filter (cA S)
def KP(S:KT)(c:CapT):List CB:=KO S c (Ar.slotsD c.kind (Ar.getD' S.A c.obj).1.sz).toNat
theorem ZS(k z:Int):0<=Ar.slotsD k z/\Ar.slotsD k z<=16:=by unfold Ar.slotsD;(repeat' split)<;>omega
theorem T5(S:KT)(c:CapT)(n:Nat):(KO S c n).length<=n:=BW (C6 _ _) (by simp)
theorem PN(S:KT)(c:CapT)(n:Nat):KO S c (n+1)=KO S c n++(if cA S (c.obj,n)=true then[(c.obj,(n:Int))] else[]):=by unfold KO;rw[Cs,Ap,Dl,AJ,CY,ET,List.filter_nil]
theorem gM(h:OwnSl e 2 v (ys.length+1) (Tr.scs ys++Cj x) cs):OwnSl e 2 v (ys++[x]).length (Tr.scs (ys++[x])) cs:=by rw[Tr.scs_snoc,Ah];exact h
theorem T6{U:List Int}{j:Nat}(h:j<U.length):U.take (j+1)=U.take j++[U.getD j 0]:=by rw[B0,List.getD,Am h];rfl
section
theorem ZT{xs:List Value}(h:OwnSl e k v n xs cs):n<=9223372036854775807:=by
 have hm:maxLen<=9223372036854775807:=by decide
 rcases h.2 with⟨_,rfl,_⟩|⟨_,cap,_,_,_,h1,h2,_⟩<;>omega
theorem o5{X d:Ab}:([X]++(c::d::Av b p s S G)).Perm (c::d::Av b p s S (X::G)):=by unfold Av;exact Cc
set_option maxHeartbeats 2000000 in
theorem rW(hK:IsK F C k S p s)(c:CapT)(bl:Nat)(v:Value)(ys:List CB)(cs:List Ab)(hys:ys.length<=500000)(ho:OwnSl 61 2 v ys.length (Tr.scs ys) cs):
 Fn prog 329 [pV b,pV bl,UH c] (iU bl v::(cs++Av b p s S G)) λv' l'=>v'= .tuple #[]/\ ∃v2 cs2 s' L,OwnSl 61 2 v2 (ys++KP (J9 S c) c).length (Tr.scs (ys++KP (J9 S c) c)) cs2/\IsK F C k (J9 S c) p s'/\Tail L G/\l'=iU bl v2::(cs2++Av b p s' (J9 S c) L):=by
 refine Fn.keep (l':=iU bl v::Av b p s S (cs++G)) (.of_perm (List.Perm.cons _ (EF ..))) ?_;have mr:Co b p∈Av b p s S (cs++G):=mR λ_ h=>h;obtain⟨R,hR⟩: ∃R,J9 S c=R:=⟨_,rfl⟩
 rw[hR];unfold J9 at hR;refine AO func329 ntmps329 λE=>?_;refine Aj ?_
 (first|refine AS (DZ rfl rfl) ?_|refine AS (CR rfl) ?_);rintro _ _ ⟨b5,_,rfl,rfl⟩
 refine SS ?_;refine Mo ?_;refine Xj (α:=KT×RL×List Ab) (λ_=>[(0,pV b),(1,pV bl),(5,pV b5)]) (λx=>Bp b5 c::iU bl v::(cs++Av b p x.2.1 x.1 x.2.2)) (λx=>x.1=R/\IsK F C k x.1 p x.2.1/\Tail x.2.2 G) ?_ ?_
 ·refine Aj ?_;by_cases h4:c.kind=4\/c.kind=5\/c.kind=6
  ·rw[Ae h4] at hR;rcases h4 with h|h|h;all_goals
    refine Aj ?_;refine Fy ?_;intro S1 s1 L1 hS1 hK1 hT1 mr1;refine Aj ?_;obtain⟨L2,hL2,hp⟩:=Gs (b:=b) (p:=p) (s:=s1) (S:=S1) hT1;exact D8 (S1,s1,L2) ⟨hS1.trans hR,hK1,hL2⟩ ⟨rfl,rfl,rfl,trivial⟩ (.of_perm (.cons _ (.cons _ hp)))
  rw[Ac h4] at hR;by_cases h8:c.kind=8
  ·rw[Ae h8] at hR;refine Aj ?_;refine Ch (Cf [4] 0 10) ?_;refine Ci ?_;refine Ju (Az rfl rfl (En.list_any p.e S.E s.E c.obj hK.en hK.el9 _ λx hx=> .tail _ (.tail _ (mE (λ_ h=>h) x hx)))) ?_ rfl rfl;rintro _ _ ⟨sl,cw,rfl,hw,rfl⟩;obtain⟨W,hW⟩: ∃W,(En.listD S.E c.obj).1=W:=⟨_,rfl⟩
   rw[hW] at hR hw;refine Ci ?_;by_cases hW0:W.length=0
   ·obtain⟨pp,cap,hsh⟩:=hw.shape;rw[hW0] at hsh;rw[FK.1 hW0] at hR;rw[hsh];refine Aj ?_;refine Hb 0 ?_;refine Aj ?_;obtain⟨L2,hL2,hp⟩:=Gs (b:=b) (p:=p) (s:=s) (S:=S) (Tail.nil (G:=cs++G));exact D8 (S,s,L2) ⟨hR,hK,hL2⟩ ⟨rfl,rfl,rfl,trivial⟩ (Keep.trans (Keep.dropL' cw .refl) (.of_perm (.cons _ (.cons _ hp))))
   obtain⟨gw,cap,sw,rfl,rfl⟩:=Mg hw Af;have hwl:=ZT hw;refine Aj ?_;refine Cu (α:=Nat×KT×RL×List Ab) (λx=>[(0,pV b),(1,pV bl),(5,pV b5),(38,.slice (some ⟨gw,0,none⟩) W.length cap),(39,.int .i64 (W.length:Nat)),(40,.int .i64 x.1)]) (λx=>Bp b5 c::iU bl v::Av b p x.2.2.1 x.2.1 x.2.2.2) (λx=>x.1<=W.length/\x.2.1=(W.take x.1).foldl (λS t=>(Jq S t).2) S/\IsK F C k x.2.1 p x.2.2.1/\Tail x.2.2.2 (Me gw W sw::(cs++G))) (λx=>W.length-x.1) (0,S,s,Me gw W sw::(cs++G)) ⟨Bf _,rfl,hK,.nil⟩ ⟨rfl,rfl,rfl,rfl,rfl,rfl,trivial⟩ (.of_perm o5) ?_;rintro⟨i,S1,s1,L1⟩ ⟨hi,hS1,hK1,hT1⟩;simp only at hi hS1 hK1 hT1⊢;have mr1:Co b p∈Av b p s1 S1 L1:=mR λ_ h=>h;have mw:Me gw W sw∈Av b p s1 S1 L1:=mG (λ_ h=>h) _ (by obtain⟨X,rfl⟩:=hT1;simp);by_cases hlt:i<W.length
   ·obtain⟨t,ht⟩: ∃t,W.getD i 0=t:=⟨_,rfl⟩
    have c0:(toArray (W.map CA++sw))[i*1]?=some (.int .i64 t):=by rw[Dh,<-ht];exact PK hlt
    refine Aj ?_;refine Fy ?_;intro S2 s2 L2 hS2 hK2 hT2 mr2;refine Aj ?_;exact BS (i+1,S2,s2,L2) ⟨by simp only;omega,by simp only;rw[T6 hlt,ED,<-hS1,ht];exact hS2,hK2,hT2.trans hT1⟩ (by simp only;omega) ⟨rfl,rfl,rfl,rfl,rfl,rfl,trivial⟩ .refl
   ·rw[Bz Af] at hS1;refine Aj ?_;obtain⟨L2,hL2,hp⟩:=Gs (b:=b) (p:=p) (s:=s1) (S:=S1) (hT1.trans (Tail.nil.cons));exact D8 (S1,s1,L2) ⟨hS1.trans hR,hK1,hL2⟩ ⟨rfl,rfl,rfl,trivial⟩ (.of_perm (.cons _ (.cons _ hp)))
  rw[Ac h8] at hR;by_cases h9:c.kind=9
  case neg=>rw[Ac h9] at hR;refine Aj ?_;obtain⟨L2,hL2,hp⟩:=Gs (b:=b) (p:=p) (s:=s) (S:=S) (Tail.nil (G:=cs++G));exact D8 (S,s,L2) ⟨hR,hK,hL2⟩ ⟨rfl,rfl,rfl,trivial⟩ (.of_perm (.cons _ (.cons _ hp)))
  rw[Ae h9] at hR;refine Aj ?_;refine Fy ?_;intro S1 s1 L1 hS1 hK1 hT1 mr1;rw[<-hS1] at hR;unfold o4 Oa at hR;refine Aj ?_;refine Ch (Cf [8,9] 0 11) ?_;refine Ci ?_;obtain⟨t,ht⟩: ∃t,Er S1 c.obj=t:=⟨_,rfl⟩
  obtain⟨ok,hok⟩: ∃ok,(Th.findH S1.T c.obj).isSome=ok:=⟨_,rfl⟩
  rw[ht,hok] at hR⊢;refine Hf e_alloc (by rintro _ _ ⟨_,_,_,rfl⟩ c hc;exact .tail _ hc) ?_;rintro _ _ ⟨b10,_,rfl,rfl⟩;refine Ci ?_;by_cases h2:ok=true/\¬t.ca=0
  case neg=>
   rw[Ac h2] at hR;obtain⟨L2,hL2,hp⟩:=Gs (b:=b) (p:=p) (s:=s1) (S:=S1) hT1;cases ok<;>by_cases h3:t.ca=0;all_goals first
    |(exfalso;simp[h3] at h2;done)
    |(refine Aj ?_
      exact D8 (S1,s1,L2) ⟨hR,hK1,hL2⟩ ⟨rfl,rfl,rfl,trivial⟩ (.drop (.of_perm (.cons _ (.cons _ hp)))))
  rw[Ae h2] at hR;obtain⟨rfl,h3⟩:=h2;refine Aj ?_;refine Fy ?_;intro S2 s2 L2 hS2 hK2 hT2 mr2;rw[<-hS2] at hR;unfold oZ at hR;refine Aj ?_;refine Ch (Cf [8] 0 9) ?_;refine Ci ?_;have htw:=hK2.tO c.obj;obtain⟨t2,ht2⟩: ∃t,Er S2 c.obj=t:=⟨_,rfl⟩
  rw[ht2] at hR htw⊢;refine Ci ?_;refine Aj ?_;refine Ch (Cf [3] 0 4) ?_;refine Ci ?_;refine Lj (q:=M0 {t2 with ca:=0} ⟨htw.out⟩) ?_;intro S3 s3 L3 hS3 hK3 hT3 mr3;refine Ci ?_;refine Aj ?_;obtain⟨L4,hL4,hp⟩:=Gs (b:=b) (p:=p) (s:=s3) (S:=S3) (hT3.trans (hT2.trans hT1));exact D8 (S3,s3,L4) ⟨hS3.trans hR,hK3,hL4⟩ ⟨rfl,rfl,rfl,trivial⟩ (.drop (.of_perm (.cons _ (.cons _ hp))))
 rintro⟨S1,s1,L1⟩ ⟨hS1,hK1,hT1⟩;simp only at hS1 hK1 hT1⊢;rw[<-hS1];have I: ∀cq,∀{f:Nat} {vs:List Value} {v:Value} [QF prog f vs (Av b p s1 S1 L1) v],QF prog f vs (cq++Av b p s1 S1 L1) v:=λcq=>W5 λc hc=>Aa _ hc;have I1:=λ{f:Nat} {vs:List Value} {v:Value}=> @I cs f vs v;refine Aj ?_;refine Ch (Cf [8,9] 0 11) ?_;refine Ci ?_;obtain⟨o,ho1⟩: ∃o,(Ar.getD' S1.A c.obj).1=o:=⟨_,rfl⟩
 unfold KP;rw[ho1];refine Hf e_alloc (by rintro _ _ ⟨_,_,_,rfl⟩ c hc;exact .tail _ hc) ?_;rintro _ _ ⟨b12,_,rfl,rfl⟩;refine Ci ?_;refine Aj ?_;refine Ea ?_;obtain⟨n0,n16⟩:=ZS c.kind o.sz;obtain⟨n,hn⟩: ∃n:Nat,Ar.slotsD c.kind o.sz=n:=⟨(Ar.slotsD c.kind o.sz).toNat,Af⟩
 rw[hn] at n0 n16⊢;rw[A3];refine Aj ?_;refine Cu (α:=Nat×Value×List Ab) (λx=>[(0,pV b),(1,pV bl),(5,pV b5),(97,.int .i64 (n:Nat)),(98,.int .i64 x.1)]) (λx=>Bp b5 c::iU bl x.2.1::(x.2.2++Av b p s1 S1 L1)) (λx=>x.1<=n/\OwnSl 61 2 x.2.1 (ys++KO S1 c x.1).length (Tr.scs (ys++KO S1 c x.1)) x.2.2) (λx=>n-x.1) (0,v,cs) ⟨Bf _,by simpa[KO] using ho⟩ ⟨rfl,rfl,rfl,rfl,rfl,trivial⟩ (.drop .refl) ?_;rintro⟨i,w,cw⟩ ⟨hi,how⟩;simp only at hi how⊢;have I1:=λ{f:Nat} {vs:List Value} {v:Value}=> @I cw f vs v;by_cases hlt:i<n
 case neg=>
  obtain rfl:i=n:=by omega
  refine Aj ?_;exact Cy _ .refl (.drop .refl) ⟨rfl,w,cw,s1,L1,how,hK1,hT1,rfl⟩
 obtain⟨h,hh⟩: ∃h,(getD' S1.H.1 (c.obj,(i:Int))).1=h:=⟨_,rfl⟩
 obtain⟨e,he⟩: ∃e,(getD' S1.H.1 (c.obj,(i:Int))).2=e:=⟨_,rfl⟩
 have hs:cA S1 (c.obj,(i:Int))=(decide (e=0)&&!decide (h.kind=0)):=by unfold cA;rw[he,show D5 S1 (c.obj,(i:Int))=h from hh]
 refine AQ λb15=>?_;refine Ch (Cf [7,8] 0 10) ?_;refine Ci ?_;rw[hh,he];refine Hf e_alloc (by rintro _ _ ⟨_,_,_,rfl⟩ c hc;exact .tail _ hc) ?_;rintro _ _ ⟨b16,_,rfl,rfl⟩;refine Ci ?_;by_cases h0:e=0/\¬h.kind=0
 case neg=>
  have hs0:cA S1 (c.obj,(i:Int))=false:=by rw[hs];simpa using h0
  by_cases h1:e=0<;>by_cases h2:h.kind=0;all_goals first
   |(exfalso;exact h0 ⟨h1,h2⟩)
   |(refine Aj ?_
     exact BS (i+1,w,cw) ⟨by simp only;omega,by simp only;rw[PN,hs0,Ac AW,Be];exact how⟩ (by simp only;omega) ⟨rfl,rfl,rfl,rfl,rfl,trivial⟩ (.drop (.drop .refl)))
 obtain⟨h1,h2⟩:=h0;have hs0:cA S1 (c.obj,(i:Int))=true:=by rw[hs];simp[h1,h2]
 refine Aj ?_;refine Ch (Cf [6,7,10] 0 11) ?_;refine Ci ?_;refine Hf (E3 (ws:=Cj (c.obj,(i:Int))) (k:=2) rfl rfl rfl AW AW) ?_ ?_ rfl rfl
 ·rintro _ _ ⟨_,_,_,rfl⟩ c hc;exact .tail _ hc
 rintro _ _ ⟨bx,_,rfl,rfl⟩;refine Ci ?_;refine Ju (GI (k:=2) (X:=[Bp b16 h,(b15,Obj.cells (toArray (Cj (c.obj,(i:Int)))) 61 (0,0)),Bp b5 c,iU bl w]) (cs:=cw) (xs:=Tr.scs (ys++KO S1 c i)) (n:=(ys++KO S1 c i).length) (zs:=Cj (0,0)) (ws:=Cj (c.obj,(i:Int))) rfl rfl rfl how rfl (by simp[Value.oneCell']) (by have:=T5 S1 c i;rw[Ah];omega) AW) ?_ rfl rfl;rintro w2 _ ⟨cw2,how2,rfl⟩;have o2:=Qy how2;simp only[Ad,Ag];refine Ci ?_;refine Aj ?_;exact BS (i+1,w2,cw2) ⟨by simp only;omega,by simp only;rw[PN,hs0,Ae rfl,<-Al];exact gM how2⟩ (by simp only;omega) ⟨rfl,rfl,rfl,rfl,rfl,trivial⟩ (.drop (.drop .refl))
end
abbrev Lh(S:KT):Nat:=S.H.2.length
theorem rX(S:KT)(id st:Int):(NO S id st).2.H=S.H:=by unfold NO;(repeat' split)<;>rfl
theorem rY(S:KT)(id:Int):(rK S id).H=S.H:=by unfold rK;split<;>rfl
theorem Qz(S:KT)(id:Int):(Jq S id).2.H=S.H:=by
 unfold Jq ZF
 split
 ·rfl
 ·rw[rX];exact rY _ _
theorem o6(S:KT)(id:Int):(Pq S id).2.H=S.H:=by
 unfold Pq TX Wy
 (repeat' split)<;>rfl
theorem gN(l:List Int)(S:KT):(l.foldl (λS t=>(Jq S t).2) S).H=S.H:=by
 induction l generalizing S with
 |nil=>rfl
 |cons a l ih=>rw[Eg,ih,Qz]
theorem o7(S:KT)(c:CapT):(J9 S c).H=S.H:=by
 unfold J9
 split
 ·exact o6 _ _
 split
 ·exact gN _ _
 split
 ·unfold o4 oZ
  split
  ·show(Jq _ _).2.H=_;rw[Qz,Qz]
  ·exact Qz _ _
 ·rfl
theorem k9(S:KT)(c:CapT):(PM S c).H=S.H:=by unfold PM gj;split<;>rfl
theorem Ry(d:Int)(B:Tr.DT):(Tr.decW d B).length=B.length:=by unfold Tr.decW;have:=BM List.length (BV (p:=λx:CB×Int=>decide (d<x.2)) (l:=B));simp only[Ah,AZ] at this⊢;exact this
theorem Yp(hI:InvH H n)(h:(DR H x).1.2=0):(DR H x).2.2.length+1=H.2.length:=by
 unfold DR at h⊢
 split at h
 ·cases h
 rename_i h1;rw[Ac h1]
 split at h
 ·cases h
 rename_i h2;rw[Ac h2];have h3:=(hI.link x).2 ⟨by simpa using h1,h2⟩;unfold Tr.hasD at h3;dsimp only;unfold Tr.removeD;cases hs:Tr.splitD x H.2 with
 |none=>rw[hs] at h3;cases h3
 |some y=>obtain⟨A,d,B⟩:=y;obtain⟨h4,_⟩:=Tr.splitD_some hs;dsimp only;rw[h4,Ah,Ah,Ry,Bi];omega
theorem Yq(h:¬(DR H x).1.2=0):(DR H x).2=H:=by
 unfold DR at h⊢
 split
 ·rfl
 ·rename_i h1;rw[Ac h1] at h
  split
  ·rfl
  ·rename_i h2;rw[Ac h2] at h;exact absurd rfl h
def ZU(S:KT)(x:CB):KT:=if(DR S.H x).1.1.kind=3 then PM {S with H:=(DR S.H x).2} (DR S.H x).1.1 else{S with H:=(DR S.H x).2}
def NP:Nat->KT->List CB->List Int->Nat->KT×List Int×Nat
 |0,S,_,es,n=>(S,es,n)
 |_+1,S,[],es,n=>(S,es,n)
 |m+1,S,x::ys,es,n=>
  if ¬(DR S.H x).1.2=0 then NP m {S with H:=(DR S.H x).2} ys es n
  else if KJ S.H x=false\/(DR S.H x).1.1.obj=0 then NP m (ZU S x) ys es (n+1)
  else NP m (J9 (ZU S x) (DR S.H x).1.1) (ys++KP (J9 (ZU S x) (DR S.H x).1.1) (DR S.H x).1.1) (es++[(DR S.H x).1.1.obj]) (n+1)
theorem cC(m:Nat)(S:KT)(es:List Int)(n:Nat):NP m S [] es n=(S,es,n):=by cases m<;>rfl
def gO(S:KT)(l:List Int):KT:=l.foldl (λS id=>(bQ S id).2) S
def PO(S:KT)(x:CB):Nat×KT:=((NP (17*Lh S+1) S [x] [] 0).2.2,OR (gO (NP (17*Lh S+1) S [x] [] 0).1 (NP (17*Lh S+1) S [x] [] 0).2.1))
section
theorem o8:((lo++(A++(B++Av b p s S L)))++(r,o)::T).Perm (lo++(r,o)::Av b p s S (A++(B++(L++T)))):=by unfold Av;exact Cc
end
abbrev ZW(B bl b5 b6 b7 b2 b:Nat)(vl ve:Value)(n:Nat):List Ab:=[qh B bl,iU bl vl,qh b5 bl,L6 b6 ve,BG b7 n,rB b2 b]
section
def sX(F C k b:Nat)(p:RP)(G:List Ab)(R:KT×List Int×Nat)(M B bl b5 b6 b7 b2 m:Nat)(pre:List CB)(o:Option CB)(l:List Ab):Prop:=
 ∃(S':KT) (s':RL) (L:List Ab) (ys:List CB) (vl ve:Value) (cl ce:List Ab) (es:List Int) (n:Nat),IsK F C k S' p s'/\Tail L G/\1<=ys.length/\o=ys[pre.length]?/\17*Lh S'+(ys.drop pre.length).length<=m/\17*Lh S'+ys.length<=M/\es.length<=pre.length/\n<=pre.length/\pre.length<=ys.length/\NP m S' (ys.drop pre.length) es n=R/\
  OwnSl 61 2 vl ys.length (Tr.scs ys) cl/\OwnSl 3 1 ve es.length (es.map CA) ce/\l=ZW B bl b5 b6 b7 b2 b vl ve n++(cl++(ce++Av b p s' S' L))
theorem rZ:(lo++(r,o)::Av b p s S L).Perm (lo++Av b p s S ((r,o)::L)):=by unfold Av;exact Cc
theorem r4:(lo++(A++(B++Av b p s S L))).Perm (lo++Av b p s S (A++(B++L))):=by unfold Av;exact Cc
theorem ZX{L9:List Ab}(h:Tail L9 (lp::(A++(B++(L++T))))): ∃L',Tail L' L/\ ∀lo,(lo++Av b p s S L9).Perm ((lo++(A++(B++Av b p s S L')))++lp::T):=by obtain⟨X,rfl⟩:=h;exact⟨X++L,⟨X,rfl⟩,λlo=>by unfold Av;exact Cc⟩
theorem o9:([c10,c8,cB,cv,c5,c6,c7,c2]++Av b p s S (X++lp::(A++(B++(L++T))))).Perm (cv::(A++Av b p s S ([c10,c8,cB,c5,c6,c7,c2]++(B++(X++lp::(L++T)))))):=by unfold Av;exact Cc
theorem ld:(cv::(A++Av b p s S (Z++([c10,c8,cB,c5,c6,c7,c2]++(B++(X++lp::(L++T))))))).Perm ([c10,c8,cB,cv,c5,c6,c7,c2]++(B++(A++Av b p s S (Z++(X++lp::(L++T)))))):=by unfold Av;exact Cc
theorem lg:(lo++(B++(A++Av b p s S (Z++(X++lp::(L++T)))))).Perm ((lo++(A++(B++Av b p s S (Z++(X++L)))))++lp::T):=by unfold Av;exact Cc
set_option maxHeartbeats 4000000 in
theorem pa(hK:IsK F C k S p s)(x:CB):Fn prog 290 [pV b,Fp x] (Av b p s S G) (KK F C b p k (iV (PO S x).1) (PO S x).2 G):=by
 have mr:Co b p∈Av b p s S G:=mR λ_ h=>h;obtain⟨m9,h91,h92,_,h93⟩:=hK.small;have t93:Lh S<=1000:=h93;obtain⟨R,hR⟩: ∃R,NP (17*Lh S+1) S [x] [] 0=R:=⟨_,rfl⟩
 unfold PO;rw[hR];refine AO func290 ntmps290 λE=>?_;refine AQ λb2=>?_;refine AQ λb3=>?_;refine AS (E3 (ws:=Cj x) (k:=2) rfl rfl rfl AW AW) ?_;rintro _ _ ⟨gs,_,rfl,rfl⟩;refine AQ λbl=>?_;refine AQ λb5=>?_;refine AQ λb6=>?_;refine AQ λb7=>?_;refine AS (Az rfl rfl (gK bl _)) ?_;rintro _ _ ⟨B,rfl,rfl⟩;refine Aj ?_;refine gy (α:=CB) (ps:=[20]) (lb:=[pV B]) rfl (cy B bl) (λ_=>rfl) rfl
  (sX F C k b p G R (17*Lh S+1) B bl b5 b6 b7 b2) (λ_ _ _=>False) (ZW B bl b5 b6 b7 b2 b (.slice (some ⟨gs,0,none⟩) 1 1) (.slice none 0 0) 0++([sW gs [x] []]++([]++Av b p s S G))) (m0:=17*Lh S+1) (o0:=some x) ?_ (by exact AR) ⟨S,s,G,[x],_,_,_,_,[],0,hK,.nil,A5 _,rfl,A5 _,A5 _,A5 _,A5 _,Bf _,hR,⟨rfl,.inr ⟨gs,1,[],rfl,rfl,A5 _,by unfold maxLen;omega,rfl⟩⟩,OwnSl.nil _ _,rfl⟩ ?_ ?_ ?_
 ·rintro m pre o l X ⟨S1,s1,L1,ys,vl,ve,cl,ce,es,n,hK1,hT1,hy1,ho,hm,hM,hes,hn,hp,hR1,hol,hoe,rfl⟩;obtain⟨gb,cap,sp,rfl,rfl⟩:=Mg hol hy1;exact⟨gb,cap,sp,ys,by simp,by simp,by simp,Af,ho⟩
 ·rintro E r0 rec m pre x1 l T ⟨fn,tmps,D,hrec⟩ ⟨S1,s1,L1,ys,vl,ve,cl,ce,es,n,hK1,hT1,hy1,ho,hm,hM,hes,hn,hp,hR1,hol,hoe,rfl⟩;obtain⟨m8,h81,h82,_⟩:=hK1.small;have hlt:=(Ax.1 ho.symm).1;have hd:ys.drop pre.length=x1::ys.drop (pre.length+1):=by rw[CX hlt,(Ax.1 ho.symm).2]
  rw[hd] at hm hR1;rw[Bi] at hm;obtain⟨m,rfl⟩: ∃q,m=q+1:=⟨m-1,Af⟩
  unfold NP at hR1;have hln:(ys.drop (pre.length+1)).length=ys.length-(pre.length+1):=DK;have hl1:(pre++[x1]).length=pre.length+1:=by simp
  refine DQ (.of_perm (o8 (lo:=ZW B bl b5 b6 b7 b2 b vl ve n))) ?_;rw[hrec];simp only[Du,ZW,Ad,Ag];refine AQ λb8=>?_;refine Cp (by exact Dw) ?_;rw[<-hrec];refine DQ (.of_perm (rZ (lo:=TS b8 x1::ZW B bl b5 b6 b7 b2 b vl ve n))) ?_;obtain⟨lp,hlp⟩: ∃lp:Ab,(r0,Obj.loop (rec .busy none))=lp:=⟨_,rfl⟩
  rw[hlp];have mr1:Co b p∈Av b p s1 S1 (lp::(cl++(ce++(L1++T)))):=mR λ_ h=>h;simp only[ZW,Ad,Ag];refine Aj ?_;refine Ch (Cf [] 0 5) ?_;refine Ci ?_;obtain⟨fin,hfin⟩: ∃q,KJ S1.H x1=q:=⟨_,rfl⟩
  rw[hfin] at hR1⊢;refine Aj ?_;obtain⟨q,hq⟩: ∃q,DR S1.H x1=q:=⟨_,rfl⟩
  have hless:q.1.2=0->q.2.2.length+1=Lh S1:=λh=>by rw[<-hq] at h⊢;exact Yp h82 h
  have hsame:¬q.1.2=0->q.2=S1.H:=λh=>by rw[<-hq] at h⊢;exact Yq h
  unfold ZU at hR1;rw[hq] at hR1;refine Kk [(0,true),(1,true),(2,true),(3,false),(4,true),(5,true),(6,true),(7,false),(8,false),(9,true)] [[],[0],[],[0,1,2],[0,1,2,3],[0,1,2,3,4],[0,1,2,3,4],[],[0,1,2,3,4,5,7],[0,1,2,3,4,5,6,7,8]] 3 7 ([rB b2 b,TS b8 x1,Co b p]) Bv Bv Gh ((T3 BO BO BO)) ?_;refine BI ?_;refine Tf ?_;refine BI ?_;refine Mv [(7,false),(3,false),(4,true),(5,true),(6,true),(8,false),(9,true)] Gh (AH (l₁:=[_,_,_,_])).symm Bv ?_ ?_
  case' refine_1=>
   refine qe ?_ ?_
   ·intro S2 s2 L2;have mr2:Co b p∈Av b p s2 S2 L2:=mR λ_ h=>h;exact T3 BO BO BO
   intro S2 s2 L2 hS2 hK2 hT2 mr2;iterate 3 refine VC ?_
   refine CE e_alloc rfl rfl rfl ?_ ?_
   ·rintro _ _ ⟨_,_,_,rfl⟩ c hc;exact .tail _ (T3 BO BO BO c hc)
   rintro _ _ ⟨b10,_,rfl,rfl⟩
  case' refine_2=>
   refine CE e_alloc rfl rfl rfl ?_ ?_
   ·rintro _ _ ⟨_,_,_,rfl⟩ c hc;exact .tail _ (T3 BO BO BO c hc)
   rintro _ _ ⟨b10,_,rfl,rfl⟩;refine qe ?_ ?_
   ·intro S2 s2 L2;have mr2:Co b p∈Av b p s2 S2 L2:=mR λ_ h=>h;exact T3 BO BO BO
   intro S2 s2 L2 hS2 hK2 hT2 mr2;iterate 3 refine VC ?_
  all_goals
   rw[hq] at hS2⊢;obtain⟨c,hc⟩: ∃c,q.1.1=c:=⟨_,rfl⟩
   obtain⟨er,her⟩: ∃e,q.1.2=e:=⟨_,rfl⟩
   rw[hc,her] at hR1⊢;rw[her] at hless hsame;refine mf ?_ (hR:=T3 BO BO BO);refine BI ?_;refine Aj ?_;by_cases h0:er=0
   case neg=>
    rw[Ae h0] at hR1;have e2:Lh S2=Lh S1:=by rw[hS2];show q.2.2.length=_;rw[hsame h0]
    rw[<-hS2] at hR1;refine Aj ?_;subst hlp hrec;obtain⟨L9,hL9,hp9⟩:=ZX (b:=b) (p:=p) (s:=s2) (S:=S2) hT2;exact B9 (ZW B bl b5 b6 b7 b2 b vl ve n++(cl++(ce++Av b p s2 S2 L9))) (Keep.trans (.drop (.drop .refl)) (.of_perm (hp9 (ZW B bl b5 b6 b7 b2 b vl ve n)))) ⟨m,ys[pre.length+1]?,GW _,by unfold sX;simp only[hl1];exact⟨S2,s2,L9,ys,vl,ve,cl,ce,es,n,hK2,hL9.trans hT1,hy1,rfl,Af,Af,Af,Af,Af,hR1,hol,hoe,rfl⟩⟩
   rw[Ac (λh=>h h0)] at hR1;have e2:Lh S2+1=Lh S1:=by rw[hS2];exact hless h0
   have hn9:n<=18000:=by omega
   refine Aj ?_;by_cases h3:c.kind=3
   case' pos=>
    rw[Ae h3] at hR1;refine Aj ?_;refine Fy ?_;intro S3 s3 L3 hS3 hK3 hT3' mr3;have hT3:=hT3'.trans hT2;have e3:Lh S3=Lh S2:=by rw[hS3];exact BM (λH:HS=>H.2.length) (k9 S2 c)
    rw[show PM {S1 with H:=q.2} c=S3 by rw[hS3,<-hS2];rfl] at hR1;refine Aj ?_
   case' neg=>
    rw[Ac h3] at hR1;obtain⟨S3,hS3⟩: ∃S3,S2=S3:=⟨_,rfl⟩
    obtain⟨s3,hs3⟩: ∃s3,s2=s3:=⟨_,rfl⟩
    obtain⟨L3,hL3⟩: ∃L3,L2=L3:=⟨_,rfl⟩
    have hK3:=hK2;have hT3:=hT2;have mr3:=mr2;rw[hS3,hs3] at hK3;rw[hS3,hs3,hL3] at mr3;rw[hL3] at hT3;have e3:Lh S3=Lh S2:=by rw[hS3]
    rw[show({S1 with H:=q.2}:KT)=S3 by rw[<-hS3,hS2]] at hR1;refine Aj ?_;rw[hS3,hs3,hL3]
   all_goals
    by_cases h4:fin=false\/c.obj=0
    ·rw[Ae h4] at hR1;cases fin<;>by_cases h5:c.obj=0;all_goals first
      |(exfalso;simp[h5] at h4;done)
      |(refine Aj ?_
        subst hlp hrec;obtain⟨L9,hL9,hp9⟩:=ZX (b:=b) (p:=p) (s:=s3) (S:=S3) hT3;exact B9 (ZW B bl b5 b6 b7 b2 b vl ve (n+1)++(cl++(ce++Av b p s3 S3 L9))) (Keep.trans (.drop (.drop .refl)) (.of_perm (hp9 (ZW B bl b5 b6 b7 b2 b vl ve (n+1))))) ⟨m,ys[pre.length+1]?,GW _,by unfold sX;simp only[hl1];exact⟨S3,s3,L9,ys,vl,ve,cl,ce,es,n+1,hK3,hL9.trans hT1,hy1,rfl,Af,Af,Af,Af,Af,hR1,hol,hoe,rfl⟩⟩)
    rw[Ac h4] at hR1;obtain⟨h5,h6⟩:fin=true/\¬c.obj=0:=by simpa using h4
    subst h5;refine Aj ?_;obtain⟨X,rfl⟩:=hT3;refine AS (Az rfl rfl (Fn.keep (.of_perm o9) (rW hK3 c bl vl ys cl Af hol))) ?_;rintro _ _ ⟨rfl,v2,cs2,s4,L4,ho4,hK4,⟨Z,rfl⟩,rfl⟩;refine Bk (.of_perm ld) ?_;simp only[Ad,Ag];refine Aj ?_;refine AS (JL (v:=iV c.obj) rfl rfl) ?_;rintro _ _ ⟨bz,_,rfl,rfl⟩;refine Aj ?_;refine AS (GI (k:=1) (X:=[Bp b10 c,TS b8 x1,qh B bl,iU bl v2,qh b5 bl,L6 b6 ve,BG b7 ((n:Int)+1),rB b2 b]) (cs:=ce) (xs:=es.map CA) (n:=es.length) (zs:=[iV 0]) (ws:=[iV c.obj]) rfl rfl rfl hoe rfl (by simp[Value.oneCell']) Af AW) ?_;rintro ve2 _ ⟨ce2,hoe2,rfl⟩;have o2:=Qy hoe2;simp only[Ad,Ag];refine Aj ?_;have hz:(KP (J9 S3 c) c).length<=16:=by have h1:=T5 (J9 S3 c) c (Ar.slotsD c.kind (Ar.getD' (J9 S3 c).A c.obj).1.sz).toNat;have h2:=ZS c.kind (Ar.getD' (J9 S3 c).A c.obj).1.sz;unfold KP;omega
    have e4:Lh (J9 S3 c)=Lh S3:=by show(J9 S3 c).H.2.length=_;rw[o7]
    have e5:(ys++KP (J9 S3 c) c).drop (pre.length+1)=ys.drop (pre.length+1)++KP (J9 S3 c) c:=List.drop_append_of_le_length Af;subst hlp hrec;exact B9 (ZW B bl b5 b6 b7 b2 b v2 ve2 (n+1)++(cs2++(ce2++Av b p s4 (J9 S3 c) (Z++(X++L1))))) (Keep.trans (.drop (.drop .refl)) (.of_perm (lg (lo:=ZW B bl b5 b6 b7 b2 b v2 ve2 (n+1))))) ⟨m,(ys++KP (J9 S3 c) c)[pre.length+1]?,GW _,by unfold sX;simp only[hl1];exact⟨J9 S3 c,s4,Z++(X++L1),ys++KP (J9 S3 c) c,v2,ve2,cs2,ce2,es++[c.obj],n+1,hK4,Tail.trans ⟨Z++X,by simp⟩ hT1,by rw[Ah];omega,rfl,by rw[e5,Ah];omega,by rw[Ah];omega,by rw[Ah,Bl];omega,Af,by rw[Ah];omega,by rw[e5];exact hR1,ho4,by rw[Ah,Ap];exact hoe2,rfl⟩⟩
 ·rintro D m xs l ⟨S1,s1,L1,ys,vl,ve,cl,ce,es,n,hK1,hT1,hy1,ho,hm,hM,hes,hn,hp,hR1,hol,hoe,rfl⟩;rw[List.drop_eq_nil_of_le (List.getElem?_eq_none_iff.1 ho.symm),cC] at hR1;subst hR1;refine Jh (.of_perm (.cons _ (r4 (lo:=ZW B bl b5 b6 b7 b2 b vl ve n)))) ?_;have mr1:Co b p∈Av b p s1 S1 (cl++(ce++L1)):=mR λ_ h=>h;simp only[ZW,Ad,Ag];by_cases he:es.length=0
  ·obtain⟨pp,cap,hsh⟩:=hoe.shape;rw[he] at hsh;rw[hsh,FK.1 he];refine Aj ?_;refine Hb 0 ?_;refine Aj ?_;refine Fy ?_;intro S2 s2 L2 hS2 hK2 hT2 mr2;refine Aj ?_;exact AU [D] _ rfl .refl (by exact A7) (.drop (.drop (.drop (.drop (.drop (.drop .refl)))))) ⟨rfl,s2,L2,by rw[show OR (gO S1 [])=S2 from hS2.symm];exact hK2,hT2.trans (Tail.trans ⟨cl++ce,by simp⟩ hT1),by rw[show OR (gO S1 [])=S2 from hS2.symm]⟩
  have hel:=ZT hoe;obtain⟨gw,cap,sw,rfl,rfl⟩:=Mg hoe Af;refine Aj ?_;refine Cu (α:=Nat×KT×RL×List Ab) (λx=>[(2,pV b2),(7,pV b7),(58,.slice (some ⟨gw,0,none⟩) es.length cap),(59,.int .i64 (es.length:Nat)),(60,.int .i64 x.1)]) (λx=>Cd D::BG b7 n::rB b2 b::Av b p x.2.2.1 x.2.1 x.2.2.2) (λx=>x.1<=es.length/\x.2.1=gO S1 (es.take x.1)/\IsK F C k x.2.1 p x.2.2.1/\Tail x.2.2.2 (cl++([Me gw es sw]++L1))) (λx=>es.length-x.1) (0,S1,s1,_) ⟨Bf _,rfl,hK1,.nil⟩ ⟨rfl,rfl,rfl,rfl,rfl,trivial⟩ (by exact AR) ?_;rintro⟨i,S2,s2,L2⟩ ⟨hi,hS2,hK2,hT2⟩;simp only at hi hS2 hK2 hT2⊢;have mr2:Co b p∈Av b p s2 S2 L2:=mR λ_ h=>h;have mw:Me gw es sw∈Av b p s2 S2 L2:=mG (λ_ h=>h) _ (by obtain⟨X,rfl⟩:=hT2;simp);by_cases hlt:i<es.length
  ·obtain⟨t,ht⟩: ∃t,es.getD i 0=t:=⟨_,rfl⟩
   have c0:(toArray (es.map CA++sw))[i*1]?=some (.int .i64 t):=by rw[Dh,<-ht];exact PK hlt
   refine Aj ?_;refine Fy ?_;intro S3 s3 L3 hS3 hK3 hT3 mr3;refine Aj ?_;exact BS (i+1,S3,s3,L3) ⟨by simp only;omega,by simp only;unfold gO;rw[T6 hlt,ED,ht];exact hS3.trans (by rw[hS2];rfl),hK3,hT3.trans hT2⟩ (by simp only;omega) ⟨rfl,rfl,rfl,rfl,rfl,trivial⟩ .refl
  ·rw[Bz Af] at hS2;refine Aj ?_;refine Fy ?_;intro S3 s3 L3 hS3 hK3 hT3 mr3;refine Aj ?_;rw[hS2] at hS3;exact AU [D] _ rfl .refl (by exact A7) (.drop (.drop .refl)) ⟨rfl,s3,L3,by rw[<-hS3];exact hK3,hT3.trans (hT2.trans (Tail.trans ⟨cl++[Me gw es sw],by simp⟩ hT1)),by rw[<-hS3]⟩
 ·rintro D c pre l h;exact h.elim
instance{x:CB}:EK prog F C b p 290 [pV b,Fp x] k S k (iV (PO S x).1) (PO S x).2:=⟨λs G h=>pa h x⟩
end
end Go.Proofs.YtlkgekpmileobaaGreat
