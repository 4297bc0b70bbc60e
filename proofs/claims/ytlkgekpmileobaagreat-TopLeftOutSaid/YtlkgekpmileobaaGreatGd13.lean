/- Laws that the statement's proof leans on (joined out of several texts). -/
import Derived.Test.YtlkgekpmileobaaGreatGd12
set_option maxHeartbeats 4000000
set_option linter.unusedVariables false
set_option linter.unusedSimpArgs false
namespace Go.Proofs.YtlkgekpmileobaaGreat
open Tryz
open List(toArray)
open Go.RowKit
set_option maxRecDepth 20000
variable{k F C b i N r k' gb n m:Nat}{S S':KT}{p:RP}{s:RL}{G T lo L Y A:List Ab}{α:Type}{P:Program}{ro:Option Nat}{E:World}{Q:Exit->Act->World->Prop}{ds:List Deferred}{o:Obj}{x pg:Int}{ops:Array Oper}{rest:List Oper}{xs:List Operand}{vs:List Value}{ty:TypeId}{pos:String}{g:Option (Nat×Bool)}{ns:List GJ}{Γ:List Ab->List Ab}{rows:List (List Value)}
section
def JN(S:KT)(t:Int)(x:Ce)(inn:Int):(List GJ×Int)×KT:=
 if ¬(Hc S t inn).2=0 then(([],(Hc S t inn).2),S)
 else if ¬(getD' S.H.1 x).2=0\/¬(DU S x).kind=8 then(([],8),S)
 else if K8 (DU S x).rights 1=0 then(([],9),S)
 else if(En.firstD S.E (DU S x).obj).2.2=false\/(En.firstD S.E (DU S x).obj).2.1=false then
  (([],0),(Mm (Dw {Dw S {DB S t with inn:=inn} with E:=(En.waitD S.E (DU S x).obj t false).2} {DB (Dw S {DB S t with inn:=inn}) t with wa:=(DU S x).obj}) t 3).2)
 else(((recvH (Dw S {DB S t with inn:=inn}) t (En.firstD S.E (DU S x).obj).1).1,0),(recvH (Dw S {DB S t with inn:=inn}) t (En.firstD S.E (DU S x).obj).1).2)
theorem rO(hK:IsK F C (k+2) S p s)(t:Int)(x:Ce)(inn:Int):Fn prog 208 [pV b,.int .i64 t,Fz x,.int .i64 inn] (Aw b p s S G) (KN F C b p k (JN S t x inn).1.1 (JN S t x inn).1.2 (JN S t x inn).2 G):=by
 have mr:Cw b p∈Aw b p s S G:=mR λ_ h=>h;have htw:=hK.tO t;obtain⟨R,hR⟩: ∃R,JN S t x inn=R:=⟨_,rfl⟩
 rw[hR];unfold JN at hR;refine AM func208 ntmps208 λE=>?_;refine AO λb4=>?_;refine AO λb5=>?_;refine AO λb6=>?_;refine AO λb7=>?_;refine El ?_;have hro:=SJ (S:=S) (t:=t) (a:=inn);obtain⟨r,hr⟩: ∃r,Hc S t inn=r:=⟨_,rfl⟩
 rw[hr] at hR hro⊢;refine AO λb10=>?_;by_cases h0:r.2=0
 case neg=>rw[Ad h0] at hR;subst hR;refine Aj ?_;exact Fx
 rw[Ac (λh=>h h0)] at hR;obtain⟨e1,e2,e3,e4,e5⟩:=hro h0;refine Aj ?_;refine Cn (Ck [7,8] 0 10) ?_;refine Cs ?_;obtain⟨c,hc⟩: ∃c,(getD' S.H.1 x).1=c:=⟨_,rfl⟩
 obtain⟨e,he⟩: ∃e,(getD' S.H.1 x).2=e:=⟨_,rfl⟩
 rw[show DU S x=c from hc,he] at hR;rw[hc,he];refine Hm e_alloc (by rintro _ _ ⟨_,_,_,rfl⟩ c hc;exact .tail _ hc) ?_;rintro _ _ ⟨b12,_,rfl,rfl⟩;refine Cs ?_;by_cases h1:¬e=0\/¬c.kind=8
 ·rw[Ad h1] at hR;subst hR;by_cases h2:e=0<;>by_cases h3:c.kind=8;all_goals first
   |(exfalso;omega)
   |(refine Aj ?_
     exact Fx)
 rw[Ac h1] at hR;obtain⟨h2,h3⟩:e=0/\c.kind=8:=by omega
 refine Aj ?_;refine Bb (JW rfl rfl) ?_;obtain⟨w,hw⟩: ∃w,K8 c.rights 1=w:=⟨_,rfl⟩
 rw[hw] at hR⊢;by_cases h4:w=0
 ·rw[Ad h4] at hR;subst hR;refine Aj ?_;exact Fx
 rw[Ac h4] at hR;refine Aj ?_;refine Tp (id:=t) (ju b7 inn) ⟨htw.out⟩ ?_;intro S0 s0 L0 hS0 hK0 hT0 mr0;rw[show Dw S {DB S t with inn:=inn}=S0 from hS0.symm] at hR;have eE:S0.E=S.E:=by rw[hS0]
 rw[<-eE] at hR;refine Aj ?_;obtain⟨f,hf⟩: ∃f,En.firstD S0.E c.obj=f:=⟨_,rfl⟩
 rw[hf] at hR;refine KQ [(0,true),(1,true),(2,true),(3,true),(4,false),(5,true),(6,true),(7,true),(8,true),(9,false),(10,false),(11,true),(12,true)] [[],[0],[],[2],[0,1,2,3],[0,1,2,3,4],[0,1,2,3,4,5],[0,1,2,3,4,5],[0,1,2,3,4,5],[],[0,1,2,3,4,5,6,9],[0,1,2,3,4,5,6,7,9,10],[0,1,2,3,4,5,6,7,8,9,10,11]] 4 9 ([rB b4 b,Bq b12 c,Cw b p]) Bs Bs Gt ((Up BS BS BS)) ?_;refine BM ?_;refine TK ?_;refine BM ?_;refine M3 [(9,false),(4,false),(5,true),(6,true),(7,true),(8,true),(10,false),(11,true),(12,true)] Gt (AH (l₁:=[_,_,_,_,_])).symm Bs ?_ ?_
 case' refine_1=>
  refine sU ?_ ?_
  ·intro S2 s2 L2;have mr2:Cw b p∈Aw b p s2 S2 L2:=mR λ_ h=>h;exact Up BS BS BS
  intro S1 s1 L1 hS1 hK1 hT1 mr1;iterate 4 refine V4 ?_
  refine CM e_alloc rfl rfl rfl ?_ ?_
  ·rintro _ _ ⟨_,_,_,rfl⟩ c hc;exact .tail _ (Up BS BS BS c hc)
  rintro _ _ ⟨b13,_,rfl,rfl⟩
 case' refine_2=>
  refine CM e_alloc rfl rfl rfl ?_ ?_
  ·rintro _ _ ⟨_,_,_,rfl⟩ c hc;exact .tail _ (Up BS BS BS c hc)
  rintro _ _ ⟨b13,_,rfl,rfl⟩;refine sU ?_ ?_
  ·intro S2 s2 L2;have mr2:Cw b p∈Aw b p s2 S2 L2:=mR λ_ h=>h;exact Up BS BS BS
  intro S1 s1 L1 hS1 hK1 hT1 mr1;iterate 4 refine V4 ?_
 all_goals
  rw[hf];rw[<-hS1] at hR;refine o5 ?_ (hR:=Up BS BS BS);refine BM ?_;refine Aj ?_;by_cases h8:f.2.2=false\/f.2.1=false
  ·rw[Ad h8] at hR;cases h9:f.2.2<;>cases h10:f.2.1;all_goals first
    |(exfalso;simp[h9,h10] at h8;done)
    |(refine Aj ?_
      refine Cn (Ck [5] 0 6) ?_;refine Cs ?_;refine LN ?_;intro S2 s2 L2 hS2 hK2 hT2 mr2;refine Cs ?_;refine Aj ?_;have htw2:=hK2.tO t;refine Tp (id:=t) (jv b12 c) ⟨htw2.out⟩ ?_;intro S3 s3 L3 hS3 hK3 hT3 mr3;rw[<-hS2,show DB S1 t=DB S2 t from by rw[hS2],show Dw S2 {DB S2 t with wa:=c.obj}=S3 from hS3.symm] at hR;refine Aj ?_;refine FI ?_;intro S4 s4 L4 hS4 hK4 hT4 mr4;refine Aj ?_;rw[<-hS4] at hR;subst hR;exact Fx)
  rw[Ac h8] at hR;obtain⟨h9,h10⟩:f.2.2=true/\f.2.1=true:=by simpa using h8
  rw[h9,h10];obtain⟨u,hu⟩: ∃u,f.1=u:=⟨_,rfl⟩
  rw[hu] at hR⊢;refine Aj ?_;refine AP (Az rfl rfl (Fn.keep ?_ (PZ (Y7 (b:=b) (G:=L1) hK1 b4 b13 b5 t u)))) ?_
  ·exact AS
  rintro sl _ ⟨xs,cs,C',ho,⟨rfl,s',L',hK',hT',rfl⟩,rfl⟩;refine Aj ?_;subst hR;exact CF _ .refl Q5 ⟨sl,cs,s',L',rfl,ho,hK',hT'.trans (hT1.trans hT0),rfl⟩
def Hz(S:KT)(t:Int)(m:MN):(List GJ×Int)×KT:=
 if ¬(Hc S t 0).2=0 then(([],(Hc S t 0).2),S)
 else if(DB S t).ca=0 then(([],18),S)
 else(((replyH (Dw S {DB S t with ca:=0}) (DB S t).ca m t).1,0),(replyH (Dw S {DB S t with ca:=0}) (DB S t).ca m t).2)
theorem oa(hK:IsK F C (k+1) S p s)(t:Int)(m:MN):Fn prog 209 [pV b,.int .i64 t,k9 m] (Aw b p s S G) (KN F C b p k (Hz S t m).1.1 (Hz S t m).1.2 (Hz S t m).2 G):=by
 have mr:Cw b p∈Aw b p s S G:=mR λ_ h=>h;have htw:=hK.tO t;obtain⟨R,hR⟩: ∃R,Hz S t m=R:=⟨_,rfl⟩
 rw[hR];unfold Hz at hR;refine AM func209 ntmps209 λE=>?_;refine AO λb3=>?_;refine AO λb4=>?_;refine AO λb5=>?_;refine El ?_;have hro:=SJ (S:=S) (t:=t) (a:=0);obtain⟨r,hr⟩: ∃r,Hc S t 0=r:=⟨_,rfl⟩
 rw[hr] at hR hro⊢;refine AO λb8=>?_;by_cases h0:r.2=0
 case neg=>rw[Ad h0] at hR;subst hR;refine Aj ?_;exact Fx
 rw[Ac (λh=>h h0)] at hR;obtain⟨e1,e2,e3,e4,e5⟩:=hro h0;obtain⟨y,hy⟩: ∃y,DB S t=y:=⟨_,rfl⟩
 rw[hy] at e1 e3 hR htw;rw[e1];by_cases h1:y.ca=0
 ·rw[Ad h1] at hR;subst hR;refine Aj ?_;exact Fx
 rw[Ac h1] at hR;refine Aj ?_;refine Tp (id:=t) dE ⟨by rw[hy];exact htw.out⟩ ?_;intro S0 s0 L0 hS0 hK0 hT0 mr0;rw[hy] at hS0;rw[show Dw S {y with ca:=0}=S0 from hS0.symm] at hR;refine Aj ?_;refine AP (Az rfl rfl (Fn.keep ?_ (PZ (Xf (b:=b) (G:=L0) hK0 b3 b8 b5 b4 y m t)))) ?_
 ·exact AS
 rintro sl _ ⟨xs,cs,C',ho,⟨rfl,s',L',hK',hT',rfl⟩,rfl⟩;refine Aj ?_;subst hR;exact CF _ .refl Q5 ⟨sl,cs,s',L',rfl,ho,hK',hT'.trans hT0,rfl⟩
end
structure P0 where
 hs:Bool
 wr:Bool
 va:Int
 vl:Int
deriving DecidableEq
abbrev y0(x:P0):List Value:=[.bool x.hs,.bool x.wr,Ba x.va,Ba x.vl]
abbrev rP(x:P0):Value:= .agg (toArray (y0 x))
structure od where
 kd:Int
 va:Int
 wr:Bool
deriving DecidableEq
abbrev y3(x:od):List Value:=[iV x.kd,Ba x.va,.bool x.wr]
abbrev xd(x:od):Value:= .agg (toArray (y3 x))
def yi(F C b:Nat)(p:RP)(k:Nat)(xs:List GJ)(S:KT)(G:List Ab):Value->List Ab->Prop:=λv l'=> ∃cs s L,OwnSl 69 12 v xs.length (GK xs) cs/\IsK F C k S p s/\Tail L G/\l'=cs++Aw b p s S L
theorem dS(S:KT)(t:Int)(x:Ce)(m:MN)(gv:Int)(cl:Bool):(GE S t x m gv cl).1.1.length<=2:=by
 unfold GE sendH
 repeat' split
 all_goals simp
theorem Xg(xs:List GJ): ∀u,u∈GK xs->u.oneCell'=true:=by intro u hu;obtain⟨n,_,h⟩:=I7.1 hu;simp only[Qi,Ap,BQ,Eo] at h;rcases h with rfl|rfl|rfl|rfl|rfl|rfl|rfl|rfl|rfl|rfl|rfl|rfl<;>rfl
theorem oe{a1 a2 a3 n a4 a5 a6:Ab}{cs Z:List Ab}(h:Y.Perm (cs++Z)):(a1::a2::a3::n::a4::a5::a6::Y).Perm ([n]++(cs++([a1,a2,a3,a4,a5,a6]++Z))):=by refine(Ex [a1,a2,a3,n,a4,a5,a6] h).trans ?_;exact BR
theorem jI{c B:List Ab}:Keep (c++(A++(B++Y))) (c++Y):=⟨A++B,BR⟩
section
section
variable{fr:Fr}{l:List Ab}{d f:Nat}{x:Operand}{at_:Array TypeId}{aft:Array Edge}{co:Int}
theorem sY(h: ∀G,Fn P f vs (Aw b p s S G) (KN F C b p k' ns co S' G))(hk: ∀sl cs S1 s' L,S1=S'->OwnSl 69 12 sl ns.length (GK ns) cs->IsK F C k' S1 p s'->Tail L (cs++G)->Cw b p∈Aw b p s' S1 L->Dk P ro N E ops Q rest ((d,.tuple #[sl,iV co])::fr) ds (Γ (Aw b p s' S1 L)))(hx:ev fr x=some (.func (.func f) #[] #[]):=by rfl)(hy:Qm fr xs=some vs:=by rfl)(hF:Fr1 (Aw b p s S G) l Γ:=by exact Z9)(c:EN P f:=by infer_instance)(hw:P6 ops fr g=some true:=by rfl)(hb:Nat.blt d N=true:=by rfl):Dk P ro N E ops Q (⟨some d,.call {callee:= .value x,args:=xs.toArray,argTypes:=at_},ty,pos,aft,g⟩::rest) fr ds l:=by
 obtain⟨A,rfl,hA⟩:=hF.eq;refine Ia (Az hx hy (Fn.re (.of_perm (ET b p s S A G)) (h (A++G)) (K':=λv l'=> ∃sl cs s' L,v= .tuple #[sl,iV co]/\OwnSl 69 12 sl ns.length (GK ns) cs/\IsK F C k' S' p s'/\Tail L (cs++G)/\l'=Γ (Aw b p s' S' L)) λv l' ⟨sl,cs,s',L,h1,h2,h3,⟨X,h4⟩,h5⟩=>⟨Γ (Aw b p s' S' (X++(cs++G))),?_,sl,cs,s',_,h1,h2,h3,⟨X,rfl⟩,rfl⟩)) hw rfl hb λv l' ⟨sl,cs,s',L,h1,h2,h3,h4,h5⟩=>by rw[h1,h5];exact hk sl cs S' s' L rfl h2 h3 h4 (mR λ_ h=>h)
 rw[h5,h4,hA];refine .of_perm ?_;unfold Aw;exact BR
end
abbrev MO(t:Th.ThT)(x:P0):Th.ThT:={t with hs:=x.hs,wr:=x.wr,va:=x.va,vl:=x.vl}
abbrev Vu(id:Int)(f:od):GJ:=⟨id,6,0,sW,0,false,f.kd,f.va,f.wr⟩
abbrev Y8(f:od):MN:=⟨f.kd,f.va,if f.wr=true then 1 else 0,0⟩
def Ky(S:KT)(t:Th.ThT)(x:P0)(f:od):List GJ×KT:=
 if ¬(getD' S.H.1 (t.id,2)).2=0\/¬(DU S (t.id,2)).kind=8\/K8 (DU S (t.id,2)).rights 2=0 then([Vu t.id f],(Ha (Dw S (MO t x)) t.id).2)
 else(Vu t.id f::(GE (Dw S (MO t x)) t.id (t.id,2) (Y8 f) 4096 true).1.1,Dw (GE (Dw S (MO t x)) t.id (t.id,2) (Y8 f) 4096 true).2 {DB (GE (Dw S (MO t x)) t.id (t.id,2) (Y8 f) 4096 true).2 t.id with fa:=true,cl:=t.cl})
theorem aQ(hK:IsK F C (k+2) S p s)(t:Th.ThT)(x:P0)(f:od)(hw:TW (MO t x))(hf:0<=f.kd/\f.kd<=100):Fn prog 157 [pV b,Th.thV t,rP x,xd f] (Aw b p s S G) (yi F C b p k (Ky S t x f).1 (Ky S t x f).2 G):=by
 have mr:Cw b p∈Aw b p s S G:=mR λ_ h=>h;obtain⟨hf1,hf2⟩:=hf;obtain⟨R,hR⟩: ∃R,Ky S t x f=R:=⟨_,rfl⟩
 rw[hR];unfold Ky at hR;refine AM func157 ntmps157 λE=>?_;refine AO λb5=>?_;refine AO λb6=>?_;refine AO λb7=>?_;refine Cn (Ck [3] 0 4) ?_;refine Cs ?_;refine LN (q:=Nv (MO t x) hw) ?_;intro S1 s1 L1 hS1 hK1 hT1 mr1;rw[show Dw S (MO t x)=S1 from hS1.symm] at hR;have eH:S1.H=S.H:=by rw[hS1]
 rw[<-eH,show DU S (t.id,2)=DU S1 (t.id,2) by unfold DU;rw[eH]] at hR;refine Cs ?_;refine Aj ?_;refine AP (Fb (ws:=Qi (Vu t.id f)) (k:=12) rfl rfl rfl AX AX) ?_;rintro _ _ ⟨bn,_,rfl,rfl⟩;refine Aj ?_;refine Hu 1 ?_;refine AO λb10=>?_;refine Cn (Ck [7,8] 0 10) ?_;refine Cs ?_;obtain⟨c,hc⟩: ∃c,(getD' S1.H.1 (t.id,2)).1=c:=⟨_,rfl⟩
 obtain⟨e,he⟩: ∃e,(getD' S1.H.1 (t.id,2)).2=e:=⟨_,rfl⟩
 rw[show DU S1 (t.id,2)=c from hc,he] at hR;rw[hc,he];refine Hm e_alloc (by rintro _ _ ⟨_,_,_,rfl⟩ c hc;exact .tail _ hc) ?_;rintro _ _ ⟨b11,_,rfl,rfl⟩;refine Cs ?_;obtain⟨w,hw2⟩: ∃w,K8 c.rights 2=w:=⟨_,rfl⟩
 rw[hw2] at hR;have hl1:OwnSl 69 12 (.slice (some ⟨bn,0,none⟩) 1 1) 1 (Qi (Vu t.id f)) [Tq bn (Vu t.id f)]:=⟨rfl,.inr ⟨bn,1,[],rfl,rfl,A7 _,by unfold maxLen;omega,rfl⟩⟩
 by_cases h1:¬e=0\/¬c.kind=8
 ·rw[Ad Af] at hR;subst hR;by_cases h2:e=0<;>by_cases h3:c.kind=8;all_goals first
   |(exfalso;omega)
   |(refine Aj ?_
     refine FI ?_;intro S2 s2 L2 hS2 hK2 hT2 mr2;refine Aj ?_;exact AW (vs:=[.slice (some ⟨bn,0,none⟩) 1 1]) [] _ rfl .refl (by exact A8) (l':=[Tq bn (Vu t.id f)]++Aw b p s2 S2 L2) (by exact AS) ⟨_,s2,L2,hl1,by rw[<-hS2];exact hK2.mono Af,hT2.trans hT1,by rw[<-hS2]⟩)
 obtain⟨h2,h3⟩:e=0/\c.kind=8:=by omega
 refine Aj ?_;refine VW (JW rfl rfl) rfl rfl rfl rfl rfl rfl ?_;rw[hw2];by_cases h4:w=0
 ·rw[Ad Af] at hR;subst hR;refine Aj ?_;refine FI ?_;intro S2 s2 L2 hS2 hK2 hT2 mr2;refine Aj ?_;exact AW (vs:=[.slice (some ⟨bn,0,none⟩) 1 1]) [] _ rfl .refl (by exact A8) (l':=[Tq bn (Vu t.id f)]++Aw b p s2 S2 L2) (by exact AS) ⟨_,s2,L2,hl1,by rw[<-hS2];exact hK2.mono Af,hT2.trans hT1,by rw[<-hS2]⟩
 rw[Ac Af] at hR;obtain⟨st,hst⟩: ∃st:Int,(if f.wr=true then(1:Int) else 0)=st:=⟨_,rfl⟩
 have hfm:Y8 f=⟨f.kd,f.va,st,0⟩:=by rw[<-hst]
 rw[hfm] at hR;cases hwr:f.wr
 case' true=>rw[hwr,Ad rfl] at hst
 case' false=>rw[hwr,Ac AX] at hst
 all_goals
  refine Aj ?_;rw[hwr];refine Aj ?_;refine oX (v:= .agg (toArray [Ba f.kd,Ba f.va,Ba st,.int .u64 0])) (by apply Gf (zs:=[.int .u64 0,.int .u64 0,.int .u64 0,.int .u64 0]) (cs:=[Ba f.kd,Ba f.va,Ba st,.int .u64 0]);(·subst hst;rfl);(·subst hst;rfl)) rfl rfl rfl ?_;refine Aj ?_;have hlen:=dS S1 t.id (t.id,2) ⟨f.kd,f.va,st,0⟩ 4096 true;refine sY (vs:=[pV b,.int .i64 t.id,Fz (t.id,2),k9 ⟨f.kd,f.va,st,0⟩,.int .i64 4096,.bool true]) (λG=>Y6 hK1 t.id (t.id,2) ⟨f.kd,f.va,st,0⟩ 4096 true) ?_;intro sl cs S2 s2 L2 hS2 ho2 hK2 hT2 mr2;rw[<-hS2] at hR;obtain⟨ns,hns⟩: ∃ns,(GE S1 t.id (t.id,2) ⟨f.kd,f.va,st,0⟩ 4096 true).1.1=ns:=⟨_,rfl⟩
  rw[hns] at hR ho2 hlen;refine Aj ?_;refine Cn (Ck [8,9] 0 11) ?_;refine Cs ?_;have htw:=hK2.tO t.id;obtain⟨u,hu⟩: ∃u,DB S2 t.id=u:=⟨_,rfl⟩
  rw[hu] at hR htw⊢;refine Hm e_alloc (by rintro _ _ ⟨_,_,_,rfl⟩ c hc;exact .tail _ hc) ?_;rintro _ _ ⟨b16,_,rfl,rfl⟩;refine Cs ?_;refine Aj ?_;refine Ch [3,5] 6 ([Th.thC b5 (MO t x)]) ?_ (hR:=(To BS));iterate 3 refine V4 ?_
  refine o5 ?_ (hR:=To BS);refine V4 ?_;refine o5 ?_ (hR:=To BS);refine BM ?_;refine Aj ?_;refine Cn (Ck [3] 0 4) ?_;refine Cs ?_;refine LN (q:=Nv {u with fa:=true,cl:=t.cl} ⟨htw.out⟩) ?_;intro S3 s3 L3 hS3 hK3 hT3 mr3;rw[show Dw S2 {u with fa:=true,cl:=t.cl}=S3 from hS3.symm] at hR;refine Cs ?_;refine Aj ?_;obtain⟨L4,hL4,hp4⟩:=GD (b:=b) (p:=p) (s:=s3) (S:=S3) (hT3.trans hT2);refine Bk (.of_perm (oe hp4)) ?_;refine Aj ?_;refine AP (PY (k:=12) (n:=1) (m:=ns.length) (xs:=Qi (Vu t.id f)) (ys:=GK ns) (zs:=Qi (MC 0)) (cs:=[Tq bn (Vu t.id f)]) (cw:=cs) rfl rfl rfl hl1 ho2 (Xg ns) Af Af AX) ?_;rintro v2 _ ⟨c2,ho3,rfl⟩;refine Aj ?_;refine EI ?_;refine Aj ?_;subst hR;exact AW [] _ rfl .refl (by exact A8) jI ⟨c2,s3,L4,by rw[Br,JP];exact ho3,hK3,hL4.trans hT1,rfl⟩
end
section
section
variable{fr:Fr}{l:List Ab}{d f:Nat}{x:Operand}{at_:Array TypeId}{aft:Array Edge}
theorem yj(h: ∀G,Fn P f vs (Aw b p s S G) (yi F C b p k' ns S' G))(hk: ∀sl cs S1 s' L,S1=S'->OwnSl 69 12 sl ns.length (GK ns) cs->IsK F C k' S1 p s'->Tail L (cs++G)->Cw b p∈Aw b p s' S1 L->Dk P ro N E ops Q rest ((d,sl)::fr) ds (Γ (Aw b p s' S1 L)))(hx:ev fr x=some (.func (.func f) #[] #[]):=by rfl)(hy:Qm fr xs=some vs:=by rfl)(hF:Fr1 (Aw b p s S G) l Γ:=by exact Z9)(c:EN P f:=by infer_instance)(hw:P6 ops fr g=some true:=by rfl)(hb:Nat.blt d N=true:=by rfl):Dk P ro N E ops Q (⟨some d,.call {callee:= .value x,args:=xs.toArray,argTypes:=at_},ty,pos,aft,g⟩::rest) fr ds l:=by
 obtain⟨A,rfl,hA⟩:=hF.eq;refine Ia (Az hx hy (Fn.re (.of_perm (ET b p s S A G)) (h (A++G)) (K':=λv l'=> ∃cs s' L,OwnSl 69 12 v ns.length (GK ns) cs/\IsK F C k' S' p s'/\Tail L (cs++G)/\l'=Γ (Aw b p s' S' L)) λv l' ⟨cs,s',L,h2,h3,⟨X,h4⟩,h5⟩=>⟨Γ (Aw b p s' S' (X++(cs++G))),?_,cs,s',_,h2,h3,⟨X,rfl⟩,rfl⟩)) hw rfl hb λv l' ⟨cs,s',L,h2,h3,h4,h5⟩=>by rw[h5];exact hk v cs S' s' L rfl h2 h3 h4 (mR λ_ h=>h)
 rw[h5,h4,hA];refine .of_perm ?_;unfold Aw;exact BR
end
def Qs(S:KT)(core:Int)(x:P0):(Int×Int)×KT:=if x.wr=true then((0,(ji S core x.va x.vl).1),(ji S core x.va x.vl).2) else fm S core x.va
def uX(id v:Int):GJ:=⟨id,0,v,sW,0,false,0,0,false⟩
abbrev sZ:P0:=⟨false,false,0,0⟩
def doR(S:KT)(core:Int)(x:P0)(t:Th.ThT):List GJ×KT:=
 if ¬(Qs S core x).1.2=0 then Ky (Qs S core x).2 t ⟨true,x.wr,x.va,if x.wr=true then x.vl else 0⟩ ⟨(Qs S core x).1.2,x.va,x.wr⟩
 else([uX t.id (Qs S core x).1.1],Dw (Qs S core x).2 (MO t sZ))
def MQ(S:KT)(core:Int)(x:P0):(List GJ×Int)×KT:=
 if ¬(LJ S core).2=0 then(([],(LJ S core).2),S) else(((doR S core x (LJ S core).1).1,0),(doR S core x (LJ S core).1).2)
def Od(S:KT)(core:Int):(List GJ×Int)×KT:=
 if ¬(LJ S core).2=0 then(([],(LJ S core).2),S) else if(LJ S core).1.hs=false then(([],2),S)
 else MQ S core ⟨(LJ S core).1.hs,(LJ S core).1.wr,(LJ S core).1.va,(LJ S core).1.vl⟩
theorem Xh(S:KT)(core va:Int)(wr:Bool):0<=(findA S core va wr).1.2/\(findA S core va wr).1.2<=100:=by
 unfold findA
 repeat' split
 all_goals first|exact⟨by decide,by decide⟩|(constructor<;>dsimp only<;>omega)
theorem rQ(S:KT)(core:Int)(x:P0):0<=(Qs S core x).1.2/\(Qs S core x).1.2<=100:=by
 have h1:=Xh S core x.va true;have h2:=Xh S core x.va false;unfold Qs ji fm
 split
 ·split
  ·exact h1
  ·dsimp only;split<;>exact⟨by decide,by decide⟩
 ·split
  ·exact h2
  ·split<;>(constructor<;>dsimp only<;>omega)
theorem Y9(hK:IsK F C k S p s)(core:Int):TW (LJ S core).1:=by
 unfold LJ
 split
 ·exact⟨LI,LI⟩
 split
 ·exact⟨LI,LI⟩
 ·exact hK.tO _
theorem jJ(hK:IsK F C (k+2) S p s)(core:Int)(x:P0)[hva:U6 x.va][hvl:U6 x.vl]:Fn prog 107 [pV b,.int .i64 core,rP x] (Aw b p s S G) (KN F C b p k (MQ S core x).1.1 (MQ S core x).1.2 (MQ S core x).2 G):=by
 have mr:Cw b p∈Aw b p s S G:=mR λ_ h=>h;have htw:=Y9 hK core;have hkd:=rQ S core x;obtain⟨R,hR⟩: ∃R,MQ S core x=R:=⟨_,rfl⟩
 rw[hR];unfold MQ at hR;refine AM func107 ntmps107 λE=>?_;refine AO λb5=>?_;refine El ?_;obtain⟨w,hw⟩: ∃w,LJ S core=w:=⟨_,rfl⟩
 rw[hw] at hR htw⊢;obtain⟨t,ht⟩: ∃t,w.1=t:=⟨_,rfl⟩
 rw[ht] at hR htw⊢;refine AO λb8=>?_;by_cases h0:w.2=0
 case neg=>rw[Ad h0] at hR;subst hR;refine Aj ?_;exact Fx
 rw[Ac (λh=>h h0)] at hR;unfold doR Qs at hR;unfold Qs at hkd;obtain⟨xh,xw,xa,xv⟩:=x;dsimp only at hva hvl hR hkd⊢;refine AO λb11=>?_;cases xw with
 |true=>
  simp only[CT] at hR hkd;obtain⟨q,hq⟩: ∃q,ji S core xa xv=q:=⟨_,rfl⟩
  rw[hq] at hR hkd;refine Aj ?_;refine Cn (Ck [9,10] 0 11) ?_;refine Cs ?_;refine LN ?_;intro S1 s1 L1 hS1 hK1 hT1 mr1;rw[hq] at hS1⊢;rw[<-hS1] at hR;by_cases h1:q.1=0
  ·rw[Ac (λh=>h h1)] at hR;rw[show fl q.1 xa true=XF 0 0 false from Ad h1];refine Cs ?_;refine Aj ?_;refine Cn (Ck [3] 0 4) ?_;refine Cs ?_;refine LN (q:=Nv (MO t sZ) ⟨LI,LI⟩) ?_;intro S2 s2 L2 hS2 hK2 hT2 mr2;rw[show Dw S1 (MO t sZ)=S2 from hS2.symm] at hR;refine Cs ?_;refine Aj ?_;refine AP (Fb (ws:=Qi (uX t.id 0)) (k:=12) rfl rfl rfl AX AX) ?_;rintro _ _ ⟨bn,_,rfl,rfl⟩;refine Aj ?_;subst hR;exact AW [] _ rfl .refl (by exact A8) (l':=[Tq bn (uX t.id 0)]++Aw b p s2 S2 L2) (by exact AS) ⟨_,_,s2,L2,rfl,⟨rfl,.inr ⟨bn,1,[],rfl,rfl,A7 _,by unfold maxLen;omega,rfl⟩⟩,hK2.mono Af,hT2.trans hT1,rfl⟩
  ·rw[Ad h1] at hR;rw[show fl q.1 xa true=XF q.1 xa true from Ac h1];refine Cs ?_;refine Aj ?_;refine yj (vs:=[pV b,Th.thV t,rP ⟨true,true,xa,xv⟩,xd ⟨q.1,xa,true⟩]) (λG=>aQ hK1 t ⟨true,true,xa,xv⟩ ⟨q.1,xa,true⟩ ⟨hva.out,hvl.out⟩ hkd) ?_;intro sl cs S2 s2 L2 hS2 ho2 hK2 hT2 mr2;refine Aj ?_;obtain⟨L4,hL4,hp4⟩:=GD (b:=b) (p:=p) (s:=s2) (S:=S2) hT2;subst hR;exact AW [] _ rfl .refl (by exact A8) (.drop (.drop (.drop (.of_perm hp4)))) ⟨sl,cs,s2,L4,rfl,ho2,by rw[<-hS2];exact hK2,hL4.trans hT1,by rw[<-hS2]⟩
 |false=>
  simp only[Bi,CR] at hR hkd;obtain⟨q,hq⟩: ∃q,fm S core xa=q:=⟨_,rfl⟩
  rw[hq] at hR hkd;refine Aj ?_;refine Cn (Ck [7,12] 0 13) ?_;refine Cs ?_;refine LN ?_;intro S1 s1 L1 hS1 hK1 hT1 mr1;rw[hq] at hS1⊢;rw[<-hS1] at hR;by_cases h1:q.1.2=0
  ·rw[Ac (λh=>h h1)] at hR;rw[show fl q.1.2 xa false=XF 0 0 false from Ad h1];refine Cs ?_;refine Aj ?_;refine Cn (Ck [3] 0 4) ?_;refine Cs ?_;refine LN (q:=Nv (MO t sZ) ⟨LI,LI⟩) ?_;intro S2 s2 L2 hS2 hK2 hT2 mr2;rw[show Dw S1 (MO t sZ)=S2 from hS2.symm] at hR;refine Cs ?_;refine Aj ?_;refine AP (Fb (ws:=Qi (uX t.id q.1.1)) (k:=12) rfl rfl rfl AX AX) ?_;rintro _ _ ⟨bn,_,rfl,rfl⟩;refine Aj ?_;subst hR;exact AW [] _ rfl .refl (by exact A8) (l':=[Tq bn (uX t.id q.1.1)]++Aw b p s2 S2 L2) (by exact AS) ⟨_,_,s2,L2,rfl,⟨rfl,.inr ⟨bn,1,[],rfl,rfl,A7 _,by unfold maxLen;omega,rfl⟩⟩,hK2.mono Af,hT2.trans hT1,rfl⟩
  ·rw[Ad h1] at hR;rw[show fl q.1.2 xa false=XF q.1.2 xa false from Ac h1];refine Cs ?_;refine Aj ?_;refine yj (vs:=[pV b,Th.thV t,rP ⟨true,false,xa,0⟩,xd ⟨q.1.2,xa,false⟩]) (λG=>aQ hK1 t ⟨true,false,xa,0⟩ ⟨q.1.2,xa,false⟩ ⟨hva.out,LI⟩ hkd) ?_;intro sl cs S2 s2 L2 hS2 ho2 hK2 hT2 mr2;refine Aj ?_;obtain⟨L4,hL4,hp4⟩:=GD (b:=b) (p:=p) (s:=s2) (S:=S2) hT2;subst hR;exact AW [] _ rfl .refl (by exact A8) (.drop (.drop (.drop (.of_perm hp4)))) ⟨sl,cs,s2,L4,rfl,ho2,by rw[<-hS2];exact hK2,hL4.trans hT1,by rw[<-hS2]⟩
theorem uY(hK:IsK F C (k+2) S p s)(core:Int):Fn prog 106 [pV b,.int .i64 core] (Aw b p s S G) (KN F C b p k (Od S core).1.1 (Od S core).1.2 (Od S core).2 G):=by
 have mr:Cw b p∈Aw b p s S G:=mR λ_ h=>h;have htw:=Y9 hK core;obtain⟨R,hR⟩: ∃R,Od S core=R:=⟨_,rfl⟩
 rw[hR];unfold Od at hR;refine AM func106 ntmps106 λE=>?_;refine Aj ?_;refine El ?_;obtain⟨w,hw⟩: ∃w,LJ S core=w:=⟨_,rfl⟩
 rw[hw] at hR htw⊢;obtain⟨t,ht⟩: ∃t,w.1=t:=⟨_,rfl⟩
 rw[ht] at hR htw⊢;refine AO λb6=>?_;by_cases h0:w.2=0
 case neg=>rw[Ad h0] at hR;subst hR;refine Aj ?_;exact Fx
 rw[Ac (λh=>h h0)] at hR;cases h1:t.hs with
 |false=>rw[Ad h1] at hR;subst hR;refine Aj ?_;exact Fx
 |true=>
 rw[Ac (by rw[h1];decide),h1] at hR;have hva:U6 (⟨true,t.wr,t.va,t.vl⟩:P0).va:=⟨htw.out.1⟩
 have hvl:U6 (⟨true,t.wr,t.va,t.vl⟩:P0).vl:=⟨htw.out.2⟩
 refine Aj ?_;refine sY (vs:=[pV b,.int .i64 core,rP ⟨true,t.wr,t.va,t.vl⟩]) (λG=>jJ hK core ⟨true,t.wr,t.va,t.vl⟩) ?_ (hy:=by first|rfl|(rw[<-h1];rfl));intro sl cs S2 s2 L2 hS2 ho2 hK2 hT2 mr2;refine Aj ?_;obtain⟨L4,hL4,hp4⟩:=GD (b:=b) (p:=p) (s:=s2) (S:=S2) hT2;subst hR;exact AW [] _ rfl .refl (by exact A8) (.drop (.of_perm hp4)) ⟨sl,cs,s2,L4,rfl,ho2,by rw[<-hS2];exact hK2,hL4,by rw[<-hS2]⟩
end
def Hr(op:Int):Bool×Bool:=
 if op=17\/op=18 then(false,false)
 else if op=1\/op=2\/op=3\/op=4\/op=5\/op=8\/op=10\/op=12\/op=13\/op=19 then(true,true) else(true,false)
theorem Za(op:Int)(l:List Ab):Fn prog 159 [.int .i64 op] l λv l'=>v= .tuple #[.bool (Hr op).1,.bool (Hr op).2]/\l'=l:=by
 obtain⟨R,hR⟩: ∃R,Hr op=R:=⟨_,rfl⟩
 rw[hR];unfold Hr at hR;refine AM func159 ntmps159 λE=>?_;refine Aj ?_;by_cases h1:op=17
 ·rw[Ad Af] at hR;subst hR;refine Aj ?_;exact qr
 by_cases h2:op=18
 ·rw[Ad Af] at hR;subst hR;refine Aj ?_;exact qr
 rw[Ac Af] at hR;by_cases g1:op=1
 ·rw[Ad Af] at hR;subst hR;refine Aj ?_;exact qr
 by_cases g2:op=2
 ·rw[Ad Af] at hR;subst hR;refine Aj ?_;exact qr
 by_cases g3:op=3
 ·rw[Ad Af] at hR;subst hR;refine Aj ?_;exact qr
 by_cases g4:op=4
 ·rw[Ad Af] at hR;subst hR;refine Aj ?_;exact qr
 by_cases g5:op=5
 ·rw[Ad Af] at hR;subst hR;refine Aj ?_;exact qr
 by_cases g6:op=8
 ·rw[Ad Af] at hR;subst hR;refine Aj ?_;exact qr
 by_cases g7:op=10
 ·rw[Ad Af] at hR;subst hR;refine Aj ?_;exact qr
 by_cases g8:op=12
 ·rw[Ad Af] at hR;subst hR;refine Aj ?_;exact qr
 by_cases g9:op=13
 ·rw[Ad Af] at hR;subst hR;refine Aj ?_;exact qr
 by_cases g10:op=19
 ·rw[Ad Af] at hR;subst hR;refine Aj ?_;exact qr
 rw[Ac Af] at hR;subst hR;refine Aj ?_;exact qr
instance{op:Int}{l:List Ab}:QF prog 159 [.int .i64 op] l (.tuple #[.bool (Hr op).1,.bool (Hr op).2]):=⟨λl _=>Za op l⟩
def LL(S:KT)(t:Int)(o:In)(x:Ce):Option ((List GJ×Int)×KT):=
 if o.op=14\/o.op=15 then some (GE S t x o.ms o.n0 (decide (o.op=15)))
 else if o.op=16 then some (JN S t x o.n0)
 else if o.op=17 then some (Hz S t o.ms)
 else none
section
def y4(F C b:Nat)(p:RP)(k:Nat)(S:KT)(G:List Ab)(R:Option ((List GJ×Int)×KT)):Value->List Ab->Prop:=λv l'=>match R with
 |none=>v= .tuple #[.slice none 0 0,iV 0,.bool false]/\ ∃s L,IsK F C (k+2) S p s/\Tail L G/\l'=Aw b p s S L
 |some r=> ∃sl cs s L,v= .tuple #[sl,iV r.1.2,.bool true]/\OwnSl 69 12 sl r.1.1.length (GK r.1.1) cs/\IsK F C k r.2 p s/\Tail L G/\l'=cs++Aw b p s r.2 L
theorem rR(hK:IsK F C (k+2) S p s)(t:Int)(o:In)(x y:Ce):Fn prog 161 [NF b t o x y] (Aw b p s S G) (y4 F C b p k S G (LL S t o x)):=by
 have mr:Cw b p∈Aw b p s S G:=mR λ_ h=>h;obtain⟨R,hR⟩: ∃R,LL S t o x=R:=⟨_,rfl⟩
 rw[hR];unfold LL at hR;have z0:(toArray (lg b t o x y))[2+4+(0:Int).toNat*1]?=some (iV o.n0):=rfl;refine AM func161 ntmps161 λE=>?_;refine AO λb1=>?_;by_cases h1:o.op=14
 ·rw[Ad Af] at hR;refine Aj ?_;refine sY (vs:=[pV b,.int .i64 t,Fz x,k9 o.ms,.int .i64 o.n0,.bool (decide (o.op=15))]) (λG=>Y6 hK t x o.ms o.n0 (decide (o.op=15))) ?_;intro sl cs S2 s2 L2 hS2 ho2 hK2 hT2 mr2;subst hS2;refine Aj ?_;obtain⟨L3,hL3,hp3⟩:=GD (b:=b) (p:=p) (s:=s2) hT2;subst hR;exact CF (vs:=[sl,iV (GE S t x o.ms o.n0 (decide (o.op=15))).1.2,.bool true]) _ .refl (Keep.trans (.drop .refl) (.of_perm hp3)) ⟨sl,cs,s2,L3,rfl,ho2,hK2,hL3,rfl⟩
 by_cases h2:o.op=15
 ·rw[Ad Af] at hR;refine Aj ?_;refine sY (vs:=[pV b,.int .i64 t,Fz x,k9 o.ms,.int .i64 o.n0,.bool (decide (o.op=15))]) (λG=>Y6 hK t x o.ms o.n0 (decide (o.op=15))) ?_;intro sl cs S2 s2 L2 hS2 ho2 hK2 hT2 mr2;subst hS2;refine Aj ?_;obtain⟨L3,hL3,hp3⟩:=GD (b:=b) (p:=p) (s:=s2) hT2;subst hR;exact CF (vs:=[sl,iV (GE S t x o.ms o.n0 (decide (o.op=15))).1.2,.bool true]) _ .refl (Keep.trans (.drop .refl) (.of_perm hp3)) ⟨sl,cs,s2,L3,rfl,ho2,hK2,hL3,rfl⟩
 rw[Ac Af] at hR;by_cases h3:o.op=16
 ·rw[Ad h3] at hR;refine Aj ?_;refine sY (vs:=[pV b,.int .i64 t,Fz x,.int .i64 o.n0]) (λG=>rO hK t x o.n0) ?_;intro sl cs S2 s2 L2 hS2 ho2 hK2 hT2 mr2;subst hS2;refine Aj ?_;obtain⟨L3,hL3,hp3⟩:=GD (b:=b) (p:=p) (s:=s2) hT2;subst hR;exact CF (vs:=[sl,iV (JN S t x o.n0).1.2,.bool true]) _ .refl (Keep.trans (.drop .refl) (.of_perm hp3)) ⟨sl,cs,s2,L3,rfl,ho2,hK2,hL3,rfl⟩
 rw[Ac h3] at hR;by_cases h4:o.op=17
 ·rw[Ad h4] at hR;refine Aj ?_;refine sY (vs:=[pV b,.int .i64 t,k9 o.ms]) (λG=>oa hK t o.ms) ?_;intro sl cs S2 s2 L2 hS2 ho2 hK2 hT2 mr2;subst hS2;refine Aj ?_;obtain⟨L3,hL3,hp3⟩:=GD (b:=b) (p:=p) (s:=s2) hT2;subst hR;exact AW (vs:=[sl,iV (Hz S t o.ms).1.2,.bool true]) [] _ rfl .refl (by exact A8) (Keep.trans (.drop .refl) (.of_perm hp3)) ⟨sl,cs,s2,L3,rfl,ho2,hK2.mono Af,hL3,rfl⟩
 rw[Ac h4] at hR;subst hR;refine Aj ?_;exact CF _ .refl (.drop .refl) ⟨rfl,s,G,hK,.nil,rfl⟩
end
theorem uZ(e:SZ):U6 (Pi e).1:=by
 unfold Pi
 split
 ·rename_i h;unfold Tj at h;have h1:=Lb e.vd;have h2:=Lb e.lf;have h3:=Lb e.rd;have h4:=Lb e.wr;have h5:0<=e.fr/\e.fr<64:=by
   split at h
   ·have h6:e=YB:=by simpa using h
    rw[h6];exact⟨by decide,by decide⟩
   ·split at h
    ·cases h
    ·omega
  refine⟨⟨?_,?_⟩⟩<;>dsimp only<;>omega
 ·exact⟨by decide,by decide⟩
section
theorem IsK.lvU(h:IsK F C k S p s){r:Int}{q:Int×Int}(hq:q∈pF S.W r pg):U6 q.2:=by
 unfold pF at hq
 split at hq
 ·cases hq
 rcases Ap.1 hq with rfl|hq
 ·exact h.atU _ _ _
 split at hq
 ·cases hq
 rw[Ax.1 hq];exact h.atU _ _ _
abbrev u7(f:Int):SZ:=⟨true,false,false,false,f⟩
def rS(S:KT)(f obj se pg:Int)(q:Int×Int):KT:={S with W:=(cY (mU S.W f 1).2 q.2 (Pi (u7 f)).1).2,A:=(Ar.placeD S.A obj se pg q.1).2}
def MF(S:KT)(x y:Ce)(va:Int):Int×KT:=
 if ¬(E5 S x 4/\E5 S y 5) then(8,S)
 else if(As.ofP S.N (DU S y).obj).2.2=false then(15,S)
 else if ¬(Gu va).2=0 then(3,S)
 else if(Fu S (DU S x).obj).2=true then(13,S)
 else match(pF S.W (Mq S (DU S y).obj) (Gu va).1).find? λq=>decide ((NZ S.W q.2).1=0) with
  |some q=>(0,rS S (Mq S (DU S x).obj) (DU S x).obj (As.ofP S.N (DU S y).obj).2.1 (Gu va).1 q)
  |none=>(11,S)
theorem og{f:α->Bool}{pre:List α}{q:α}{l:List α}(h:pre++[q]<+:l)(hn: ∀x,x∈pre->f x=false)(hq:f q=true):l.find? f=some q:=by obtain⟨t,rfl⟩:=h;rw[Am,Dm,By.2 (λx hx=>by simp[hn x hx])];simp[hq]
theorem oh{f:α->Bool}{l:List α}(hn: ∀x,x∈l->f x=false):l.find? f=none:=By.2 λx hx=>by simp[hn x hx]
theorem rT:((lo++Aw b p s S G)++(r,o)::T).Perm (lo++(r,o)::Aw b p s S (G++T)):=by unfold Aw;exact BR
theorem ol(h:L=lo):((lo++Aw b p s S G)++(r,o)::T).Perm (L++(r,o)::Aw b p s S (G++T)):=by rw[h];exact rT
theorem jK(h:L=lo):(L++(r,o)::Aw b p s S (G++T)).Perm ((lo++Aw b p s S G)++(r,o)::T):=by rw[h];unfold Aw;exact BR
theorem om{L2:List Ab}(hT:Tail L2 (L++T)): ∃L',Tail L' L/\ ∀(lo:List Ab) (r:Nat) (o:Obj),(lo++(r,o)::Aw b p s S L2).Perm ((lo++Aw b p s S L')++(r,o)::T):=by obtain⟨X,rfl⟩:=hT;exact⟨X++L,⟨X,rfl⟩,λlo r o=>by unfold Aw;exact BR⟩
abbrev TO(B:Nat)(x:Int):Ab:=(B,.cells (toArray [iV x]) 29 (0,0))
theorem rU(hK:IsK F C k S p s)(x y:Ce)(va:Int)[hu:U6 va]:Fn prog 215 [pV b,Fz x,Fz y,Ba va] (Aw b p s S G) (KK F C b p k (iV (MF S x y va).1) (MF S x y va).2 G):=by
 have mr:Cw b p∈Aw b p s S G:=mR λ_ h=>h;obtain⟨R,hR⟩: ∃R,MF S x y va=R:=⟨_,rfl⟩
 rw[hR];unfold MF at hR;refine W9 func215 rfl rfl λE=>?_;simp only[UC,ntmps215];refine AO λb4=>?_;refine AO λb5=>?_;refine AO λb6=>?_;refine AP (DL (k:=3) (n:=2) (e:=458) (zs:=MV (0,0) 0) (cs:=MV x 4++MV y 5) rfl AX AX rfl (Q0 x y 4 5)) ?_;rintro _ _ ⟨bw,_,rfl,rfl⟩;refine KF ?_;refine AP (Az rfl rfl (QZ hK bw x y 4 5 _ (λc hc=> .tail _ (.tail _ (.tail _ (.tail _ hc)))) (.head _))) ?_;rintro _ _ (⟨hk,u,cs,ho,rfl,rfl⟩|⟨hk,rfl,rfl⟩)
 case' inr=>
  rw[Ad hk] at hR;subst hR;refine AO λb9=>?_;exact A5
 rw[Ac (λh=>h hk)] at hR;obtain⟨gb,cap,sp,rfl,rfl⟩:=Mr ho Af;rw[Cb];obtain⟨c,hc⟩: ∃c,DU S x=c:=⟨_,rfl⟩
 obtain⟨d,hd⟩: ∃d,DU S y=d:=⟨_,rfl⟩
 rw[hc,hd] at hR⊢;have z0:(toArray (BW c++BW d++sp))[0+(0:Int).toNat*8+1]?=some (.int .i64 c.obj):=rfl;have z1:(toArray (BW c++BW d++sp))[0+(1:Int).toNat*8+1]?=some (.int .i64 d.obj):=rfl;obtain⟨cd,hcd⟩: ∃r,BW c++BW d++sp=r:=⟨_,rfl⟩
 rw[hcd] at z0 z1⊢;refine AO λb9=>?_;refine Cn (Ck [11,13] 0 15) ?_;refine Cs ?_;obtain⟨o,ho⟩: ∃o,As.ofP S.N d.obj=o:=⟨_,rfl⟩
 rw[ho] at hR⊢;refine Hm e_alloc (by rintro _ _ ⟨_,_,_,rfl⟩ c hc;exact .tail _ hc) ?_;rintro _ _ ⟨b12,_,rfl,rfl⟩;refine Cs ?_;refine KF ?_;refine El ?_;obtain⟨g,hg⟩: ∃g,Gu va=g:=⟨_,rfl⟩
 rw[hg] at hR⊢;refine AO λb14=>?_;cases h1:o.2.2 with
 |false=>rw[Ad h1] at hR;subst hR;refine KF ?_;exact A5
 |true=>
 rw[Ac (by simp[h1])] at hR;refine KF ?_;by_cases h2:g.2=0
 case neg=>rw[Ad h2] at hR;subst hR;refine KF ?_;exact A5
 rw[Ac (by simpa using h2)] at hR;refine KF ?_;refine Cn (Ck [] 0 7) ?_;refine Cs ?_;cases h3:(Fu S c.obj).2 with
 |true=>rw[Ad h3] at hR;subst hR;refine KF ?_;exact A5
 |false=>
 rw[Ac (by simp[h3])] at hR;refine KF ?_;refine Cn (Ck [6,7] 0 8) ?_;refine Cs ?_;obtain⟨f,hf⟩: ∃f,Mq S c.obj=f:=⟨_,rfl⟩
 rw[hf] at hR⊢;refine Hm e_alloc (by rintro _ _ ⟨_,_,_,rfl⟩ c hc;exact .tail _ hc) ?_;rintro _ _ ⟨b15,_,rfl,rfl⟩;refine Cs ?_;refine AO λb16=>?_;obtain⟨pg,hpg⟩: ∃x,g.1=x:=⟨_,rfl⟩
 obtain⟨se,hse⟩: ∃x,o.2.1=x:=⟨_,rfl⟩
 rw[hpg,hse] at hR⊢;refine Cn (Ck [8] 0 9) ?_;refine Cs ?_;obtain⟨rt,hrt⟩: ∃x,Mq S d.obj=x:=⟨_,rfl⟩
 rw[hrt] at hR⊢;refine JS (Az rfl rfl (jg rt pg _)) ?_ rfl rfl;rintro _ _ ⟨B3,B4,B5,rfl,rfl⟩;refine Cs ?_;obtain⟨gm,f1,f2,hW,hU,hM⟩:=hK.mem;obtain⟨lo,hlo⟩: ∃lo,[BJ B5 pg,BJ B4 rt,rB B3 b,TO b16 11,BJ b15 f,BJ b14 pg,BJ b12 se,(b9,Obj.cells (toArray [Value.slice (some ⟨gb,0,none⟩) 2 cap]) 405 (0,0)),(gb,Obj.cells (toArray cd) 74 (0,0)),rB b4 b]=lo:=⟨_,rfl⟩
 refine KF ?_;refine jo rfl ?_;refine C0 (α:=Int×Int) (ps:=[80,81]) (lb:=[pV B3,pV B4,pV B5]) rfl (W6 B3 B4 B5 b gm F p S.W f2 hW hU rt pg) (λ_=>rfl) rfl
  (λpre l=>(∀q,q∈pre->decide ((NZ S.W q.2).1=0)=false)/\l=lo++Aw b p s S G)
  (λco pre l=>co= .exit 1/\ ∃pre0 q s' L',pre=pre0++[q]/\(∀q,q∈pre0->decide ((NZ S.W q.2).1=0)=false)/\decide ((NZ S.W q.2).1=0)=true/\IsK F C k (rS S f c.obj se pg q) p s'/\Tail L' G/\l=[TO b16 0]++Aw b p s' (rS S f c.obj se pg q) L')
  (lo++Aw b p s S G) [] (λpre l X hX h=>by obtain⟨_,rfl⟩:=h;rw[<-hlo];have m1:=mM (b:=b) (p:=p) (s:=s) (S:=S) (G:=G) (l:=Aw b p s S G) (λ_ h=>h);rw[hM] at m1;exact⟨by simp,by simp,by simp,by simp[mr],by simp[m1],by simp[m1]⟩) (by rw[Bf,<-hlo];exact AS) ⟨λ_ h=>(nomatch h),rfl⟩ ?_ ?_ ?_
 ·rintro E r0 rec pre q l' X ⟨fn,tmps,D,hrec⟩ hX ⟨hn,rfl⟩ hsp;have hqm:q∈pF S.W rt pg:=hsp.subset (by simp);have hqU:=hK.lvU hqm;obtain⟨lv,qa⟩:=q;refine D3 (.of_perm (ol (L:=[BJ B5 pg,BJ B4 rt,rB B3 b,TO b16 11,BJ b15 f,BJ b14 pg,BJ b12 se,(b9,Obj.cells (toArray [Value.slice (some ⟨gb,0,none⟩) 2 cap]) 405 (0,0)),(gb,Obj.cells (toArray cd) 74 (0,0)),rB b4 b]) hlo)) ?_;have mr1:Cw b p∈Aw b p s S (G++X):=mR λ_ h=>h;simp only[DG,Ae,Ag];rw[hrec];refine KF ?_;refine Cy (by exact DI) ?_;rw[<-hrec];obtain⟨lp,hlp⟩: ∃lp:Ab,(r0,Obj.loop (rec .busy none))=lp:=⟨_,rfl⟩
  rw[hlp];refine rx ?_;intro Q' hQ';refine KF ?_;refine El ?_;refine KF ?_;refine El ?_;obtain⟨w,hw⟩: ∃w,NZ S.W qa=w:=⟨_,rfl⟩
  rw[hw];refine KF ?_;by_cases h5:w.1=0
  case neg=>
   refine KF ?_;refine uL hQ' ?_;subst hlp hrec;exact B0 (lo++Aw b p s S G) (Keep.of_perm (jK (L:=[BJ B5 pg,BJ B4 rt,rB B3 b,TO b16 11,BJ b15 f,BJ b14 pg,BJ b12 se,(b9,Obj.cells (toArray [Value.slice (some ⟨gb,0,none⟩) 2 cap]) 405 (0,0)),(gb,Obj.cells (toArray cd) 74 (0,0)),rB b4 b]) hlo)) ⟨λz hz=>by
    rcases AE.1 hz with hz|hz
    ·exact hn z hz
    ·rw[Ax.1 hz];simp[hw,h5],rfl⟩
  refine KF ?_;refine El (q:=(⟨λl _=>WP (u7 f) l⟩:QF prog 295 [WO (u7 f)] _ _)) ?_;have heU:=uZ (u7 f);obtain⟨ew,hew⟩: ∃w,Pi (u7 f)=w:=⟨_,rfl⟩
  rw[hew] at heU⊢;refine KF ?_;try simp only[AL,AK,AQ]
  refine Cn (Ck [3] 0 4) ?_;refine Cs ?_;refine LN ?_;intro S1 s1 L1 hS1 hK1 hT1 mr1;refine Cs ?_;refine KF ?_;refine El ?_;refine KF ?_;refine FI ?_;intro S2 s2 L2 hS2 hK2 hT2 mr2;refine KF ?_;refine Cn (Ck [9] 0 10) ?_;refine Cs ?_;refine LN ?_;intro S3 s3 L3 hS3 hK3 hT3 mr3;refine Cs ?_;refine KF ?_;have hS:S3=rS S f c.obj se pg (lv,qa):=by unfold rS;rw[hew,hS3,hS2,hS1]
  clear hS3 hR;subst hS;obtain⟨L',hL',hp⟩:=om (b:=b) (p:=p) (s:=s3) (S:=rS S f c.obj se pg (lv,qa)) (hT3.trans (hT2.trans hT1));refine uL hQ' ?_;subst hlp hrec;exact EE ([TO b16 0]++Aw b p s3 (rS S f c.obj se pg (lv,qa)) L') (Keep.right (by exact AS) (hp [TO b16 0] r0 _)) ⟨rfl,pre,(lv,qa),s3,L',rfl,hn,by simp[hw,h5],hK3,hL',rfl⟩
 ·rintro D xs l' rfl ⟨hn,rfl⟩;rw[oh hn] at hR;subst hR;rw[<-hlo];simp only[Ae,Ag,Bf];refine KF ?_;exact AW [D] _ rfl .refl (by exact A8) (by exact AS) ⟨rfl,s,G,hK,.nil,rfl⟩
 ·rintro D co pre l' hsp ⟨rfl,pre0,q,s',L',rfl,hn,hq,hK',hT,rfl⟩;rw[og hsp hn hq] at hR;subst hR;simp only[Ae,Ag,Bf];refine KF ?_;exact AW [D] _ rfl .refl (by exact A8) (by exact AS) ⟨rfl,s',L',hK',hT,rfl⟩
instance{x y:Ce}{va:Int}[hu:U6 va]:EK prog F C b p 215 [pV b,Fz x,Fz y,Ba va] k S k (iV (MF S x y va).1) (MF S x y va).2:=⟨λs G h=>rU h x y va⟩
end
section
abbrev u9(m f:Int):SZ:=⟨true,true,decide (¬K8 m 1=0),decide (¬K8 m 2=0),f⟩
def yk(S:KT)(x:Ce)(c:CapT)(n se pg a m:Int):KT:={S with W:=(cY S.W a (Pi (u9 m (Mq S c.obj))).1).2,H:=(Oa S.H x {c with serial:=se,page:=pg}).2,K:=If S.K (JI n pg)}
def MG(S:KT)(x y:Ce)(va ri:Int):Int×KT:=
 if ¬(E5 S x 3/\E5 S y 5) then(8,S)
 else if(As.ofP S.N (DU S y).obj).2.2=false then(15,S)
 else if ¬(Gu va).2=0 then(3,S)
 else if ¬va%64=0 then(4,S)
 else if ri<1\/3<ri\/K8 ri (DU S x).rights=0 then(9,S)
 else if(Fv S (DU S x)).2=true/\(¬(DU S x).serial=(As.ofP S.N (DU S y).obj).2.1\/¬(DU S x).page=(Gu va).1) then(13,S)
 else if ¬(PA S.W (Mq S (DU S y).obj) (Gu va).1 3).2=0 then(14,S)
 else if ¬(NZ S.W (PA S.W (Mq S (DU S y).obj) (Gu va).1 3).1).1=0/\(Fv S (DU S x)).2=false then(11,S)
 else(0,yk S x (DU S x) (As.ofP S.N (DU S y).obj).1 (As.ofP S.N (DU S y).obj).2.1 (Gu va).1 (PA S.W (Mq S (DU S y).obj) (Gu va).1 3).1 (K8 ri (DU S x).rights))
theorem rV(hK:IsK F C k S p s)(x y:Ce)(va ri:Int)[hu:U6 va]:Fn prog 217 [pV b,Fz x,Fz y,Ba va,.int .i64 ri] (Aw b p s S G) (KK F C b p k (iV (MG S x y va ri).1) (MG S x y va ri).2 G):=by
 have mr:Cw b p∈Aw b p s S G:=mR λ_ h=>h;have hw:=hK.cw x;obtain⟨u0,u1⟩:=hu.out;obtain⟨R,hR⟩: ∃R,MG S x y va ri=R:=⟨_,rfl⟩
 rw[hR];unfold MG at hR;refine AM func217 ntmps217 λE=>?_;refine AO λb6=>?_;refine AO λb7=>?_;refine AP (DL (k:=3) (n:=2) (e:=458) (zs:=MV (0,0) 0) (cs:=MV x 3++MV y 5) rfl AX AX rfl (Q0 x y 3 5)) ?_;rintro _ _ ⟨bw,_,rfl,rfl⟩;refine Aj ?_;refine AP (Az rfl rfl (QZ hK bw x y 3 5 _ (λc hc=> .tail _ (.tail _ (.tail _ hc))) (.head _))) ?_;rintro _ _ (⟨hk,u,cs,ho,rfl,rfl⟩|⟨hk,rfl,rfl⟩)
 case' inr=>
  rw[Ad hk] at hR;subst hR;refine Aj ?_;exact A5
 rw[Ac (λh=>h hk)] at hR;obtain⟨gb,cap,sp,rfl,rfl⟩:=Mr ho Af;rw[Cb];obtain⟨c,hc⟩: ∃c,DU S x=c:=⟨_,rfl⟩
 obtain⟨d,hd⟩: ∃d,DU S y=d:=⟨_,rfl⟩
 rw[hc] at hw;rw[hc,hd] at hR⊢;have z0:(toArray (BW c++BW d++sp)).extract (0+(0:Int).toNat*8) (0+(0:Int).toNat*8+8)=toArray (BW c):=by rw[Am];exact aB c _
 have z1:(toArray (BW c++BW d++sp))[0+(1:Int).toNat*8+1]?=some (.int .i64 d.obj):=rfl;refine Aj ?_;refine Bb (Dn rfl (.head _) (by show 0+(0:Int).toNat*8+8<=(BW c++BW d++sp).length;simp) z0) ?_;refine AO λb13=>?_;refine Cn (Ck [] 0 14) ?_;refine Cs ?_;obtain⟨o,ho⟩: ∃o,As.ofP S.N d.obj=o:=⟨_,rfl⟩
 rw[ho] at hR⊢;refine Cs ?_;refine Aj ?_;refine El ?_;obtain⟨g,hg⟩: ∃g,Gu va=g:=⟨_,rfl⟩
 rw[hg] at hR⊢;refine Aj ?_;refine El ?_;obtain⟨fk,hfk⟩: ∃x,(Fv S c).2=x:=⟨_,rfl⟩
 rw[hfk] at hR⊢;refine Aj ?_;cases h1:o.2.2 with
 |false=>rw[Ad h1] at hR;subst hR;refine Aj ?_;exact A5
 |true=>
 rw[Ac (by simp[h1])] at hR;refine Aj ?_;by_cases h2:g.2=0
 case neg=>rw[Ad h2] at hR;subst hR;refine Aj ?_;exact A5
 rw[Ac (by simpa using h2)] at hR;refine Aj ?_;by_cases h3:va%64=0
 case neg=>rw[Ad h3] at hR;subst hR;refine Aj ?_;exact A5
 rw[Ac (by simpa using h3)] at hR;obtain⟨m,hm⟩: ∃m,K8 ri c.rights=m:=⟨_,rfl⟩
 rw[hm] at hR;by_cases h4:ri<1\/3<ri
 ·rw[Ad Af] at hR;subst hR;by_cases h5:ri<1<;>by_cases h6:3<ri;all_goals first
   |(exfalso;omega)
   |(refine Aj ?_
     exact A5)
 obtain⟨h5,h6⟩:¬ri<1/\¬3<ri:=by omega
 refine Aj ?_;refine VW (JW rfl rfl) rfl rfl rfl rfl rfl rfl ?_;rw[hm];by_cases h7:m=0
 ·rw[Ad Af] at hR;subst hR;refine Aj ?_;exact A5
 rw[Ac Af] at hR;refine Aj ?_;obtain⟨pg,hpg⟩: ∃x,g.1=x:=⟨_,rfl⟩
 obtain⟨se,hse⟩: ∃x,o.2.1=x:=⟨_,rfl⟩
 rw[hpg,hse] at hR⊢;by_cases h8:fk=true/\(¬c.serial=se\/¬c.page=pg)
 ·rw[Ad h8] at hR;subst hR;obtain⟨rfl,h8⟩:=h8;by_cases h9:c.serial=se<;>by_cases h10:c.page=pg;all_goals first
   |(exfalso;omega)
   |(refine Aj ?_
     exact A5)
 rw[Ac h8] at hR;have haU:=hK.atU (Mq S d.obj) pg 3;cases fk
 case' true=>
  obtain⟨h9,h10⟩:c.serial=se/\c.page=pg:=by simpa using h8
 all_goals
  refine Aj ?_;refine Cn (Ck [] 0 15) ?_;refine Cs ?_;try simp only[AL,AK,AQ]
  refine Cs ?_;obtain⟨a,ha⟩: ∃a,PA S.W (Mq S d.obj) pg 3=a:=⟨_,rfl⟩
  rw[ha] at hR haU⊢;refine Cs ?_;refine Aj ?_;by_cases h11:a.2=0
  case neg=>rw[Ad h11] at hR;subst hR;refine Aj ?_;exact A5
  rw[Ac (by simpa using h11)] at hR;refine Aj ?_;try simp only[AL,AK,AQ]
  refine El ?_;refine Aj ?_;refine El ?_;obtain⟨w,hw1⟩: ∃w,NZ S.W a.1=w:=⟨_,rfl⟩
  rw[hw1] at hR⊢;by_cases h12:w.1=0;all_goals first
   |(rw[Ad ⟨h12,rfl⟩] at hR
     subst hR;refine Aj ?_;exact A5)
   |(rw[Ac (by simp[h12])] at hR
     subst hR;unfold yk;obtain⟨fi,hfi⟩: ∃x,Mq S c.obj=x:=⟨_,rfl⟩
     rw[hfi];have heU:=uZ (u9 m fi);have hw2:CW {c with serial:=se,page:=pg}:=⟨hw.out.1,hw.out.2⟩
     refine Aj ?_;refine Bb (JW rfl rfl) ?_;rw[hm];refine Aj ?_;refine Bb (JW rfl rfl) ?_;refine Aj ?_;refine Bb (JW rfl rfl) ?_;refine Aj ?_;refine El ?_;rw[hfi];refine Aj ?_;refine El (q:=(⟨λl _=>WP (u9 m fi) l⟩:QF prog 295 [WO (u9 m fi)] _ _)) ?_;obtain⟨ew,hew⟩: ∃w,Pi (u9 m fi)=w:=⟨_,rfl⟩
     rw[hew] at heU⊢;refine Aj ?_;try simp only[AL,AK,AQ]
     refine El ?_;refine Aj ?_;refine FI ?_;intro S1 s1 L1 hS1 hK1 hT1 mr1;refine Aj ?_;refine Cn (Ck [4] 0 5) ?_;refine Cs ?_;refine LN (q:=pE (x:=x) (c:={c with serial:=se,page:=pg})) ?_;intro S2 s2 L2 hS2 hK2 hT2 mr2;refine Cs ?_;refine Aj ?_;refine El ?_;refine Aj ?_;refine FI ?_;intro S3 s3 L3 hS3 hK3 hT3 mr3;refine Aj ?_;have hS:S3={S with W:=(cY S.W a.1 ew.1).2,H:=(Oa S.H x {c with serial:=se,page:=pg}).2,K:=If S.K (JI o.1 pg)}:=by rw[hS3,hS2,hS1]
     exact A5)
instance{x y:Ce}{va ri:Int}[hu:U6 va]:EK prog F C b p 217 [pV b,Fz x,Fz y,Ba va,.int .i64 ri] k S k (iV (MG S x y va ri).1) (MG S x y va ri).2:=⟨λs G h=>rV h x y va ri⟩
end
class OB(o:In):Prop where
 w:Kr o.w
 r:o.op=1->0<=o.n2/\o.n2<=1000
 d:o.op=19->0<=o.n0/\o.n0<=2
def I3(S:KT)(t:Int)(o:In)(x y:Ce):Int×KT:=
 if o.op=1 then EY S o x y else
 if o.op=2 then((Fs S.H x y (D4 (DJ S.H.1 x) o.n0)).1,{S with H:=(Fs S.H x y (D4 (DJ S.H.1 x) o.n0)).2}) else
 if o.op=3 then((Fs S.H x y (G5 (DJ S.H.1 x) o.n0 o.w.toNat)).1,{S with H:=(Fs S.H x y (G5 (DJ S.H.1 x) o.n0 o.w.toNat)).2}) else
 if o.op=4 then((HN S.H x y).1,{S with H:=(HN S.H x y).2}) else
 if o.op=5 then((Jy S.H x y).1,{S with H:=(Jy S.H x y).2}) else
 if o.op=6 then((NE S x).1.2,(NE S x).2) else
 if o.op=7 then((Oc S x o.n0).1.2,(Oc S x o.n0).2) else
 if o.op=8 then MF S x y o.w else
 if o.op=9 then Nz S x else
 if o.op=10 then MG S x y o.w o.n0 else
 if o.op=11 then NC S x else
 if o.op=12 then NA S x y else
 if o.op=13 then NB S x y else
 if o.op=18 then(0,Vr S t) else
 if o.op=19 then MD S o.n0 x y else
 if o.op=20 then HV S o.n0 x else
 if o.op=21 then HW S x else
 if o.op=22 then Gv S x else
 if o.op=23 then ME S o.n0 x else
 (2,S)
section
theorem rW{x y:Ce}{m w:Int}(hw:Kr w):EK prog F C b p 150 [pV p.h,Fz x,Fz y,.int .i64 m,Ba w] (k+1) S k (iV (Fs S.H x y (G5 (DJ S.H.1 x) m w.toNat)).1) {S with H:=(Fs S.H x y (G5 (DJ S.H.1 x) m w.toNat)).2}:=by
 obtain⟨n,rfl⟩: ∃n:Nat,w=n:=⟨w.toNat,by have:=hw.1;omega⟩
 have hn:n<18446744073709551616:=by have:=hw.2;omega
 rw[AY];exact⟨λs G h=>mZ h Af (λi hi=>(hi.der x y _ (RR (hi.at x).2 m n)).mono Af) λi G hi h9=>PQ p.h S.H i hi h9 s.H h.ho x y m n hn G⟩
theorem rX(hK:IsK F C (k+8) S p s)(t:Int)(o:In)(x y:Ce)(ho:OB o):Fn prog 162 [NF b t o x y] (Aw b p s S G) (KK F C b p k (iV (I3 S t o x y).1) (I3 S t o x y).2 G):=by
 have mr:Cw b p∈Aw b p s S G:=mR λ_ h=>h;obtain⟨R,hR⟩: ∃R,I3 S t o x y=R:=⟨_,rfl⟩
 rw[hR];unfold I3 at hR;have z0:(toArray (lg b t o x y))[2+4+(0:Int).toNat*1]?=some (iV o.n0):=rfl;have hu:U6 o.w:=⟨ho.w⟩
 have hb:=ho.r;have hd:=ho.d;refine AM func162 ntmps162 λE=>?_;refine AO λb1=>?_;by_cases e1:o.op=1
 ·rw[Ad e1] at hR;subst hR;refine Aj ?_;refine FI (vs:=[NF b t o x y]) ?_ (q:=(⟨λs G h=>jD h t o x y (hb e1)⟩:EK prog F C b p 210 [NF b t o x y] (k+8) S k (iV (EY S o x y).1) (EY S o x y).2));intro S1 s1 L1 hS1 hK1 hT1 mr1;refine Aj ?_;exact A5
 rw[Ac e1] at hR;by_cases e2:o.op=2
 ·rw[Ad e2] at hR;subst hR;refine Aj ?_;refine Cn (Ck [11] 0 13) ?_;refine Cs ?_;refine LN (vs:=[pV p.h,Fz x,Fz y,.int .i64 o.n0]) ?_;intro S1 s1 L1 hS1 hK1 hT1 mr1;refine Cs ?_;refine Aj ?_;exact A5
 rw[Ac e2] at hR;by_cases e3:o.op=3
 ·rw[Ad e3] at hR;subst hR;refine Aj ?_;refine Cn (Ck [14] 0 16) ?_;refine Cs ?_;refine LN (vs:=[pV p.h,Fz x,Fz y,.int .i64 o.n0,Ba o.w]) ?_ (q:=rW ho.w);intro S1 s1 L1 hS1 hK1 hT1 mr1;refine Cs ?_;refine Aj ?_;exact A5
 rw[Ac e3] at hR;by_cases e4:o.op=4
 ·rw[Ad e4] at hR;subst hR;refine Aj ?_;refine Cn (Ck [7] 0 9) ?_;refine Cs ?_;refine LN (vs:=[pV p.h,Fz x,Fz y]) ?_;intro S1 s1 L1 hS1 hK1 hT1 mr1;refine Cs ?_;refine Aj ?_;exact A5
 rw[Ac e4] at hR;by_cases e5:o.op=5
 ·rw[Ad e5] at hR;subst hR;refine Aj ?_;refine Cn (Ck [7] 0 9) ?_;refine Cs ?_;refine LN (vs:=[pV p.h,Fz x,Fz y]) ?_;intro S1 s1 L1 hS1 hK1 hT1 mr1;refine Cs ?_;refine Aj ?_;exact A5
 rw[Ac e5] at hR;by_cases e6:o.op=6
 ·rw[Ad e6] at hR;subst hR;refine Aj ?_;refine FI (vs:=[pV b,Fz x]) ?_;intro S1 s1 L1 hS1 hK1 hT1 mr1;refine Aj ?_;exact A5
 rw[Ac e6] at hR;by_cases e7:o.op=7
 ·rw[Ad e7] at hR;subst hR;refine Aj ?_;refine FI (vs:=[pV b,Fz x,.int .i64 o.n0]) ?_;intro S1 s1 L1 hS1 hK1 hT1 mr1;refine Aj ?_;exact A5
 rw[Ac e7] at hR;by_cases e8:o.op=8
 ·rw[Ad e8] at hR;subst hR;refine Aj ?_;refine FI (vs:=[pV b,Fz x,Fz y,Ba o.w]) ?_;intro S1 s1 L1 hS1 hK1 hT1 mr1;refine Aj ?_;exact A5
 rw[Ac e8] at hR;by_cases e9:o.op=9
 ·rw[Ad e9] at hR;subst hR;refine Aj ?_;refine FI (vs:=[pV b,Fz x]) ?_;intro S1 s1 L1 hS1 hK1 hT1 mr1;refine Aj ?_;exact A5
 rw[Ac e9] at hR;by_cases e10:o.op=10
 ·rw[Ad e10] at hR;subst hR;refine Aj ?_;refine FI (vs:=[pV b,Fz x,Fz y,Ba o.w,.int .i64 o.n0]) ?_;intro S1 s1 L1 hS1 hK1 hT1 mr1;refine Aj ?_;exact A5
 rw[Ac e10] at hR;by_cases e11:o.op=11
 ·rw[Ad e11] at hR;subst hR;refine Aj ?_;refine FI (vs:=[pV b,Fz x]) ?_;intro S1 s1 L1 hS1 hK1 hT1 mr1;refine Aj ?_;exact A5
 rw[Ac e11] at hR;by_cases e12:o.op=12
 ·rw[Ad e12] at hR;subst hR;refine Aj ?_;refine FI (vs:=[pV b,Fz x,Fz y]) ?_;intro S1 s1 L1 hS1 hK1 hT1 mr1;refine Aj ?_;exact A5
 rw[Ac e12] at hR;by_cases e13:o.op=13
 ·rw[Ad e13] at hR;subst hR;refine Aj ?_;refine FI (vs:=[pV b,Fz x,Fz y]) ?_;intro S1 s1 L1 hS1 hK1 hT1 mr1;refine Aj ?_;exact A5
 rw[Ac e13] at hR;by_cases e18:o.op=18
 ·rw[Ad e18] at hR;subst hR;refine Aj ?_;refine FI (vs:=[NF b t o x y]) ?_ (q:=(⟨λs G h=>jA h t o x y⟩:EK prog F C b p 221 [NF b t o x y] (k+8) S (k+8) (iV 0) (Vr S t)));intro S1 s1 L1 hS1 hK1 hT1 mr1;refine Aj ?_;exact A5
 rw[Ac e18] at hR;by_cases e19:o.op=19
 ·rw[Ad e19] at hR;subst hR;refine Aj ?_;refine FI (vs:=[NF b t o x y]) ?_ (q:=(⟨λs G h=>rK h t o x y (hd e19)⟩:EK prog F C b p 222 [NF b t o x y] (k+8) S (k+7) (iV (MD S o.n0 x y).1) (MD S o.n0 x y).2));intro S1 s1 L1 hS1 hK1 hT1 mr1;refine Aj ?_;exact A5
 rw[Ac e19] at hR;by_cases e20:o.op=20
 ·rw[Ad e20] at hR;subst hR;refine Aj ?_;refine FI (vs:=[NF b t o x y]) ?_ (q:=(⟨λs G h=>jE h t o x y⟩:EK prog F C b p 223 [NF b t o x y] (k+8) S (k+8) (iV (HV S o.n0 x).1) (HV S o.n0 x).2));intro S1 s1 L1 hS1 hK1 hT1 mr1;refine Aj ?_;exact A5
 rw[Ac e20] at hR;by_cases e21:o.op=21
 ·rw[Ad e21] at hR;subst hR;refine Aj ?_;refine FI (vs:=[NF b t o x y]) ?_ (q:=(⟨λs G h=>jF h t o x y⟩:EK prog F C b p 224 [NF b t o x y] (k+8) S (k+7) (iV (HW S x).1) (HW S x).2));intro S1 s1 L1 hS1 hK1 hT1 mr1;refine Aj ?_;exact A5
 rw[Ac e21] at hR;by_cases e22:o.op=22
 ·rw[Ad e22] at hR;subst hR;refine Aj ?_;refine FI (vs:=[NF b t o x y]) ?_ (q:=(⟨λs G h=>dP h t o x y⟩:EK prog F C b p 225 [NF b t o x y] (k+8) S (k+8) (iV (Gv S x).1) (Gv S x).2));intro S1 s1 L1 hS1 hK1 hT1 mr1;refine Aj ?_;exact A5
 rw[Ac e22] at hR;by_cases e23:o.op=23
 ·rw[Ad e23] at hR;subst hR;refine Aj ?_;refine FI (vs:=[NF b t o x y]) ?_ (q:=(⟨λs G h=>rM h t o x y⟩:EK prog F C b p 226 [NF b t o x y] (k+8) S (k+7) (iV (ME S o.n0 x).1) (ME S o.n0 x).2));intro S1 s1 L1 hS1 hK1 hT1 mr1;refine Aj ?_;exact A5
 rw[Ac e23] at hR;subst hR;refine Aj ?_;exact A5
end
structure MR where
 op:Int
 a0:Int
 a1:Int
 a2:Int
 a3:Int
 a4:Int
 a5:Int
deriving DecidableEq
abbrev fo(c:MR):List Value:=[Ba c.op,Ba c.a0,Ba c.a1,Ba c.a2,Ba c.a3,Ba c.a4,Ba c.a5]
abbrev li(c:MR):Value:= .agg (toArray (fo c))
structure Oe where
 kd:Int
 co:Int
 th:Int
 cl:MR
 va:Int
 vl:Int
 st:Int
 wy:Int
 pg:Int
deriving DecidableEq
abbrev Zb(e:Oe):List Value:=[iV e.kd,iV e.co,iV e.th,Ba e.cl.op,Ba e.cl.a0,Ba e.cl.a1,Ba e.cl.a2,Ba e.cl.a3,Ba e.cl.a4,Ba e.cl.a5,Ba e.va,Ba e.vl,iV e.st,iV e.wy,iV e.pg]
abbrev OO(e:Oe):Value:= .agg (toArray (Zb e))
abbrev Ot(kb b:Nat):Ab:=(kb,.cells #[pV b] 153 (0,0))
def LM(S:KT)(core t:Int):Int×KT:=
 if core<0\/(S.K.length:Int)<=core then(3,S)
 else if t=0/\(Qu.firstQ S.Q).2=false then(19,S)
 else if My S (if t=0 then(Qu.firstQ S.Q).1 else t)=false then(2,S)
 else if ¬(DB S (if t=0 then(Qu.firstQ S.Q).1 else t)).st=1 then(16,S)
 else Li S core (if t=0 then(Qu.firstQ S.Q).1 else t)
def Jg(S:KT)(e:Oe):Int×KT:=
 if e.co<0\/(S.K.length:Int)<=e.co then(3,S)
 else if e.kd=6/\(e.pg<0\/512<=e.pg) then(3,S)
 else if e.kd=6 then(0,{S with K:=(DA S.K S.W e.co e.pg).2})
 else if e.st<0\/4<=e.st\/e.wy<0\/2<=e.wy then(3,S)
 else(0,{S with K:=(iy S.K e.co e.st e.wy).2})
section
theorem vb{n:Int}:EV prog F C b p 109 [pV p.c,.int .i64 n,pV p.m,.int .i64 pg] k S k {S with K:=(DA S.K S.W n pg).2}:=⟨λs G h=>by obtain⟨x,hx⟩:=iS (G:=G) h n pg;exact Fn.re .refl hx λv l' ⟨h1,s',L,h2,h3,h4⟩=>⟨l',.refl,s',L,h2,h3,h4⟩⟩
theorem rY(hK:IsK F C k S p s)(kb:Nat)(hk:Ot kb b∈G)(core t:Int):Fn prog 70 [pV kb,.int .i64 core,.int .i64 t] (Aw b p s S G) (KK F C b p k (iV (LM S core t).1) (LM S core t).2 G):=by
 have mr:Cw b p∈Aw b p s S G:=mR λ_ h=>h;have mk:Ot kb b∈Aw b p s S G:=mG (λ_ h=>h) _ hk;obtain⟨R,hR⟩: ∃R,LM S core t=R:=⟨_,rfl⟩
 rw[hR];unfold LM at hR;obtain⟨id,hid⟩: ∃i,(if t=0 then(Qu.firstQ S.Q).1 else t)=i:=⟨_,rfl⟩
 rw[hid] at hR;refine AM func70 ntmps70 λE=>?_;refine Aj ?_;by_cases h1:core<0
 ·rw[Ad (.inl h1)] at hR;subst hR;refine Aj ?_;exact A5
 refine Aj ?_;refine El ?_;refine Aj ?_;refine El ?_;refine Aj ?_;by_cases h2:(S.K.length:Int)<=core
 ·rw[Ad (.inr h2)] at hR;subst hR;refine Aj ?_;exact A5
 rw[Ac Af] at hR;refine Aj ?_;by_cases h5:t=0/\(Qu.firstQ S.Q).2=false
 ·rw[Ad h5] at hR;subst hR;obtain⟨h6,h7⟩:=h5;refine Aj ?_;refine El ?_;refine Aj ?_;refine El ?_;rw[h7];refine Aj ?_;exact A5
 rw[Ac h5] at hR;refine Ql (α:=Unit) (λ_=>[(0,pV kb),(1,iV core),(2,iV id)]) (λ_=>Aw b p s S G) (λ_=>True) ?_ ?_
 ·by_cases h6:t=0
  ·rw[Ad h6] at hid;have h7:(Qu.firstQ S.Q).2=true:=by simpa[h6] using h5
   refine Aj ?_;refine El ?_;refine Aj ?_;refine El ?_;rw[h7,hid];refine Aj ?_;exact Ek () trivial ⟨rfl,rfl,rfl,trivial⟩ .refl
  ·rw[Ac h6] at hid;subst hid;refine Aj ?_;exact Ek () trivial ⟨rfl,rfl,rfl,trivial⟩ .refl
 rintro- -;refine Aj ?_;refine El ?_;refine Aj ?_;refine El ?_;obtain⟨u,hu⟩: ∃u,DB S id=u:=⟨_,rfl⟩
 obtain⟨ok,hok⟩: ∃k,(Th.findH S.T id).isSome=k:=⟨_,rfl⟩
 rw[show My S id=ok from hok,hu] at hR;rw[hu,hok];refine AO λb9=>?_;cases ok with
 |false=>rw[Ad rfl] at hR;subst hR;refine Aj ?_;exact A5
 |true=>
 rw[Ac AX] at hR;refine Aj ?_;by_cases h8:u.st=1
 case neg=>rw[Ad h8] at hR;subst hR;refine Aj ?_;exact A5
 rw[Ac (λh=>h h8)] at hR;refine Aj ?_;refine FI ?_;intro S1 s1 L1 hS1 hK1 hT1 mr1;refine Aj ?_;subst hR;exact A5
theorem oq(hK:IsK F C k S p s)(kb:Nat)(hk:Ot kb b∈G)(e:Oe):Fn prog 72 [pV kb,OO e] (Aw b p s S G) (KK F C b p k (iV (Jg S e).1) (Jg S e).2 G):=by
 have mr:Cw b p∈Aw b p s S G:=mR λ_ h=>h;have mk:Ot kb b∈Aw b p s S G:=mG (λ_ h=>h) _ hk;obtain⟨R,hR⟩: ∃R,Jg S e=R:=⟨_,rfl⟩
 rw[hR];unfold Jg at hR;refine AM func72 ntmps72 λE=>?_;refine AO λb3=>?_;by_cases h1:e.co<0
 ·rw[Ad (.inl h1)] at hR;subst hR;refine Ch [] 15 _ ?_ (hR:=(λ_ h=>h));refine BM ?_;refine Aj ?_;exact A5
 refine Ch [] 15 _ ?_ (hR:=(λ_ h=>h));refine BM ?_;refine TK ?_;refine BM ?_;refine TK ?_;refine BM ?_;refine Aj ?_;by_cases h2:(S.K.length:Int)<=e.co
 ·rw[Ad (.inr h2)] at hR;subst hR;refine Aj ?_;exact A5
 rw[Ac Af] at hR;refine Aj ?_;by_cases h3:e.kd=6
 ·by_cases h4:e.pg<0
  ·rw[Ad ⟨h3,.inl h4⟩] at hR;subst hR;refine Aj ?_;exact A5
  by_cases h5:512<=e.pg
  ·rw[Ad ⟨h3,.inr h5⟩] at hR;subst hR;refine Aj ?_;exact A5
  rw[Ac Af,Ad h3] at hR;subst hR;refine Aj ?_;refine Cn (Ck [14] 0 15) ?_;refine Cs ?_;refine JS (Az (vs:=[pV p.c,.int .i64 e.co,pV p.m,.int .i64 e.pg]) rfl rfl ((vb (k:=k) (S:=S) (n:=e.co) (pg:=e.pg)).on hK (by exact Z9))) ?_;rintro _ _ ⟨s1,L1,hK1,hT1,rfl⟩;refine Cs ?_;refine Aj ?_;exact A5
 rw[Ac Af,Ac h3] at hR;refine Aj ?_;by_cases g1:e.st<0
 ·rw[Ad Af] at hR;subst hR;refine Aj ?_;exact A5
 by_cases g2:4<=e.st
 ·rw[Ad Af] at hR;subst hR;refine Aj ?_;exact A5
 by_cases g3:e.wy<0
 ·rw[Ad Af] at hR;subst hR;refine Aj ?_;exact A5
 by_cases g4:2<=e.wy
 ·rw[Ad Af] at hR;subst hR;refine Aj ?_;exact A5
 rw[Ac Af] at hR;subst hR;refine Aj ?_;refine Cn (Ck [11] 0 12) ?_;refine Cs ?_;refine LN ?_;intro S1 s1 L1 hS1 hK1 hT1 mr1;refine Cs ?_;refine Aj ?_;exact A5
end
structure FoT where
 le:Int
 mo:Int
 wd:Bool
 at':Option Nat
deriving DecidableEq
variable{f:FoT}
def xe(bo bc:Nat):Option Nat->Value
 |some o=> .pointer (some ⟨bo,o,none⟩)
 |none=> .pointer (some ⟨bc,0,none⟩)
def S9(bo bc:Nat)(f:FoT):List Value:=[Ba f.le,Ba f.mo,if f.wd=true then .pointer none else xe bo bc f.at',if f.wd=true then xe bo bc f.at' else .pointer none]
abbrev Q6(o:Nat):FoT:=⟨0,4095,false,some o⟩
abbrev Vv(o:Option Nat)(le mo:Int):FoT:=⟨le,mo,false,o⟩
abbrev rZ(o:Nat):FoT:=⟨0,18446744073709551615,true,some o⟩
abbrev yl:List FoT:=[rZ 8,rZ 9,rZ 10,rZ 11]
def Pt(op:Int):Option (List FoT):=
 if op=1 then some [Q6 1,Vv (some 4) 0 15,Vv (some 5) 0 64,Q6 2,Vv (some 6) 0 15,Vv none 1 4]
 else if op=2 then some [Q6 1,Q6 2,Vv (some 4) 0 7]
 else if op=3 then some [Q6 1,Q6 2,Vv (some 4) 0 7,rZ 7]
 else if op=4\/op=5\/op=12\/op=13 then some [Q6 1,Q6 2]
 else if op=6\/op=9\/op=11\/op=21\/op=22 then some [Q6 1]
 else if op=7 then some [Q6 1,Vv (some 4) 1 64]
 else if op=8 then some [Q6 1,Q6 2,rZ 7]
 else if op=10 then some [Q6 1,Q6 2,rZ 7,Vv (some 4) 0 7]
 else if op=14\/op=15 then some (Q6 1::Vv (some 4) 0 4096::yl)
 else if op=16 then some [Q6 1,Vv (some 4) 0 4096]
 else if op=17 then some yl
 else if op=18 then some []
 else if op=19 then some [Q6 1,Vv (some 4) 0 2,Q6 2]
 else if op=20 then some [Q6 1,Vv (some 4) 0 2]
 else if op=23 then some [Q6 1,Vv (some 4) 0 7]
 else none
section
variable{bo bc o:Nat}{l:List Ab}
theorem jL(l:List Ab)(bo o:Nat):Fn prog 122 [.pointer (some ⟨bo,o,none⟩)] l λv l'=>v= .agg (toArray [Ba 0,Ba 4095,.pointer (some ⟨bo,o,none⟩),.pointer none])/\l'=l:=by refine AM func122 ntmps122 λE=>?_;refine AO λb2=>?_;exact AW [] _ rfl .refl (Cz rfl (.head _) (As.LSub.of_all (n:=4) [Ba 0,Ba 4095,.pointer (some ⟨bo,o,none⟩),.pointer none] rfl) (by exact A8)) (.drop .refl) ⟨rfl,rfl⟩
theorem jM(l:List Ab)(bo o:Nat)(le mo:Int):Fn prog 123 [.pointer (some ⟨bo,o,none⟩),Ba le,Ba mo] l λv l'=>v= .agg (toArray [Ba le,Ba mo,.pointer (some ⟨bo,o,none⟩),.pointer none])/\l'=l:=by refine AM func123 ntmps123 λE=>?_;refine AO λb6=>?_;exact AW [] _ rfl .refl (Cz rfl (.head _) (As.LSub.of_all (n:=4) [Ba le,Ba mo,.pointer (some ⟨bo,o,none⟩),.pointer none] rfl) (by exact A8)) (.drop .refl) ⟨rfl,rfl⟩
theorem jN(l:List Ab)(bo o:Nat):Fn prog 124 [.pointer (some ⟨bo,o,none⟩)] l λv l'=>v= .agg (toArray [Ba 0,Ba 18446744073709551615,.pointer none,.pointer (some ⟨bo,o,none⟩)])/\l'=l:=by refine AM func124 ntmps124 λE=>?_;refine AO λb2=>?_;exact AW [] _ rfl .refl (Cz rfl (.head _) (As.LSub.of_all (n:=4) [Ba 0,Ba 18446744073709551615,.pointer none,.pointer (some ⟨bo,o,none⟩)] rfl) (by exact A8)) (.drop .refl) ⟨rfl,rfl⟩
instance{l:List Ab}{bo o:Nat}:QF prog 122 [.pointer (some ⟨bo,o,none⟩)] l (.agg (toArray [Ba 0,Ba 4095,.pointer (some ⟨bo,o,none⟩),.pointer none])):=⟨λl _=>jL l bo o⟩
instance{l:List Ab}{bo o:Nat}{le mo:Int}:QF prog 123 [.pointer (some ⟨bo,o,none⟩),Ba le,Ba mo] l (.agg (toArray [Ba le,Ba mo,.pointer (some ⟨bo,o,none⟩),.pointer none])):=⟨λl _=>jM l bo o le mo⟩
instance{l:List Ab}{bo o:Nat}:QF prog 124 [.pointer (some ⟨bo,o,none⟩)] l (.agg (toArray [Ba 0,Ba 18446744073709551615,.pointer none,.pointer (some ⟨bo,o,none⟩)])):=⟨λl _=>jN l bo o⟩
end
class CL(c:MR):Prop where
 op:Kr c.op
 a0:Kr c.a0
 a1:Kr c.a1
 a2:Kr c.a2
 a3:Kr c.a3
 a4:Kr c.a4
 a5:Kr c.a5
def Vw(c:MR):Bool:=if c.a1<=15/\c.a2<=64 then decide (Ar.framesD c.a1 c.a2>0) else false
theorem Zc(c:MR)(hc:CL c)(l:List Ab):Fn prog 82 [li c] l λv l'=>v= .bool (Vw c)/\l'=l:=by
 obtain⟨R,hR⟩: ∃R,Vw c=R:=⟨_,rfl⟩
 rw[hR];unfold Vw at hR;have z1:(toArray (fo c))[1+(1:Int).toNat*1]?=some (Ba c.a1):=rfl;have z2:(toArray (fo c))[1+(2:Int).toNat*1]?=some (Ba c.a2):=rfl;obtain⟨u1,u2⟩:=hc.a1;obtain⟨w1,w2⟩:=hc.a2;refine AM func82 ntmps82 λE=>?_;refine AO λb1=>?_;refine Ch [] 8 _ ?_ (hR:=(λ_ h=>h));refine BM ?_;refine Aj ?_;by_cases h1:c.a1<=15
 ·by_cases h2:c.a2<=64
  ·rw[Ad ⟨h1,h2⟩] at hR;subst hR;refine Aj ?_;refine El ?_;refine Aj ?_;exact qr
  ·rw[Ac Af] at hR;subst hR;refine Aj ?_;exact qr
 ·rw[Ac Af] at hR;subst hR;refine Aj ?_;exact qr
instance{c:MR}[hc:CL c]{l:List Ab}:QF prog 82 [li c] l (.bool (Vw c)):=⟨λl _=>Zc c hc l⟩
abbrev v7(le mo:Int)(bp i:Nat):Value:= .agg (toArray [Ba le,Ba mo,.pointer (some ⟨bp,i,none⟩),.pointer none])
abbrev xf(le mo:Int)(bp i:Nat):Value:= .agg (toArray [Ba le,Ba mo,.pointer none,.pointer (some ⟨bp,i,none⟩)])
theorem Xi(le mo:Int)(bp i:Nat)(cs:Array Value)(ct:TypeId)(fz:Nat×Nat)(v:Int)(l:List Ab)(hm:(bp,Obj.cells cs ct fz)∈l)(hv:cs[i]?=some (iV v)):Fn prog 206 [v7 le mo bp i] l λx l'=>x= .int .u64 (IntKind.u64.wrap v)/\l'=l:=by refine AM func206 ntmps206 λE=>?_;refine AO λb1=>?_;refine Bb (OZ rfl) ?_;refine Aj ?_;exact qr
theorem jO(le mo:Int)(bp i:Nat)(cs:Array Value)(ct:TypeId)(fz:Nat×Nat)(v:Int)(l:List Ab)(hm:(bp,Obj.cells cs ct fz)∈l)(hv:cs[i]?=some (Ba v)):Fn prog 206 [xf le mo bp i] l λx l'=>x=Ba v/\l'=l:=by refine AM func206 ntmps206 λE=>?_;refine AO λb1=>?_;exact qr
theorem Xj(le mo:Int)(bp i:Nat)(cs:List Value)(ct:TypeId)(x:Int)(hx:0<=x/\x<=1000000)(hi:i<cs.length)(l:List Ab):Fn prog 84 [v7 le mo bp i,Ba x] ((bp,.cells (toArray cs) ct (0,0))::l) λv l'=>v= .tuple #[]/\l'=(bp,.cells (toArray (cs.set i (iV x))) ct (0,0))::l:=by refine AM func84 ntmps84 λE=>?_;refine AO λb2=>?_;refine Mu (Dg (cs:=toArray cs) (T:=ct) (off:=i) (l':=(b2,.cells (toArray [Ba le,Ba mo,.pointer (some ⟨bp,i,none⟩),.pointer none]) 184 (0,0))::(bp,.cells ((toArray cs).setIfInBounds i (iV x)) ct (0,0))::l) rfl rfl rfl (by exact DI) (by simpa using hi)) rfl rfl ?_;rintro _ _ ⟨rfl,rfl⟩;refine Aj ?_;exact AW [] _ rfl .refl (by exact A8) (.drop .refl) ⟨rfl,by rw[Bt]⟩
theorem jP(le mo:Int)(bp i:Nat)(cs:List Value)(ct:TypeId)(x:Int)(hi:i<cs.length)(l:List Ab):Fn prog 84 [xf le mo bp i,Ba x] ((bp,.cells (toArray cs) ct (0,0))::l) λv l'=>v= .tuple #[]/\l'=(bp,.cells (toArray (cs.set i (Ba x))) ct (0,0))::l:=by refine AM func84 ntmps84 λE=>?_;refine AO λb2=>?_;refine Mu (Dg (cs:=toArray cs) (T:=ct) (off:=i) (l':=(b2,.cells (toArray [Ba le,Ba mo,.pointer none,.pointer (some ⟨bp,i,none⟩)]) 184 (0,0))::(bp,.cells ((toArray cs).setIfInBounds i (Ba x)) ct (0,0))::l) rfl rfl rfl (by exact DI) (by simpa using hi)) rfl rfl ?_;rintro _ _ ⟨rfl,rfl⟩;refine Aj ?_;exact AW [] _ rfl .refl (by exact A8) (.drop .refl) ⟨rfl,by rw[Bt]⟩
abbrev PD:List Value:=[Ba 0,Ba 0,.pointer none,.pointer none]
abbrev Ta(bo i:Nat):List Value:=[Ba 0,Ba 18446744073709551615,.pointer none,.pointer (some ⟨bo,i,none⟩)]
abbrev CD(bo i:Nat):List Value:=[Ba 0,Ba 4095,.pointer (some ⟨bo,i,none⟩),.pointer none]
abbrev Fp(bo i:Nat)(le mo:Int):List Value:=[Ba le,Ba mo,.pointer (some ⟨bo,i,none⟩),.pointer none]
abbrev Io(gb:Nat)(cs:List Value):Ab:=(gb,.cells (toArray cs) 184 (0,0))
theorem Ei(rows:List (List Value))(hr: ∀r,r∈rows->r.length=4):Instr.fill (λi=>some (i*4,4)) (toArray (List.replicate rows.length PD).flatten) (Eu 0 rows)=some (toArray rows.flatten):=by have h:=PX (zs:=PD) (k:=4) rfl rows [] 0 hr rfl;rw[Ag,Ag] at h;exact h
theorem CP(h:rows.all (λr=>r.length==4)=true): ∀r,r∈rows->r.length=4:=λr hr=>by simpa using AZ.1 h r hr
abbrev Vx(bo:Nat):List (List Value):=[Ta bo 8,Ta bo 9,Ta bo 10,Ta bo 11]
theorem Pu(bo:Nat)(l:List Ab):Fn prog 125 [.pointer (some ⟨bo,0,none⟩)] l λv l'=> ∃gb,(∀c,c∈l->c.1≠gb)/\v= .slice (some ⟨gb,0,none⟩) 4 4/\l'=Io gb (Vx bo).flatten::l:=by refine AM func125 ntmps125 λE=>?_;refine Aj ?_;refine Cn (Ck [20] 0 22) ?_;refine Cs ?_;refine JS (DL (k:=4) (n:=4) (e:=184) (zs:=PD) (cs:=(Vx bo).flatten) (pvs:=Eu 0 (Vx bo)) rfl AX AX rfl (Ei (Vx bo) (CP rfl))) ?_;rintro _ _ ⟨gb,hgb,rfl,rfl⟩;refine Cs ?_;refine Aj ?_;exact CF _ .refl .refl ⟨gb,hgb,rfl,rfl⟩
theorem aR: ∀{rows:List (List Value)},(∀r,r∈rows->r.length=4)->rows.flatten.length=rows.length*4
 |[],_=>rfl
 |r::rs,h=>by rw[Cq,Ai,h r (.head _),aR λx hx=>h x (.tail _ hx),Br];omega
theorem EZ(hn:rows.length=n)(hr: ∀r,r∈rows->r.length=4)(h:n<=100):OwnSl 184 4 (.slice (some ⟨gb,0,none⟩) n n) n rows.flatten [Io gb rows.flatten]:=by have hl:=aR hr;rw[hn] at hl;exact⟨hl,.inr ⟨gb,n,[],rfl,by rw[Bf],A7 _,by unfold maxLen;omega,by rw[Bf];exact hl⟩⟩
theorem Ip(a b c:Ab){l:List Ab}:Keep (a::b::c::l) ([a]++l):=A4 [b,c]
theorem pK(a b c:Ab){c2 l:List Ab}:Keep (c2++([a]++(b::c::l))) (c2++l):=A4 [a,b,c]
theorem jQ(bo:Nat): ∀u,u∈(Vx bo).flatten->u.oneCell'=true:=λu hu=>by have h:(Vx bo).flatten.all (λu=>u.oneCell')=true:=rfl;exact AZ.1 h u hu
def y5(bo bc:Nat)(l:List Ab)(R:Option (List FoT)):Value->List Ab->Prop:=λv l'=>match R with
 |none=>v= .tuple #[.slice none 0 0,.bool false]/\l'=l
 |some L=> ∃sl cs,v= .tuple #[sl,.bool true]/\OwnSl 184 4 sl L.length (L.flatMap (S9 bo bc)) cs/\l'=cs++l
theorem Ut(op:Int)(bo bc:Nat)(l:List Ab):Fn prog 81 [Ba op,.pointer (some ⟨bo,0,none⟩),.pointer (some ⟨bc,0,none⟩)] l (y5 bo bc l (Pt op)):=by
 obtain⟨R,hR⟩: ∃R,Pt op=R:=⟨_,rfl⟩
 rw[hR];unfold Pt at hR;refine AM func81 ntmps81 λE=>?_;refine Aj ?_;refine Ql (α:=Nat×Nat) (λz=>[(0,Ba op),(1,.pointer (some ⟨bo,0,none⟩)),(2,.pointer (some ⟨bc,0,none⟩)),(6,.slice none 0 0),(7,.bool false),(8,pV z.1),(9,pV z.2)]) (λz=>[Io z.1 (CD bo 1),Io z.2 (CD bo 2)]++l) (λ_=>True) ?_ ?_
 ·refine KQ [(0,true),(1,true),(2,true),(3,true),(4,true),(5,true),(6,true),(7,true),(8,false),(9,false),(10,false),(11,false)] [[],[0],[0,1],[0,1,2],[],[4],[4,5],[0,1,2,3,4,5,6],[],[],[0,1,2,3,4,5,6,7,8,9],[0,1,2,3,4,5,6,7,8,9,10]] 8 9 ([]) Bs Bs Gt SY ?_;refine BM ?_;refine TK ?_;refine BM ?_;refine TK ?_;refine BM ?_;refine M3 [(9,false),(8,false),(10,false),(11,false)] Gt (List.Perm.swap _ _ _) Bs ?_ ?_;all_goals
   refine CM e_alloc rfl rfl rfl ?_ ?_
   ·rintro _ _ ⟨_,_,_,rfl⟩ c hc;cases hc
   rintro _ _ ⟨u,_,rfl,rfl⟩;refine CM e_alloc rfl rfl rfl ?_ ?_
   ·rintro _ _ ⟨_,_,_,rfl⟩ c hc;cases hc
   rintro _ _ ⟨v,_,rfl,rfl⟩;refine BM ?_
   first
    |exact Ek (u,v) trivial ⟨rfl,rfl,rfl,rfl,rfl,rfl,rfl,trivial⟩ (.of_perm (.swap _ _ _))
    |exact Ek (v,u) trivial ⟨rfl,rfl,rfl,rfl,rfl,rfl,rfl,trivial⟩ .refl
 rintro⟨b8,b9⟩-;simp only[Ae,Ag];refine Aj ?_;by_cases e1:op=1
 ·rw[Ad Af] at hR;subst hR;refine Aj ?_;refine Cn (Ck [19] 0 22) ?_;refine Cs ?_;refine JS (DL (k:=4) (n:=6) (e:=184) (zs:=PD) (cs:=([CD bo 1,Fp bo 4 0 15,Fp bo 5 0 64,CD bo 2,Fp bo 6 0 15,Fp bc 0 1 4]:List (List Value)).flatten) (pvs:=Eu 0 [CD bo 1,Fp bo 4 0 15,Fp bo 5 0 64,CD bo 2,Fp bo 6 0 15,Fp bc 0 1 4]) rfl AX AX rfl (Ei [CD bo 1,Fp bo 4 0 15,Fp bo 5 0 64,CD bo 2,Fp bo 6 0 15,Fp bc 0 1 4] (CP rfl))) ?_;rintro _ _ ⟨gb,hgb,rfl,rfl⟩;refine Cs ?_;refine Aj ?_;exact AW (vs:=[.slice (some ⟨gb,0,none⟩) 6 6,.bool true]) (l':=[Io gb ([CD bo 1,Fp bo 4 0 15,Fp bo 5 0 64,CD bo 2,Fp bo 6 0 15,Fp bc 0 1 4]:List (List Value)).flatten]++l) [] _ rfl .refl (by exact A8) (.trans (.of_perm (.refl _)) (Ip _ _ _)) ⟨_,[Io gb ([CD bo 1,Fp bo 4 0 15,Fp bo 5 0 64,CD bo 2,Fp bo 6 0 15,Fp bc 0 1 4]:List (List Value)).flatten],rfl,EZ (rows:=[CD bo 1,Fp bo 4 0 15,Fp bo 5 0 64,CD bo 2,Fp bo 6 0 15,Fp bc 0 1 4]) rfl (CP rfl) AX,rfl⟩
 rw[Ac Af] at hR;by_cases e2:op=2
 ·rw[Ad Af] at hR;subst hR;refine Aj ?_;refine Cn (Ck [7] 0 10) ?_;refine Cs ?_;refine JS (DL (k:=4) (n:=3) (e:=184) (zs:=PD) (cs:=([CD bo 1,CD bo 2,Fp bo 4 0 7]:List (List Value)).flatten) (pvs:=Eu 0 [CD bo 1,CD bo 2,Fp bo 4 0 7]) rfl AX AX rfl (Ei [CD bo 1,CD bo 2,Fp bo 4 0 7] (CP rfl))) ?_;rintro _ _ ⟨gb,hgb,rfl,rfl⟩;refine Cs ?_;refine Aj ?_;exact AW (vs:=[.slice (some ⟨gb,0,none⟩) 3 3,.bool true]) (l':=[Io gb ([CD bo 1,CD bo 2,Fp bo 4 0 7]:List (List Value)).flatten]++l) [] _ rfl .refl (by exact A8) (.trans (.of_perm (.refl _)) (Ip _ _ _)) ⟨_,[Io gb ([CD bo 1,CD bo 2,Fp bo 4 0 7]:List (List Value)).flatten],rfl,EZ (rows:=[CD bo 1,CD bo 2,Fp bo 4 0 7]) rfl (CP rfl) AX,rfl⟩
 rw[Ac Af] at hR;by_cases e3:op=3
 ·rw[Ad Af] at hR;subst hR;refine Aj ?_;refine Cn (Ck [11] 0 14) ?_;refine Cs ?_;refine JS (DL (k:=4) (n:=4) (e:=184) (zs:=PD) (cs:=([CD bo 1,CD bo 2,Fp bo 4 0 7,Ta bo 7]:List (List Value)).flatten) (pvs:=Eu 0 [CD bo 1,CD bo 2,Fp bo 4 0 7,Ta bo 7]) rfl AX AX rfl (Ei [CD bo 1,CD bo 2,Fp bo 4 0 7,Ta bo 7] (CP rfl))) ?_;rintro _ _ ⟨gb,hgb,rfl,rfl⟩;refine Cs ?_;refine Aj ?_;exact AW (vs:=[.slice (some ⟨gb,0,none⟩) 4 4,.bool true]) (l':=[Io gb ([CD bo 1,CD bo 2,Fp bo 4 0 7,Ta bo 7]:List (List Value)).flatten]++l) [] _ rfl .refl (by exact A8) (.trans (.of_perm (.refl _)) (Ip _ _ _)) ⟨_,[Io gb ([CD bo 1,CD bo 2,Fp bo 4 0 7,Ta bo 7]:List (List Value)).flatten],rfl,EZ (rows:=[CD bo 1,CD bo 2,Fp bo 4 0 7,Ta bo 7]) rfl (CP rfl) AX,rfl⟩
 rw[Ac Af] at hR;by_cases e4:op=4
 ·rw[Ad Af] at hR;subst hR;refine Aj ?_;refine AP (DL (k:=4) (n:=2) (e:=184) (zs:=PD) (cs:=([CD bo 1,CD bo 2]:List (List Value)).flatten) (pvs:=Eu 0 [CD bo 1,CD bo 2]) rfl AX AX rfl (Ei [CD bo 1,CD bo 2] (CP rfl))) ?_;rintro _ _ ⟨gb,hgb,rfl,rfl⟩;refine Aj ?_;exact AW (vs:=[.slice (some ⟨gb,0,none⟩) 2 2,.bool true]) (l':=[Io gb ([CD bo 1,CD bo 2]:List (List Value)).flatten]++l) [] _ rfl .refl (by exact A8) (.trans (.of_perm (.refl _)) (Ip _ _ _)) ⟨_,[Io gb ([CD bo 1,CD bo 2]:List (List Value)).flatten],rfl,EZ (rows:=[CD bo 1,CD bo 2]) rfl (CP rfl) AX,rfl⟩
 by_cases e5:op=5
 ·rw[Ad Af] at hR;subst hR;refine Aj ?_;refine AP (DL (k:=4) (n:=2) (e:=184) (zs:=PD) (cs:=([CD bo 1,CD bo 2]:List (List Value)).flatten) (pvs:=Eu 0 [CD bo 1,CD bo 2]) rfl AX AX rfl (Ei [CD bo 1,CD bo 2] (CP rfl))) ?_;rintro _ _ ⟨gb,hgb,rfl,rfl⟩;refine Aj ?_;exact AW (vs:=[.slice (some ⟨gb,0,none⟩) 2 2,.bool true]) (l':=[Io gb ([CD bo 1,CD bo 2]:List (List Value)).flatten]++l) [] _ rfl .refl (by exact A8) (.trans (.of_perm (.refl _)) (Ip _ _ _)) ⟨_,[Io gb ([CD bo 1,CD bo 2]:List (List Value)).flatten],rfl,EZ (rows:=[CD bo 1,CD bo 2]) rfl (CP rfl) AX,rfl⟩
 by_cases e12:op=12
 ·rw[Ad Af] at hR;subst hR;refine Aj ?_;refine AP (DL (k:=4) (n:=2) (e:=184) (zs:=PD) (cs:=([CD bo 1,CD bo 2]:List (List Value)).flatten) (pvs:=Eu 0 [CD bo 1,CD bo 2]) rfl AX AX rfl (Ei [CD bo 1,CD bo 2] (CP rfl))) ?_;rintro _ _ ⟨gb,hgb,rfl,rfl⟩;refine Aj ?_;exact AW (vs:=[.slice (some ⟨gb,0,none⟩) 2 2,.bool true]) (l':=[Io gb ([CD bo 1,CD bo 2]:List (List Value)).flatten]++l) [] _ rfl .refl (by exact A8) (.trans (.of_perm (.refl _)) (Ip _ _ _)) ⟨_,[Io gb ([CD bo 1,CD bo 2]:List (List Value)).flatten],rfl,EZ (rows:=[CD bo 1,CD bo 2]) rfl (CP rfl) AX,rfl⟩
 by_cases e13:op=13
 ·rw[Ad Af] at hR;subst hR;refine Aj ?_;refine AP (DL (k:=4) (n:=2) (e:=184) (zs:=PD) (cs:=([CD bo 1,CD bo 2]:List (List Value)).flatten) (pvs:=Eu 0 [CD bo 1,CD bo 2]) rfl AX AX rfl (Ei [CD bo 1,CD bo 2] (CP rfl))) ?_;rintro _ _ ⟨gb,hgb,rfl,rfl⟩;refine Aj ?_;exact AW (vs:=[.slice (some ⟨gb,0,none⟩) 2 2,.bool true]) (l':=[Io gb ([CD bo 1,CD bo 2]:List (List Value)).flatten]++l) [] _ rfl .refl (by exact A8) (.trans (.of_perm (.refl _)) (Ip _ _ _)) ⟨_,[Io gb ([CD bo 1,CD bo 2]:List (List Value)).flatten],rfl,EZ (rows:=[CD bo 1,CD bo 2]) rfl (CP rfl) AX,rfl⟩
 rw[Ac Af] at hR;by_cases e6:op=6
 ·rw[Ad Af] at hR;subst hR;refine Aj ?_;refine AP (DL (k:=4) (n:=1) (e:=184) (zs:=PD) (cs:=([CD bo 1]:List (List Value)).flatten) (pvs:=Eu 0 [CD bo 1]) rfl AX AX rfl (Ei [CD bo 1] (CP rfl))) ?_;rintro _ _ ⟨gb,hgb,rfl,rfl⟩;refine Aj ?_;exact AW (vs:=[.slice (some ⟨gb,0,none⟩) 1 1,.bool true]) (l':=[Io gb ([CD bo 1]:List (List Value)).flatten]++l) [] _ rfl .refl (by exact A8) (.trans (.of_perm (.refl _)) (Ip _ _ _)) ⟨_,[Io gb ([CD bo 1]:List (List Value)).flatten],rfl,EZ (rows:=[CD bo 1]) rfl (CP rfl) AX,rfl⟩
 by_cases e9:op=9
 ·rw[Ad Af] at hR;subst hR;refine Aj ?_;refine AP (DL (k:=4) (n:=1) (e:=184) (zs:=PD) (cs:=([CD bo 1]:List (List Value)).flatten) (pvs:=Eu 0 [CD bo 1]) rfl AX AX rfl (Ei [CD bo 1] (CP rfl))) ?_;rintro _ _ ⟨gb,hgb,rfl,rfl⟩;refine Aj ?_;exact AW (vs:=[.slice (some ⟨gb,0,none⟩) 1 1,.bool true]) (l':=[Io gb ([CD bo 1]:List (List Value)).flatten]++l) [] _ rfl .refl (by exact A8) (.trans (.of_perm (.refl _)) (Ip _ _ _)) ⟨_,[Io gb ([CD bo 1]:List (List Value)).flatten],rfl,EZ (rows:=[CD bo 1]) rfl (CP rfl) AX,rfl⟩
 by_cases e11:op=11
 ·rw[Ad Af] at hR;subst hR;refine Aj ?_;refine AP (DL (k:=4) (n:=1) (e:=184) (zs:=PD) (cs:=([CD bo 1]:List (List Value)).flatten) (pvs:=Eu 0 [CD bo 1]) rfl AX AX rfl (Ei [CD bo 1] (CP rfl))) ?_;rintro _ _ ⟨gb,hgb,rfl,rfl⟩;refine Aj ?_;exact AW (vs:=[.slice (some ⟨gb,0,none⟩) 1 1,.bool true]) (l':=[Io gb ([CD bo 1]:List (List Value)).flatten]++l) [] _ rfl .refl (by exact A8) (.trans (.of_perm (.refl _)) (Ip _ _ _)) ⟨_,[Io gb ([CD bo 1]:List (List Value)).flatten],rfl,EZ (rows:=[CD bo 1]) rfl (CP rfl) AX,rfl⟩
 by_cases e21:op=21
 ·rw[Ad Af] at hR;subst hR;refine Aj ?_;refine AP (DL (k:=4) (n:=1) (e:=184) (zs:=PD) (cs:=([CD bo 1]:List (List Value)).flatten) (pvs:=Eu 0 [CD bo 1]) rfl AX AX rfl (Ei [CD bo 1] (CP rfl))) ?_;rintro _ _ ⟨gb,hgb,rfl,rfl⟩;refine Aj ?_;exact AW (vs:=[.slice (some ⟨gb,0,none⟩) 1 1,.bool true]) (l':=[Io gb ([CD bo 1]:List (List Value)).flatten]++l) [] _ rfl .refl (by exact A8) (.trans (.of_perm (.refl _)) (Ip _ _ _)) ⟨_,[Io gb ([CD bo 1]:List (List Value)).flatten],rfl,EZ (rows:=[CD bo 1]) rfl (CP rfl) AX,rfl⟩
 by_cases e22:op=22
 ·rw[Ad Af] at hR;subst hR;refine Aj ?_;refine AP (DL (k:=4) (n:=1) (e:=184) (zs:=PD) (cs:=([CD bo 1]:List (List Value)).flatten) (pvs:=Eu 0 [CD bo 1]) rfl AX AX rfl (Ei [CD bo 1] (CP rfl))) ?_;rintro _ _ ⟨gb,hgb,rfl,rfl⟩;refine Aj ?_;exact AW (vs:=[.slice (some ⟨gb,0,none⟩) 1 1,.bool true]) (l':=[Io gb ([CD bo 1]:List (List Value)).flatten]++l) [] _ rfl .refl (by exact A8) (.trans (.of_perm (.refl _)) (Ip _ _ _)) ⟨_,[Io gb ([CD bo 1]:List (List Value)).flatten],rfl,EZ (rows:=[CD bo 1]) rfl (CP rfl) AX,rfl⟩
 rw[Ac Af] at hR;by_cases e7:op=7
 ·rw[Ad Af] at hR;subst hR;refine Aj ?_;refine Cn (Ck [6] 0 9) ?_;refine Cs ?_;refine JS (DL (k:=4) (n:=2) (e:=184) (zs:=PD) (cs:=([CD bo 1,Fp bo 4 1 64]:List (List Value)).flatten) (pvs:=Eu 0 [CD bo 1,Fp bo 4 1 64]) rfl AX AX rfl (Ei [CD bo 1,Fp bo 4 1 64] (CP rfl))) ?_;rintro _ _ ⟨gb,hgb,rfl,rfl⟩;refine Cs ?_;refine Aj ?_;exact AW (vs:=[.slice (some ⟨gb,0,none⟩) 2 2,.bool true]) (l':=[Io gb ([CD bo 1,Fp bo 4 1 64]:List (List Value)).flatten]++l) [] _ rfl .refl (by exact A8) (.trans (.of_perm (.refl _)) (Ip _ _ _)) ⟨_,[Io gb ([CD bo 1,Fp bo 4 1 64]:List (List Value)).flatten],rfl,EZ (rows:=[CD bo 1,Fp bo 4 1 64]) rfl (CP rfl) AX,rfl⟩
 rw[Ac Af] at hR;by_cases e8:op=8
 ·rw[Ad Af] at hR;subst hR;refine Aj ?_;refine Cn (Ck [6] 0 9) ?_;refine Cs ?_;refine JS (DL (k:=4) (n:=3) (e:=184) (zs:=PD) (cs:=([CD bo 1,CD bo 2,Ta bo 7]:List (List Value)).flatten) (pvs:=Eu 0 [CD bo 1,CD bo 2,Ta bo 7]) rfl AX AX rfl (Ei [CD bo 1,CD bo 2,Ta bo 7] (CP rfl))) ?_;rintro _ _ ⟨gb,hgb,rfl,rfl⟩;refine Cs ?_;refine Aj ?_;exact AW (vs:=[.slice (some ⟨gb,0,none⟩) 3 3,.bool true]) (l':=[Io gb ([CD bo 1,CD bo 2,Ta bo 7]:List (List Value)).flatten]++l) [] _ rfl .refl (by exact A8) (.trans (.of_perm (.refl _)) (Ip _ _ _)) ⟨_,[Io gb ([CD bo 1,CD bo 2,Ta bo 7]:List (List Value)).flatten],rfl,EZ (rows:=[CD bo 1,CD bo 2,Ta bo 7]) rfl (CP rfl) AX,rfl⟩
 rw[Ac Af] at hR;by_cases e10:op=10
 ·rw[Ad Af] at hR;subst hR;refine Aj ?_;refine Cn (Ck [11] 0 14) ?_;refine Cs ?_;refine JS (DL (k:=4) (n:=4) (e:=184) (zs:=PD) (cs:=([CD bo 1,CD bo 2,Ta bo 7,Fp bo 4 0 7]:List (List Value)).flatten) (pvs:=Eu 0 [CD bo 1,CD bo 2,Ta bo 7,Fp bo 4 0 7]) rfl AX AX rfl (Ei [CD bo 1,CD bo 2,Ta bo 7,Fp bo 4 0 7] (CP rfl))) ?_;rintro _ _ ⟨gb,hgb,rfl,rfl⟩;refine Cs ?_;refine Aj ?_;exact AW (vs:=[.slice (some ⟨gb,0,none⟩) 4 4,.bool true]) (l':=[Io gb ([CD bo 1,CD bo 2,Ta bo 7,Fp bo 4 0 7]:List (List Value)).flatten]++l) [] _ rfl .refl (by exact A8) (.trans (.of_perm (.refl _)) (Ip _ _ _)) ⟨_,[Io gb ([CD bo 1,CD bo 2,Ta bo 7,Fp bo 4 0 7]:List (List Value)).flatten],rfl,EZ (rows:=[CD bo 1,CD bo 2,Ta bo 7,Fp bo 4 0 7]) rfl (CP rfl) AX,rfl⟩
 rw[Ac Af] at hR;by_cases e14:op=14
 ·rw[Ad Af] at hR;subst hR;refine Aj ?_;refine KQ [(0,true),(1,true),(2,true),(3,true),(4,true),(5,true),(7,true),(6,false),(8,false),(9,false),(10,true),(11,true)] [[],[],[1],[1,2],[1,2,3],[1,2,3,4],[0,1,2,3,4,5],[],[1,2,3,4,5,7],[0,1,2,3,4,5,6,7,8],[0,1,2,3,4,5,6,7,8,9],[0,1,2,3,4,5,6,7,8,9,10]] 6 8 ([Io b8 (CD bo 1)]) Bs Bs Gt ((To BS)) ?_;refine BM ?_;refine TK ?_;refine BM ?_;refine M3 [(8,false),(6,false),(9,false),(10,true),(11,true)] Gt (List.Perm.swap _ _ _) Bs ?_ ?_
  case' refine_1=>
   refine CM (DL (k:=4) (n:=2) (e:=184) (zs:=PD) (cs:=([CD bo 1,Fp bo 4 0 4096]:List (List Value)).flatten) (pvs:=Eu 0 ([CD bo 1,Fp bo 4 0 4096]:List (List Value))) rfl AX AX rfl (Ei ([CD bo 1,Fp bo 4 0 4096]:List (List Value)) (CP rfl))) rfl rfl rfl ?_ ?_
   ·rintro _ _ ⟨_,_,_,rfl⟩ c hc;exact .tail _ (To BS c hc)
   rintro _ _ ⟨g1,_,rfl,rfl⟩;refine CM (Az rfl rfl (Pu bo _)) rfl rfl rfl ?_ ?_
   ·rintro _ _ ⟨_,_,_,rfl⟩ c hc;exact .tail _ (To BS c hc)
   rintro _ _ ⟨g2,_,rfl,rfl⟩
  case' refine_2=>
   refine CM (Az rfl rfl (Pu bo _)) rfl rfl rfl ?_ ?_
   ·rintro _ _ ⟨_,_,_,rfl⟩ c hc;exact .tail _ (To BS c hc)
   rintro _ _ ⟨g2,_,rfl,rfl⟩;refine CM (DL (k:=4) (n:=2) (e:=184) (zs:=PD) (cs:=([CD bo 1,Fp bo 4 0 4096]:List (List Value)).flatten) (pvs:=Eu 0 ([CD bo 1,Fp bo 4 0 4096]:List (List Value))) rfl AX AX rfl (Ei ([CD bo 1,Fp bo 4 0 4096]:List (List Value)) (CP rfl))) rfl rfl rfl ?_ ?_
   ·rintro _ _ ⟨_,_,_,rfl⟩ c hc;exact .tail _ (To BS c hc)
   rintro _ _ ⟨g1,_,rfl,rfl⟩
  all_goals
   refine CM (OpE.re (K':=λv l'=> ∃c2,OwnSl 184 4 v (2+4) (([CD bo 1,Fp bo 4 0 4096]:List (List Value)).flatten++(Vx bo).flatten) c2/\l'=c2++([Io g2 (Vx bo).flatten]++(Io b8 (CD bo 1)::Io b9 (CD bo 2)::l))) (by first|exact Keep.of_perm (.swap _ _ _)|exact .refl) (PY (k:=4) (n:=2) (m:=4) (xs:=([CD bo 1,Fp bo 4 0 4096]:List (List Value)).flatten) (ys:=(Vx bo).flatten) (zs:=PD) (cs:=[Io g1 ([CD bo 1,Fp bo 4 0 4096]:List (List Value)).flatten]) (cw:=[Io g2 (Vx bo).flatten]) (F:=Io b8 (CD bo 1)::Io b9 (CD bo 2)::l) rfl rfl rfl (EZ (rows:=([CD bo 1,Fp bo 4 0 4096]:List (List Value))) rfl (CP rfl) AX) (EZ (rows:=Vx bo) rfl (CP rfl) AX) (jQ bo) Af Af AX) (λv l' ⟨c2,h1,h2⟩=>⟨l',.refl,c2,h1,h2⟩)) rfl rfl rfl ?_ ?_
   ·rintro v l' ⟨c2,_,rfl⟩ c hc;exact Aa _ (.tail _ (To (.head _) c hc))
   rintro v _ ⟨c2,ho3,rfl⟩;refine BM ?_;refine Aj ?_;exact CF (vs:=[v,.bool true]) (l':=c2++l) _ .refl (pK _ _ _) ⟨v,c2,rfl,ho3,rfl⟩
 by_cases e15:op=15
 ·rw[Ad Af] at hR;subst hR;refine Aj ?_;refine KQ [(0,true),(1,true),(2,true),(3,true),(4,true),(5,true),(7,true),(6,false),(8,false),(9,false),(10,true),(11,true)] [[],[],[1],[1,2],[1,2,3],[1,2,3,4],[0,1,2,3,4,5],[],[1,2,3,4,5,7],[0,1,2,3,4,5,6,7,8],[0,1,2,3,4,5,6,7,8,9],[0,1,2,3,4,5,6,7,8,9,10]] 6 8 ([Io b8 (CD bo 1)]) Bs Bs Gt ((To BS)) ?_;refine BM ?_;refine TK ?_;refine BM ?_;refine M3 [(8,false),(6,false),(9,false),(10,true),(11,true)] Gt (List.Perm.swap _ _ _) Bs ?_ ?_
  case' refine_1=>
   refine CM (DL (k:=4) (n:=2) (e:=184) (zs:=PD) (cs:=([CD bo 1,Fp bo 4 0 4096]:List (List Value)).flatten) (pvs:=Eu 0 ([CD bo 1,Fp bo 4 0 4096]:List (List Value))) rfl AX AX rfl (Ei ([CD bo 1,Fp bo 4 0 4096]:List (List Value)) (CP rfl))) rfl rfl rfl ?_ ?_
   ·rintro _ _ ⟨_,_,_,rfl⟩ c hc;exact .tail _ (To BS c hc)
   rintro _ _ ⟨g1,_,rfl,rfl⟩;refine CM (Az rfl rfl (Pu bo _)) rfl rfl rfl ?_ ?_
   ·rintro _ _ ⟨_,_,_,rfl⟩ c hc;exact .tail _ (To BS c hc)
   rintro _ _ ⟨g2,_,rfl,rfl⟩
  case' refine_2=>
   refine CM (Az rfl rfl (Pu bo _)) rfl rfl rfl ?_ ?_
   ·rintro _ _ ⟨_,_,_,rfl⟩ c hc;exact .tail _ (To BS c hc)
   rintro _ _ ⟨g2,_,rfl,rfl⟩;refine CM (DL (k:=4) (n:=2) (e:=184) (zs:=PD) (cs:=([CD bo 1,Fp bo 4 0 4096]:List (List Value)).flatten) (pvs:=Eu 0 ([CD bo 1,Fp bo 4 0 4096]:List (List Value))) rfl AX AX rfl (Ei ([CD bo 1,Fp bo 4 0 4096]:List (List Value)) (CP rfl))) rfl rfl rfl ?_ ?_
   ·rintro _ _ ⟨_,_,_,rfl⟩ c hc;exact .tail _ (To BS c hc)
   rintro _ _ ⟨g1,_,rfl,rfl⟩
  all_goals
   refine CM (OpE.re (K':=λv l'=> ∃c2,OwnSl 184 4 v (2+4) (([CD bo 1,Fp bo 4 0 4096]:List (List Value)).flatten++(Vx bo).flatten) c2/\l'=c2++([Io g2 (Vx bo).flatten]++(Io b8 (CD bo 1)::Io b9 (CD bo 2)::l))) (by first|exact Keep.of_perm (.swap _ _ _)|exact .refl) (PY (k:=4) (n:=2) (m:=4) (xs:=([CD bo 1,Fp bo 4 0 4096]:List (List Value)).flatten) (ys:=(Vx bo).flatten) (zs:=PD) (cs:=[Io g1 ([CD bo 1,Fp bo 4 0 4096]:List (List Value)).flatten]) (cw:=[Io g2 (Vx bo).flatten]) (F:=Io b8 (CD bo 1)::Io b9 (CD bo 2)::l) rfl rfl rfl (EZ (rows:=([CD bo 1,Fp bo 4 0 4096]:List (List Value))) rfl (CP rfl) AX) (EZ (rows:=Vx bo) rfl (CP rfl) AX) (jQ bo) Af Af AX) (λv l' ⟨c2,h1,h2⟩=>⟨l',.refl,c2,h1,h2⟩)) rfl rfl rfl ?_ ?_
   ·rintro v l' ⟨c2,_,rfl⟩ c hc;exact Aa _ (.tail _ (To (.head _) c hc))
   rintro v _ ⟨c2,ho3,rfl⟩;refine BM ?_;refine Aj ?_;exact CF (vs:=[v,.bool true]) (l':=c2++l) _ .refl (pK _ _ _) ⟨v,c2,rfl,ho3,rfl⟩
 rw[Ac Af] at hR;by_cases e16:op=16
 ·rw[Ad Af] at hR;subst hR;refine Aj ?_;refine Cn (Ck [6] 0 9) ?_;refine Cs ?_;refine JS (DL (k:=4) (n:=2) (e:=184) (zs:=PD) (cs:=([CD bo 1,Fp bo 4 0 4096]:List (List Value)).flatten) (pvs:=Eu 0 [CD bo 1,Fp bo 4 0 4096]) rfl AX AX rfl (Ei [CD bo 1,Fp bo 4 0 4096] (CP rfl))) ?_;rintro _ _ ⟨gb,hgb,rfl,rfl⟩;refine Cs ?_;refine Aj ?_;exact AW (vs:=[.slice (some ⟨gb,0,none⟩) 2 2,.bool true]) (l':=[Io gb ([CD bo 1,Fp bo 4 0 4096]:List (List Value)).flatten]++l) [] _ rfl .refl (by exact A8) (.trans (.of_perm (.refl _)) (Ip _ _ _)) ⟨_,[Io gb ([CD bo 1,Fp bo 4 0 4096]:List (List Value)).flatten],rfl,EZ (rows:=[CD bo 1,Fp bo 4 0 4096]) rfl (CP rfl) AX,rfl⟩
 rw[Ac Af] at hR;by_cases e17:op=17
 ·rw[Ad Af] at hR;subst hR;refine Aj ?_;refine AP (Az rfl rfl (Pu bo _)) ?_;rintro _ _ ⟨gb,hgb,rfl,rfl⟩;refine Aj ?_;exact AW (vs:=[.slice (some ⟨gb,0,none⟩) 4 4,.bool true]) (l':=[Io gb (Vx bo).flatten]++l) [] _ rfl .refl (by exact A8) (Ip _ _ _) ⟨_,[Io gb (Vx bo).flatten],rfl,EZ (rows:=Vx bo) rfl (CP rfl) AX,rfl⟩
 rw[Ac Af] at hR;by_cases e18:op=18
 ·rw[Ad Af] at hR;subst hR;refine Aj ?_;exact CF (vs:=[.slice none 0 0,.bool true]) _ .refl (.drop (.drop .refl)) ⟨_,[],rfl,OwnSl.nil _ _,rfl⟩
 rw[Ac Af] at hR;by_cases e19:op=19
 ·rw[Ad Af] at hR;subst hR;refine Aj ?_;refine Cn (Ck [7] 0 10) ?_;refine Cs ?_;refine JS (DL (k:=4) (n:=3) (e:=184) (zs:=PD) (cs:=([CD bo 1,Fp bo 4 0 2,CD bo 2]:List (List Value)).flatten) (pvs:=Eu 0 [CD bo 1,Fp bo 4 0 2,CD bo 2]) rfl AX AX rfl (Ei [CD bo 1,Fp bo 4 0 2,CD bo 2] (CP rfl))) ?_;rintro _ _ ⟨gb,hgb,rfl,rfl⟩;refine Cs ?_;refine Aj ?_;exact AW (vs:=[.slice (some ⟨gb,0,none⟩) 3 3,.bool true]) (l':=[Io gb ([CD bo 1,Fp bo 4 0 2,CD bo 2]:List (List Value)).flatten]++l) [] _ rfl .refl (by exact A8) (.trans (.of_perm (.refl _)) (Ip _ _ _)) ⟨_,[Io gb ([CD bo 1,Fp bo 4 0 2,CD bo 2]:List (List Value)).flatten],rfl,EZ (rows:=[CD bo 1,Fp bo 4 0 2,CD bo 2]) rfl (CP rfl) AX,rfl⟩
 rw[Ac Af] at hR;by_cases e20:op=20
 ·rw[Ad Af] at hR;subst hR;refine Aj ?_;refine Cn (Ck [6] 0 9) ?_;refine Cs ?_;refine JS (DL (k:=4) (n:=2) (e:=184) (zs:=PD) (cs:=([CD bo 1,Fp bo 4 0 2]:List (List Value)).flatten) (pvs:=Eu 0 [CD bo 1,Fp bo 4 0 2]) rfl AX AX rfl (Ei [CD bo 1,Fp bo 4 0 2] (CP rfl))) ?_;rintro _ _ ⟨gb,hgb,rfl,rfl⟩;refine Cs ?_;refine Aj ?_;exact AW (vs:=[.slice (some ⟨gb,0,none⟩) 2 2,.bool true]) (l':=[Io gb ([CD bo 1,Fp bo 4 0 2]:List (List Value)).flatten]++l) [] _ rfl .refl (by exact A8) (.trans (.of_perm (.refl _)) (Ip _ _ _)) ⟨_,[Io gb ([CD bo 1,Fp bo 4 0 2]:List (List Value)).flatten],rfl,EZ (rows:=[CD bo 1,Fp bo 4 0 2]) rfl (CP rfl) AX,rfl⟩
 rw[Ac Af] at hR;by_cases e23:op=23
 ·rw[Ad Af] at hR;subst hR;refine Aj ?_;refine Cn (Ck [6] 0 9) ?_;refine Cs ?_;refine JS (DL (k:=4) (n:=2) (e:=184) (zs:=PD) (cs:=([CD bo 1,Fp bo 4 0 7]:List (List Value)).flatten) (pvs:=Eu 0 [CD bo 1,Fp bo 4 0 7]) rfl AX AX rfl (Ei [CD bo 1,Fp bo 4 0 7] (CP rfl))) ?_;rintro _ _ ⟨gb,hgb,rfl,rfl⟩;refine Cs ?_;refine Aj ?_;exact AW (vs:=[.slice (some ⟨gb,0,none⟩) 2 2,.bool true]) (l':=[Io gb ([CD bo 1,Fp bo 4 0 7]:List (List Value)).flatten]++l) [] _ rfl .refl (by exact A8) (.trans (.of_perm (.refl _)) (Ip _ _ _)) ⟨_,[Io gb ([CD bo 1,Fp bo 4 0 7]:List (List Value)).flatten],rfl,EZ (rows:=[CD bo 1,Fp bo 4 0 7]) rfl (CP rfl) AX,rfl⟩
 rw[Ac Af] at hR;subst hR;refine Aj ?_;exact CF _ .refl (.drop (.drop .refl)) ⟨rfl,rfl⟩
def Gw(c:MR):List Int:=[c.a0,c.a1,c.a2,c.a3,c.a4,c.a5]
def Xk(c:MR)(gb n m:Nat):List (Int×Value):=(List.range m).map λi:Nat=>((Gw c).getD i 0,if i<n then .pointer (some ⟨gb,i*4,none⟩) else .pointer none)
theorem Xl(c:MR)(gb n:Nat)(h:i<=m):(Xk c gb n m).take i=Xk c gb n i:=by unfold Xk;rw[<-Gx,Gr,Ev h]
theorem SK(c:MR)(gb n m:Nat):Xk c gb n (m+1)=Xk c gb n m++[((Gw c).getD m 0,if m<n then .pointer (some ⟨gb,m*4,none⟩) else .pointer none)]:=by unfold Xk;rw[Cu,Aq];rfl
theorem aS(c:MR)(gb n:Nat)(h:i<m):Xk c gb n i++[((Gw c).getD i 0,if i<n then .pointer (some ⟨gb,i*4,none⟩) else .pointer none)]<+:Xk c gb n m:=by rw[<-SK,<-Xl c gb n (show i+1<=m by omega)];exact BE _ _
abbrev y6(x:Int×Value):List Value:=[Ba x.1,x.2]
abbrev r4(B:Nat)(c:MR):Ab:=(B,.cells (toArray (fo c)) 37 (0,0))
abbrev xg(B:Nat)(v:Value):Ab:=(B,.cells (toArray [v]) 173 (0,0))
theorem dU(c:MR)(v:Value)(hv:v.oneCell'=true)(l:List Ab):Fn prog 83 [li c,v] l λv' l'=> ∃B1 B2,v'= .func (.func 126) #[] #[pV B1,pV B2]/\l'=xg B2 v::r4 B1 c::l:=by refine AM func83 ntmps83 λE=>?_;refine AO λb1=>?_;refine AP (Eb rfl hv) ?_;rintro _ _ ⟨b2,_,rfl,rfl⟩;refine Aj ?_;exact A9 .refl ⟨_,_,rfl,rfl⟩
theorem Zd(B1 B2 gb n cap:Nat)(pp:Option Addr)(c:MR)(hp:0<n->pp=some ⟨gb,0,none⟩)(hn:n<=100):
 Fa prog 126 [pV B1,pV B2] y6 (λxs=>xs=Xk c gb n 6) (λpre=>pre<+:Xk c gb n 6) (λ_ l=>r4 B1 c∈l/\xg B2 (.slice pp n cap)∈l):=by
 refine⟨λr I Ix G0 hneed hY l G hG h0=>?_⟩;obtain⟨n1,n2⟩:=hneed _ _ G hG h0;refine AM func126 ntmps126 λE=>?_;refine Aj ?_;refine CE (α:=Nat×List Ab) (λx=>[(0,.func (.yield r) #[] #[]),(1,pV B1),(2,pV B2),(8,.agg (toArray [Ba c.a0,Ba c.a1,Ba c.a2,Ba c.a3,Ba c.a4,Ba c.a5])),(9,.int .i64 x.1)]) (λx=>x.2++G) (λx=>x.1<=6/\I (Xk c gb n x.1) x.2) (λx=>6-x.1) (0,l) ⟨Bl _,h0⟩ ⟨rfl,rfl,rfl,rfl,rfl,trivial⟩ .refl ?_;clear n1 n2;rintro⟨k,l⟩ ⟨hk,hI⟩;simp only at hk hI⊢;obtain⟨n1,n2⟩:=hneed _ _ G hG hI;by_cases hlt:k<6
 ·have hy:=hY (Xk c gb n k) _ l G hG hI (aS c gb n hlt);obtain⟨w,hw⟩: ∃w,(Gw c).getD k 0=w:=⟨_,rfl⟩
  obtain⟨q,hq⟩: ∃q:Value,(if k<n then .pointer (some ⟨gb,k*4,none⟩) else .pointer none)=q:=⟨_,rfl⟩
  have hp2:=aS c gb n hlt;rw[hw,hq] at hy hp2;have hs:Xk c gb n (k+1)=Xk c gb n k++[(w,q)]:=by rw[SK,hw,hq]
  have hv:(toArray [Ba c.a0,Ba c.a1,Ba c.a2,Ba c.a3,Ba c.a4,Ba c.a5])[k]?=some (Ba w):=by
   rw[<-hw];have:k=0\/k=1\/k=2\/k=3\/k=4\/k=5:=by omega
   rcases this with rfl|rfl|rfl|rfl|rfl|rfl<;>rfl
  refine Aj ?_;refine oX (v:=Ba w) (by refine Vq (m:=k) rfl rfl rfl hlt hv) rfl rfl rfl ?_;by_cases hkn:k<n
  case' pos=>
   obtain rfl:=hp Af;rw[Ad hkn] at hq;subst hq;refine Aj ?_
  case' neg=>
   rw[Ac hkn] at hq;subst hq;refine Aj ?_
  all_goals
   refine AP (CQ rfl rfl hy) ?_;rintro v l' ⟨l1,rfl,⟨rfl,hI'⟩|⟨rfl,hx⟩⟩
   ·rw[<-hs] at hI';refine Aj ?_;exact BV (k+1,l1) ⟨by simp only;omega,hI'⟩ (by simp only;omega) ⟨rfl,rfl,rfl,rfl,rfl,trivial⟩ .refl
   ·refine Aj ?_;exact A9 .refl ⟨l1,rfl,.inr ⟨_,hp2,hx⟩⟩
 ·obtain rfl:k=6:=by omega
  refine Aj ?_;exact A9 .refl ⟨l,rfl,.inl ⟨_,rfl,hI⟩⟩
abbrev J0:In:=⟨0,0,0,0,0,0,0,0,⟨0,0,0,0⟩⟩
def MH(o:In)(i:Nat)(x:Int):In:=
 match i with
 |1=>{o with a:=x}
 |2=>{o with b:=x}
 |4=>{o with n0:=x}
 |5=>{o with n1:=x}
 |6=>{o with n2:=x}
 |7=>{o with w:=x}
 |8=>{o with ms:={o.ms with a:=x}}
 |9=>{o with ms:={o.ms with b:=x}}
 |10=>{o with ms:={o.ms with c:=x}}
 |11=>{o with ms:={o.ms with d:=x}}
 |_=>o
theorem ou{o:In}(h:i=1\/i=2\/i=4\/i=5\/i=6):Qr (MH o i x)=(Qr o).set i (iV x):=by rcases h with rfl|rfl|rfl|rfl|rfl<;>rfl
theorem ov{o:In}(h:i=7\/i=8\/i=9\/i=10\/i=11):Qr (MH o i x)=(Qr o).set i (Ba x):=by rcases h with rfl|rfl|rfl|rfl|rfl<;>rfl
def GF(o:In)(cn:Int)(f:FoT)(x:Int):In×Int:=match f.at' with
 |none=>(o,x)
 |some i=>(MH o i x,cn)
def VM(c:MR)(L:List FoT):List Nat->In->Int->Int->(In×Int)×Int
 |[],o,cn,e=>((o,cn),e)
 |i::r,o,cn,e=>match L[i]? with
  |none=>if(Gw c).getD i 0=0 then VM c L r o cn e else((o,cn),2)
  |some f=>if(Gw c).getD i 0<f.le\/f.mo<(Gw c).getD i 0 then VM c L r o cn 3 else VM c L r (GF o cn f ((Gw c).getD i 0)).1 (GF o cn f ((Gw c).getD i 0)).2 e
def aT(c:MR)(q:(In×Int)×Int):In×Int:=if q.2=0 then({q.1.1 with op:=c.op,n2:=q.1.1.n2+16*q.1.2},0) else(J0,q.2)
def Ca(c:MR):In×Int:=match Pt c.op with
 |none=>(J0,2)
 |some L=>if c.op=1/\Vw c=false then(J0,2) else aT c (VM c L (List.range 6) J0 0 0)
def NH(f:FoT):Bool:=match f.at' with
 |none=>!f.wd&&decide (0<=f.le)&&decide (f.mo<=1000000)
 |some i=>if f.wd=true then[7,8,9,10,11].contains i else[1,2,4,5,6].contains i&&decide (0<=f.le)&&decide (f.mo<=1000000)
theorem Ze{op:Int}{L:List FoT}(h:Pt op=some L):L.all NH=true/\L.length<=6:=by
 unfold Pt at h;by_cases h0:op=1
 ·rw[Ad h0] at h;obtain rfl:=AV h;exact⟨rfl,by decide⟩
 rw[Ac h0] at h;by_cases h1:op=2
 ·rw[Ad h1] at h;obtain rfl:=AV h;exact⟨rfl,by decide⟩
 rw[Ac h1] at h;by_cases h2:op=3
 ·rw[Ad h2] at h;obtain rfl:=AV h;exact⟨rfl,by decide⟩
 rw[Ac h2] at h;by_cases h3:op=4\/op=5\/op=12\/op=13
 ·rw[Ad h3] at h;obtain rfl:=AV h;exact⟨rfl,by decide⟩
 rw[Ac h3] at h;by_cases h4:op=6\/op=9\/op=11\/op=21\/op=22
 ·rw[Ad h4] at h;obtain rfl:=AV h;exact⟨rfl,by decide⟩
 rw[Ac h4] at h;by_cases h5:op=7
 ·rw[Ad h5] at h;obtain rfl:=AV h;exact⟨rfl,by decide⟩
 rw[Ac h5] at h;by_cases h6:op=8
 ·rw[Ad h6] at h;obtain rfl:=AV h;exact⟨rfl,by decide⟩
 rw[Ac h6] at h;by_cases h7:op=10
 ·rw[Ad h7] at h;obtain rfl:=AV h;exact⟨rfl,by decide⟩
 rw[Ac h7] at h;by_cases h8:op=14\/op=15
 ·rw[Ad h8] at h;obtain rfl:=AV h;exact⟨rfl,by decide⟩
 rw[Ac h8] at h;by_cases h9:op=16
 ·rw[Ad h9] at h;obtain rfl:=AV h;exact⟨rfl,by decide⟩
 rw[Ac h9] at h;by_cases h10:op=17
 ·rw[Ad h10] at h;obtain rfl:=AV h;exact⟨rfl,by decide⟩
 rw[Ac h10] at h;by_cases h11:op=18
 ·rw[Ad h11] at h;obtain rfl:=AV h;exact⟨rfl,by decide⟩
 rw[Ac h11] at h;by_cases h12:op=19
 ·rw[Ad h12] at h;obtain rfl:=AV h;exact⟨rfl,by decide⟩
 rw[Ac h12] at h;by_cases h13:op=20
 ·rw[Ad h13] at h;obtain rfl:=AV h;exact⟨rfl,by decide⟩
 rw[Ac h13] at h;by_cases h14:op=23
 ·rw[Ad h14] at h;obtain rfl:=AV h;exact⟨rfl,by decide⟩
 rw[Ac h14] at h;cases h
section
variable{Q2:Exit->Act->World->Prop}{Q1:Act->World->Prop}{c:Code}{fr:Fr}{l:List Ab}
def pL(N:Nat)(E:World){α:Type}(fx:α->Fr)(dx:α->List Deferred)(lx:α->List Ab)(pre:α->Prop)(a:Act)(W:World):Prop:=
 ∃y,pre y/\FSat N (fx y) a/\a.defers=dx y/\Sat E (lx y) W
theorem r5(fx:α->Fr)(dx:α->List Deferred)(lx:α->List Ab)(pre:α->Prop)(h1:BH P ro N E c (Exit.then (pL N E fx dx lx pre) Q2) fr ds l)(h2: ∀x,pre x->CO N E (Exit.then Q1 Q2) .normal (fx x) (dx x) (lx x)):BH P ro N E c (Exit.then Q1 Q2) fr ds l:=
 ⟨λa W hf hds hs=>wpIn_mono (h1.run a W hf hds hs) λe a' W' h=>by
   cases e with
   |normal=>obtain⟨y,h3,h4,h5,h6⟩:=h;exact(h2 y h3).run a' W' h4 h5 h6
   |_=>exact h⟩
theorem aU{fx:α->Fr}{dx:α->List Deferred}{lx:α->List Ab}{pre:α->Prop}(y:α)(h1:pre y)(h2:ds=dx y)(h3:FSub (fx y) fr)(h4:Keep l (lx y)):CO N E (Exit.then (pL N E fx dx lx pre) Q) .normal fr ds l:=
 ⟨λa W hf hds hs=>⟨y,h1,hf.sub h3.spec,hds.trans h2,h4.sat hs⟩⟩
end
abbrev HA(B:Nat)(o:In):Ab:=(B,.cells (toArray (Qr o)) 57 (0,0))
abbrev OP(B:Nat)(x:Int):Ab:=(B,.cells (toArray [iV x]) 29 (0,0))
theorem ow{a b c d:Ab}{l:List Ab}:(A++(a::b::c::d::l)).Perm (a::b::c::d::(A++l)):=BR
theorem aV{enc:α->List Value}(hk: ∀x,(enc x).length=k){xs:List α}{x:α}(h:xs[i]?=some x)(sp:List Value):i*k+k<=(toArray (xs.flatMap enc++sp)).size/\(toArray (xs.flatMap enc++sp)).extract (i*k) (i*k+k)=toArray (enc x):=by obtain⟨h1,h2⟩:=Kh hk sp xs i x h;refine⟨by rw[Bn];exact h2,?_⟩;rw[EG,Cj,Cx];exact BN toArray h1
theorem xi(h:k<6):(List.range 6).drop k=k::(List.range 6).drop (k+1):=by
 have:k=0\/k=1\/k=2\/k=3\/k=4\/k=5:=by omega
 rcases this with rfl|rfl|rfl|rfl|rfl|rfl<;>rfl
theorem aW(c:MR)(gb n m:Nat):(Xk c gb n m).length=m:=by unfold Xk;simp
theorem r6{c:MR}{pre:List (Int×Value)}{x:Int×Value}(h:pre++[x]<+:Xk c gb n 6):pre.length<6/\(Gw c).getD pre.length 0=x.1/\(if pre.length<n then .pointer (some ⟨gb,pre.length*4,none⟩) else .pointer none)=x.2:=by have hl:=h.length_le;rw[aW,Ai,Bh] at hl;have h2:=Ij.1 h;rw[Xl c gb n (by simp;omega),Ai,Bh,SK] at h2;obtain⟨h3,h4⟩:=I9 h2 rfl;have h5:=List.singleton_inj.1 h4;rw[h5];exact⟨Af,rfl,rfl⟩
theorem jR{op:Int}{L:List FoT}(h:Pt op=some L):1<=op/\op<=23:=by
 by_cases hr:1<=op/\op<=23
 ·exact hr
 ·exfalso;unfold Pt at h
  repeat rw[Ac Af] at h
  cases h
theorem Pv(c:MR)(L:List FoT)(i:Nat)(r:List Nat)(o:In)(cn e:Int):VM c L (i::r) o cn e=match L[i]? with
 |none=>if(Gw c).getD i 0=0 then VM c L r o cn e else((o,cn),2)
 |some f=>if(Gw c).getD i 0<f.le\/f.mo<(Gw c).getD i 0 then VM c L r o cn 3 else VM c L r (GF o cn f ((Gw c).getD i 0)).1 (GF o cn f ((Gw c).getD i 0)).2 e:=rfl
theorem jS(h:NH f=true)(ha:f.at'=some i):(f.wd=true/\(i=7\/i=8\/i=9\/i=10\/i=11))\/(f.wd=false/\(i=1\/i=2\/i=4\/i=5\/i=6)):=by
 unfold NH at h;rw[ha] at h;dsimp only at h;cases hw:f.wd
 ·rw[hw] at h;simp at h;exact .inr ⟨rfl,Af⟩
 ·rw[hw] at h;simp at h;exact .inl ⟨rfl,Af⟩
theorem pM(h:NH f=true)(ha:f.at'=none):f.wd=false:=by
 unfold NH at h;rw[ha] at h;dsimp only at h;cases hw:f.wd
 ·rfl
 ·rw[hw] at h;simp at h
theorem jT(h:NH f=true)(hw:f.wd=false):0<=f.le/\f.mo<=1000000:=by
 unfold NH at h;rw[hw] at h;cases ha:f.at' with
 |none=>rw[ha] at h;simp only[GO,Bp,AR,Bg] at h;exact h
 |some i=>rw[ha] at h;dsimp only at h;rw[Ac AX] at h;simp only[AR,Bg] at h;exact⟨h.1.2,h.2⟩
def DcB(o:In)(cn:Int):Prop:=(0<=cn/\cn<=1000000)/\(0<=o.n2/\o.n2<=1000000)
theorem DcB.put{o:In}{cn:Int}(h:DcB o cn)(hf:NH f=true)(h1:¬(x<f.le\/f.mo<x)):DcB (GF o cn f x).1 (GF o cn f x).2:=by
 obtain⟨h2,h3⟩:=h;unfold NH at hf;unfold GF;cases ha:f.at' with
 |none=>rw[ha] at hf;simp only[AR,Bg] at hf;exact⟨by constructor<;>dsimp only<;>omega,h3⟩
 |some i=>
  rw[ha] at hf;dsimp only at hf⊢;refine⟨h2,?_⟩;unfold MH
  repeat' split
  all_goals first
   |exact h3
   |(dsimp only
     cases hw:f.wd<;>rw[hw] at hf<;>simp at hf;omega)
theorem Zf(c:MR)(hc:CL c)(k:Nat):Kr ((Gw c).getD k 0):=by
 match k with
 |0=>exact hc.a0
 |1=>exact hc.a1
 |2=>exact hc.a2
 |3=>exact hc.a3
 |4=>exact hc.a4
 |5=>exact hc.a5
 |k+6=>exact⟨by simp[Gw],by simp[Gw]⟩
theorem SL(c:MR)(hc:CL c)(l:List Ab):Fn prog 57 [li c] l λv l'=>v= .tuple #[.agg (toArray (Qr (Ca c).1)),iV (Ca c).2]/\l'=l:=by
 obtain⟨R,hR⟩: ∃R,Ca c=R:=⟨_,rfl⟩
 rw[hR];unfold Ca at hR;have huo:Kr c.op:=hc.op;obtain⟨u1,u2⟩:=huo;refine AM func57 ntmps57 λE=>?_;refine AO λb1=>?_;refine AO λb2=>?_;refine AO λb4=>?_;refine AO λb5=>?_;refine AP (Az rfl rfl (Ut c.op b4 b5 _)) ?_;cases hL:Pt c.op with
 |none=>rw[hL] at hR;subst hR;rintro _ _ ⟨rfl,rfl⟩;refine Aj ?_;exact AW (vs:=[.agg (toArray (Qr J0)),iV 2]) [] _ rfl .refl (Cz rfl (.tail _ (.tail _ (.head _))) (As.LSub.of_all (n:=12) (Qr J0) rfl) (by exact A8)) (.drop (.drop (.drop (.drop .refl)))) ⟨rfl,rfl⟩
 |some L=>
 rw[hL] at hR;obtain⟨hok,hlen⟩:=Ze hL;rintro _ _ ⟨sl,cs,rfl,hos,rfl⟩;obtain⟨pp,cap,rfl⟩:=hos.shape;refine Bk (.of_perm (ow (a:=BJ b5 0) (b:=HA b4 J0) (c:=HA b2 J0) (d:=r4 b1 c))) ?_;refine Aj ?_;dsimp only at hR;by_cases h1:c.op=1/\Vw c=false
 ·rw[Ad h1] at hR;subst hR;obtain⟨h2,h3⟩:=h1;refine Aj ?_;refine El (vs:=[li c]) ?_;rw[h3];refine Aj ?_;exact AW (vs:=[.agg (toArray (Qr J0)),iV 2]) [] _ rfl .refl (Cz rfl (.tail _ (.tail _ (.head _))) (As.LSub.of_all (n:=12) (Qr J0) rfl) (by exact A8)) (.drop (.drop (.drop (.drop (Keep.dropL' cs .refl))))) ⟨rfl,rfl⟩
 rw[Ac h1] at hR;obtain⟨gb,sp,hp,hg⟩: ∃gb sp,(0<L.length->pp=some ⟨gb,0,none⟩)/\(0<L.length->cs=[Io gb (L.flatMap (S9 b4 b5)++sp)]):=by
  by_cases h0:0<L.length
  ·obtain⟨gb,cap2,sp,h2,h3⟩:=Mr hos h0;exact⟨gb,sp,λ_=>by simpa using BN (λv=>match v with|Value.slice p _ _=>p|_=>none) h2,λ_=>h3⟩
  ·exact⟨0,[],λh=>absurd h h0,λh=>absurd h h0⟩
 have hobj:c.op=1->Vw c=true:=λh=>by cases ho:Vw c with|true=>rfl|false=>exact absurd ⟨h,ho⟩ h1
 by_cases hop:c.op=1
 case' pos=>
  have ho:=hobj hop;refine Aj ?_;refine El (vs:=[li c]) ?_;rw[ho];refine Aj ?_
 case' neg=>
  refine Aj ?_
 all_goals
  refine AO λb8=>?_;refine AP (Az rfl rfl (dU c (.slice pp L.length cap) rfl _)) ?_;rintro _ _ ⟨B1,B2,rfl,rfl⟩;refine Tu ?_;refine MY ?_;refine r5 (α:=Nat×(In×Int)×Int) (λz=>[(1,pV b1),(2,pV b2),(4,pV b4),(5,pV b5),(8,pV b8)]) (λz=>[GU z.1]) (λz=>Cf z.1::OP b8 z.2.2::BJ b5 z.2.1.2::HA b4 z.2.1.1::HA b2 J0::r4 b1 c::(cs++l)) (λz=>VM c L (List.range 6) J0 0 0=z.2/\DcB z.2.1.1 z.2.1.2) ?_ ?_
  ·refine OS ?_;refine C0 (α:=Int×Value) (ps:=[33,34]) (lb:=[pV B1,pV B2]) rfl (Zd B1 B2 gb L.length cap pp c hp Af) (λ_=>rfl) rfl
    (λpre l1=> ∃o cn e,VM c L (List.range 6) J0 0 0=VM c L ((List.range 6).drop pre.length) o cn e/\DcB o cn/\l1=[OP b8 e,BJ b5 cn,HA b4 o])
    (λc' pre l1=>c'= .exit 0/\ ∃o cn,VM c L (List.range 6) J0 0 0=((o,cn),2)/\DcB o cn/\l1=[OP b8 2,BJ b5 cn,HA b4 o])
    [OP b8 0,BJ b5 0,HA b4 J0] ([xg B2 (.slice pp L.length cap),r4 B1 c,HA b2 J0,r4 b1 c]++(cs++l)) (λpre l1 X hX h=>⟨Aa _ (hX _ (.tail _ (.head _))),Aa _ (hX _ (.head _))⟩) (by exact AS) ⟨J0,0,0,rfl,⟨by decide,by decide⟩,rfl⟩ ?_ ?_ ?_
   ·rintro E r0 rec pre ⟨w,q⟩ l1 T ⟨fn,tmps,D,rfl⟩ hT ⟨o,cn,e,hdc,hb,rfl⟩ hsp;obtain⟨hk,hw,hq⟩:=r6 hsp;simp only at hw hq;obtain⟨uw1,uw2⟩:=Zf c hc pre.length;rw[hw] at uw1 uw2;rw[xi hk,Pv,hw] at hdc;simp only[DG,Ae,Ag];refine Aj ?_;refine Cy (by exact DI) ?_;by_cases hkn:pre.length<L.length
    ·rw[Ad hkn] at hq;subst hq;obtain⟨f,hf⟩: ∃f,L[pre.length]?=some f:=⟨_,Al hkn⟩
     have hfo:=AZ.1 hok f (A6 hf);rw[hf] at hdc;dsimp only at hdc;have mg:Io gb (L.flatMap (S9 b4 b5)++sp)∈T:=hT _ (by rw[hg Af];simp);obtain⟨x1,x2⟩:=aV (k:=4) (enc:=S9 b4 b5) (λ_=>rfl) hf sp;have z0:(toArray (L.flatMap (S9 b4 b5)++sp))[pre.length*4]?=some (Ba f.le):=gS x2 x1 (j:=0) AX rfl;have z1:(toArray (L.flatMap (S9 b4 b5)++sp))[pre.length*4+1]?=some (Ba f.mo):=gS x2 x1 (j:=1) AX rfl;by_cases hlt:w<f.le
     ·rw[Ad (.inl hlt)] at hdc;refine Aj ?_;exact B0 [OP b8 3,BJ b5 cn,HA b4 o] (by exact AS) ⟨o,cn,3,by rw[hdc,Ai];rfl,hb,rfl⟩
     by_cases hgt:f.mo<w
     ·rw[Ad (.inr hgt)] at hdc;refine Aj ?_;exact B0 [OP b8 3,BJ b5 cn,HA b4 o] (by exact AS) ⟨o,cn,3,by rw[hdc,Ai];rfl,hb,rfl⟩
     have hin:¬(w<f.le\/f.mo<w):=by omega
     rw[Ac hin] at hdc;have hb2:=hb.put hfo hin;cases ha:f.at' with
     |none=>
      have hwd:f.wd=false:=pM hfo ha;obtain⟨r1,r2⟩:=jT hfo hwd;have hfc:S9 b4 b5 f=[Ba f.le,Ba f.mo,.pointer (some ⟨b5,0,none⟩),.pointer none]:=by unfold S9;rw[hwd,ha];rfl
      have hpf:GF o cn f w=(o,w):=by unfold GF;rw[ha]
      rw[hfc] at x2;rw[hpf] at hdc hb2;refine Aj ?_;refine Bb (Dn rfl (by exact BS) x1 x2) ?_;refine Aj ?_;refine Bk (l':=BJ b5 cn::OP b8 e::HA b4 o::(r0,_)::T) (by exact AS) ?_;refine AP (Az (vs:=[v7 f.le f.mo b5 0,Ba w]) rfl rfl (Xj f.le f.mo b5 0 [iV cn] 3 w ⟨Af,Af⟩ Nat.one_pos _)) ?_;rintro _ _ ⟨rfl,rfl⟩;refine Aj ?_;exact B0 [OP b8 e,BJ b5 w,HA b4 o] (by exact AS) ⟨o,w,e,by rw[hdc,Ai];rfl,hb2,rfl⟩
     |some i=>
      have hpf:GF o cn f w=(MH o i w,cn):=by unfold GF;rw[ha]
      rw[hpf] at hdc hb2;rcases jS hfo ha with⟨hwd,hi⟩|⟨hwd,hi⟩
      ·have hfc:S9 b4 b5 f=[Ba f.le,Ba f.mo,.pointer none,.pointer (some ⟨b4,i,none⟩)]:=by unfold S9;rw[hwd,ha];rfl
       rw[hfc] at x2;refine Aj ?_;refine Bb (Dn rfl (by exact BS) x1 x2) ?_;refine Aj ?_;refine Bk (l':=HA b4 o::OP b8 e::BJ b5 cn::(r0,_)::T) (by exact AS) ?_;refine AP (Az (vs:=[xf f.le f.mo b4 i,Ba w]) rfl rfl (jP f.le f.mo b4 i (Qr o) 57 w (by simp;omega) _)) ?_;rintro _ _ ⟨rfl,rfl⟩;rw[<-ov hi];refine Aj ?_;exact B0 [OP b8 e,BJ b5 cn,HA b4 (MH o i w)] (by exact AS) ⟨MH o i w,cn,e,by rw[hdc,Ai];rfl,hb2,rfl⟩
      ·obtain⟨r1,r2⟩:=jT hfo hwd;have hfc:S9 b4 b5 f=[Ba f.le,Ba f.mo,.pointer (some ⟨b4,i,none⟩),.pointer none]:=by unfold S9;rw[hwd,ha];rfl
       rw[hfc] at x2;refine Aj ?_;refine Bb (Dn rfl (by exact BS) x1 x2) ?_;refine Aj ?_;refine Bk (l':=HA b4 o::OP b8 e::BJ b5 cn::(r0,_)::T) (by exact AS) ?_;refine AP (Az (vs:=[v7 f.le f.mo b4 i,Ba w]) rfl rfl (Xj f.le f.mo b4 i (Qr o) 57 w ⟨Af,Af⟩ (by simp;omega) _)) ?_;rintro _ _ ⟨rfl,rfl⟩;rw[<-ou hi];refine Aj ?_;exact B0 [OP b8 e,BJ b5 cn,HA b4 (MH o i w)] (by exact AS) ⟨MH o i w,cn,e,by rw[hdc,Ai];rfl,hb2,rfl⟩
    ·rw[Ac hkn] at hq;subst hq;rw[Bc Af] at hdc;dsimp only at hdc;by_cases hw0:w=0
     ·rw[Ad hw0] at hdc;refine Aj ?_;exact B0 [OP b8 e,BJ b5 cn,HA b4 o] (by exact AS) ⟨o,cn,e,by rw[hdc,Ai];rfl,hb,rfl⟩
     ·rw[Ac hw0] at hdc;refine Aj ?_;exact EE [OP b8 2,BJ b5 cn,HA b4 o] (by exact AS) ⟨rfl,o,cn,hdc,hb,rfl⟩
   ·rintro D xs l1 rfl ⟨o,cn,e,hdc,hb,rfl⟩;rw[aW] at hdc;simp only[Ae,Ag];refine OV ?_;exact aU (D,(o,cn),e) ⟨hdc,hb⟩ rfl ⟨rfl,rfl,rfl,rfl,rfl,trivial⟩ (by exact AS)
   ·rintro D c' pre l1 hsp ⟨rfl,o,cn,hdc,hb,rfl⟩;simp only[Ae,Ag];refine Rb ?_;refine IH ?_;exact aU (D,(o,cn),2) ⟨hdc,hb⟩ rfl ⟨rfl,rfl,rfl,rfl,rfl,trivial⟩ (by exact AS)
  rintro⟨D,⟨o,cn⟩,e⟩ ⟨hdc,hb⟩;rw[hdc] at hR;unfold aT at hR;dsimp only at hR hb⊢;obtain⟨⟨q1,q2⟩,q3,q4⟩:=hb;by_cases he:e=0
  case neg=>rw[Ac he] at hR;subst hR;refine Aj ?_;refine Ch [2] 4 _ ?_ (hR:=(λ_ h=>h));refine BM ?_;refine Aj ?_;exact AW (vs:=[.agg (toArray (Qr J0)),iV e]) [D] _ rfl .refl (Cz rfl (.tail _ (.tail _ (.tail _ (.head _)))) (As.LSub.of_all (n:=12) (Qr J0) rfl) (by exact A8)) (.drop (.drop (.drop (.drop (.drop (Keep.dropL' cs .refl)))))) ⟨rfl,rfl⟩
  rw[Ad he] at hR;subst hR he;obtain⟨p1,p2⟩:=jR hL;have z2:(toArray (Qr {o with op:=c.op}))[4+(2:Int).toNat*1]?=some (iV o.n2):=rfl;refine Aj ?_;refine Mu (F0 (cs:=Qr {o with op:=c.op}) (cs':=Qr {o with op:=c.op,n2:=o.n2+16*cn}) (l':=Cf D::OP b8 0::BJ b5 cn::HA b4 {o with op:=c.op,n2:=o.n2+16*cn}::HA b2 J0::r4 b1 c::(cs++l)) rfl rfl rfl (by exact BS) (by exact .succ (.succ (.succ (.succ (.succ (.succ .zero)))))) (by exact DI)) rfl rfl ?_;rintro _ _ ⟨rfl,rfl⟩;refine Aj ?_;exact AW (vs:=[.agg (toArray (Qr {o with op:=c.op,n2:=o.n2+16*cn})),iV 0]) [D] _ rfl .refl (Cz rfl (.tail _ (.tail _ (.tail _ (.head _)))) (As.LSub.of_all (n:=12) (Qr {o with op:=c.op,n2:=o.n2+16*cn}) rfl) (by exact A8)) (.drop (.drop (.drop (.drop (.drop (Keep.dropL' cs .refl)))))) ⟨rfl,rfl⟩
end Go.Proofs.YtlkgekpmileobaaGreat
