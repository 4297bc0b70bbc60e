/- Laws that the statement's proof leans on (joined out of several texts). -/
import Derived.Test.YtlkgekpmileobaaGreatGb8
import Derived.Test.YtlkgekpmileobaaGreatGb46
import Derived.Test.YtlkgekpmileobaaGreatGb48
import Derived.Test.YtlkgekpmileobaaGreatGb10
import Derived.Test.YtlkgekpmileobaaGreatGb45
import Derived.Test.YtlkgekpmileobaaGreatGb23
import Derived.Test.YtlkgekpmileobaaGreatGb9
import Derived.Test.YtlkgekpmileobaaGreatGb41
import Derived.Test.YtlkgekpmileobaaGreatGb18
set_option linter.unusedVariables false
set_option linter.unusedSimpArgs false
namespace Go.Proofs.YtlkgekpmileobaaGreat
open Tryz
open List(toArray)
open Go.RowKit
set_option maxRecDepth 20000
variable{k F C b N i:Nat}{l G l':List Ab}{S:KT}{p:RP}{s:RL}{α:Type}{st:List (Int×List Hs)}{v:Value}{P:Program}{ro:Option Nat}{E:World}{fr:Fr}{ds:List Deferred}{e:LT}
theorem pK{c:Nz}(hc:CL c)(h0:(CF c).2=0):OB (CF c).1:=by obtain⟨L,hL,hop,hn0,hn1,hg,_⟩:=iv h0;refine⟨(nq hc).2.2,λ_=>⟨hn0,hn1⟩,λh=>?_⟩;rw[<-hop,h] at hL;obtain rfl:[QB 1,U2 (some 4) 0 2,QB 2]=L:=AV hL;obtain⟨_,_,h1,h2,h3⟩:=hg 1 _ rfl;rw[<-hop,h] at h1;have e:HT (cO 19 (CF c).1) (cP 19 (CF c).1) (U2 (some 4) 0 2)=(CF c).1.n0:=rfl;rw[e] at h1;rw[h1];exact⟨h2,h3⟩
def lN(S:KT)(t:Int)(o:IO)(x y:CB):(List Hs×Int)×KT:=match PU S t o x with
 |some r=>r
 |none=>if(Ma S t o x y).1=0 then(([L8 t],0),(Ma S t o x y).2) else(([],(Ma S t o x y).1),(Ma S t o x y).2)
def O1(S:KT)(t:Int)(o:IO):(List Hs×Int)×KT:=
 if Oa S t=false\/¬(Er S t).st=1 then(([],2),S)
 else if(G7 o.op).1=true/\¬(G6 S t o.a).2=0 then(([],(G6 S t o.a).2),S)
 else if(G7 o.op).2=true/\¬(G6 S t o.b).2=0 then(([],(G6 S t o.b).2),S)
 else lN S t o (if(G7 o.op).1=true then(G6 S t o.a).1 else(0,0)) (if(G7 o.op).2=true then(G6 S t o.b).1 else(0,0))
section
set_option maxHeartbeats 4000000 in
theorem lO(hK:IsK F C (k+8) S p s)(kb:Nat)(hk:Oc kb b∈G)(t:Int)(c:Nz)(hc:CL c)(h0:(CF c).2=0):Fn prog 108 [pV kb,.int .i64 t,sY (CF c).1] (Av b p s S G) (KN F C b p k (O1 S t (CF c).1).1.1 (O1 S t (CF c).1).1.2 (O1 S t (CF c).1).2 G):=by
 have mr:Co b p∈Av b p s S G:=mR λ_ h=>h;have mk:Oc kb b∈Av b p s S G:=mG (λ_ h=>h) _ hk;have hob:=pK hc h0;obtain⟨⟨_,ha⟩,⟨_,hb⟩,_⟩:=nq hc;have henc:=λl=>YE c hc h0 l;obtain⟨o,ho⟩: ∃o,(CF c).1=o:=⟨_,rfl⟩
 simp only[ho] at hob ha hb henc⊢;obtain⟨R,hR⟩: ∃R,O1 S t o=R:=⟨_,rfl⟩
 rw[hR];unfold O1 at hR;refine AO func108 ntmps108 λE=>?_;refine AQ λb5=>?_;refine Ea ?_;refine Aj ?_;refine Ea ?_;obtain⟨u,hu⟩: ∃u,Er S t=u:=⟨_,rfl⟩
 obtain⟨ok,hok⟩: ∃k,Oa S t=k:=⟨_,rfl⟩
 rw[hok,hu] at hR;try rw[hu,show(Th.findH S.T t).isSome=ok from hok]
 refine AQ λb8=>?_;refine Bc (AK (vs:=[sY o]) rfl rfl λl2 _=>henc l2) ?_;refine AQ λb10=>?_;have ad1:AD o.a:=⟨ha⟩
 have ad2:AD o.b:=⟨hb⟩
 cases ok with
 |false=>rw[Ae (.inl rfl)] at hR;subst hR;refine Aj ?_;exact Fk
 |true=>
 by_cases h1:u.st=1
 case neg=>rw[Ae (.inr h1)] at hR;subst hR;refine Aj ?_;exact Fk
 rw[Ac (by simp[h1])] at hR;refine Aj ?_;refine Ch (Cf [7,8] 0 9) ?_;refine Ci ?_;refine Hf e_alloc (by rintro _ _ ⟨_,_,_,rfl⟩ c hc;exact .tail _ hc) ?_;rintro _ _ ⟨b12,_,rfl,rfl⟩;refine Ci ?_;refine Aj ?_;refine Ea ?_;obtain⟨⟨p1,p2⟩,hp⟩: ∃q,G7 o.op=q:=⟨_,rfl⟩
 rw[hp] at hR;try rw[hp]
 dsimp only at hR;simp only[AL,AI,AN];refine Aj ?_;obtain⟨x,hx⟩: ∃x,(if p1=true then(G6 S t o.a).1 else(0,0))=x:=⟨_,rfl⟩
 obtain⟨y,hy⟩: ∃y,(if p2=true then(G6 S t o.b).1 else(0,0))=y:=⟨_,rfl⟩
 rw[hx,hy] at hR;by_cases hf1:p1=true/\¬(G6 S t o.a).2=0
 ·rw[Ae hf1] at hR;subst hR;obtain⟨rfl,hf2⟩:=hf1;refine Aj ?_;refine Ch (Cf [12] 0 14) ?_;refine Ci ?_;simp only[AL,AI,AN];refine Aj ?_;exact Fk
 rw[Ac hf1] at hR;refine PR (α:=Unit) (λ_=>[(0,pV kb),(1,iV t),(5,pV b5),(12,pV b12),(14,.bool p2)]) (λ_=>Vi b12 b t o x (0,0)::Hh b5 o::Av b p s S G) (λ_=>True) ?_ ?_
 ·cases p1 with
  |false=>rw[Ac AW] at hx;subst hx;refine Aj ?_;exact D8 () trivial ⟨rfl,rfl,rfl,rfl,rfl,trivial⟩ (by exact AR)
  |true=>
   have hf2:(G6 S t o.a).2=0:=by simpa using hf1
   rw[Ae rfl] at hx;refine Aj ?_;refine Ch (Cf [12] 0 14) ?_;refine Ci ?_;simp only[AL,AI,AN];rw[hf2];subst hx;refine Aj ?_;exact D8 () trivial ⟨rfl,rfl,rfl,rfl,rfl,trivial⟩ (by exact AR)
 rintro- -;by_cases hf3:p2=true/\¬(G6 S t o.b).2=0
 ·rw[Ae hf3] at hR;subst hR;obtain⟨rfl,hf2⟩:=hf3;refine Aj ?_;refine Ch (Cf [12] 0 14) ?_;refine Ci ?_;simp only[AL,AI,AN];refine Aj ?_;exact Fk
 rw[Ac hf3] at hR;refine Aj ?_;refine PR (α:=Unit) (λ_=>[(0,pV kb),(1,iV t),(12,pV b12)]) (λ_=>Vi b12 b t o x y::Av b p s S G) (λ_=>True) ?_ ?_
 ·cases p2 with
  |false=>rw[Ac AW] at hy;subst hy;refine Aj ?_;exact D8 () trivial ⟨rfl,rfl,rfl,trivial⟩ (by exact AR)
  |true=>
   have hf2:(G6 S t o.b).2=0:=by simpa using hf3
   rw[Ae rfl] at hy;refine Aj ?_;refine Ch (Cf [12] 0 14) ?_;refine Ci ?_;simp only[AL,AI,AN];rw[hf2];subst hy;refine Aj ?_;exact D8 () trivial ⟨rfl,rfl,rfl,trivial⟩ (by exact AR)
 rintro- -;refine Aj ?_;refine Bk (.of_perm (EF b p s S [Vi b12 b t o x y] G)) ?_;refine AS (Az (vs:=[M4 b t o x y]) rfl rfl (pw (k:=k+6) hK t o x y)) ?_;unfold lN at hR;cases hsy:PU S t o x with
 |some r=>rw[hsy] at hR;dsimp only at hR;subst hR;rintro _ _ ⟨sl,cs,s1,L1,rfl,ho1,hK1,hT1,rfl⟩;obtain⟨L2,hL2,hp2⟩:=Gs (b:=b) (p:=p) (s:=s1) (S:=r.2) hT1;refine Aj ?_;exact AU (vs:=[sl,iV r.1.2]) [] _ rfl .refl (by exact A7) (.trans (.of_perm (hp2.append_left cs)) QA) ⟨sl,cs,s1,L2,rfl,ho1,hK1.mono Af,hL2,rfl⟩
 |none=>
  rw[hsy] at hR;dsimp only at hR;rintro _ _ ⟨rfl,s1,L1,hK1,hT1,rfl⟩;obtain⟨L2,hL2,hp2⟩:=Gs (b:=b) (p:=p) (s:=s1) (S:=S) hT1;refine Bk (.of_perm hp2) ?_;rw[Ca];have mr1:Co b p∈Av b p s1 S L2:=mR λ_ h=>h;have ek:EK prog F C b p 162 [M4 b t o x y] (k+8) S k (iV (Ma S t o x y).1) (Ma S t o x y).2:=⟨λs G h=>pD h t o x y hob⟩
  refine Aj ?_;refine Fy ?_;intro S2 s2 L3 hS2 hK2 hT2 mr2;rw[<-hS2] at hR;refine Aj ?_;by_cases h9:(Ma S t o x y).1=0
  case neg=>rw[Ac h9] at hR;subst hR;refine Aj ?_;exact Fk
  rw[Ae h9] at hR;subst hR;refine Aj ?_;refine AS (E3 (ws:=Ps (L8 t)) (k:=12) rfl rfl rfl AW AW) ?_;rintro _ _ ⟨bn,_,rfl,rfl⟩;refine Aj ?_;exact AU [] _ rfl .refl (by exact A7) (l':=[SL bn (L8 t)]++Av b p s2 S2 L3) (by exact AR) ⟨_,_,s2,L3,rfl,⟨rfl,.inr ⟨bn,1,[],rfl,rfl,A5 _,by unfold maxLen;omega,rfl⟩⟩,hK2,hT2.trans hL2,rfl⟩
end
class cQ(e:LT):Prop where
 cl:CL e.cl
 va:JW e.va
 vl:JW e.vl
abbrev WR(t co:Int):Hs:=⟨t,co,0,qf,0,false,0,0,false⟩
def ac(S:KT)(t:Int)(c:Nz):(List Hs×Int)×KT:=
 if(CF c).2=0 then(if(O1 S t (CF c).1).1.2=0 then(((O1 S t (CF c).1).1.1,0),(O1 S t (CF c).1).2) else(([WR t (O1 S t (CF c).1).1.2],0),(O1 S t (CF c).1).2))
 else(([WR t (CF c).2],0),S)
def PW(S:KT)(e:LT):(List Hs×Int)×KT:=
 if e.co<0\/(S.K.length:Int)<=e.co then(([],3),S)
 else if Oa S (KM S.U e.co)=false then(([],19),S)
 else if(Er S (KM S.U e.co)).hs=true then WK S e.co
 else if e.kd=3 then SO S e.co ⟨false,false,e.va,0⟩
 else if e.kd=4 then SO S e.co ⟨false,true,e.va,e.vl⟩
 else ac S (Er S (KM S.U e.co)).id e.cl
abbrev NF(B:Nat)(e:LT):Ab:=(B,.cells (toArray (WM e)) 39 (0,0))
def WS(e:LT):Nat:=if e.kd=3\/e.kd=4 then 2 else 8
section
section
variable{ops:Array Oper}{Q:Exit->Act->World->Prop}{d f k':Nat}{x:Operand}{xs:List Operand}{vs:List Value}{at_:Array TypeId}{ty:TypeId}{pos:String}{aft:Array Edge}{S':KT}{ns:List Hs}{co:Int}{tbl:List (List Nat)}{sp:Fd}{pl:List BC}{gg:Bool}
theorem uk{Γ:List Ab->List Ab}(h: ∀G,Fn P f vs (Av b p s S G) (KN F C b p k' ns co S' G))(hk: ∀sl cs S1 s' L,S1=S'->OwnSl 69 12 sl ns.length (GS ns) cs->IsK F C k' S1 p s'->Tail L (cs++G)->Co b p∈Av b p s' S1 L->MP P ro N E ops Q tbl false sp pl ((d,.tuple #[sl,iV co])::fr) ds (Γ (Av b p s' S1 L)))(hx:ev fr x=some (.func (.func f) #[] #[]):=by rfl)(hy:PX fr xs=some vs:=by rfl)(hF:Fr1 (Av b p s S G) l Γ:=by exact Zr)(c:EN P f:=by infer_instance)(hb:Nat.blt d N=true:=by rfl)(ha:(sp.map Prod.fst).all (λq=>Ff tbl i q)=true:=by kernel_rfl):MP P ro N E ops Q tbl gg sp ((i,false,⟨some d,.call {callee:= .value x,args:=xs.toArray,argTypes:=at_},ty,pos,aft,none⟩)::pl) fr ds l:=by obtain⟨A,rfl,hA⟩:=hF.eq;refine Ju (Az hx hy (Fn.re (.of_perm (EF b p s S A G)) (h (A++G)) (K':=λv l'=> ∃sl cs s' L,v= .tuple #[sl,iV co]/\OwnSl 69 12 sl ns.length (GS ns) cs/\IsK F C k' S' p s'/\Tail L (cs++G)/\l'=Γ (Av b p s' S' L)) λv l' ⟨sl,cs,s',L,h1,h2,h3,⟨X,h4⟩,h5⟩=>⟨Γ (Av b p s' S' (X++(cs++G))),?_,sl,cs,s',_,h1,h2,h3,⟨X,rfl⟩,rfl⟩)) (λv l' ⟨sl,cs,s',L,h1,h2,h3,h4,h5⟩=>by rw[h1,h5];exact hk sl cs S' s' L rfl h2 h3 h4 (mR λ_ h=>h)) rfl rfl hb ha;rw[h5,h4,hA];refine .of_perm ?_;unfold Av;exact Cc
end
set_option maxHeartbeats 4000000 in
theorem pL(e:LT)(hK:IsK F C (k+WS e) S p s)(kb:Nat)(hk:Oc kb b∈G)(he:cQ e):Fn prog 71 [pV kb,OX e] (Av b p s S G) (KN F C b p k (PW S e).1.1 (PW S e).1.2 (PW S e).2 G):=by
 have mr:Co b p∈Av b p s S G:=mR λ_ h=>h;have mk:Oc kb b∈Av b p s S G:=mG (λ_ h=>h) _ hk;have htw:=Yx hK e.co;have uva:U6 e.va:=⟨he.va⟩
 have uvl:U6 e.vl:=⟨he.vl⟩
 have hcl:=he.cl;obtain⟨R,hR⟩: ∃R,PW S e=R:=⟨_,rfl⟩
 rw[hR];unfold PW at hR;refine AO func71 ntmps71 λE=>?_;refine AQ λb3=>?_;by_cases h1:e.co<0
 ·rw[Ae (.inl h1)] at hR;subst hR;refine Ce [] 14 _ ?_ (hR:=(λ_ h=>h));refine BI ?_;refine Aj ?_;exact Fk
 refine Ce [] 14 _ ?_ (hR:=(λ_ h=>h));refine BI ?_;refine Tf ?_;refine BI ?_;refine Tf ?_;refine BI ?_;refine Aj ?_;by_cases h2:(S.K.length:Int)<=e.co
 ·rw[Ae (.inr h2)] at hR;subst hR;refine Aj ?_;exact Fk
 rw[Ac Af] at hR;refine Aj ?_;refine Ch (Cf [16,17] 0 19) ?_;refine Ci ?_;obtain⟨u,hu⟩: ∃u,Er S (KM S.U e.co)=u:=⟨_,rfl⟩
 obtain⟨ok,hok⟩: ∃k,Oa S (KM S.U e.co)=k:=⟨_,rfl⟩
 rw[hok,hu] at hR;try rw[hu,show(Th.findH S.T (KM S.U e.co)).isSome=ok from hok]
 try simp only[AL,AI,AN]
 refine Hf e_alloc (by rintro _ _ ⟨_,_,_,rfl⟩ c hc;exact .tail _ hc) ?_;rintro _ _ ⟨b6,_,rfl,rfl⟩;refine Ci ?_;try simp only[AL,AI,AN]
 refine Aj ?_;cases ok with
 |false=>rw[Ae rfl] at hR;subst hR;refine Aj ?_;exact Fk
 |true=>
 rw[Ac AW] at hR;have hK2:IsK F C (k+2) S p s:=hK.mono (by unfold WS;split<;>omega);cases hhs:u.hs with
 |true=>
  rw[Ae hhs] at hR;subst hR;refine Aj ?_;refine Ch (Cf [6] 0 11) ?_;refine Ci ?_;refine uk (vs:=[pV b,.int .i64 e.co]) (λG=>sg hK2 e.co) ?_;intro sl cs S1 s1 L1 hS1 ho1 hK1 hT1 mr1;refine Ci ?_;try simp only[AL,AI,AN]
  refine Aj ?_;obtain⟨L4,hL4,hp4⟩:=Gs (b:=b) (p:=p) (s:=s1) (S:=S1) hT1;exact AU [] _ rfl .refl (by exact A7) (.drop (.drop (.of_perm hp4))) ⟨sl,cs,s1,L4,rfl,ho1,by rw[<-hS1];exact hK1,hL4,by rw[<-hS1]⟩
 |false=>
 rw[Ac (by rw[hhs];decide)] at hR;by_cases h3:e.kd=3
 ·rw[Ae h3] at hR;subst hR;have hva:U6 (⟨false,false,e.va,0⟩:U0).va:=uva;have hvl:U6 (⟨false,false,e.va,0⟩:U0).vl:=⟨Lf⟩
  refine Aj ?_;refine Ch (Cf [9] 0 14) ?_;refine Ci ?_;refine uk (vs:=[pV b,.int .i64 e.co,pn ⟨false,false,e.va,0⟩]) (λG=>ib hK2 e.co ⟨false,false,e.va,0⟩) ?_;intro sl cs S1 s1 L1 hS1 ho1 hK1 hT1 mr1;refine Ci ?_;try simp only[AL,AI,AN]
  refine Aj ?_;obtain⟨L4,hL4,hp4⟩:=Gs (b:=b) (p:=p) (s:=s1) (S:=S1) hT1;exact AU [] _ rfl .refl (by exact A7) (.drop (.drop (.of_perm hp4))) ⟨sl,cs,s1,L4,rfl,ho1,by rw[<-hS1];exact hK1,hL4,by rw[<-hS1]⟩
 rw[Ac h3] at hR;by_cases h4:e.kd=4
 ·rw[Ae h4] at hR;subst hR;have hva:U6 (⟨false,true,e.va,e.vl⟩:U0).va:=uva;have hvl:U6 (⟨false,true,e.va,e.vl⟩:U0).vl:=uvl;refine Aj ?_;refine Ch (Cf [11] 0 16) ?_;refine Ci ?_;refine uk (vs:=[pV b,.int .i64 e.co,pn ⟨false,true,e.va,e.vl⟩]) (λG=>ib hK2 e.co ⟨false,true,e.va,e.vl⟩) ?_;intro sl cs S1 s1 L1 hS1 ho1 hK1 hT1 mr1;refine Ci ?_;try simp only[AL,AI,AN]
  refine Aj ?_;obtain⟨L4,hL4,hp4⟩:=Gs (b:=b) (p:=p) (s:=s1) (S:=S1) hT1;exact AU [] _ rfl .refl (by exact A7) (.drop (.drop (.of_perm hp4))) ⟨sl,cs,s1,L4,rfl,ho1,by rw[<-hS1];exact hK1,hL4,by rw[<-hS1]⟩
 rw[Ac h4] at hR;have hK8:IsK F C (k+8) S p s:=hK.mono (by unfold WS;rw[Ac Af];omega);unfold ac at hR;have hord:=λ(G:List Ab) (hk:Oc kb b∈G) h0=>lO (G:=G) hK8 kb hk u.id e.cl hcl h0;refine Aj ?_;refine Bc (AK (vs:=[iX e.cl]) rfl rfl λl2 _=>Sk e.cl hcl l2) ?_;obtain⟨⟨o,d⟩,hd⟩: ∃D,CF e.cl=D:=⟨_,rfl⟩
 rw[hd] at hR⊢;simp only[hd] at hord;dsimp only at hR⊢;refine AQ λb8=>?_;by_cases h5:d=0
 case neg=>rw[Ac h5] at hR;subst hR;refine Aj ?_;refine AS (E3 (ws:=Ps (WR u.id d)) (k:=12) rfl rfl rfl AW AW) ?_;rintro _ _ ⟨bn,_,rfl,rfl⟩;refine Aj ?_;exact AU [] _ rfl .refl (by exact A7) (l':=[SL bn (WR u.id d)]++Av b p s S G) (by exact AR) ⟨_,_,s,G,rfl,⟨rfl,.inr ⟨bn,1,[],rfl,rfl,A5 _,by unfold maxLen;omega,rfl⟩⟩,hK.mono Af,.nil,rfl⟩
 rw[Ae h5] at hR;have hord:=λG hk=>hord G hk h5;refine Aj ?_;refine Bk (.of_perm (EF b p s S [Hh b8 o,Th.thC b6 {u with hs:=false},NF b3 e] G)) ?_;refine AS (Az (vs:=[pV kb,.int .i64 u.id,sY o]) rfl rfl (hord _ (Aa _ hk))) ?_;rintro _ _ ⟨sl,cs,s1,L1,rfl,ho1,hK1,hT1,rfl⟩;obtain⟨q,hq⟩: ∃q,O1 S u.id o=q:=⟨_,rfl⟩
 rw[hq] at hR ho1 hK1;try rw[hq]
 obtain⟨L2,hL2,hp2⟩:=Gs (b:=b) (p:=p) (s:=s1) (S:=q.2) hT1;refine Bk (.of_perm (l':=Hh b8 o::Th.thC b6 {u with hs:=false}::NF b3 e::(cs++Av b p s1 q.2 L2)) ((hp2.append_left cs).trans Cc)) ?_;refine Aj ?_;by_cases h6:q.1.2=0
 ·rw[Ae h6] at hR;subst hR;refine Aj ?_;exact Cy (vs:=[sl,iV 0]) _ .refl (.drop (.drop (.drop .refl))) ⟨sl,cs,s1,L2,rfl,ho1,hK1,hL2,rfl⟩
 ·rw[Ac h6] at hR;subst hR;refine Aj ?_;refine AS (E3 (ws:=Ps (WR u.id q.1.2)) (k:=12) rfl rfl rfl AW AW) ?_;rintro _ _ ⟨bn,_,rfl,rfl⟩;refine Aj ?_;exact AU [] _ rfl .refl (by exact A7) (l':=[SL bn (WR u.id q.1.2)]++Av b p s1 q.2 L2) (show Keep (SL bn (WR u.id q.1.2)::Hh b8 o::Th.thC b6 {u with hs:=false}::NF b3 e::(cs++Av b p s1 q.2 L2)) ([SL bn (WR u.id q.1.2)]++Av b p s1 q.2 L2) from AY ([Hh b8 o,Th.thC b6 {u with hs:=false},NF b3 e]++cs)) ⟨_,_,s1,L2,rfl,⟨rfl,.inr ⟨bn,1,[],rfl,rfl,A5 _,by unfold maxLen;omega,rfl⟩⟩,hK1,hL2,rfl⟩
end
def pM(S:KT)(e:LT):(List Hs×Int)×KT:=
 if e.kd=1 then(([],(PV S e.co e.th).1),(PV S e.co e.th).2)
 else if e.kd=2\/e.kd=3\/e.kd=4 then PW S e
 else if e.kd=5\/e.kd=6 then(([],(M7 S e).1),(M7 S e).2)
 else(([],2),S)
def Mh(S:KT)(e:LT):(List Hs×Int)×KT:=((pM S e).1,if(pM S e).1.2=0 then OR (pM S e).2 else(pM S e).2)
abbrev Li(co:Int)(sl:Value):List Value:=[iV co,sl]
section
def vZ(F C b:Nat)(p:RP)(k:Nat)(xs:List Hs)(co:Int)(S:KT)(G:List Ab):Value->List Ab->Prop:=λv l'=> ∃sl cs s L,v= .agg (toArray (Li co sl))/\OwnSl 69 12 sl xs.length (GS xs) cs/\IsK F C k S p s/\Tail L G/\l'=cs++Av b p s S L
theorem pO{Q1:Act->World->Prop}{Q2:Exit->Act->World->Prop}{c:Code}{j:Nat}(fx:α->Fr)(lx:α->List Ab)(pre:α->Prop)(h1:BF P ro N E c (Exit.inBlock j (Exit.then (YX N E fx ds lx pre) Q2)) fr ds l)(h2: ∀x,pre x->CH N E (Exit.then Q1 Q2) .normal (fx x) ds (lx x)):BF P ro N E c (Exit.inBlock j (Exit.then Q1 Q2)) fr ds l:=
 ⟨λa W hf hds hs=>wpIn_mono (h1.run a W hf hds hs) λe a' W' h=>by
   cases e with
   |normal=>obtain⟨y,h3,h4,h5,h6⟩:=h;exact(h2 y h3).run a' W' h4 h5 h6
   |exit i=>
    simp only[Exit.inBlock] at h⊢;by_cases hi:i=j
    ·rw[Ae hi] at h⊢;obtain⟨y,h3,h4,h5,h6⟩:=h;exact(h2 y h3).run a' W' h4 h5 h6
    ·rw[Ac hi] at h⊢;exact h
   |_=>exact h⟩
abbrev Hi(B:Nat)(co:Int)(sl:Value):Ab:=(B,.cells (toArray (Li co sl)) 32 (0,0))
abbrev Jl:Value:= .slice none 0 0
set_option maxHeartbeats 4000000 in
theorem um(e:LT)(hK:IsK F C (k+WS e) S p s)(kb:Nat)(hk:Oc kb b∈G)(he:cQ e):Fn prog 52 [pV kb,OX e] (Av b p s S G) (vZ F C b p k (Mh S e).1.1 (Mh S e).1.2 (Mh S e).2 G):=by
 have mr:Co b p∈Av b p s S G:=mR λ_ h=>h;have mk:Oc kb b∈Av b p s S G:=mG (λ_ h=>h) _ hk;have hst:=λ(G:List Ab) (hk:Oc kb b∈G)=>pL (G:=G) e hK kb hk he;have hpi:=λ(G:List Ab) (hk:Oc kb b∈G)=>pE (G:=G) hK kb hk e.co e.th;have hca:=λ(G:List Ab) (hk:Oc kb b∈G)=>lD (G:=G) hK kb hk e;unfold Mh;obtain⟨R,hR⟩: ∃R,pM S e=R:=⟨_,rfl⟩
 rw[hR];unfold pM at hR;refine AO func52 ntmps52 λE=>?_;refine AQ λb3=>?_;refine AQ λb4=>?_;refine AQ λb5=>?_;refine pO (α:=RL×List Ab×Value×List Ab) (λ_=>[(0,pV kb),(4,pV b4),(5,pV b5)]) (λz=>Hi b5 R.1.2 z.2.2.1::Hi b4 0 Jl::Av b p z.1 R.2 (z.2.2.2++z.2.1)) (λz=>IsK F C k R.2 p z.1/\Tail z.2.1 G/\OwnSl 69 12 z.2.2.1 R.1.1.length (GS R.1.1) z.2.2.2) ?_ ?_
 ·by_cases h1:e.kd=1
  ·rw[Ae h1] at hR;subst hR;refine Aj ?_;refine Bk (.of_perm (EF b p s S [Hi b5 2 Jl,Hi b4 0 Jl,NF b3 e] G)) ?_;refine AS (Az (vs:=[pV kb,.int .i64 e.co,.int .i64 e.th]) rfl rfl (hpi _ (Aa _ hk))) ?_;rintro _ _ ⟨rfl,s1,L1,hK1,hT1,rfl⟩;obtain⟨L2,hL2,hp2⟩:=Gs (b:=b) (p:=p) (s:=s1) (S:=(PV S e.co e.th).2) hT1;refine Bk (.of_perm (l':=Hi b5 2 Jl::Hi b4 0 Jl::NF b3 e::Av b p s1 (PV S e.co e.th).2 L2) hp2) ?_;refine Aj ?_;exact D8 (s1,L2,Jl,[]) ⟨hK1.mono Af,hL2,OwnSl.nil _ _⟩ ⟨rfl,rfl,rfl,trivial⟩ (by exact AR)
  rw[Ac h1] at hR;by_cases h2:e.kd=2\/e.kd=3\/e.kd=4
  ·rw[Ae h2] at hR;rw[hR] at hst;rcases h2 with h2|h2|h2;all_goals
    refine Aj ?_;refine Bk (.of_perm (EF b p s S [Hi b5 2 Jl,Hi b4 0 Jl,NF b3 e] G)) ?_;refine AS (Az (vs:=[pV kb,OX e]) rfl rfl (hst _ (Aa _ hk))) ?_;rintro _ _ ⟨sl,cs,s1,L1,rfl,ho1,hK1,hT1,rfl⟩;obtain⟨L2,hL2,hp2⟩:=Gs (b:=b) (p:=p) (s:=s1) (S:=R.2) hT1;obtain⟨pp,cap,rfl⟩:=ho1.shape;refine Bk (.of_perm (l':=Hi b5 2 Jl::Hi b4 0 Jl::NF b3 e::Av b p s1 R.2 (cs++L2)) ((hp2.append_left cs).trans (by unfold Av;exact Cc))) ?_;refine Aj ?_;exact D8 (s1,L2,_,cs) ⟨hK1,hL2,ho1⟩ ⟨rfl,rfl,rfl,trivial⟩ (by exact AR)
  rw[Ac h2] at hR;by_cases h3:e.kd=5\/e.kd=6
  ·rw[Ae h3] at hR;subst hR;rcases h3 with h3|h3;all_goals
    refine Aj ?_;refine Bk (.of_perm (EF b p s S [Hi b5 2 Jl,Hi b4 0 Jl,NF b3 e] G)) ?_;refine AS (Az (vs:=[pV kb,OX e]) rfl rfl (hca _ (Aa _ hk))) ?_;rintro _ _ ⟨rfl,s1,L1,hK1,hT1,rfl⟩;obtain⟨L2,hL2,hp2⟩:=Gs (b:=b) (p:=p) (s:=s1) (S:=(M7 S e).2) hT1;refine Bk (.of_perm (l':=Hi b5 2 Jl::Hi b4 0 Jl::NF b3 e::Av b p s1 (M7 S e).2 L2) hp2) ?_;refine Aj ?_;exact D8 (s1,L2,Jl,[]) ⟨hK1.mono Af,hL2,OwnSl.nil _ _⟩ ⟨rfl,rfl,rfl,trivial⟩ (by exact AR)
  rw[Ac h3] at hR;subst hR;refine Aj ?_;exact D8 (s,G,Jl,[]) ⟨hK.mono Af,.nil,OwnSl.nil _ _⟩ ⟨rfl,rfl,rfl,trivial⟩ (by exact AR)
 rintro⟨s1,L1,sl,cs⟩ ⟨hK1,hT1,ho1⟩;obtain⟨pp,cap,rfl⟩:=ho1.shape;dsimp only;have mr1:Co b p∈Av b p s1 R.2 (cs++L1):=mR λ_ h=>h;have mk1:Oc kb b∈Av b p s1 R.2 (cs++L1):=mG (λ_ h=>h) _ (Aa _ (by obtain⟨X,rfl⟩:=hT1;exact Aa _ hk));by_cases h0:R.1.2=0
 case neg=>rw[Ac h0];refine Aj ?_;exact AU (vs:=[.agg (toArray (Li R.1.2 (.slice pp R.1.1.length cap)))]) [] _ rfl .refl (Cq rfl (.tail _ (.head _)) (As.LSub.of_all (n:=2) (Li R.1.2 (.slice pp R.1.1.length cap)) rfl) .nil) (.drop (.drop (.of_perm (EF b p s1 R.2 cs L1).symm))) ⟨_,cs,s1,L1,rfl,ho1,hK1,hT1,rfl⟩
 rw[Ae h0];refine Aj ?_;refine Fy ?_;intro S2 s2 L2 hS2 hK2 hT2 mr2;obtain⟨L3,hL3,hp3⟩:=Gs (b:=b) (p:=p) (s:=s2) (S:=S2) hT2;refine Aj ?_;exact AU (vs:=[.agg (toArray (Li R.1.2 (.slice pp R.1.1.length cap)))]) [] _ rfl .refl (Cq rfl (.tail _ (.head _)) (As.LSub.of_all (n:=2) (Li R.1.2 (.slice pp R.1.1.length cap)) rfl) .nil) (.drop (.drop (.of_perm hp3))) ⟨_,cs,s2,L3,rfl,ho1,by rw[<-hS2];exact hK2,hL3.trans hT1,by rw[<-hS2]⟩
end
abbrev v6:Hs:=⟨0,0,0,qf,0,false,0,0,false⟩
theorem YF(v:Value)(xs:List Hs)(cs l:List Ab)(ho:OwnSl 69 12 v xs.length (GS xs) cs)(hs: ∀c,c∈cs->c∈l)(hx:xs.length<=1000000):
 Fn prog 53 [v] l λr l'=> ∃c2,OwnSl 69 12 r xs.length (GS xs) c2/\l'=c2++l:=by
 obtain⟨hlen,h⟩:=ho;refine AO func53 ntmps53 λE=>?_;rcases h with⟨rfl,h0,rfl⟩|⟨gb,cap,sp,rfl,rfl,hnc,hcm,hcl⟩
 ·refine Aj ?_;refine A8 .refl ?_;exact⟨[],⟨hlen,.inl ⟨rfl,h0,rfl⟩⟩,rfl⟩
 ·have hg:=hs _ Ak;refine Aj ?_;refine AS dE ?_;rintro _ _ ⟨bl,hbl,rfl,rfl⟩;refine Aj ?_;apply db
  ·apply Gk (e:=69) (k:=12) (xs:=[]) (cs:=[(bl,.cells #[] 69 (0,0))]) (F:=l) (news:=GS xs) (zs:=Ps v6) (cl:=toArray (GS xs++sp))
   ·rfl
   ·rfl
   ·rfl
   ·exact OwnSl.empty
   ·exact .tail _ hg
   ·intro j u hj;have hlt:=(Ax.1 hj).1;rw[Bw,AE,AC hlt];exact hj
   ·exact hlen
   ·exact WJ xs
   ·unfold maxLen;omega
   ·omega
  ·rfl
  ·rfl
  ·rfl
  rintro v' _ ⟨c2,ho2,rfl⟩;rw[Ag,Bw] at ho2;have hv1:v'.oneCell'=true:=ho2.one;refine Aj ?_;refine A8 .refl ?_;exact⟨c2,ho2,rfl⟩
def StOwn:List (Int×List Hs)->List Value->List Ab->Prop
 |[],rows,cs=>rows=[]/\cs=[]
 |x::r,rows,cs=> ∃v c rows' cs',OwnSl 69 12 v x.2.length (GS x.2) c/\rows=Li x.1 v++rows'/\cs=c++cs'/\StOwn r rows' cs'
theorem StOwn.snoc: ∀{st:List (Int×List Hs)} {rows:List Value} {cs:List Ab} {co:Int} {ns:List Hs} {v:Value} {c:List Ab},StOwn st rows cs->OwnSl 69 12 v ns.length (GS ns) c->StOwn (st++[(co,ns)]) (rows++Li co v) (cs++c)
 |[],_,_,co,ns,v,c,⟨h1,h2⟩,ho=>by subst h1 h2;exact⟨v,c,[],[],ho,by simp,by simp,rfl,rfl⟩
 |x::r,_,_,co,ns,v,c,⟨w,d,rows',cs',h1,h2,h3,h4⟩,ho=>⟨w,d,_,_,h1,by rw[h2,Al],by rw[h3,Al],h4.snoc ho⟩
abbrev cR(wb kb:Nat)(vt vs:Value):Ab:=(wb,.cells (toArray [pV kb,vt,vs]) 121 (0,0))
structure U9(F C k:Nat)(S:KT)(th:List Int)(st:List (Int×List Hs))(wb:Nat)(l:List Ab):Prop where
 ex: ∃b kb p s vt vs ct cs rows cn,IsK F C k S p s/\OwnSl 3 1 vt th.length (th.map CA) ct/\OwnSl 32 2 vs st.length rows cs/\StOwn st rows cn/\st.length<=100000/\l=cR wb kb vt vs::Oc kb b::(ct++(cs++(cn++Av b p s S [])))
theorem ss(b:Nat)(p:RP)(s:RL)(S:KT)(A G:List Ab):(A++(Av b p s S []++G)).Perm (Av b p s S (A++G)):=by unfold Av;exact Cc
theorem uo(b:Nat)(p:RP)(s:RL)(S:KT)(c2 A X G:List Ab):Keep (c2++Av b p s S (X++(A++G))) (A++(c2++(Av b p s S []++G))):=by unfold Av;exact AY X
theorem su(hK:IsK F C (k+WS e) S p s)(kb:Nat)(he:cQ e)(A G:List Ab)(hk:Oc kb b∈A):
 Fn prog 52 [pV kb,OX e] (A++(Av b p s S []++G)) λv l'=> ∃sl c2 s1,v= .agg (toArray (Li (Mh S e).1.2 sl))/\OwnSl 69 12 sl (Mh S e).1.1.length (GS (Mh S e).1.1) c2/\IsK F C k (Mh S e).2 p s1/\l'=A++(c2++(Av b p s1 (Mh S e).2 []++G)):=
 Fn.re (.of_perm (ss ..)) (um e hK kb (Ai _ hk) he) λv l' ⟨sl,c2,s1,L,h1,h2,h3,⟨X,h4⟩,h5⟩=>⟨_,by rw[h5,h4];exact uo ..,sl,c2,s1,h1,h2,h3,rfl⟩
theorem up(hK:IsK F C (k+WS e) S p s)(kb:Nat)(he:cQ e)(X:List Ab)(w:Ab)(ct cs cn G:List Ab):
 Fn prog 52 [pV kb,OX e] (X++(w::Oc kb b::(ct++(cs++(cn++(Av b p s S []++G)))))) λv l'=> ∃sl c2 s1,v= .agg (toArray (Li (Mh S e).1.2 sl))/\OwnSl 69 12 sl (Mh S e).1.1.length (GS (Mh S e).1.1) c2/\IsK F C k (Mh S e).2 p s1/\l'=X++(w::Oc kb b::(ct++(cs++(cn++(c2++(Av b p s1 (Mh S e).2 []++G)))))):=by
 have h:=su (b:=b) hK kb he (X++w::Oc kb b::(ct++(cs++cn))) G (by simp);simp only[Al,Ad] at h;exact h
abbrev uq:List (Option IntKind):=[some .i64,some .i64,some .u64,some .u64,some .u64,some .u64,some .u64,some .u64,none,some .i64,some .u64,none]
instance:EQ prog 69 uq:=⟨Bv⟩
theorem nr(x:Hs):AllK uq (Ps x):=IW (by rfl)
theorem ad(x y:Hs)(h:Ps x=Ps y):x=y:=by obtain⟨a1,a2,a3,⟨a4,a5,a6,a7⟩,a8,a9,b1,b2,b3⟩:=x;obtain⟨c1,c2,c3,⟨c4,c5,c6,c7⟩,c8,c9,d1,d2,d3⟩:=y;simp only[Ps,CJ,Value.int.injEq,Value.bool.injEq,KU,Ml] at h;obtain⟨h1,h2,h3,h4,h5,h6,h7,h8,h9,h10,h11,h12⟩:=h;subst h1 h2 h3 h4 h5 h6 h7 h8 h9 h10 h11 h12;rfl
set_option maxHeartbeats 400000 in
theorem NQ[DecidableEq α](enc:α->List Value)(hin: ∀x y,enc x=enc y->x=y)(hk: ∀x,AllK uq (enc x))(v u:Value)(xs ys:List α)(l:List Ab)(h1:RowSl l v 12 enc xs)(h2:RowSl l u 12 enc ys)(hx:xs.length<=1000000):
 Fn prog 35 [v,u] l λr l'=>r= .bool (decide (xs=ys))/\l'=l:=by
 obtain⟨a,ca,rfl,h1⟩:=h1;obtain⟨a',ca',rfl,h2⟩:=h2;refine AO func35 ntmps35 λE=>?_;exact q8
theorem StOwn.len: ∀{st:List (Int×List Hs)} {rows:List Value} {cn:List Ab},StOwn st rows cn->rows.length=st.length*2
 |[],_,_,⟨h,_⟩=>by rw[h];rfl
 |x::r,_,_,⟨v,c,rows',cs',_,h2,_,h4⟩=>by rw[h2,Ah,h4.len,Bi];simp only[Bi,Eh];omega
theorem StOwn.get: ∀{st:List (Int×List Hs)} {rows:List Value} {cn:List Ab} {i:Nat} {x:Int×List Hs},StOwn st rows cn->st[i]?=some x-> ∃w c,rows[i*2]?=some (iV x.1)/\rows[i*2+1]?=some w/\OwnSl 69 12 w x.2.length (GS x.2) c/\ ∀d,d∈c->d∈cn
 |[],_,_,i,x,_,h=>by simp at h
 |y::r,_,_,0,x,⟨v,c,rows',cs',h1,h2,h3,h4⟩,h=>by cases h;exact⟨v,c,by rw[h2];rfl,by rw[h2];rfl,h1,λd hd=>by rw[h3];exact Ai _ hd⟩
 |y::r,_,_,i+1,x,⟨v,c,rows',cs',h1,h2,h3,h4⟩,h=>by
  obtain⟨w,d,g1,g2,g3,g4⟩:=h4.get (i:=i) (x:=x) (by simpa using h);refine⟨w,d,?_,?_,g3,λe he=>by rw[h3];exact Aa _ (g4 e he)⟩
  ·rw[h2,AP (by simp;omega),show(i+1)*2-(Li y.1 v).length=i*2 by simp;omega];exact g1
  ·rw[h2,AP (by simp;omega),show(i+1)*2+1-(Li y.1 v).length=i*2+1 by simp;omega];exact g2
def StSl(l:List Ab)(v:Value)(st:List (Int×List Hs)):Prop:= ∃a cap,v= .slice a st.length cap/\st.length<=cap/\(0<st.length-> ∃b off cs t fz,a=some ⟨b,off,none⟩/\(b,Obj.cells cs t fz)∈l/\ ∀i x,st[i]?=some x->cs[off+i*2]?=some (iV x.1)/\ ∃w,cs[off+i*2+1]?=some w/\RowSl l w 12 Ps x.2)
theorem StSl.of{rows:List Value}{cs cn:List Ab}{n:Nat}(h:OwnSl 32 2 v n rows cs)(hn:st.length=n)(hst:StOwn st rows cn)(h1: ∀c,c∈cs->c∈l)(h2: ∀c,c∈cn->c∈l):StSl l v st:=by
 subst hn;rcases h.2 with⟨rfl,h0,rfl⟩|⟨b,cap,sp,rfl,rfl,hc,_⟩
 ·exact⟨none,0,by rw[h0],Af,λh=>by omega⟩
 ·refine⟨_,cap,rfl,hc,λh0=>⟨b,0,_,32,(0,0),rfl,h1 _ Ak,λi x hx=>?_⟩⟩;obtain⟨w,c,g1,g2,g3,g4⟩:=hst.get hx;have hi:i<st.length:=(Ax.1 hx).1;have hl:=hst.len;refine⟨?_,w,?_,OwnSl.rowSl g3 (λ_=>rfl) λd hd=>h2 _ (g4 d hd)⟩
  ·rw[Bw,AE,AC Af];exact g1
  ·rw[Bw,AE,AC Af];exact g2
theorem StSl.take{a:Option Addr}{cap:Nat}(h:StSl l (.slice a st.length cap) st)(hi:i<=st.length):StSl l (.slice a i cap) (st.take i):=by
 obtain⟨a',cap',h1,h2,h3⟩:=h;cases h1;have hl:(st.take i).length=i:=by rw[BU];omega
 refine⟨a,cap,by rw[hl],Af,λh0=>?_⟩;obtain⟨b,off,cs,t,fz,g1,g2,g3⟩:=h3 Af;refine⟨b,off,cs,t,fz,g1,g2,λj x hj=>g3 j x ?_⟩;rw[EY] at hj
 split at hj
 ·exact hj
 ·cases hj
theorem RowSl.mono'{enc:α->List Value}{xs:List α}(h:RowSl l v k enc xs)(hl: ∀c,c∈l->c∈l'):RowSl l' v k enc xs:=by obtain⟨a,cap,h1,h2⟩:=h;refine⟨a,cap,h1,λh0=>?_⟩;obtain⟨b,off,cs,t,fz,g1,g2,g3⟩:=h2 h0;exact⟨b,off,cs,t,fz,g1,hl _ g2,g3⟩
theorem StSl.mono(h:StSl l v st)(hl: ∀c,c∈l->c∈l'):StSl l' v st:=by
 obtain⟨a,cap,h1,h2,h3⟩:=h;refine⟨a,cap,h1,h2,λh0=>?_⟩;obtain⟨b,off,cs,t,fz,g1,g2,g3⟩:=h3 h0;exact⟨b,off,cs,t,fz,g1,hl _ g2,λi x hx=>by obtain⟨e1,w,e2,e3⟩:=g3 i x hx;exact⟨e1,w,e2,e3.mono' hl⟩⟩
set_option maxHeartbeats 1000000 in
theorem SP(v u:Value)(st:List (Int×List Hs))(l:List Ab)(h1:StSl l v st)(h2:StSl l u st)(hx:st.length<=1000000)(hn: ∀x,x∈st->x.2.length<=1000000):Fn prog 30 [v,u] l λr l'=>r= .bool true/\l'=l:=by
 obtain⟨a,ca,rfl,_,h1⟩:=h1;obtain⟨a',ca',rfl,_,h2⟩:=h2;refine AO func30 ntmps30 λE=>?_;refine Aj ?_;refine Cu (α:=Nat) (λk=>[(0,.slice a st.length ca),(1,.slice a' st.length ca'),(5,.int .i64 k)]) (λk=>l) (λk=>k<=st.length) (λk=>st.length-k) 0 (Bf _) ⟨rfl,rfl,rfl,trivial⟩ .refl ?_;rintro k hk;by_cases hlt:k<st.length
 ·obtain⟨b,off,cs,t,fz,rfl,hm,hc⟩:=h1 Af;obtain⟨b',off',cs',t',fz',rfl,hm',hc'⟩:=h2 Af;obtain⟨x,e1⟩: ∃x,st[k]?=some x:=⟨_,Am hlt⟩
  have hxl:=hn x (A9 e1);obtain⟨g1,w,g2,g3⟩:=hc k x e1;obtain⟨g1',w',g2',g3'⟩:=hc' k x e1;refine Aj ?_;refine Ce [] 25 _ ?_ (hR:=(λ_ h=>h));refine BI ?_;refine Vz (v:= .bool (decide (x.2=x.2))) (by refine AK (vs:=[w,w']) rfl rfl (λl2 hl=>NQ Ps ad nr w w' x.2 x.2 l2 (g3.mono' hl) (g3'.mono' hl) hxl)) rfl rfl rfl ?_;rw[At rfl];refine BI ?_;refine Aj ?_;exact BS (k+1) Af Af ⟨rfl,rfl,rfl,trivial⟩ .refl
 ·obtain rfl:k=st.length:=by omega
  exact Es
end Go.Proofs.YtlkgekpmileobaaGreat
