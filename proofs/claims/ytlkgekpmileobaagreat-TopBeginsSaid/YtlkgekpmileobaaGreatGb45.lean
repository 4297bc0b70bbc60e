/- Laws that the statement's proof leans on (joined out of several texts). -/
import Derived.Test.YtlkgekpmileobaaGreatGb8
import Derived.Test.YtlkgekpmileobaaGreatGb44
import Derived.Test.YtlkgekpmileobaaGreatGb10
import Derived.Test.YtlkgekpmileobaaGreatGb43
import Derived.Test.YtlkgekpmileobaaGreatGb40
set_option linter.unusedVariables false
set_option linter.unusedSimpArgs false
namespace Go.Proofs.YtlkgekpmileobaaGreat
open Tryz
open List(toArray)
open Go.RowKit
set_option maxRecDepth 20000
variable{F C k b r:Nat}{S:KT}{p:RP}{s:RL}{G T lo L:List Ab}{o:Obj}{α:Type}
section
section
variable{P:Program}{ro:Option Nat}{N:Nat}{E:World}{ops:Array Oper}{Q:Exit->Act->World->Prop}{rest:List Oper}{fr:Fr}{ds:List Deferred}{l:List Ab}{d f k':Nat}{x:Operand}{xs:List Operand}{vs:List Value}{at_:Array TypeId}{ty:TypeId}{pos:String}{aft:Array Edge}{g:Option (Nat×Bool)}{S':KT}{ns:List Hs}
theorem uZ{Γ:List Ab->List Ab}(h: ∀G,Fn P f vs (Av b p s S G) (uY F C b p k' ns S' G))(hk: ∀sl cs S1 s' L,S1=S'->OwnSl 69 12 sl ns.length (GS ns) cs->IsK F C k' S1 p s'->Tail L (cs++G)->Co b p∈Av b p s' S1 L->Df P ro N E ops Q rest ((d,sl)::fr) ds (Γ (Av b p s' S1 L)))(hx:ev fr x=some (.func (.func f) #[] #[]):=by rfl)(hy:PX fr xs=some vs:=by rfl)(hF:Fr1 (Av b p s S G) l Γ:=by exact Zr)(c:EN P f:=by infer_instance)(hw:Pz ops fr g=some true:=by rfl)(hb:Nat.blt d N=true:=by rfl):Df P ro N E ops Q (⟨some d,.call {callee:= .value x,args:=xs.toArray,argTypes:=at_},ty,pos,aft,g⟩::rest) fr ds l:=by
 obtain⟨A,rfl,hA⟩:=hF.eq;refine It (Az hx hy (Fn.re (.of_perm (EF b p s S A G)) (h (A++G)) (K':=λv l'=> ∃cs s' L,OwnSl 69 12 v ns.length (GS ns) cs/\IsK F C k' S' p s'/\Tail L (cs++G)/\l'=Γ (Av b p s' S' L)) λv l' ⟨cs,s',L,h2,h3,⟨X,h4⟩,h5⟩=>⟨Γ (Av b p s' S' (X++(cs++G))),?_,cs,s',_,h2,h3,⟨X,rfl⟩,rfl⟩)) hw rfl hb λv l' ⟨cs,s',L,h2,h3,h4,h5⟩=>by rw[h5];exact hk v cs S' s' L rfl h2 h3 h4 (mR λ_ h=>h)
 rw[h5,h4,hA];refine .of_perm ?_;unfold Av;exact Cc
end
def SN(S:KT)(core:Int)(x:U0):(Int×Int)×KT:=if x.wr=true then((0,(iS S core x.va x.vl).1),(iS S core x.va x.vl).2) else go S core x.va
def sa(id v:Int):Hs:=⟨id,0,v,qf,0,false,0,0,false⟩
abbrev sc:U0:=⟨false,false,0,0⟩
def sZ(S:KT)(core:Int)(x:U0)(t:Th.ThT):List Hs×KT:=
 if ¬(SN S core x).1.2=0 then N7 (SN S core x).2 t ⟨true,x.wr,x.va,if x.wr=true then x.vl else 0⟩ ⟨(SN S core x).1.2,x.va,x.wr⟩
 else([sa t.id (SN S core x).1.1],DS (SN S core x).2 (OW t sc))
def SO(S:KT)(core:Int)(x:U0):(List Hs×Int)×KT:=
 if ¬(Lg S core).2=0 then(([],(Lg S core).2),S) else(((sZ S core x (Lg S core).1).1,0),(sZ S core x (Lg S core).1).2)
def WK(S:KT)(core:Int):(List Hs×Int)×KT:=
 if ¬(Lg S core).2=0 then(([],(Lg S core).2),S) else if(Lg S core).1.hs=false then(([],2),S)
 else SO S core ⟨(Lg S core).1.hs,(Lg S core).1.wr,(Lg S core).1.va,(Lg S core).1.vl⟩
theorem WL(S:KT)(core va:Int)(wr:Bool):0<=(ES S core va wr).1.2/\(ES S core va wr).1.2<=100:=by
 unfold ES
 repeat' split
 all_goals first|exact⟨by decide,by decide⟩|(constructor<;>dsimp only<;>omega)
theorem pu(S:KT)(core:Int)(x:U0):0<=(SN S core x).1.2/\(SN S core x).1.2<=100:=by
 have h1:=WL S core x.va true;have h2:=WL S core x.va false;unfold SN iS go
 split
 ·split
  ·exact h1
  ·dsimp only;split<;>exact⟨by decide,by decide⟩
 ·split
  ·exact h2
  ·split<;>(constructor<;>dsimp only<;>omega)
theorem Yx(hK:IsK F C k S p s)(core:Int):TW (Lg S core).1:=by
 unfold Lg
 split
 ·exact⟨Lf,Lf⟩
 split
 ·exact⟨Lf,Lf⟩
 ·exact hK.tO _
set_option maxHeartbeats 4000000 in
theorem ib(hK:IsK F C (k+2) S p s)(core:Int)(x:U0)[hva:U6 x.va][hvl:U6 x.vl]:Fn prog 107 [pV b,.int .i64 core,pn x] (Av b p s S G) (KN F C b p k (SO S core x).1.1 (SO S core x).1.2 (SO S core x).2 G):=by
 have mr:Co b p∈Av b p s S G:=mR λ_ h=>h;have htw:=Yx hK core;have hkd:=pu S core x;obtain⟨R,hR⟩: ∃R,SO S core x=R:=⟨_,rfl⟩
 rw[hR];unfold SO at hR;refine AO func107 ntmps107 λE=>?_;refine AQ λb5=>?_;refine Ea ?_;obtain⟨w,hw⟩: ∃w,Lg S core=w:=⟨_,rfl⟩
 rw[hw] at hR htw⊢;obtain⟨t,ht⟩: ∃t,w.1=t:=⟨_,rfl⟩
 rw[ht] at hR htw⊢;refine AQ λb8=>?_;by_cases h0:w.2=0
 case neg=>rw[Ae h0] at hR;subst hR;refine Aj ?_;exact Fk
 rw[Ac (λh=>h h0)] at hR;unfold sZ SN at hR;unfold SN at hkd;obtain⟨xh,xw,xa,xv⟩:=x;dsimp only at hva hvl hR hkd⊢;refine AQ λb11=>?_;cases xw with
 |true=>
  simp only[CT] at hR hkd;obtain⟨q,hq⟩: ∃q,iS S core xa xv=q:=⟨_,rfl⟩
  rw[hq] at hR hkd;refine Aj ?_;refine Ch (Cf [9,10] 0 11) ?_;refine Ci ?_;refine Lj ?_;intro S1 s1 L1 hS1 hK1 hT1 mr1;rw[hq] at hS1⊢;rw[<-hS1] at hR;by_cases h1:q.1=0
  ·rw[Ac (λh=>h h1)] at hR;rw[show dg q.1 xa true=W6 0 0 false from Ae h1];refine Ci ?_;refine Aj ?_;refine Ch (Cf [3] 0 4) ?_;refine Ci ?_;refine Lj (q:=M0 (OW t sc) ⟨Lf,Lf⟩) ?_;intro S2 s2 L2 hS2 hK2 hT2 mr2;rw[show DS S1 (OW t sc)=S2 from hS2.symm] at hR;refine Ci ?_;refine Aj ?_;refine AS (E3 (ws:=Ps (sa t.id 0)) (k:=12) rfl rfl rfl AW AW) ?_;rintro _ _ ⟨bn,_,rfl,rfl⟩;refine Aj ?_;subst hR;exact AU [] _ rfl .refl (by exact A7) (l':=[SL bn (sa t.id 0)]++Av b p s2 S2 L2) (by exact AR) ⟨_,_,s2,L2,rfl,⟨rfl,.inr ⟨bn,1,[],rfl,rfl,A5 _,by unfold maxLen;omega,rfl⟩⟩,hK2.mono Af,hT2.trans hT1,rfl⟩
  ·rw[Ae h1] at hR;rw[show dg q.1 xa true=W6 q.1 xa true from Ac h1];refine Ci ?_;refine Aj ?_;refine uZ (vs:=[pV b,Th.thV t,pn ⟨true,true,xa,xv⟩,uf ⟨q.1,xa,true⟩]) (λG=>Z3 hK1 t ⟨true,true,xa,xv⟩ ⟨q.1,xa,true⟩ ⟨hva.out,hvl.out⟩ hkd) ?_;intro sl cs S2 s2 L2 hS2 ho2 hK2 hT2 mr2;refine Aj ?_;obtain⟨L4,hL4,hp4⟩:=Gs (b:=b) (p:=p) (s:=s2) (S:=S2) hT2;subst hR;exact AU [] _ rfl .refl (by exact A7) (.drop (.drop (.drop (.of_perm hp4)))) ⟨sl,cs,s2,L4,rfl,ho2,by rw[<-hS2];exact hK2,hL4.trans hT1,by rw[<-hS2]⟩
 |false=>
  simp only[Bg,CS] at hR hkd;obtain⟨q,hq⟩: ∃q,go S core xa=q:=⟨_,rfl⟩
  rw[hq] at hR hkd;refine Aj ?_;refine Ch (Cf [7,12] 0 13) ?_;refine Ci ?_;refine Lj ?_;intro S1 s1 L1 hS1 hK1 hT1 mr1;rw[hq] at hS1⊢;rw[<-hS1] at hR;by_cases h1:q.1.2=0
  ·rw[Ac (λh=>h h1)] at hR;rw[show dg q.1.2 xa false=W6 0 0 false from Ae h1];refine Ci ?_;refine Aj ?_;refine Ch (Cf [3] 0 4) ?_;refine Ci ?_;refine Lj (q:=M0 (OW t sc) ⟨Lf,Lf⟩) ?_;intro S2 s2 L2 hS2 hK2 hT2 mr2;rw[show DS S1 (OW t sc)=S2 from hS2.symm] at hR;refine Ci ?_;refine Aj ?_;refine AS (E3 (ws:=Ps (sa t.id q.1.1)) (k:=12) rfl rfl rfl AW AW) ?_;rintro _ _ ⟨bn,_,rfl,rfl⟩;refine Aj ?_;subst hR;exact AU [] _ rfl .refl (by exact A7) (l':=[SL bn (sa t.id q.1.1)]++Av b p s2 S2 L2) (by exact AR) ⟨_,_,s2,L2,rfl,⟨rfl,.inr ⟨bn,1,[],rfl,rfl,A5 _,by unfold maxLen;omega,rfl⟩⟩,hK2.mono Af,hT2.trans hT1,rfl⟩
  ·rw[Ae h1] at hR;rw[show dg q.1.2 xa false=W6 q.1.2 xa false from Ac h1];refine Ci ?_;refine Aj ?_;refine uZ (vs:=[pV b,Th.thV t,pn ⟨true,false,xa,0⟩,uf ⟨q.1.2,xa,false⟩]) (λG=>Z3 hK1 t ⟨true,false,xa,0⟩ ⟨q.1.2,xa,false⟩ ⟨hva.out,Lf⟩ hkd) ?_;intro sl cs S2 s2 L2 hS2 ho2 hK2 hT2 mr2;refine Aj ?_;obtain⟨L4,hL4,hp4⟩:=Gs (b:=b) (p:=p) (s:=s2) (S:=S2) hT2;subst hR;exact AU [] _ rfl .refl (by exact A7) (.drop (.drop (.drop (.of_perm hp4)))) ⟨sl,cs,s2,L4,rfl,ho2,by rw[<-hS2];exact hK2,hL4.trans hT1,by rw[<-hS2]⟩
set_option maxHeartbeats 1000000 in
theorem sg(hK:IsK F C (k+2) S p s)(core:Int):Fn prog 106 [pV b,.int .i64 core] (Av b p s S G) (KN F C b p k (WK S core).1.1 (WK S core).1.2 (WK S core).2 G):=by
 have mr:Co b p∈Av b p s S G:=mR λ_ h=>h;have htw:=Yx hK core;obtain⟨R,hR⟩: ∃R,WK S core=R:=⟨_,rfl⟩
 rw[hR];unfold WK at hR;refine AO func106 ntmps106 λE=>?_;refine Aj ?_;refine Ea ?_;obtain⟨w,hw⟩: ∃w,Lg S core=w:=⟨_,rfl⟩
 rw[hw] at hR htw⊢;obtain⟨t,ht⟩: ∃t,w.1=t:=⟨_,rfl⟩
 rw[ht] at hR htw⊢;refine AQ λb6=>?_;by_cases h0:w.2=0
 case neg=>rw[Ae h0] at hR;subst hR;refine Aj ?_;exact Fk
 rw[Ac (λh=>h h0)] at hR;cases h1:t.hs with
 |false=>rw[Ae h1] at hR;subst hR;refine Aj ?_;exact Fk
 |true=>
 rw[Ac (by rw[h1];decide),h1] at hR;have hva:U6 (⟨true,t.wr,t.va,t.vl⟩:U0).va:=⟨htw.out.1⟩
 have hvl:U6 (⟨true,t.wr,t.va,t.vl⟩:U0).vl:=⟨htw.out.2⟩
 refine Aj ?_;refine qi (vs:=[pV b,.int .i64 core,pn ⟨true,t.wr,t.va,t.vl⟩]) (λG=>ib hK core ⟨true,t.wr,t.va,t.vl⟩) ?_ (hy:=by first|rfl|(rw[<-h1];rfl));intro sl cs S2 s2 L2 hS2 ho2 hK2 hT2 mr2;refine Aj ?_;obtain⟨L4,hL4,hp4⟩:=Gs (b:=b) (p:=p) (s:=s2) (S:=S2) hT2;subst hR;exact AU [] _ rfl .refl (by exact A7) (.drop (.of_perm hp4)) ⟨sl,cs,s2,L4,rfl,ho2,by rw[<-hS2];exact hK2,hL4,by rw[<-hS2]⟩
end
def G7(op:Int):Bool×Bool:=
 if op=17\/op=18 then(false,false)
 else if op=1\/op=2\/op=3\/op=4\/op=5\/op=8\/op=10\/op=12\/op=13\/op=19 then(true,true) else(true,false)
theorem Yy(op:Int)(l:List Ab):Fn prog 159 [.int .i64 op] l λv l'=>v= .tuple #[.bool (G7 op).1,.bool (G7 op).2]/\l'=l:=by
 obtain⟨R,hR⟩: ∃R,G7 op=R:=⟨_,rfl⟩
 rw[hR];unfold G7 at hR;refine AO func159 ntmps159 λE=>?_;refine Aj ?_;by_cases h1:op=17
 ·rw[Ae Af] at hR;subst hR;refine Aj ?_;exact qr
 by_cases h2:op=18
 ·rw[Ae Af] at hR;subst hR;refine Aj ?_;exact qr
 rw[Ac Af] at hR;by_cases g1:op=1
 ·rw[Ae Af] at hR;subst hR;refine Aj ?_;exact qr
 by_cases g2:op=2
 ·rw[Ae Af] at hR;subst hR;refine Aj ?_;exact qr
 by_cases g3:op=3
 ·rw[Ae Af] at hR;subst hR;refine Aj ?_;exact qr
 by_cases g4:op=4
 ·rw[Ae Af] at hR;subst hR;refine Aj ?_;exact qr
 by_cases g5:op=5
 ·rw[Ae Af] at hR;subst hR;refine Aj ?_;exact qr
 by_cases g6:op=8
 ·rw[Ae Af] at hR;subst hR;refine Aj ?_;exact qr
 by_cases g7:op=10
 ·rw[Ae Af] at hR;subst hR;refine Aj ?_;exact qr
 by_cases g8:op=12
 ·rw[Ae Af] at hR;subst hR;refine Aj ?_;exact qr
 by_cases g9:op=13
 ·rw[Ae Af] at hR;subst hR;refine Aj ?_;exact qr
 by_cases g10:op=19
 ·rw[Ae Af] at hR;subst hR;refine Aj ?_;exact qr
 rw[Ac Af] at hR;subst hR;refine Aj ?_;exact qr
instance{op:Int}{l:List Ab}:QF prog 159 [.int .i64 op] l (.tuple #[.bool (G7 op).1,.bool (G7 op).2]):=⟨λl _=>Yy op l⟩
def PU(S:KT)(t:Int)(o:IO)(x:CB):Option ((List Hs×Int)×KT):=
 if o.op=14\/o.op=15 then some (Jr S t x o.ms o.n0 (decide (o.op=15)))
 else if o.op=16 then some (OV S t x o.n0)
 else if o.op=17 then some (LS S t o.ms)
 else none
section
def vW(F C b:Nat)(p:RP)(k:Nat)(S:KT)(G:List Ab)(R:Option ((List Hs×Int)×KT)):Value->List Ab->Prop:=λv l'=>match R with
 |none=>v= .tuple #[.slice none 0 0,iV 0,.bool false]/\ ∃s L,IsK F C (k+2) S p s/\Tail L G/\l'=Av b p s S L
 |some r=> ∃sl cs s L,v= .tuple #[sl,iV r.1.2,.bool true]/\OwnSl 69 12 sl r.1.1.length (GS r.1.1) cs/\IsK F C k r.2 p s/\Tail L G/\l'=cs++Av b p s r.2 L
set_option maxHeartbeats 4000000 in
theorem pw(hK:IsK F C (k+2) S p s)(t:Int)(o:IO)(x y:CB):Fn prog 161 [M4 b t o x y] (Av b p s S G) (vW F C b p k S G (PU S t o x)):=by
 have mr:Co b p∈Av b p s S G:=mR λ_ h=>h;obtain⟨R,hR⟩: ∃R,PU S t o x=R:=⟨_,rfl⟩
 rw[hR];unfold PU at hR;have z0:(toArray (iW b t o x y))[2+4+(0:Int).toNat*1]?=some (iV o.n0):=rfl;refine AO func161 ntmps161 λE=>?_;refine AQ λb1=>?_;by_cases h1:o.op=14
 ·rw[Ae Af] at hR;refine Aj ?_;refine qi (vs:=[pV b,.int .i64 t,Fp x,iT o.ms,.int .i64 o.n0,.bool (decide (o.op=15))]) (λG=>Yv hK t x o.ms o.n0 (decide (o.op=15))) ?_;intro sl cs S2 s2 L2 hS2 ho2 hK2 hT2 mr2;subst hS2;refine Aj ?_;obtain⟨L3,hL3,hp3⟩:=Gs (b:=b) (p:=p) (s:=s2) hT2;subst hR;exact Cy (vs:=[sl,iV (Jr S t x o.ms o.n0 (decide (o.op=15))).1.2,.bool true]) _ .refl (Keep.trans (.drop .refl) (.of_perm hp3)) ⟨sl,cs,s2,L3,rfl,ho2,hK2,hL3,rfl⟩
 by_cases h2:o.op=15
 ·rw[Ae Af] at hR;refine Aj ?_;refine qi (vs:=[pV b,.int .i64 t,Fp x,iT o.ms,.int .i64 o.n0,.bool (decide (o.op=15))]) (λG=>Yv hK t x o.ms o.n0 (decide (o.op=15))) ?_;intro sl cs S2 s2 L2 hS2 ho2 hK2 hT2 mr2;subst hS2;refine Aj ?_;obtain⟨L3,hL3,hp3⟩:=Gs (b:=b) (p:=p) (s:=s2) hT2;subst hR;exact Cy (vs:=[sl,iV (Jr S t x o.ms o.n0 (decide (o.op=15))).1.2,.bool true]) _ .refl (Keep.trans (.drop .refl) (.of_perm hp3)) ⟨sl,cs,s2,L3,rfl,ho2,hK2,hL3,rfl⟩
 rw[Ac Af] at hR;by_cases h3:o.op=16
 ·rw[Ae h3] at hR;refine Aj ?_;refine qi (vs:=[pV b,.int .i64 t,Fp x,.int .i64 o.n0]) (λG=>pm hK t x o.n0) ?_;intro sl cs S2 s2 L2 hS2 ho2 hK2 hT2 mr2;subst hS2;refine Aj ?_;obtain⟨L3,hL3,hp3⟩:=Gs (b:=b) (p:=p) (s:=s2) hT2;subst hR;exact Cy (vs:=[sl,iV (OV S t x o.n0).1.2,.bool true]) _ .refl (Keep.trans (.drop .refl) (.of_perm hp3)) ⟨sl,cs,s2,L3,rfl,ho2,hK2,hL3,rfl⟩
 rw[Ac h3] at hR;by_cases h4:o.op=17
 ·rw[Ae h4] at hR;refine Aj ?_;refine qi (vs:=[pV b,.int .i64 t,iT o.ms]) (λG=>lr hK t o.ms) ?_;intro sl cs S2 s2 L2 hS2 ho2 hK2 hT2 mr2;subst hS2;refine Aj ?_;obtain⟨L3,hL3,hp3⟩:=Gs (b:=b) (p:=p) (s:=s2) hT2;subst hR;exact AU (vs:=[sl,iV (LS S t o.ms).1.2,.bool true]) [] _ rfl .refl (by exact A7) (Keep.trans (.drop .refl) (.of_perm hp3)) ⟨sl,cs,s2,L3,rfl,ho2,hK2.mono Af,hL3,rfl⟩
 rw[Ac h4] at hR;subst hR;refine Aj ?_;exact Cy _ .refl (.drop .refl) ⟨rfl,s,G,hK,.nil,rfl⟩
end
theorem sk(e:RJ):U6 (OK e).1:=by
 unfold OK
 split
 ·rename_i h;unfold SF at h;have h1:=KF e.vd;have h2:=KF e.lf;have h3:=KF e.rd;have h4:=KF e.wr;have h5:0<=e.fr/\e.fr<64:=by
   split at h
   ·have h6:e=XU:=by simpa using h
    rw[h6];exact⟨by decide,by decide⟩
   ·split at h
    ·cases h
    ·omega
  refine⟨⟨?_,?_⟩⟩<;>dsimp only<;>omega
 ·exact⟨by decide,by decide⟩
section
theorem IsK.lvU(h:IsK F C k S p s){r pg:Int}{q:Int×Int}(hq:q∈mZ S.W r pg):U6 q.2:=by
 unfold mZ at hq
 split at hq
 ·cases hq
 rcases Aq.1 hq with rfl|hq
 ·exact h.atU _ _ _
 split at hq
 ·cases hq
 rw[AA.1 hq];exact h.atU _ _ _
abbrev sm(f:Int):RJ:=⟨true,false,false,false,f⟩
def px(S:KT)(f obj se pg:Int)(q:Int×Int):KT:={S with W:=(bD (jV S.W f 1).2 q.2 (OK (sm f)).1).2,A:=(Ar.placeD S.A obj se pg q.1).2}
def Sh(S:KT)(x y:CB)(va:Int):Int×KT:=
 if ¬(E7 S x 4/\E7 S y 5) then(8,S)
 else if(As.ofP S.N (D5 S y).obj).2.2=false then(15,S)
 else if ¬(Gr va).2=0 then(3,S)
 else if(Fi S (D5 S x).obj).2=true then(13,S)
 else match(mZ S.W (LM S (D5 S y).obj) (Gr va).1).find? λq=>decide ((Np S.W q.2).1=0) with
  |some q=>(0,px S (LM S (D5 S x).obj) (D5 S x).obj (As.ofP S.N (D5 S y).obj).2.1 (Gr va).1 q)
  |none=>(11,S)
theorem ly{f:α->Bool}{pre:List α}{q:α}{l:List α}(h:pre++[q]<+:l)(hn: ∀x,x∈pre->f x=false)(hq:f q=true):l.find? f=some q:=by obtain⟨t,rfl⟩:=h;rw[Al,DP,Bu.2 (λx hx=>by simp[hn x hx])];simp[hq]
theorem lz{f:α->Bool}{l:List α}(hn: ∀x,x∈l->f x=false):l.find? f=none:=Bu.2 λx hx=>by simp[hn x hx]
theorem py:((lo++Av b p s S G)++(r,o)::T).Perm (lo++(r,o)::Av b p s S (G++T)):=by unfold Av;exact Cc
theorem lB(h:L=lo):((lo++Av b p s S G)++(r,o)::T).Perm (L++(r,o)::Av b p s S (G++T)):=by rw[h];exact py
theorem ic(h:L=lo):(L++(r,o)::Av b p s S (G++T)).Perm ((lo++Av b p s S G)++(r,o)::T):=by rw[h];unfold Av;exact Cc
theorem lC{L2:List Ab}(hT:Tail L2 (L++T)): ∃L',Tail L' L/\ ∀(lo:List Ab) (r:Nat) (o:Obj),(lo++(r,o)::Av b p s S L2).Perm ((lo++Av b p s S L')++(r,o)::T):=by obtain⟨X,rfl⟩:=hT;exact⟨X++L,⟨X,rfl⟩,λlo r o=>by unfold Av;exact Cc⟩
abbrev Tj(B:Nat)(x:Int):Ab:=(B,.cells (toArray [iV x]) 29 (0,0))
set_option maxHeartbeats 1000000 in
theorem pA(hK:IsK F C k S p s)(x y:CB)(va:Int)[hu:U6 va]:Fn prog 215 [pV b,Fp x,Fp y,Ba va] (Av b p s S G) (KK F C b p k (iV (Sh S x y va).1) (Sh S x y va).2 G):=by
 have mr:Co b p∈Av b p s S G:=mR λ_ h=>h;obtain⟨R,hR⟩: ∃R,Sh S x y va=R:=⟨_,rfl⟩
 rw[hR];unfold Sh at hR;refine WC func215 rfl rfl λE=>?_;simp only[Ub,ntmps215];refine AQ λb4=>?_;refine AQ λb5=>?_;refine AQ λb6=>?_;refine AS (Dy (k:=3) (n:=2) (e:=458) (zs:=Mk (0,0) 0) (cs:=Mk x 4++Mk y 5) rfl AW AW rfl (Qw x y 4 5)) ?_;rintro _ _ ⟨bw,_,rfl,rfl⟩;refine J8 ?_;refine AS (Az rfl rfl (Qv hK bw x y 4 5 _ (λc hc=> .tail _ (.tail _ (.tail _ (.tail _ hc)))) (.head _))) ?_;rintro _ _ (⟨hk,u,cs,ho,rfl,rfl⟩|⟨hk,rfl,rfl⟩)
 case' inr=>
  rw[Ae hk] at hR;subst hR;refine AQ λb9=>?_;exact A4
 rw[Ac (λh=>h hk)] at hR;obtain⟨gb,cap,sp,rfl,rfl⟩:=Mg ho Af;rw[Ca];obtain⟨c,hc⟩: ∃c,D5 S x=c:=⟨_,rfl⟩
 obtain⟨d,hd⟩: ∃d,D5 S y=d:=⟨_,rfl⟩
 rw[hc,hd] at hR⊢;have z0:(toArray (BR c++BR d++sp))[0+(0:Int).toNat*8+1]?=some (.int .i64 c.obj):=rfl;have z1:(toArray (BR c++BR d++sp))[0+(1:Int).toNat*8+1]?=some (.int .i64 d.obj):=rfl;obtain⟨cd,hcd⟩: ∃r,BR c++BR d++sp=r:=⟨_,rfl⟩
 rw[hcd] at z0 z1⊢;refine AQ λb9=>?_;refine Ch (Cf [11,13] 0 15) ?_;refine Ci ?_;obtain⟨o,ho⟩: ∃o,As.ofP S.N d.obj=o:=⟨_,rfl⟩
 rw[ho] at hR⊢;refine Hf e_alloc (by rintro _ _ ⟨_,_,_,rfl⟩ c hc;exact .tail _ hc) ?_;rintro _ _ ⟨b12,_,rfl,rfl⟩;refine Ci ?_;refine J8 ?_;refine Ea ?_;obtain⟨g,hg⟩: ∃g,Gr va=g:=⟨_,rfl⟩
 rw[hg] at hR⊢;refine AQ λb14=>?_;cases h1:o.2.2 with
 |false=>rw[Ae h1] at hR;subst hR;refine J8 ?_;exact A4
 |true=>
 rw[Ac (by simp[h1])] at hR;refine J8 ?_;by_cases h2:g.2=0
 case neg=>rw[Ae h2] at hR;subst hR;refine J8 ?_;exact A4
 rw[Ac (by simpa using h2)] at hR;refine J8 ?_;refine Ch (Cf [] 0 7) ?_;refine Ci ?_;cases h3:(Fi S c.obj).2 with
 |true=>rw[Ae h3] at hR;subst hR;refine J8 ?_;exact A4
 |false=>
 rw[Ac (by simp[h3])] at hR;refine J8 ?_;refine Ch (Cf [6,7] 0 8) ?_;refine Ci ?_;obtain⟨f,hf⟩: ∃f,LM S c.obj=f:=⟨_,rfl⟩
 rw[hf] at hR⊢;refine Hf e_alloc (by rintro _ _ ⟨_,_,_,rfl⟩ c hc;exact .tail _ hc) ?_;rintro _ _ ⟨b15,_,rfl,rfl⟩;refine Ci ?_;refine AQ λb16=>?_;obtain⟨pg,hpg⟩: ∃x,g.1=x:=⟨_,rfl⟩
 obtain⟨se,hse⟩: ∃x,o.2.1=x:=⟨_,rfl⟩
 rw[hpg,hse] at hR⊢;refine Ch (Cf [8] 0 9) ?_;refine Ci ?_;obtain⟨rt,hrt⟩: ∃x,LM S d.obj=x:=⟨_,rfl⟩
 rw[hrt] at hR⊢;refine Ju (Az rfl rfl (gl rt pg _)) ?_ rfl rfl;rintro _ _ ⟨B3,B4,B5,rfl,rfl⟩;refine Ci ?_;obtain⟨gm,f1,f2,hW,hU,hM⟩:=hK.mem;obtain⟨lo,hlo⟩: ∃lo,[BG B5 pg,BG B4 rt,rB B3 b,Tj b16 11,BG b15 f,BG b14 pg,BG b12 se,(b9,Obj.cells (toArray [Value.slice (some ⟨gb,0,none⟩) 2 cap]) 405 (0,0)),(gb,Obj.cells (toArray cd) 74 (0,0)),rB b4 b]=lo:=⟨_,rfl⟩
 refine J8 ?_;refine gB rfl ?_;refine CU (α:=Int×Int) (ps:=[80,81]) (lb:=[pV B3,pV B4,pV B5]) rfl (Wz B3 B4 B5 b gm F p S.W f2 hW hU rt pg) (λ_=>rfl) rfl
  (λpre l=>(∀q,q∈pre->decide ((Np S.W q.2).1=0)=false)/\l=lo++Av b p s S G)
  (λco pre l=>co= .exit 1/\ ∃pre0 q s' L',pre=pre0++[q]/\(∀q,q∈pre0->decide ((Np S.W q.2).1=0)=false)/\decide ((Np S.W q.2).1=0)=true/\IsK F C k (px S f c.obj se pg q) p s'/\Tail L' G/\l=[Tj b16 0]++Av b p s' (px S f c.obj se pg q) L')
  (lo++Av b p s S G) [] (λpre l X hX h=>by obtain⟨_,rfl⟩:=h;rw[<-hlo];have m1:=mM (b:=b) (p:=p) (s:=s) (S:=S) (G:=G) (l:=Av b p s S G) (λ_ h=>h);rw[hM] at m1;exact⟨by simp,by simp,by simp,by simp[mr],by simp[m1],by simp[m1]⟩) (by rw[Be,<-hlo];exact AR) ⟨λ_ h=>(nomatch h),rfl⟩ ?_ ?_ ?_
 ·rintro E r0 rec pre q l' X ⟨fn,tmps,D,hrec⟩ hX ⟨hn,rfl⟩ hsp;have hqm:q∈mZ S.W rt pg:=hsp.subset (by simp);have hqU:=hK.lvU hqm;obtain⟨lv,qa⟩:=q;refine DQ (.of_perm (lB (L:=[BG B5 pg,BG B4 rt,rB B3 b,Tj b16 11,BG b15 f,BG b14 pg,BG b12 se,(b9,Obj.cells (toArray [Value.slice (some ⟨gb,0,none⟩) 2 cap]) 405 (0,0)),(gb,Obj.cells (toArray cd) 74 (0,0)),rB b4 b]) hlo)) ?_;have mr1:Co b p∈Av b p s S (G++X):=mR λ_ h=>h;simp only[Du,Ad,Ag];rw[hrec];refine J8 ?_;refine Cp (by exact Dw) ?_;rw[<-hrec];obtain⟨lp,hlp⟩: ∃lp:Ab,(r0,Obj.loop (rec .busy none))=lp:=⟨_,rfl⟩
  rw[hlp];refine oX ?_;intro Q' hQ';refine J8 ?_;refine Ea ?_;refine J8 ?_;refine Ea ?_;obtain⟨w,hw⟩: ∃w,Np S.W qa=w:=⟨_,rfl⟩
  rw[hw];refine J8 ?_;by_cases h5:w.1=0
  case neg=>
   refine J8 ?_;refine rT hQ' ?_;subst hlp hrec;exact B9 (lo++Av b p s S G) (Keep.of_perm (ic (L:=[BG B5 pg,BG B4 rt,rB B3 b,Tj b16 11,BG b15 f,BG b14 pg,BG b12 se,(b9,Obj.cells (toArray [Value.slice (some ⟨gb,0,none⟩) 2 cap]) 405 (0,0)),(gb,Obj.cells (toArray cd) 74 (0,0)),rB b4 b]) hlo)) ⟨λz hz=>by
    rcases AF.1 hz with hz|hz
    ·exact hn z hz
    ·rw[AA.1 hz];simp[hw,h5],rfl⟩
  refine J8 ?_;refine Ea (q:=(⟨λl _=>Wl (sm f) l⟩:QF prog 295 [Wk (sm f)] _ _)) ?_;have heU:=sk (sm f);obtain⟨ew,hew⟩: ∃w,OK (sm f)=w:=⟨_,rfl⟩
  rw[hew] at heU⊢;refine J8 ?_;try simp only[AL,AI,AN]
  refine Ch (Cf [3] 0 4) ?_;refine Ci ?_;refine Lj ?_;intro S1 s1 L1 hS1 hK1 hT1 mr1;refine Ci ?_;refine J8 ?_;refine Ea ?_;refine J8 ?_;refine Fy ?_;intro S2 s2 L2 hS2 hK2 hT2 mr2;refine J8 ?_;refine Ch (Cf [9] 0 10) ?_;refine Ci ?_;refine Lj ?_;intro S3 s3 L3 hS3 hK3 hT3 mr3;refine Ci ?_;refine J8 ?_;have hS:S3=px S f c.obj se pg (lv,qa):=by unfold px;rw[hew,hS3,hS2,hS1]
  clear hS3 hR;subst hS;obtain⟨L',hL',hp⟩:=lC (b:=b) (p:=p) (s:=s3) (S:=px S f c.obj se pg (lv,qa)) (hT3.trans (hT2.trans hT1));refine rT hQ' ?_;subst hlp hrec;exact Et ([Tj b16 0]++Av b p s3 (px S f c.obj se pg (lv,qa)) L') (Keep.right (by exact AR) (hp [Tj b16 0] r0 _)) ⟨rfl,pre,(lv,qa),s3,L',rfl,hn,by simp[hw,h5],hK3,hL',rfl⟩
 ·rintro D xs l' rfl ⟨hn,rfl⟩;rw[lz hn] at hR;subst hR;rw[<-hlo];simp only[Ad,Ag,Be];refine J8 ?_;exact AU [D] _ rfl .refl (by exact A7) (by exact AR) ⟨rfl,s,G,hK,.nil,rfl⟩
 ·rintro D co pre l' hsp ⟨rfl,pre0,q,s',L',rfl,hn,hq,hK',hT,rfl⟩;rw[ly hsp hn hq] at hR;subst hR;simp only[Ad,Ag,Be];refine J8 ?_;exact AU [D] _ rfl .refl (by exact A7) (by exact AR) ⟨rfl,s',L',hK',hT,rfl⟩
instance{x y:CB}{va:Int}[hu:U6 va]:EK prog F C b p 215 [pV b,Fp x,Fp y,Ba va] k S k (iV (Sh S x y va).1) (Sh S x y va).2:=⟨λs G h=>pA h x y va⟩
end
section
abbrev sn(m f:Int):RJ:=⟨true,true,decide (¬KB m 1=0),decide (¬KB m 2=0),f⟩
def u5(S:KT)(x:CB)(c:CapT)(n se pg a m:Int):KT:={S with W:=(bD S.W a (OK (sn m (LM S c.obj))).1).2,H:=(OH S.H x {c with serial:=se,page:=pg}).2,K:=IN S.K (Jk n pg)}
def Si(S:KT)(x y:CB)(va ri:Int):Int×KT:=
 if ¬(E7 S x 3/\E7 S y 5) then(8,S)
 else if(As.ofP S.N (D5 S y).obj).2.2=false then(15,S)
 else if ¬(Gr va).2=0 then(3,S)
 else if ¬va%64=0 then(4,S)
 else if ri<1\/3<ri\/KB ri (D5 S x).rights=0 then(9,S)
 else if(Fj S (D5 S x)).2=true/\(¬(D5 S x).serial=(As.ofP S.N (D5 S y).obj).2.1\/¬(D5 S x).page=(Gr va).1) then(13,S)
 else if ¬(O5 S.W (LM S (D5 S y).obj) (Gr va).1 3).2=0 then(14,S)
 else if ¬(Np S.W (O5 S.W (LM S (D5 S y).obj) (Gr va).1 3).1).1=0/\(Fj S (D5 S x)).2=false then(11,S)
 else(0,u5 S x (D5 S x) (As.ofP S.N (D5 S y).obj).1 (As.ofP S.N (D5 S y).obj).2.1 (Gr va).1 (O5 S.W (LM S (D5 S y).obj) (Gr va).1 3).1 (KB ri (D5 S x).rights))
set_option maxHeartbeats 1000000 in
theorem pB(hK:IsK F C k S p s)(x y:CB)(va ri:Int)[hu:U6 va]:Fn prog 217 [pV b,Fp x,Fp y,Ba va,.int .i64 ri] (Av b p s S G) (KK F C b p k (iV (Si S x y va ri).1) (Si S x y va ri).2 G):=by
 have mr:Co b p∈Av b p s S G:=mR λ_ h=>h;have hw:=hK.cw x;obtain⟨u0,u1⟩:=hu.out;obtain⟨R,hR⟩: ∃R,Si S x y va ri=R:=⟨_,rfl⟩
 rw[hR];unfold Si at hR;refine AO func217 ntmps217 λE=>?_;refine AQ λb6=>?_;refine AQ λb7=>?_;refine AS (Dy (k:=3) (n:=2) (e:=458) (zs:=Mk (0,0) 0) (cs:=Mk x 3++Mk y 5) rfl AW AW rfl (Qw x y 3 5)) ?_;rintro _ _ ⟨bw,_,rfl,rfl⟩;refine Aj ?_;refine AS (Az rfl rfl (Qv hK bw x y 3 5 _ (λc hc=> .tail _ (.tail _ (.tail _ hc))) (.head _))) ?_;rintro _ _ (⟨hk,u,cs,ho,rfl,rfl⟩|⟨hk,rfl,rfl⟩)
 case' inr=>
  rw[Ae hk] at hR;subst hR;refine Aj ?_;exact A4
 rw[Ac (λh=>h hk)] at hR;obtain⟨gb,cap,sp,rfl,rfl⟩:=Mg ho Af;rw[Ca];obtain⟨c,hc⟩: ∃c,D5 S x=c:=⟨_,rfl⟩
 obtain⟨d,hd⟩: ∃d,D5 S y=d:=⟨_,rfl⟩
 rw[hc] at hw;rw[hc,hd] at hR⊢;have z0:(toArray (BR c++BR d++sp)).extract (0+(0:Int).toNat*8) (0+(0:Int).toNat*8+8)=toArray (BR c):=by rw[Al];exact ZP c _
 have z1:(toArray (BR c++BR d++sp))[0+(1:Int).toNat*8+1]?=some (.int .i64 d.obj):=rfl;refine Aj ?_;refine Bc (Dm rfl (.head _) (by show 0+(0:Int).toNat*8+8<=(BR c++BR d++sp).length;simp) z0) ?_;refine AQ λb13=>?_;refine Ch (Cf [] 0 14) ?_;refine Ci ?_;obtain⟨o,ho⟩: ∃o,As.ofP S.N d.obj=o:=⟨_,rfl⟩
 rw[ho] at hR⊢;refine Ci ?_;refine Aj ?_;refine Ea ?_;obtain⟨g,hg⟩: ∃g,Gr va=g:=⟨_,rfl⟩
 rw[hg] at hR⊢;refine Aj ?_;refine Ea ?_;obtain⟨fk,hfk⟩: ∃x,(Fj S c).2=x:=⟨_,rfl⟩
 rw[hfk] at hR⊢;refine Aj ?_;cases h1:o.2.2 with
 |false=>rw[Ae h1] at hR;subst hR;refine Aj ?_;exact A4
 |true=>
 rw[Ac (by simp[h1])] at hR;refine Aj ?_;by_cases h2:g.2=0
 case neg=>rw[Ae h2] at hR;subst hR;refine Aj ?_;exact A4
 rw[Ac (by simpa using h2)] at hR;refine Aj ?_;by_cases h3:va%64=0
 case neg=>rw[Ae h3] at hR;subst hR;refine Aj ?_;exact A4
 rw[Ac (by simpa using h3)] at hR;obtain⟨m,hm⟩: ∃m,KB ri c.rights=m:=⟨_,rfl⟩
 rw[hm] at hR;by_cases h4:ri<1\/3<ri
 ·rw[Ae Af] at hR;subst hR;by_cases h5:ri<1<;>by_cases h6:3<ri;all_goals first
   |(exfalso;omega)
   |(refine Aj ?_
     exact A4)
 obtain⟨h5,h6⟩:¬ri<1/\¬3<ri:=by omega
 refine Aj ?_;refine Vu (Jy rfl rfl) rfl rfl rfl rfl rfl rfl ?_;rw[hm];by_cases h7:m=0
 ·rw[Ae Af] at hR;subst hR;refine Aj ?_;exact A4
 rw[Ac Af] at hR;refine Aj ?_;obtain⟨pg,hpg⟩: ∃x,g.1=x:=⟨_,rfl⟩
 obtain⟨se,hse⟩: ∃x,o.2.1=x:=⟨_,rfl⟩
 rw[hpg,hse] at hR⊢;by_cases h8:fk=true/\(¬c.serial=se\/¬c.page=pg)
 ·rw[Ae h8] at hR;subst hR;obtain⟨rfl,h8⟩:=h8;by_cases h9:c.serial=se<;>by_cases h10:c.page=pg;all_goals first
   |(exfalso;omega)
   |(refine Aj ?_
     exact A4)
 rw[Ac h8] at hR;have haU:=hK.atU (LM S d.obj) pg 3;cases fk
 case' true=>
  obtain⟨h9,h10⟩:c.serial=se/\c.page=pg:=by simpa using h8
 all_goals
  refine Aj ?_;refine Ch (Cf [] 0 15) ?_;refine Ci ?_;try simp only[AL,AI,AN]
  refine Ci ?_;obtain⟨a,ha⟩: ∃a,O5 S.W (LM S d.obj) pg 3=a:=⟨_,rfl⟩
  rw[ha] at hR haU⊢;refine Ci ?_;refine Aj ?_;by_cases h11:a.2=0
  case neg=>rw[Ae h11] at hR;subst hR;refine Aj ?_;exact A4
  rw[Ac (by simpa using h11)] at hR;refine Aj ?_;try simp only[AL,AI,AN]
  refine Ea ?_;refine Aj ?_;refine Ea ?_;obtain⟨w,hw1⟩: ∃w,Np S.W a.1=w:=⟨_,rfl⟩
  rw[hw1] at hR⊢;by_cases h12:w.1=0;all_goals first
   |(rw[Ae ⟨h12,rfl⟩] at hR
     subst hR;refine Aj ?_;exact A4)
   |(rw[Ac (by simp[h12])] at hR
     subst hR;unfold u5;obtain⟨fi,hfi⟩: ∃x,LM S c.obj=x:=⟨_,rfl⟩
     rw[hfi];have heU:=sk (sn m fi);have hw2:CW {c with serial:=se,page:=pg}:=⟨hw.out.1,hw.out.2⟩
     refine Aj ?_;refine Bc (Jy rfl rfl) ?_;rw[hm];refine Aj ?_;refine Bc (Jy rfl rfl) ?_;refine Aj ?_;refine Bc (Jy rfl rfl) ?_;refine Aj ?_;refine Ea ?_;rw[hfi];refine Aj ?_;refine Ea (q:=(⟨λl _=>Wl (sn m fi) l⟩:QF prog 295 [Wk (sn m fi)] _ _)) ?_;obtain⟨ew,hew⟩: ∃w,OK (sn m fi)=w:=⟨_,rfl⟩
     rw[hew] at heU⊢;refine Aj ?_;try simp only[AL,AI,AN]
     refine Ea ?_;refine Aj ?_;refine Fy ?_;intro S1 s1 L1 hS1 hK1 hT1 mr1;refine Aj ?_;refine Ch (Cf [4] 0 5) ?_;refine Ci ?_;refine Lj (q:=mY (x:=x) (c:={c with serial:=se,page:=pg})) ?_;intro S2 s2 L2 hS2 hK2 hT2 mr2;refine Ci ?_;refine Aj ?_;refine Ea ?_;refine Aj ?_;refine Fy ?_;intro S3 s3 L3 hS3 hK3 hT3 mr3;refine Aj ?_;have hS:S3={S with W:=(bD S.W a.1 ew.1).2,H:=(OH S.H x {c with serial:=se,page:=pg}).2,K:=IN S.K (Jk o.1 pg)}:=by rw[hS3,hS2,hS1]
     exact A4)
instance{x y:CB}{va ri:Int}[hu:U6 va]:EK prog F C b p 217 [pV b,Fp x,Fp y,Ba va,.int .i64 ri] k S k (iV (Si S x y va ri).1) (Si S x y va ri).2:=⟨λs G h=>pB h x y va ri⟩
end
end Go.Proofs.YtlkgekpmileobaaGreat
