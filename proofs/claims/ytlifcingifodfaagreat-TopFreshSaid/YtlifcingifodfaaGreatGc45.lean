/- Laws that the statement's proof leans on (joined out of several texts). -/
import Derived.Test.YtlifcingifodfaaGreatGc44
set_option maxHeartbeats 4000000
set_option linter.unusedVariables false
set_option linter.unusedSimpArgs false
namespace Go.Proofs.YtlifcingifodfaaGreat
open Tryz
open List(toArray)
open Go.RowKit
set_option maxRecDepth 20000
variable{F C k b r:Nat}{S:KT}{p:RP}{s:RL}{G T lo L:Ad}{o:Obj}{α:Type}
section
section
variable{P:Program}{ro:Option Nat}{N:Nat}{E:World}{ops:Array Oper}{Q:Exit->Act->World->Prop}{A0:List Oper}{fr:Fr}{ds:List Deferred}{l:Ad}{d f k':Nat}{x:Operand}{xs:List Operand}{vs:Ap}{at_:Array TypeId}{ty:TypeId}{pos:String}{aft:Array Edge}{g:Option (Nat×Bool)}{S':KT}{ns:List Ii}
theorem tkl{Γ:Ad->Ad}(h: ∀G,Fn P f vs (Aw b p s S G) (KNl F C b p k' ns S' G))(hk: ∀sl cs S1 s' L,S1=S'->OwnSl 69 12 sl ns.length (HW ns) cs->IsK F C k' S1 p s'->Tail L (cs++G)->CD b p∈Aw b p s' S1 L->Dz P ro N E ops Q A0 ((d,sl)::fr) ds (Γ (Aw b p s' S1 L)))(hx:ev fr x=some (.func (.func f) #[] #[]):=by rfl)(hy:RS fr xs=some vs:=by rfl)(hF:Fr1 (Aw b p s S G) l Γ:=by exact dI)(c:EN P f:=by infer_instance)(hw:Rr ops fr g=some true:=by rfl)(hb:Nat.blt d N=true:=by rfl):Dz P ro N E ops Q (⟨some d,.call {callee:= .value x,args:=xs.toArray,argTypes:=at_},ty,pos,aft,g⟩::A0) fr ds l:=by
 obtain⟨A,rfl,hA⟩:=hF.eq;refine Jr (AA hx hy (Fn.re (.of_perm (Fi b p s S A G)) (h (A++G)) (K':=λv l'=> ∃cs s' L,OwnSl 69 12 v ns.length (HW ns) cs/\IsK F C k' S' p s'/\Tail L (cs++G)/\l'=Γ (Aw b p s' S' L)) λv l' ⟨cs,s',L,h2,h3,⟨X,h4⟩,h5⟩=>⟨Γ (Aw b p s' S' (X++(cs++G))),?_,cs,s',_,h2,h3,⟨X,rfl⟩,rfl⟩)) hw rfl hb λv l' ⟨cs,s',L,h2,h3,h4,h5⟩=>by rw[h5];exact hk v cs S' s' L rfl h2 h3 h4 (mR λ_ h=>h)
 rw[h5,h4,hA];refine .of_perm ?_;unfold Aw;exact B0
end
def R5(S:KT)(core:Int)(x:Ux):(Int×Int)×KT:=if x.wr=true then((0,(nm S core x.va x.vl).1),(nm S core x.va x.vl).2) else ju S core x.va
def okN(id v:Int):Ii:=⟨id,0,v,yS,0,false,0,0,false⟩
abbrev yV:Ux:=⟨false,false,0,0⟩
def doR(S:KT)(core:Int)(x:Ux)(t:Th.ThT):List Ii×KT:=
 if ¬(R5 S core x).1.2=0 then Nf (R5 S core x).2 t ⟨true,x.wr,x.va,if x.wr=true then x.vl else 0⟩ ⟨(R5 S core x).1.2,x.va,x.wr⟩
 else([okN t.id (R5 S core x).1.1],DV (R5 S core x).2 (NE t yV))
def R6(S:KT)(core:Int)(x:Ux):(List Ii×Int)×KT:=
 if ¬(MA S core).2=0 then(([],(MA S core).2),S) else(((doR S core x (MA S core).1).1,0),(doR S core x (MA S core).1).2)
def U5(S:KT)(core:Int):(List Ii×Int)×KT:=
 if ¬(MA S core).2=0 then(([],(MA S core).2),S) else if(MA S core).1.hs=false then(([],2),S)
 else R6 S core ⟨(MA S core).1.hs,(MA S core).1.wr,(MA S core).1.va,(MA S core).1.vl⟩
theorem Zh(S:KT)(core va:Int)(wr:Bool):0<=(findA S core va wr).1.2/\(findA S core va wr).1.2<=100:=by
 unfold findA
 repeat' split
 all_goals first|exact⟨by decide,by decide⟩|(constructor<;>dsimp only<;>omega)
theorem xF(S:KT)(core:Int)(x:Ux):0<=(R5 S core x).1.2/\(R5 S core x).1.2<=100:=by
 have h1:=Zh S core x.va true;have h2:=Zh S core x.va false;unfold R5 nm ju
 split
 ·split
  ·exact h1
  ·dsimp only;split<;>exact⟨by decide,by decide⟩
 ·split
  ·exact h2
  ·split<;>(constructor<;>dsimp only<;>omega)
theorem bR(hK:IsK F C k S p s)(core:Int):TW (MA S core).1:=by
 unfold MA
 split
 ·exact⟨Mz,Mz⟩
 split
 ·exact⟨Mz,Mz⟩
 ·exact hK.tO _
theorem nU(hK:IsK F C (k+2) S p s)(core:Int)(x:Ux)[yx:U6 x.va][u7:U6 x.vl]:Fn prog 106 [pV b,.int .i64 core,xE x] (Aw b p s S G) (KN F C b p k (R6 S core x).1.1 (R6 S core x).1.2 (R6 S core x).2 G):=by
 have mr:CD b p∈Aw b p s S G:=mR λ_ h=>h;have Jq:=bR hK core;have ZM:=xF S core x;obtain⟨R,hR⟩: ∃R,R6 S core x=R:=⟨_,rfl⟩
 rw[hR];unfold R6 at hR;refine AO func106 ntmps106 λE=>?_;refine AQ λb5=>?_;refine EI ?_;obtain⟨w,hw⟩: ∃w,MA S core=w:=⟨_,rfl⟩
 rw[hw] at hR Jq⊢;obtain⟨t,ht⟩: ∃t,w.1=t:=⟨_,rfl⟩
 rw[ht] at hR Jq⊢;refine AQ λb8=>?_;by_cases h0:w.2=0
 case neg=>rw[Ac h0] at hR;subst hR;refine Aj ?_;exact FZ
 rw[Ab (λh=>h h0)] at hR;unfold doR R5 at hR;unfold R5 at ZM;obtain⟨xh,xw,xa,xv⟩:=x;dsimp only at yx u7 hR ZM⊢;refine AQ λLT=>?_;cases xw with
 |true=>
  simp only[C6] at hR ZM;obtain⟨q,hq⟩: ∃q,nm S core xa xv=q:=⟨_,rfl⟩
  rw[hq] at hR ZM;refine Aj ?_;refine Cx (Cr [9,10] 0 11) ?_;refine CC ?_;refine MG ?_;intro S1 s1 L1 EA Ey DL GI;rw[hq] at EA⊢;rw[<-EA] at hR;by_cases h1:q.1=0
  ·rw[Ab (λh=>h h1)] at hR;rw[show jt q.1 xa true=ZA 0 0 false from Ac h1];refine CC ?_;refine Aj ?_;refine Cx (Cr [3] 0 4) ?_;refine CC ?_;refine MG (q:=Ow (NE t yV) ⟨Mz,Mz⟩) ?_;intro S2 s2 L2 hS2 FT FL HP;rw[show DV S1 (NE t yV)=S2 from hS2.symm] at hR;refine CC ?_;refine Aj ?_;refine AR (FB (ws:=R2 (okN t.id 0)) (k:=12) rfl rfl rfl AZ AZ) ?_;rintro _ _ ⟨bn,_,rfl,rfl⟩;refine Aj ?_;subst hR;exact AV [] _ rfl .refl (by exact Ba) (l':=[U4 bn (okN t.id 0)]++Aw b p s2 S2 L2) (by exact AU) ⟨_,_,s2,L2,rfl,⟨rfl,.inr ⟨bn,1,[],rfl,rfl,Bd _,by unfold maxLen;omega,rfl⟩⟩,FT.mono Af,FL.trans DL,rfl⟩
  ·rw[Ac h1] at hR;rw[show jt q.1 xa true=ZA q.1 xa true from Ab h1];refine CC ?_;refine Aj ?_;refine tkl (vs:=[pV b,Th.thV t,xE ⟨true,true,xa,xv⟩,ftV ⟨q.1,xa,true⟩]) (λG=>eU Ey t ⟨true,true,xa,xv⟩ ⟨q.1,xa,true⟩ ⟨yx.out,u7.out⟩ ZM) ?_;intro sl cs S2 s2 L2 hS2 FK FT FL HP;refine Aj ?_;obtain⟨L4,hL4,hp4⟩:=Hc (b:=b) (p:=p) (s:=s2) (S:=S2) FL;subst hR;exact AV [] _ rfl .refl (by exact Ba) (.drop (.drop (.drop (.of_perm hp4)))) ⟨sl,cs,s2,L4,rfl,FK,by rw[<-hS2];exact FT,hL4.trans DL,by rw[<-hS2]⟩
 |false=>
  simp only[Bl,C3] at hR ZM;obtain⟨q,hq⟩: ∃q,ju S core xa=q:=⟨_,rfl⟩
  rw[hq] at hR ZM;refine Aj ?_;refine Cx (Cr [7,12] 0 13) ?_;refine CC ?_;refine MG ?_;intro S1 s1 L1 EA Ey DL GI;rw[hq] at EA⊢;rw[<-EA] at hR;by_cases h1:q.1.2=0
  ·rw[Ab (λh=>h h1)] at hR;rw[show jt q.1.2 xa false=ZA 0 0 false from Ac h1];refine CC ?_;refine Aj ?_;refine Cx (Cr [3] 0 4) ?_;refine CC ?_;refine MG (q:=Ow (NE t yV) ⟨Mz,Mz⟩) ?_;intro S2 s2 L2 hS2 FT FL HP;rw[show DV S1 (NE t yV)=S2 from hS2.symm] at hR;refine CC ?_;refine Aj ?_;refine AR (FB (ws:=R2 (okN t.id q.1.1)) (k:=12) rfl rfl rfl AZ AZ) ?_;rintro _ _ ⟨bn,_,rfl,rfl⟩;refine Aj ?_;subst hR;exact AV [] _ rfl .refl (by exact Ba) (l':=[U4 bn (okN t.id q.1.1)]++Aw b p s2 S2 L2) (by exact AU) ⟨_,_,s2,L2,rfl,⟨rfl,.inr ⟨bn,1,[],rfl,rfl,Bd _,by unfold maxLen;omega,rfl⟩⟩,FT.mono Af,FL.trans DL,rfl⟩
  ·rw[Ac h1] at hR;rw[show jt q.1.2 xa false=ZA q.1.2 xa false from Ab h1];refine CC ?_;refine Aj ?_;refine tkl (vs:=[pV b,Th.thV t,xE ⟨true,false,xa,0⟩,ftV ⟨q.1.2,xa,false⟩]) (λG=>eU Ey t ⟨true,false,xa,0⟩ ⟨q.1.2,xa,false⟩ ⟨yx.out,Mz⟩ ZM) ?_;intro sl cs S2 s2 L2 hS2 FK FT FL HP;refine Aj ?_;obtain⟨L4,hL4,hp4⟩:=Hc (b:=b) (p:=p) (s:=s2) (S:=S2) FL;subst hR;exact AV [] _ rfl .refl (by exact Ba) (.drop (.drop (.drop (.of_perm hp4)))) ⟨sl,cs,s2,L4,rfl,FK,by rw[<-hS2];exact FT,hL4.trans DL,by rw[<-hS2]⟩
theorem Abi(hK:IsK F C (k+2) S p s)(core:Int):Fn prog 105 [pV b,.int .i64 core] (Aw b p s S G) (KN F C b p k (U5 S core).1.1 (U5 S core).1.2 (U5 S core).2 G):=by
 have mr:CD b p∈Aw b p s S G:=mR λ_ h=>h;have Jq:=bR hK core;obtain⟨R,hR⟩: ∃R,U5 S core=R:=⟨_,rfl⟩
 rw[hR];unfold U5 at hR;refine AO func105 ntmps105 λE=>?_;refine Aj ?_;refine EI ?_;obtain⟨w,hw⟩: ∃w,MA S core=w:=⟨_,rfl⟩
 rw[hw] at hR Jq⊢;obtain⟨t,ht⟩: ∃t,w.1=t:=⟨_,rfl⟩
 rw[ht] at hR Jq⊢;refine AQ λb6=>?_;by_cases h0:w.2=0
 case neg=>rw[Ac h0] at hR;subst hR;refine Aj ?_;exact FZ
 rw[Ab (λh=>h h0)] at hR;cases h1:t.hs with
 |false=>rw[Ac h1] at hR;subst hR;refine Aj ?_;exact FZ
 |true=>
 rw[Ab (by rw[h1];decide),h1] at hR;have yx:U6 (⟨true,t.wr,t.va,t.vl⟩:Ux).va:=⟨Jq.out.1⟩
 have u7:U6 (⟨true,t.wr,t.va,t.vl⟩:Ux).vl:=⟨Jq.out.2⟩
 refine Aj ?_;refine yU (vs:=[pV b,.int .i64 core,xE ⟨true,t.wr,t.va,t.vl⟩]) (λG=>nU hK core ⟨true,t.wr,t.va,t.vl⟩) ?_ (hy:=by first|rfl|(rw[<-h1];rfl));intro sl cs S2 s2 L2 hS2 FK FT FL HP;refine Aj ?_;obtain⟨L4,hL4,hp4⟩:=Hc (b:=b) (p:=p) (s:=s2) (S:=S2) FL;subst hR;exact AV [] _ rfl .refl (by exact Ba) (.drop (.of_perm hp4)) ⟨sl,cs,s2,L4,rfl,FK,by rw[<-hS2];exact FT,hL4,by rw[<-hS2]⟩
end
def HX(op:Int):Bool×Bool:=
 if op=17\/op=18 then(false,false)
 else if op=1\/op=2\/op=3\/op=4\/op=5\/op=8\/op=10\/op=12\/op=13\/op=19 then(true,true) else(true,false)
theorem bS(op:Int)(l:Ad):Fn prog 158 [.int .i64 op] l λv l'=>v= .tuple #[.bool (HX op).1,.bool (HX op).2]/\l'=l:=by
 obtain⟨R,hR⟩: ∃R,HX op=R:=⟨_,rfl⟩
 rw[hR];unfold HX at hR;refine AO func158 ntmps158 λE=>?_;refine Aj ?_;by_cases h1:op=17
 ·rw[Ac Af] at hR;subst hR;refine Aj ?_;exact qr
 by_cases h2:op=18
 ·rw[Ac Af] at hR;subst hR;refine Aj ?_;exact qr
 rw[Ab Af] at hR;by_cases g1:op=1
 ·rw[Ac Af] at hR;subst hR;refine Aj ?_;exact qr
 by_cases g2:op=2
 ·rw[Ac Af] at hR;subst hR;refine Aj ?_;exact qr
 by_cases g3:op=3
 ·rw[Ac Af] at hR;subst hR;refine Aj ?_;exact qr
 by_cases g4:op=4
 ·rw[Ac Af] at hR;subst hR;refine Aj ?_;exact qr
 by_cases g5:op=5
 ·rw[Ac Af] at hR;subst hR;refine Aj ?_;exact qr
 by_cases g6:op=8
 ·rw[Ac Af] at hR;subst hR;refine Aj ?_;exact qr
 by_cases g7:op=10
 ·rw[Ac Af] at hR;subst hR;refine Aj ?_;exact qr
 by_cases g8:op=12
 ·rw[Ac Af] at hR;subst hR;refine Aj ?_;exact qr
 by_cases g9:op=13
 ·rw[Ac Af] at hR;subst hR;refine Aj ?_;exact qr
 by_cases g10:op=19
 ·rw[Ac Af] at hR;subst hR;refine Aj ?_;exact qr
 rw[Ab Af] at hR;subst hR;refine Aj ?_;exact qr
instance{op:Int}{l:Ad}:QF prog 158 [.int .i64 op] l (.tuple #[.bool (HX op).1,.bool (HX op).2]):=⟨λl _=>bS op l⟩
def Nq(S:KT)(t:Int)(o:IY)(x:Ck):Option ((List Ii×Int)×KT):=
 if o.op=14\/o.op=15 then some (Jn S t x o.ms o.n0 (decide (o.op=15)))
 else if o.op=16 then some (OF S t x o.n0)
 else if o.op=17 then some (Lb S t o.ms)
 else none
section
def KNs(F C b:Nat)(p:RP)(k:Nat)(S:KT)(G:Ad)(R:Option ((List Ii×Int)×KT)):Value->Ad->Prop:=λv l'=>match R with
 |none=>v= .tuple #[.slice none 0 0,iV 0,.bool false]/\ ∃s L,IsK F C (k+2) S p s/\Tail L G/\l'=Aw b p s S L
 |some r=> ∃sl cs s L,v= .tuple #[sl,iV r.1.2,.bool true]/\OwnSl 69 12 sl r.1.1.length (HW r.1.1) cs/\IsK F C k r.2 p s/\Tail L G/\l'=cs++Aw b p s r.2 L
theorem xG(hK:IsK F C (k+2) S p s)(t:Int)(o:IY)(x y:Ck):Fn prog 160 [OD b t o x y] (Aw b p s S G) (KNs F C b p k S G (Nq S t o x)):=by
 have mr:CD b p∈Aw b p s S G:=mR λ_ h=>h;obtain⟨R,hR⟩: ∃R,Nq S t o x=R:=⟨_,rfl⟩
 rw[hR];unfold Nq at hR;have z0:(toArray (px b t o x y))[2+4+(0:Int).toNat*1]?=some (iV o.n0):=rfl;refine AO func160 ntmps160 λE=>?_;refine AQ λb1=>?_;by_cases h1:o.op=14
 ·rw[Ac Af] at hR;refine Aj ?_;refine yU (vs:=[pV b,.int .i64 t,F4 x,pu o.ms,.int .i64 o.n0,.bool (decide (o.op=15))]) (λG=>bO hK t x o.ms o.n0 (decide (o.op=15))) ?_;intro sl cs S2 s2 L2 hS2 FK FT FL HP;subst hS2;refine Aj ?_;obtain⟨L3,hL3,XH⟩:=Hc (b:=b) (p:=p) (s:=s2) FL;subst hR;exact CM (vs:=[sl,iV (Jn S t x o.ms o.n0 (decide (o.op=15))).1.2,.bool true]) _ .refl (Keep.trans (.drop .refl) (.of_perm XH)) ⟨sl,cs,s2,L3,rfl,FK,FT,hL3,rfl⟩
 by_cases h2:o.op=15
 ·rw[Ac Af] at hR;refine Aj ?_;refine yU (vs:=[pV b,.int .i64 t,F4 x,pu o.ms,.int .i64 o.n0,.bool (decide (o.op=15))]) (λG=>bO hK t x o.ms o.n0 (decide (o.op=15))) ?_;intro sl cs S2 s2 L2 hS2 FK FT FL HP;subst hS2;refine Aj ?_;obtain⟨L3,hL3,XH⟩:=Hc (b:=b) (p:=p) (s:=s2) FL;subst hR;exact CM (vs:=[sl,iV (Jn S t x o.ms o.n0 (decide (o.op=15))).1.2,.bool true]) _ .refl (Keep.trans (.drop .refl) (.of_perm XH)) ⟨sl,cs,s2,L3,rfl,FK,FT,hL3,rfl⟩
 rw[Ab Af] at hR;by_cases h3:o.op=16
 ·rw[Ac h3] at hR;refine Aj ?_;refine yU (vs:=[pV b,.int .i64 t,F4 x,.int .i64 o.n0]) (λG=>xD hK t x o.n0) ?_;intro sl cs S2 s2 L2 hS2 FK FT FL HP;subst hS2;refine Aj ?_;obtain⟨L3,hL3,XH⟩:=Hc (b:=b) (p:=p) (s:=s2) FL;subst hR;exact CM (vs:=[sl,iV (OF S t x o.n0).1.2,.bool true]) _ .refl (Keep.trans (.drop .refl) (.of_perm XH)) ⟨sl,cs,s2,L3,rfl,FK,FT,hL3,rfl⟩
 rw[Ab h3] at hR;by_cases h4:o.op=17
 ·rw[Ac h4] at hR;refine Aj ?_;refine yU (vs:=[pV b,.int .i64 t,pu o.ms]) (λG=>ss hK t o.ms) ?_;intro sl cs S2 s2 L2 hS2 FK FT FL HP;subst hS2;refine Aj ?_;obtain⟨L3,hL3,XH⟩:=Hc (b:=b) (p:=p) (s:=s2) FL;subst hR;exact AV (vs:=[sl,iV (Lb S t o.ms).1.2,.bool true]) [] _ rfl .refl (by exact Ba) (Keep.trans (.drop .refl) (.of_perm XH)) ⟨sl,cs,s2,L3,rfl,FK,FT.mono Af,hL3,rfl⟩
 rw[Ab h4] at hR;subst hR;refine Aj ?_;exact CM _ .refl (.drop .refl) ⟨rfl,s,G,hK,.nil,rfl⟩
end
theorem Abj(e:T5):U6 (Qm e).1:=by
 unfold Qm
 split
 ·rename_i h;unfold UY at h;have h1:=LS e.vd;have h2:=LS e.lf;have h3:=LS e.rd;have h4:=LS e.wr;have h5:0<=e.fr/\e.fr<64:=by
   split at h
   ·have h6:e=aN:=by simpa using h
    rw[h6];exact⟨by decide,by decide⟩
   ·split at h
    ·cases h
    ·omega
  refine⟨⟨?_,?_⟩⟩<;>dsimp only<;>omega
 ·exact⟨by decide,by decide⟩
section
theorem IsK.lvU(h:IsK F C k S p s){r pg:Int}{q:Int×Int}(hq:q∈uo S.W r pg):U6 q.2:=by
 unfold uo at hq
 split at hq
 ·cases hq
 rcases At.1 hq with rfl|hq
 ·exact h.atU _ _ _
 split at hq
 ·cases hq
 rw[AE.1 hq];exact h.atU _ _ _
abbrev enF(f:Int):T5:=⟨true,false,false,false,f⟩
def xH(S:KT)(f obj se pg:Int)(q:Int×Int):KT:={S with W:=(gX (YK S.W f 1).2 q.2 (Qm (enF f)).1).2,A:=(Ar.placeD S.A obj se pg q.1).2}
def QB(S:KT)(x y:Ck)(va:Int):Int×KT:=
 if ¬(FE S x 4/\FE S y 5) then(8,S)
 else if(As.ofP S.N (Ec S y).obj).2.2=false then(15,S)
 else if ¬(G1 va).2=0 then(3,S)
 else if(FX S (Ec S x).obj).2=true then(13,S)
 else match(uo S.W (Nd S (Ec S y).obj) (G1 va).1).find? λq=>decide ((O1 S.W q.2).1=0) with
  |some q=>(0,xH S (Nd S (Ec S x).obj) (Ec S x).obj (As.ofP S.N (Ec S y).obj).2.1 (G1 va).1 q)
  |none=>(11,S)
theorem sx{f:α->Bool}{pre:List α}{q:α}{l:List α}(h:pre++[q]<+:l)(hn: ∀x,x∈pre->f x=false)(hq:f q=true):l.find? f=some q:=by obtain⟨t,rfl⟩:=h;rw[Am,Eh,Br.2 (λx hx=>by simp[hn x hx])];simp[hq]
theorem sy{f:α->Bool}{l:List α}(hn: ∀x,x∈l->f x=false):l.find? f=none:=Br.2 λx hx=>by simp[hn x hx]
theorem xI:((lo++Aw b p s S G)++(r,o)::T).Perm (lo++(r,o)::Aw b p s S (G++T)):=by unfold Aw;exact B0
theorem sA(h:L=lo):((lo++Aw b p s S G)++(r,o)::T).Perm (L++(r,o)::Aw b p s S (G++T)):=by rw[h];exact xI
theorem nW(h:L=lo):(L++(r,o)::Aw b p s S (G++T)).Perm ((lo++Aw b p s S G)++(r,o)::T):=by rw[h];unfold Aw;exact B0
theorem sB{L2:Ad}(hT:Tail L2 (L++T)): ∃L',Tail L' L/\ ∀(lo:Ad) (r:Nat) (o:Obj),(lo++(r,o)::Aw b p s S L2).Perm ((lo++Aw b p s S L')++(r,o)::T):=by obtain⟨X,rfl⟩:=hT;exact⟨X++L,⟨X,rfl⟩,λlo r o=>by unfold Aw;exact B0⟩
abbrev Vv(B:Nat)(x:Int):Bg:=(B,.cells (toArray [iV x]) 29 (0,0))
theorem xJ(hK:IsK F C k S p s)(x y:Ck)(va:Int)[hu:U6 va]:Fn prog 214 [pV b,F4 x,F4 y,Bc va] (Aw b p s S G) (KK F C b p k (iV (QB S x y va).1) (QB S x y va).2 G):=by
 have mr:CD b p∈Aw b p s S G:=mR λ_ h=>h;obtain⟨R,hR⟩: ∃R,QB S x y va=R:=⟨_,rfl⟩
 rw[hR];unfold QB at hR;refine Y9 func214 rfl rfl λE=>?_;simp only[Wl,ntmps214];refine AQ λb4=>?_;refine AQ λb5=>?_;refine AQ λb6=>?_;refine AR (D1 (k:=3) (n:=2) (e:=457) (zs:=NJ (0,0) 0) (cs:=NJ x 4++NJ y 5) rfl AZ AZ rfl (SC x y 4 5)) ?_;rintro _ _ ⟨bw,_,rfl,rfl⟩;refine Lm ?_;refine AR (AA rfl rfl (SA hK bw x y 4 5 _ (λc hc=> .tail _ (.tail _ (.tail _ (.tail _ hc)))) (.head _))) ?_;rintro _ _ (⟨hk,u,cs,ho,rfl,rfl⟩|⟨hk,rfl,rfl⟩)
 case' inr=>
  rw[Ac hk] at hR;subst hR;refine AQ λb9=>?_;exact A9
 rw[Ab (λh=>h hk)] at hR;obtain⟨gb,cap,sp,rfl,rfl⟩:=ND ho Af;rw[Ci];obtain⟨c,hc⟩: ∃c,Ec S x=c:=⟨_,rfl⟩
 obtain⟨d,hd⟩: ∃d,Ec S y=d:=⟨_,rfl⟩
 rw[hc,hd] at hR⊢;have z0:(toArray (B9 c++B9 d++sp))[0+(0:Int).toNat*8+1]?=some (.int .i64 c.obj):=rfl;have z1:(toArray (B9 c++B9 d++sp))[0+(1:Int).toNat*8+1]?=some (.int .i64 d.obj):=rfl;obtain⟨cd,hcd⟩: ∃r,B9 c++B9 d++sp=r:=⟨_,rfl⟩
 rw[hcd] at z0 z1⊢;refine AQ λb9=>?_;refine Cx (Cr [11,13] 0 15) ?_;refine CC ?_;obtain⟨o,ho⟩: ∃o,As.ofP S.N d.obj=o:=⟨_,rfl⟩
 rw[ho] at hR⊢;refine Id e_alloc (by rintro _ _ ⟨_,_,_,rfl⟩ c hc;exact .tail _ hc) ?_;rintro _ _ ⟨SP,_,rfl,rfl⟩;refine CC ?_;refine Lm ?_;refine EI ?_;obtain⟨g,hg⟩: ∃g,G1 va=g:=⟨_,rfl⟩
 rw[hg] at hR⊢;refine AQ λZN=>?_;cases h1:o.2.2 with
 |false=>rw[Ac h1] at hR;subst hR;refine Lm ?_;exact A9
 |true=>
 rw[Ab (by simp[h1])] at hR;refine Lm ?_;by_cases h2:g.2=0
 case neg=>rw[Ac h2] at hR;subst hR;refine Lm ?_;exact A9
 rw[Ab (by simpa using h2)] at hR;refine Lm ?_;refine Cx (Cr [] 0 7) ?_;refine CC ?_;cases h3:(FX S c.obj).2 with
 |true=>rw[Ac h3] at hR;subst hR;refine Lm ?_;exact A9
 |false=>
 rw[Ab (by simp[h3])] at hR;refine Lm ?_;refine Cx (Cr [6,7] 0 8) ?_;refine CC ?_;obtain⟨f,hf⟩: ∃f,Nd S c.obj=f:=⟨_,rfl⟩
 rw[hf] at hR⊢;refine Id e_alloc (by rintro _ _ ⟨_,_,_,rfl⟩ c hc;exact .tail _ hc) ?_;rintro _ _ ⟨Zv,_,rfl,rfl⟩;refine CC ?_;refine AQ λPS=>?_;obtain⟨pg,hpg⟩: ∃x,g.1=x:=⟨_,rfl⟩
 obtain⟨se,hse⟩: ∃x,o.2.1=x:=⟨_,rfl⟩
 rw[hpg,hse] at hR⊢;refine Cx (Cr [8] 0 9) ?_;refine CC ?_;obtain⟨rt,hrt⟩: ∃x,Nd S d.obj=x:=⟨_,rfl⟩
 rw[hrt] at hR⊢;refine Ll (AA rfl rfl (nk rt pg _)) ?_ rfl rfl;rintro _ _ ⟨B3,B4,B5,rfl,rfl⟩;refine CC ?_;obtain⟨gm,f1,f2,hW,hU,hM⟩:=hK.mem;obtain⟨lo,uW⟩: ∃lo,[BP B5 pg,BP B4 rt,rB B3 b,Vv PS 11,BP Zv f,BP ZN pg,BP SP se,(b9,Obj.cells (toArray [Value.slice (some ⟨gb,0,none⟩) 2 cap]) 404 (0,0)),(gb,Obj.cells (toArray cd) 74 (0,0)),rB b4 b]=lo:=⟨_,rfl⟩
 refine Lm ?_;refine nv rfl ?_;refine Df (α:=Int×Int) (ps:=[80,81]) (lb:=[pV B3,pV B4,pV B5]) rfl (Y6 B3 B4 B5 b gm F p S.W f2 hW hU rt pg) (λ_=>rfl) rfl
  (λpre l=>(∀q,q∈pre->decide ((O1 S.W q.2).1=0)=false)/\l=lo++Aw b p s S G)
  (λco pre l=>co= .exit 1/\ ∃vD q s' L',pre=vD++[q]/\(∀q,q∈vD->decide ((O1 S.W q.2).1=0)=false)/\decide ((O1 S.W q.2).1=0)=true/\IsK F C k (xH S f c.obj se pg q) p s'/\Tail L' G/\l=[Vv PS 0]++Aw b p s' (xH S f c.obj se pg q) L')
  (lo++Aw b p s S G) [] (λpre l X hX h=>by obtain⟨_,rfl⟩:=h;rw[<-uW];have m1:=mM (b:=b) (p:=p) (s:=s) (S:=S) (G:=G) (l:=Aw b p s S G) (λ_ h=>h);rw[hM] at m1;exact⟨by simp,by simp,by simp,by simp[mr],by simp[m1],by simp[m1]⟩) (by rw[Bi,<-uW];exact AU) ⟨λ_ h=>(nomatch h),rfl⟩ ?_ ?_ ?_
 ·rintro E r0 FS pre q l' X ⟨fn,tmps,D,hrec⟩ hX ⟨hn,rfl⟩ DB;have QW:q∈uo S.W rt pg:=DB.subset (by simp);have hqU:=hK.lvU QW;obtain⟨lv,qa⟩:=q;refine Em (.of_perm (sA (L:=[BP B5 pg,BP B4 rt,rB B3 b,Vv PS 11,BP Zv f,BP ZN pg,BP SP se,(b9,Obj.cells (toArray [Value.slice (some ⟨gb,0,none⟩) 2 cap]) 404 (0,0)),(gb,Obj.cells (toArray cd) 74 (0,0)),rB b4 b]) uW)) ?_;have GI:CD b p∈Aw b p s S (G++X):=mR λ_ h=>h;simp only[DU,Ae,Ag];rw[hrec];refine Lm ?_;refine CH (by exact DX) ?_;rw[<-hrec];obtain⟨lp,jO⟩: ∃lp:Bg,(r0,Obj.loop (FS .busy none))=lp:=⟨_,rfl⟩
  rw[jO];refine xf ?_;intro Q' hQ';refine Lm ?_;refine EI ?_;refine Lm ?_;refine EI ?_;obtain⟨w,hw⟩: ∃w,O1 S.W qa=w:=⟨_,rfl⟩
  rw[hw];refine Lm ?_;by_cases h5:w.1=0
  case neg=>
   refine Lm ?_;refine Aa5 hQ' ?_;subst jO hrec;exact Cg (lo++Aw b p s S G) (Keep.of_perm (nW (L:=[BP B5 pg,BP B4 rt,rB B3 b,Vv PS 11,BP Zv f,BP ZN pg,BP SP se,(b9,Obj.cells (toArray [Value.slice (some ⟨gb,0,none⟩) 2 cap]) 404 (0,0)),(gb,Obj.cells (toArray cd) 74 (0,0)),rB b4 b]) uW)) ⟨λz hz=>by
    rcases AH.1 hz with hz|hz
    ·exact hn z hz
    ·rw[AE.1 hz];simp[hw,h5],rfl⟩
  refine Lm ?_;refine EI (q:=(⟨λl _=>YR (enF f) l⟩:QF prog 294 [YQ (enF f)] _ _)) ?_;have heU:=Abj (enF f);obtain⟨ew,hew⟩: ∃w,Qm (enF f)=w:=⟨_,rfl⟩
  rw[hew] at heU⊢;refine Lm ?_;try simp only[AM,AK,AS]
  refine Cx (Cr [3] 0 4) ?_;refine CC ?_;refine MG ?_;intro S1 s1 L1 EA Ey DL GI;refine CC ?_;refine Lm ?_;refine EI ?_;refine Lm ?_;refine Gc ?_;intro S2 s2 L2 hS2 FT FL HP;refine Lm ?_;refine Cx (Cr [9] 0 10) ?_;refine CC ?_;refine MG ?_;intro S3 s3 L3 hS3 MD KQ PV;refine CC ?_;refine Lm ?_;have hS:S3=xH S f c.obj se pg (lv,qa):=by unfold xH;rw[hew,hS3,hS2,EA]
  clear hS3 hR;subst hS;obtain⟨L',hL',hp⟩:=sB (b:=b) (p:=p) (s:=s3) (S:=xH S f c.obj se pg (lv,qa)) (KQ.trans (FL.trans DL));refine Aa5 hQ' ?_;subst jO hrec;exact E2 ([Vv PS 0]++Aw b p s3 (xH S f c.obj se pg (lv,qa)) L') (Keep.right (by exact AU) (hp [Vv PS 0] r0 _)) ⟨rfl,pre,(lv,qa),s3,L',rfl,hn,by simp[hw,h5],MD,hL',rfl⟩
 ·rintro D xs l' rfl ⟨hn,rfl⟩;rw[sy hn] at hR;subst hR;rw[<-uW];simp only[Ae,Ag,Bi];refine Lm ?_;exact AV [D] _ rfl .refl (by exact Ba) (by exact AU) ⟨rfl,s,G,hK,.nil,rfl⟩
 ·rintro D co pre l' DB ⟨rfl,vD,q,s',L',rfl,hn,hq,hK',hT,rfl⟩;rw[sx DB hn hq] at hR;subst hR;simp only[Ae,Ag,Bi];refine Lm ?_;exact AV [D] _ rfl .refl (by exact Ba) (by exact AU) ⟨rfl,s',L',hK',hT,rfl⟩
instance{x y:Ck}{va:Int}[hu:U6 va]:EK prog F C b p 214 [pV b,F4 x,F4 y,Bc va] k S k (iV (QB S x y va).1) (QB S x y va).2:=⟨λs G h=>xJ h x y va⟩
end
section
abbrev enL(m f:Int):T5:=⟨true,true,decide (¬LN m 1=0),decide (¬LN m 2=0),f⟩
def mfS(S:KT)(x:Ck)(c:CapT)(n se pg a m:Int):KT:={S with W:=(gX S.W a (Qm (enL m (Nd S c.obj))).1).2,H:=(Pd S.H x {c with serial:=se,page:=pg}).2,K:=IE S.K (Ki n pg)}
def QC(S:KT)(x y:Ck)(va ri:Int):Int×KT:=
 if ¬(FE S x 3/\FE S y 5) then(8,S)
 else if(As.ofP S.N (Ec S y).obj).2.2=false then(15,S)
 else if ¬(G1 va).2=0 then(3,S)
 else if ¬va%64=0 then(4,S)
 else if ri<1\/3<ri\/LN ri (Ec S x).rights=0 then(9,S)
 else if(FY S (Ec S x)).2=true/\(¬(Ec S x).serial=(As.ofP S.N (Ec S y).obj).2.1\/¬(Ec S x).page=(G1 va).1) then(13,S)
 else if ¬(QQ S.W (Nd S (Ec S y).obj) (G1 va).1 3).2=0 then(14,S)
 else if ¬(O1 S.W (QQ S.W (Nd S (Ec S y).obj) (G1 va).1 3).1).1=0/\(FY S (Ec S x)).2=false then(11,S)
 else(0,mfS S x (Ec S x) (As.ofP S.N (Ec S y).obj).1 (As.ofP S.N (Ec S y).obj).2.1 (G1 va).1 (QQ S.W (Nd S (Ec S y).obj) (G1 va).1 3).1 (LN ri (Ec S x).rights))
theorem xK(hK:IsK F C k S p s)(x y:Ck)(va ri:Int)[hu:U6 va]:Fn prog 216 [pV b,F4 x,F4 y,Bc va,.int .i64 ri] (Aw b p s S G) (KK F C b p k (iV (QC S x y va ri).1) (QC S x y va ri).2 G):=by
 have mr:CD b p∈Aw b p s S G:=mR λ_ h=>h;have hw:=hK.cw x;obtain⟨u0,u1⟩:=hu.out;obtain⟨R,hR⟩: ∃R,QC S x y va ri=R:=⟨_,rfl⟩
 rw[hR];unfold QC at hR;refine AO func216 ntmps216 λE=>?_;refine AQ λb6=>?_;refine AQ λb7=>?_;refine AR (D1 (k:=3) (n:=2) (e:=457) (zs:=NJ (0,0) 0) (cs:=NJ x 3++NJ y 5) rfl AZ AZ rfl (SC x y 3 5)) ?_;rintro _ _ ⟨bw,_,rfl,rfl⟩;refine Aj ?_;refine AR (AA rfl rfl (SA hK bw x y 3 5 _ (λc hc=> .tail _ (.tail _ (.tail _ hc))) (.head _))) ?_;rintro _ _ (⟨hk,u,cs,ho,rfl,rfl⟩|⟨hk,rfl,rfl⟩)
 case' inr=>
  rw[Ac hk] at hR;subst hR;refine Aj ?_;exact A9
 rw[Ab (λh=>h hk)] at hR;obtain⟨gb,cap,sp,rfl,rfl⟩:=ND ho Af;rw[Ci];obtain⟨c,hc⟩: ∃c,Ec S x=c:=⟨_,rfl⟩
 obtain⟨d,hd⟩: ∃d,Ec S y=d:=⟨_,rfl⟩
 rw[hc] at hw;rw[hc,hd] at hR⊢;have z0:(toArray (B9 c++B9 d++sp)).extract (0+(0:Int).toNat*8) (0+(0:Int).toNat*8+8)=toArray (B9 c):=by rw[Am];exact ej c _
 have z1:(toArray (B9 c++B9 d++sp))[0+(1:Int).toNat*8+1]?=some (.int .i64 d.obj):=rfl;refine Aj ?_;refine Be (Dt rfl (.head _) (by show 0+(0:Int).toNat*8+8<=(B9 c++B9 d++sp).length;simp) z0) ?_;refine AQ λZP=>?_;refine Cx (Cr [] 0 14) ?_;refine CC ?_;obtain⟨o,ho⟩: ∃o,As.ofP S.N d.obj=o:=⟨_,rfl⟩
 rw[ho] at hR⊢;refine CC ?_;refine Aj ?_;refine EI ?_;obtain⟨g,hg⟩: ∃g,G1 va=g:=⟨_,rfl⟩
 rw[hg] at hR⊢;refine Aj ?_;refine EI ?_;obtain⟨fk,hfk⟩: ∃x,(FY S c).2=x:=⟨_,rfl⟩
 rw[hfk] at hR⊢;refine Aj ?_;cases h1:o.2.2 with
 |false=>rw[Ac h1] at hR;subst hR;refine Aj ?_;exact A9
 |true=>
 rw[Ab (by simp[h1])] at hR;refine Aj ?_;by_cases h2:g.2=0
 case neg=>rw[Ac h2] at hR;subst hR;refine Aj ?_;exact A9
 rw[Ab (by simpa using h2)] at hR;refine Aj ?_;by_cases h3:va%64=0
 case neg=>rw[Ac h3] at hR;subst hR;refine Aj ?_;exact A9
 rw[Ab (by simpa using h3)] at hR;obtain⟨m,hm⟩: ∃m,LN ri c.rights=m:=⟨_,rfl⟩
 rw[hm] at hR;by_cases h4:ri<1\/3<ri
 ·rw[Ac Af] at hR;subst hR;by_cases h5:ri<1<;>by_cases h6:3<ri;all_goals first
   |(exfalso;omega)
   |(refine Aj ?_
     exact A9)
 obtain⟨h5,h6⟩:¬ri<1/\¬3<ri:=by omega
 refine Aj ?_;refine XT (Kz rfl rfl) rfl rfl rfl rfl rfl rfl ?_;rw[hm];by_cases h7:m=0
 ·rw[Ac Af] at hR;subst hR;refine Aj ?_;exact A9
 rw[Ab Af] at hR;refine Aj ?_;obtain⟨pg,hpg⟩: ∃x,g.1=x:=⟨_,rfl⟩
 obtain⟨se,hse⟩: ∃x,o.2.1=x:=⟨_,rfl⟩
 rw[hpg,hse] at hR⊢;by_cases h8:fk=true/\(¬c.serial=se\/¬c.page=pg)
 ·rw[Ac h8] at hR;subst hR;obtain⟨rfl,h8⟩:=h8;by_cases h9:c.serial=se<;>by_cases Sa:c.page=pg;all_goals first
   |(exfalso;omega)
   |(refine Aj ?_
     exact A9)
 rw[Ab h8] at hR;have haU:=hK.atU (Nd S d.obj) pg 3;cases fk
 case' true=>
  obtain⟨h9,Sa⟩:c.serial=se/\c.page=pg:=by simpa using h8
 all_goals
  refine Aj ?_;refine Cx (Cr [] 0 15) ?_;refine CC ?_;try simp only[AM,AK,AS]
  refine CC ?_;obtain⟨a,ha⟩: ∃a,QQ S.W (Nd S d.obj) pg 3=a:=⟨_,rfl⟩
  rw[ha] at hR haU⊢;refine CC ?_;refine Aj ?_;by_cases jo:a.2=0
  case neg=>rw[Ac jo] at hR;subst hR;refine Aj ?_;exact A9
  rw[Ab (by simpa using jo)] at hR;refine Aj ?_;try simp only[AM,AK,AS]
  refine EI ?_;refine Aj ?_;refine EI ?_;obtain⟨w,hw1⟩: ∃w,O1 S.W a.1=w:=⟨_,rfl⟩
  rw[hw1] at hR⊢;by_cases jR:w.1=0;all_goals first
   |(rw[Ac ⟨jR,rfl⟩] at hR
     subst hR;refine Aj ?_;exact A9)
   |(rw[Ab (by simp[jR])] at hR
     subst hR;unfold mfS;obtain⟨fi,hfi⟩: ∃x,Nd S c.obj=x:=⟨_,rfl⟩
     rw[hfi];have heU:=Abj (enL m fi);have jC:CW {c with serial:=se,page:=pg}:=⟨hw.out.1,hw.out.2⟩
     refine Aj ?_;refine Be (Kz rfl rfl) ?_;rw[hm];refine Aj ?_;refine Be (Kz rfl rfl) ?_;refine Aj ?_;refine Be (Kz rfl rfl) ?_;refine Aj ?_;refine EI ?_;rw[hfi];refine Aj ?_;refine EI (q:=(⟨λl _=>YR (enL m fi) l⟩:QF prog 294 [YQ (enL m fi)] _ _)) ?_;obtain⟨ew,hew⟩: ∃w,Qm (enL m fi)=w:=⟨_,rfl⟩
     rw[hew] at heU⊢;refine Aj ?_;try simp only[AM,AK,AS]
     refine EI ?_;refine Aj ?_;refine Gc ?_;intro S1 s1 L1 EA Ey DL GI;refine Aj ?_;refine Cx (Cr [4] 0 5) ?_;refine CC ?_;refine MG (q:=um (x:=x) (c:={c with serial:=se,page:=pg})) ?_;intro S2 s2 L2 hS2 FT FL HP;refine CC ?_;refine Aj ?_;refine EI ?_;refine Aj ?_;refine Gc ?_;intro S3 s3 L3 hS3 MD KQ PV;refine Aj ?_;have hS:S3={S with W:=(gX S.W a.1 ew.1).2,H:=(Pd S.H x {c with serial:=se,page:=pg}).2,K:=IE S.K (Ki o.1 pg)}:=by rw[hS3,hS2,EA]
     exact A9)
instance{x y:Ck}{va ri:Int}[hu:U6 va]:EK prog F C b p 216 [pV b,F4 x,F4 y,Bc va,.int .i64 ri] k S k (iV (QC S x y va ri).1) (QC S x y va ri).2:=⟨λs G h=>xK h x y va ri⟩
end
end Go.Proofs.YtlifcingifodfaaGreat
