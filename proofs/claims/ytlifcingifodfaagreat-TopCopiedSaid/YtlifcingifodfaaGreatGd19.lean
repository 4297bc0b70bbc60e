/- Laws. -/
import Derived.Test.YtlifcingifodfaaGreatGd18
set_option maxHeartbeats 4000000
set_option linter.all false
namespace Go.Proofs.YtlifcingifodfaaGreat
open Tryz
open List renaming toArray→τ
open Go.RowKit
set_option maxRecDepth 20000
variable{F C k b r N f k':Nat}{S S':KT}{p:RP}{s:RL}{G T lo L Y:Ac}{o:Obj}{P:Program}{ro:Option Nat}{E:World}{ops:Array Oper}{Q:Exit->Act->World->Prop}{A6:List Oper}{ds:List Deferred}{x:Operand}{xs:List Operand}{vs:Ap}{ty:TypeId}{pos:String}{g:Option (Nat×Bool)}{ns:List NoT}{Γ:Ac->Ac}{pg:Int}{α:Type}
section
abbrev jZ(t:Th.ThT):O5:=⟨t.o0,t.o1,t.o2,t.o3⟩
abbrev pG(t:Th.ThT):Th.ThT:={t with wa:=0,o0:=0,o1:=0,o2:=0,o3:=0,ob:=0,gv:=4096}
def recvW(S:KT)(w:Bool)(id t:Int):KT:=if w=true then Ql S id t else(O1 S id 1).2
def recvH(S:KT)(t id:Int):List NoT×KT:=
 let x:=DJ S id
 let h:=Ku {S with E:=(En.removeD S.E id).2} x t (jZ x) x.ob
 let w:=x.cl||x.fa
 let S2:=recvW h.2 w id t
 (if w=true then[h.1] else[h.1,Kt id],DZ S2 (pG (DJ S2 id)))
theorem dD(hK:IsK F C (k+2) S p s)(B1 B2 B3:Nat)(t id:Int):
 Z3 prog 276 [pV B1,pV B2,pV B3] (λn:NoT=>[gB n]) ([rB B1 b,BX B2 id,BX B3 t]++AA b p s S G) (λxs C'=>xs=(recvH S t id).1/\ ∃s' L,IsK F C k (recvH S t id).2 p s'/\Tail L G/\C'=[rB B1 b,BX B2 id,BX B3 t]++AA b p s' (recvH S t id).2 L):=by
 refine⟨λr I hY l h0=>?_⟩;refine Fn.keep (.of_perm (O8 (lo:=[rB B1 b,BX B2 id,BX B3 t]))) ?_;have mr:CH b p∈AA b p s S (l++G):=mR λ_ h=>h;have Afp:=hK.tO id;have hgv:AD (DJ S id).gv:=⟨by have:=hK.tG id;omega⟩
 obtain⟨R,hR⟩:=ξ (recvH S t id)
 rw[hR];unfold recvH at hR;simp only[Ae,Ag];refine AO func276 ntmps276 λE=>?_;refine Aj ?_;refine CC (Cy [3] 0 4) ?_;refine CG ?_;refine Na ?_;intro S1 s1 L1 Er ED DO G6;rw[<-Er] at hR;refine CG ?_;refine Aj ?_;refine CC (Cy [7,8] 0 10) ?_;refine CG ?_;have e1:DJ S1 id=DJ S id:=wV (by rw[Er]) id;rw[e1];obtain⟨x,hx⟩:=ξ (DJ S id)
 rw[hx] at hR Afp hgv e1⊢;refine Is e_alloc (by rintro _ _ ⟨_,_,_,rfl⟩ c hc;exact .tail _ hc) ?_;rintro _ _ ⟨c5,_,rfl,rfl⟩;refine CG ?_;refine Aj ?_;refine Gt (q:=(⟨λs G h=>pF h x t (jZ x) x.ob⟩:EK prog F C b p 269 [pV b,Th.thV x,ι t,rm (jZ x),Bb x.ob] (k+2) S1 (k+1) _ _)) ?_;intro S2 s2 L2 hS2 Gd F4 Ig;dsimp only at hR;rw[<-hS2] at hR;obtain⟨n1,Vj⟩: ∃n,(Ku S1 x t (jZ x) x.ob).1=n:=⟨_,rfl⟩
 rw[Vj] at hR⊢;refine AR λc7=>?_;obtain⟨w,hw⟩:=ξ ((x.cl||x.fa))
 rw[hw] at hR;unfold recvW at hR;have hcf:(x.cl=true/\w=true)\/(x.cl=false/\x.fa=w):=by
  cases h1:x.cl<;>rw[h1] at hw<;>simp at hw
  ·exact .inr ⟨rfl,hw⟩
  ·exact .inl ⟨rfl,hw⟩
 rcases hcf with⟨h1,rfl⟩|⟨h1,h2⟩
 case' inr=>cases w
 case' inl=>
  rw[Ad rfl,Ad rfl] at hR;rw[h1];refine Aj ?_;refine Gt ?_;intro S3 s3 L3 hS3 M8 Lo Qv;refine Aj ?_
 case' inr.true=>
  rw[Ad rfl,Ad rfl] at hR;rw[h1,h2];refine Aj ?_;refine Gt ?_;intro S3 s3 L3 hS3 M8 Lo Qv;refine Aj ?_
 case' inr.false=>
  rw[Ab A0,Ab A0] at hR;rw[h1,h2];refine Aj ?_;refine Gt ?_;intro S3 s3 L3 hS3 M8 Lo Qv;refine Aj ?_
 all_goals
  rw[<-hS3] at hR;have JL:=M8.tO id;refine VN (id:=id) jN ⟨JL.out⟩ ?_;intro S4 s4 L4 hS4 hK4 kQ mr4;rw[show DZ S3 (pG (DJ S3 id))=S4 from hS4.symm] at hR;refine Aj ?_;obtain⟨X,rfl⟩:Tail L4 (l++G):=kQ.trans (Lo.trans (F4.trans DO))
  first
   |refine Bt (.of_perm (Iu (lo:=[Vv c7 n1,Th.thC c5 {x with cl:=true},rB B1 b,BX B2 id,BX B3 t]))) ?_
   |refine Bt (.of_perm (Iu (lo:=[Vv c7 n1,Th.thC c5 {x with cl:=false,fa:=true},rB B1 b,BX B2 id,BX B3 t]))) ?_
   |refine Bt (.of_perm (Iu (lo:=[Vv c7 n1,Th.thC c5 {x with cl:=false,fa:=false},rB B1 b,BX B2 id,BX B3 t]))) ?_
  refine AP (C8 (vs:=[gB n1]) rfl rfl (hY [] n1 l _ (Bm _) h0)) ?_;rintro v _ ⟨l1,rfl,hI,rfl⟩;refine Bt (.of_perm O8) ?_;simp only[Ae,Ag]
  first
   |(have hgo:R.1=[n1]:=by rw[<-hR]
     refine Aj ?_;subst hR;exact AU [] _ rfl .refl Ba (.drop (.drop (.of_perm (Iu (X:=[]) (lo:=[rB B1 b,BX B2 id,BX B3 t]))))) ⟨[n1],l1,_,hI,⟨rfl,s4,X++G,hK4.mono Af,⟨X,rfl⟩,rfl⟩,rfl⟩)
   |(have hgo:R.1=[n1,Kt id]:=by rw[<-hR]
     refine Aj ?_;refine Bt (.of_perm (Iu (X:=[]) (lo:=[Vv c7 n1,Th.thC c5 {x with cl:=false,fa:=false},rB B1 b,BX B2 id,BX B3 t]))) ?_;refine AP (C8 (vs:=[gB (Kt id)]) rfl rfl (hY [n1] (Kt id) l1 _ (by simp) hI)) ?_;rintro v _ ⟨l2,rfl,N7,rfl⟩;refine Bt (.of_perm O8) ?_;simp only[Ae,Ag];refine Aj ?_;subst hR;exact AU [] _ rfl .refl Ba (.drop (.drop (.of_perm (Iu (X:=[]) (lo:=[rB B1 b,BX B2 id,BX B3 t]))))) ⟨[n1,Kt id],l2,_,N7,⟨rfl,s4,X++G,hK4.mono Af,⟨X,rfl⟩,rfl⟩,rfl⟩)
def replyH(S:KT)(ca:Int)(m:O5)(t:Int):List NoT×KT:=
 let c:=DJ S ca
 (if c.fa=true then[Kt t] else[⟨c.id,0,0,m,0,false,0,0,false⟩,Kt t],(O1 (DZ S (O6 m (DJ S c.id))) c.id 1).2)
theorem j8{m:O5}{t:Th.ThT}(h:TW t):TW (O6 m t):=by
 unfold O6
 split<;>exact⟨h.out⟩
theorem ac(hK:IsK F C (k+1) S p s)(B1 B2 B3 B4:Nat)(x:Th.ThT)(m:O5)(t:Int):
 Z3 prog 279 [pV B1,pV B2,pV B3,pV B4] (λn:NoT=>[gB n]) ([rB B1 b,Th.thC B2 x,Vu B3 m,BX B4 t]++AA b p s S G) (λxs C'=>xs=(replyH S x.ca m t).1/\ ∃s' L,IsK F C k (replyH S x.ca m t).2 p s'/\Tail L G/\C'=[rB B1 b,Th.thC B2 x,Vu B3 m,BX B4 t]++AA b p s' (replyH S x.ca m t).2 L):=by
 refine⟨λr I hY l h0=>?_⟩;refine Fn.keep (.of_perm (O8 (lo:=[rB B1 b,Th.thC B2 x,Vu B3 m,BX B4 t]))) ?_;have mr:CH b p∈AA b p s S (l++G):=mR λ_ h=>h;obtain⟨R,hR⟩:=ξ (replyH S x.ca m t)
 rw[hR];unfold replyH at hR;simp only[Ae,Ag];refine AO func279 ntmps279 λE=>?_;refine Aj ?_;refine CC (Cy [8,9] 0 11) ?_;refine CG ?_;obtain⟨c,hc⟩:=ξ (DJ S x.ca)
 rw[hc] at hR⊢;dsimp only at hR;refine Is e_alloc (by rintro _ _ ⟨_,_,_,rfl⟩ c hc;exact .tail _ hc) ?_;rintro _ _ ⟨c6,_,rfl,rfl⟩;refine CG ?_;refine Aj ?_;have JL:=hK.tO c.id;refine VN (id:=c.id) (dr B3 m) (j8 JL) ?_;intro S1 s1 L1 Er ED DO G6;rw[show DZ S (O6 m (DJ S c.id))=S1 from Er.symm] at hR;refine Aj ?_;refine Gt ?_;intro S2 s2 L2 hS2 Gd F4 Ig;rw[<-hS2] at hR;refine Aj ?_;obtain⟨X,rfl⟩:Tail L2 (l++G):=F4.trans DO;cases hf:c.fa with
 |true=>rw[Ad hf] at hR;refine Aj ?_;refine Bt (.of_perm (Iu (lo:=[Th.thC c6 {c with fa:=true},rB B1 b,Th.thC B2 x,Vu B3 m,BX B4 t]))) ?_;refine AP (C8 (vs:=[gB (Kt t)]) rfl rfl (hY [] (Kt t) l _ (Bm _) h0)) ?_;rintro v _ ⟨l1,rfl,hI,rfl⟩;refine Aj ?_;subst hR;exact CY _ .refl (Keep.trans (.of_perm O8) (.drop (.of_perm (Iu (X:=[]) (lo:=[rB B1 b,Th.thC B2 x,Vu B3 m,BX B4 t]))))) ⟨[Kt t],l1,_,hI,⟨rfl,s2,X++G,Gd,⟨X,rfl⟩,rfl⟩,rfl⟩
 |false=>
  rw[Ab (by rw[hf];decide)] at hR;refine Aj ?_;obtain⟨n1,Vj⟩: ∃n:NoT,n=⟨c.id,0,0,m,0,false,0,0,false⟩:=⟨_,rfl⟩
  refine Bt (.of_perm (Iu (lo:=[Th.thC c6 {c with fa:=false},rB B1 b,Th.thC B2 x,Vu B3 m,BX B4 t]))) ?_;refine IE (C8 (vs:=[gB n1]) rfl (by rw[Vj];rfl) (hY [] n1 l _ (Bm _) h0)) rfl rfl rfl ?_;rintro v _ ⟨l1,rfl,hI,rfl⟩;refine Bt (.of_perm O8) ?_;simp only[Ae,Ag];refine Aj ?_;refine Bt (.of_perm (Iu (X:=[]) (lo:=[Th.thC c6 {c with fa:=false},rB B1 b,Th.thC B2 x,Vu B3 m,BX B4 t]))) ?_;refine AP (C8 (vs:=[gB (Kt t)]) rfl rfl (hY [n1] (Kt t) l1 _ (by simp) hI)) ?_;rintro v _ ⟨l2,rfl,N7,rfl⟩;refine Aj ?_;subst hR;subst Vj;exact CY _ .refl (Keep.trans (.of_perm O8) (.drop (.of_perm (Iu (X:=[]) (lo:=[rB B1 b,Th.thC B2 x,Vu B3 m,BX B4 t]))))) ⟨_,l2,_,N7,⟨rfl,s2,X++G,Gd,⟨X,rfl⟩,rfl⟩,rfl⟩
end
section
def O9(S:KT)(t:Int)(x:Ch)(inn:Int):(List NoT×Int)×KT:=
 if ¬(HX S t inn).2=0 then(([],(HX S t inn).2),S)
 else if ¬(getD' S.H.1 x).2=0\/¬(Ep S x).kind=8 then(([],8),S)
 else if Mn (Ep S x).rights 1=0 then(([],9),S)
 else if(En.firstD S.E (Ep S x).obj).2.2=false\/(En.firstD S.E (Ep S x).obj).2.1=false then
  (([],0),(O1 (DZ {DZ S {DJ S t with inn:=inn} with E:=(En.waitD S.E (Ep S x).obj t false).2} {DJ (DZ S {DJ S t with inn:=inn}) t with wa:=(Ep S x).obj}) t 3).2)
 else(((recvH (DZ S {DJ S t with inn:=inn}) t (En.firstD S.E (Ep S x).obj).1).1,0),(recvH (DZ S {DJ S t with inn:=inn}) t (En.firstD S.E (Ep S x).obj).1).2)
theorem zR(hK:IsK F C (k+2) S p s)(t:Int)(x:Ch)(inn:Int):Fn prog 207 [pV b,ι t,Fy x,ι inn] (AA b p s S G) (KN F C b p k (O9 S t x inn).1.1 (O9 S t x inn).1.2 (O9 S t x inn).2 G):=by
 have mr:CH b p∈AA b p s S G:=mR λ_ h=>h;have JL:=hK.tO t;obtain⟨R,hR⟩:=ξ (O9 S t x inn)
 rw[hR];unfold O9 at hR;refine AO func207 ntmps207 λE=>?_;refine AR λb4=>?_;refine AR λb5=>?_;refine AR λb6=>?_;refine AR λb7=>?_;refine EO ?_;have qP:=UZ (S:=S) (t:=t) (a:=inn);obtain⟨r,hr⟩:=ξ (HX S t inn)
 rw[hr] at hR qP⊢;refine AR λGW=>?_;by_cases h0:r.2=0
 case neg=>rw[Ad h0] at hR;subst hR;refine Aj ?_;exact Gh
 rw[Ab (λh=>h h0)] at hR;obtain⟨e1,e2,e3,e4,e5⟩:=qP h0;refine Aj ?_;refine CC (Cy [7,8] 0 10) ?_;refine CG ?_;obtain⟨c,hc⟩:=ξ ((getD' S.H.1 x).1)
 obtain⟨e,he⟩:=ξ ((getD' S.H.1 x).2)
 rw[show Ep S x=c from hc,he] at hR;rw[hc,he];refine Is e_alloc (by rintro _ _ ⟨_,_,_,rfl⟩ c hc;exact .tail _ hc) ?_;rintro _ _ ⟨Ty,_,rfl,rfl⟩;refine CG ?_;by_cases h1:¬e=0\/¬c.kind=8
 ·rw[Ad h1] at hR;subst hR;by_cases h2:e=0<;>by_cases h3:c.kind=8;all_goals first
   |(exfalso;omega)
   |(refine Aj ?_
     exact Gh)
 rw[Ab h1] at hR;obtain⟨h2,h3⟩:e=0/\c.kind=8:=by omega
 refine Aj ?_;refine Be (K7 rfl rfl) ?_;obtain⟨w,hw⟩:=ξ (Mn c.rights 1)
 rw[hw] at hR⊢;by_cases h4:w=0
 ·rw[Ad h4] at hR;subst hR;refine Aj ?_;exact Gh
 rw[Ab h4] at hR;refine Aj ?_;refine VN (id:=t) (pj b7 inn) ⟨JL.out⟩ ?_;intro S0 s0 L0 hS0 hK0 Ry mr0;rw[show DZ S {DJ S t with inn:=inn}=S0 from hS0.symm] at hR;have eE:S0.E=S.E:=by rw[hS0]
 rw[<-eE] at hR;refine Aj ?_;obtain⟨f,hf⟩:=ξ (En.firstD S0.E c.obj)
 rw[hf] at hR;refine L7 [(0,true),(1,true),(2,true),(3,true),(4,false),(5,true),(6,true),(7,true),(8,true),(9,false),(10,false),(11,true),(12,true)] [[],[0],[],[2],[0,1,2,3],[0,1,2,3,4],[0,1,2,3,4,5],[0,1,2,3,4,5],[0,1,2,3,4,5],[],[0,1,2,3,4,5,6,9],[0,1,2,3,4,5,6,7,9,10],[0,1,2,3,4,5,6,7,8,9,10,11]] 4 9 ([rB b4 b,Bw Ty c,CH b p]) Bu Bu GO ((WM Ca Ca Ca)) ?_;refine BJ ?_;refine Wb ?_;refine BJ ?_;refine Oz [(9,false),(4,false),(5,true),(6,true),(7,true),(8,true),(10,false),(11,true),(12,true)] GO (AJ (l₁:=[_,_,_,_,_])).symm Bu ?_ ?_
 case' refine_1=>
  refine pek ?_ ?_
  ·intro S2 s2 L2;have Ig:CH b p∈AA b p s2 S2 L2:=mR λ_ h=>h;exact WM Ca Ca Ca
  intro S1 s1 L1 Er ED DO G6;iterate 4 refine YY ?_
  refine CX e_alloc rfl rfl rfl ?_ ?_
  ·rintro _ _ ⟨_,_,_,rfl⟩ c hc;exact .tail _ (WM Ca Ca Ca c hc)
  rintro _ _ ⟨Qs,_,rfl,rfl⟩
 case' refine_2=>
  refine CX e_alloc rfl rfl rfl ?_ ?_
  ·rintro _ _ ⟨_,_,_,rfl⟩ c hc;exact .tail _ (WM Ca Ca Ca c hc)
  rintro _ _ ⟨Qs,_,rfl,rfl⟩;refine pek ?_ ?_
  ·intro S2 s2 L2;have Ig:CH b p∈AA b p s2 S2 L2:=mR λ_ h=>h;exact WM Ca Ca Ca
  intro S1 s1 L1 Er ED DO G6;iterate 4 refine YY ?_
 all_goals
  rw[hf];rw[<-Er] at hR;refine wt ?_ (hR:=WM Ca Ca Ca);refine BJ ?_;refine Aj ?_;by_cases h8:f.2.2=false\/f.2.1=false
  ·rw[Ad h8] at hR;cases h9:f.2.2<;>cases VA:f.2.1;all_goals first
    |(exfalso;simp[h9,VA] at h8;done)
    |(refine Aj ?_
      refine CC (Cy [5] 0 6) ?_;refine CG ?_;refine Na ?_;intro S2 s2 L2 hS2 Gd F4 Ig;refine CG ?_;refine Aj ?_;have Afq:=Gd.tO t;refine VN (id:=t) (pk Ty c) ⟨Afq.out⟩ ?_;intro S3 s3 L3 hS3 M8 Lo Qv;rw[<-hS2,show DJ S1 t=DJ S2 t from by rw[hS2],show DZ S2 {DJ S2 t with wa:=c.obj}=S3 from hS3.symm] at hR;refine Aj ?_;refine Gt ?_;intro S4 s4 L4 hS4 hK4 kQ mr4;refine Aj ?_;rw[<-hS4] at hR;subst hR;exact Gh)
  rw[Ab h8] at hR;obtain⟨h9,VA⟩:f.2.2=true/\f.2.1=true:=by simpa using h8
  rw[h9,VA];obtain⟨u,hu⟩:=ξ f.1
  rw[hu] at hR⊢;refine Aj ?_;refine AP (Az rfl rfl (Fn.keep ?_ (R5 (dD (b:=b) (G:=L1) ED b4 Qs b5 t u)))) ?_
  ·exact AY
  rintro sl _ ⟨xs,cs,C',ho,⟨rfl,s',L',hK',hT',rfl⟩,rfl⟩;refine Aj ?_;subst hR;exact CY _ .refl Tq ⟨sl,cs,s',L',rfl,ho,hK',hT'.trans (DO.trans Ry),rfl⟩
def LC(S:KT)(t:Int)(m:O5):(List NoT×Int)×KT:=
 if ¬(HX S t 0).2=0 then(([],(HX S t 0).2),S)
 else if(DJ S t).ca=0 then(([],18),S)
 else(((replyH (DZ S {DJ S t with ca:=0}) (DJ S t).ca m t).1,0),(replyH (DZ S {DJ S t with ca:=0}) (DJ S t).ca m t).2)
theorem uy(hK:IsK F C (k+1) S p s)(t:Int)(m:O5):Fn prog 208 [pV b,ι t,rm m] (AA b p s S G) (KN F C b p k (LC S t m).1.1 (LC S t m).1.2 (LC S t m).2 G):=by
 have mr:CH b p∈AA b p s S G:=mR λ_ h=>h;have JL:=hK.tO t;obtain⟨R,hR⟩:=ξ (LC S t m)
 rw[hR];unfold LC at hR;refine AO func208 ntmps208 λE=>?_;refine AR λb3=>?_;refine AR λb4=>?_;refine AR λb5=>?_;refine EO ?_;have qP:=UZ (S:=S) (t:=t) (a:=0);obtain⟨r,hr⟩:=ξ (HX S t 0)
 rw[hr] at hR qP⊢;refine AR λb8=>?_;by_cases h0:r.2=0
 case neg=>rw[Ad h0] at hR;subst hR;refine Aj ?_;exact Gh
 rw[Ab (λh=>h h0)] at hR;obtain⟨e1,e2,e3,e4,e5⟩:=qP h0;obtain⟨y,hy⟩:=ξ (DJ S t)
 rw[hy] at e1 e3 hR JL;rw[e1];by_cases h1:y.ca=0
 ·rw[Ad h1] at hR;subst hR;refine Aj ?_;exact Gh
 rw[Ab h1] at hR;refine Aj ?_;refine VN (id:=t) jO ⟨by rw[hy];exact JL.out⟩ ?_;intro S0 s0 L0 hS0 hK0 Ry mr0;rw[hy] at hS0;rw[show DZ S {y with ca:=0}=S0 from hS0.symm] at hR;refine Aj ?_;refine AP (Az rfl rfl (Fn.keep ?_ (R5 (ac (b:=b) (G:=L0) hK0 b3 b8 b5 b4 y m t)))) ?_
 ·exact AY
 rintro sl _ ⟨xs,cs,C',ho,⟨rfl,s',L',hK',hT',rfl⟩,rfl⟩;refine Aj ?_;subst hR;exact CY _ .refl Tq ⟨sl,cs,s',L',rfl,ho,hK',hT'.trans Ry,rfl⟩
end
structure U0 where
 hs:Bool
 wr:Bool
 va:Int
 vl:Int
deriving DecidableEq
abbrev acC(x:U0):Ap:=[.bool x.hs,.bool x.wr,Bb x.va,Bb x.vl]
abbrev zS(x:U0):Value:= .agg (τ (acC x))
structure wX where
 kd:Int
 va:Int
 wr:Bool
deriving DecidableEq
abbrev ftC(x:wX):Ap:=[iV x.kd,Bb x.va,.bool x.wr]
abbrev ftV(x:wX):Value:= .agg (τ (ftC x))
def KNl(F C b:Nat)(p:RP)(k:Nat)(xs:List NoT)(S:KT)(G:Ac):Value->Ac->Prop:=λv l'=> ∃cs s L,OwnSl 69 12 v xs.length (HY xs) cs/\IsK F C k S p s/\Tail L G/\l'=cs++AA b p s S L
theorem j9(S:KT)(t:Int)(x:Ch)(m:O5)(gv:Int)(cl:Bool):(JH S t x m gv cl).1.1.length<=2:=by
 unfold JH sendH
 repeat' split
 all_goals simp
theorem ad(xs:List NoT): ∀u,u∈HY xs->u.oneCell'=true:=by intro u hu;obtain⟨n,_,h⟩:=FI.1 hu;simp only[R4,Au,BR,EF] at h;rcases h with rfl|rfl|rfl|rfl|rfl|rfl|rfl|rfl|rfl|rfl|rfl|rfl<;>rfl
theorem uz{a1 a2 a3 n a4 a5 a6:Bh}{cs Z:Ac}(h:Y.Perm (cs++Z)):(a1::a2::a3::n::a4::a5::a6::Y).Perm ([n]++(cs++([a1,a2,a3,a4,a5,a6]++Z))):=by refine(E2 [a1,a2,a3,n,a4,a5,a6] h).trans ?_;exact δ
theorem pH{c A B:Ac}:Keep (c++(A++(B++Y))) (c++Y):=⟨A++B,δ⟩
section
section
variable{fr:Fr}{l:Ac}{d:Nat}{at_:Array TypeId}{aft:Array Edge}{co:Int}
theorem tkn(h: ∀G,Fn P f vs (AA b p s S G) (KN F C b p k' ns co S' G))(hk: ∀sl cs S1 s' L,S1=S'->OwnSl 69 12 sl ns.length (HY ns) cs->IsK F C k' S1 p s'->Tail L (cs++G)->CH b p∈AA b p s' S1 L->DC P ro N E ops Q A6 ((d,.tuple #[sl,iV co])::fr) ds (Γ (AA b p s' S1 L)))(hx:ev fr x=some (.func (.func f) #[] #[]):=by rfl)(hy:SC fr xs=some vs:=by rfl)(hF:Fr1 (AA b p s S G) l Γ:=by exact fL)(c:EN P f:=by infer_instance)(hw:RD ops fr g=some true:=by rfl)(hb:Nat.blt d N=true:=by rfl):DC P ro N E ops Q (⟨some d,.call {callee:= .value x,args:=xs.toArray,argTypes:=at_},ty,pos,aft,g⟩::A6) fr ds l:=by
 obtain⟨A,rfl,hA⟩:=hF.eq;refine IE (Az hx hy (Fn.re (.of_perm (Fv b p s S A G)) (h (A++G)) (K':=λv l'=> ∃sl cs s' L,v= .tuple #[sl,iV co]/\OwnSl 69 12 sl ns.length (HY ns) cs/\IsK F C k' S' p s'/\Tail L (cs++G)/\l'=Γ (AA b p s' S' L)) λv l' ⟨sl,cs,s',L,h1,h2,h3,⟨X,h4⟩,h5⟩=>⟨Γ (AA b p s' S' (X++(cs++G))),?_,sl,cs,s',_,h1,h2,h3,⟨X,rfl⟩,rfl⟩)) hw rfl hb λv l' ⟨sl,cs,s',L,h1,h2,h3,h4,h5⟩=>by rw[h1,h5];exact hk sl cs S' s' L rfl h2 h3 h4 (mR λ_ h=>h)
 rw[h5,h4,hA];refine .of_perm ?_;unfold AA;exact δ
end
abbrev Of(t:Th.ThT)(x:U0):Th.ThT:={t with hs:=x.hs,wr:=x.wr,va:=x.va,vl:=x.vl}
abbrev X5(id:Int)(f:wX):NoT:=⟨id,6,0,msZ,0,false,f.kd,f.va,f.wr⟩
abbrev dE(f:wX):O5:=⟨f.kd,f.va,if f.wr=true then 1 else 0,0⟩
def NQ(S:KT)(t:Th.ThT)(x:U0)(f:wX):List NoT×KT:=
 if ¬(getD' S.H.1 (t.id,2)).2=0\/¬(Ep S (t.id,2)).kind=8\/Mn (Ep S (t.id,2)).rights 2=0 then([X5 t.id f],(I9 (DZ S (Of t x)) t.id).2)
 else(X5 t.id f::(JH (DZ S (Of t x)) t.id (t.id,2) (dE f) 4096 true).1.1,DZ (JH (DZ S (Of t x)) t.id (t.id,2) (dE f) 4096 true).2 {DJ (JH (DZ S (Of t x)) t.id (t.id,2) (dE f) 4096 true).2 t.id with fa:=true,cl:=t.cl})
theorem gO(hK:IsK F C (k+2) S p s)(t:Th.ThT)(x:U0)(f:wX)(hw:TW (Of t x))(hf:0<=f.kd/\f.kd<=100):Fn prog 156 [pV b,Th.thV t,zS x,ftV f] (AA b p s S G) (KNl F C b p k (NQ S t x f).1 (NQ S t x f).2 G):=by
 have mr:CH b p∈AA b p s S G:=mR λ_ h=>h;obtain⟨hf1,hf2⟩:=hf;obtain⟨R,hR⟩:=ξ (NQ S t x f)
 rw[hR];unfold NQ at hR;refine AO func156 ntmps156 λE=>?_;refine AR λb5=>?_;refine AR λb6=>?_;refine AR λb7=>?_;refine CC (Cy [3] 0 4) ?_;refine CG ?_;refine Na (q:=O2 (Of t x) hw) ?_;intro S1 s1 L1 Er ED DO G6;rw[show DZ S (Of t x)=S1 from Er.symm] at hR;have eH:S1.H=S.H:=by rw[Er]
 rw[<-eH,show Ep S (t.id,2)=Ep S1 (t.id,2) by unfold Ep;rw[eH]] at hR;refine CG ?_;refine Aj ?_;refine AP (FB (ws:=R4 (X5 t.id f)) (k:=12) rfl rfl rfl A0 A0) ?_;rintro _ _ ⟨bn,_,rfl,rfl⟩;refine Aj ?_;refine Io 1 ?_;refine AR λGW=>?_;refine CC (Cy [7,8] 0 10) ?_;refine CG ?_;obtain⟨c,hc⟩:=ξ ((getD' S1.H.1 (t.id,2)).1)
 obtain⟨e,he⟩:=ξ ((getD' S1.H.1 (t.id,2)).2)
 rw[show Ep S1 (t.id,2)=c from hc,he] at hR;rw[hc,he];refine Is e_alloc (by rintro _ _ ⟨_,_,_,rfl⟩ c hc;exact .tail _ hc) ?_;rintro _ _ ⟨Ms,_,rfl,rfl⟩;refine CG ?_;obtain⟨w,lk⟩:=ξ (Mn c.rights 2)
 rw[lk] at hR;have aC:OwnSl 69 12 (.slice (some ⟨bn,0,none⟩) 1 1) 1 (R4 (X5 t.id f)) [Vv bn (X5 t.id f)]:=⟨rfl,.inr ⟨bn,1,[],rfl,rfl,Bf _,by unfold maxLen;omega,rfl⟩⟩
 by_cases h1:¬e=0\/¬c.kind=8
 ·rw[Ad Af] at hR;subst hR;by_cases h2:e=0<;>by_cases h3:c.kind=8;all_goals first
   |(exfalso;omega)
   |(refine Aj ?_
     refine Gt ?_;intro S2 s2 L2 hS2 Gd F4 Ig;refine Aj ?_;exact AU (vs:=[.slice (some ⟨bn,0,none⟩) 1 1]) [] _ rfl .refl Ba (l':=[Vv bn (X5 t.id f)]++AA b p s2 S2 L2) AY ⟨_,s2,L2,aC,by rw[<-hS2];exact Gd.mono Af,F4.trans DO,by rw[<-hS2]⟩)
 obtain⟨h2,h3⟩:e=0/\c.kind=8:=by omega
 refine Aj ?_;refine YQ (K7 rfl rfl) rfl rfl rfl rfl rfl rfl ?_;rw[lk];by_cases h4:w=0
 ·rw[Ad Af] at hR;subst hR;refine Aj ?_;refine Gt ?_;intro S2 s2 L2 hS2 Gd F4 Ig;refine Aj ?_;exact AU (vs:=[.slice (some ⟨bn,0,none⟩) 1 1]) [] _ rfl .refl Ba (l':=[Vv bn (X5 t.id f)]++AA b p s2 S2 L2) AY ⟨_,s2,L2,aC,by rw[<-hS2];exact Gd.mono Af,F4.trans DO,by rw[<-hS2]⟩
 rw[Ab Af] at hR;obtain⟨st,LF⟩: ∃st:Int,(if f.wr=true then(1:Int) else 0)=st:=⟨_,rfl⟩
 have hfm:dE f=⟨f.kd,f.va,st,0⟩:=by rw[<-LF]
 rw[hfm] at hR;cases hwr:f.wr
 case' true=>rw[hwr,Ad rfl] at LF
 case' false=>rw[hwr,Ab A0] at LF
 all_goals
  refine Aj ?_;rw[hwr];refine Aj ?_;refine wn (v:= .agg (τ [Bb f.kd,Bb f.va,Bb st,υ 0])) (by apply FR (zs:=[υ 0,υ 0,υ 0,υ 0]) (cs:=[Bb f.kd,Bb f.va,Bb st,υ 0]);(·subst LF;rfl);(·subst LF;rfl)) rfl rfl rfl ?_;refine Aj ?_;have Ef:=j9 S1 t.id (t.id,2) ⟨f.kd,f.va,st,0⟩ 4096 true;refine tkn (vs:=[pV b,ι t.id,Fy (t.id,2),rm ⟨f.kd,f.va,st,0⟩,ι 4096,.bool true]) (λG=>dC ED t.id (t.id,2) ⟨f.kd,f.va,st,0⟩ 4096 true) ?_;intro sl cs S2 s2 L2 hS2 F0 Gd F4 Ig;rw[<-hS2] at hR;obtain⟨ns,xR⟩:=ξ ((JH S1 t.id (t.id,2) ⟨f.kd,f.va,st,0⟩ 4096 true).1.1)
  rw[xR] at hR F0 Ef;refine Aj ?_;refine CC (Cy [8,9] 0 11) ?_;refine CG ?_;have JL:=Gd.tO t.id;obtain⟨u,hu⟩:=ξ (DJ S2 t.id)
  rw[hu] at hR JL⊢;refine Is e_alloc (by rintro _ _ ⟨_,_,_,rfl⟩ c hc;exact .tail _ hc) ?_;rintro _ _ ⟨Qt,_,rfl,rfl⟩;refine CG ?_;refine Aj ?_;refine Ct [3,5] 6 ([Th.thC b5 (Of t x)]) ?_ (hR:=(UV Ca));iterate 3 refine YY ?_
  refine wt ?_ (hR:=UV Ca);refine YY ?_;refine wt ?_ (hR:=UV Ca);refine BJ ?_;refine Aj ?_;refine CC (Cy [3] 0 4) ?_;refine CG ?_;refine Na (q:=O2 {u with fa:=true,cl:=t.cl} ⟨JL.out⟩) ?_;intro S3 s3 L3 hS3 M8 Lo Qv;rw[show DZ S2 {u with fa:=true,cl:=t.cl}=S3 from hS3.symm] at hR;refine CG ?_;refine Aj ?_;obtain⟨L4,hL4,hp4⟩:=Hr (b:=b) (p:=p) (s:=s3) (S:=S3) (Lo.trans F4);refine Bt (.of_perm (uz hp4)) ?_;refine Aj ?_;refine AP (R3 (k:=12) (n:=1) (m:=ns.length) (xs:=R4 (X5 t.id f)) (ys:=HY ns) (zs:=R4 (Kt 0)) (cs:=[Vv bn (X5 t.id f)]) (cw:=cs) rfl rfl rfl aC F0 (ad ns) Af Af A0) ?_;rintro v2 _ ⟨c2,ho3,rfl⟩;refine Aj ?_;refine Fk ?_;refine Aj ?_;subst hR;exact AU [] _ rfl .refl Ba pH ⟨c2,s3,L4,by rw[By,KY];exact ho3,M8,hL4.trans DO,rfl⟩
end
section
section
variable{fr:Fr}{l:Ac}{d:Nat}{at_:Array TypeId}{aft:Array Edge}
theorem tkl(h: ∀G,Fn P f vs (AA b p s S G) (KNl F C b p k' ns S' G))(hk: ∀sl cs S1 s' L,S1=S'->OwnSl 69 12 sl ns.length (HY ns) cs->IsK F C k' S1 p s'->Tail L (cs++G)->CH b p∈AA b p s' S1 L->DC P ro N E ops Q A6 ((d,sl)::fr) ds (Γ (AA b p s' S1 L)))(hx:ev fr x=some (.func (.func f) #[] #[]):=by rfl)(hy:SC fr xs=some vs:=by rfl)(hF:Fr1 (AA b p s S G) l Γ:=by exact fL)(c:EN P f:=by infer_instance)(hw:RD ops fr g=some true:=by rfl)(hb:Nat.blt d N=true:=by rfl):DC P ro N E ops Q (⟨some d,.call {callee:= .value x,args:=xs.toArray,argTypes:=at_},ty,pos,aft,g⟩::A6) fr ds l:=by
 obtain⟨A,rfl,hA⟩:=hF.eq;refine IE (Az hx hy (Fn.re (.of_perm (Fv b p s S A G)) (h (A++G)) (K':=λv l'=> ∃cs s' L,OwnSl 69 12 v ns.length (HY ns) cs/\IsK F C k' S' p s'/\Tail L (cs++G)/\l'=Γ (AA b p s' S' L)) λv l' ⟨cs,s',L,h2,h3,⟨X,h4⟩,h5⟩=>⟨Γ (AA b p s' S' (X++(cs++G))),?_,cs,s',_,h2,h3,⟨X,rfl⟩,rfl⟩)) hw rfl hb λv l' ⟨cs,s',L,h2,h3,h4,h5⟩=>by rw[h5];exact hk v cs S' s' L rfl h2 h3 h4 (mR λ_ h=>h)
 rw[h5,h4,hA];refine .of_perm ?_;unfold AA;exact δ
end
def SK(S:KT)(core:Int)(x:U0):(Int×Int)×KT:=if x.wr=true then((0,(oX S core x.va x.vl).1),(oX S core x.va x.vl).2) else kZ S core x.va
def okN(id v:Int):NoT:=⟨id,0,v,msZ,0,false,0,0,false⟩
abbrev acZ:U0:=⟨false,false,0,0⟩
def doR(S:KT)(core:Int)(x:U0)(t:Th.ThT):List NoT×KT:=
 if ¬(SK S core x).1.2=0 then NQ (SK S core x).2 t ⟨true,x.wr,x.va,if x.wr=true then x.vl else 0⟩ ⟨(SK S core x).1.2,x.va,x.wr⟩
 else([okN t.id (SK S core x).1.1],DZ (SK S core x).2 (Of t acZ))
def SL(S:KT)(core:Int)(x:U0):(List NoT×Int)×KT:=
 if ¬(M6 S core).2=0 then(([],(M6 S core).2),S) else(((doR S core x (M6 S core).1).1,0),(doR S core x (M6 S core).1).2)
def VO(S:KT)(core:Int):(List NoT×Int)×KT:=
 if ¬(M6 S core).2=0 then(([],(M6 S core).2),S) else if(M6 S core).1.hs=false then(([],2),S)
 else SL S core ⟨(M6 S core).1.hs,(M6 S core).1.wr,(M6 S core).1.va,(M6 S core).1.vl⟩
theorem ae(S:KT)(core va:Int)(wr:Bool):0<=(findA S core va wr).1.2/\(findA S core va wr).1.2<=100:=by
 unfold findA
 repeat' split
 all_goals first|exact⟨by decide,by decide⟩|(constructor<;>dsimp only<;>omega)
theorem zT(S:KT)(core:Int)(x:U0):0<=(SK S core x).1.2/\(SK S core x).1.2<=100:=by
 have h1:=ae S core x.va true;have h2:=ae S core x.va false;unfold SK oX kZ
 split
 ·split
  ·exact h1
  ·dsimp only;split<;>exact⟨by decide,by decide⟩
 ·split
  ·exact h2
  ·split<;>(constructor<;>dsimp only<;>omega)
theorem dF(hK:IsK F C k S p s)(core:Int):TW (M6 S core).1:=by
 unfold M6
 split
 ·exact⟨G8,G8⟩
 split
 ·exact⟨G8,G8⟩
 ·exact hK.tO _
theorem pI(hK:IsK F C (k+2) S p s)(core:Int)(x:U0)[hva:U6 x.va][xW:U6 x.vl]:Fn prog 106 [pV b,ι core,zS x] (AA b p s S G) (KN F C b p k (SL S core x).1.1 (SL S core x).1.2 (SL S core x).2 G):=by
 have mr:CH b p∈AA b p s S G:=mR λ_ h=>h;have JL:=dF hK core;have Yo:=zT S core x;obtain⟨R,hR⟩:=ξ (SL S core x)
 rw[hR];unfold SL at hR;refine AO func106 ntmps106 λE=>?_;refine AR λb5=>?_;refine EO ?_;obtain⟨w,hw⟩:=ξ (M6 S core)
 rw[hw] at hR JL⊢;obtain⟨t,ht⟩:=ξ w.1
 rw[ht] at hR JL⊢;refine AR λb8=>?_;by_cases h0:w.2=0
 case neg=>rw[Ad h0] at hR;subst hR;refine Aj ?_;exact Gh
 rw[Ab (λh=>h h0)] at hR;unfold doR SK at hR;unfold SK at Yo;obtain⟨xh,xw,xa,xv⟩:=x;dsimp only at hva xW hR Yo⊢;refine AR λMs=>?_;cases xw with
 |true=>
  simp only[CV] at hR Yo;obtain⟨q,hq⟩:=ξ (oX S core xa xv)
  rw[hq] at hR Yo;refine Aj ?_;refine CC (Cy [9,10] 0 11) ?_;refine CG ?_;refine Na ?_;intro S1 s1 L1 Er ED DO G6;rw[hq] at Er⊢;rw[<-Er] at hR;by_cases h1:q.1=0
  ·rw[Ab (λh=>h h1)] at hR;rw[show kY q.1 xa true=aH 0 0 false from Ad h1];refine CG ?_;refine Aj ?_;refine CC (Cy [3] 0 4) ?_;refine CG ?_;refine Na (q:=O2 (Of t acZ) ⟨G8,G8⟩) ?_;intro S2 s2 L2 hS2 Gd F4 Ig;rw[show DZ S1 (Of t acZ)=S2 from hS2.symm] at hR;refine CG ?_;refine Aj ?_;refine AP (FB (ws:=R4 (okN t.id 0)) (k:=12) rfl rfl rfl A0 A0) ?_;rintro _ _ ⟨bn,_,rfl,rfl⟩;refine Aj ?_;subst hR;exact AU [] _ rfl .refl Ba (l':=[Vv bn (okN t.id 0)]++AA b p s2 S2 L2) AY ⟨_,_,s2,L2,rfl,⟨rfl,.inr ⟨bn,1,[],rfl,rfl,Bf _,by unfold maxLen;omega,rfl⟩⟩,Gd.mono Af,F4.trans DO,rfl⟩
  ·rw[Ad h1] at hR;rw[show kY q.1 xa true=aH q.1 xa true from Ab h1];refine CG ?_;refine Aj ?_;refine tkl (vs:=[pV b,Th.thV t,zS ⟨true,true,xa,xv⟩,ftV ⟨q.1,xa,true⟩]) (λG=>gO ED t ⟨true,true,xa,xv⟩ ⟨q.1,xa,true⟩ ⟨hva.out,xW.out⟩ Yo) ?_;intro sl cs S2 s2 L2 hS2 F0 Gd F4 Ig;refine Aj ?_;obtain⟨L4,hL4,hp4⟩:=Hr (b:=b) (p:=p) (s:=s2) (S:=S2) F4;subst hR;exact AU [] _ rfl .refl Ba (.drop (.drop (.drop (.of_perm hp4)))) ⟨sl,cs,s2,L4,rfl,F0,by rw[<-hS2];exact Gd,hL4.trans DO,by rw[<-hS2]⟩
 |false=>
  simp only[Bn,C0] at hR Yo;obtain⟨q,hq⟩:=ξ (kZ S core xa)
  rw[hq] at hR Yo;refine Aj ?_;refine CC (Cy [7,12] 0 13) ?_;refine CG ?_;refine Na ?_;intro S1 s1 L1 Er ED DO G6;rw[hq] at Er⊢;rw[<-Er] at hR;by_cases h1:q.1.2=0
  ·rw[Ab (λh=>h h1)] at hR;rw[show kY q.1.2 xa false=aH 0 0 false from Ad h1];refine CG ?_;refine Aj ?_;refine CC (Cy [3] 0 4) ?_;refine CG ?_;refine Na (q:=O2 (Of t acZ) ⟨G8,G8⟩) ?_;intro S2 s2 L2 hS2 Gd F4 Ig;rw[show DZ S1 (Of t acZ)=S2 from hS2.symm] at hR;refine CG ?_;refine Aj ?_;refine AP (FB (ws:=R4 (okN t.id q.1.1)) (k:=12) rfl rfl rfl A0 A0) ?_;rintro _ _ ⟨bn,_,rfl,rfl⟩;refine Aj ?_;subst hR;exact AU [] _ rfl .refl Ba (l':=[Vv bn (okN t.id q.1.1)]++AA b p s2 S2 L2) AY ⟨_,_,s2,L2,rfl,⟨rfl,.inr ⟨bn,1,[],rfl,rfl,Bf _,by unfold maxLen;omega,rfl⟩⟩,Gd.mono Af,F4.trans DO,rfl⟩
  ·rw[Ad h1] at hR;rw[show kY q.1.2 xa false=aH q.1.2 xa false from Ab h1];refine CG ?_;refine Aj ?_;refine tkl (vs:=[pV b,Th.thV t,zS ⟨true,false,xa,0⟩,ftV ⟨q.1.2,xa,false⟩]) (λG=>gO ED t ⟨true,false,xa,0⟩ ⟨q.1.2,xa,false⟩ ⟨hva.out,G8⟩ Yo) ?_;intro sl cs S2 s2 L2 hS2 F0 Gd F4 Ig;refine Aj ?_;obtain⟨L4,hL4,hp4⟩:=Hr (b:=b) (p:=p) (s:=s2) (S:=S2) F4;subst hR;exact AU [] _ rfl .refl Ba (.drop (.drop (.drop (.of_perm hp4)))) ⟨sl,cs,s2,L4,rfl,F0,by rw[<-hS2];exact Gd,hL4.trans DO,by rw[<-hS2]⟩
theorem Adt(hK:IsK F C (k+2) S p s)(core:Int):Fn prog 105 [pV b,ι core] (AA b p s S G) (KN F C b p k (VO S core).1.1 (VO S core).1.2 (VO S core).2 G):=by
 have mr:CH b p∈AA b p s S G:=mR λ_ h=>h;have JL:=dF hK core;obtain⟨R,hR⟩:=ξ (VO S core)
 rw[hR];unfold VO at hR;refine AO func105 ntmps105 λE=>?_;refine Aj ?_;refine EO ?_;obtain⟨w,hw⟩:=ξ (M6 S core)
 rw[hw] at hR JL⊢;obtain⟨t,ht⟩:=ξ w.1
 rw[ht] at hR JL⊢;refine AR λb6=>?_;by_cases h0:w.2=0
 case neg=>rw[Ad h0] at hR;subst hR;refine Aj ?_;exact Gh
 rw[Ab (λh=>h h0)] at hR;cases h1:t.hs with
 |false=>rw[Ad h1] at hR;subst hR;refine Aj ?_;exact Gh
 |true=>
 rw[Ab (by rw[h1];decide),h1] at hR;have hva:U6 (⟨true,t.wr,t.va,t.vl⟩:U0).va:=⟨JL.out.1⟩
 have xW:U6 (⟨true,t.wr,t.va,t.vl⟩:U0).vl:=⟨JL.out.2⟩
 refine Aj ?_;refine tkn (vs:=[pV b,ι core,zS ⟨true,t.wr,t.va,t.vl⟩]) (λG=>pI hK core ⟨true,t.wr,t.va,t.vl⟩) ?_ (hy:=by first|rfl|(rw[<-h1];rfl));intro sl cs S2 s2 L2 hS2 F0 Gd F4 Ig;refine Aj ?_;obtain⟨L4,hL4,hp4⟩:=Hr (b:=b) (p:=p) (s:=s2) (S:=S2) F4;subst hR;exact AU [] _ rfl .refl Ba (.drop (.of_perm hp4)) ⟨sl,cs,s2,L4,rfl,F0,by rw[<-hS2];exact Gd,hL4,by rw[<-hS2]⟩
end
def Ha(op:Int):Bool×Bool:=
 if op=17\/op=18 then(false,false)
 else if op=1\/op=2\/op=3\/op=4\/op=5\/op=8\/op=10\/op=12\/op=13\/op=19 then(true,true) else(true,false)
theorem dG(op:Int)(l:Ac):Fn prog 158 [ι op] l λv l'=>v= .tuple #[.bool (Ha op).1,.bool (Ha op).2]/\l'=l:=by
 obtain⟨R,hR⟩:=ξ (Ha op)
 rw[hR];unfold Ha at hR;refine AO func158 ntmps158 λE=>?_;refine Aj ?_;by_cases h1:op=17
 ·rw[Ad Af] at hR;subst hR;refine Aj ?_;exact qr
 by_cases h2:op=18
 ·rw[Ad Af] at hR;subst hR;refine Aj ?_;exact qr
 rw[Ab Af] at hR;by_cases g1:op=1
 ·rw[Ad Af] at hR;subst hR;refine Aj ?_;exact qr
 by_cases g2:op=2
 ·rw[Ad Af] at hR;subst hR;refine Aj ?_;exact qr
 by_cases g3:op=3
 ·rw[Ad Af] at hR;subst hR;refine Aj ?_;exact qr
 by_cases g4:op=4
 ·rw[Ad Af] at hR;subst hR;refine Aj ?_;exact qr
 by_cases g5:op=5
 ·rw[Ad Af] at hR;subst hR;refine Aj ?_;exact qr
 by_cases g6:op=8
 ·rw[Ad Af] at hR;subst hR;refine Aj ?_;exact qr
 by_cases g7:op=10
 ·rw[Ad Af] at hR;subst hR;refine Aj ?_;exact qr
 by_cases g8:op=12
 ·rw[Ad Af] at hR;subst hR;refine Aj ?_;exact qr
 by_cases g9:op=13
 ·rw[Ad Af] at hR;subst hR;refine Aj ?_;exact qr
 by_cases g10:op=19
 ·rw[Ad Af] at hR;subst hR;refine Aj ?_;exact qr
 rw[Ab Af] at hR;subst hR;refine Aj ?_;exact qr
instance{op:Int}{l:Ac}:QF prog 158 [ι op] l (.tuple #[.bool (Ha op).1,.bool (Ha op).2]):=⟨λl _=>dG op l⟩
def NZ(S:KT)(t:Int)(o:Ja)(x:Ch):Option ((List NoT×Int)×KT):=
 if o.op=14\/o.op=15 then some (JH S t x o.ms o.n0 (decide (o.op=15)))
 else if o.op=16 then some (O9 S t x o.n0)
 else if o.op=17 then some (LC S t o.ms)
 else none
section
def KNs(F C b:Nat)(p:RP)(k:Nat)(S:KT)(G:Ac)(R:Option ((List NoT×Int)×KT)):Value->Ac->Prop:=λv l'=>match R with
 |none=>v= .tuple #[.slice none 0 0,iV 0,.bool false]/\ ∃s L,IsK F C (k+2) S p s/\Tail L G/\l'=AA b p s S L
 |some r=> ∃sl cs s L,v= .tuple #[sl,iV r.1.2,.bool true]/\OwnSl 69 12 sl r.1.1.length (HY r.1.1) cs/\IsK F C k r.2 p s/\Tail L G/\l'=cs++AA b p s r.2 L
theorem zU(hK:IsK F C (k+2) S p s)(t:Int)(o:Ja)(x y:Ch):Fn prog 160 [O7 b t o x y] (AA b p s S G) (KNs F C b p k S G (NZ S t o x)):=by
 have mr:CH b p∈AA b p s S G:=mR λ_ h=>h;obtain⟨R,hR⟩:=ξ (NZ S t o x)
 rw[hR];unfold NZ at hR;have z0:(τ (rp b t o x y))[2+4+(0:Int).toNat*1]?=some (iV o.n0):=rfl;refine AO func160 ntmps160 λE=>?_;refine AR λb1=>?_;by_cases h1:o.op=14
 ·rw[Ad Af] at hR;refine Aj ?_;refine tkn (vs:=[pV b,ι t,Fy x,rm o.ms,ι o.n0,.bool (decide (o.op=15))]) (λG=>dC hK t x o.ms o.n0 (decide (o.op=15))) ?_;intro sl cs S2 s2 L2 hS2 F0 Gd F4 Ig;subst hS2;refine Aj ?_;obtain⟨L3,hL3,Yp⟩:=Hr (b:=b) (p:=p) (s:=s2) F4;subst hR;exact CY (vs:=[sl,iV (JH S t x o.ms o.n0 (decide (o.op=15))).1.2,.bool true]) _ .refl (Keep.trans ζ (.of_perm Yp)) ⟨sl,cs,s2,L3,rfl,F0,Gd,hL3,rfl⟩
 by_cases h2:o.op=15
 ·rw[Ad Af] at hR;refine Aj ?_;refine tkn (vs:=[pV b,ι t,Fy x,rm o.ms,ι o.n0,.bool (decide (o.op=15))]) (λG=>dC hK t x o.ms o.n0 (decide (o.op=15))) ?_;intro sl cs S2 s2 L2 hS2 F0 Gd F4 Ig;subst hS2;refine Aj ?_;obtain⟨L3,hL3,Yp⟩:=Hr (b:=b) (p:=p) (s:=s2) F4;subst hR;exact CY (vs:=[sl,iV (JH S t x o.ms o.n0 (decide (o.op=15))).1.2,.bool true]) _ .refl (Keep.trans ζ (.of_perm Yp)) ⟨sl,cs,s2,L3,rfl,F0,Gd,hL3,rfl⟩
 rw[Ab Af] at hR;by_cases h3:o.op=16
 ·rw[Ad h3] at hR;refine Aj ?_;refine tkn (vs:=[pV b,ι t,Fy x,ι o.n0]) (λG=>zR hK t x o.n0) ?_;intro sl cs S2 s2 L2 hS2 F0 Gd F4 Ig;subst hS2;refine Aj ?_;obtain⟨L3,hL3,Yp⟩:=Hr (b:=b) (p:=p) (s:=s2) F4;subst hR;exact CY (vs:=[sl,iV (O9 S t x o.n0).1.2,.bool true]) _ .refl (Keep.trans ζ (.of_perm Yp)) ⟨sl,cs,s2,L3,rfl,F0,Gd,hL3,rfl⟩
 rw[Ab h3] at hR;by_cases h4:o.op=17
 ·rw[Ad h4] at hR;refine Aj ?_;refine tkn (vs:=[pV b,ι t,rm o.ms]) (λG=>uy hK t o.ms) ?_;intro sl cs S2 s2 L2 hS2 F0 Gd F4 Ig;subst hS2;refine Aj ?_;obtain⟨L3,hL3,Yp⟩:=Hr (b:=b) (p:=p) (s:=s2) F4;subst hR;exact AU (vs:=[sl,iV (LC S t o.ms).1.2,.bool true]) [] _ rfl .refl Ba (Keep.trans ζ (.of_perm Yp)) ⟨sl,cs,s2,L3,rfl,F0,Gd.mono Af,hL3,rfl⟩
 rw[Ab h4] at hR;subst hR;refine Aj ?_;exact CY _ .refl ζ ⟨rfl,s,G,hK,.nil,rfl⟩
end
theorem Adu(e:Vr):U6 (Q6 e).1:=by
 unfold Q6
 split
 ·rename_i h;unfold VJ at h;have h1:=Mq e.vd;have h2:=Mq e.lf;have h3:=Mq e.rd;have h4:=Mq e.wr;have h5:0<=e.fr/\e.fr<64:=by
   split at h
   ·have h6:e=cM:=by simpa using h
    rw[h6];exact⟨by decide,by decide⟩
   ·split at h
    ·cases h
    ·omega
  refine⟨⟨?_,?_⟩⟩<;>dsimp only<;>omega
 ·exact⟨by decide,by decide⟩
section
theorem IsK.lvU(h:IsK F C k S p s){r:Int}{q:Int×Int}(hq:q∈wS S.W r pg):U6 q.2:=by
 unfold wS at hq
 split at hq
 ·cases hq
 rcases Au.1 hq with rfl|hq
 ·exact h.atU _ _ _
 split at hq
 ·cases hq
 rw[Ay.1 hq];exact h.atU _ _ _
abbrev enF(f:Int):Vr:=⟨true,false,false,false,f⟩
def zV(S:KT)(f obj se pg:Int)(q:Int×Int):KT:={S with W:=(jp (tk S.W f 1).2 q.2 (Q6 (enF f)).1).2,A:=(Ar.placeD S.A obj se pg q.1).2}
def Ri(S:KT)(x y:Ch)(va:Int):Int×KT:=
 if ¬(FT S x 4/\FT S y 5) then(8,S)
 else if(As.ofP S.N (Ep S y).obj).2.2=false then(15,S)
 else if ¬(Hl va).2=0 then(3,S)
 else if(Gg S (Ep S x).obj).2=true then(13,S)
 else match(wS S.W (NN S (Ep S y).obj) (Hl va).1).find? λq=>decide ((Pu S.W q.2).1=0) with
  |some q=>(0,zV S (NN S (Ep S x).obj) (Ep S x).obj (As.ofP S.N (Ep S y).obj).2.1 (Hl va).1 q)
  |none=>(11,S)
theorem uC{f:α->Bool}{pre:List α}{q:α}{l:List α}(h:pre++[q]<+:l)(hn: ∀x,x∈pre->f x=false)(hq:f q=true):l.find? f=some q:=by obtain⟨t,rfl⟩:=h;rw[Am,Ek,Bp.2 (λx hx=>by simp[hn x hx])];simp[hq]
theorem uD{f:α->Bool}{l:List α}(hn: ∀x,x∈l->f x=false):l.find? f=none:=Bp.2 λx hx=>by simp[hn x hx]
theorem zW:((lo++AA b p s S G)++(r,o)::T).Perm (lo++(r,o)::AA b p s S (G++T)):=by unfold AA;exact δ
theorem uE(h:L=lo):((lo++AA b p s S G)++(r,o)::T).Perm (L++(r,o)::AA b p s S (G++T)):=by rw[h];exact zW
theorem pJ(h:L=lo):(L++(r,o)::AA b p s S (G++T)).Perm ((lo++AA b p s S G)++(r,o)::T):=by rw[h];unfold AA;exact δ
theorem uF{L2:Ac}(hT:Tail L2 (L++T)): ∃L',Tail L' L/\ ∀(lo:Ac) (r:Nat) (o:Obj),(lo++(r,o)::AA b p s S L2).Perm ((lo++AA b p s S L')++(r,o)::T):=by obtain⟨X,rfl⟩:=hT;exact⟨X++L,⟨X,rfl⟩,λlo r o=>by unfold AA;exact δ⟩
abbrev We(B:Nat)(x:Int):Bh:=(B,.cells (τ [iV x]) 29 (0,0))
theorem zX(hK:IsK F C k S p s)(x y:Ch)(va:Int)[hu:U6 va]:Fn prog 214 [pV b,Fy x,Fy y,Bb va] (AA b p s S G) (KK F C b p k (iV (Ri S x y va).1) (Ri S x y va).2 G):=by
 have mr:CH b p∈AA b p s S G:=mR λ_ h=>h;obtain⟨R,hR⟩:=ξ (Ri S x y va)
 rw[hR];unfold Ri at hR;refine Z4 func214 rfl rfl λE=>?_;simp only[Xe,ntmps214];refine AR λb4=>?_;refine AR λb5=>?_;refine AR λb6=>?_;refine AP (D5 (k:=3) (n:=2) (e:=457) (zs:=Oi (0,0) 0) (cs:=Oi x 4++Oi y 5) rfl A0 A0 rfl (Tn x y 4 5)) ?_;rintro _ _ ⟨bw,_,rfl,rfl⟩;refine LR ?_;refine AP (Az rfl rfl (Tm hK bw x y 4 5 _ (λc hc=> .tail _ (.tail _ (.tail _ (.tail _ hc)))) (.head _))) ?_;rintro _ _ (⟨hk,u,cs,ho,rfl,rfl⟩|⟨hk,rfl,rfl⟩)
 case' inr=>
  rw[Ad hk] at hR;subst hR;refine AR λb9=>?_;exact Bd
 rw[Ab (λh=>h hk)] at hR;obtain⟨gb,cap,sp,rfl,rfl⟩:=NO ho Af;rw[Ce];obtain⟨c,hc⟩:=ξ (Ep S x)
 obtain⟨d,hd⟩:=ξ (Ep S y)
 rw[hc,hd] at hR⊢;have z0:(τ (Cb c++Cb d++sp))[0+(0:Int).toNat*8+1]?=some (ι c.obj):=rfl;have z1:(τ (Cb c++Cb d++sp))[0+(1:Int).toNat*8+1]?=some (ι d.obj):=rfl;obtain⟨cd,hcd⟩: ∃r,Cb c++Cb d++sp=r:=⟨_,rfl⟩
 rw[hcd] at z0 z1⊢;refine AR λb9=>?_;refine CC (Cy [11,13] 0 15) ?_;refine CG ?_;obtain⟨o,ho⟩:=ξ (As.ofP S.N d.obj)
 rw[ho] at hR⊢;refine Is e_alloc (by rintro _ _ ⟨_,_,_,rfl⟩ c hc;exact .tail _ hc) ?_;rintro _ _ ⟨Ty,_,rfl,rfl⟩;refine CG ?_;refine LR ?_;refine EO ?_;obtain⟨g,hg⟩:=ξ (Hl va)
 rw[hg] at hR⊢;refine AR λaT=>?_;cases h1:o.2.2 with
 |false=>rw[Ad h1] at hR;subst hR;refine LR ?_;exact Bd
 |true=>
 rw[Ab (by simp[h1])] at hR;refine LR ?_;by_cases h2:g.2=0
 case neg=>rw[Ad h2] at hR;subst hR;refine LR ?_;exact Bd
 rw[Ab (by simpa using h2)] at hR;refine LR ?_;refine CC (Cy [] 0 7) ?_;refine CG ?_;cases h3:(Gg S c.obj).2 with
 |true=>rw[Ad h3] at hR;subst hR;refine LR ?_;exact Bd
 |false=>
 rw[Ab (by simp[h3])] at hR;refine LR ?_;refine CC (Cy [6,7] 0 8) ?_;refine CG ?_;obtain⟨f,hf⟩:=ξ (NN S c.obj)
 rw[hf] at hR⊢;refine Is e_alloc (by rintro _ _ ⟨_,_,_,rfl⟩ c hc;exact .tail _ hc) ?_;rintro _ _ ⟨YD,_,rfl,rfl⟩;refine CG ?_;refine AR λQt=>?_;obtain⟨pg,hpg⟩: ∃x,g.1=x:=⟨_,rfl⟩
 obtain⟨se,hse⟩: ∃x,o.2.1=x:=⟨_,rfl⟩
 rw[hpg,hse] at hR⊢;refine CC (Cy [8] 0 9) ?_;refine CG ?_;obtain⟨rt,hrt⟩: ∃x,NN S d.obj=x:=⟨_,rfl⟩
 rw[hrt] at hR⊢;refine LP (Az rfl rfl (oV rt pg _)) ?_ rfl rfl;rintro _ _ ⟨B3,B4,B5,rfl,rfl⟩;refine CG ?_;obtain⟨gm,f1,f2,hW,hU,hM⟩:=hK.mem;obtain⟨lo,xQ⟩:=ξ ([BX B5 pg,BX B4 rt,rB B3 b,We Qt 11,BX YD f,BX aT pg,BX Ty se,(b9,Obj.cells (τ [Value.slice (some ⟨gb,0,none⟩) 2 cap]) 404 (0,0)),(gb,Obj.cells (τ cd) 74 (0,0)),rB b4 b])
 refine LR ?_;refine o8 rfl ?_;refine Dj (α:=Int×Int) (ps:=[80,81]) (lb:=[pV B3,pV B4,pV B5]) rfl (Z1 B3 B4 B5 b gm F p S.W f2 hW hU rt pg) (λ_=>rfl) rfl
  (λpre l=>(∀q,q∈pre->decide ((Pu S.W q.2).1=0)=false)/\l=lo++AA b p s S G)
  (λco pre l=>co= .exit 1/\ ∃yn q s' L',pre=yn++[q]/\(∀q,q∈yn->decide ((Pu S.W q.2).1=0)=false)/\decide ((Pu S.W q.2).1=0)=true/\IsK F C k (zV S f c.obj se pg q) p s'/\Tail L' G/\l=[We Qt 0]++AA b p s' (zV S f c.obj se pg q) L')
  (lo++AA b p s S G) [] (λpre l X hX h=>by obtain⟨_,rfl⟩:=h;rw[<-xQ];have m1:=mM (b:=b) (p:=p) (s:=s) (S:=S) (G:=G) (l:=AA b p s S G) (λ_ h=>h);rw[hM] at m1;exact⟨by simp,by simp,by simp,by simp[mr],by simp[m1],by simp[m1]⟩) (by rw[Bj,<-xQ];exact AY) ⟨λ_ h=>(nomatch h),rfl⟩ ?_ ?_ ?_
 ·rintro E r0 Gb pre q l' X ⟨fn,tmps,D,hrec⟩ hX ⟨hn,rfl⟩ DG;have Rw:q∈wS S.W rt pg:=DG.subset (by simp);have hqU:=hK.lvU Rw;obtain⟨lv,qa⟩:=q;refine Eh (.of_perm (uE (L:=[BX B5 pg,BX B4 rt,rB B3 b,We Qt 11,BX YD f,BX aT pg,BX Ty se,(b9,Obj.cells (τ [Value.slice (some ⟨gb,0,none⟩) 2 cap]) 404 (0,0)),(gb,Obj.cells (τ cd) 74 (0,0)),rB b4 b]) xQ)) ?_;have G6:CH b p∈AA b p s S (G++X):=mR λ_ h=>h;simp only[DY,Ae,Ag];rw[hrec];refine LR ?_;refine CP D1 ?_;rw[<-hrec];obtain⟨lp,lL⟩: ∃lp:Bh,(r0,Obj.loop (Gb .busy none))=lp:=⟨_,rfl⟩
  rw[lL];refine zC ?_;intro Q' hQ';refine LR ?_;refine EO ?_;refine LR ?_;refine EO ?_;obtain⟨w,hw⟩:=ξ (Pu S.W qa)
  rw[hw];refine LR ?_;by_cases h5:w.1=0
  case neg=>
   refine LR ?_;refine Adf hQ' ?_;subst lL hrec;exact Cn (lo++AA b p s S G) (Keep.of_perm (pJ (L:=[BX B5 pg,BX B4 rt,rB B3 b,We Qt 11,BX YD f,BX aT pg,BX Ty se,(b9,Obj.cells (τ [Value.slice (some ⟨gb,0,none⟩) 2 cap]) 404 (0,0)),(gb,Obj.cells (τ cd) 74 (0,0)),rB b4 b]) xQ)) ⟨λz hz=>by
    rcases AB.1 hz with hz|hz
    ·exact hn z hz
    ·rw[Ay.1 hz];simp[hw,h5],rfl⟩
  refine LR ?_;refine EO (q:=(⟨λl _=>ZM (enF f) l⟩:QF prog 294 [ZL (enF f)] _ _)) ?_;have heU:=Adu (enF f);obtain⟨ew,hew⟩: ∃w,Q6 (enF f)=w:=⟨_,rfl⟩
  rw[hew] at heU⊢;refine LR ?_;try simp only[AN,AL,AX]
  refine CC (Cy [3] 0 4) ?_;refine CG ?_;refine Na ?_;intro S1 s1 L1 Er ED DO G6;refine CG ?_;refine LR ?_;refine EO ?_;refine LR ?_;refine Gt ?_;intro S2 s2 L2 hS2 Gd F4 Ig;refine LR ?_;refine CC (Cy [9] 0 10) ?_;refine CG ?_;refine Na ?_;intro S3 s3 L3 hS3 M8 Lo Qv;refine CG ?_;refine LR ?_;have hS:S3=zV S f c.obj se pg (lv,qa):=by unfold zV;rw[hew,hS3,hS2,Er]
  clear hS3 hR;subst hS;obtain⟨L',hL',hp⟩:=uF (b:=b) (p:=p) (s:=s3) (S:=zV S f c.obj se pg (lv,qa)) (Lo.trans (F4.trans DO));refine Adf hQ' ?_;subst lL hrec;exact Fe ([We Qt 0]++AA b p s3 (zV S f c.obj se pg (lv,qa)) L') (Keep.right AY (hp [We Qt 0] r0 _)) ⟨rfl,pre,(lv,qa),s3,L',rfl,hn,by simp[hw,h5],M8,hL',rfl⟩
 ·rintro D xs l' rfl ⟨hn,rfl⟩;rw[uD hn] at hR;subst hR;rw[<-xQ];simp only[Ae,Ag,Bj];refine LR ?_;exact AU [D] _ rfl .refl Ba AY ⟨rfl,s,G,hK,.nil,rfl⟩
 ·rintro D co pre l' DG ⟨rfl,yn,q,s',L',rfl,hn,hq,hK',hT,rfl⟩;rw[uC DG hn hq] at hR;subst hR;simp only[Ae,Ag,Bj];refine LR ?_;exact AU [D] _ rfl .refl Ba AY ⟨rfl,s',L',hK',hT,rfl⟩
instance{x y:Ch}{va:Int}[hu:U6 va]:EK prog F C b p 214 [pV b,Fy x,Fy y,Bb va] k S k (iV (Ri S x y va).1) (Ri S x y va).2:=⟨λs G h=>zX h x y va⟩
end
section
abbrev enL(m f:Int):Vr:=⟨true,true,decide (¬Mn m 1=0),decide (¬Mn m 2=0),f⟩
def mfS(S:KT)(x:Ch)(c:CapT)(n se pg a m:Int):KT:={S with W:=(jp S.W a (Q6 (enL m (NN S c.obj))).1).2,H:=(PG S.H x {c with serial:=se,page:=pg}).2,K:=IZ S.K (KJ n pg)}
def Rj(S:KT)(x y:Ch)(va ri:Int):Int×KT:=
 if ¬(FT S x 3/\FT S y 5) then(8,S)
 else if(As.ofP S.N (Ep S y).obj).2.2=false then(15,S)
 else if ¬(Hl va).2=0 then(3,S)
 else if ¬va%64=0 then(4,S)
 else if ri<1\/3<ri\/Mn ri (Ep S x).rights=0 then(9,S)
 else if(Ft S (Ep S x)).2=true/\(¬(Ep S x).serial=(As.ofP S.N (Ep S y).obj).2.1\/¬(Ep S x).page=(Hl va).1) then(13,S)
 else if ¬(Rr S.W (NN S (Ep S y).obj) (Hl va).1 3).2=0 then(14,S)
 else if ¬(Pu S.W (Rr S.W (NN S (Ep S y).obj) (Hl va).1 3).1).1=0/\(Ft S (Ep S x)).2=false then(11,S)
 else(0,mfS S x (Ep S x) (As.ofP S.N (Ep S y).obj).1 (As.ofP S.N (Ep S y).obj).2.1 (Hl va).1 (Rr S.W (NN S (Ep S y).obj) (Hl va).1 3).1 (Mn ri (Ep S x).rights))
theorem zY(hK:IsK F C k S p s)(x y:Ch)(va ri:Int)[hu:U6 va]:Fn prog 216 [pV b,Fy x,Fy y,Bb va,ι ri] (AA b p s S G) (KK F C b p k (iV (Rj S x y va ri).1) (Rj S x y va ri).2 G):=by
 have mr:CH b p∈AA b p s S G:=mR λ_ h=>h;have hw:=hK.cw x;obtain⟨u0,u1⟩:=hu.out;obtain⟨R,hR⟩:=ξ (Rj S x y va ri)
 rw[hR];unfold Rj at hR;refine AO func216 ntmps216 λE=>?_;refine AR λb6=>?_;refine AR λb7=>?_;refine AP (D5 (k:=3) (n:=2) (e:=457) (zs:=Oi (0,0) 0) (cs:=Oi x 3++Oi y 5) rfl A0 A0 rfl (Tn x y 3 5)) ?_;rintro _ _ ⟨bw,_,rfl,rfl⟩;refine Aj ?_;refine AP (Az rfl rfl (Tm hK bw x y 3 5 _ (λc hc=> .tail _ (.tail _ (.tail _ hc))) (.head _))) ?_;rintro _ _ (⟨hk,u,cs,ho,rfl,rfl⟩|⟨hk,rfl,rfl⟩)
 case' inr=>
  rw[Ad hk] at hR;subst hR;refine Aj ?_;exact Bd
 rw[Ab (λh=>h hk)] at hR;obtain⟨gb,cap,sp,rfl,rfl⟩:=NO ho Af;rw[Ce];obtain⟨c,hc⟩:=ξ (Ep S x)
 obtain⟨d,hd⟩:=ξ (Ep S y)
 rw[hc] at hw;rw[hc,hd] at hR⊢;have z0:(τ (Cb c++Cb d++sp)).extract (0+(0:Int).toNat*8) (0+(0:Int).toNat*8+8)=τ (Cb c):=by rw[Am];exact gA c _
 have z1:(τ (Cb c++Cb d++sp))[0+(1:Int).toNat*8+1]?=some (ι d.obj):=rfl;refine Aj ?_;refine Be (Dp rfl (.head _) (by show 0+(0:Int).toNat*8+8<=(Cb c++Cb d++sp).length;simp) z0) ?_;refine AR λQs=>?_;refine CC (Cy [] 0 14) ?_;refine CG ?_;obtain⟨o,ho⟩:=ξ (As.ofP S.N d.obj)
 rw[ho] at hR⊢;refine CG ?_;refine Aj ?_;refine EO ?_;obtain⟨g,hg⟩:=ξ (Hl va)
 rw[hg] at hR⊢;refine Aj ?_;refine EO ?_;obtain⟨fk,hfk⟩: ∃x,(Ft S c).2=x:=⟨_,rfl⟩
 rw[hfk] at hR⊢;refine Aj ?_;cases h1:o.2.2 with
 |false=>rw[Ad h1] at hR;subst hR;refine Aj ?_;exact Bd
 |true=>
 rw[Ab (by simp[h1])] at hR;refine Aj ?_;by_cases h2:g.2=0
 case neg=>rw[Ad h2] at hR;subst hR;refine Aj ?_;exact Bd
 rw[Ab (by simpa using h2)] at hR;refine Aj ?_;by_cases h3:va%64=0
 case neg=>rw[Ad h3] at hR;subst hR;refine Aj ?_;exact Bd
 rw[Ab (by simpa using h3)] at hR;obtain⟨m,hm⟩:=ξ (Mn ri c.rights)
 rw[hm] at hR;by_cases h4:ri<1\/3<ri
 ·rw[Ad Af] at hR;subst hR;by_cases h5:ri<1<;>by_cases h6:3<ri;all_goals first
   |(exfalso;omega)
   |(refine Aj ?_
     exact Bd)
 obtain⟨h5,h6⟩:¬ri<1/\¬3<ri:=by omega
 refine Aj ?_;refine YQ (K7 rfl rfl) rfl rfl rfl rfl rfl rfl ?_;rw[hm];by_cases h7:m=0
 ·rw[Ad Af] at hR;subst hR;refine Aj ?_;exact Bd
 rw[Ab Af] at hR;refine Aj ?_;obtain⟨pg,hpg⟩: ∃x,g.1=x:=⟨_,rfl⟩
 obtain⟨se,hse⟩: ∃x,o.2.1=x:=⟨_,rfl⟩
 rw[hpg,hse] at hR⊢;by_cases h8:fk=true/\(¬c.serial=se\/¬c.page=pg)
 ·rw[Ad h8] at hR;subst hR;obtain⟨rfl,h8⟩:=h8;by_cases h9:c.serial=se<;>by_cases VA:c.page=pg;all_goals first
   |(exfalso;omega)
   |(refine Aj ?_
     exact Bd)
 rw[Ab h8] at hR;have haU:=hK.atU (NN S d.obj) pg 3;cases fk
 case' true=>
  obtain⟨h9,VA⟩:c.serial=se/\c.page=pg:=by simpa using h8
 all_goals
  refine Aj ?_;refine CC (Cy [] 0 15) ?_;refine CG ?_;try simp only[AN,AL,AX]
  refine CG ?_;obtain⟨a,ha⟩:=ξ (Rr S.W (NN S d.obj) pg 3)
  rw[ha] at hR haU⊢;refine CG ?_;refine Aj ?_;by_cases kS:a.2=0
  case neg=>rw[Ad kS] at hR;subst hR;refine Aj ?_;exact Bd
  rw[Ab (by simpa using kS)] at hR;refine Aj ?_;try simp only[AN,AL,AX]
  refine EO ?_;refine Aj ?_;refine EO ?_;obtain⟨w,hw1⟩:=ξ (Pu S.W a.1)
  rw[hw1] at hR⊢;by_cases iy:w.1=0;all_goals first
   |(rw[Ad ⟨iy,rfl⟩] at hR
     subst hR;refine Aj ?_;exact Bd)
   |(rw[Ab (by simp[iy])] at hR
     subst hR;unfold mfS;obtain⟨fi,hfi⟩: ∃x,NN S c.obj=x:=⟨_,rfl⟩
     rw[hfi];have heU:=Adu (enL m fi);have lk:CW {c with serial:=se,page:=pg}:=⟨hw.out.1,hw.out.2⟩
     refine Aj ?_;refine Be (K7 rfl rfl) ?_;rw[hm];refine Aj ?_;refine Be (K7 rfl rfl) ?_;refine Aj ?_;refine Be (K7 rfl rfl) ?_;refine Aj ?_;refine EO ?_;rw[hfi];refine Aj ?_;refine EO (q:=(⟨λl _=>ZM (enL m fi) l⟩:QF prog 294 [ZL (enL m fi)] _ _)) ?_;obtain⟨ew,hew⟩: ∃w,Q6 (enL m fi)=w:=⟨_,rfl⟩
     rw[hew] at heU⊢;refine Aj ?_;try simp only[AN,AL,AX]
     refine EO ?_;refine Aj ?_;refine Gt ?_;intro S1 s1 L1 Er ED DO G6;refine Aj ?_;refine CC (Cy [4] 0 5) ?_;refine CG ?_;refine Na (q:=wR (x:=x) (c:={c with serial:=se,page:=pg})) ?_;intro S2 s2 L2 hS2 Gd F4 Ig;refine CG ?_;refine Aj ?_;refine EO ?_;refine Aj ?_;refine Gt ?_;intro S3 s3 L3 hS3 M8 Lo Qv;refine Aj ?_;have hS:S3={S with W:=(jp S.W a.1 ew.1).2,H:=(PG S.H x {c with serial:=se,page:=pg}).2,K:=IZ S.K (KJ o.1 pg)}:=by rw[hS3,hS2,Er]
     exact Bd)
instance{x y:Ch}{va ri:Int}[hu:U6 va]:EK prog F C b p 216 [pV b,Fy x,Fy y,Bb va,ι ri] k S k (iV (Rj S x y va ri).1) (Rj S x y va ri).2:=⟨λs G h=>zY h x y va ri⟩
end
class OB(o:Ja):Prop where
 w:Jj o.w
 r:o.op=1->0<=o.n2/\o.n2<=1000
 d:o.op=19->0<=o.n0/\o.n0<=2
def HZ(S:KT)(t:Int)(o:Ja)(x y:Ch):Int×KT:=
 if o.op=1 then GF S o x y else
 if o.op=2 then((F7 S.H x y (Ea (Dv S.H.1 x) o.n0)).1,{S with H:=(F7 S.H x y (Ea (Dv S.H.1 x) o.n0)).2}) else
 if o.op=3 then((F7 S.H x y (HT (Dv S.H.1 x) o.n0 o.w.toNat)).1,{S with H:=(F7 S.H x y (HT (Dv S.H.1 x) o.n0 o.w.toNat)).2}) else
 if o.op=4 then((JR S.H x y).1,{S with H:=(JR S.H x y).2}) else
 if o.op=5 then((Mh S.H x y).1,{S with H:=(Mh S.H x y).2}) else
 if o.op=6 then((Oe S x).1.2,(Oe S x).2) else
 if o.op=7 then((SI S x o.n0).1.2,(SI S x o.n0).2) else
 if o.op=8 then Ri S x y o.w else
 if o.op=9 then Sl S x else
 if o.op=10 then Rj S x y o.w o.n0 else
 if o.op=11 then So S x else
 if o.op=12 then Sm S x y else
 if o.op=13 then Sn S x y else
 if o.op=18 then(0,XZ S t) else
 if o.op=19 then Rf S o.n0 x y else
 if o.op=20 then K9 S o.n0 x else
 if o.op=21 then La S x else
 if o.op=22 then JG S x else
 if o.op=23 then Rh S o.n0 x else
 (2,S)
section
theorem zZ{x y:Ch}{m w:Int}(hw:Jj w):EK prog F C b p 149 [pV p.h,Fy x,Fy y,ι m,Bb w] (k+1) S k (iV (F7 S.H x y (HT (Dv S.H.1 x) m w.toNat)).1) {S with H:=(F7 S.H x y (HT (Dv S.H.1 x) m w.toNat)).2}:=by
 obtain⟨n,rfl⟩: ∃n:Nat,w=n:=⟨w.toNat,by have:=hw.1;omega⟩
 have hn:n<18446744073709551616:=by have:=hw.2;omega
 rw[AV];exact⟨λs G h=>tu h Af (λi hi=>(hi.der x y _ (Uf (hi.at x).2 m n)).mono Af) λi G hi h9=>RR p.h S.H i hi h9 s.H h.ho x y m n hn G⟩
theorem Aaa(hK:IsK F C (k+8) S p s)(t:Int)(o:Ja)(x y:Ch)(ho:OB o):Fn prog 161 [O7 b t o x y] (AA b p s S G) (KK F C b p k (iV (HZ S t o x y).1) (HZ S t o x y).2 G):=by
 have mr:CH b p∈AA b p s S G:=mR λ_ h=>h;obtain⟨R,hR⟩:=ξ (HZ S t o x y)
 rw[hR];unfold HZ at hR;have z0:(τ (rp b t o x y))[2+4+(0:Int).toNat*1]?=some (iV o.n0):=rfl;have hu:U6 o.w:=⟨ho.w⟩
 have hb:=ho.r;have hd:=ho.d;refine AO func161 ntmps161 λE=>?_;refine AR λb1=>?_;by_cases e1:o.op=1
 ·rw[Ad e1] at hR;subst hR;refine Aj ?_;refine Gt (vs:=[O7 b t o x y]) ?_ (q:=(⟨λs G h=>pC h t o x y (hb e1)⟩:EK prog F C b p 209 [O7 b t o x y] (k+8) S k (iV (GF S o x y).1) (GF S o x y).2));intro S1 s1 L1 Er ED DO G6;refine Aj ?_;exact Bd
 rw[Ab e1] at hR;by_cases e2:o.op=2
 ·rw[Ad e2] at hR;subst hR;refine Aj ?_;refine CC (Cy [11] 0 13) ?_;refine CG ?_;refine Na (vs:=[pV p.h,Fy x,Fy y,ι o.n0]) ?_;intro S1 s1 L1 Er ED DO G6;refine CG ?_;refine Aj ?_;exact Bd
 rw[Ab e2] at hR;by_cases e3:o.op=3
 ·rw[Ad e3] at hR;subst hR;refine Aj ?_;refine CC (Cy [14] 0 16) ?_;refine CG ?_;refine Na (vs:=[pV p.h,Fy x,Fy y,ι o.n0,Bb o.w]) ?_ (q:=zZ ho.w);intro S1 s1 L1 Er ED DO G6;refine CG ?_;refine Aj ?_;exact Bd
 rw[Ab e3] at hR;by_cases e4:o.op=4
 ·rw[Ad e4] at hR;subst hR;refine Aj ?_;refine CC (Cy [7] 0 9) ?_;refine CG ?_;refine Na (vs:=[pV p.h,Fy x,Fy y]) ?_;intro S1 s1 L1 Er ED DO G6;refine CG ?_;refine Aj ?_;exact Bd
 rw[Ab e4] at hR;by_cases e5:o.op=5
 ·rw[Ad e5] at hR;subst hR;refine Aj ?_;refine CC (Cy [7] 0 9) ?_;refine CG ?_;refine Na (vs:=[pV p.h,Fy x,Fy y]) ?_;intro S1 s1 L1 Er ED DO G6;refine CG ?_;refine Aj ?_;exact Bd
 rw[Ab e5] at hR;by_cases e6:o.op=6
 ·rw[Ad e6] at hR;subst hR;refine Aj ?_;refine Gt (vs:=[pV b,Fy x]) ?_;intro S1 s1 L1 Er ED DO G6;refine Aj ?_;exact Bd
 rw[Ab e6] at hR;by_cases e7:o.op=7
 ·rw[Ad e7] at hR;subst hR;refine Aj ?_;refine Gt (vs:=[pV b,Fy x,ι o.n0]) ?_;intro S1 s1 L1 Er ED DO G6;refine Aj ?_;exact Bd
 rw[Ab e7] at hR;by_cases e8:o.op=8
 ·rw[Ad e8] at hR;subst hR;refine Aj ?_;refine Gt (vs:=[pV b,Fy x,Fy y,Bb o.w]) ?_;intro S1 s1 L1 Er ED DO G6;refine Aj ?_;exact Bd
 rw[Ab e8] at hR;by_cases e9:o.op=9
 ·rw[Ad e9] at hR;subst hR;refine Aj ?_;refine Gt (vs:=[pV b,Fy x]) ?_;intro S1 s1 L1 Er ED DO G6;refine Aj ?_;exact Bd
 rw[Ab e9] at hR;by_cases vZ:o.op=10
 ·rw[Ad vZ] at hR;subst hR;refine Aj ?_;refine Gt (vs:=[pV b,Fy x,Fy y,Bb o.w,ι o.n0]) ?_;intro S1 s1 L1 Er ED DO G6;refine Aj ?_;exact Bd
 rw[Ab vZ] at hR;by_cases v6:o.op=11
 ·rw[Ad v6] at hR;subst hR;refine Aj ?_;refine Gt (vs:=[pV b,Fy x]) ?_;intro S1 s1 L1 Er ED DO G6;refine Aj ?_;exact Bd
 rw[Ab v6] at hR;by_cases e12:o.op=12
 ·rw[Ad e12] at hR;subst hR;refine Aj ?_;refine Gt (vs:=[pV b,Fy x,Fy y]) ?_;intro S1 s1 L1 Er ED DO G6;refine Aj ?_;exact Bd
 rw[Ab e12] at hR;by_cases e13:o.op=13
 ·rw[Ad e13] at hR;subst hR;refine Aj ?_;refine Gt (vs:=[pV b,Fy x,Fy y]) ?_;intro S1 s1 L1 Er ED DO G6;refine Aj ?_;exact Bd
 rw[Ab e13] at hR;by_cases e18:o.op=18
 ·rw[Ad e18] at hR;subst hR;refine Aj ?_;refine Gt (vs:=[O7 b t o x y]) ?_ (q:=(⟨λs G h=>px h t o x y⟩:EK prog F C b p 220 [O7 b t o x y] (k+8) S (k+8) (iV 0) (XZ S t)));intro S1 s1 L1 Er ED DO G6;refine Aj ?_;exact Bd
 rw[Ab e18] at hR;by_cases yp:o.op=19
 ·rw[Ad yp] at hR;subst hR;refine Aj ?_;refine Gt (vs:=[O7 b t o x y]) ?_ (q:=(⟨λs G h=>zM h t o x y (hd yp)⟩:EK prog F C b p 221 [O7 b t o x y] (k+8) S (k+7) (iV (Rf S o.n0 x y).1) (Rf S o.n0 x y).2));intro S1 s1 L1 Er ED DO G6;refine Aj ?_;exact Bd
 rw[Ab yp] at hR;by_cases e20:o.op=20
 ·rw[Ad e20] at hR;subst hR;refine Aj ?_;refine Gt (vs:=[O7 b t o x y]) ?_ (q:=(⟨λs G h=>pD h t o x y⟩:EK prog F C b p 222 [O7 b t o x y] (k+8) S (k+8) (iV (K9 S o.n0 x).1) (K9 S o.n0 x).2));intro S1 s1 L1 Er ED DO G6;refine Aj ?_;exact Bd
 rw[Ab e20] at hR;by_cases e21:o.op=21
 ·rw[Ad e21] at hR;subst hR;refine Aj ?_;refine Gt (vs:=[O7 b t o x y]) ?_ (q:=(⟨λs G h=>pE h t o x y⟩:EK prog F C b p 223 [O7 b t o x y] (k+8) S (k+7) (iV (La S x).1) (La S x).2));intro S1 s1 L1 Er ED DO G6;refine Aj ?_;exact Bd
 rw[Ab e21] at hR;by_cases vX:o.op=22
 ·rw[Ad vX] at hR;subst hR;refine Aj ?_;refine Gt (vs:=[O7 b t o x y]) ?_ (q:=(⟨λs G h=>jY h t o x y⟩:EK prog F C b p 224 [O7 b t o x y] (k+8) S (k+8) (iV (JG S x).1) (JG S x).2));intro S1 s1 L1 Er ED DO G6;refine Aj ?_;exact Bd
 rw[Ab vX] at hR;by_cases e23:o.op=23
 ·rw[Ad e23] at hR;subst hR;refine Aj ?_;refine Gt (vs:=[O7 b t o x y]) ?_ (q:=(⟨λs G h=>zP h t o x y⟩:EK prog F C b p 225 [O7 b t o x y] (k+8) S (k+7) (iV (Rh S o.n0 x).1) (Rh S o.n0 x).2));intro S1 s1 L1 Er ED DO G6;refine Aj ?_;exact Bd
 rw[Ab e23] at hR;subst hR;refine Aj ?_;exact Bd
end
structure N0 where
 op:Int
 a0:Int
 a1:Int
 a2:Int
 a3:Int
 a4:Int
 a5:Int
deriving DecidableEq
abbrev k9(c:N0):Ap:=[Bb c.op,Bb c.a0,Bb c.a1,Bb c.a2,Bb c.a3,Bb c.a4,Bb c.a5]
abbrev rq(c:N0):Value:= .agg (τ (k9 c))
structure ME where
 kd:Int
 co:Int
 th:Int
 cl:N0
 va:Int
 vl:Int
 st:Int
 wy:Int
 pg:Int
deriving DecidableEq
abbrev VP(e:ME):Ap:=[iV e.kd,iV e.co,iV e.th,Bb e.cl.op,Bb e.cl.a0,Bb e.cl.a1,Bb e.cl.a2,Bb e.cl.a3,Bb e.cl.a4,Bb e.cl.a5,Bb e.va,Bb e.vl,iV e.st,iV e.wy,iV e.pg]
abbrev NR(e:ME):Value:= .agg (τ (VP e))
abbrev PY(kb b:Nat):Bh:=(kb,.cells #[pV b] 152 (0,0))
def Kw(S:KT)(core t:Int):Int×KT:=
 if core<0\/(S.K.length:Int)<=core then(3,S)
 else if t=0/\(Qu.firstQ S.Q).2=false then(19,S)
 else if Mw S (if t=0 then(Qu.firstQ S.Q).1 else t)=false then(2,S)
 else if ¬(DJ S (if t=0 then(Qu.firstQ S.Q).1 else t)).st=1 then(16,S)
 else M4 S core (if t=0 then(Qu.firstQ S.Q).1 else t)
def MC(S:KT)(e:ME):Int×KT:=
 if e.co<0\/(S.K.length:Int)<=e.co then(3,S)
 else if e.kd=6/\(e.pg<0\/512<=e.pg) then(3,S)
 else if e.kd=6 then(0,{S with K:=(DW S.K S.W e.co e.pg).2})
 else if e.st<0\/4<=e.st\/e.wy<0\/2<=e.wy then(3,S)
 else(0,{S with K:=(nY S.K e.co e.st e.wy).2})
section
theorem Adx{n:Int}:EV prog F C b p 108 [pV p.c,ι n,pV p.m,ι pg] k S k {S with K:=(DW S.K S.W n pg).2}:=⟨λs G h=>by obtain⟨x,hx⟩:=oD (G:=G) h n pg;exact Fn.re .refl hx λv l' ⟨h1,s',L,h2,h3,h4⟩=>⟨l',.refl,s',L,h2,h3,h4⟩⟩
theorem Aab(hK:IsK F C k S p s)(kb:Nat)(hk:PY kb b∈G)(core t:Int):Fn prog 69 [pV kb,ι core,ι t] (AA b p s S G) (KK F C b p k (iV (Kw S core t).1) (Kw S core t).2 G):=by
 have mr:CH b p∈AA b p s S G:=mR λ_ h=>h;have mk:PY kb b∈AA b p s S G:=mG (λ_ h=>h) _ hk;obtain⟨R,hR⟩:=ξ (Kw S core t)
 rw[hR];unfold Kw at hR;obtain⟨id,Vp⟩: ∃i,(if t=0 then(Qu.firstQ S.Q).1 else t)=i:=⟨_,rfl⟩
 rw[Vp] at hR;refine AO func69 ntmps69 λE=>?_;refine Aj ?_;by_cases h1:core<0
 ·rw[Ad (.inl h1)] at hR;subst hR;refine Aj ?_;exact Bd
 refine Aj ?_;refine EO ?_;refine Aj ?_;refine EO ?_;refine Aj ?_;by_cases h2:(S.K.length:Int)<=core
 ·rw[Ad (.inr h2)] at hR;subst hR;refine Aj ?_;exact Bd
 rw[Ab Af] at hR;refine Aj ?_;by_cases h5:t=0/\(Qu.firstQ S.Q).2=false
 ·rw[Ad h5] at hR;subst hR;obtain⟨h6,h7⟩:=h5;refine Aj ?_;refine EO ?_;refine Aj ?_;refine EO ?_;rw[h7];refine Aj ?_;exact Bd
 rw[Ab h5] at hR;refine Ss (α:=Unit) (λ_=>[(0,pV kb),(1,iV core),(2,iV id)]) (λ_=>AA b p s S G) (λ_=>True) ?_ ?_
 ·by_cases h6:t=0
  ·rw[Ad h6] at Vp;have h7:(Qu.firstQ S.Q).2=true:=by simpa[h6] using h5
   refine Aj ?_;refine EO ?_;refine Aj ?_;refine EO ?_;rw[h7,Vp];refine Aj ?_;exact EM () trivial ⟨rfl,rfl,rfl,trivial⟩ .refl
  ·rw[Ab h6] at Vp;subst Vp;refine Aj ?_;exact EM () trivial ⟨rfl,rfl,rfl,trivial⟩ .refl
 rintro- -;refine Aj ?_;refine EO ?_;refine Aj ?_;refine EO ?_;obtain⟨u,hu⟩:=ξ (DJ S id)
 obtain⟨ok,Dh⟩: ∃k,(Th.findH S.T id).isSome=k:=⟨_,rfl⟩
 rw[show Mw S id=ok from Dh,hu] at hR;rw[hu,Dh];refine AR λb9=>?_;cases ok with
 |false=>rw[Ad rfl] at hR;subst hR;refine Aj ?_;exact Bd
 |true=>
 rw[Ab A0] at hR;refine Aj ?_;by_cases h8:u.st=1
 case neg=>rw[Ad h8] at hR;subst hR;refine Aj ?_;exact Bd
 rw[Ab (λh=>h h8)] at hR;refine Aj ?_;refine Gt ?_;intro S1 s1 L1 Er ED DO G6;refine Aj ?_;subst hR;exact Bd
theorem uG(hK:IsK F C k S p s)(kb:Nat)(hk:PY kb b∈G)(e:ME):Fn prog 71 [pV kb,NR e] (AA b p s S G) (KK F C b p k (iV (MC S e).1) (MC S e).2 G):=by
 have mr:CH b p∈AA b p s S G:=mR λ_ h=>h;have mk:PY kb b∈AA b p s S G:=mG (λ_ h=>h) _ hk;obtain⟨R,hR⟩:=ξ (MC S e)
 rw[hR];unfold MC at hR;refine AO func71 ntmps71 λE=>?_;refine AR λb3=>?_;by_cases h1:e.co<0
 ·rw[Ad (.inl h1)] at hR;subst hR;refine Ct [] 15 _ ?_ (hR:=(λ_ h=>h));refine BJ ?_;refine Aj ?_;exact Bd
 refine Ct [] 15 _ ?_ (hR:=(λ_ h=>h));refine BJ ?_;refine Wb ?_;refine BJ ?_;refine Wb ?_;refine BJ ?_;refine Aj ?_;by_cases h2:(S.K.length:Int)<=e.co
 ·rw[Ad (.inr h2)] at hR;subst hR;refine Aj ?_;exact Bd
 rw[Ab Af] at hR;refine Aj ?_;by_cases h3:e.kd=6
 ·by_cases h4:e.pg<0
  ·rw[Ad ⟨h3,.inl h4⟩] at hR;subst hR;refine Aj ?_;exact Bd
  by_cases h5:512<=e.pg
  ·rw[Ad ⟨h3,.inr h5⟩] at hR;subst hR;refine Aj ?_;exact Bd
  rw[Ab Af,Ad h3] at hR;subst hR;refine Aj ?_;refine CC (Cy [14] 0 15) ?_;refine CG ?_;refine LP (Az (vs:=[pV p.c,ι e.co,pV p.m,ι e.pg]) rfl rfl ((Adx (k:=k) (S:=S) (n:=e.co) (pg:=e.pg)).on hK (by exact fL))) ?_;rintro _ _ ⟨s1,L1,ED,DO,rfl⟩;refine CG ?_;refine Aj ?_;exact Bd
 rw[Ab Af,Ab h3] at hR;refine Aj ?_;by_cases g1:e.st<0
 ·rw[Ad Af] at hR;subst hR;refine Aj ?_;exact Bd
 by_cases g2:4<=e.st
 ·rw[Ad Af] at hR;subst hR;refine Aj ?_;exact Bd
 by_cases g3:e.wy<0
 ·rw[Ad Af] at hR;subst hR;refine Aj ?_;exact Bd
 by_cases g4:2<=e.wy
 ·rw[Ad Af] at hR;subst hR;refine Aj ?_;exact Bd
 rw[Ab Af] at hR;subst hR;refine Aj ?_;refine CC (Cy [11] 0 12) ?_;refine CG ?_;refine Na ?_;intro S1 s1 L1 Er ED DO G6;refine CG ?_;refine Aj ?_;exact Bd
end
structure FoT where
 le:Int
 mo:Int
 wd:Bool
 at':Option Nat
deriving DecidableEq
def foP(bo bc:Nat):Option Nat->Value
 |some o=> .pointer (some ⟨bo,o,none⟩)
 |none=> π bc
def Vx(bo bc:Nat)(f:FoT):Ap:=[Bb f.le,Bb f.mo,if f.wd=true then .pointer none else foP bo bc f.at',if f.wd=true then foP bo bc f.at' else .pointer none]
abbrev Ru(o:Nat):FoT:=⟨0,4095,false,some o⟩
abbrev WR(o:Option Nat)(le mo:Int):FoT:=⟨le,mo,false,o⟩
abbrev wiF(o:Nat):FoT:=⟨0,18446744073709551615,true,some o⟩
abbrev msF:List FoT:=[wiF 8,wiF 9,wiF 10,wiF 11]
def PI(op:Int):Option (List FoT):=
 if op=1 then some [Ru 1,WR (some 4) 0 15,WR (some 5) 0 64,Ru 2,WR (some 6) 0 15,WR none 1 4]
 else if op=2 then some [Ru 1,Ru 2,WR (some 4) 0 7]
 else if op=3 then some [Ru 1,Ru 2,WR (some 4) 0 7,wiF 7]
 else if op=4\/op=5\/op=12\/op=13 then some [Ru 1,Ru 2]
 else if op=6\/op=9\/op=11\/op=21\/op=22 then some [Ru 1]
 else if op=7 then some [Ru 1,WR (some 4) 1 64]
 else if op=8 then some [Ru 1,Ru 2,wiF 7]
 else if op=10 then some [Ru 1,Ru 2,wiF 7,WR (some 4) 0 7]
 else if op=14\/op=15 then some (Ru 1::WR (some 4) 0 4096::msF)
 else if op=16 then some [Ru 1,WR (some 4) 0 4096]
 else if op=17 then some msF
 else if op=18 then some []
 else if op=19 then some [Ru 1,WR (some 4) 0 2,Ru 2]
 else if op=20 then some [Ru 1,WR (some 4) 0 2]
 else if op=23 then some [Ru 1,WR (some 4) 0 7]
 else none
section
variable{bo bc o:Nat}{l:Ac}
theorem pK(l:Ac)(bo o:Nat):Fn prog 121 [.pointer (some ⟨bo,o,none⟩)] l λv l'=>v= .agg (τ [Bb 0,Bb 4095,.pointer (some ⟨bo,o,none⟩),.pointer none])/\l'=l:=by refine AO func121 ntmps121 λE=>?_;refine AR λb2=>?_;exact AU [] _ rfl .refl (B0 rfl (.head _) (As.LSub.of_all (n:=4) [Bb 0,Bb 4095,.pointer (some ⟨bo,o,none⟩),.pointer none] rfl) Ba) ζ ⟨rfl,rfl⟩
theorem pL(l:Ac)(bo o:Nat)(le mo:Int):Fn prog 122 [.pointer (some ⟨bo,o,none⟩),Bb le,Bb mo] l λv l'=>v= .agg (τ [Bb le,Bb mo,.pointer (some ⟨bo,o,none⟩),.pointer none])/\l'=l:=by refine AO func122 ntmps122 λE=>?_;refine AR λb6=>?_;exact AU [] _ rfl .refl (B0 rfl (.head _) (As.LSub.of_all (n:=4) [Bb le,Bb mo,.pointer (some ⟨bo,o,none⟩),.pointer none] rfl) Ba) ζ ⟨rfl,rfl⟩
theorem pM(l:Ac)(bo o:Nat):Fn prog 123 [.pointer (some ⟨bo,o,none⟩)] l λv l'=>v= .agg (τ [Bb 0,Bb 18446744073709551615,.pointer none,.pointer (some ⟨bo,o,none⟩)])/\l'=l:=by refine AO func123 ntmps123 λE=>?_;refine AR λb2=>?_;exact AU [] _ rfl .refl (B0 rfl (.head _) (As.LSub.of_all (n:=4) [Bb 0,Bb 18446744073709551615,.pointer none,.pointer (some ⟨bo,o,none⟩)] rfl) Ba) ζ ⟨rfl,rfl⟩
instance{l:Ac}{bo o:Nat}:QF prog 121 [.pointer (some ⟨bo,o,none⟩)] l (.agg (τ [Bb 0,Bb 4095,.pointer (some ⟨bo,o,none⟩),.pointer none])):=⟨λl _=>pK l bo o⟩
instance{l:Ac}{bo o:Nat}{le mo:Int}:QF prog 122 [.pointer (some ⟨bo,o,none⟩),Bb le,Bb mo] l (.agg (τ [Bb le,Bb mo,.pointer (some ⟨bo,o,none⟩),.pointer none])):=⟨λl _=>pL l bo o le mo⟩
instance{l:Ac}{bo o:Nat}:QF prog 123 [.pointer (some ⟨bo,o,none⟩)] l (.agg (τ [Bb 0,Bb 18446744073709551615,.pointer none,.pointer (some ⟨bo,o,none⟩)])):=⟨λl _=>pM l bo o⟩
end
class CL(c:N0):Prop where
 op:Jj c.op
 a0:Jj c.a0
 a1:Jj c.a1
 a2:Jj c.a2
 a3:Jj c.a3
 a4:Jj c.a4
 a5:Jj c.a5
def X6(c:N0):Bool:=if c.a1<=15/\c.a2<=64 then decide (Ar.framesD c.a1 c.a2>0) else false
theorem dH(c:N0)(hc:CL c)(l:Ac):Fn prog 81 [rq c] l λv l'=>v= .bool (X6 c)/\l'=l:=by
 obtain⟨R,hR⟩:=ξ (X6 c)
 rw[hR];unfold X6 at hR;have z1:(τ (k9 c))[1+(1:Int).toNat*1]?=some (Bb c.a1):=rfl;have z2:(τ (k9 c))[1+(2:Int).toNat*1]?=some (Bb c.a2):=rfl;obtain⟨u1,u2⟩:=hc.a1;obtain⟨w1,w2⟩:=hc.a2;refine AO func81 ntmps81 λE=>?_;refine AR λb1=>?_;refine Ct [] 8 _ ?_ (hR:=(λ_ h=>h));refine BJ ?_;refine Aj ?_;by_cases h1:c.a1<=15
 ·by_cases h2:c.a2<=64
  ·rw[Ad ⟨h1,h2⟩] at hR;subst hR;refine Aj ?_;refine EO ?_;refine Aj ?_;exact qr
  ·rw[Ab Af] at hR;subst hR;refine Aj ?_;exact qr
 ·rw[Ab Af] at hR;subst hR;refine Aj ?_;exact qr
instance{c:N0}[hc:CL c]{l:Ac}:QF prog 81 [rq c] l (.bool (X6 c)):=⟨λl _=>dH c hc l⟩
abbrev fnV(le mo:Int)(bp i:Nat):Value:= .agg (τ [Bb le,Bb mo,.pointer (some ⟨bp,i,none⟩),.pointer none])
abbrev fwV(le mo:Int)(bp i:Nat):Value:= .agg (τ [Bb le,Bb mo,.pointer none,.pointer (some ⟨bp,i,none⟩)])
theorem af(le mo:Int)(bp i:Nat)(cs:Array Value)(ct:TypeId)(fz:Nat×Nat)(v:Int)(l:Ac)(hm:(bp,Obj.cells cs ct fz)∈l)(hv:cs[i]?=some (iV v)):Fn prog 205 [fnV le mo bp i] l λx l'=>x= υ (IntKind.u64.wrap v)/\l'=l:=by refine AO func205 ntmps205 λE=>?_;refine AR λb1=>?_;refine Be (Ow rfl) ?_;refine Aj ?_;exact qr
theorem pO(le mo:Int)(bp i:Nat)(cs:Array Value)(ct:TypeId)(fz:Nat×Nat)(v:Int)(l:Ac)(hm:(bp,Obj.cells cs ct fz)∈l)(hv:cs[i]?=some (Bb v)):Fn prog 205 [fwV le mo bp i] l λx l'=>x=Bb v/\l'=l:=by refine AO func205 ntmps205 λE=>?_;refine AR λb1=>?_;exact qr
theorem ag(le mo:Int)(bp i:Nat)(cs:Ap)(ct:TypeId)(x:Int)(hx:0<=x/\x<=1000000)(hi:i<cs.length)(l:Ac):Fn prog 83 [fnV le mo bp i,Bb x] ((bp,.cells (τ cs) ct (0,0))::l) λv l'=>v= .tuple #[]/\l'=(bp,.cells (τ (cs.set i (iV x))) ct (0,0))::l:=by refine AO func83 ntmps83 λE=>?_;refine AR λb2=>?_;refine Nk (Dy (cs:=τ cs) (T:=ct) (off:=i) (l':=(b2,.cells (τ [Bb le,Bb mo,.pointer (some ⟨bp,i,none⟩),.pointer none]) 183 (0,0))::(bp,.cells ((τ cs).setIfInBounds i (iV x)) ct (0,0))::l) rfl rfl rfl D1 (by simpa using hi)) rfl rfl ?_;rintro _ _ ⟨rfl,rfl⟩;refine Aj ?_;exact AU [] _ rfl .refl Ba ζ ⟨rfl,by rw[BB]⟩
theorem pP(le mo:Int)(bp i:Nat)(cs:Ap)(ct:TypeId)(x:Int)(hi:i<cs.length)(l:Ac):Fn prog 83 [fwV le mo bp i,Bb x] ((bp,.cells (τ cs) ct (0,0))::l) λv l'=>v= .tuple #[]/\l'=(bp,.cells (τ (cs.set i (Bb x))) ct (0,0))::l:=by refine AO func83 ntmps83 λE=>?_;refine AR λb2=>?_;refine Nk (Dy (cs:=τ cs) (T:=ct) (off:=i) (l':=(b2,.cells (τ [Bb le,Bb mo,.pointer none,.pointer (some ⟨bp,i,none⟩)]) 183 (0,0))::(bp,.cells ((τ cs).setIfInBounds i (Bb x)) ct (0,0))::l) rfl rfl rfl D1 (by simpa using hi)) rfl rfl ?_;rintro _ _ ⟨rfl,rfl⟩;refine Aj ?_;exact AU [] _ rfl .refl Ba ζ ⟨rfl,by rw[BB]⟩
abbrev Rv:Ap:=[Bb 0,Bb 0,.pointer none,.pointer none]
abbrev Vy(bo i:Nat):Ap:=[Bb 0,Bb 18446744073709551615,.pointer none,.pointer (some ⟨bo,i,none⟩)]
abbrev CT(bo i:Nat):Ap:=[Bb 0,Bb 4095,.pointer (some ⟨bo,i,none⟩),.pointer none]
abbrev F9(bo i:Nat)(le mo:Int):Ap:=[Bb le,Bb mo,.pointer (some ⟨bo,i,none⟩),.pointer none]
abbrev Jb(gb:Nat)(cs:Ap):Bh:=(gb,.cells (τ cs) 183 (0,0))
theorem EL(rows:List (Ap))(hr: ∀r,r∈rows->r.length=4):Instr.fill (λi=>some (i*4,4)) (τ (List.replicate rows.length Rv).flatten) (EU 0 rows)=some (τ rows.flatten):=by have h:=RZ (zs:=Rv) (k:=4) rfl rows [] 0 hr rfl;rw[Ag,Ag] at h;exact h
theorem C6{rows:List (Ap)}(h:rows.all (λr=>r.length==4)=true): ∀r,r∈rows->r.length=4:=λr hr=>by simpa using AS.1 h r hr
abbrev X9(bo:Nat):List (Ap):=[Vy bo 8,Vy bo 9,Vy bo 10,Vy bo 11]
theorem Rk(bo:Nat)(l:Ac):Fn prog 124 [π bo] l λv l'=> ∃gb,(∀c,c∈l->c.1≠gb)/\v= .slice (some ⟨gb,0,none⟩) 4 4/\l'=Jb gb (X9 bo).flatten::l:=by refine AO func124 ntmps124 λE=>?_;refine Aj ?_;refine CC (Cy [20] 0 22) ?_;refine CG ?_;refine LP (D5 (k:=4) (n:=4) (e:=183) (zs:=Rv) (cs:=(X9 bo).flatten) (pvs:=EU 0 (X9 bo)) rfl A0 A0 rfl (EL (X9 bo) (C6 rfl))) ?_;rintro _ _ ⟨gb,Sz,rfl,rfl⟩;refine CG ?_;refine Aj ?_;exact CY _ .refl .refl ⟨gb,Sz,rfl,rfl⟩
end Go.Proofs.YtlifcingifodfaaGreat
