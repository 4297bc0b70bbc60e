/- Laws that the statement's proof leans on (joined out of several texts). -/
import Derived.Test.YtlifcingifodfaaGreatGg18
set_option maxHeartbeats 4000000
set_option linter.unusedVariables false
set_option linter.unusedSimpArgs false
namespace Go.Proofs.YtlifcingifodfaaGreat
open Tryz
open List(toArray)
open Go.RowKit
set_option maxRecDepth 20000
variable{F C k b r N f k':Nat}{S S':KT}{p:RP}{s:RL}{G T lo L Y:Ac}{o:Obj}{P:Program}{ro:Option Nat}{E:World}{ops:Array Oper}{Q:Exit->Act->World->Prop}{A3:List Oper}{ds:List Deferred}{x:Operand}{xs:List Operand}{vs:Ap}{ty:TypeId}{pos:String}{g:Option (Nat×Bool)}{ns:List Ia}{Γ:Ac->Ac}{pg:Int}{α:Type}
section
abbrev jj(t:Th.ThT):OP:=⟨t.o0,t.o1,t.o2,t.o3⟩
abbrev oJ(t:Th.ThT):Th.ThT:={t with wa:=0,o0:=0,o1:=0,o2:=0,o3:=0,ob:=0,gv:=4096}
def recvW(S:KT)(w:Bool)(id t:Int):KT:=if w=true then PY S id t else(OK S id 1).2
def recvH(S:KT)(t id:Int):List Ia×KT:=
 let x:=Dq S id
 let h:=Ko {S with E:=(En.removeD S.E id).2} x t (jj x) x.ob
 let w:=x.cl||x.fa
 let S2:=recvW h.2 w id t
 (if w=true then[h.1] else[h.1,NL id],DD S2 (oJ (Dq S2 id)))
theorem cQ(hK:IsK F C (k+2) S p s)(B1 B2 B3:Nat)(t id:Int):
 Zu prog 276 [pV B1,pV B2,pV B3] (λn:Ia=>[fy n]) ([rB B1 b,BS B2 id,BS B3 t]++Ax b p s S G) (λxs C'=>xs=(recvH S t id).1/\ ∃s' L,IsK F C k (recvH S t id).2 p s'/\Tail L G/\C'=[rB B1 b,BS B2 id,BS B3 t]++Ax b p s' (recvH S t id).2 L):=by
 refine⟨λr I hY l h0=>?_⟩;refine Fn.keep (.of_perm (OS (lo:=[rB B1 b,BS B2 id,BS B3 t]))) ?_;have mr:CF b p∈Ax b p s S (l++G):=mR λ_ h=>h;have Aeo:=hK.tO id;have hgv:AD (Dq S id).gv:=⟨by have:=hK.tG id;omega⟩
 obtain⟨R,hR⟩: ∃R,recvH S t id=R:=⟨_,rfl⟩
 rw[hR];unfold recvH at hR;simp only[Ae,Ag];refine AN func276 ntmps276 λE=>?_;refine Aj ?_;refine CA (Cu [3] 0 4) ?_;refine CE ?_;refine MX ?_;intro S1 s1 L1 EG EC DO GQ;rw[<-EG] at hR;refine CE ?_;refine Aj ?_;refine CA (Cu [7,8] 0 10) ?_;refine CE ?_;have e1:Dq S1 id=Dq S id:=vH (by rw[EG]) id;rw[e1];obtain⟨x,hx⟩: ∃x,Dq S id=x:=⟨_,rfl⟩
 rw[hx] at hR Aeo hgv e1⊢;refine Ij e_alloc (by rintro _ _ ⟨_,_,_,rfl⟩ c hc;exact .tail _ hc) ?_;rintro _ _ ⟨c5,_,rfl,rfl⟩;refine CE ?_;refine Aj ?_;refine Gi (q:=(⟨λs G h=>oI h x t (jj x) x.ob⟩:EK prog F C b p 269 [pV b,Th.thV x,.int .i64 t,qh (jj x),Be x.ob] (k+2) S1 (k+1) _ _)) ?_;intro S2 s2 L2 hS2 FW FN HV;dsimp only at hR;rw[<-hS2] at hR;obtain⟨n1,Z7⟩: ∃n,(Ko S1 x t (jj x) x.ob).1=n:=⟨_,rfl⟩
 rw[Z7] at hR⊢;refine AQ λc7=>?_;obtain⟨w,hw⟩: ∃w,(x.cl||x.fa)=w:=⟨_,rfl⟩
 rw[hw] at hR;unfold recvW at hR;have hcf:(x.cl=true/\w=true)\/(x.cl=false/\x.fa=w):=by
  cases h1:x.cl<;>rw[h1] at hw<;>simp at hw
  ·exact .inr ⟨rfl,hw⟩
  ·exact .inl ⟨rfl,hw⟩
 rcases hcf with⟨h1,rfl⟩|⟨h1,h2⟩
 case' inr=>cases w
 case' inl=>
  rw[Ad rfl,Ad rfl] at hR;rw[h1];refine Aj ?_;refine Gi ?_;intro S3 s3 L3 hS3 MW Lg Pu;refine Aj ?_
 case' inr.true=>
  rw[Ad rfl,Ad rfl] at hR;rw[h1,h2];refine Aj ?_;refine Gi ?_;intro S3 s3 L3 hS3 MW Lg Pu;refine Aj ?_
 case' inr.false=>
  rw[Ab AX,Ab AX] at hR;rw[h1,h2];refine Aj ?_;refine Gi ?_;intro S3 s3 L3 hS3 MW Lg Pu;refine Aj ?_
 all_goals
  rw[<-hS3] at hR;have JA:=MW.tO id;refine Vi (id:=id) i5 ⟨JA.out⟩ ?_;intro S4 s4 L4 hS4 hK4 jP mr4;rw[show DD S3 (oJ (Dq S3 id))=S4 from hS4.symm] at hR;refine Aj ?_;obtain⟨X,rfl⟩:Tail L4 (l++G):=jP.trans (Lg.trans (FN.trans DO))
  first
   |refine Bs (.of_perm (Ik (lo:=[Vj c7 n1,Th.thC c5 {x with cl:=true},rB B1 b,BS B2 id,BS B3 t]))) ?_
   |refine Bs (.of_perm (Ik (lo:=[Vj c7 n1,Th.thC c5 {x with cl:=false,fa:=true},rB B1 b,BS B2 id,BS B3 t]))) ?_
   |refine Bs (.of_perm (Ik (lo:=[Vj c7 n1,Th.thC c5 {x with cl:=false,fa:=false},rB B1 b,BS B2 id,BS B3 t]))) ?_
  refine AS (C5 (vs:=[fy n1]) rfl rfl (hY [] n1 l _ (Bp _) h0)) ?_;rintro v _ ⟨l1,rfl,hI,rfl⟩;refine Bs (.of_perm OS) ?_;simp only[Ae,Ag]
  first
   |(have hgo:R.1=[n1]:=by rw[<-hR]
     refine Aj ?_;subst hR;exact AU [] _ rfl .refl (by exact Ba) (.drop (.drop (.of_perm (Ik (X:=[]) (lo:=[rB B1 b,BS B2 id,BS B3 t]))))) ⟨[n1],l1,_,hI,⟨rfl,s4,X++G,hK4.mono Af,⟨X,rfl⟩,rfl⟩,rfl⟩)
   |(have hgo:R.1=[n1,NL id]:=by rw[<-hR]
     refine Aj ?_;refine Bs (.of_perm (Ik (X:=[]) (lo:=[Vj c7 n1,Th.thC c5 {x with cl:=false,fa:=false},rB B1 b,BS B2 id,BS B3 t]))) ?_;refine AS (C5 (vs:=[fy (NL id)]) rfl rfl (hY [n1] (NL id) l1 _ (by simp) hI)) ?_;rintro v _ ⟨l2,rfl,N6,rfl⟩;refine Bs (.of_perm OS) ?_;simp only[Ae,Ag];refine Aj ?_;subst hR;exact AU [] _ rfl .refl (by exact Ba) (.drop (.drop (.of_perm (Ik (X:=[]) (lo:=[rB B1 b,BS B2 id,BS B3 t]))))) ⟨[n1,NL id],l2,_,N6,⟨rfl,s4,X++G,hK4.mono Af,⟨X,rfl⟩,rfl⟩,rfl⟩)
def replyH(S:KT)(ca:Int)(m:OP)(t:Int):List Ia×KT:=
 let c:=Dq S ca
 (if c.fa=true then[NL t] else[⟨c.id,0,0,m,0,false,0,0,false⟩,NL t],(OK (DD S (OQ m (Dq S c.id))) c.id 1).2)
theorem jk{m:OP}{t:Th.ThT}(h:TW t):TW (OQ m t):=by
 unfold OQ
 split<;>exact⟨h.out⟩
theorem ZB(hK:IsK F C (k+1) S p s)(B1 B2 B3 B4:Nat)(x:Th.ThT)(m:OP)(t:Int):
 Zu prog 279 [pV B1,pV B2,pV B3,pV B4] (λn:Ia=>[fy n]) ([rB B1 b,Th.thC B2 x,U0 B3 m,BS B4 t]++Ax b p s S G) (λxs C'=>xs=(replyH S x.ca m t).1/\ ∃s' L,IsK F C k (replyH S x.ca m t).2 p s'/\Tail L G/\C'=[rB B1 b,Th.thC B2 x,U0 B3 m,BS B4 t]++Ax b p s' (replyH S x.ca m t).2 L):=by
 refine⟨λr I hY l h0=>?_⟩;refine Fn.keep (.of_perm (OS (lo:=[rB B1 b,Th.thC B2 x,U0 B3 m,BS B4 t]))) ?_;have mr:CF b p∈Ax b p s S (l++G):=mR λ_ h=>h;obtain⟨R,hR⟩: ∃R,replyH S x.ca m t=R:=⟨_,rfl⟩
 rw[hR];unfold replyH at hR;simp only[Ae,Ag];refine AN func279 ntmps279 λE=>?_;refine Aj ?_;refine CA (Cu [8,9] 0 11) ?_;refine CE ?_;obtain⟨c,hc⟩: ∃c,Dq S x.ca=c:=⟨_,rfl⟩
 rw[hc] at hR⊢;dsimp only at hR;refine Ij e_alloc (by rintro _ _ ⟨_,_,_,rfl⟩ c hc;exact .tail _ hc) ?_;rintro _ _ ⟨c6,_,rfl,rfl⟩;refine CE ?_;refine Aj ?_;have JA:=hK.tO c.id;refine Vi (id:=c.id) (cG B3 m) (jk JA) ?_;intro S1 s1 L1 EG EC DO GQ;rw[show DD S (OQ m (Dq S c.id))=S1 from EG.symm] at hR;refine Aj ?_;refine Gi ?_;intro S2 s2 L2 hS2 FW FN HV;rw[<-hS2] at hR;refine Aj ?_;obtain⟨X,rfl⟩:Tail L2 (l++G):=FN.trans DO;cases hf:c.fa with
 |true=>rw[Ad hf] at hR;refine Aj ?_;refine Bs (.of_perm (Ik (lo:=[Th.thC c6 {c with fa:=true},rB B1 b,Th.thC B2 x,U0 B3 m,BS B4 t]))) ?_;refine AS (C5 (vs:=[fy (NL t)]) rfl rfl (hY [] (NL t) l _ (Bp _) h0)) ?_;rintro v _ ⟨l1,rfl,hI,rfl⟩;refine Aj ?_;subst hR;exact CT _ .refl (Keep.trans (.of_perm OS) (.drop (.of_perm (Ik (X:=[]) (lo:=[rB B1 b,Th.thC B2 x,U0 B3 m,BS B4 t]))))) ⟨[NL t],l1,_,hI,⟨rfl,s2,X++G,FW,⟨X,rfl⟩,rfl⟩,rfl⟩
 |false=>
  rw[Ab (by rw[hf];decide)] at hR;refine Aj ?_;obtain⟨n1,Z7⟩: ∃n:Ia,n=⟨c.id,0,0,m,0,false,0,0,false⟩:=⟨_,rfl⟩
  refine Bs (.of_perm (Ik (lo:=[Th.thC c6 {c with fa:=false},rB B1 b,Th.thC B2 x,U0 B3 m,BS B4 t]))) ?_;refine JB (C5 (vs:=[fy n1]) rfl (by rw[Z7];rfl) (hY [] n1 l _ (Bp _) h0)) rfl rfl rfl ?_;rintro v _ ⟨l1,rfl,hI,rfl⟩;refine Bs (.of_perm OS) ?_;simp only[Ae,Ag];refine Aj ?_;refine Bs (.of_perm (Ik (X:=[]) (lo:=[Th.thC c6 {c with fa:=false},rB B1 b,Th.thC B2 x,U0 B3 m,BS B4 t]))) ?_;refine AS (C5 (vs:=[fy (NL t)]) rfl rfl (hY [n1] (NL t) l1 _ (by simp) hI)) ?_;rintro v _ ⟨l2,rfl,N6,rfl⟩;refine Aj ?_;subst hR;subst Z7;exact CT _ .refl (Keep.trans (.of_perm OS) (.drop (.of_perm (Ik (X:=[]) (lo:=[rB B1 b,Th.thC B2 x,U0 B3 m,BS B4 t]))))) ⟨_,l2,_,N6,⟨rfl,s2,X++G,FW,⟨X,rfl⟩,rfl⟩,rfl⟩
end
section
def OT(S:KT)(t:Int)(x:Cs)(inn:Int):(List Ia×Int)×KT:=
 if ¬(HM S t inn).2=0 then(([],(HM S t inn).2),S)
 else if ¬(getD' S.H.1 x).2=0\/¬(Ei S x).kind=8 then(([],8),S)
 else if Mf (Ei S x).rights 1=0 then(([],9),S)
 else if(En.firstD S.E (Ei S x).obj).2.2=false\/(En.firstD S.E (Ei S x).obj).2.1=false then
  (([],0),(OK (DD {DD S {Dq S t with inn:=inn} with E:=(En.waitD S.E (Ei S x).obj t false).2} {Dq (DD S {Dq S t with inn:=inn}) t with wa:=(Ei S x).obj}) t 3).2)
 else(((recvH (DD S {Dq S t with inn:=inn}) t (En.firstD S.E (Ei S x).obj).1).1,0),(recvH (DD S {Dq S t with inn:=inn}) t (En.firstD S.E (Ei S x).obj).1).2)
theorem yR(hK:IsK F C (k+2) S p s)(t:Int)(x:Cs)(inn:Int):Fn prog 207 [pV b,.int .i64 t,F6 x,.int .i64 inn] (Ax b p s S G) (KN F C b p k (OT S t x inn).1.1 (OT S t x inn).1.2 (OT S t x inn).2 G):=by
 have mr:CF b p∈Ax b p s S G:=mR λ_ h=>h;have JA:=hK.tO t;obtain⟨R,hR⟩: ∃R,OT S t x inn=R:=⟨_,rfl⟩
 rw[hR];unfold OT at hR;refine AN func207 ntmps207 λE=>?_;refine AQ λb4=>?_;refine AQ λb5=>?_;refine AQ λb6=>?_;refine AQ λb7=>?_;refine EM ?_;have pO:=UG (S:=S) (t:=t) (a:=inn);obtain⟨r,hr⟩: ∃r,HM S t inn=r:=⟨_,rfl⟩
 rw[hr] at hR pO⊢;refine AQ λGd=>?_;by_cases h0:r.2=0
 case neg=>rw[Ad h0] at hR;subst hR;refine Aj ?_;exact F4
 rw[Ab (λh=>h h0)] at hR;obtain⟨e1,e2,e3,e4,e5⟩:=pO h0;refine Aj ?_;refine CA (Cu [7,8] 0 10) ?_;refine CE ?_;obtain⟨c,hc⟩: ∃c,(getD' S.H.1 x).1=c:=⟨_,rfl⟩
 obtain⟨e,he⟩: ∃e,(getD' S.H.1 x).2=e:=⟨_,rfl⟩
 rw[show Ei S x=c from hc,he] at hR;rw[hc,he];refine Ij e_alloc (by rintro _ _ ⟨_,_,_,rfl⟩ c hc;exact .tail _ hc) ?_;rintro _ _ ⟨Tb,_,rfl,rfl⟩;refine CE ?_;by_cases h1:¬e=0\/¬c.kind=8
 ·rw[Ad h1] at hR;subst hR;by_cases h2:e=0<;>by_cases h3:c.kind=8;all_goals first
   |(exfalso;omega)
   |(refine Aj ?_
     exact F4)
 rw[Ab h1] at hR;obtain⟨h2,h3⟩:e=0/\c.kind=8:=by omega
 refine Aj ?_;refine Bh (KV rfl rfl) ?_;obtain⟨w,hw⟩: ∃w,Mf c.rights 1=w:=⟨_,rfl⟩
 rw[hw] at hR⊢;by_cases h4:w=0
 ·rw[Ad h4] at hR;subst hR;refine Aj ?_;exact F4
 rw[Ab h4] at hR;refine Aj ?_;refine Vi (id:=t) (oq b7 inn) ⟨JA.out⟩ ?_;intro S0 s0 L0 hS0 hK0 Q8 mr0;rw[show DD S {Dq S t with inn:=inn}=S0 from hS0.symm] at hR;have eE:S0.E=S.E:=by rw[hS0]
 rw[<-eE] at hR;refine Aj ?_;obtain⟨f,hf⟩: ∃f,En.firstD S0.E c.obj=f:=⟨_,rfl⟩
 rw[hf] at hR;refine KP [(0,true),(1,true),(2,true),(3,true),(4,false),(5,true),(6,true),(7,true),(8,true),(9,false),(10,false),(11,true),(12,true)] [[],[0],[],[2],[0,1,2,3],[0,1,2,3,4],[0,1,2,3,4,5],[0,1,2,3,4,5],[0,1,2,3,4,5],[],[0,1,2,3,4,5,6,9],[0,1,2,3,4,5,6,7,9,10],[0,1,2,3,4,5,6,7,8,9,10,11]] 4 9 ([rB b4 b,Bz Tb c,CF b p]) BA BA GH ((Wk BW BW BW)) ?_;refine BM ?_;refine VI ?_;refine BM ?_;refine Nd [(9,false),(4,false),(5,true),(6,true),(7,true),(8,true),(10,false),(11,true),(12,true)] GH (AI (l₁:=[_,_,_,_,_])).symm BA ?_ ?_
 case' refine_1=>
  refine pek ?_ ?_
  ·intro S2 s2 L2;have HV:CF b p∈Ax b p s2 S2 L2:=mR λ_ h=>h;exact Wk BW BW BW
  intro S1 s1 L1 EG EC DO GQ;iterate 4 refine Yq ?_
  refine CM e_alloc rfl rfl rfl ?_ ?_
  ·rintro _ _ ⟨_,_,_,rfl⟩ c hc;exact .tail _ (Wk BW BW BW c hc)
  rintro _ _ ⟨WA,_,rfl,rfl⟩
 case' refine_2=>
  refine CM e_alloc rfl rfl rfl ?_ ?_
  ·rintro _ _ ⟨_,_,_,rfl⟩ c hc;exact .tail _ (Wk BW BW BW c hc)
  rintro _ _ ⟨WA,_,rfl,rfl⟩;refine pek ?_ ?_
  ·intro S2 s2 L2;have HV:CF b p∈Ax b p s2 S2 L2:=mR λ_ h=>h;exact Wk BW BW BW
  intro S1 s1 L1 EG EC DO GQ;iterate 4 refine Yq ?_
 all_goals
  rw[hf];rw[<-EG] at hR;refine pZ ?_ (hR:=Wk BW BW BW);refine BM ?_;refine Aj ?_;by_cases h8:f.2.2=false\/f.2.1=false
  ·rw[Ad h8] at hR;cases h9:f.2.2<;>cases U7:f.2.1;all_goals first
    |(exfalso;simp[h9,U7] at h8;done)
    |(refine Aj ?_
      refine CA (Cu [5] 0 6) ?_;refine CE ?_;refine MX ?_;intro S2 s2 L2 hS2 FW FN HV;refine CE ?_;refine Aj ?_;have Aep:=FW.tO t;refine Vi (id:=t) (ou Tb c) ⟨Aep.out⟩ ?_;intro S3 s3 L3 hS3 MW Lg Pu;rw[<-hS2,show Dq S1 t=Dq S2 t from by rw[hS2],show DD S2 {Dq S2 t with wa:=c.obj}=S3 from hS3.symm] at hR;refine Aj ?_;refine Gi ?_;intro S4 s4 L4 hS4 hK4 jP mr4;refine Aj ?_;rw[<-hS4] at hR;subst hR;exact F4)
  rw[Ab h8] at hR;obtain⟨h9,U7⟩:f.2.2=true/\f.2.1=true:=by simpa using h8
  rw[h9,U7];obtain⟨u,hu⟩: ∃u,f.1=u:=⟨_,rfl⟩
  rw[hu] at hR⊢;refine Aj ?_;refine AS (Az rfl rfl (Fn.keep ?_ (Rw (cQ (b:=b) (G:=L1) EC b4 WA b5 t u)))) ?_
  ·exact AW
  rintro sl _ ⟨xs,cs,C',ho,⟨rfl,s',L',hK',hT',rfl⟩,rfl⟩;refine Aj ?_;subst hR;exact CT _ .refl SX ⟨sl,cs,s',L',rfl,ho,hK',hT'.trans (DO.trans Q8),rfl⟩
def Lx(S:KT)(t:Int)(m:OP):(List Ia×Int)×KT:=
 if ¬(HM S t 0).2=0 then(([],(HM S t 0).2),S)
 else if(Dq S t).ca=0 then(([],18),S)
 else(((replyH (DD S {Dq S t with ca:=0}) (Dq S t).ca m t).1,0),(replyH (DD S {Dq S t with ca:=0}) (Dq S t).ca m t).2)
theorem to(hK:IsK F C (k+1) S p s)(t:Int)(m:OP):Fn prog 208 [pV b,.int .i64 t,qh m] (Ax b p s S G) (KN F C b p k (Lx S t m).1.1 (Lx S t m).1.2 (Lx S t m).2 G):=by
 have mr:CF b p∈Ax b p s S G:=mR λ_ h=>h;have JA:=hK.tO t;obtain⟨R,hR⟩: ∃R,Lx S t m=R:=⟨_,rfl⟩
 rw[hR];unfold Lx at hR;refine AN func208 ntmps208 λE=>?_;refine AQ λb3=>?_;refine AQ λb4=>?_;refine AQ λb5=>?_;refine EM ?_;have pO:=UG (S:=S) (t:=t) (a:=0);obtain⟨r,hr⟩: ∃r,HM S t 0=r:=⟨_,rfl⟩
 rw[hr] at hR pO⊢;refine AQ λb8=>?_;by_cases h0:r.2=0
 case neg=>rw[Ad h0] at hR;subst hR;refine Aj ?_;exact F4
 rw[Ab (λh=>h h0)] at hR;obtain⟨e1,e2,e3,e4,e5⟩:=pO h0;obtain⟨y,hy⟩: ∃y,Dq S t=y:=⟨_,rfl⟩
 rw[hy] at e1 e3 hR JA;rw[e1];by_cases h1:y.ca=0
 ·rw[Ad h1] at hR;subst hR;refine Aj ?_;exact F4
 rw[Ab h1] at hR;refine Aj ?_;refine Vi (id:=t) i6 ⟨by rw[hy];exact JA.out⟩ ?_;intro S0 s0 L0 hS0 hK0 Q8 mr0;rw[hy] at hS0;rw[show DD S {y with ca:=0}=S0 from hS0.symm] at hR;refine Aj ?_;refine AS (Az rfl rfl (Fn.keep ?_ (Rw (ZB (b:=b) (G:=L0) hK0 b3 b8 b5 b4 y m t)))) ?_
 ·exact AW
 rintro sl _ ⟨xs,cs,C',ho,⟨rfl,s',L',hK',hT',rfl⟩,rfl⟩;refine Aj ?_;subst hR;exact CT _ .refl SX ⟨sl,cs,s',L',rfl,ho,hK',hT'.trans Q8,rfl⟩
end
structure P5 where
 hs:Bool
 wr:Bool
 va:Int
 vl:Int
deriving DecidableEq
abbrev jZ(x:P5):Ap:=[.bool x.hs,.bool x.wr,Be x.va,Be x.vl]
abbrev yS(x:P5):Value:= .agg (toArray (jZ x))
structure vK where
 kd:Int
 va:Int
 wr:Bool
deriving DecidableEq
abbrev ftC(x:vK):Ap:=[iV x.kd,Be x.va,.bool x.wr]
abbrev ftV(x:vK):Value:= .agg (toArray (ftC x))
def KNl(F C b:Nat)(p:RP)(k:Nat)(xs:List Ia)(S:KT)(G:Ac):Value->Ac->Prop:=λv l'=> ∃cs s L,OwnSl 69 12 v xs.length (Fx xs) cs/\IsK F C k S p s/\Tail L G/\l'=cs++Ax b p s S L
theorem jl(S:KT)(t:Int)(x:Cs)(m:OP)(gv:Int)(cl:Bool):(Jv S t x m gv cl).1.1.length<=2:=by
 unfold Jv sendH
 repeat' split
 all_goals simp
theorem ZC(xs:List Ia): ∀u,u∈Fx xs->u.oneCell'=true:=by intro u hu;obtain⟨n,_,h⟩:=JN.1 hu;simp only[Si,At,BQ,EE] at h;rcases h with rfl|rfl|rfl|rfl|rfl|rfl|rfl|rfl|rfl|rfl|rfl|rfl<;>rfl
theorem tt{a1 a2 a3 n a4 a5 a6:Bd}{cs Z:Ac}(h:Y.Perm (cs++Z)):(a1::a2::a3::n::a4::a5::a6::Y).Perm ([n]++(cs++([a1,a2,a3,a4,a5,a6]++Z))):=by refine(EZ [a1,a2,a3,n,a4,a5,a6] h).trans ?_;exact BX
theorem oK{c A B:Ac}:Keep (c++(A++(B++Y))) (c++Y):=⟨A++B,BX⟩
section
section
variable{fr:Fr}{l:Ac}{d:Nat}{at_:Array TypeId}{aft:Array Edge}{co:Int}
theorem tkn(h: ∀G,Fn P f vs (Ax b p s S G) (KN F C b p k' ns co S' G))(hk: ∀sl cs S1 s' L,S1=S'->OwnSl 69 12 sl ns.length (Fx ns) cs->IsK F C k' S1 p s'->Tail L (cs++G)->CF b p∈Ax b p s' S1 L->DA P ro N E ops Q A3 ((d,.tuple #[sl,iV co])::fr) ds (Γ (Ax b p s' S1 L)))(hx:ev fr x=some (.func (.func f) #[] #[]):=by rfl)(hy:Sd fr xs=some vs:=by rfl)(hF:Fr1 (Ax b p s S G) l Γ:=by exact eJ)(c:EN P f:=by infer_instance)(hw:Rb ops fr g=some true:=by rfl)(hb:Nat.blt d N=true:=by rfl):DA P ro N E ops Q (⟨some d,.call {callee:= .value x,args:=xs.toArray,argTypes:=at_},ty,pos,aft,g⟩::A3) fr ds l:=by
 obtain⟨A,rfl,hA⟩:=hF.eq;refine JB (Az hx hy (Fn.re (.of_perm (Fi b p s S A G)) (h (A++G)) (K':=λv l'=> ∃sl cs s' L,v= .tuple #[sl,iV co]/\OwnSl 69 12 sl ns.length (Fx ns) cs/\IsK F C k' S' p s'/\Tail L (cs++G)/\l'=Γ (Ax b p s' S' L)) λv l' ⟨sl,cs,s',L,h1,h2,h3,⟨X,h4⟩,h5⟩=>⟨Γ (Ax b p s' S' (X++(cs++G))),?_,sl,cs,s',_,h1,h2,h3,⟨X,rfl⟩,rfl⟩)) hw rfl hb λv l' ⟨sl,cs,s',L,h1,h2,h3,h4,h5⟩=>by rw[h1,h5];exact hk sl cs S' s' L rfl h2 h3 h4 (mR λ_ h=>h)
 rw[h5,h4,hA];refine .of_perm ?_;unfold Ax;exact BX
end
abbrev NC(t:Th.ThT)(x:P5):Th.ThT:={t with hs:=x.hs,wr:=x.wr,va:=x.va,vl:=x.vl}
abbrev Xu(id:Int)(f:vK):Ia:=⟨id,6,0,msZ,0,false,f.kd,f.va,f.wr⟩
abbrev cR(f:vK):OP:=⟨f.kd,f.va,if f.wr=true then 1 else 0,0⟩
def Ly(S:KT)(t:Th.ThT)(x:P5)(f:vK):List Ia×KT:=
 if ¬(getD' S.H.1 (t.id,2)).2=0\/¬(Ei S (t.id,2)).kind=8\/Mf (Ei S (t.id,2)).rights 2=0 then([Xu t.id f],(IY (DD S (NC t x)) t.id).2)
 else(Xu t.id f::(Jv (DD S (NC t x)) t.id (t.id,2) (cR f) 4096 true).1.1,DD (Jv (DD S (NC t x)) t.id (t.id,2) (cR f) 4096 true).2 {Dq (Jv (DD S (NC t x)) t.id (t.id,2) (cR f) 4096 true).2 t.id with fa:=true,cl:=t.cl})
theorem fP(hK:IsK F C (k+2) S p s)(t:Th.ThT)(x:P5)(f:vK)(hw:TW (NC t x))(hf:0<=f.kd/\f.kd<=100):Fn prog 156 [pV b,Th.thV t,yS x,ftV f] (Ax b p s S G) (KNl F C b p k (Ly S t x f).1 (Ly S t x f).2 G):=by
 have mr:CF b p∈Ax b p s S G:=mR λ_ h=>h;obtain⟨hf1,uK⟩:=hf;obtain⟨R,hR⟩: ∃R,Ly S t x f=R:=⟨_,rfl⟩
 rw[hR];unfold Ly at hR;refine AN func156 ntmps156 λE=>?_;refine AQ λb5=>?_;refine AQ λb6=>?_;refine AQ λb7=>?_;refine CA (Cu [3] 0 4) ?_;refine CE ?_;refine MX (q:=OM (NC t x) hw) ?_;intro S1 s1 L1 EG EC DO GQ;rw[show DD S (NC t x)=S1 from EG.symm] at hR;have eH:S1.H=S.H:=by rw[EG]
 rw[<-eH,show Ei S (t.id,2)=Ei S1 (t.id,2) by unfold Ei;rw[eH]] at hR;refine CE ?_;refine Aj ?_;refine AS (FE (ws:=Si (Xu t.id f)) (k:=12) rfl rfl rfl AX AX) ?_;rintro _ _ ⟨bn,_,rfl,rfl⟩;refine Aj ?_;refine Ie 1 ?_;refine AQ λGd=>?_;refine CA (Cu [7,8] 0 10) ?_;refine CE ?_;obtain⟨c,hc⟩: ∃c,(getD' S1.H.1 (t.id,2)).1=c:=⟨_,rfl⟩
 obtain⟨e,he⟩: ∃e,(getD' S1.H.1 (t.id,2)).2=e:=⟨_,rfl⟩
 rw[show Ei S1 (t.id,2)=c from hc,he] at hR;rw[hc,he];refine Ij e_alloc (by rintro _ _ ⟨_,_,_,rfl⟩ c hc;exact .tail _ hc) ?_;rintro _ _ ⟨M4,_,rfl,rfl⟩;refine CE ?_;obtain⟨w,ko⟩: ∃w,Mf c.rights 2=w:=⟨_,rfl⟩
 rw[ko] at hR;have kc:OwnSl 69 12 (.slice (some ⟨bn,0,none⟩) 1 1) 1 (Si (Xu t.id f)) [Vj bn (Xu t.id f)]:=⟨rfl,.inr ⟨bn,1,[],rfl,rfl,Bf _,by unfold maxLen;omega,rfl⟩⟩
 by_cases h1:¬e=0\/¬c.kind=8
 ·rw[Ad Af] at hR;subst hR;by_cases h2:e=0<;>by_cases h3:c.kind=8;all_goals first
   |(exfalso;omega)
   |(refine Aj ?_
     refine Gi ?_;intro S2 s2 L2 hS2 FW FN HV;refine Aj ?_;exact AU (vs:=[.slice (some ⟨bn,0,none⟩) 1 1]) [] _ rfl .refl (by exact Ba) (l':=[Vj bn (Xu t.id f)]++Ax b p s2 S2 L2) (by exact AW) ⟨_,s2,L2,kc,by rw[<-hS2];exact FW.mono Af,FN.trans DO,by rw[<-hS2]⟩)
 obtain⟨h2,h3⟩:e=0/\c.kind=8:=by omega
 refine Aj ?_;refine Yi (KV rfl rfl) rfl rfl rfl rfl rfl rfl ?_;rw[ko];by_cases h4:w=0
 ·rw[Ad Af] at hR;subst hR;refine Aj ?_;refine Gi ?_;intro S2 s2 L2 hS2 FW FN HV;refine Aj ?_;exact AU (vs:=[.slice (some ⟨bn,0,none⟩) 1 1]) [] _ rfl .refl (by exact Ba) (l':=[Vj bn (Xu t.id f)]++Ax b p s2 S2 L2) (by exact AW) ⟨_,s2,L2,kc,by rw[<-hS2];exact FW.mono Af,FN.trans DO,by rw[<-hS2]⟩
 rw[Ab Af] at hR;obtain⟨st,K3⟩: ∃st:Int,(if f.wr=true then(1:Int) else 0)=st:=⟨_,rfl⟩
 have hfm:cR f=⟨f.kd,f.va,st,0⟩:=by rw[<-K3]
 rw[hfm] at hR;cases hwr:f.wr
 case' true=>rw[hwr,Ad rfl] at K3
 case' false=>rw[hwr,Ab AX] at K3
 all_goals
  refine Aj ?_;rw[hwr];refine Aj ?_;refine uS (v:= .agg (toArray [Be f.kd,Be f.va,Be st,.int .u64 0])) (by apply GT (zs:=[.int .u64 0,.int .u64 0,.int .u64 0,.int .u64 0]) (cs:=[Be f.kd,Be f.va,Be st,.int .u64 0]);(·subst K3;rfl);(·subst K3;rfl)) rfl rfl rfl ?_;refine Aj ?_;have Eh:=jl S1 t.id (t.id,2) ⟨f.kd,f.va,st,0⟩ 4096 true;refine tkn (vs:=[pV b,.int .i64 t.id,F6 (t.id,2),qh ⟨f.kd,f.va,st,0⟩,.int .i64 4096,.bool true]) (λG=>cP EC t.id (t.id,2) ⟨f.kd,f.va,st,0⟩ 4096 true) ?_;intro sl cs S2 s2 L2 hS2 Fg FW FN HV;rw[<-hS2] at hR;obtain⟨ns,pS⟩: ∃ns,(Jv S1 t.id (t.id,2) ⟨f.kd,f.va,st,0⟩ 4096 true).1.1=ns:=⟨_,rfl⟩
  rw[pS] at hR Fg Eh;refine Aj ?_;refine CA (Cu [8,9] 0 11) ?_;refine CE ?_;have JA:=FW.tO t.id;obtain⟨u,hu⟩: ∃u,Dq S2 t.id=u:=⟨_,rfl⟩
  rw[hu] at hR JA⊢;refine Ij e_alloc (by rintro _ _ ⟨_,_,_,rfl⟩ c hc;exact .tail _ hc) ?_;rintro _ _ ⟨P4,_,rfl,rfl⟩;refine CE ?_;refine Aj ?_;refine Cm [3,5] 6 ([Th.thC b5 (NC t x)]) ?_ (hR:=(UC BW));iterate 3 refine Yq ?_
  refine pZ ?_ (hR:=UC BW);refine Yq ?_;refine pZ ?_ (hR:=UC BW);refine BM ?_;refine Aj ?_;refine CA (Cu [3] 0 4) ?_;refine CE ?_;refine MX (q:=OM {u with fa:=true,cl:=t.cl} ⟨JA.out⟩) ?_;intro S3 s3 L3 hS3 MW Lg Pu;rw[show DD S2 {u with fa:=true,cl:=t.cl}=S3 from hS3.symm] at hR;refine CE ?_;refine Aj ?_;obtain⟨L4,hL4,hp4⟩:=Hi (b:=b) (p:=p) (s:=s3) (S:=S3) (Lg.trans FN);refine Bs (.of_perm (tt hp4)) ?_;refine Aj ?_;refine AS (Rv (k:=12) (n:=1) (m:=ns.length) (xs:=Si (Xu t.id f)) (ys:=Fx ns) (zs:=Si (NL 0)) (cs:=[Vj bn (Xu t.id f)]) (cw:=cs) rfl rfl rfl kc Fg (ZC ns) Af Af AX) ?_;rintro v2 _ ⟨c2,ho3,rfl⟩;refine Aj ?_;refine E9 ?_;refine Aj ?_;subst hR;exact AU [] _ rfl .refl (by exact Ba) oK ⟨c2,s3,L4,by rw[Bu,KM];exact ho3,MW,hL4.trans DO,rfl⟩
end
section
section
variable{fr:Fr}{l:Ac}{d:Nat}{at_:Array TypeId}{aft:Array Edge}
theorem tkl(h: ∀G,Fn P f vs (Ax b p s S G) (KNl F C b p k' ns S' G))(hk: ∀sl cs S1 s' L,S1=S'->OwnSl 69 12 sl ns.length (Fx ns) cs->IsK F C k' S1 p s'->Tail L (cs++G)->CF b p∈Ax b p s' S1 L->DA P ro N E ops Q A3 ((d,sl)::fr) ds (Γ (Ax b p s' S1 L)))(hx:ev fr x=some (.func (.func f) #[] #[]):=by rfl)(hy:Sd fr xs=some vs:=by rfl)(hF:Fr1 (Ax b p s S G) l Γ:=by exact eJ)(c:EN P f:=by infer_instance)(hw:Rb ops fr g=some true:=by rfl)(hb:Nat.blt d N=true:=by rfl):DA P ro N E ops Q (⟨some d,.call {callee:= .value x,args:=xs.toArray,argTypes:=at_},ty,pos,aft,g⟩::A3) fr ds l:=by
 obtain⟨A,rfl,hA⟩:=hF.eq;refine JB (Az hx hy (Fn.re (.of_perm (Fi b p s S A G)) (h (A++G)) (K':=λv l'=> ∃cs s' L,OwnSl 69 12 v ns.length (Fx ns) cs/\IsK F C k' S' p s'/\Tail L (cs++G)/\l'=Γ (Ax b p s' S' L)) λv l' ⟨cs,s',L,h2,h3,⟨X,h4⟩,h5⟩=>⟨Γ (Ax b p s' S' (X++(cs++G))),?_,cs,s',_,h2,h3,⟨X,rfl⟩,rfl⟩)) hw rfl hb λv l' ⟨cs,s',L,h2,h3,h4,h5⟩=>by rw[h5];exact hk v cs S' s' L rfl h2 h3 h4 (mR λ_ h=>h)
 rw[h5,h4,hA];refine .of_perm ?_;unfold Ax;exact BX
end
def Mq(S:KT)(core:Int)(x:P5):(Int×Int)×KT:=if x.wr=true then((0,(Z5 S core x.va x.vl).1),(Z5 S core x.va x.vl).2) else cE S core x.va
def okN(id v:Int):Ia:=⟨id,0,v,msZ,0,false,0,0,false⟩
abbrev cT:P5:=⟨false,false,0,0⟩
def doR(S:KT)(core:Int)(x:P5)(t:Th.ThT):List Ia×KT:=
 if ¬(Mq S core x).1.2=0 then Ly (Mq S core x).2 t ⟨true,x.wr,x.va,if x.wr=true then x.vl else 0⟩ ⟨(Mq S core x).1.2,x.va,x.wr⟩
 else([okN t.id (Mq S core x).1.1],DD (Mq S core x).2 (NC t cT))
def Mr(S:KT)(core:Int)(x:P5):(List Ia×Int)×KT:=
 if ¬(IN S core).2=0 then(([],(IN S core).2),S) else(((doR S core x (IN S core).1).1,0),(doR S core x (IN S core).1).2)
def Rx(S:KT)(core:Int):(List Ia×Int)×KT:=
 if ¬(IN S core).2=0 then(([],(IN S core).2),S) else if(IN S core).1.hs=false then(([],2),S)
 else Mr S core ⟨(IN S core).1.hs,(IN S core).1.wr,(IN S core).1.va,(IN S core).1.vl⟩
theorem ZD(S:KT)(core va:Int)(wr:Bool):0<=(findA S core va wr).1.2/\(findA S core va wr).1.2<=100:=by
 unfold findA
 repeat' split
 all_goals first|exact⟨by decide,by decide⟩|(constructor<;>dsimp only<;>omega)
theorem yT(S:KT)(core:Int)(x:P5):0<=(Mq S core x).1.2/\(Mq S core x).1.2<=100:=by
 have h1:=ZD S core x.va true;have h2:=ZD S core x.va false;unfold Mq Z5 cE
 split
 ·split
  ·exact h1
  ·dsimp only;split<;>exact⟨by decide,by decide⟩
 ·split
  ·exact h2
  ·split<;>(constructor<;>dsimp only<;>omega)
theorem cU(hK:IsK F C k S p s)(core:Int):TW (IN S core).1:=by
 unfold IN
 split
 ·exact⟨JC,JC⟩
 split
 ·exact⟨JC,JC⟩
 ·exact hK.tO _
theorem oL(hK:IsK F C (k+2) S p s)(core:Int)(x:P5)[uL:U6 x.va][ww:U6 x.vl]:Fn prog 106 [pV b,.int .i64 core,yS x] (Ax b p s S G) (KN F C b p k (Mr S core x).1.1 (Mr S core x).1.2 (Mr S core x).2 G):=by
 have mr:CF b p∈Ax b p s S G:=mR λ_ h=>h;have JA:=cU hK core;have gp:=yT S core x;obtain⟨R,hR⟩: ∃R,Mr S core x=R:=⟨_,rfl⟩
 rw[hR];unfold Mr at hR;refine AN func106 ntmps106 λE=>?_;refine AQ λb5=>?_;refine EM ?_;obtain⟨w,hw⟩: ∃w,IN S core=w:=⟨_,rfl⟩
 rw[hw] at hR JA⊢;obtain⟨t,ht⟩: ∃t,w.1=t:=⟨_,rfl⟩
 rw[ht] at hR JA⊢;refine AQ λb8=>?_;by_cases h0:w.2=0
 case neg=>rw[Ad h0] at hR;subst hR;refine Aj ?_;exact F4
 rw[Ab (λh=>h h0)] at hR;unfold doR Mq at hR;unfold Mq at gp;obtain⟨xh,xw,xa,xv⟩:=x;dsimp only at uL ww hR gp⊢;refine AQ λM4=>?_;cases xw with
 |true=>
  simp only[CS] at hR gp;obtain⟨q,hq⟩: ∃q,Z5 S core xa xv=q:=⟨_,rfl⟩
  rw[hq] at hR gp;refine Aj ?_;refine CA (Cu [9,10] 0 11) ?_;refine CE ?_;refine MX ?_;intro S1 s1 L1 EG EC DO GQ;rw[hq] at EG⊢;rw[<-EG] at hR;by_cases h1:q.1=0
  ·rw[Ab (λh=>h h1)] at hR;rw[show jX q.1 xa true=Z4 0 0 false from Ad h1];refine CE ?_;refine Aj ?_;refine CA (Cu [3] 0 4) ?_;refine CE ?_;refine MX (q:=OM (NC t cT) ⟨JC,JC⟩) ?_;intro S2 s2 L2 hS2 FW FN HV;rw[show DD S1 (NC t cT)=S2 from hS2.symm] at hR;refine CE ?_;refine Aj ?_;refine AS (FE (ws:=Si (okN t.id 0)) (k:=12) rfl rfl rfl AX AX) ?_;rintro _ _ ⟨bn,_,rfl,rfl⟩;refine Aj ?_;subst hR;exact AU [] _ rfl .refl (by exact Ba) (l':=[Vj bn (okN t.id 0)]++Ax b p s2 S2 L2) (by exact AW) ⟨_,_,s2,L2,rfl,⟨rfl,.inr ⟨bn,1,[],rfl,rfl,Bf _,by unfold maxLen;omega,rfl⟩⟩,FW.mono Af,FN.trans DO,rfl⟩
  ·rw[Ad h1] at hR;rw[show jX q.1 xa true=Z4 q.1 xa true from Ab h1];refine CE ?_;refine Aj ?_;refine tkl (vs:=[pV b,Th.thV t,yS ⟨true,true,xa,xv⟩,ftV ⟨q.1,xa,true⟩]) (λG=>fP EC t ⟨true,true,xa,xv⟩ ⟨q.1,xa,true⟩ ⟨uL.out,ww.out⟩ gp) ?_;intro sl cs S2 s2 L2 hS2 Fg FW FN HV;refine Aj ?_;obtain⟨L4,hL4,hp4⟩:=Hi (b:=b) (p:=p) (s:=s2) (S:=S2) FN;subst hR;exact AU [] _ rfl .refl (by exact Ba) (.drop (.drop (.drop (.of_perm hp4)))) ⟨sl,cs,s2,L4,rfl,Fg,by rw[<-hS2];exact FW,hL4.trans DO,by rw[<-hS2]⟩
 |false=>
  simp only[Bm,C6] at hR gp;obtain⟨q,hq⟩: ∃q,cE S core xa=q:=⟨_,rfl⟩
  rw[hq] at hR gp;refine Aj ?_;refine CA (Cu [7,12] 0 13) ?_;refine CE ?_;refine MX ?_;intro S1 s1 L1 EG EC DO GQ;rw[hq] at EG⊢;rw[<-EG] at hR;by_cases h1:q.1.2=0
  ·rw[Ab (λh=>h h1)] at hR;rw[show jX q.1.2 xa false=Z4 0 0 false from Ad h1];refine CE ?_;refine Aj ?_;refine CA (Cu [3] 0 4) ?_;refine CE ?_;refine MX (q:=OM (NC t cT) ⟨JC,JC⟩) ?_;intro S2 s2 L2 hS2 FW FN HV;rw[show DD S1 (NC t cT)=S2 from hS2.symm] at hR;refine CE ?_;refine Aj ?_;refine AS (FE (ws:=Si (okN t.id q.1.1)) (k:=12) rfl rfl rfl AX AX) ?_;rintro _ _ ⟨bn,_,rfl,rfl⟩;refine Aj ?_;subst hR;exact AU [] _ rfl .refl (by exact Ba) (l':=[Vj bn (okN t.id q.1.1)]++Ax b p s2 S2 L2) (by exact AW) ⟨_,_,s2,L2,rfl,⟨rfl,.inr ⟨bn,1,[],rfl,rfl,Bf _,by unfold maxLen;omega,rfl⟩⟩,FW.mono Af,FN.trans DO,rfl⟩
  ·rw[Ad h1] at hR;rw[show jX q.1.2 xa false=Z4 q.1.2 xa false from Ab h1];refine CE ?_;refine Aj ?_;refine tkl (vs:=[pV b,Th.thV t,yS ⟨true,false,xa,0⟩,ftV ⟨q.1.2,xa,false⟩]) (λG=>fP EC t ⟨true,false,xa,0⟩ ⟨q.1.2,xa,false⟩ ⟨uL.out,JC⟩ gp) ?_;intro sl cs S2 s2 L2 hS2 Fg FW FN HV;refine Aj ?_;obtain⟨L4,hL4,hp4⟩:=Hi (b:=b) (p:=p) (s:=s2) (S:=S2) FN;subst hR;exact AU [] _ rfl .refl (by exact Ba) (.drop (.drop (.drop (.of_perm hp4)))) ⟨sl,cs,s2,L4,rfl,Fg,by rw[<-hS2];exact FW,hL4.trans DO,by rw[<-hS2]⟩
theorem Aco(hK:IsK F C (k+2) S p s)(core:Int):Fn prog 105 [pV b,.int .i64 core] (Ax b p s S G) (KN F C b p k (Rx S core).1.1 (Rx S core).1.2 (Rx S core).2 G):=by
 have mr:CF b p∈Ax b p s S G:=mR λ_ h=>h;have JA:=cU hK core;obtain⟨R,hR⟩: ∃R,Rx S core=R:=⟨_,rfl⟩
 rw[hR];unfold Rx at hR;refine AN func105 ntmps105 λE=>?_;refine Aj ?_;refine EM ?_;obtain⟨w,hw⟩: ∃w,IN S core=w:=⟨_,rfl⟩
 rw[hw] at hR JA⊢;obtain⟨t,ht⟩: ∃t,w.1=t:=⟨_,rfl⟩
 rw[ht] at hR JA⊢;refine AQ λb6=>?_;by_cases h0:w.2=0
 case neg=>rw[Ad h0] at hR;subst hR;refine Aj ?_;exact F4
 rw[Ab (λh=>h h0)] at hR;cases h1:t.hs with
 |false=>rw[Ad h1] at hR;subst hR;refine Aj ?_;exact F4
 |true=>
 rw[Ab (by rw[h1];decide),h1] at hR;have uL:U6 (⟨true,t.wr,t.va,t.vl⟩:P5).va:=⟨JA.out.1⟩
 have ww:U6 (⟨true,t.wr,t.va,t.vl⟩:P5).vl:=⟨JA.out.2⟩
 refine Aj ?_;refine tkn (vs:=[pV b,.int .i64 core,yS ⟨true,t.wr,t.va,t.vl⟩]) (λG=>oL hK core ⟨true,t.wr,t.va,t.vl⟩) ?_ (hy:=by first|rfl|(rw[<-h1];rfl));intro sl cs S2 s2 L2 hS2 Fg FW FN HV;refine Aj ?_;obtain⟨L4,hL4,hp4⟩:=Hi (b:=b) (p:=p) (s:=s2) (S:=S2) FN;subst hR;exact AU [] _ rfl .refl (by exact Ba) (.drop (.of_perm hp4)) ⟨sl,cs,s2,L4,rfl,Fg,by rw[<-hS2];exact FW,hL4,by rw[<-hS2]⟩
end
def Ib(op:Int):Bool×Bool:=
 if op=17\/op=18 then(false,false)
 else if op=1\/op=2\/op=3\/op=4\/op=5\/op=8\/op=10\/op=12\/op=13\/op=19 then(true,true) else(true,false)
theorem cV(op:Int)(l:Ac):Fn prog 158 [.int .i64 op] l λv l'=>v= .tuple #[.bool (Ib op).1,.bool (Ib op).2]/\l'=l:=by
 obtain⟨R,hR⟩: ∃R,Ib op=R:=⟨_,rfl⟩
 rw[hR];unfold Ib at hR;refine AN func158 ntmps158 λE=>?_;refine Aj ?_;by_cases h1:op=17
 ·rw[Ad Af] at hR;subst hR;refine Aj ?_;exact qr
 by_cases h2:op=18
 ·rw[Ad Af] at hR;subst hR;refine Aj ?_;exact qr
 rw[Ab Af] at hR;by_cases g1:op=1
 ·rw[Ad Af] at hR;subst hR;refine Aj ?_;exact qr
 by_cases g2:op=2
 ·rw[Ad Af] at hR;subst hR;refine Aj ?_;exact qr
 by_cases g3:op=3
 ·rw[Ad Af] at hR;subst hR;refine Aj ?_;exact qr
 by_cases g4:op=4
 ·rw[Ad Af] at hR;subst hR;refine Aj ?_;exact qr
 by_cases g5:op=5
 ·rw[Ad Af] at hR;subst hR;refine Aj ?_;exact qr
 by_cases g6:op=8
 ·rw[Ad Af] at hR;subst hR;refine Aj ?_;exact qr
 by_cases g7:op=10
 ·rw[Ad Af] at hR;subst hR;refine Aj ?_;exact qr
 by_cases g8:op=12
 ·rw[Ad Af] at hR;subst hR;refine Aj ?_;exact qr
 by_cases g9:op=13
 ·rw[Ad Af] at hR;subst hR;refine Aj ?_;exact qr
 by_cases g10:op=19
 ·rw[Ad Af] at hR;subst hR;refine Aj ?_;exact qr
 rw[Ab Af] at hR;subst hR;refine Aj ?_;exact qr
instance{op:Int}{l:Ac}:QF prog 158 [.int .i64 op] l (.tuple #[.bool (Ib op).1,.bool (Ib op).2]):=⟨λl _=>cV op l⟩
def PD(S:KT)(t:Int)(o:Jt)(x:Cs):Option ((List Ia×Int)×KT):=
 if o.op=14\/o.op=15 then some (Jv S t x o.ms o.n0 (decide (o.op=15)))
 else if o.op=16 then some (OT S t x o.n0)
 else if o.op=17 then some (Lx S t o.ms)
 else none
section
def KNs(F C b:Nat)(p:RP)(k:Nat)(S:KT)(G:Ac)(R:Option ((List Ia×Int)×KT)):Value->Ac->Prop:=λv l'=>match R with
 |none=>v= .tuple #[.slice none 0 0,iV 0,.bool false]/\ ∃s L,IsK F C (k+2) S p s/\Tail L G/\l'=Ax b p s S L
 |some r=> ∃sl cs s L,v= .tuple #[sl,iV r.1.2,.bool true]/\OwnSl 69 12 sl r.1.1.length (Fx r.1.1) cs/\IsK F C k r.2 p s/\Tail L G/\l'=cs++Ax b p s r.2 L
theorem yU(hK:IsK F C (k+2) S p s)(t:Int)(o:Jt)(x y:Cs):Fn prog 160 [OR b t o x y] (Ax b p s S G) (KNs F C b p k S G (PD S t o x)):=by
 have mr:CF b p∈Ax b p s S G:=mR λ_ h=>h;obtain⟨R,hR⟩: ∃R,PD S t o x=R:=⟨_,rfl⟩
 rw[hR];unfold PD at hR;have z0:(toArray (qj b t o x y))[2+4+(0:Int).toNat*1]?=some (iV o.n0):=rfl;refine AN func160 ntmps160 λE=>?_;refine AQ λb1=>?_;by_cases h1:o.op=14
 ·rw[Ad Af] at hR;refine Aj ?_;refine tkn (vs:=[pV b,.int .i64 t,F6 x,qh o.ms,.int .i64 o.n0,.bool (decide (o.op=15))]) (λG=>cP hK t x o.ms o.n0 (decide (o.op=15))) ?_;intro sl cs S2 s2 L2 hS2 Fg FW FN HV;subst hS2;refine Aj ?_;obtain⟨L3,hL3,XY⟩:=Hi (b:=b) (p:=p) (s:=s2) FN;subst hR;exact CT (vs:=[sl,iV (Jv S t x o.ms o.n0 (decide (o.op=15))).1.2,.bool true]) _ .refl (Keep.trans (.drop .refl) (.of_perm XY)) ⟨sl,cs,s2,L3,rfl,Fg,FW,hL3,rfl⟩
 by_cases h2:o.op=15
 ·rw[Ad Af] at hR;refine Aj ?_;refine tkn (vs:=[pV b,.int .i64 t,F6 x,qh o.ms,.int .i64 o.n0,.bool (decide (o.op=15))]) (λG=>cP hK t x o.ms o.n0 (decide (o.op=15))) ?_;intro sl cs S2 s2 L2 hS2 Fg FW FN HV;subst hS2;refine Aj ?_;obtain⟨L3,hL3,XY⟩:=Hi (b:=b) (p:=p) (s:=s2) FN;subst hR;exact CT (vs:=[sl,iV (Jv S t x o.ms o.n0 (decide (o.op=15))).1.2,.bool true]) _ .refl (Keep.trans (.drop .refl) (.of_perm XY)) ⟨sl,cs,s2,L3,rfl,Fg,FW,hL3,rfl⟩
 rw[Ab Af] at hR;by_cases h3:o.op=16
 ·rw[Ad h3] at hR;refine Aj ?_;refine tkn (vs:=[pV b,.int .i64 t,F6 x,.int .i64 o.n0]) (λG=>yR hK t x o.n0) ?_;intro sl cs S2 s2 L2 hS2 Fg FW FN HV;subst hS2;refine Aj ?_;obtain⟨L3,hL3,XY⟩:=Hi (b:=b) (p:=p) (s:=s2) FN;subst hR;exact CT (vs:=[sl,iV (OT S t x o.n0).1.2,.bool true]) _ .refl (Keep.trans (.drop .refl) (.of_perm XY)) ⟨sl,cs,s2,L3,rfl,Fg,FW,hL3,rfl⟩
 rw[Ab h3] at hR;by_cases h4:o.op=17
 ·rw[Ad h4] at hR;refine Aj ?_;refine tkn (vs:=[pV b,.int .i64 t,qh o.ms]) (λG=>to hK t o.ms) ?_;intro sl cs S2 s2 L2 hS2 Fg FW FN HV;subst hS2;refine Aj ?_;obtain⟨L3,hL3,XY⟩:=Hi (b:=b) (p:=p) (s:=s2) FN;subst hR;exact AU (vs:=[sl,iV (Lx S t o.ms).1.2,.bool true]) [] _ rfl .refl (by exact Ba) (Keep.trans (.drop .refl) (.of_perm XY)) ⟨sl,cs,s2,L3,rfl,Fg,FW.mono Af,hL3,rfl⟩
 rw[Ab h4] at hR;subst hR;refine Aj ?_;exact CT _ .refl (.drop .refl) ⟨rfl,s,G,hK,.nil,rfl⟩
end
theorem Acp(e:UY):U6 (QA e).1:=by
 unfold QA
 split
 ·rename_i h;unfold Ve at h;have h1:=Mi e.vd;have h2:=Mi e.lf;have h3:=Mi e.rd;have h4:=Mi e.wr;have h5:0<=e.fr/\e.fr<64:=by
   split at h
   ·have h6:e=bL:=by simpa using h
    rw[h6];exact⟨by decide,by decide⟩
   ·split at h
    ·cases h
    ·omega
  refine⟨⟨?_,?_⟩⟩<;>dsimp only<;>omega
 ·exact⟨by decide,by decide⟩
section
theorem IsK.lvU(h:IsK F C k S p s){r:Int}{q:Int×Int}(hq:q∈vE S.W r pg):U6 q.2:=by
 unfold vE at hq
 split at hq
 ·cases hq
 rcases At.1 hq with rfl|hq
 ·exact h.atU _ _ _
 split at hq
 ·cases hq
 rw[AC.1 hq];exact h.atU _ _ _
abbrev enF(f:Int):UY:=⟨true,false,false,false,f⟩
def yV(S:KT)(f obj se pg:Int)(q:Int×Int):KT:={S with W:=(V9 (r4 S.W f 1).2 q.2 (QA (enF f)).1).2,A:=(Ar.placeD S.A obj se pg q.1).2}
def QR(S:KT)(x y:Cs)(va:Int):Int×KT:=
 if ¬(FH S x 4/\FH S y 5) then(8,S)
 else if(As.ofP S.N (Ei S y).obj).2.2=false then(15,S)
 else if ¬(E4 va).2=0 then(3,S)
 else if(FZ S (Ei S x).obj).2=true then(13,S)
 else match(vE S.W (NA S (Ei S y).obj) (E4 va).1).find? λq=>decide ((N1 S.W q.2).1=0) with
  |some q=>(0,yV S (NA S (Ei S x).obj) (Ei S x).obj (As.ofP S.N (Ei S y).obj).2.1 (E4 va).1 q)
  |none=>(11,S)
theorem tu{f:α->Bool}{pre:List α}{q:α}{l:List α}(h:pre++[q]<+:l)(hn: ∀x,x∈pre->f x=false)(hq:f q=true):l.find? f=some q:=by obtain⟨t,rfl⟩:=h;rw[Am,Eg,Bq.2 (λx hx=>by simp[hn x hx])];simp[hq]
theorem tv{f:α->Bool}{l:List α}(hn: ∀x,x∈l->f x=false):l.find? f=none:=Bq.2 λx hx=>by simp[hn x hx]
theorem yW:((lo++Ax b p s S G)++(r,o)::T).Perm (lo++(r,o)::Ax b p s S (G++T)):=by unfold Ax;exact BX
theorem tx(h:L=lo):((lo++Ax b p s S G)++(r,o)::T).Perm (L++(r,o)::Ax b p s S (G++T)):=by rw[h];exact yW
theorem oM(h:L=lo):(L++(r,o)::Ax b p s S (G++T)).Perm ((lo++Ax b p s S G)++(r,o)::T):=by rw[h];unfold Ax;exact BX
theorem tz{L2:Ac}(hT:Tail L2 (L++T)): ∃L',Tail L' L/\ ∀(lo:Ac) (r:Nat) (o:Obj),(lo++(r,o)::Ax b p s S L2).Perm ((lo++Ax b p s S L')++(r,o)::T):=by obtain⟨X,rfl⟩:=hT;exact⟨X++L,⟨X,rfl⟩,λlo r o=>by unfold Ax;exact BX⟩
abbrev VL(B:Nat)(x:Int):Bd:=(B,.cells (toArray [iV x]) 29 (0,0))
theorem yX(hK:IsK F C k S p s)(x y:Cs)(va:Int)[hu:U6 va]:Fn prog 214 [pV b,F6 x,F6 y,Be va] (Ax b p s S G) (KK F C b p k (iV (QR S x y va).1) (QR S x y va).2 G):=by
 have mr:CF b p∈Ax b p s S G:=mR λ_ h=>h;obtain⟨R,hR⟩: ∃R,QR S x y va=R:=⟨_,rfl⟩
 rw[hR];unfold QR at hR;refine Zv func214 rfl rfl λE=>?_;simp only[WD,ntmps214];refine AQ λb4=>?_;refine AQ λb5=>?_;refine AQ λb6=>?_;refine AS (D1 (k:=3) (n:=2) (e:=457) (zs:=N2 (0,0) 0) (cs:=N2 x 4++N2 y 5) rfl AX AX rfl (SS x y 4 5)) ?_;rintro _ _ ⟨bw,_,rfl,rfl⟩;refine LK ?_;refine AS (Az rfl rfl (SR hK bw x y 4 5 _ (λc hc=> .tail _ (.tail _ (.tail _ (.tail _ hc)))) (.head _))) ?_;rintro _ _ (⟨hk,u,cs,ho,rfl,rfl⟩|⟨hk,rfl,rfl⟩)
 case' inr=>
  rw[Ad hk] at hR;subst hR;refine AQ λb9=>?_;exact A9
 rw[Ab (λh=>h hk)] at hR;obtain⟨gb,cap,sp,rfl,rfl⟩:=MR ho Af;rw[Cn];obtain⟨c,hc⟩: ∃c,Ei S x=c:=⟨_,rfl⟩
 obtain⟨d,hd⟩: ∃d,Ei S y=d:=⟨_,rfl⟩
 rw[hc,hd] at hR⊢;have z0:(toArray (B0 c++B0 d++sp))[0+(0:Int).toNat*8+1]?=some (.int .i64 c.obj):=rfl;have z1:(toArray (B0 c++B0 d++sp))[0+(1:Int).toNat*8+1]?=some (.int .i64 d.obj):=rfl;obtain⟨cd,hcd⟩: ∃r,B0 c++B0 d++sp=r:=⟨_,rfl⟩
 rw[hcd] at z0 z1⊢;refine AQ λb9=>?_;refine CA (Cu [11,13] 0 15) ?_;refine CE ?_;obtain⟨o,ho⟩: ∃o,As.ofP S.N d.obj=o:=⟨_,rfl⟩
 rw[ho] at hR⊢;refine Ij e_alloc (by rintro _ _ ⟨_,_,_,rfl⟩ c hc;exact .tail _ hc) ?_;rintro _ _ ⟨Tb,_,rfl,rfl⟩;refine CE ?_;refine LK ?_;refine EM ?_;obtain⟨g,hg⟩: ∃g,E4 va=g:=⟨_,rfl⟩
 rw[hg] at hR⊢;refine AQ λU5=>?_;cases h1:o.2.2 with
 |false=>rw[Ad h1] at hR;subst hR;refine LK ?_;exact A9
 |true=>
 rw[Ab (by simp[h1])] at hR;refine LK ?_;by_cases h2:g.2=0
 case neg=>rw[Ad h2] at hR;subst hR;refine LK ?_;exact A9
 rw[Ab (by simpa using h2)] at hR;refine LK ?_;refine CA (Cu [] 0 7) ?_;refine CE ?_;cases h3:(FZ S c.obj).2 with
 |true=>rw[Ad h3] at hR;subst hR;refine LK ?_;exact A9
 |false=>
 rw[Ab (by simp[h3])] at hR;refine LK ?_;refine CA (Cu [6,7] 0 8) ?_;refine CE ?_;obtain⟨f,hf⟩: ∃f,NA S c.obj=f:=⟨_,rfl⟩
 rw[hf] at hR⊢;refine Ij e_alloc (by rintro _ _ ⟨_,_,_,rfl⟩ c hc;exact .tail _ hc) ?_;rintro _ _ ⟨ZY,_,rfl,rfl⟩;refine CE ?_;refine AQ λP4=>?_;obtain⟨pg,hpg⟩: ∃x,g.1=x:=⟨_,rfl⟩
 obtain⟨se,hse⟩: ∃x,o.2.1=x:=⟨_,rfl⟩
 rw[hpg,hse] at hR⊢;refine CA (Cu [8] 0 9) ?_;refine CE ?_;obtain⟨rt,hrt⟩: ∃x,NA S d.obj=x:=⟨_,rfl⟩
 rw[hrt] at hR⊢;refine LJ (Az rfl rfl (nX rt pg _)) ?_ rfl rfl;rintro _ _ ⟨B3,B4,B5,rfl,rfl⟩;refine CE ?_;obtain⟨gm,f1,f2,hW,hU,hM⟩:=hK.mem;obtain⟨lo,wm⟩: ∃lo,[BS B5 pg,BS B4 rt,rB B3 b,VL P4 11,BS ZY f,BS U5 pg,BS Tb se,(b9,Obj.cells (toArray [Value.slice (some ⟨gb,0,none⟩) 2 cap]) 404 (0,0)),(gb,Obj.cells (toArray cd) 74 (0,0)),rB b4 b]=lo:=⟨_,rfl⟩
 refine LK ?_;refine od rfl ?_;refine Dg (α:=Int×Int) (ps:=[80,81]) (lb:=[pV B3,pV B4,pV B5]) rfl (Zs B3 B4 B5 b gm F p S.W f2 hW hU rt pg) (λ_=>rfl) rfl
  (λpre l=>(∀q,q∈pre->decide ((N1 S.W q.2).1=0)=false)/\l=lo++Ax b p s S G)
  (λco pre l=>co= .exit 1/\ ∃wP q s' L',pre=wP++[q]/\(∀q,q∈wP->decide ((N1 S.W q.2).1=0)=false)/\decide ((N1 S.W q.2).1=0)=true/\IsK F C k (yV S f c.obj se pg q) p s'/\Tail L' G/\l=[VL P4 0]++Ax b p s' (yV S f c.obj se pg q) L')
  (lo++Ax b p s S G) [] (λpre l X hX h=>by obtain⟨_,rfl⟩:=h;rw[<-wm];have m1:=mM (b:=b) (p:=p) (s:=s) (S:=S) (G:=G) (l:=Ax b p s S G) (λ_ h=>h);rw[hM] at m1;exact⟨by simp,by simp,by simp,by simp[mr],by simp[m1],by simp[m1]⟩) (by rw[Bj,<-wm];exact AW) ⟨λ_ h=>(nomatch h),rfl⟩ ?_ ?_ ?_
 ·rintro E r0 FU pre q l' X ⟨fn,tmps,D,hrec⟩ hX ⟨hn,rfl⟩ Dw;have Q7:q∈vE S.W rt pg:=Dw.subset (by simp);have hqU:=hK.lvU Q7;obtain⟨lv,qa⟩:=q;refine Em (.of_perm (tx (L:=[BS B5 pg,BS B4 rt,rB B3 b,VL P4 11,BS ZY f,BS U5 pg,BS Tb se,(b9,Obj.cells (toArray [Value.slice (some ⟨gb,0,none⟩) 2 cap]) 404 (0,0)),(gb,Obj.cells (toArray cd) 74 (0,0)),rB b4 b]) wm)) ?_;have GQ:CF b p∈Ax b p s S (G++X):=mR λ_ h=>h;simp only[DX,Ae,Ag];rw[hrec];refine LK ?_;refine CK (by exact DY) ?_;rw[<-hrec];obtain⟨lp,kH⟩: ∃lp:Bd,(r0,Obj.loop (FU .busy none))=lp:=⟨_,rfl⟩
  rw[kH];refine yD ?_;intro Q' hQ';refine LK ?_;refine EM ?_;refine LK ?_;refine EM ?_;obtain⟨w,hw⟩: ∃w,N1 S.W qa=w:=⟨_,rfl⟩
  rw[hw];refine LK ?_;by_cases h5:w.1=0
  case neg=>
   refine LK ?_;refine Acb hQ' ?_;subst kH hrec;exact Ci (lo++Ax b p s S G) (Keep.of_perm (oM (L:=[BS B5 pg,BS B4 rt,rB B3 b,VL P4 11,BS ZY f,BS U5 pg,BS Tb se,(b9,Obj.cells (toArray [Value.slice (some ⟨gb,0,none⟩) 2 cap]) 404 (0,0)),(gb,Obj.cells (toArray cd) 74 (0,0)),rB b4 b]) wm)) ⟨λz hz=>by
    rcases AF.1 hz with hz|hz
    ·exact hn z hz
    ·rw[AC.1 hz];simp[hw,h5],rfl⟩
  refine LK ?_;refine EM (q:=(⟨λl _=>Ze (enF f) l⟩:QF prog 294 [Zd (enF f)] _ _)) ?_;have heU:=Acp (enF f);obtain⟨ew,hew⟩: ∃w,QA (enF f)=w:=⟨_,rfl⟩
  rw[hew] at heU⊢;refine LK ?_;try simp only[AM,AK,AR]
  refine CA (Cu [3] 0 4) ?_;refine CE ?_;refine MX ?_;intro S1 s1 L1 EG EC DO GQ;refine CE ?_;refine LK ?_;refine EM ?_;refine LK ?_;refine Gi ?_;intro S2 s2 L2 hS2 FW FN HV;refine LK ?_;refine CA (Cu [9] 0 10) ?_;refine CE ?_;refine MX ?_;intro S3 s3 L3 hS3 MW Lg Pu;refine CE ?_;refine LK ?_;have hS:S3=yV S f c.obj se pg (lv,qa):=by unfold yV;rw[hew,hS3,hS2,EG]
  clear hS3 hR;subst hS;obtain⟨L',hL',hp⟩:=tz (b:=b) (p:=p) (s:=s3) (S:=yV S f c.obj se pg (lv,qa)) (Lg.trans (FN.trans DO));refine Acb hQ' ?_;subst kH hrec;exact E5 ([VL P4 0]++Ax b p s3 (yV S f c.obj se pg (lv,qa)) L') (Keep.right (by exact AW) (hp [VL P4 0] r0 _)) ⟨rfl,pre,(lv,qa),s3,L',rfl,hn,by simp[hw,h5],MW,hL',rfl⟩
 ·rintro D xs l' rfl ⟨hn,rfl⟩;rw[tv hn] at hR;subst hR;rw[<-wm];simp only[Ae,Ag,Bj];refine LK ?_;exact AU [D] _ rfl .refl (by exact Ba) (by exact AW) ⟨rfl,s,G,hK,.nil,rfl⟩
 ·rintro D co pre l' Dw ⟨rfl,wP,q,s',L',rfl,hn,hq,hK',hT,rfl⟩;rw[tu Dw hn hq] at hR;subst hR;simp only[Ae,Ag,Bj];refine LK ?_;exact AU [D] _ rfl .refl (by exact Ba) (by exact AW) ⟨rfl,s',L',hK',hT,rfl⟩
instance{x y:Cs}{va:Int}[hu:U6 va]:EK prog F C b p 214 [pV b,F6 x,F6 y,Be va] k S k (iV (QR S x y va).1) (QR S x y va).2:=⟨λs G h=>yX h x y va⟩
end
section
abbrev enL(m f:Int):UY:=⟨true,true,decide (¬Mf m 1=0),decide (¬Mf m 2=0),f⟩
def mfS(S:KT)(x:Cs)(c:CapT)(n se pg a m:Int):KT:={S with W:=(V9 S.W a (QA (enL m (NA S c.obj))).1).2,H:=(Pp S.H x {c with serial:=se,page:=pg}).2,K:=IM S.K (KB n pg)}
def QU(S:KT)(x y:Cs)(va ri:Int):Int×KT:=
 if ¬(FH S x 3/\FH S y 5) then(8,S)
 else if(As.ofP S.N (Ei S y).obj).2.2=false then(15,S)
 else if ¬(E4 va).2=0 then(3,S)
 else if ¬va%64=0 then(4,S)
 else if ri<1\/3<ri\/Mf ri (Ei S x).rights=0 then(9,S)
 else if(F0 S (Ei S x)).2=true/\(¬(Ei S x).serial=(As.ofP S.N (Ei S y).obj).2.1\/¬(Ei S x).page=(E4 va).1) then(13,S)
 else if ¬(Q4 S.W (NA S (Ei S y).obj) (E4 va).1 3).2=0 then(14,S)
 else if ¬(N1 S.W (Q4 S.W (NA S (Ei S y).obj) (E4 va).1 3).1).1=0/\(F0 S (Ei S x)).2=false then(11,S)
 else(0,mfS S x (Ei S x) (As.ofP S.N (Ei S y).obj).1 (As.ofP S.N (Ei S y).obj).2.1 (E4 va).1 (Q4 S.W (NA S (Ei S y).obj) (E4 va).1 3).1 (Mf ri (Ei S x).rights))
theorem yY(hK:IsK F C k S p s)(x y:Cs)(va ri:Int)[hu:U6 va]:Fn prog 216 [pV b,F6 x,F6 y,Be va,.int .i64 ri] (Ax b p s S G) (KK F C b p k (iV (QU S x y va ri).1) (QU S x y va ri).2 G):=by
 have mr:CF b p∈Ax b p s S G:=mR λ_ h=>h;have hw:=hK.cw x;obtain⟨u0,u1⟩:=hu.out;obtain⟨R,hR⟩: ∃R,QU S x y va ri=R:=⟨_,rfl⟩
 rw[hR];unfold QU at hR;refine AN func216 ntmps216 λE=>?_;refine AQ λb6=>?_;refine AQ λb7=>?_;refine AS (D1 (k:=3) (n:=2) (e:=457) (zs:=N2 (0,0) 0) (cs:=N2 x 3++N2 y 5) rfl AX AX rfl (SS x y 3 5)) ?_;rintro _ _ ⟨bw,_,rfl,rfl⟩;refine Aj ?_;refine AS (Az rfl rfl (SR hK bw x y 3 5 _ (λc hc=> .tail _ (.tail _ (.tail _ hc))) (.head _))) ?_;rintro _ _ (⟨hk,u,cs,ho,rfl,rfl⟩|⟨hk,rfl,rfl⟩)
 case' inr=>
  rw[Ad hk] at hR;subst hR;refine Aj ?_;exact A9
 rw[Ab (λh=>h hk)] at hR;obtain⟨gb,cap,sp,rfl,rfl⟩:=MR ho Af;rw[Cn];obtain⟨c,hc⟩: ∃c,Ei S x=c:=⟨_,rfl⟩
 obtain⟨d,hd⟩: ∃d,Ei S y=d:=⟨_,rfl⟩
 rw[hc] at hw;rw[hc,hd] at hR⊢;have z0:(toArray (B0 c++B0 d++sp)).extract (0+(0:Int).toNat*8) (0+(0:Int).toNat*8+8)=toArray (B0 c):=by rw[Am];exact fu c _
 have z1:(toArray (B0 c++B0 d++sp))[0+(1:Int).toNat*8+1]?=some (.int .i64 d.obj):=rfl;refine Aj ?_;refine Bh (Dt rfl (.head _) (by show 0+(0:Int).toNat*8+8<=(B0 c++B0 d++sp).length;simp) z0) ?_;refine AQ λWA=>?_;refine CA (Cu [] 0 14) ?_;refine CE ?_;obtain⟨o,ho⟩: ∃o,As.ofP S.N d.obj=o:=⟨_,rfl⟩
 rw[ho] at hR⊢;refine CE ?_;refine Aj ?_;refine EM ?_;obtain⟨g,hg⟩: ∃g,E4 va=g:=⟨_,rfl⟩
 rw[hg] at hR⊢;refine Aj ?_;refine EM ?_;obtain⟨fk,hfk⟩: ∃x,(F0 S c).2=x:=⟨_,rfl⟩
 rw[hfk] at hR⊢;refine Aj ?_;cases h1:o.2.2 with
 |false=>rw[Ad h1] at hR;subst hR;refine Aj ?_;exact A9
 |true=>
 rw[Ab (by simp[h1])] at hR;refine Aj ?_;by_cases h2:g.2=0
 case neg=>rw[Ad h2] at hR;subst hR;refine Aj ?_;exact A9
 rw[Ab (by simpa using h2)] at hR;refine Aj ?_;by_cases h3:va%64=0
 case neg=>rw[Ad h3] at hR;subst hR;refine Aj ?_;exact A9
 rw[Ab (by simpa using h3)] at hR;obtain⟨m,hm⟩: ∃m,Mf ri c.rights=m:=⟨_,rfl⟩
 rw[hm] at hR;by_cases h4:ri<1\/3<ri
 ·rw[Ad Af] at hR;subst hR;by_cases h5:ri<1<;>by_cases h6:3<ri;all_goals first
   |(exfalso;omega)
   |(refine Aj ?_
     exact A9)
 obtain⟨h5,h6⟩:¬ri<1/\¬3<ri:=by omega
 refine Aj ?_;refine Yi (KV rfl rfl) rfl rfl rfl rfl rfl rfl ?_;rw[hm];by_cases h7:m=0
 ·rw[Ad Af] at hR;subst hR;refine Aj ?_;exact A9
 rw[Ab Af] at hR;refine Aj ?_;obtain⟨pg,hpg⟩: ∃x,g.1=x:=⟨_,rfl⟩
 obtain⟨se,hse⟩: ∃x,o.2.1=x:=⟨_,rfl⟩
 rw[hpg,hse] at hR⊢;by_cases h8:fk=true/\(¬c.serial=se\/¬c.page=pg)
 ·rw[Ad h8] at hR;subst hR;obtain⟨rfl,h8⟩:=h8;by_cases h9:c.serial=se<;>by_cases U7:c.page=pg;all_goals first
   |(exfalso;omega)
   |(refine Aj ?_
     exact A9)
 rw[Ab h8] at hR;have haU:=hK.atU (NA S d.obj) pg 3;cases fk
 case' true=>
  obtain⟨h9,U7⟩:c.serial=se/\c.page=pg:=by simpa using h8
 all_goals
  refine Aj ?_;refine CA (Cu [] 0 15) ?_;refine CE ?_;try simp only[AM,AK,AR]
  refine CE ?_;obtain⟨a,ha⟩: ∃a,Q4 S.W (NA S d.obj) pg 3=a:=⟨_,rfl⟩
  rw[ha] at hR haU⊢;refine CE ?_;refine Aj ?_;by_cases jR:a.2=0
  case neg=>rw[Ad jR] at hR;subst hR;refine Aj ?_;exact A9
  rw[Ab (by simpa using jR)] at hR;refine Aj ?_;try simp only[AM,AK,AR]
  refine EM ?_;refine Aj ?_;refine EM ?_;obtain⟨w,hw1⟩: ∃w,N1 S.W a.1=w:=⟨_,rfl⟩
  rw[hw1] at hR⊢;by_cases kK:w.1=0;all_goals first
   |(rw[Ad ⟨kK,rfl⟩] at hR
     subst hR;refine Aj ?_;exact A9)
   |(rw[Ab (by simp[kK])] at hR
     subst hR;unfold mfS;obtain⟨fi,hfi⟩: ∃x,NA S c.obj=x:=⟨_,rfl⟩
     rw[hfi];have heU:=Acp (enL m fi);have ko:CW {c with serial:=se,page:=pg}:=⟨hw.out.1,hw.out.2⟩
     refine Aj ?_;refine Bh (KV rfl rfl) ?_;rw[hm];refine Aj ?_;refine Bh (KV rfl rfl) ?_;refine Aj ?_;refine Bh (KV rfl rfl) ?_;refine Aj ?_;refine EM ?_;rw[hfi];refine Aj ?_;refine EM (q:=(⟨λl _=>Ze (enL m fi) l⟩:QF prog 294 [Zd (enL m fi)] _ _)) ?_;obtain⟨ew,hew⟩: ∃w,QA (enL m fi)=w:=⟨_,rfl⟩
     rw[hew] at heU⊢;refine Aj ?_;try simp only[AM,AK,AR]
     refine EM ?_;refine Aj ?_;refine Gi ?_;intro S1 s1 L1 EG EC DO GQ;refine Aj ?_;refine CA (Cu [4] 0 5) ?_;refine CE ?_;refine MX (q:=vD (x:=x) (c:={c with serial:=se,page:=pg})) ?_;intro S2 s2 L2 hS2 FW FN HV;refine CE ?_;refine Aj ?_;refine EM ?_;refine Aj ?_;refine Gi ?_;intro S3 s3 L3 hS3 MW Lg Pu;refine Aj ?_;have hS:S3={S with W:=(V9 S.W a.1 ew.1).2,H:=(Pp S.H x {c with serial:=se,page:=pg}).2,K:=IM S.K (KB o.1 pg)}:=by rw[hS3,hS2,EG]
     exact A9)
instance{x y:Cs}{va ri:Int}[hu:U6 va]:EK prog F C b p 216 [pV b,F6 x,F6 y,Be va,.int .i64 ri] k S k (iV (QU S x y va ri).1) (QU S x y va ri).2:=⟨λs G h=>yY h x y va ri⟩
end
class OB(o:Jt):Prop where
 w:Lt o.w
 r:o.op=1->0<=o.n2/\o.n2<=1000
 d:o.op=19->0<=o.n0/\o.n0<=2
def Mg(S:KT)(t:Int)(o:Jt)(x y:Cs):Int×KT:=
 if o.op=1 then Gy S o x y else
 if o.op=2 then((Gv S.H x y (Er (D5 S.H.1 x) o.n0)).1,{S with H:=(Gv S.H x y (Er (D5 S.H.1 x) o.n0)).2}) else
 if o.op=3 then((Gv S.H x y (HH (D5 S.H.1 x) o.n0 o.w.toNat)).1,{S with H:=(Gv S.H x y (HH (D5 S.H.1 x) o.n0 o.w.toNat)).2}) else
 if o.op=4 then((JJ S.H x y).1,{S with H:=(JJ S.H x y).2}) else
 if o.op=5 then((Mb S.H x y).1,{S with H:=(Mb S.H x y).2}) else
 if o.op=6 then((QM S x).1.2,(QM S x).2) else
 if o.op=7 then((Sj S x o.n0).1.2,(Sj S x o.n0).2) else
 if o.op=8 then QR S x y o.w else
 if o.op=9 then RU S x else
 if o.op=10 then QU S x y o.w o.n0 else
 if o.op=11 then RX S x else
 if o.op=12 then RV S x y else
 if o.op=13 then RW S x y else
 if o.op=18 then(0,Xt S t) else
 if o.op=19 then QN S o.n0 x y else
 if o.op=20 then KX S o.n0 x else
 if o.op=21 then KY S x else
 if o.op=22 then Ju S x else
 if o.op=23 then QQ S o.n0 x else
 (2,S)
section
theorem yZ{x y:Cs}{m w:Int}(hw:Lt w):EK prog F C b p 149 [pV p.h,F6 x,F6 y,.int .i64 m,Be w] (k+1) S k (iV (Gv S.H x y (HH (D5 S.H.1 x) m w.toNat)).1) {S with H:=(Gv S.H x y (HH (D5 S.H.1 x) m w.toNat)).2}:=by
 obtain⟨n,rfl⟩: ∃n:Nat,w=n:=⟨w.toNat,by have:=hw.1;omega⟩
 have hn:n<18446744073709551616:=by have:=hw.2;omega
 rw[A0];exact⟨λs G h=>r7 h Af (λi hi=>(hi.der x y _ (TU (hi.at x).2 m n)).mono Af) λi G hi h9=>Rn p.h S.H i hi h9 s.H h.ho x y m n hn G⟩
theorem y0(hK:IsK F C (k+8) S p s)(t:Int)(o:Jt)(x y:Cs)(ho:OB o):Fn prog 161 [OR b t o x y] (Ax b p s S G) (KK F C b p k (iV (Mg S t o x y).1) (Mg S t o x y).2 G):=by
 have mr:CF b p∈Ax b p s S G:=mR λ_ h=>h;obtain⟨R,hR⟩: ∃R,Mg S t o x y=R:=⟨_,rfl⟩
 rw[hR];unfold Mg at hR;have z0:(toArray (qj b t o x y))[2+4+(0:Int).toNat*1]?=some (iV o.n0):=rfl;have hu:U6 o.w:=⟨ho.w⟩
 have hb:=ho.r;have hd:=ho.d;refine AN func161 ntmps161 λE=>?_;refine AQ λb1=>?_;by_cases e1:o.op=1
 ·rw[Ad e1] at hR;subst hR;refine Aj ?_;refine Gi (vs:=[OR b t o x y]) ?_ (q:=(⟨λs G h=>oF h t o x y (hb e1)⟩:EK prog F C b p 209 [OR b t o x y] (k+8) S k (iV (Gy S o x y).1) (Gy S o x y).2));intro S1 s1 L1 EG EC DO GQ;refine Aj ?_;exact A9
 rw[Ab e1] at hR;by_cases e2:o.op=2
 ·rw[Ad e2] at hR;subst hR;refine Aj ?_;refine CA (Cu [11] 0 13) ?_;refine CE ?_;refine MX (vs:=[pV p.h,F6 x,F6 y,.int .i64 o.n0]) ?_;intro S1 s1 L1 EG EC DO GQ;refine CE ?_;refine Aj ?_;exact A9
 rw[Ab e2] at hR;by_cases e3:o.op=3
 ·rw[Ad e3] at hR;subst hR;refine Aj ?_;refine CA (Cu [14] 0 16) ?_;refine CE ?_;refine MX (vs:=[pV p.h,F6 x,F6 y,.int .i64 o.n0,Be o.w]) ?_ (q:=yZ ho.w);intro S1 s1 L1 EG EC DO GQ;refine CE ?_;refine Aj ?_;exact A9
 rw[Ab e3] at hR;by_cases e4:o.op=4
 ·rw[Ad e4] at hR;subst hR;refine Aj ?_;refine CA (Cu [7] 0 9) ?_;refine CE ?_;refine MX (vs:=[pV p.h,F6 x,F6 y]) ?_;intro S1 s1 L1 EG EC DO GQ;refine CE ?_;refine Aj ?_;exact A9
 rw[Ab e4] at hR;by_cases e5:o.op=5
 ·rw[Ad e5] at hR;subst hR;refine Aj ?_;refine CA (Cu [7] 0 9) ?_;refine CE ?_;refine MX (vs:=[pV p.h,F6 x,F6 y]) ?_;intro S1 s1 L1 EG EC DO GQ;refine CE ?_;refine Aj ?_;exact A9
 rw[Ab e5] at hR;by_cases e6:o.op=6
 ·rw[Ad e6] at hR;subst hR;refine Aj ?_;refine Gi (vs:=[pV b,F6 x]) ?_;intro S1 s1 L1 EG EC DO GQ;refine Aj ?_;exact A9
 rw[Ab e6] at hR;by_cases e7:o.op=7
 ·rw[Ad e7] at hR;subst hR;refine Aj ?_;refine Gi (vs:=[pV b,F6 x,.int .i64 o.n0]) ?_;intro S1 s1 L1 EG EC DO GQ;refine Aj ?_;exact A9
 rw[Ab e7] at hR;by_cases e8:o.op=8
 ·rw[Ad e8] at hR;subst hR;refine Aj ?_;refine Gi (vs:=[pV b,F6 x,F6 y,Be o.w]) ?_;intro S1 s1 L1 EG EC DO GQ;refine Aj ?_;exact A9
 rw[Ab e8] at hR;by_cases e9:o.op=9
 ·rw[Ad e9] at hR;subst hR;refine Aj ?_;refine Gi (vs:=[pV b,F6 x]) ?_;intro S1 s1 L1 EG EC DO GQ;refine Aj ?_;exact A9
 rw[Ab e9] at hR;by_cases zK:o.op=10
 ·rw[Ad zK] at hR;subst hR;refine Aj ?_;refine Gi (vs:=[pV b,F6 x,F6 y,Be o.w,.int .i64 o.n0]) ?_;intro S1 s1 L1 EG EC DO GQ;refine Aj ?_;exact A9
 rw[Ab zK] at hR;by_cases zL:o.op=11
 ·rw[Ad zL] at hR;subst hR;refine Aj ?_;refine Gi (vs:=[pV b,F6 x]) ?_;intro S1 s1 L1 EG EC DO GQ;refine Aj ?_;exact A9
 rw[Ab zL] at hR;by_cases zM:o.op=12
 ·rw[Ad zM] at hR;subst hR;refine Aj ?_;refine Gi (vs:=[pV b,F6 x,F6 y]) ?_;intro S1 s1 L1 EG EC DO GQ;refine Aj ?_;exact A9
 rw[Ab zM] at hR;by_cases zN:o.op=13
 ·rw[Ad zN] at hR;subst hR;refine Aj ?_;refine Gi (vs:=[pV b,F6 x,F6 y]) ?_;intro S1 s1 L1 EG EC DO GQ;refine Aj ?_;exact A9
 rw[Ab zN] at hR;by_cases zO:o.op=18
 ·rw[Ad zO] at hR;subst hR;refine Aj ?_;refine Gi (vs:=[OR b t o x y]) ?_ (q:=(⟨λs G h=>oz h t o x y⟩:EK prog F C b p 220 [OR b t o x y] (k+8) S (k+8) (iV 0) (Xt S t)));intro S1 s1 L1 EG EC DO GQ;refine Aj ?_;exact A9
 rw[Ab zO] at hR;by_cases wQ:o.op=19
 ·rw[Ad wQ] at hR;subst hR;refine Aj ?_;refine Gi (vs:=[OR b t o x y]) ?_ (q:=(⟨λs G h=>yN h t o x y (hd wQ)⟩:EK prog F C b p 221 [OR b t o x y] (k+8) S (k+7) (iV (QN S o.n0 x y).1) (QN S o.n0 x y).2));intro S1 s1 L1 EG EC DO GQ;refine Aj ?_;exact A9
 rw[Ab wQ] at hR;by_cases zP:o.op=20
 ·rw[Ad zP] at hR;subst hR;refine Aj ?_;refine Gi (vs:=[OR b t o x y]) ?_ (q:=(⟨λs G h=>oG h t o x y⟩:EK prog F C b p 222 [OR b t o x y] (k+8) S (k+8) (iV (KX S o.n0 x).1) (KX S o.n0 x).2));intro S1 s1 L1 EG EC DO GQ;refine Aj ?_;exact A9
 rw[Ab zP] at hR;by_cases zQ:o.op=21
 ·rw[Ad zQ] at hR;subst hR;refine Aj ?_;refine Gi (vs:=[OR b t o x y]) ?_ (q:=(⟨λs G h=>oH h t o x y⟩:EK prog F C b p 223 [OR b t o x y] (k+8) S (k+7) (iV (KY S x).1) (KY S x).2));intro S1 s1 L1 EG EC DO GQ;refine Aj ?_;exact A9
 rw[Ab zQ] at hR;by_cases uH:o.op=22
 ·rw[Ad uH] at hR;subst hR;refine Aj ?_;refine Gi (vs:=[OR b t o x y]) ?_ (q:=(⟨λs G h=>ji h t o x y⟩:EK prog F C b p 224 [OR b t o x y] (k+8) S (k+8) (iV (Ju S x).1) (Ju S x).2));intro S1 s1 L1 EG EC DO GQ;refine Aj ?_;exact A9
 rw[Ab uH] at hR;by_cases zR:o.op=23
 ·rw[Ad zR] at hR;subst hR;refine Aj ?_;refine Gi (vs:=[OR b t o x y]) ?_ (q:=(⟨λs G h=>yP h t o x y⟩:EK prog F C b p 225 [OR b t o x y] (k+8) S (k+7) (iV (QQ S o.n0 x).1) (QQ S o.n0 x).2));intro S1 s1 L1 EG EC DO GQ;refine Aj ?_;exact A9
 rw[Ab zR] at hR;subst hR;refine Aj ?_;exact A9
end
structure OU where
 op:Int
 a0:Int
 a1:Int
 a2:Int
 a3:Int
 a4:Int
 a5:Int
deriving DecidableEq
abbrev j8(c:OU):Ap:=[Be c.op,Be c.a0,Be c.a1,Be c.a2,Be c.a3,Be c.a4,Be c.a5]
abbrev qk(c:OU):Value:= .agg (toArray (j8 c))
structure ND where
 kd:Int
 co:Int
 th:Int
 cl:OU
 va:Int
 vl:Int
 st:Int
 wy:Int
 pg:Int
deriving DecidableEq
abbrev Xv(e:ND):Ap:=[iV e.kd,iV e.co,iV e.th,Be e.cl.op,Be e.cl.a0,Be e.cl.a1,Be e.cl.a2,Be e.cl.a3,Be e.cl.a4,Be e.cl.a5,Be e.va,Be e.vl,iV e.st,iV e.wy,iV e.pg]
abbrev NW(e:ND):Value:= .agg (toArray (Xv e))
abbrev PE(kb b:Nat):Bd:=(kb,.cells #[pV b] 152 (0,0))
def MU(S:KT)(core t:Int):Int×KT:=
 if core<0\/(S.K.length:Int)<=core then(3,S)
 else if t=0/\(Qu.firstQ S.Q).2=false then(19,S)
 else if MY S (if t=0 then(Qu.firstQ S.Q).1 else t)=false then(2,S)
 else if ¬(Dq S (if t=0 then(Qu.firstQ S.Q).1 else t)).st=1 then(16,S)
 else Mm S core (if t=0 then(Qu.firstQ S.Q).1 else t)
def JZ(S:KT)(e:ND):Int×KT:=
 if e.co<0\/(S.K.length:Int)<=e.co then(3,S)
 else if e.kd=6/\(e.pg<0\/512<=e.pg) then(3,S)
 else if e.kd=6 then(0,{S with K:=(B9 S.K S.W e.co e.pg).2})
 else if e.st<0\/4<=e.st\/e.wy<0\/2<=e.wy then(3,S)
 else(0,{S with K:=(nc S.K e.co e.st e.wy).2})
section
theorem Acs{n:Int}:EV prog F C b p 108 [pV p.c,.int .i64 n,pV p.m,.int .i64 pg] k S k {S with K:=(B9 S.K S.W n pg).2}:=⟨λs G h=>by obtain⟨x,hx⟩:=nD (G:=G) h n pg;exact Fn.re .refl hx λv l' ⟨h1,s',L,h2,h3,h4⟩=>⟨l',.refl,s',L,h2,h3,h4⟩⟩
theorem y3(hK:IsK F C k S p s)(kb:Nat)(hk:PE kb b∈G)(core t:Int):Fn prog 69 [pV kb,.int .i64 core,.int .i64 t] (Ax b p s S G) (KK F C b p k (iV (MU S core t).1) (MU S core t).2 G):=by
 have mr:CF b p∈Ax b p s S G:=mR λ_ h=>h;have mk:PE kb b∈Ax b p s S G:=mG (λ_ h=>h) _ hk;obtain⟨R,hR⟩: ∃R,MU S core t=R:=⟨_,rfl⟩
 rw[hR];unfold MU at hR;obtain⟨id,Vr⟩: ∃i,(if t=0 then(Qu.firstQ S.Q).1 else t)=i:=⟨_,rfl⟩
 rw[Vr] at hR;refine AN func69 ntmps69 λE=>?_;refine Aj ?_;by_cases h1:core<0
 ·rw[Ad (.inl h1)] at hR;subst hR;refine Aj ?_;exact A9
 refine Aj ?_;refine EM ?_;refine Aj ?_;refine EM ?_;refine Aj ?_;by_cases h2:(S.K.length:Int)<=core
 ·rw[Ad (.inr h2)] at hR;subst hR;refine Aj ?_;exact A9
 rw[Ab Af] at hR;refine Aj ?_;by_cases h5:t=0/\(Qu.firstQ S.Q).2=false
 ·rw[Ad h5] at hR;subst hR;obtain⟨h6,h7⟩:=h5;refine Aj ?_;refine EM ?_;refine Aj ?_;refine EM ?_;rw[h7];refine Aj ?_;exact A9
 rw[Ab h5] at hR;refine QP (α:=Unit) (λ_=>[(0,pV kb),(1,iV core),(2,iV id)]) (λ_=>Ax b p s S G) (λ_=>True) ?_ ?_
 ·by_cases h6:t=0
  ·rw[Ad h6] at Vr;have h7:(Qu.firstQ S.Q).2=true:=by simpa[h6] using h5
   refine Aj ?_;refine EM ?_;refine Aj ?_;refine EM ?_;rw[h7,Vr];refine Aj ?_;exact Ep () trivial ⟨rfl,rfl,rfl,trivial⟩ .refl
  ·rw[Ab h6] at Vr;subst Vr;refine Aj ?_;exact Ep () trivial ⟨rfl,rfl,rfl,trivial⟩ .refl
 rintro- -;refine Aj ?_;refine EM ?_;refine Aj ?_;refine EM ?_;obtain⟨u,hu⟩: ∃u,Dq S id=u:=⟨_,rfl⟩
 obtain⟨ok,Dm⟩: ∃k,(Th.findH S.T id).isSome=k:=⟨_,rfl⟩
 rw[show MY S id=ok from Dm,hu] at hR;rw[hu,Dm];refine AQ λb9=>?_;cases ok with
 |false=>rw[Ad rfl] at hR;subst hR;refine Aj ?_;exact A9
 |true=>
 rw[Ab AX] at hR;refine Aj ?_;by_cases h8:u.st=1
 case neg=>rw[Ad h8] at hR;subst hR;refine Aj ?_;exact A9
 rw[Ab (λh=>h h8)] at hR;refine Aj ?_;refine Gi ?_;intro S1 s1 L1 EG EC DO GQ;refine Aj ?_;subst hR;exact A9
theorem tA(hK:IsK F C k S p s)(kb:Nat)(hk:PE kb b∈G)(e:ND):Fn prog 71 [pV kb,NW e] (Ax b p s S G) (KK F C b p k (iV (JZ S e).1) (JZ S e).2 G):=by
 have mr:CF b p∈Ax b p s S G:=mR λ_ h=>h;have mk:PE kb b∈Ax b p s S G:=mG (λ_ h=>h) _ hk;obtain⟨R,hR⟩: ∃R,JZ S e=R:=⟨_,rfl⟩
 rw[hR];unfold JZ at hR;refine AN func71 ntmps71 λE=>?_;refine AQ λb3=>?_;by_cases h1:e.co<0
 ·rw[Ad (.inl h1)] at hR;subst hR;refine Cm [] 15 _ ?_ (hR:=(λ_ h=>h));refine BM ?_;refine Aj ?_;exact A9
 refine Cm [] 15 _ ?_ (hR:=(λ_ h=>h));refine BM ?_;refine VI ?_;refine BM ?_;refine VI ?_;refine BM ?_;refine Aj ?_;by_cases h2:(S.K.length:Int)<=e.co
 ·rw[Ad (.inr h2)] at hR;subst hR;refine Aj ?_;exact A9
 rw[Ab Af] at hR;refine Aj ?_;by_cases h3:e.kd=6
 ·by_cases h4:e.pg<0
  ·rw[Ad ⟨h3,.inl h4⟩] at hR;subst hR;refine Aj ?_;exact A9
  by_cases h5:512<=e.pg
  ·rw[Ad ⟨h3,.inr h5⟩] at hR;subst hR;refine Aj ?_;exact A9
  rw[Ab Af,Ad h3] at hR;subst hR;refine Aj ?_;refine CA (Cu [14] 0 15) ?_;refine CE ?_;refine LJ (Az (vs:=[pV p.c,.int .i64 e.co,pV p.m,.int .i64 e.pg]) rfl rfl ((Acs (k:=k) (S:=S) (n:=e.co) (pg:=e.pg)).on hK (by exact eJ))) ?_;rintro _ _ ⟨s1,L1,EC,DO,rfl⟩;refine CE ?_;refine Aj ?_;exact A9
 rw[Ab Af,Ab h3] at hR;refine Aj ?_;by_cases g1:e.st<0
 ·rw[Ad Af] at hR;subst hR;refine Aj ?_;exact A9
 by_cases g2:4<=e.st
 ·rw[Ad Af] at hR;subst hR;refine Aj ?_;exact A9
 by_cases g3:e.wy<0
 ·rw[Ad Af] at hR;subst hR;refine Aj ?_;exact A9
 by_cases g4:2<=e.wy
 ·rw[Ad Af] at hR;subst hR;refine Aj ?_;exact A9
 rw[Ab Af] at hR;subst hR;refine Aj ?_;refine CA (Cu [11] 0 12) ?_;refine CE ?_;refine MX ?_;intro S1 s1 L1 EG EC DO GQ;refine CE ?_;refine Aj ?_;exact A9
end
structure FoT where
 le:Int
 mo:Int
 wd:Bool
 at':Option Nat
deriving DecidableEq
def foP(bo bc:Nat):Option Nat->Value
 |some o=> .pointer (some ⟨bo,o,none⟩)
 |none=> .pointer (some ⟨bc,0,none⟩)
def U2(bo bc:Nat)(f:FoT):Ap:=[Be f.le,Be f.mo,if f.wd=true then .pointer none else foP bo bc f.at',if f.wd=true then foP bo bc f.at' else .pointer none]
abbrev SY(o:Nat):FoT:=⟨0,4095,false,some o⟩
abbrev Xw(o:Option Nat)(le mo:Int):FoT:=⟨le,mo,false,o⟩
abbrev y4(o:Nat):FoT:=⟨0,18446744073709551615,true,some o⟩
abbrev msF:List FoT:=[y4 8,y4 9,y4 10,y4 11]
def QV(op:Int):Option (List FoT):=
 if op=1 then some [SY 1,Xw (some 4) 0 15,Xw (some 5) 0 64,SY 2,Xw (some 6) 0 15,Xw none 1 4]
 else if op=2 then some [SY 1,SY 2,Xw (some 4) 0 7]
 else if op=3 then some [SY 1,SY 2,Xw (some 4) 0 7,y4 7]
 else if op=4\/op=5\/op=12\/op=13 then some [SY 1,SY 2]
 else if op=6\/op=9\/op=11\/op=21\/op=22 then some [SY 1]
 else if op=7 then some [SY 1,Xw (some 4) 1 64]
 else if op=8 then some [SY 1,SY 2,y4 7]
 else if op=10 then some [SY 1,SY 2,y4 7,Xw (some 4) 0 7]
 else if op=14\/op=15 then some (SY 1::Xw (some 4) 0 4096::msF)
 else if op=16 then some [SY 1,Xw (some 4) 0 4096]
 else if op=17 then some msF
 else if op=18 then some []
 else if op=19 then some [SY 1,Xw (some 4) 0 2,SY 2]
 else if op=20 then some [SY 1,Xw (some 4) 0 2]
 else if op=23 then some [SY 1,Xw (some 4) 0 7]
 else none
section
variable{bo bc o:Nat}{l:Ac}
theorem oN(l:Ac)(bo o:Nat):Fn prog 121 [.pointer (some ⟨bo,o,none⟩)] l λv l'=>v= .agg (toArray [Be 0,Be 4095,.pointer (some ⟨bo,o,none⟩),.pointer none])/\l'=l:=by refine AN func121 ntmps121 λE=>?_;refine AQ λb2=>?_;exact AU [] _ rfl .refl (Cq rfl (.head _) (As.LSub.of_all (n:=4) [Be 0,Be 4095,.pointer (some ⟨bo,o,none⟩),.pointer none] rfl) (by exact Ba)) (.drop .refl) ⟨rfl,rfl⟩
theorem oO(l:Ac)(bo o:Nat)(le mo:Int):Fn prog 122 [.pointer (some ⟨bo,o,none⟩),Be le,Be mo] l λv l'=>v= .agg (toArray [Be le,Be mo,.pointer (some ⟨bo,o,none⟩),.pointer none])/\l'=l:=by refine AN func122 ntmps122 λE=>?_;refine AQ λb6=>?_;exact AU [] _ rfl .refl (Cq rfl (.head _) (As.LSub.of_all (n:=4) [Be le,Be mo,.pointer (some ⟨bo,o,none⟩),.pointer none] rfl) (by exact Ba)) (.drop .refl) ⟨rfl,rfl⟩
theorem oP(l:Ac)(bo o:Nat):Fn prog 123 [.pointer (some ⟨bo,o,none⟩)] l λv l'=>v= .agg (toArray [Be 0,Be 18446744073709551615,.pointer none,.pointer (some ⟨bo,o,none⟩)])/\l'=l:=by refine AN func123 ntmps123 λE=>?_;refine AQ λb2=>?_;exact AU [] _ rfl .refl (Cq rfl (.head _) (As.LSub.of_all (n:=4) [Be 0,Be 18446744073709551615,.pointer none,.pointer (some ⟨bo,o,none⟩)] rfl) (by exact Ba)) (.drop .refl) ⟨rfl,rfl⟩
instance{l:Ac}{bo o:Nat}:QF prog 121 [.pointer (some ⟨bo,o,none⟩)] l (.agg (toArray [Be 0,Be 4095,.pointer (some ⟨bo,o,none⟩),.pointer none])):=⟨λl _=>oN l bo o⟩
instance{l:Ac}{bo o:Nat}{le mo:Int}:QF prog 122 [.pointer (some ⟨bo,o,none⟩),Be le,Be mo] l (.agg (toArray [Be le,Be mo,.pointer (some ⟨bo,o,none⟩),.pointer none])):=⟨λl _=>oO l bo o le mo⟩
instance{l:Ac}{bo o:Nat}:QF prog 123 [.pointer (some ⟨bo,o,none⟩)] l (.agg (toArray [Be 0,Be 18446744073709551615,.pointer none,.pointer (some ⟨bo,o,none⟩)])):=⟨λl _=>oP l bo o⟩
end
class CL(c:OU):Prop where
 op:Lt c.op
 a0:Lt c.a0
 a1:Lt c.a1
 a2:Lt c.a2
 a3:Lt c.a3
 a4:Lt c.a4
 a5:Lt c.a5
def Xx(c:OU):Bool:=if c.a1<=15/\c.a2<=64 then decide (Ar.framesD c.a1 c.a2>0) else false
theorem cW(c:OU)(hc:CL c)(l:Ac):Fn prog 81 [qk c] l λv l'=>v= .bool (Xx c)/\l'=l:=by
 obtain⟨R,hR⟩: ∃R,Xx c=R:=⟨_,rfl⟩
 rw[hR];unfold Xx at hR;have z1:(toArray (j8 c))[1+(1:Int).toNat*1]?=some (Be c.a1):=rfl;have z2:(toArray (j8 c))[1+(2:Int).toNat*1]?=some (Be c.a2):=rfl;obtain⟨u1,u2⟩:=hc.a1;obtain⟨w1,w2⟩:=hc.a2;refine AN func81 ntmps81 λE=>?_;refine AQ λb1=>?_;refine Cm [] 8 _ ?_ (hR:=(λ_ h=>h));refine BM ?_;refine Aj ?_;by_cases h1:c.a1<=15
 ·by_cases h2:c.a2<=64
  ·rw[Ad ⟨h1,h2⟩] at hR;subst hR;refine Aj ?_;refine EM ?_;refine Aj ?_;exact qr
  ·rw[Ab Af] at hR;subst hR;refine Aj ?_;exact qr
 ·rw[Ab Af] at hR;subst hR;refine Aj ?_;exact qr
instance{c:OU}[hc:CL c]{l:Ac}:QF prog 81 [qk c] l (.bool (Xx c)):=⟨λl _=>cW c hc l⟩
abbrev fnV(le mo:Int)(bp i:Nat):Value:= .agg (toArray [Be le,Be mo,.pointer (some ⟨bp,i,none⟩),.pointer none])
abbrev fwV(le mo:Int)(bp i:Nat):Value:= .agg (toArray [Be le,Be mo,.pointer none,.pointer (some ⟨bp,i,none⟩)])
theorem ZE(le mo:Int)(bp i:Nat)(cs:Array Value)(ct:TypeId)(fz:Nat×Nat)(v:Int)(l:Ac)(hm:(bp,Obj.cells cs ct fz)∈l)(hv:cs[i]?=some (iV v)):Fn prog 205 [fnV le mo bp i] l λx l'=>x= .int .u64 (IntKind.u64.wrap v)/\l'=l:=by refine AN func205 ntmps205 λE=>?_;refine AQ λb1=>?_;refine Bh (Qe rfl) ?_;refine Aj ?_;exact qr
theorem oQ(le mo:Int)(bp i:Nat)(cs:Array Value)(ct:TypeId)(fz:Nat×Nat)(v:Int)(l:Ac)(hm:(bp,Obj.cells cs ct fz)∈l)(hv:cs[i]?=some (Be v)):Fn prog 205 [fwV le mo bp i] l λx l'=>x=Be v/\l'=l:=by refine AN func205 ntmps205 λE=>?_;refine AQ λb1=>?_;exact qr
theorem ZF(le mo:Int)(bp i:Nat)(cs:Ap)(ct:TypeId)(x:Int)(hx:0<=x/\x<=1000000)(hi:i<cs.length)(l:Ac):Fn prog 83 [fnV le mo bp i,Be x] ((bp,.cells (toArray cs) ct (0,0))::l) λv l'=>v= .tuple #[]/\l'=(bp,.cells (toArray (cs.set i (iV x))) ct (0,0))::l:=by refine AN func83 ntmps83 λE=>?_;refine AQ λb2=>?_;refine M9 (Du (cs:=toArray cs) (T:=ct) (off:=i) (l':=(b2,.cells (toArray [Be le,Be mo,.pointer (some ⟨bp,i,none⟩),.pointer none]) 183 (0,0))::(bp,.cells ((toArray cs).setIfInBounds i (iV x)) ct (0,0))::l) rfl rfl rfl (by exact DY) (by simpa using hi)) rfl rfl ?_;rintro _ _ ⟨rfl,rfl⟩;refine Aj ?_;exact AU [] _ rfl .refl (by exact Ba) (.drop .refl) ⟨rfl,by rw[BB]⟩
theorem oR(le mo:Int)(bp i:Nat)(cs:Ap)(ct:TypeId)(x:Int)(hi:i<cs.length)(l:Ac):Fn prog 83 [fwV le mo bp i,Be x] ((bp,.cells (toArray cs) ct (0,0))::l) λv l'=>v= .tuple #[]/\l'=(bp,.cells (toArray (cs.set i (Be x))) ct (0,0))::l:=by refine AN func83 ntmps83 λE=>?_;refine AQ λb2=>?_;refine M9 (Du (cs:=toArray cs) (T:=ct) (off:=i) (l':=(b2,.cells (toArray [Be le,Be mo,.pointer none,.pointer (some ⟨bp,i,none⟩)]) 183 (0,0))::(bp,.cells ((toArray cs).setIfInBounds i (Be x)) ct (0,0))::l) rfl rfl rfl (by exact DY) (by simpa using hi)) rfl rfl ?_;rintro _ _ ⟨rfl,rfl⟩;refine Aj ?_;exact AU [] _ rfl .refl (by exact Ba) (.drop .refl) ⟨rfl,by rw[BB]⟩
abbrev Q6:Ap:=[Be 0,Be 0,.pointer none,.pointer none]
abbrev U3(bo i:Nat):Ap:=[Be 0,Be 18446744073709551615,.pointer none,.pointer (some ⟨bo,i,none⟩)]
abbrev CR(bo i:Nat):Ap:=[Be 0,Be 4095,.pointer (some ⟨bo,i,none⟩),.pointer none]
abbrev FS(bo i:Nat)(le mo:Int):Ap:=[Be le,Be mo,.pointer (some ⟨bo,i,none⟩),.pointer none]
abbrev IZ(gb:Nat)(cs:Ap):Bd:=(gb,.cells (toArray cs) 183 (0,0))
theorem EL(rows:List (Ap))(hr: ∀r,r∈rows->r.length=4):Instr.fill (λi=>some (i*4,4)) (toArray (List.replicate rows.length Q6).flatten) (EU 0 rows)=some (toArray rows.flatten):=by have h:=Ru (zs:=Q6) (k:=4) rfl rows [] 0 hr rfl;rw[Ag,Ag] at h;exact h
theorem C4{rows:List (Ap)}(h:rows.all (λr=>r.length==4)=true): ∀r,r∈rows->r.length=4:=λr hr=>by simpa using A5.1 h r hr
abbrev Xy(bo:Nat):List (Ap):=[U3 bo 8,U3 bo 9,U3 bo 10,U3 bo 11]
theorem QW(bo:Nat)(l:Ac):Fn prog 124 [.pointer (some ⟨bo,0,none⟩)] l λv l'=> ∃gb,(∀c,c∈l->c.1≠gb)/\v= .slice (some ⟨gb,0,none⟩) 4 4/\l'=IZ gb (Xy bo).flatten::l:=by refine AN func124 ntmps124 λE=>?_;refine Aj ?_;refine CA (Cu [20] 0 22) ?_;refine CE ?_;refine LJ (D1 (k:=4) (n:=4) (e:=183) (zs:=Q6) (cs:=(Xy bo).flatten) (pvs:=EU 0 (Xy bo)) rfl AX AX rfl (EL (Xy bo) (C4 rfl))) ?_;rintro _ _ ⟨gb,Sa,rfl,rfl⟩;refine CE ?_;refine Aj ?_;exact CT _ .refl .refl ⟨gb,Sa,rfl,rfl⟩
end Go.Proofs.YtlifcingifodfaaGreat
