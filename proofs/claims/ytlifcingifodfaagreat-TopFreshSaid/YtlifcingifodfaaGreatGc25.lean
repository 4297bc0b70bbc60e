/- Laws that the statement's proof leans on (joined out of several texts). -/
import Derived.Test.YtlifcingifodfaaGreatGc24
set_option maxHeartbeats 4000000
set_option linter.unusedVariables false
set_option linter.unusedSimpArgs false
namespace Go.Proofs.YtlifcingifodfaaGreat
open Tryz
open List(toArray)
namespace Tr
open Go.RowKit
set_option maxRecDepth 20000
theorem move_any(b:Nat)(D:DT)(lq:Ad)(hq:IsT b D lq)(a c:CO)(G:Ad):
 Fn prog 286 [.pointer (some ⟨b,0,none⟩),.agg (toArray (Ct a)),.agg (toArray (Ct c))] (lq++G) λv l'=>v= .int .i64 (moveD D a c).1/\ ∃DD,IsT b (moveD D a c).2 DD/\l'=DD++G:=by
 obtain⟨rb,m,F,all,os,es,clock,rfl,hT⟩:=hq;refine AO func286 ntmps286 λE=>?_;refine gz ?_;refine AR (C4 rfl) ?_;rintro _ _ ⟨b4,hb4,rfl,rfl⟩;refine gz ?_;refine AR (C4 rfl) ?_;rintro _ _ ⟨b5,yp,rfl,rfl⟩;have Le: ∀lq:Ad,Keep (lq++(Dv b5 c::Dv b4 a::G)) (lq++G):=λlq=>Keep.trans (.of_perm (Az lq [Dv b5 c,Dv b4 a] G)) (.drop (.drop .refl));refine Bq (Keep.of_perm (l':=lq++(Dv b5 c::Dv b4 a::G)) (Az [Dv b5 c,Dv b4 a] lq G)) ?_;have CE: ∀x,x∈lq->x∈lq++(Dv b5 c::Dv b4 a::G):=λx hx=>Ai _ hx;have zl:Dv b4 a∈lq++(Dv b5 c::Dv b4 a::G):=Aa _ (.tail _ (.head _));have jJ:Dv b5 c∈lq++(Dv b5 c::Dv b4 a::G):=Aa _ (.head _);refine gz ?_;refine Be (AL rfl rfl λl2 Lf=>of_any b rb m F all os es clock lq a hT l2 λx hx=>Lf x (CE x hx)) ?_;cases cM:blk F os a with
 |none=>rw[show moveD (Ft F os) a c=(10,Ft F os) by unfold moveD;rw[JL cM]];simp only[M1];refine gz ?_;exact Bb (l':=lq++G) (Le lq) ⟨rfl,lq,⟨rb,m,F,all,os,es,clock,rfl,hT⟩,rfl⟩
 |some p=>
  simp only[M1];refine gz ?_;refine Be (AL rfl rfl λl2 Lf=>of_any b rb m F all os es clock lq c hT l2 λx hx=>Lf x (CE x hx)) ?_;cases hbk:blk F os c with
  |some q=>rw[show moveD (Ft F os) a c=(11,Ft F os) by unfold moveD;obtain⟨A,B,_,h2⟩:=G6 cM;rw[h2];simp only;rw[M3,hbk];rfl];simp only[M1];refine gz ?_;exact Bb (l':=lq++G) (Le lq) ⟨rfl,lq,⟨rb,m,F,all,os,es,clock,rfl,hT⟩,rfl⟩
  |none=>
   rw[show moveD (Ft F os) a c=(0,(splitD a (Ft F os)).elim [] λy=>y.1++(c,y.2.1)::y.2.2) by unfold moveD;obtain⟨A,B,_,h2⟩:=G6 cM;rw[h2];simp only;rw[M3,hbk];rfl];obtain⟨A,B,rfl,h2⟩:=G6 cM;rw[h2];have Nt:=(Ip cM).2;have vb:p∈all:=hT.sub p (by simp);have I8:=J6 hbk;obtain⟨uA,uB⟩:=hT.uniq;rw[Nt] at uA uB;simp only[M1];rw[hT.eq];simp only[Ae];have hb4: ∀F':Nat->NdT,Dv b4 a∈Om F' all++(Dv b5 c::Dv b4 a::G):=λF'=>Aa _ (.tail _ (.head _));have yp: ∀F':Nat->NdT,Dv b5 c∈Om F' all++(Dv b5 c::Dv b4 a::G):=λF'=>Aa _ (.head _);refine gz ?_;refine Cn [5] 6 ([]) ?_;refine pz ?_;apply Gi (S:=[K0 b rb m]);(·exact UV);(·exact C5 (.head _));(·rfl);(·rfl);(·rfl);refine pz ?_;apply Gi (S:=[Dv b4 a]);(·exact UV);(·exact C5 (.tail _ (.tail _ (hb4 F))));(·rfl);(·rfl);(·rfl);refine pz ?_;apply Hs
   ·apply Vp (enc:=Ct) (a:=a) (es:=es) (clock:=clock) (ks:=[some .i64,some .i64])
    ·rfl
    ·rfl
    ·exact M0
    ·exact DX
   (·rfl);(·rfl);(·intro _ _ _ c hc;cases hc);(·exact λ_ _ _ x hx ha=>Dg BB hx ha)
   rintro _ _ ⟨rfl,rfl⟩;refine pz ?_;have Af6:=yp F;refine gz ?_;refine ME (l:=K0 b rb m::(m,Ic Ct (Pc a es) clock)::(Om F all++(Dv b5 c::Dv b4 a::G))) (El (b:=p) (off:=0) (cs:=toArray (F p).cells) (n:=2) rfl rfl rfl (by simp[Value.oneCell']) (.there (.there (J5 (LF {F p with sl:=c} hT.nd vb) _))) (by simp)) rfl rfl ?_;rintro _ _ ⟨rfl,rfl⟩;obtain⟨F1,hF1⟩: ∃F1,F1=upd F p {F p with sl:=c}:=⟨_,rfl⟩
   rw[<-hF1];have Af7:=yp F1;refine gz ?_;refine Cn [6] 7 ([]) ?_;refine pz ?_;apply Gi (S:=[K0 b rb m]);(·exact UV);(·exact C5 (.head _));(·rfl);(·rfl);(·rfl);refine pz ?_;apply Gi (S:=[Dv b5 c]);(·exact UV);(·exact C5 (.tail _ (.tail _ (yp F1))));(·rfl);(·rfl);(·rfl);refine pz ?_;apply Hs
   ·apply P7 (enc:=Ct) (a:=c) (es:=Pc a es) (clock:=clock) (ks:=[some .i64,some .i64])
    ·rfl
    ·rfl
    ·rfl
    ·exact M0
    ·exact DX
   (·rfl);(·rfl);(·intro _ _ _ c hc;cases hc);(·exact λ_ _ _ x hx ha=>Dg BB hx ha)
   rintro _ _ ⟨rfl,rfl⟩;refine pz ?_;refine gz ?_;have ep:F1 p={F p with sl:=c}:=by rw[hF1,DK]
   have eo: ∀q,q≠p->F1 q=F q:=λq hq=>by rw[hF1,Dk _ _ _ _ hq]
   have el: ∀q,(F1 q).nx=(F q).nx/\(F1 q).pv=(F q).pv/\(F1 q).dp=(F q).dp:=λq=>by
    by_cases e:q=p
    ·rw[e,ep];exact⟨rfl,rfl,rfl⟩
    ·rw[eo q e];exact⟨rfl,rfl,rfl⟩
   have oA: ∀q,q∈A->q≠p:=λq hq e=>hT.out.1 (e▸hq);have oB: ∀q,q∈B->q≠p:=λq hq e=>hT.out.2.1 (e▸hq);obtain⟨DD,QZ⟩: ∃DD,DD=K0 b rb m::(m,Ic Ct (Lk c (.pointer (some ⟨p,0,none⟩)) clock (Pc a es)).1 (Lk c (.pointer (some ⟨p,0,none⟩)) clock (Pc a es)).2)::Om F1 all:=⟨_,rfl⟩
   have hdA:Ft F1 A=Ft F A:=OV λq hq=>by rw[eo q (oA q hq)];exact⟨rfl,rfl⟩
   have hdB:Ft F1 B=Ft F B:=OV λq hq=>by rw[eo q (oB q hq)];exact⟨rfl,rfl⟩
   refine Bb (l':=DD++G) ?_ ⟨rfl,DD,⟨rb,m,F1,all,A++p::B,_,_,?_,⟨QZ,hT.nd,hT.rin,hT.sub,hT.ond,On hT.adj (λu _=>(el u).1) (λv _=>(el v).2.1),?_,(hT.keys.del a).set _ _,λs'=>?_⟩⟩,rfl⟩
   ·have h9:=Le DD;rw[QZ] at h9;rw[QZ];exact h9
   ·show Ft F1 (A++p::B)=Ft F A++(c,(F p).dp)::Ft F B;rw[<-hdA,<-hdB];unfold Ft;rw[Aq,AJ,ep]
   ·have h1:A.map (λq=>(F1 q).sl)=A.map (λq=>(F q).sl):=BA λq hq=>by rw[eo q (oA q hq)]
    have h2:B.map (λq=>(F1 q).sl)=B.map (λq=>(F q).sl):=BA λq hq=>by rw[eo q (oB q hq)]
    have hn:=hT.snd;rw[Aq,AJ] at hn⊢;rw[h1,h2,ep];have jz:=(AI.nodup_iff.1 hn)
    refine AI.nodup_iff.2 (AP.2 ⟨λh=>?_,(AP.1 jz).2⟩);rcases AH.1 h with h|h
    ·obtain⟨q,hq,e⟩:=Au.1 h;exact I8 q (Ai _ hq) e
    ·obtain⟨q,hq,e⟩:=Au.1 h;exact I8 q (Aa _ (.tail _ hq)) e
   ·show _=(blk F1 (A++p::B) s').map _;rw[J4,P5 hT.keys,hT.get];show(if s'=c then _ else if s'=a then none else(blk F (A++p::B) s').map _)=_;have ec:(F1 p).sl=c:=by rw[ep]
    rw[WI,WI,ec,OU (F:=F) (F':=F1) (os:=A) λq hq=>by rw[eo q (oA q hq)],OU (F:=F) (F':=F1) (os:=B) λq hq=>by rw[eo q (oB q hq)],Nt];by_cases hc:s'=c
    ·subst hc;rw[Ac rfl,Ac rfl,HU.2 λq hq=>I8 q (Ai _ hq)];rfl
    ·rw[Ab hc,Ab (show ¬c=s' from λe=>hc e.symm)];by_cases ha:s'=a
     ·subst ha;rw[Ac rfl,HU.2 uA,HU.2 uB];rfl
     ·rw[Ab ha,Ab (show ¬a=s' from λe=>ha e.symm)]
open Go.RowKit
set_option maxRecDepth 20000
theorem remove_any(b:Nat)(D:DT)(lq:Ad)(hq:IsT b D lq)(hd:SmallD D)(s:CO)(G:Ad):
 Fn prog 363 [.pointer (some ⟨b,0,none⟩),.agg (toArray (Ct s))] (lq++G) λv l'=>v= .int .i64 (removeD D s).1/\ ∃DD,IsT b (removeD D s).2 DD/\l'=DD++G:=by
 obtain⟨rb,m,F,all,os,es,clock,rfl,hT⟩:=hq;refine AO func363 ntmps363 λE=>?_;refine gz ?_;refine AR (C4 rfl) ?_;rintro _ _ ⟨b3,hb3,rfl,rfl⟩;have Le: ∀lq:Ad,Keep (lq++(Dv b3 s::G)) (lq++G):=λlq=>Keep.trans (.of_perm AI) (.drop .refl);refine Bq (Keep.of_perm (l':=lq++(Dv b3 s::G)) AI.symm) ?_;have CE: ∀c,c∈lq->c∈lq++(Dv b3 s::G):=λc hc=>Ai _ hc;have hbm:Dv b3 s∈lq++(Dv b3 s::G):=Aa _ (.head _);refine gz ?_;refine Be (AL rfl rfl λl2 Lf=>of_any b rb m F all os es clock lq s hT l2 λc hc=>Lf c (CE c hc)) ?_;cases hbk:blk F os s with
 |none=>rw[show removeD (Ft F os) s=(10,Ft F os) by unfold removeD;rw[JL hbk]];simp only[M1];refine gz ?_;exact Bb (l':=lq++G) (Le lq) ⟨rfl,lq,⟨rb,m,F,all,os,es,clock,rfl,hT⟩,rfl⟩
 |some p=>
  obtain⟨A,B,rfl,h2⟩:=G6 hbk;have Nt:=(Ip hbk).2;obtain⟨oA,oB,rA,rB,prb⟩:=hT.out;obtain⟨uA,uB⟩:=hT.uniq;have hBn:B.Nodup:=(AP.1 (By.1 (AP.1 hT.ond).2).2.1).2;obtain⟨tw,Jq⟩: ∃tw,tw=B.takeWhile λq=>decide ((F p).dp<(F q).dp):=⟨_,rfl⟩
  have vm: ∀q,q∈tw->q∈B:=λq hq=>by rw[Jq] at hq;exact(Ej _).subset hq
  have vb:p∈all:=hT.sub p (by simp);rw[show removeD (Ft F (A++p::B)) s=(0,Ft F A++Ft (M4 F tw) B) by unfold removeD;rw[h2];simp only;rw[Jq,qQ hBn]];simp only[M1];refine gz ?_;refine AR (Dn rfl rfl (VP _ _ _)) ?_;rintro v l' ⟨C1,C2,rfl,rfl⟩;refine gz ?_;refine Df (α:=Nat) (ps:=[19]) (lb:=[.pointer (some ⟨C2,0,none⟩),.pointer (some ⟨C1,0,none⟩)]) rfl (TV C1 C2 b rb m p F all (A++p::B) es clock lq hT (rb::A) B rfl) (λ_=>rfl) rfl
   (λpre l=>l=Yz C1 p::Zx C2 b::K0 b rb m::(m,Ic Ct es clock)::Om (M4 F pre) all)
   (λc pre l=>False)
   _ (Dv b3 s::G) (λpre l2 X2 hX h=>by
     subst h;refine⟨.head _,.tail _ (.head _),.tail _ (.tail _ (.head _)),λq hq=>?_⟩;have hqa:q∈all:=by
      rcases At.1 hq with rfl|hq
      ·exact hT.rin
      ·exact hT.sub q hq
     exact⟨M4 F pre q,.tail _ (.tail _ (.tail _ (.tail _ (Ai _ (Qj hqa))))),(TP F pre q).2.1,λhn=>by rw[Mu hn]⟩)
   (by rw[hT.eq,Rc (F:=F) (F':=M4 F []) λq _=>(Mu (by simp)).symm];exact .refl) rfl ?_ ?_ ?_
  ·rintro E r0 FS pre y l' T ⟨fn,tmps,Dd,rfl⟩ QY rfl DB;have hyB:y∈B:=vm y (by rw[Jq];exact DB.subset (by simp));have zn:y∈all:=hT.sub y (Aa _ (.tail _ hyB));have vk:y∉pre:=λh=>by
    have h1:(pre++[y]).Nodup:=(DB.trans (Ej _)).sublist.nodup hBn;exact(By.1 h1).2.2 y h y (by simp) rfl
   have hr:=hd _ (Au.2 ⟨y,Aa _ (.tail _ hyB),rfl⟩);simp only at hr;simp only[DU,Ae,Ag];refine gz ?_;refine CH (.there (.there (.there (.there (FH _ _ _ _ _))))) ?_;generalize hX1:(r0,Obj.loop (DN fn tmps _ _ _ Dd .busy none))::T=X1;have hmy:Ol y (F y)∈Om (M4 F pre) all++X1:=Ai _ (by have:=Qj (F:=M4 F pre) zn;rw[Mu vk] at this;exact this);refine gz ?_;have hu:=LF (F:=M4 F pre) {F y with dp:=(F y).dp-1} hT.nd zn;rw[Mu vk,gF vk] at hu;refine ME (Du (b:=y) (off:=2) (cs:=toArray (F y).cells) rfl rfl rfl (.there (.there (.there (.there (J5 hu _))))) (by simp)) rfl rfl ?_;rintro _ _ ⟨rfl,rfl⟩;refine gz ?_;rw[<-hX1];exact Cg (_::_::_::_::Om (M4 F (pre++[y])) all) .refl rfl
  ·rintro Dd xs l' rfl rfl;rw[<-Jq];simp only[Ae,Ag];obtain⟨F1,hF1⟩: ∃F1,F1=M4 F tw:=⟨_,rfl⟩
   have e1: ∀q,(F1 q).sl=(F q).sl/\(F1 q).nx=(F q).nx/\(F1 q).pv=(F q).pv:=λq=>by rw[hF1];exact TP F tw q
   have vg: ∀q,q∉tw->F1 q=F q:=λq hq=>by rw[hF1];exact Mu hq
   rw[<-hF1];refine Kf (l':=Cm Dd::K0 b rb m::(m,Ic Ct es clock)::(Om F1 all++(Dv b3 s::G))) (by exact AU) ?_;obtain⟨X,pp,hXp⟩: ∃X pp,rb::A=X++[pp]:=⟨_,_,(GU (Mg rb A)).symm⟩
   obtain⟨nn,Z,hnZ⟩: ∃nn Z,B++[rb]=nn::Z:=by cases B with|nil=>exact⟨_,_,rfl⟩|cons y Y=>exact⟨_,_,rfl⟩
   have hL:rb::(A++p::B++[rb])=X++pp::p::nn::Z:=by
    have:rb::(A++p::B++[rb])=(rb::A)++(p::(B++[rb])):=by simp
    rw[this,hXp,hnZ];simp
   have O9:=hT.adj;rw[hL] at O9;have pH:=(M2 O9).2;have hnn:(F p).nx=nn:=(M2 (X:=X++[pp]) (p:=p) (n:=nn) (Z:=Z) (by simpa using O9)).1;have fI: ∀q,q∈X++pp::p::nn::Z->q∈all:=λq hq=>by
    rw[<-hL] at hq;rcases At.1 hq with rfl|hq
    ·exact hT.rin
    ·rcases AH.1 hq with hq|hq
     ·exact hT.sub q hq
     ·rw[AE.1 hq];exact hT.rin
   have AcP:pp∈all:=fI pp (by simp);have AcQ:nn∈all:=fI nn (by simp);have jN:F1 p=F p:=vg p λh=>oB (vm p h);have vf: ∀d:Bg,Ol p (F p)∈d::K0 b rb m::(m,Ic Ct es clock)::(Om F1 all++(Dv b3 s::G)):=λd=> .tail _ (.tail _ (.tail _ (Ai _ (by have:=Qj (F:=F1) vb;rw[jN] at this;exact this))));refine gz ?_;refine Cn [18,21] 22 ([]) ?_;refine pz ?_;apply Gi (S:=[Ol p (F p)]);(·exact UV);(·exact C5 (vf _));(·rfl);(·rfl);(·rfl);refine pz ?_;apply Gi (S:=[Ol p (F p)]);(·exact UV);(·exact C5 (vf _));(·rfl);(·rfl);(·rfl);refine pz ?_;apply Gi (S:=[Ol p (F p)]);(·exact UV);(·exact C5 (vf _));(·rfl);(·rfl);(·rfl);refine pz ?_;apply Gi (S:=[Ol p (F p)]);(·exact UV);(·exact C5 (vf _));(·rfl);(·rfl);(·rfl);rw[pH,hnn];refine pz ?_;obtain⟨F2,SO⟩: ∃F2,F2=upd F1 pp {F1 pp with nx:=nn}:=⟨_,rfl⟩
   obtain⟨F3,hF3⟩: ∃F3,F3=upd F2 nn {F2 nn with pv:=pp}:=⟨_,rfl⟩
   apply Hs
   ·exact Du (b:=pp) (off:=4) (cs:=toArray (F1 pp).cells) rfl rfl rfl (.there (.there (.there (J5 (LF {F1 pp with nx:=nn} hT.nd AcP) _)))) (by simp)
   (·rfl);(·rfl);(·intro _ _ _ c hc;cases hc);(·exact λ_ _ _ x hx ha=>Dg BB hx ha)
   rintro _ _ ⟨rfl,rfl⟩;rw[<-SO];refine pz ?_;apply Hs
   ·exact Du (b:=nn) (off:=3) (cs:=toArray (F2 nn).cells) rfl rfl rfl (.there (.there (.there (J5 (LF {F2 nn with pv:=pp} hT.nd AcQ) _)))) (by simp)
   (·rfl);(·rfl);(·intro _ _ _ c hc;cases hc);(·exact λ_ _ _ x hx ha=>Dg BB hx ha)
   rintro _ _ ⟨rfl,rfl⟩;rw[<-hF3];refine pz ?_;refine gz ?_;refine Cn [5] 6 ([]) ?_;refine pz ?_;apply Gi (S:=[K0 b rb m]);(·exact UV);(·exact C5 (.tail _ (.head _)));(·rfl);(·rfl);(·rfl);refine pz ?_;apply Gi (S:=[Dv b3 s]);(·exact UV);(·exact C5 (.tail _ (.tail _ (.tail _ (Aa _ (.head _))))));(·rfl);(·rfl);(·rfl);refine pz ?_;apply Hs
   ·apply Vp (enc:=Ct) (a:=s) (es:=es) (clock:=clock) (ks:=[some .i64,some .i64])
    ·rfl
    ·rfl
    ·exact M0
    ·exact DX
   (·rfl);(·rfl);(·intro _ _ _ c hc;cases hc);(·exact λ_ _ _ x hx ha=>Dg BB hx ha)
   rintro _ _ ⟨rfl,rfl⟩;refine pz ?_;refine gz ?_;have e3: ∀q,(F3 q).sl=(F q).sl/\(F3 q).dp=(F1 q).dp:=λq=>by
    rw[<-(e1 q).1,hF3,SO];unfold upd
    split<;>split<;>simp_all
   have yn: ∀q,(F3 q).nx=if q=pp then nn else(F q).nx:=λq=>by
    rw[<-(e1 q).2.1,hF3,SO];unfold upd
    split<;>split<;>simp_all
   have yo: ∀q,(F3 q).pv=if q=nn then pp else(F q).pv:=λq=>by
    rw[<-(e1 q).2.2,hF3,SO];unfold upd
    split<;>split<;>simp_all
   have eA: ∀q,q∈A->(F3 q).sl=(F q).sl/\(F3 q).dp=(F q).dp:=λq hq=>by refine⟨(e3 q).1,?_⟩;rw[(e3 q).2,vg q λh=>?_];have hn:=(AP.1 hT.ond).2;exact(By.1 hn).2.2 q hq q (.tail _ (vm q h)) rfl
   obtain⟨DD,QZ⟩: ∃DD,DD=K0 b rb m::(m,Ic Ct (Pc s es) clock)::Om F3 all:=⟨_,rfl⟩
   refine AV [Dd] (K0 b rb m::(m,Ic Ct (Pc s es) clock)::(Om F3 all++(Dv b3 s::G))) rfl (l':=DD++G) .refl (by exact Ba) ?_ ⟨rfl,DD,⟨rb,m,F3,all,A++B,_,_,?_,⟨QZ,hT.nd,hT.rin,λq hq=>hT.sub q ?_,?_,?_,?_,hT.keys.del s,λs'=>?_⟩⟩,rfl⟩
   ·have h9:=Le DD;rw[QZ] at h9;rw[QZ];exact h9
   ·show Ft F3 (A++B)=Ft F A++Ft F1 B;have:Ft F3 (A++B)=Ft F3 A++Ft F3 B:=by unfold Ft;rw[Aq]
    rw[this,OV (F:=F) (F':=F3) (os:=A) eA,OV (F:=F1) (F':=F3) (os:=B) λq hq=>⟨by rw[(e3 q).1,(e1 q).1],(e3 q).2⟩]
   ·rcases AH.1 hq with hq|hq
    ·exact Ai _ hq
    ·exact Aa _ (.tail _ hq)
   ·exact hT.ond.sublist (List.Sublist.cons_cons _ (Ge (D8 _ _) _))
   ·have PR:rb::(A++B++[rb])=X++pp::nn::Z:=by
     have:rb::(A++B++[rb])=(rb::A)++(B++[rb]):=by simp
     rw[this,hXp,hnZ];simp
    rw[PR];refine PE O9 ?_ ?_ (λu h1=>?_) (λv h1=>?_) ?_ ?_
    ·rw[<-hL,<-Ae,List.dropLast_concat];exact hT.ond
    ·rw[<-hL,I5,By];have:=AP.1 hT.ond;exact⟨this.2,by simp,λa ha c hc e=>this.1 (by rw[AE.1 hc] at e;rw[<-e];exact ha)⟩
    ·rw[yn,Ab h1]
    ·rw[yo,Ab h1]
    ·rw[yn,Ac rfl]
    ·rw[yo,Ac rfl]
   ·rw[show(A++B).map (λq=>(F3 q).sl)=(A++B).map (λq=>(F q).sl) from BA λq _=>(e3 q).1];exact hT.snd.sublist ((Ge (D8 _ _) _).map _)
   ·show _=(blk F3 (A++B) s').map _;rw[P5 hT.keys,hT.get];show(if s'=s then none else(blk F (A++p::B) s').map _)=_;rw[OU (F:=F) (F':=F3) λq _=>(e3 q).1,WI,Nt];have ZF:blk F (A++B) s'=(blk F A s').or (blk F B s'):=by unfold blk;rw[Eh]
    rw[ZF];by_cases pM:s'=s
    ·subst pM;rw[Nt] at uA uB;rw[Ac rfl,HU.2 uA,HU.2 uB];rfl
    ·rw[Ab pM,Ab (show ¬s=s' from λe=>pM e.symm)]
  ·rintro Dd c pre l' DB h;exact h.elim
open Go.RowKit
set_option maxRecDepth 20000
section
variable{P:Program}{ro:Option Nat}{N:Nat}{fr:Fr}{R:Ad}{d:Option Nat}{ty t t2:TypeId}{pos:String}{aft:Array Edge}{g:Option (Nat×Bool)}{x y:Operand}
end
theorem swap_any(b:Nat)(D:DT)(lq:Ad)(hq:IsT b D lq)(a c:CO)(G:Ad):
 Fn prog 287 [.pointer (some ⟨b,0,none⟩),.agg (toArray (Ct a)),.agg (toArray (Ct c))] (lq++G) λv l'=>v= .int .i64 0/\ ∃DD,IsT b (swapD D a c) DD/\l'=DD++G:=by
 have MJ:=hq;obtain⟨rb,m,F,all,os,es,clock,rfl,hT⟩:=hq;refine AO func287 ntmps287 λE=>?_;refine gz ?_;refine AR (C4 rfl) ?_;rintro _ _ ⟨b4,hb4,rfl,rfl⟩;refine gz ?_;refine AR (C4 rfl) ?_;rintro _ _ ⟨b5,yp,rfl,rfl⟩;have Le: ∀lq:Ad,Keep (lq++(Dv b5 c::Dv b4 a::G)) (lq++G):=λlq=>Keep.trans (.of_perm (Az lq [Dv b5 c,Dv b4 a] G)) (.drop (.drop .refl));refine Bq (Keep.of_perm (l':=lq++(Dv b5 c::Dv b4 a::G)) (Az [Dv b5 c,Dv b4 a] lq G)) ?_;have CE: ∀x,x∈lq->x∈lq++(Dv b5 c::Dv b4 a::G):=λx hx=>Ai _ hx;have zl:Dv b4 a∈lq++(Dv b5 c::Dv b4 a::G):=Aa _ (.tail _ (.head _));have jJ:Dv b5 c∈lq++(Dv b5 c::Dv b4 a::G):=Aa _ (.head _);refine gz ?_;refine Cn [] 8 _ ?_ (hR:=(λ_ h=>h));refine pz ?_;apply EF
 ·exact AL rfl rfl λl2 Lf=>of_any b rb m F all os es clock lq a hT l2 λx hx=>Lf x (CE x hx)
 ·rfl
 ·rfl
 ·rfl
 refine pz ?_;apply EF
 ·exact AL rfl rfl λl2 Lf=>of_any b rb m F all os es clock lq c hT l2 λx hx=>Lf x (CE x hx)
 ·rfl
 ·rfl
 ·rfl
 refine pz ?_;cases hba:blk F os a with
 |none=>
  cases hbc:blk F os c with
  |none=>rw[TQ (J6 hba) (J6 hbc)];simp only[M1];refine gz ?_;exact Bb (l':=lq++G) (Le lq) ⟨rfl,lq,MJ,rfl⟩
  |some y=>simp only[M1];refine gz ?_;refine Be (lC rfl rfl) ?_;refine gz ?_;have vn:=move_any b (Ft F os) lq MJ c a (Dv b5 c::Dv b4 a::G);rw[VJ hT hbc hba,ay] at vn;refine AR (AA rfl rfl vn) ?_;rintro _ _ ⟨rfl,DD,hq',rfl⟩;refine gz ?_;exact Bb (l':=DD++G) (Le DD) ⟨rfl,DD,hq',rfl⟩
 |some x=>
  cases hbc:blk F os c with
  |none=>simp only[M1];refine gz ?_;have vn:=move_any b (Ft F os) lq MJ a c (Dv b5 c::Dv b4 a::G);rw[VJ hT hba hbc] at vn;refine AR (AA rfl rfl vn) ?_;rintro _ _ ⟨rfl,DD,hq',rfl⟩;refine gz ?_;exact Bb (l':=DD++G) (Le DD) ⟨rfl,DD,hq',rfl⟩
  |some y=>
   have QX:=Ip hba;have ZG:=Ip hbc;have o7:x∈all:=hT.sub x QX.1;have zn:y∈all:=hT.sub y ZG.1;simp only[M1];refine gz ?_;refine Be (qv rfl rfl AZ (CE _ (hT.m3 o7)) (CE _ (hT.m3 zn))) ?_;by_cases yt:a=c
   ·subst yt;rw[hba] at hbc;obtain rfl:x=y:=AX hbc;rw[AaC,show swapD (Ft F os) a a=Ft F os by unfold swapD;rw[BA λz _=>gG a z,List.map_id']];refine gz ?_;exact Bb (l':=lq++G) (Le lq) ⟨rfl,lq,MJ,rfl⟩
   ·have UJ:x≠y:=λe=>yt (by rw[<-QX.2,<-ZG.2,e]);rw[AaD UJ];refine gz ?_;refine Em (l':=K0 b rb m::Dv b5 c::Dv b4 a::(m,Ic Ct es clock)::(Om F all++G)) ?_ ?_
    ·rw[hT.eq];refine Keep.of_perm (List.Perm.cons _ ?_);exact Az ((m,Ic Ct es clock)::Om F all) [Dv b5 c,Dv b4 a] G
    obtain⟨F1,hF1⟩: ∃F1,F1=upd F x {F x with sl:=c}:=⟨_,rfl⟩
    obtain⟨F2,SO⟩: ∃F2,F2=upd F1 y {F1 y with sl:=a}:=⟨_,rfl⟩
    refine gz ?_;refine Cn [6,9] 10 ([Dv b5 c,Dv b4 a]) ?_;refine pz ?_;apply NZ
    ·exact El (b:=x) (off:=0) (cs:=toArray (F x).cells) (n:=2) rfl rfl rfl (by simp[Value.oneCell']) (.there (.there (.there (.there (J5 (LF {F x with sl:=c} hT.nd o7) _))))) (by simp)
    ·rfl
    ·rfl
    ·rintro _ _ ⟨rfl,rfl⟩;exact(Ce (by exact Mq))
    rintro _ _ ⟨rfl,rfl⟩;rw[<-hF1];refine pz ?_;apply NZ
    ·exact El (b:=y) (off:=0) (cs:=toArray (F1 y).cells) (n:=2) rfl rfl rfl (by simp[Value.oneCell']) (.there (.there (.there (.there (J5 (LF {F1 y with sl:=a} hT.nd zn) _))))) (by simp)
    ·rfl
    ·rfl
    ·rintro _ _ ⟨rfl,rfl⟩;exact(Ce (by exact Mq))
    rintro _ _ ⟨rfl,rfl⟩;rw[<-SO];refine pz ?_;obtain⟨A1,e1,B1,k1,k2,k3,k4,k5,k6⟩:=dD (v:= .pointer (some ⟨y,0,none⟩)) hT.keys (a:=a) (u:= .pointer (some ⟨x,0,none⟩)) (by rw[hT.get];show(blk F os a).map _=_;rw[hba];rfl);have Wh:=hT.keys.set a (.pointer (some ⟨y,0,none⟩));rw[k6] at Wh;obtain⟨A2,e2,B2,j1,j2,j3,j4,j5,j6⟩:=dD (v:= .pointer (some ⟨x,0,none⟩)) Wh (a:=c) (u:= .pointer (some ⟨y,0,none⟩)) (by rw[J4,Ab (λe=>yt e.symm),hT.get];show(blk F os c).map _=_;rw[hbc];rfl);have Wi:=Wh.set c (.pointer (some ⟨x,0,none⟩));rw[j6] at Wi;obtain⟨zp,hes1⟩: ∃zp,zp=(Lk a (.pointer (some ⟨y,0,none⟩)) clock es).1:=⟨_,rfl⟩
    obtain⟨zr,hes2⟩: ∃zr,zr=(Lk c (.pointer (some ⟨x,0,none⟩)) clock zp).1:=⟨_,rfl⟩
    rw[<-hes1] at k5 Wh j1 j5 Wi;rw[<-hes2] at j5 Wi;refine gz ?_;refine Cn [12,14,15,17] 18 ([K0 b rb m,Dv b5 c,Dv b4 a]) ?_;refine pz ?_;apply CS
    ·apply Rs (enc:=Ct) (a:=a) (es:=es) (clock:=clock) (ks:=[some .i64,some .i64]) (A:=A1) (e:=e1) (B:=B1) (m:=m) (l':=[])
     ·rfl
     ·rfl
     ·exact M0
     ·exact k1
     ·exact k2
     ·exact k3
     ·exact BW
    ·rfl
    ·rfl
    ·rfl
    ·rintro _ _ ⟨rfl,rfl⟩;exact(Ce (by exact Mq))
    rintro _ _ ⟨rfl,rfl⟩;refine pz ?_;apply NZ
    ·apply Pm (enc:=Ct) (es:=es) (clock:=clock) (A:=A1) (e:=e1) (B:=B1) (m:=m) (v:= .pointer (some ⟨y,0,none⟩))
     ·rfl
     ·rfl
     ·rfl
     ·exact k1
     ·exact k4
     ·rw[k5];exact DX
    ·rfl
    ·rfl
    ·rintro _ _ ⟨rfl,rfl⟩;exact(Ce (by exact Mq))
    rintro _ _ ⟨rfl,rfl⟩;refine pz ?_;apply CS
    ·apply Rs (enc:=Ct) (a:=c) (es:=zp) (clock:=clock) (ks:=[some .i64,some .i64]) (A:=A2) (e:=e2) (B:=B2) (m:=m) (l':=[])
     ·rfl
     ·rfl
     ·exact M0
     ·exact j1
     ·exact j2
     ·exact j3
     ·exact BW
    ·rfl
    ·rfl
    ·rfl
    ·rintro _ _ ⟨rfl,rfl⟩;exact(Ce (by exact Mq))
    rintro _ _ ⟨rfl,rfl⟩;refine pz ?_;apply NZ
    ·apply Pm (enc:=Ct) (es:=zp) (clock:=clock) (A:=A2) (e:=e2) (B:=B2) (m:=m) (v:= .pointer (some ⟨x,0,none⟩))
     ·rfl
     ·rfl
     ·rfl
     ·exact j1
     ·exact j4
     ·rw[j5];exact DX
    ·rfl
    ·rfl
    ·rintro _ _ ⟨rfl,rfl⟩;exact(Ce (by exact Mq))
    rintro _ _ ⟨rfl,rfl⟩;refine pz ?_;refine gz ?_;have zt:(F2 x).sl=c:=by rw[SO,Dk _ _ _ _ UJ,hF1,DK]
    have zu:(F2 y).sl=a:=by rw[SO,DK]
    have yu: ∀q,q≠x->q≠y->(F2 q).sl=(F q).sl:=λq h1 h2=>by rw[SO,Dk _ _ _ _ h2,hF1,Dk _ _ _ _ h1]
    have el: ∀q,(F2 q).nx=(F q).nx/\(F2 q).pv=(F q).pv/\(F2 q).dp=(F q).dp:=λq=>by rw[SO,hF1];unfold upd;split<;>split<;>simp_all
    have zw: ∀q r,q∈os->r∈os->(F q).sl=(F r).sl->q=r:=λq r hq hr e=>by
     obtain⟨A,B,rfl⟩:=GE hr;obtain⟨uA,uB⟩:=hT.uniq;rcases AH.1 hq with hq|hq
     ·exact absurd e (uA q hq)
     ·rcases At.1 hq with rfl|hq
      ·rfl
      ·exact absurd e (uB q hq)
    have hsw: ∀q,q∈os->((F2 q).sl,(F2 q).dp)=Mv a c ((F q).sl,(F q).dp):=λq hq=>by
     unfold Mv;by_cases h1:q=x
     ·rw[h1,zt,(el x).2.2];simp only;rw[Ac QX.2]
     ·by_cases h2:q=y
      ·rw[h2,zu,(el y).2.2];simp only;rw[Ab (by rw[ZG.2];exact λe=>yt e.symm),Ac ZG.2]
      ·rw[yu q h1 h2,(el q).2.2];simp only;rw[Ab (λe=>h1 (zw q x hq QX.1 (by rw[e,QX.2]))),Ab (λe=>h2 (zw q y hq ZG.1 (by rw[e,ZG.2])))]
    have XF: ∀s',HQ s' zr=(blk F2 os s').map λp=> .pointer (some ⟨p,0,none⟩):=λs'=>by
     rw[hes2,J4,hes1,J4,hT.get];show(if s'=c then _ else if s'=a then _ else(blk F os s').map _)=_;have huf: ∀p,p∈os->(F2 p).sl=s'->(∀q,q∈os->(F2 q).sl=s'->q=p)->blk F2 os s'=some p:=λp hp Nt hu=>by
      cases hb:blk F2 os s' with
      |none=>exact absurd Nt (J6 hb p hp)
      |some q=>rw[hu q (Ip hb).1 (Ip hb).2]
     by_cases h1:s'=c
     ·rw[Ac h1,huf x QX.1 (by rw[zt,h1]) λq hq e=>?_]
      ·rfl
      ·by_cases jj:q=x
       ·exact jj
       ·by_cases jk:q=y
        ·rw[jk,zu,h1] at e;exact absurd e yt
        ·rw[yu q jj jk,h1,<-ZG.2] at e;exact absurd (zw q y hq ZG.1 e) jk
     ·rw[Ab h1];by_cases h2:s'=a
      ·rw[Ac h2,huf y ZG.1 (by rw[zu,h2]) λq hq e=>?_]
       ·rfl
       ·by_cases jk:q=y
        ·exact jk
        ·by_cases jj:q=x
         ·rw[jj,zt,h2] at e;exact absurd e.symm yt
         ·rw[yu q jj jk,h2,<-QX.2] at e;exact absurd (zw q x hq QX.1 e) jj
      ·rw[Ab h2];cases hb:blk F os s' with
       |none=>
        rw[HU.2 λq hq e=>?_];by_cases jj:q=x
        ·rw[jj,zt] at e;exact h1 e.symm
        ·by_cases jk:q=y
         ·rw[jk,zu] at e;exact h2 e.symm
         ·rw[yu q jj jk] at e;exact J6 hb q hq e
       |some p=>
        have hp:=Ip hb;have hpx:p≠x:=λe=>h2 (by rw[<-hp.2,e,QX.2]);have hpy:p≠y:=λe=>h1 (by rw[<-hp.2,e,ZG.2]);rw[huf p hp.1 (by rw[yu p hpx hpy];exact hp.2) λq hq e=>?_];by_cases jj:q=x
        ·rw[jj,zt] at e;exact absurd e.symm h1
        ·by_cases jk:q=y
         ·rw[jk,zu] at e;exact absurd e.symm h2
         ·rw[yu q jj jk,<-hp.2] at e;exact zw q p hq hp.1 e
    have hD2:Ft F2 os=swapD (Ft F os) a c:=by unfold swapD Ft;rw[CR];exact BA λq hq=>hsw q hq
    have pQ:(os.map λq=>(F2 q).sl).Nodup:=by
     rw[D3,Cu];have hn:=hT.snd;rw[D3,Cu] at hn;refine hn.imp_of_mem λ{q r} hq hr G5 e=>G5 ?_;have h1:=hsw q hq;have h2:=hsw r hr;have e1:(Mv a c ((F q).sl,(F q).dp)).1=(Mv a c ((F r).sl,(F r).dp)).1:=by rw[<-h1,<-h2];exact e
     exact YA e1
    obtain⟨DD,QZ⟩: ∃DD,DD=K0 b rb m::(m,Ic Ct zr clock)::Om F2 all:=⟨_,rfl⟩
    refine Bb (l':=DD++G) ?_ ⟨rfl,DD,⟨rb,m,F2,all,os,zr,clock,hD2,⟨QZ,hT.nd,hT.rin,hT.sub,hT.ond,On hT.adj (λu _=>(el u).1) (λv _=>(el v).2.1),pQ,Wi,XF⟩⟩,rfl⟩;rw[QZ];simp only[Ae];exact AU
end Tr
open Go.RowKit
set_option maxRecDepth 20000
set_option maxRecDepth 20000 in
theorem drop_any(b:Nat)(D:SD)(lq:Ad)(hq:IsS b D lq)(a:Int)(G:Ad):
 Fn prog 387 [.pointer (some ⟨b,0,none⟩),.int .i64 a] (lq++G) λv l'=>v= .int .i64 (Hx D a).1/\ ∃DD,IsS b (Hx D a).2 DD/\l'=DD++G:=by
 have MJ:=hq;obtain⟨S,m,es,clock,rfl,hS⟩:=hq;have Xr:xC b m∈lq++G:=Ai _ hS.m1;have UL:(m,FU .i64 es clock)∈lq++G:=Ai _ hS.m2;refine AO func387 ntmps387 λE=>?_;obtain⟨p,n0,cap,ZI,PQ⟩:=hS.look1 a;cases hf:D6 NdS.id S a with
 |none=>
  rw[show Hx (S.map NdS.d) a=(2,S.map NdS.d) by unfold Hx;rw[Kh,hf];rfl];have hz:n0=0:=by unfold Jw at PQ;rw[Kh,hf] at PQ;simp at PQ;omega
  refine gz ?_;rw[ZI];refine gz ?_;exact Bb .refl ⟨rfl,_,MJ,rfl⟩
 |some nd=>
  obtain⟨NN,Va⟩:=Fg hf;have UI:=hS.sz nd NN;have hz:n0=nd.C.length:=by unfold Jw at PQ;rw[Kh,hf] at PQ;simp at PQ;omega
  obtain⟨nd',hf',_,KP⟩:=hS.look2 a PQ Af;rw[hf] at hf';obtain rfl:nd=nd':=AX hf';have u6:nd.blk∈lq++G:=Ai _ (hS.m3 NN);refine gz ?_;rw[KP];refine gz ?_;rw[KP];refine gz ?_;refine CF (α:=Nat) (λk=>[(0,.pointer (some ⟨b,0,none⟩)),(1,.int .i64 a),(24,nd.val),(25,.int .i64 (nd.C.length:Nat)),(26,.int .i64 k)]) (λ_=>lq++G) (λk=>k<=nd.C.length/\ ∀c,c∈nd.C.take k->c=CI) (λk=>nd.C.length-k) 0 ⟨Bm _,by simp⟩ ⟨rfl,rfl,rfl,rfl,rfl,trivial⟩ .refl ?_;rintro k ⟨hk,hz⟩;by_cases Dc:k<nd.C.length
  ·obtain⟨c,hc⟩: ∃c,nd.C[k]?=some c:=⟨_,Al Dc⟩
   obtain⟨g1,g2⟩:=WF hc;refine gz ?_;refine Be (Dt (n:=8) rfl u6 g2 g1) ?_;refine Ih λb6=>?_;refine Be (Sh (ys:=B9 CI) rfl rfl (EH c) (EH _)) ?_;rw[show BZ (B9 c) (B9 CI)=Mb c CI from rfl];cases he:Mb c CI with
   |false=>
    rw[show Hx (S.map NdS.d) a=(16,S.map NdS.d) by
     unfold Hx;rw[Kh,hf];simp only[BQ];rw[Ab λh=>by have:=A3.1 h c (A6 hc);rw[he] at this;cases this]]
    refine gz ?_;exact Bb (.drop .refl) ⟨rfl,_,MJ,rfl⟩
   |true=>
    refine gz ?_;refine BR (k+1) ⟨Af,λx hx=>?_⟩ Af ⟨rfl,rfl,rfl,rfl,rfl,trivial⟩ (.drop .refl);rw[Cf,hc] at hx;rcases AH.1 hx with hx|hx
    ·exact hz x hx
    ·have:x=c:=by simpa using hx
     rw[this];exact WD.1 he
  ·obtain rfl:k=nd.C.length:=by omega
   rw[D7] at hz;have Gv:nd.C.all (λc=>Mb c CI)=true:=A3.2 λc hc=>WD.2 (hz c hc);rw[show Hx (S.map NdS.d) a=(0,(S.map NdS.d).filter λx=>decide (x.1≠a)) by unfold Hx;rw[Kh,hf];simp only[BQ];rw[Ac Gv]]
   obtain⟨A,B,ZF,_,_⟩:=TC hf;have zx:S.filter (λx=>decide (x.id≠a))=A++B:=by rw[ZF];exact au (by rw[<-ZF];exact hS.mb.asc) Va
   refine gz ?_;rw[hS.eq];simp only[Ae];refine ME (Tf (a:=a) (es:=es) (clock:=clock) rfl rfl (.there .here)) rfl rfl ?_;rintro _ _ ⟨rfl,rfl⟩;refine gz ?_;have zg:=hS.mb.drop a;rw[zx] at zg;refine BD [] rfl (l':=(xC b m::(m,FU .i64 (Py a es) clock)::(A++B).map NdS.blk)++G) ?_ (by exact Ba) ⟨rfl,_,⟨A++B,m,_,_,by rw[<-kY,zx],rfl,zg,?_⟩,rfl⟩
   ·rw[ZF,Aq,AJ,Aq];obtain⟨X,hX⟩:=kX (A.map NdS.blk) (B.map NdS.blk) G nd.blk;exact⟨X,(((hX.cons _).cons _).trans (by show(xC b m::(m,FU .i64 (Py a es) clock)::(X++_)).Perm (X++(xC b m::(m,FU .i64 (Py a es) clock)::_));exact(Az X [xC b m,(m,FU .i64 (Py a es) clock)] _).symm))⟩
   ·intro x hx;refine hS.sz x ?_;rw[ZF];rcases AH.1 hx with hx|hx
    ·exact Ai _ hx
    ·exact Aa _ (.tail _ hx)
section
variable{P:Program}{ro:Option Nat}{N:Nat}{fr:Fr}{R l:Ad}{d:Option Nat}{ty t t2:TypeId}{pos:String}{aft:Array Edge}{g:Option (Nat×Bool)}{x y:Operand}{a b:Nat}
end
end Go.Proofs.YtlifcingifodfaaGreat
