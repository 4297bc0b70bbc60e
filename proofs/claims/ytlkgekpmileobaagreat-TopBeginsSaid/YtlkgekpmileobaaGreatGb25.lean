/- Laws that the statement's proof leans on (joined out of several texts). -/
import Derived.Test.YtlkgekpmileobaaGreatGb8
import Derived.Test.YtlkgekpmileobaaGreatGb24
import Derived.Test.YtlkgekpmileobaaGreatGb10
import Derived.Test.YtlkgekpmileobaaGreatGb18
import Derived.Test.YtlkgekpmileobaaGreatGb21
set_option linter.unusedVariables false
set_option linter.unusedSimpArgs false
namespace Go.Proofs.YtlkgekpmileobaaGreat.Tr
open Tryz
open List(toArray)
open Go.RowKit
set_option maxRecDepth 20000
set_option maxHeartbeats 400000
theorem move_any(b:Nat)(D:DT)(lq:List Ab)(hq:IsT b D lq)(a c:CC)(G:List Ab):
 Fn prog 287 [.pointer (some ⟨b,0,none⟩),.agg (toArray (Cj a)),.agg (toArray (Cj c))] (lq++G) λv l'=>v= .int .i64 (moveD D a c).1/\ ∃lq',IsT b (moveD D a c).2 lq'/\l'=lq'++G:=by
 obtain⟨rb,m,F,all,os,es,clock,rfl,hT⟩:=hq;refine AO func287 ntmps287 λE=>?_;refine gz ?_;refine AS (CR rfl) ?_;rintro _ _ ⟨b4,hb4,rfl,rfl⟩;refine gz ?_;refine AS (CR rfl) ?_;rintro _ _ ⟨b5,hb5,rfl,rfl⟩;have hk2: ∀lq:List Ab,Keep (lq++(C8 b5 c::C8 b4 a::G)) (lq++G):=λlq=>Keep.trans (.of_perm (Ay lq [C8 b5 c,C8 b4 a] G)) (.drop (.drop .refl));refine Bk (Keep.of_perm (l':=lq++(C8 b5 c::C8 b4 a::G)) (Ay [C8 b5 c,C8 b4 a] lq G)) ?_;have hsub: ∀x,x∈lq->x∈lq++(C8 b5 c::C8 b4 a::G):=λx hx=>Ai _ hx;have hm4:C8 b4 a∈lq++(C8 b5 c::C8 b4 a::G):=Aa _ (.tail _ (.head _));have hm5:C8 b5 c∈lq++(C8 b5 c::C8 b4 a::G):=Aa _ (.head _);refine gz ?_;refine Bc (AK rfl rfl λl2 hl2=>of_any b rb m F all os es clock lq a hT l2 λx hx=>hl2 x (hsub x hx)) ?_;cases hbp:blk F os a with
 |none=>rw[show moveD (ER F os) a c=(10,ER F os) by unfold moveD;rw[IL hbp]];simp only[LA];refine gz ?_;exact A8 (l':=lq++G) (hk2 lq) ⟨rfl,lq,⟨rb,m,F,all,os,es,clock,rfl,hT⟩,rfl⟩
 |some p=>
  simp only[LA];refine gz ?_;refine Bc (AK rfl rfl λl2 hl2=>of_any b rb m F all os es clock lq c hT l2 λx hx=>hl2 x (hsub x hx)) ?_;cases hbk:blk F os c with
  |some q=>rw[show moveD (ER F os) a c=(11,ER F os) by unfold moveD;obtain⟨A,B,_,h2⟩:=Gl hbp;rw[h2];simp only;rw[LC,hbk];rfl];simp only[LA];refine gz ?_;exact A8 (l':=lq++G) (hk2 lq) ⟨rfl,lq,⟨rb,m,F,all,os,es,clock,rfl,hT⟩,rfl⟩
  |none=>
   rw[show moveD (ER F os) a c=(0,(splitD a (ER F os)).elim [] λy=>y.1++(c,y.2.1)::y.2.2) by unfold moveD;obtain⟨A,B,_,h2⟩:=Gl hbp;rw[h2];simp only;rw[LC,hbk];rfl];obtain⟨A,B,rfl,h2⟩:=Gl hbp;rw[h2];have hps:=(Hr hbp).2;have hpa:p∈all:=hT.sub p (by simp);have hno:=Jb hbk;obtain⟨uA,uB⟩:=hT.uniq;rw[hps] at uA uB;simp only[LA];rw[hT.eq];simp only[Ad];have hb4: ∀F':Nat->NdT,C8 b4 a∈MU F' all++(C8 b5 c::C8 b4 a::G):=λF'=>Aa _ (.tail _ (.head _));have hb5: ∀F':Nat->NdT,C8 b5 c∈MU F' all++(C8 b5 c::C8 b4 a::G):=λF'=>Aa _ (.head _);refine gz ?_;refine Ce [5] 6 ([]) ?_;refine pz ?_;apply FD (S:=[JS b rb m]);(·exact SA);(·exact CM (.head _));(·rfl);(·rfl);(·rfl);refine pz ?_;apply FD (S:=[C8 b4 a]);(·exact SA);(·exact CM (.tail _ (.tail _ (hb4 F))));(·rfl);(·rfl);(·rfl);refine pz ?_;apply GH
   ·apply Tc (enc:=Cj) (a:=a) (es:=es) (clock:=clock) (ks:=[some .i64,some .i64])
    ·rfl
    ·rfl
    ·exact Lz
    ·exact Dw
   (·rfl);(·rfl);(·intro _ _ _ c hc;cases hc);(·exact λ_ _ _ x hx ha=>CV Bv hx ha)
   rintro _ _ ⟨rfl,rfl⟩;refine pz ?_;have hm5':=hb5 F;refine gz ?_;refine LV (l:=JS b rb m::(m,He Cj (NC a es) clock)::(MU F all++(C8 b5 c::C8 b4 a::G))) (Ee (b:=p) (off:=0) (cs:=toArray (F p).cells) (n:=2) rfl rfl rfl (by simp[Value.oneCell']) (.there (.there (Ja (Kt {F p with sl:=c} hT.nd hpa) _))) (by simp)) rfl rfl ?_;rintro _ _ ⟨rfl,rfl⟩;obtain⟨F1,hF1⟩: ∃F1,F1=upd F p {F p with sl:=c}:=⟨_,rfl⟩
   rw[<-hF1];have hm51:=hb5 F1;refine gz ?_;refine Ce [6] 7 ([]) ?_;refine pz ?_;apply FD (S:=[JS b rb m]);(·exact SA);(·exact CM (.head _));(·rfl);(·rfl);(·rfl);refine pz ?_;apply FD (S:=[C8 b5 c]);(·exact SA);(·exact CM (.tail _ (.tail _ (hb5 F1))));(·rfl);(·rfl);(·rfl);refine pz ?_;apply GH
   ·apply Oo (enc:=Cj) (a:=c) (es:=NC a es) (clock:=clock) (ks:=[some .i64,some .i64])
    ·rfl
    ·rfl
    ·rfl
    ·exact Lz
    ·exact Dw
   (·rfl);(·rfl);(·intro _ _ _ c hc;cases hc);(·exact λ_ _ _ x hx ha=>CV Bv hx ha)
   rintro _ _ ⟨rfl,rfl⟩;refine pz ?_;refine gz ?_;have ep:F1 p={F p with sl:=c}:=by rw[hF1,DB]
   have eo: ∀q,q≠p->F1 q=F q:=λq hq=>by rw[hF1,C3 _ _ _ _ hq]
   have el: ∀q,(F1 q).nx=(F q).nx/\(F1 q).pv=(F q).pv/\(F1 q).dp=(F q).dp:=λq=>by
    by_cases e:q=p
    ·rw[e,ep];exact⟨rfl,rfl,rfl⟩
    ·rw[eo q e];exact⟨rfl,rfl,rfl⟩
   have oA: ∀q,q∈A->q≠p:=λq hq e=>hT.out.1 (e▸hq);have oB: ∀q,q∈B->q≠p:=λq hq e=>hT.out.2.1 (e▸hq);obtain⟨lq',hlq'⟩: ∃lq',lq'=JS b rb m::(m,He Cj (J6 c (.pointer (some ⟨p,0,none⟩)) clock (NC a es)).1 (J6 c (.pointer (some ⟨p,0,none⟩)) clock (NC a es)).2)::MU F1 all:=⟨_,rfl⟩
   have hdA:ER F1 A=ER F A:=Nj λq hq=>by rw[eo q (oA q hq)];exact⟨rfl,rfl⟩
   have vb:ER F1 B=ER F B:=Nj λq hq=>by rw[eo q (oB q hq)];exact⟨rfl,rfl⟩
   refine A8 (l':=lq'++G) ?_ ⟨rfl,lq',⟨rb,m,F1,all,A++p::B,_,_,?_,⟨hlq',hT.nd,hT.rin,hT.sub,hT.ond,MV hT.adj (λu _=>(el u).1) (λv _=>(el v).2.1),?_,(hT.keys.del a).set _ _,λs'=>?_⟩⟩,rfl⟩
   ·have h9:=hk2 lq';rw[hlq'] at h9;rw[hlq'];exact h9
   ·show ER F1 (A++p::B)=ER F A++(c,(F p).dp)::ER F B;rw[<-hdA,<-vb];unfold ER;rw[Ap,AJ,ep]
   ·have h1:A.map (λq=>(F1 q).sl)=A.map (λq=>(F q).sl):=Bt λq hq=>by rw[eo q (oA q hq)]
    have h2:B.map (λq=>(F1 q).sl)=B.map (λq=>(F q).sl):=Bt λq hq=>by rw[eo q (oB q hq)]
    have hn:=hT.snd;rw[Ap,AJ] at hn⊢;rw[h1,h2,ep];have hn2:=(AH.nodup_iff.1 hn)
    refine AH.nodup_iff.2 (AM.2 ⟨λh=>?_,(AM.1 hn2).2⟩);rcases AF.1 h with h|h
    ·obtain⟨q,hq,e⟩:=Au.1 h;exact hno q (Ai _ hq) e
    ·obtain⟨q,hq,e⟩:=Au.1 h;exact hno q (Aa _ (.tail _ hq)) e
   ·show _=(blk F1 (A++p::B) s').map _;rw[I9,Om hT.keys,hT.get];show(if s'=c then _ else if s'=a then none else(blk F (A++p::B) s').map _)=_;have ec:(F1 p).sl=c:=by rw[ep]
    rw[Uz,Uz,ec,Ni (F:=F) (F':=F1) (os:=A) λq hq=>by rw[eo q (oA q hq)],Ni (F:=F) (F':=F1) (os:=B) λq hq=>by rw[eo q (oB q hq)],hps];by_cases hc:s'=c
    ·subst hc;rw[Ae rfl,Ae rfl,G5.2 λq hq=>hno q (Ai _ hq)];rfl
    ·rw[Ac hc,Ac (show ¬c=s' from λe=>hc e.symm)];by_cases ha:s'=a
     ·subst ha;rw[Ae rfl,G5.2 uA,G5.2 uB];rfl
     ·rw[Ac ha,Ac (show ¬a=s' from λe=>ha e.symm)]
theorem remove_any(b:Nat)(D:DT)(lq:List Ab)(hq:IsT b D lq)(hd:SmallD D)(s:CC)(G:List Ab):
 Fn prog 364 [.pointer (some ⟨b,0,none⟩),.agg (toArray (Cj s))] (lq++G) λv l'=>v= .int .i64 (removeD D s).1/\ ∃lq',IsT b (removeD D s).2 lq'/\l'=lq'++G:=by
 obtain⟨rb,m,F,all,os,es,clock,rfl,hT⟩:=hq;refine AO func364 ntmps364 λE=>?_;refine gz ?_;refine AS (CR rfl) ?_;rintro _ _ ⟨b3,hb3,rfl,rfl⟩;have hk2: ∀lq:List Ab,Keep (lq++(C8 b3 s::G)) (lq++G):=λlq=>Keep.trans (.of_perm AH) (.drop .refl);refine Bk (Keep.of_perm (l':=lq++(C8 b3 s::G)) AH.symm) ?_;have hsub: ∀c,c∈lq->c∈lq++(C8 b3 s::G):=λc hc=>Ai _ hc;have hbm:C8 b3 s∈lq++(C8 b3 s::G):=Aa _ (.head _);refine gz ?_;refine Bc (AK rfl rfl λl2 hl2=>of_any b rb m F all os es clock lq s hT l2 λc hc=>hl2 c (hsub c hc)) ?_;cases hbk:blk F os s with
 |none=>rw[show removeD (ER F os) s=(10,ER F os) by unfold removeD;rw[IL hbk]];simp only[LA];refine gz ?_;exact A8 (l':=lq++G) (hk2 lq) ⟨rfl,lq,⟨rb,m,F,all,os,es,clock,rfl,hT⟩,rfl⟩
 |some p=>
  obtain⟨A,B,rfl,h2⟩:=Gl hbk;have hps:=(Hr hbk).2;obtain⟨oA,oB,rA,rB,prb⟩:=hT.out;obtain⟨uA,uB⟩:=hT.uniq;have hBn:B.Nodup:=(AM.1 (Bs.1 (AM.1 hT.ond).2).2.1).2;obtain⟨tw,htw⟩: ∃tw,tw=B.takeWhile λq=>decide ((F p).dp<(F q).dp):=⟨_,rfl⟩
  have htwB: ∀q,q∈tw->q∈B:=λq hq=>by rw[htw] at hq;exact(E9 _).subset hq
  have hpa:p∈all:=hT.sub p (by simp);rw[show removeD (ER F (A++p::B)) s=(0,ER F A++ER (LD F tw) B) by unfold removeD;rw[h2];simp only;rw[htw,jJ hBn]];simp only[LA];refine gz ?_;refine AS (CZ rfl rfl (TF _ _ _)) ?_;rintro v l' ⟨C1,C2,rfl,rfl⟩;refine gz ?_;refine CU (α:=Nat) (ps:=[19]) (lb:=[.pointer (some ⟨C2,0,none⟩),.pointer (some ⟨C1,0,none⟩)]) rfl (RC C1 C2 b rb m p F all (A++p::B) es clock lq hT (rb::A) B rfl) (λ_=>rfl) rfl
   (λpre l=>l=V3 C1 p::W3 C2 b::JS b rb m::(m,He Cj es clock)::MU (LD F pre) all)
   (λc pre l=>False)
   _ (C8 b3 s::G) (λpre l2 X2 hX h=>by
     subst h;refine⟨.head _,.tail _ (.head _),.tail _ (.tail _ (.head _)),λq hq=>?_⟩;have hqa:q∈all:=by
      rcases Aq.1 hq with rfl|hq
      ·exact hT.rin
      ·exact hT.sub q hq
     exact⟨LD F pre q,.tail _ (.tail _ (.tail _ (.tail _ (Ai _ (OG hqa))))),(Rw F pre q).2.1,λhn=>by rw[La hn]⟩)
   (by rw[hT.eq,Ph (F:=F) (F':=LD F []) λq _=>(La (by simp)).symm];exact .refl) rfl ?_ ?_ ?_
  ·rintro E r0 rec pre y l' T ⟨fn,tmps,Dd,rfl⟩ hT0 rfl hsp;have hyB:y∈B:=htwB y (by rw[htw];exact hsp.subset (by simp));have hya:y∈all:=hT.sub y (Aa _ (.tail _ hyB));have hyp:y∉pre:=λh=>by
    have h1:(pre++[y]).Nodup:=(hsp.trans (E9 _)).sublist.nodup hBn;exact(Bs.1 h1).2.2 y h y (by simp) rfl
   have hr:=hd _ (Au.2 ⟨y,Aa _ (.tail _ hyB),rfl⟩);simp only at hr;simp only[Du,Ad,Ag];refine gz ?_;refine Cp (.there (.there (.there (.there (Fa _ _ _ _ _))))) ?_;generalize hX1:(r0,Obj.loop (Dp fn tmps _ _ _ Dd .busy none))::T=X1;have hmy:MS y (F y)∈MU (LD F pre) all++X1:=Ai _ (by have:=OG (F:=LD F pre) hya;rw[La hyp] at this;exact this);refine gz ?_;have hu:=Kt (F:=LD F pre) {F y with dp:=(F y).dp-1} hT.nd hya;rw[La hyp,aQ hyp] at hu;refine LV (C7 (b:=y) (off:=2) (cs:=toArray (F y).cells) rfl rfl rfl (.there (.there (.there (.there (Ja hu _))))) (by simp)) rfl rfl ?_;rintro _ _ ⟨rfl,rfl⟩;refine gz ?_;rw[<-hX1];exact B9 (_::_::_::_::MU (LD F (pre++[y])) all) .refl rfl
  ·rintro Dd xs l' rfl rfl;rw[<-htw];simp only[Ad,Ag];obtain⟨F1,hF1⟩: ∃F1,F1=LD F tw:=⟨_,rfl⟩
   have e1: ∀q,(F1 q).sl=(F q).sl/\(F1 q).nx=(F q).nx/\(F1 q).pv=(F q).pv:=λq=>by rw[hF1];exact Rw F tw q
   have e1o: ∀q,q∉tw->F1 q=F q:=λq hq=>by rw[hF1];exact La hq
   rw[<-hF1];refine Jh (l':=Cd Dd::JS b rb m::(m,He Cj es clock)::(MU F1 all++(C8 b3 s::G))) (by exact AR) ?_;obtain⟨X,pp,hXp⟩: ∃X pp,rb::A=X++[pp]:=⟨_,_,(Gd (KX rb A)).symm⟩
   obtain⟨nn,Z,hnZ⟩: ∃nn Z,B++[rb]=nn::Z:=by cases B with|nil=>exact⟨_,_,rfl⟩|cons y Y=>exact⟨_,_,rfl⟩
   have hL:rb::(A++p::B++[rb])=X++pp::p::nn::Z:=by
    have:rb::(A++p::B++[rb])=(rb::A)++(p::(B++[rb])):=by simp
    rw[this,hXp,hnZ];simp
   have hadj:=hT.adj;rw[hL] at hadj;have hpp:=(LB hadj).2;have hnn:(F p).nx=nn:=(LB (X:=X++[pp]) (p:=p) (n:=nn) (Z:=Z) (by simpa using hadj)).1;have hcyc: ∀q,q∈X++pp::p::nn::Z->q∈all:=λq hq=>by
    rw[<-hL] at hq;rcases Aq.1 hq with rfl|hq
    ·exact hT.rin
    ·rcases AF.1 hq with hq|hq
     ·exact hT.sub q hq
     ·rw[AA.1 hq];exact hT.rin
   have hppa:pp∈all:=hcyc pp (by simp);have hnna:nn∈all:=hcyc nn (by simp);have hp1:F1 p=F p:=e1o p λh=>oB (htwB p h);have hmp: ∀d:Ab,MS p (F p)∈d::JS b rb m::(m,He Cj es clock)::(MU F1 all++(C8 b3 s::G)):=λd=> .tail _ (.tail _ (.tail _ (Ai _ (by have:=OG (F:=F1) hpa;rw[hp1] at this;exact this))));refine gz ?_;refine Ce [18,21] 22 ([]) ?_;refine pz ?_;apply FD (S:=[MS p (F p)]);(·exact SA);(·exact CM (hmp _));(·rfl);(·rfl);(·rfl);refine pz ?_;apply FD (S:=[MS p (F p)]);(·exact SA);(·exact CM (hmp _));(·rfl);(·rfl);(·rfl);refine pz ?_;apply FD (S:=[MS p (F p)]);(·exact SA);(·exact CM (hmp _));(·rfl);(·rfl);(·rfl);refine pz ?_;apply FD (S:=[MS p (F p)]);(·exact SA);(·exact CM (hmp _));(·rfl);(·rfl);(·rfl);rw[hpp,hnn];refine pz ?_;obtain⟨F2,hF2⟩: ∃F2,F2=upd F1 pp {F1 pp with nx:=nn}:=⟨_,rfl⟩
   obtain⟨F3,hF3⟩: ∃F3,F3=upd F2 nn {F2 nn with pv:=pp}:=⟨_,rfl⟩
   apply GH
   ·exact C7 (b:=pp) (off:=4) (cs:=toArray (F1 pp).cells) rfl rfl rfl (.there (.there (.there (Ja (Kt {F1 pp with nx:=nn} hT.nd hppa) _)))) (by simp)
   (·rfl);(·rfl);(·intro _ _ _ c hc;cases hc);(·exact λ_ _ _ x hx ha=>CV Bv hx ha)
   rintro _ _ ⟨rfl,rfl⟩;rw[<-hF2];refine pz ?_;apply GH
   ·exact C7 (b:=nn) (off:=3) (cs:=toArray (F2 nn).cells) rfl rfl rfl (.there (.there (.there (Ja (Kt {F2 nn with pv:=pp} hT.nd hnna) _)))) (by simp)
   (·rfl);(·rfl);(·intro _ _ _ c hc;cases hc);(·exact λ_ _ _ x hx ha=>CV Bv hx ha)
   rintro _ _ ⟨rfl,rfl⟩;rw[<-hF3];refine pz ?_;refine gz ?_;refine Ce [5] 6 ([]) ?_;refine pz ?_;apply FD (S:=[JS b rb m]);(·exact SA);(·exact CM (.tail _ (.head _)));(·rfl);(·rfl);(·rfl);refine pz ?_;apply FD (S:=[C8 b3 s]);(·exact SA);(·exact CM (.tail _ (.tail _ (.tail _ (Aa _ (.head _))))));(·rfl);(·rfl);(·rfl);refine pz ?_;apply GH
   ·apply Tc (enc:=Cj) (a:=s) (es:=es) (clock:=clock) (ks:=[some .i64,some .i64])
    ·rfl
    ·rfl
    ·exact Lz
    ·exact Dw
   (·rfl);(·rfl);(·intro _ _ _ c hc;cases hc);(·exact λ_ _ _ x hx ha=>CV Bv hx ha)
   rintro _ _ ⟨rfl,rfl⟩;refine pz ?_;refine gz ?_;have e3: ∀q,(F3 q).sl=(F q).sl/\(F3 q).dp=(F1 q).dp:=λq=>by
    rw[<-(e1 q).1,hF3,hF2];unfold upd
    split<;>split<;>simp_all
   have e3n: ∀q,(F3 q).nx=if q=pp then nn else(F q).nx:=λq=>by
    rw[<-(e1 q).2.1,hF3,hF2];unfold upd
    split<;>split<;>simp_all
   have e3p: ∀q,(F3 q).pv=if q=nn then pp else(F q).pv:=λq=>by
    rw[<-(e1 q).2.2,hF3,hF2];unfold upd
    split<;>split<;>simp_all
   have eA: ∀q,q∈A->(F3 q).sl=(F q).sl/\(F3 q).dp=(F q).dp:=λq hq=>by refine⟨(e3 q).1,?_⟩;rw[(e3 q).2,e1o q λh=>?_];have hn:=(AM.1 hT.ond).2;exact(Bs.1 hn).2.2 q hq q (.tail _ (htwB q h)) rfl
   obtain⟨lq',hlq'⟩: ∃lq',lq'=JS b rb m::(m,He Cj (NC s es) clock)::MU F3 all:=⟨_,rfl⟩
   refine AU [Dd] (JS b rb m::(m,He Cj (NC s es) clock)::(MU F3 all++(C8 b3 s::G))) rfl (l':=lq'++G) .refl (by exact A7) ?_ ⟨rfl,lq',⟨rb,m,F3,all,A++B,_,_,?_,⟨hlq',hT.nd,hT.rin,λq hq=>hT.sub q ?_,?_,?_,?_,hT.keys.del s,λs'=>?_⟩⟩,rfl⟩
   ·have h9:=hk2 lq';rw[hlq'] at h9;rw[hlq'];exact h9
   ·show ER F3 (A++B)=ER F A++ER F1 B;have:ER F3 (A++B)=ER F3 A++ER F3 B:=by unfold ER;rw[Ap]
    rw[this,Nj (F:=F) (F':=F3) (os:=A) eA,Nj (F:=F1) (F':=F3) (os:=B) λq hq=>⟨by rw[(e3 q).1,(e1 q).1],(e3 q).2⟩]
   ·rcases AF.1 hq with hq|hq
    ·exact Ai _ hq
    ·exact Aa _ (.tail _ hq)
   ·exact hT.ond.sublist (List.Sublist.cons_cons _ (FB (DI _ _) _))
   ·have hL2:rb::(A++B++[rb])=X++pp::nn::Z:=by
     have:rb::(A++B++[rb])=(rb::A)++(B++[rb]):=by simp
     rw[this,hXp,hnZ];simp
    rw[hL2];refine N0 hadj ?_ ?_ (λu h1=>?_) (λv h1=>?_) ?_ ?_
    ·rw[<-hL,<-Ad,List.dropLast_concat];exact hT.ond
    ·rw[<-hL,Ia,Bs];have:=AM.1 hT.ond;exact⟨this.2,by simp,λa ha c hc e=>this.1 (by rw[AA.1 hc] at e;rw[<-e];exact ha)⟩
    ·rw[e3n,Ac h1]
    ·rw[e3p,Ac h1]
    ·rw[e3n,Ae rfl]
    ·rw[e3p,Ae rfl]
   ·rw[show(A++B).map (λq=>(F3 q).sl)=(A++B).map (λq=>(F q).sl) from Bt λq _=>(e3 q).1];exact hT.snd.sublist ((FB (DI _ _) _).map _)
   ·show _=(blk F3 (A++B) s').map _;rw[Om hT.keys,hT.get];show(if s'=s then none else(blk F (A++p::B) s').map _)=_;rw[Ni (F:=F) (F':=F3) λq _=>(e3 q).1,Uz,hps];have hAB:blk F (A++B) s'=(blk F A s').or (blk F B s'):=by unfold blk;rw[DP]
    rw[hAB];by_cases hss:s'=s
    ·subst hss;rw[hps] at uA uB;rw[Ae rfl,G5.2 uA,G5.2 uB];rfl
    ·rw[Ac hss,Ac (show ¬s=s' from λe=>hss e.symm)]
  ·rintro Dd c pre l' hsp h;exact h.elim
section
variable{P:Program}{ro:Option Nat}{N:Nat}{fr:Fr}{R:List Ab}{d:Option Nat}{ty t t2:TypeId}{pos:String}{aft:Array Edge}{g:Option (Nat×Bool)}{x y:Operand}
end
theorem swap_any(b:Nat)(D:DT)(lq:List Ab)(hq:IsT b D lq)(a c:CC)(G:List Ab):
 Fn prog 288 [.pointer (some ⟨b,0,none⟩),.agg (toArray (Cj a)),.agg (toArray (Cj c))] (lq++G) λv l'=>v= .int .i64 0/\ ∃lq',IsT b (swapD D a c) lq'/\l'=lq'++G:=by
 have hq0:=hq;obtain⟨rb,m,F,all,os,es,clock,rfl,hT⟩:=hq;refine AO func288 ntmps288 λE=>?_;refine gz ?_;refine AS (CR rfl) ?_;rintro _ _ ⟨b4,hb4,rfl,rfl⟩;refine gz ?_;refine AS (CR rfl) ?_;rintro _ _ ⟨b5,hb5,rfl,rfl⟩;have hk2: ∀lq:List Ab,Keep (lq++(C8 b5 c::C8 b4 a::G)) (lq++G):=λlq=>Keep.trans (.of_perm (Ay lq [C8 b5 c,C8 b4 a] G)) (.drop (.drop .refl));refine Bk (Keep.of_perm (l':=lq++(C8 b5 c::C8 b4 a::G)) (Ay [C8 b5 c,C8 b4 a] lq G)) ?_;have hsub: ∀x,x∈lq->x∈lq++(C8 b5 c::C8 b4 a::G):=λx hx=>Ai _ hx;have hm4:C8 b4 a∈lq++(C8 b5 c::C8 b4 a::G):=Aa _ (.tail _ (.head _));have hm5:C8 b5 c∈lq++(C8 b5 c::C8 b4 a::G):=Aa _ (.head _);refine gz ?_;refine Ce [] 8 _ ?_ (hR:=(λ_ h=>h));refine pz ?_;apply D7
 ·exact AK rfl rfl λl2 hl2=>of_any b rb m F all os es clock lq a hT l2 λx hx=>hl2 x (hsub x hx)
 ·rfl
 ·rfl
 ·rfl
 refine pz ?_;apply D7
 ·exact AK rfl rfl λl2 hl2=>of_any b rb m F all os es clock lq c hT l2 λx hx=>hl2 x (hsub x hx)
 ·rfl
 ·rfl
 ·rfl
 refine pz ?_;cases hba:blk F os a with
 |none=>
  cases hbc:blk F os c with
  |none=>rw[Rx (Jb hba) (Jb hbc)];simp only[LA];refine gz ?_;exact A8 (l':=lq++G) (hk2 lq) ⟨rfl,lq,hq0,rfl⟩
  |some y=>simp only[LA];refine gz ?_;refine Bc (eU rfl rfl) ?_;refine gz ?_;have hmv:=move_any b (ER F os) lq hq0 c a (C8 b5 c::C8 b4 a::G);rw[Ty hT hbc hba,XF] at hmv;refine AS (Az rfl rfl hmv) ?_;rintro _ _ ⟨rfl,lq',hq',rfl⟩;refine gz ?_;exact A8 (l':=lq'++G) (hk2 lq') ⟨rfl,lq',hq',rfl⟩
 |some x=>
  cases hbc:blk F os c with
  |none=>simp only[LA];refine gz ?_;have hmv:=move_any b (ER F os) lq hq0 a c (C8 b5 c::C8 b4 a::G);rw[Ty hT hba hbc] at hmv;refine AS (Az rfl rfl hmv) ?_;rintro _ _ ⟨rfl,lq',hq',rfl⟩;refine gz ?_;exact A8 (l':=lq'++G) (hk2 lq') ⟨rfl,lq',hq',rfl⟩
  |some y=>
   have hxs:=Hr hba;have hys:=Hr hbc;have hxa:x∈all:=hT.sub x hxs.1;have hya:y∈all:=hT.sub y hys.1;simp only[LA];refine gz ?_;refine Bc (jp rfl rfl AW (hsub _ (hT.m3 hxa)) (hsub _ (hT.m3 hya))) ?_;by_cases hac:a=c
   ·subst hac;rw[hba] at hbc;obtain rfl:x=y:=AV hbc;rw[rh,show swapD (ER F os) a a=ER F os by unfold swapD;rw[Bt λz _=>aR a z,List.map_id']];refine gz ?_;exact A8 (l':=lq++G) (hk2 lq) ⟨rfl,lq,hq0,rfl⟩
   ·have hxy:x≠y:=λe=>hac (by rw[<-hxs.2,<-hys.2,e]);rw[rk hxy];refine gz ?_;refine DQ (l':=JS b rb m::C8 b5 c::C8 b4 a::(m,He Cj es clock)::(MU F all++G)) ?_ ?_
    ·rw[hT.eq];refine Keep.of_perm (List.Perm.cons _ ?_);exact Ay ((m,He Cj es clock)::MU F all) [C8 b5 c,C8 b4 a] G
    obtain⟨F1,hF1⟩: ∃F1,F1=upd F x {F x with sl:=c}:=⟨_,rfl⟩
    obtain⟨F2,hF2⟩: ∃F2,F2=upd F1 y {F1 y with sl:=a}:=⟨_,rfl⟩
    refine gz ?_;refine Ce [6,9] 10 ([C8 b5 c,C8 b4 a]) ?_;refine pz ?_;apply Mu
    ·exact Ee (b:=x) (off:=0) (cs:=toArray (F x).cells) (n:=2) rfl rfl rfl (by simp[Value.oneCell']) (.there (.there (.there (.there (Ja (Kt {F x with sl:=c} hT.nd hxa) _))))) (by simp)
    ·rfl
    ·rfl
    ·rintro _ _ ⟨rfl,rfl⟩;exact(BZ (by exact K5))
    rintro _ _ ⟨rfl,rfl⟩;rw[<-hF1];refine pz ?_;apply Mu
    ·exact Ee (b:=y) (off:=0) (cs:=toArray (F1 y).cells) (n:=2) rfl rfl rfl (by simp[Value.oneCell']) (.there (.there (.there (.there (Ja (Kt {F1 y with sl:=a} hT.nd hya) _))))) (by simp)
    ·rfl
    ·rfl
    ·rintro _ _ ⟨rfl,rfl⟩;exact(BZ (by exact K5))
    rintro _ _ ⟨rfl,rfl⟩;rw[<-hF2];refine pz ?_;obtain⟨A1,e1,B1,k1,k2,k3,k4,k5,k6⟩:=Zk (v:= .pointer (some ⟨y,0,none⟩)) hT.keys (a:=a) (u:= .pointer (some ⟨x,0,none⟩)) (by rw[hT.get];show(blk F os a).map _=_;rw[hba];rfl);have hkeys1:=hT.keys.set a (.pointer (some ⟨y,0,none⟩));rw[k6] at hkeys1;obtain⟨A2,e2,B2,j1,j2,j3,j4,j5,j6⟩:=Zk (v:= .pointer (some ⟨x,0,none⟩)) hkeys1 (a:=c) (u:= .pointer (some ⟨y,0,none⟩)) (by rw[I9,Ac (λe=>hac e.symm),hT.get];show(blk F os c).map _=_;rw[hbc];rfl);have hkeys2:=hkeys1.set c (.pointer (some ⟨x,0,none⟩));rw[j6] at hkeys2;obtain⟨es1,hes1⟩: ∃es1,es1=(J6 a (.pointer (some ⟨y,0,none⟩)) clock es).1:=⟨_,rfl⟩
    obtain⟨es2,hes2⟩: ∃es2,es2=(J6 c (.pointer (some ⟨x,0,none⟩)) clock es1).1:=⟨_,rfl⟩
    rw[<-hes1] at k5 hkeys1 j1 j5 hkeys2;rw[<-hes2] at j5 hkeys2;refine gz ?_;refine Ce [12,14,15,17] 18 ([JS b rb m,C8 b5 c,C8 b4 a]) ?_;refine pz ?_;apply CE
    ·apply PA (enc:=Cj) (a:=a) (es:=es) (clock:=clock) (ks:=[some .i64,some .i64]) (A:=A1) (e:=e1) (B:=B1) (m:=m) (l':=[])
     ·rfl
     ·rfl
     ·exact Lz
     ·exact k1
     ·exact k2
     ·exact k3
     ·exact BO
    ·rfl
    ·rfl
    ·rfl
    ·rintro _ _ ⟨rfl,rfl⟩;exact(BZ (by exact K5))
    rintro _ _ ⟨rfl,rfl⟩;refine pz ?_;apply Mu
    ·apply NJ (enc:=Cj) (es:=es) (clock:=clock) (A:=A1) (e:=e1) (B:=B1) (m:=m) (v:= .pointer (some ⟨y,0,none⟩))
     ·rfl
     ·rfl
     ·rfl
     ·exact k1
     ·exact k4
     ·rw[k5];exact Dw
    ·rfl
    ·rfl
    ·rintro _ _ ⟨rfl,rfl⟩;exact(BZ (by exact K5))
    rintro _ _ ⟨rfl,rfl⟩;refine pz ?_;apply CE
    ·apply PA (enc:=Cj) (a:=c) (es:=es1) (clock:=clock) (ks:=[some .i64,some .i64]) (A:=A2) (e:=e2) (B:=B2) (m:=m) (l':=[])
     ·rfl
     ·rfl
     ·exact Lz
     ·exact j1
     ·exact j2
     ·exact j3
     ·exact BO
    ·rfl
    ·rfl
    ·rfl
    ·rintro _ _ ⟨rfl,rfl⟩;exact(BZ (by exact K5))
    rintro _ _ ⟨rfl,rfl⟩;refine pz ?_;apply Mu
    ·apply NJ (enc:=Cj) (es:=es1) (clock:=clock) (A:=A2) (e:=e2) (B:=B2) (m:=m) (v:= .pointer (some ⟨x,0,none⟩))
     ·rfl
     ·rfl
     ·rfl
     ·exact j1
     ·exact j4
     ·rw[j5];exact Dw
    ·rfl
    ·rfl
    ·rintro _ _ ⟨rfl,rfl⟩;exact(BZ (by exact K5))
    rintro _ _ ⟨rfl,rfl⟩;refine pz ?_;refine gz ?_;have elx:(F2 x).sl=c:=by rw[hF2,C3 _ _ _ _ hxy,hF1,DB]
    have ely:(F2 y).sl=a:=by rw[hF2,DB]
    have elo: ∀q,q≠x->q≠y->(F2 q).sl=(F q).sl:=λq h1 h2=>by rw[hF2,C3 _ _ _ _ h2,hF1,C3 _ _ _ _ h1]
    have el: ∀q,(F2 q).nx=(F q).nx/\(F2 q).pv=(F q).pv/\(F2 q).dp=(F q).dp:=λq=>by rw[hF2,hF1];unfold upd;split<;>split<;>simp_all
    have hun: ∀q r,q∈os->r∈os->(F q).sl=(F r).sl->q=r:=λq r hq hr e=>by
     obtain⟨A,B,rfl⟩:=FX hr;obtain⟨uA,uB⟩:=hT.uniq;rcases AF.1 hq with hq|hq
     ·exact absurd e (uA q hq)
     ·rcases Aq.1 hq with rfl|hq
      ·rfl
      ·exact absurd e (uB q hq)
    have hsw: ∀q,q∈os->((F2 q).sl,(F2 q).dp)=Lb a c ((F q).sl,(F q).dp):=λq hq=>by
     unfold Lb;by_cases h1:q=x
     ·rw[h1,elx,(el x).2.2];simp only;rw[Ae hxs.2]
     ·by_cases h2:q=y
      ·rw[h2,ely,(el y).2.2];simp only;rw[Ac (by rw[hys.2];exact λe=>hac e.symm),Ae hys.2]
      ·rw[elo q h1 h2,(el q).2.2];simp only;rw[Ac (λe=>h1 (hun q x hq hxs.1 (by rw[e,hxs.2]))),Ac (λe=>h2 (hun q y hq hys.1 (by rw[e,hys.2])))]
    have hgt: ∀s',GZ s' es2=(blk F2 os s').map λp=> .pointer (some ⟨p,0,none⟩):=λs'=>by
     rw[hes2,I9,hes1,I9,hT.get];show(if s'=c then _ else if s'=a then _ else(blk F os s').map _)=_;have huf: ∀p,p∈os->(F2 p).sl=s'->(∀q,q∈os->(F2 q).sl=s'->q=p)->blk F2 os s'=some p:=λp hp hps hu=>by
      cases hb:blk F2 os s' with
      |none=>exact absurd hps (Jb hb p hp)
      |some q=>rw[hu q (Hr hb).1 (Hr hb).2]
     by_cases h1:s'=c
     ·rw[Ae h1,huf x hxs.1 (by rw[elx,h1]) λq hq e=>?_]
      ·rfl
      ·by_cases hqx:q=x
       ·exact hqx
       ·by_cases hqy:q=y
        ·rw[hqy,ely,h1] at e;exact absurd e hac
        ·rw[elo q hqx hqy,h1,<-hys.2] at e;exact absurd (hun q y hq hys.1 e) hqy
     ·rw[Ac h1];by_cases h2:s'=a
      ·rw[Ae h2,huf y hys.1 (by rw[ely,h2]) λq hq e=>?_]
       ·rfl
       ·by_cases hqy:q=y
        ·exact hqy
        ·by_cases hqx:q=x
         ·rw[hqx,elx,h2] at e;exact absurd e.symm hac
         ·rw[elo q hqx hqy,h2,<-hxs.2] at e;exact absurd (hun q x hq hxs.1 e) hqx
      ·rw[Ac h2];cases hb:blk F os s' with
       |none=>
        rw[G5.2 λq hq e=>?_];by_cases hqx:q=x
        ·rw[hqx,elx] at e;exact h1 e.symm
        ·by_cases hqy:q=y
         ·rw[hqy,ely] at e;exact h2 e.symm
         ·rw[elo q hqx hqy] at e;exact Jb hb q hq e
       |some p=>
        have hp:=Hr hb;have hpx:p≠x:=λe=>h2 (by rw[<-hp.2,e,hxs.2]);have hpy:p≠y:=λe=>h1 (by rw[<-hp.2,e,hys.2]);rw[huf p hp.1 (by rw[elo p hpx hpy];exact hp.2) λq hq e=>?_];by_cases hqx:q=x
        ·rw[hqx,elx] at e;exact absurd e.symm h1
        ·by_cases hqy:q=y
         ·rw[hqy,ely] at e;exact absurd e.symm h2
         ·rw[elo q hqx hqy,<-hp.2] at e;exact hun q p hq hp.1 e
    have hD2:ER F2 os=swapD (ER F os) a c:=by unfold swapD ER;rw[CD];exact Bt λq hq=>hsw q hq
    have hsn:(os.map λq=>(F2 q).sl).Nodup:=by
     rw[Dz,Ck];have hn:=hT.snd;rw[Dz,Ck] at hn;refine hn.imp_of_mem λ{q r} hq hr hne e=>hne ?_;have h1:=hsw q hq;have h2:=hsw r hr;have e1:(Lb a c ((F q).sl,(F q).dp)).1=(Lb a c ((F r).sl,(F r).dp)).1:=by rw[<-h1,<-h2];exact e
     exact V4 e1
    obtain⟨lq',hlq'⟩: ∃lq',lq'=JS b rb m::(m,He Cj es2 clock)::MU F2 all:=⟨_,rfl⟩
    refine A8 (l':=lq'++G) ?_ ⟨rfl,lq',⟨rb,m,F2,all,os,es2,clock,hD2,⟨hlq',hT.nd,hT.rin,hT.sub,hT.ond,MV hT.adj (λu _=>(el u).1) (λv _=>(el v).2.1),hsn,hkeys2,hgt⟩⟩,rfl⟩;rw[hlq'];simp only[Ad];exact AR
end Go.Proofs.YtlkgekpmileobaaGreat.Tr
namespace Go.Proofs.YtlkgekpmileobaaGreat
open Tryz
open List(toArray)
open Go.RowKit
set_option maxRecDepth 20000
set_option maxHeartbeats 400000
set_option maxRecDepth 20000 in
theorem drop_any(b:Nat)(D:SD)(lq:List Ab)(hq:IsS b D lq)(a:Int)(G:List Ab):
 Fn prog 388 [.pointer (some ⟨b,0,none⟩),.int .i64 a] (lq++G) λv l'=>v= .int .i64 (Iz D a).1/\ ∃lq',IsS b (Iz D a).2 lq'/\l'=lq'++G:=by
 have hq0:=hq;obtain⟨S,m,es,clock,rfl,hS⟩:=hq;have hm1:xC b m∈lq++G:=Ai _ hS.m1;have hm2:(m,Fh .i64 es clock)∈lq++G:=Ai _ hS.m2;refine AO func388 ntmps388 λE=>?_;obtain⟨p,n0,cap,hlk,hn0⟩:=hS.look1 a;cases hf:DG NdS.id S a with
 |none=>
  rw[show Iz (S.map NdS.d) a=(2,S.map NdS.d) by unfold Iz;rw[Jj,hf];rfl];have hz:n0=0:=by unfold Iy at hn0;rw[Jj,hf] at hn0;simp at hn0;omega
  refine gz ?_;rw[hlk];refine gz ?_;exact A8 .refl ⟨rfl,_,hq0,rfl⟩
 |some nd=>
  obtain⟨hmem,hid⟩:=E6 hf;have hsz:=hS.sz nd hmem;have hz:n0=nd.C.length:=by unfold Iy at hn0;rw[Jj,hf] at hn0;simp at hn0;omega
  obtain⟨nd',hf',_,hnd⟩:=hS.look2 a hn0 Af;rw[hf] at hf';obtain rfl:nd=nd':=AV hf';have hmb:nd.blk∈lq++G:=Ai _ (hS.m3 hmem);refine gz ?_;rw[hnd];refine gz ?_;rw[hnd];refine gz ?_;refine Cu (α:=Nat) (λk=>[(0,.pointer (some ⟨b,0,none⟩)),(1,.int .i64 a),(24,nd.val),(25,.int .i64 (nd.C.length:Nat)),(26,.int .i64 k)]) (λ_=>lq++G) (λk=>k<=nd.C.length/\ ∀c,c∈nd.C.take k->c=Cv) (λk=>nd.C.length-k) 0 ⟨Bf _,by simp⟩ ⟨rfl,rfl,rfl,rfl,rfl,trivial⟩ .refl ?_;rintro k ⟨hk,hz⟩;by_cases hlt:k<nd.C.length
  ·obtain⟨c,hc⟩: ∃c,nd.C[k]?=some c:=⟨_,Am hlt⟩
   obtain⟨g1,g2⟩:=Uw hc;refine gz ?_;refine Bc (Dm (n:=8) rfl hmb g2 g1) ?_;refine Hj λb6=>?_;refine Bc (Qe (ys:=BR Cv) rfl rfl (D9 c) (D9 _)) ?_;rw[show BQ (BR c) (BR Cv)=KR c Cv from rfl];cases he:KR c Cv with
   |false=>
    rw[show Iz (S.map NdS.d) a=(16,S.map NdS.d) by
     unfold Iz;rw[Jj,hf];simp only[BH];rw[Ac λh=>by have:=A6.1 h c (A9 hc);rw[he] at this;cases this]]
    refine gz ?_;exact A8 (.drop .refl) ⟨rfl,_,hq0,rfl⟩
   |true=>
    refine gz ?_;refine BS (k+1) ⟨Af,λx hx=>?_⟩ Af ⟨rfl,rfl,rfl,rfl,rfl,trivial⟩ (.drop .refl);rw[B0,hc] at hx;rcases AF.1 hx with hx|hx
    ·exact hz x hx
    ·have:x=c:=by simpa using hx
     rw[this];exact Uu.1 he
  ·obtain rfl:k=nd.C.length:=by omega
   rw[D1] at hz;have hall:nd.C.all (λc=>KR c Cv)=true:=A6.2 λc hc=>Uu.2 (hz c hc);rw[show Iz (S.map NdS.d) a=(0,(S.map NdS.d).filter λx=>decide (x.1≠a)) by unfold Iz;rw[Jj,hf];simp only[BH];rw[Ae hall]]
   obtain⟨A,B,hAB,_,_⟩:=Rl hf;have hfil:S.filter (λx=>decide (x.id≠a))=A++B:=by rw[hAB];exact XC (by rw[<-hAB];exact hS.mb.asc) hid
   refine gz ?_;rw[hS.eq];simp only[Ad];refine LV (QZ (a:=a) (es:=es) (clock:=clock) rfl rfl (.there .here)) rfl rfl ?_;rintro _ _ ⟨rfl,rfl⟩;refine gz ?_;have hMB:=hS.mb.drop a;rw[hfil] at hMB;refine By [] rfl (l':=(xC b m::(m,Fh .i64 (NT a es) clock)::(A++B).map NdS.blk)++G) ?_ (by exact A7) ⟨rfl,_,⟨A++B,m,_,_,by rw[<-ei,hfil],rfl,hMB,?_⟩,rfl⟩
   ·rw[hAB,Ap,AJ,Ap];obtain⟨X,hX⟩:=eh (A.map NdS.blk) (B.map NdS.blk) G nd.blk;exact⟨X,(((hX.cons _).cons _).trans (by show(xC b m::(m,Fh .i64 (NT a es) clock)::(X++_)).Perm (X++(xC b m::(m,Fh .i64 (NT a es) clock)::_));exact(Ay X [xC b m,(m,Fh .i64 (NT a es) clock)] _).symm))⟩
   ·intro x hx;refine hS.sz x ?_;rw[hAB];rcases AF.1 hx with hx|hx
    ·exact Ai _ hx
    ·exact Aa _ (.tail _ hx)
section
variable{P:Program}{ro:Option Nat}{N:Nat}{fr:Fr}{R l:List Ab}{d:Option Nat}{ty t t2:TypeId}{pos:String}{aft:Array Edge}{g:Option (Nat×Bool)}{x y:Operand}{a b:Nat}
end
end Go.Proofs.YtlkgekpmileobaaGreat
