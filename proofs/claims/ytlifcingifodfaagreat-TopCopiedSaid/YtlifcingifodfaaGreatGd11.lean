/- Laws. -/
import Derived.Test.YtlifcingifodfaaGreatGd10
set_option maxHeartbeats 4000000
set_option linter.all false
namespace Go.Proofs.YtlifcingifodfaaGreat
open Tryz
open List renaming toArray→τ
variable{S:Ar.ArT}{c:CapT}{left:Int}{D:SD}{Bv f a:Nat}{A B:Ac}
namespace Tr
open Go.RowKit
set_option maxRecDepth 20000
theorem remove_any(b:Nat)(D:DT)(lq:Ac)(hq:IsT b D lq)(hd:SmallD D)(s:SlotT)(G:Ac):
 Fn prog 363 [π b,.agg (τ (Cd s))] (lq++G) λv l'=>v= ι (removeD D s).1/\ ∃DI,IsT b (removeD D s).2 DI/\l'=DI++G:=by
 obtain⟨rb,m,F,all,os,es,clock,rfl,hT⟩:=hq;refine AO func363 ntmps363 λE=>?_;refine gz ?_;refine AP (Cw rfl) ?_;rintro _ _ ⟨b3,hb3,rfl,rfl⟩;have LH: ∀lq:Ac,Keep (lq++(Dz b3 s::G)) (lq++G):=λlq=>Keep.trans (.of_perm AJ) ζ;refine Bt (Keep.of_perm (l':=lq++(Dz b3 s::G)) AJ.symm) ?_;have CJ: ∀c,c∈lq->c∈lq++(Dz b3 s::G):=λc hc=>Ai _ hc;have hbm:Dz b3 s∈lq++(Dz b3 s::G):=Aa _ (.head _);refine gz ?_;refine Be (AI rfl rfl λl2 JP=>of_any b rb m F all os es clock lq s hT l2 λc hc=>JP c (CJ c hc)) ?_;cases hbk:blk F os s with
 |none=>rw[show removeD (FH F os) s=(10,FH F os) by unfold removeD;rw[J7 hbk]];simp only[NB];refine gz ?_;exact Bc (l':=lq++G) (LH lq) ⟨rfl,lq,⟨rb,m,F,all,os,es,clock,rfl,hT⟩,rfl⟩
 |some p=>
  obtain⟨A,B,rfl,h2⟩:=Hn hbk;have N3:=(IJ hbk).2;obtain⟨oA,oB,rA,rB,prb⟩:=hT.out;obtain⟨uA,uB⟩:=hT.uniq;have hBn:B.Nodup:=(AQ.1 (BC.1 (AQ.1 hT.ond).2).2.1).2;obtain⟨tw,JL⟩: ∃tw,tw=B.takeWhile λq=>decide ((F p).dp<(F q).dp):=⟨_,rfl⟩
  have x9: ∀q,q∈tw->q∈B:=λq hq=>by rw[JL] at hq;exact(Es _).subset hq
  have xY:p∈all:=hT.sub p (by simp);rw[show removeD (FH F (A++p::B)) s=(0,FH F A++FH (NE F tw) B) by unfold removeD;rw[h2];simp only;rw[JL,sZ hBn]];simp only[NB];refine gz ?_;refine AP (Dr rfl rfl (Wy _ _ _)) ?_;rintro v l' ⟨C1,C2,rfl,rfl⟩;refine gz ?_;refine Dj (α:=Nat) (ps:=[19]) (lb:=[π C2,π C1]) rfl (Uv C1 C2 b rb m p F all (A++p::B) es clock lq hT (rb::A) B rfl) (λ_=>rfl) rfl
   (λpre l=>l=Zv C1 p::aF C2 b::Lu b rb m::(m,Ir Cd es clock)::OV (NE F pre) all)
   (λc pre l=>False)
   _ (Dz b3 s::G) (λpre l2 X2 hX h=>by
     subst h;refine⟨.head _,.tail _ (.head _),.tail _ ν,λq hq=>?_⟩;have hqa:q∈all:=by
      rcases Au.1 hq with rfl|hq
      ·exact hT.rin
      ·exact hT.sub q hq
     exact⟨NE F pre q,.tail _ (.tail _ (.tail _ (.tail _ (Ai _ (Q3 hqa))))),(Up F pre q).2.1,λhn=>by rw[MZ hn]⟩)
   (by rw[hT.eq,RQ (F:=F) (F':=NE F []) λq _=>(MZ (by simp)).symm];exact .refl) rfl ?_ ?_ ?_
  ·rintro E r0 Gb pre y l' T ⟨fn,tmps,Dd,rfl⟩ Ry rfl DG;have hyB:y∈B:=x9 y (by rw[JL];exact DG.subset (by simp));have hya:y∈all:=hT.sub y (Aa _ (.tail _ hyB));have x8:y∉pre:=λh=>by
    have h1:(pre++[y]).Nodup:=(DG.trans (Es _)).sublist.nodup hBn;exact(BC.1 h1).2.2 y h y (by simp) rfl
   have hr:=hd _ (Ax.2 ⟨y,Aa _ (.tail _ hyB),rfl⟩);simp only at hr;simp only[DY,Ae,Ag];refine gz ?_;refine CP (.there (.there (.there (.there (FX _ _ _ _ _))))) ?_;generalize hX1:(r0,Obj.loop (DV fn tmps _ _ _ Dd .busy none))::T=X1;have hmy:OU y (F y)∈OV (NE F pre) all++X1:=Ai _ (by have:=Q3 (F:=NE F pre) hya;rw[MZ x8] at this;exact this);refine gz ?_;have hu:=Mg (F:=NE F pre) {F y with dp:=(F y).dp-1} hT.nd hya;rw[MZ x8,i7 x8] at hu;refine Nk (Dy (b:=y) (off:=2) (cs:=τ (F y).cells) rfl rfl rfl (.there (.there (.there (.there (Kp hu _))))) (by simp)) rfl rfl ?_;rintro _ _ ⟨rfl,rfl⟩;refine gz ?_;rw[<-hX1];exact Cn (_::_::_::_::OV (NE F (pre++[y])) all) .refl rfl
  ·rintro Dd xs l' rfl rfl;rw[<-JL];simp only[Ae,Ag];obtain⟨F1,hF1⟩: ∃F1,F1=NE F tw:=⟨_,rfl⟩
   have e1: ∀q,(F1 q).sl=(F q).sl/\(F1 q).nx=(F q).nx/\(F1 q).pv=(F q).pv:=λq=>by rw[hF1];exact Up F tw q
   have x5: ∀q,q∉tw->F1 q=F q:=λq hq=>by rw[hF1];exact MZ hq
   rw[<-hF1];refine KG (l':=Cv Dd::Lu b rb m::(m,Ir Cd es clock)::(OV F1 all++(Dz b3 s::G))) AY ?_;obtain⟨X,pp,hXp⟩: ∃X pp,rb::A=X++[pp]:=⟨_,_,(Hf (MI rb A)).symm⟩
   obtain⟨nn,Z,hnZ⟩: ∃nn Z,B++[rb]=nn::Z:=by cases B with|nil=>exact⟨_,_,rfl⟩|cons y Y=>exact⟨_,_,rfl⟩
   have hL:rb::(A++p::B++[rb])=X++pp::p::nn::Z:=by
    have:rb::(A++p::B++[rb])=(rb::A)++(p::(B++[rb])):=by simp
    rw[this,hXp,hnZ];simp
   have PC:=hT.adj;rw[hL] at PC;have rF:=(NC PC).2;have hnn:(F p).nx=nn:=(NC (X:=X++[pp]) (p:=p) (n:=nn) (Z:=Z) (by simpa using PC)).1;have iq: ∀q,q∈X++pp::p::nn::Z->q∈all:=λq hq=>by
    rw[<-hL] at hq;rcases Au.1 hq with rfl|hq
    ·exact hT.rin
    ·rcases AB.1 hq with hq|hq
     ·exact hT.sub q hq
     ·rw[Ay.1 hq];exact hT.rin
   have Ae5:pp∈all:=iq pp (by simp);have Ae6:nn∈all:=iq nn (by simp);have it:F1 p=F p:=x5 p λh=>oB (x9 p h);have xZ: ∀d:Bh,OU p (F p)∈d::Lu b rb m::(m,Ir Cd es clock)::(OV F1 all++(Dz b3 s::G)):=λd=> .tail _ (.tail _ (.tail _ (Ai _ (by have:=Q3 (F:=F1) xY;rw[it] at this;exact this))));refine gz ?_;refine Ct [18,21] 22 ([]) ?_;refine pz ?_;apply Gy (S:=[OU p (F p)]);(·exact VE);(·exact Da (xZ _));(·rfl);(·rfl);(·rfl);refine pz ?_;apply Gy (S:=[OU p (F p)]);(·exact VE);(·exact Da (xZ _));(·rfl);(·rfl);(·rfl);refine pz ?_;apply Gy (S:=[OU p (F p)]);(·exact VE);(·exact Da (xZ _));(·rfl);(·rfl);(·rfl);refine pz ?_;apply Gy (S:=[OU p (F p)]);(·exact VE);(·exact Da (xZ _));(·rfl);(·rfl);(·rfl);rw[rF,hnn];refine pz ?_;obtain⟨F2,Rz⟩: ∃F2,F2=upd F1 pp {F1 pp with nx:=nn}:=⟨_,rfl⟩
   obtain⟨F3,hF3⟩: ∃F3,F3=upd F2 nn {F2 nn with pv:=pp}:=⟨_,rfl⟩
   apply HL
   ·exact Dy (b:=pp) (off:=4) (cs:=τ (F1 pp).cells) rfl rfl rfl (.there (.there (.there (Kp (Mg {F1 pp with nx:=nn} hT.nd Ae5) _)))) (by simp)
   (·rfl);(·rfl);(·intro _ _ _ c hc;cases hc);(·exact λ_ _ _ x hx ha=>Dk Bu hx ha)
   rintro _ _ ⟨rfl,rfl⟩;rw[<-Rz];refine pz ?_;apply HL
   ·exact Dy (b:=nn) (off:=3) (cs:=τ (F2 nn).cells) rfl rfl rfl (.there (.there (.there (Kp (Mg {F2 nn with pv:=pp} hT.nd Ae6) _)))) (by simp)
   (·rfl);(·rfl);(·intro _ _ _ c hc;cases hc);(·exact λ_ _ _ x hx ha=>Dk Bu hx ha)
   rintro _ _ ⟨rfl,rfl⟩;rw[<-hF3];refine pz ?_;refine gz ?_;refine Ct [5] 6 ([]) ?_;refine pz ?_;apply Gy (S:=[Lu b rb m]);(·exact VE);(·exact Da ν);(·rfl);(·rfl);(·rfl);refine pz ?_;apply Gy (S:=[Dz b3 s]);(·exact VE);(·exact Da (.tail _ (.tail _ (.tail _ (Aa _ (.head _))))));(·rfl);(·rfl);(·rfl);refine pz ?_;apply HL
   ·apply V8 (enc:=Cd) (a:=s) (es:=es) (clock:=clock) (ks:=[some .i64,some .i64])
    ·rfl
    ·rfl
    ·exact NA
    ·exact D1
   (·rfl);(·rfl);(·intro _ _ _ c hc;cases hc);(·exact λ_ _ _ x hx ha=>Dk Bu hx ha)
   rintro _ _ ⟨rfl,rfl⟩;refine pz ?_;refine gz ?_;have e3: ∀q,(F3 q).sl=(F q).sl/\(F3 q).dp=(F1 q).dp:=λq=>by
    rw[<-(e1 q).1,hF3,Rz];unfold upd
    split<;>split<;>simp_all
   have e3n: ∀q,(F3 q).nx=if q=pp then nn else(F q).nx:=λq=>by
    rw[<-(e1 q).2.1,hF3,Rz];unfold upd
    split<;>split<;>simp_all
   have e3p: ∀q,(F3 q).pv=if q=nn then pp else(F q).pv:=λq=>by
    rw[<-(e1 q).2.2,hF3,Rz];unfold upd
    split<;>split<;>simp_all
   have eA: ∀q,q∈A->(F3 q).sl=(F q).sl/\(F3 q).dp=(F q).dp:=λq hq=>by refine⟨(e3 q).1,?_⟩;rw[(e3 q).2,x5 q λh=>?_];have hn:=(AQ.1 hT.ond).2;exact(BC.1 hn).2.2 q hq q (.tail _ (x9 q h)) rfl
   obtain⟨DI,RA⟩: ∃DI,DI=Lu b rb m::(m,Ir Cd (PF s es) clock)::OV F3 all:=⟨_,rfl⟩
   refine AU [Dd] (Lu b rb m::(m,Ir Cd (PF s es) clock)::(OV F3 all++(Dz b3 s::G))) rfl (l':=DI++G) .refl Ba ?_ ⟨rfl,DI,⟨rb,m,F3,all,A++B,_,_,?_,⟨RA,hT.nd,hT.rin,λq hq=>hT.sub q ?_,?_,?_,?_,hT.keys.del s,λs'=>?_⟩⟩,rfl⟩
   ·have h9:=LH DI;rw[RA] at h9;rw[RA];exact h9
   ·show FH F3 (A++B)=FH F A++FH F1 B;have:FH F3 (A++B)=FH F3 A++FH F3 B:=by unfold FH;rw[At]
    rw[this,Po (F:=F) (F':=F3) (os:=A) eA,Po (F:=F1) (F':=F3) (os:=B) λq hq=>⟨by rw[(e3 q).1,(e1 q).1],(e3 q).2⟩]
   ·rcases AB.1 hq with hq|hq
    ·exact Ai _ hq
    ·exact Aa _ (.tail _ hq)
   ·exact hT.ond.sublist (List.Sublist.cons_cons _ (Gu (Ec _ _) _))
   ·have Qr:rb::(A++B++[rb])=X++pp::nn::Z:=by
     have:rb::(A++B++[rb])=(rb::A)++(B++[rb]):=by simp
     rw[this,hXp,hnZ];simp
    rw[Qr];refine Qc PC ?_ ?_ (λu h1=>?_) (λv h1=>?_) ?_ ?_
    ·rw[<-hL,<-Ae,List.dropLast_concat];exact hT.ond
    ·rw[<-hL,Jo,BC];have:=AQ.1 hT.ond;exact⟨this.2,by simp,λa ha c hc e=>this.1 (by rw[Ay.1 hc] at e;rw[<-e];exact ha)⟩
    ·rw[e3n,Ab h1]
    ·rw[e3p,Ab h1]
    ·rw[e3n,Ad rfl]
    ·rw[e3p,Ad rfl]
   ·rw[show(A++B).map (λq=>(F3 q).sl)=(A++B).map (λq=>(F q).sl) from Bs λq _=>(e3 q).1];exact hT.snd.sublist ((Gu (Ec _ _) _).map _)
   ·show _=(blk F3 (A++B) s').map _;rw[QJ hT.keys,hT.get];show(if s'=s then none else(blk F (A++p::B) s').map _)=_;rw[Pn (F:=F) (F':=F3) λq _=>(e3 q).1,XA,N3];have aL:blk F (A++B) s'=(blk F A s').or (blk F B s'):=by unfold blk;rw[Ek]
    rw[aL];by_cases rK:s'=s
    ·subst rK;rw[N3] at uA uB;rw[Ad rfl,Ik.2 uA,Ik.2 uB];rfl
    ·rw[Ab rK,Ab (show ¬s=s' from λe=>rK e.symm)]
  ·rintro Dd c pre l' DG h;exact h.elim
open Go.RowKit
set_option maxRecDepth 20000
section
variable{P:Program}{ro:Option Nat}{N:Nat}{fr:Fr}{R:Ac}{d:Option Nat}{ty t t2:TypeId}{pos:String}{aft:Array Edge}{g:Option (Nat×Bool)}{x y:Operand}
end
theorem swap_any(b:Nat)(D:DT)(lq:Ac)(hq:IsT b D lq)(a c:SlotT)(G:Ac):
 Fn prog 287 [π b,.agg (τ (Cd a)),.agg (τ (Cd c))] (lq++G) λv l'=>v= ι 0/\ ∃DI,IsT b (swapD D a c) DI/\l'=DI++G:=by
 have Nf:=hq;obtain⟨rb,m,F,all,os,es,clock,rfl,hT⟩:=hq;refine AO func287 ntmps287 λE=>?_;refine gz ?_;refine AP (Cw rfl) ?_;rintro _ _ ⟨b4,hb4,rfl,rfl⟩;refine gz ?_;refine AP (Cw rfl) ?_;rintro _ _ ⟨b5,hb5,rfl,rfl⟩;have LH: ∀lq:Ac,Keep (lq++(Dz b5 c::Dz b4 a::G)) (lq++G):=λlq=>Keep.trans (.of_perm (AC lq [Dz b5 c,Dz b4 a] G)) θ;refine Bt (Keep.of_perm (l':=lq++(Dz b5 c::Dz b4 a::G)) (AC [Dz b5 c,Dz b4 a] lq G)) ?_;have CJ: ∀x,x∈lq->x∈lq++(Dz b5 c::Dz b4 a::G):=λx hx=>Ai _ hx;have hm4:Dz b4 a∈lq++(Dz b5 c::Dz b4 a::G):=Aa _ ν;have lG:Dz b5 c∈lq++(Dz b5 c::Dz b4 a::G):=Aa _ (.head _);refine gz ?_;refine Ct [] 8 _ ?_ (hR:=(λ_ h=>h));refine pz ?_;apply EI
 ·exact AI rfl rfl λl2 JP=>of_any b rb m F all os es clock lq a hT l2 λx hx=>JP x (CJ x hx)
 ·rfl
 ·rfl
 ·rfl
 refine pz ?_;apply EI
 ·exact AI rfl rfl λl2 JP=>of_any b rb m F all os es clock lq c hT l2 λx hx=>JP x (CJ x hx)
 ·rfl
 ·rfl
 ·rfl
 refine pz ?_;cases hba:blk F os a with
 |none=>
  cases hbc:blk F os c with
  |none=>rw[Uq (Kq hba) (Kq hbc)];simp only[NB];refine gz ?_;exact Bc (l':=lq++G) (LH lq) ⟨rfl,lq,Nf,rfl⟩
  |some y=>simp only[NB];refine gz ?_;refine Be (nG rfl rfl) ?_;refine gz ?_;have yd:=move_any b (FH F os) lq Nf c a (Dz b5 c::Dz b4 a::G);rw[Ws hT hbc hba,cf] at yd;refine AP (Az rfl rfl yd) ?_;rintro _ _ ⟨rfl,DI,hq',rfl⟩;refine gz ?_;exact Bc (l':=DI++G) (LH DI) ⟨rfl,DI,hq',rfl⟩
 |some x=>
  cases hbc:blk F os c with
  |none=>simp only[NB];refine gz ?_;have yd:=move_any b (FH F os) lq Nf a c (Dz b5 c::Dz b4 a::G);rw[Ws hT hba hbc] at yd;refine AP (Az rfl rfl yd) ?_;rintro _ _ ⟨rfl,DI,hq',rfl⟩;refine gz ?_;exact Bc (l':=DI++G) (LH DI) ⟨rfl,DI,hq',rfl⟩
  |some y=>
   have Rx:=IJ hba;have aN:=IJ hbc;have qU:x∈all:=hT.sub x Rx.1;have hya:y∈all:=hT.sub y aN.1;simp only[NB];refine gz ?_;refine Be (sD rfl rfl A0 (CJ _ (hT.m3 qU)) (CJ _ (hT.m3 hya))) ?_;by_cases hac:a=c
   ·subst hac;rw[hba] at hbc;obtain rfl:x=y:=AZ hbc;rw[AcM,show swapD (FH F os) a a=FH F os by unfold swapD;rw[Bs λz _=>i8 a z,List.map_id']];refine gz ?_;exact Bc (l':=lq++G) (LH lq) ⟨rfl,lq,Nf,rfl⟩
   ·have Vm:x≠y:=λe=>hac (by rw[<-Rx.2,<-aN.2,e]);rw[AcN Vm];refine gz ?_;refine Eh (l':=Lu b rb m::Dz b5 c::Dz b4 a::(m,Ir Cd es clock)::(OV F all++G)) ?_ ?_
    ·rw[hT.eq];refine Keep.of_perm (List.Perm.cons _ ?_);exact AC ((m,Ir Cd es clock)::OV F all) [Dz b5 c,Dz b4 a] G
    obtain⟨F1,hF1⟩: ∃F1,F1=upd F x {F x with sl:=c}:=⟨_,rfl⟩
    obtain⟨F2,Rz⟩: ∃F2,F2=upd F1 y {F1 y with sl:=a}:=⟨_,rfl⟩
    refine gz ?_;refine Ct [6,9] 10 ([Dz b5 c,Dz b4 a]) ?_;refine pz ?_;apply Oy
    ·exact EG (b:=x) (off:=0) (cs:=τ (F x).cells) (n:=2) rfl rfl rfl (by simp[Value.oneCell']) (.there (.there (.there (.there (Kp (Mg {F x with sl:=c} hT.nd qU) _))))) (by simp)
    ·rfl
    ·rfl
    ·rintro _ _ ⟨rfl,rfl⟩;exact(Cm MV)
    rintro _ _ ⟨rfl,rfl⟩;rw[<-hF1];refine pz ?_;apply Oy
    ·exact EG (b:=y) (off:=0) (cs:=τ (F1 y).cells) (n:=2) rfl rfl rfl (by simp[Value.oneCell']) (.there (.there (.there (.there (Kp (Mg {F1 y with sl:=a} hT.nd hya) _))))) (by simp)
    ·rfl
    ·rfl
    ·rintro _ _ ⟨rfl,rfl⟩;exact(Cm MV)
    rintro _ _ ⟨rfl,rfl⟩;rw[<-Rz];refine pz ?_;obtain⟨A1,e1,B1,k1,k2,k3,k4,k5,k6⟩:=fF (v:= π y) hT.keys (a:=a) (u:= π x) (by rw[hT.get];show(blk F os a).map _=_;rw[hba];rfl);have Xa:=hT.keys.set a (π y);rw[k6] at Xa;obtain⟨A2,e2,B2,j1,j2,j3,j4,j5,j6⟩:=fF (v:= π x) Xa (a:=c) (u:= π y) (by rw[Ko,Ab (λe=>hac e.symm),hT.get];show(blk F os c).map _=_;rw[hbc];rfl);have Xb:=Xa.set c (π x);rw[j6] at Xb;obtain⟨es1,hes1⟩: ∃es1,es1=(LN a (π y) clock es).1:=⟨_,rfl⟩
    obtain⟨es2,hes2⟩: ∃es2,es2=(LN c (π x) clock es1).1:=⟨_,rfl⟩
    rw[<-hes1] at k5 Xa j1 j5 Xb;rw[<-hes2] at j5 Xb;refine gz ?_;refine Ct [12,14,15,17] 18 ([Lu b rb m,Dz b5 c,Dz b4 a]) ?_;refine pz ?_;apply CX
    ·apply Sa (enc:=Cd) (a:=a) (es:=es) (clock:=clock) (ks:=[some .i64,some .i64]) (A:=A1) (e:=e1) (B:=B1) (m:=m) (l':=[])
     ·rfl
     ·rfl
     ·exact NA
     ·exact k1
     ·exact k2
     ·exact k3
     ·exact Ca
    ·rfl
    ·rfl
    ·rfl
    ·rintro _ _ ⟨rfl,rfl⟩;exact(Cm MV)
    rintro _ _ ⟨rfl,rfl⟩;refine pz ?_;apply Oy
    ·apply PQ (enc:=Cd) (es:=es) (clock:=clock) (A:=A1) (e:=e1) (B:=B1) (m:=m) (v:= π y)
     ·rfl
     ·rfl
     ·rfl
     ·exact k1
     ·exact k4
     ·rw[k5];exact D1
    ·rfl
    ·rfl
    ·rintro _ _ ⟨rfl,rfl⟩;exact(Cm MV)
    rintro _ _ ⟨rfl,rfl⟩;refine pz ?_;apply CX
    ·apply Sa (enc:=Cd) (a:=c) (es:=es1) (clock:=clock) (ks:=[some .i64,some .i64]) (A:=A2) (e:=e2) (B:=B2) (m:=m) (l':=[])
     ·rfl
     ·rfl
     ·exact NA
     ·exact j1
     ·exact j2
     ·exact j3
     ·exact Ca
    ·rfl
    ·rfl
    ·rfl
    ·rintro _ _ ⟨rfl,rfl⟩;exact(Cm MV)
    rintro _ _ ⟨rfl,rfl⟩;refine pz ?_;apply Oy
    ·apply PQ (enc:=Cd) (es:=es1) (clock:=clock) (A:=A2) (e:=e2) (B:=B2) (m:=m) (v:= π x)
     ·rfl
     ·rfl
     ·rfl
     ·exact j1
     ·exact j4
     ·rw[j5];exact D1
    ·rfl
    ·rfl
    ·rintro _ _ ⟨rfl,rfl⟩;exact(Cm MV)
    rintro _ _ ⟨rfl,rfl⟩;refine pz ?_;refine gz ?_;have elx:(F2 x).sl=c:=by rw[Rz,upd_other _ _ _ _ Vm,hF1,upd_same]
    have ely:(F2 y).sl=a:=by rw[Rz,upd_same]
    have elo: ∀q,q≠x->q≠y->(F2 q).sl=(F q).sl:=λq h1 h2=>by rw[Rz,upd_other _ _ _ _ h2,hF1,upd_other _ _ _ _ h1]
    have el: ∀q,(F2 q).nx=(F q).nx/\(F2 q).pv=(F q).pv/\(F2 q).dp=(F q).dp:=λq=>by rw[Rz,hF1];unfold upd;split<;>split<;>simp_all
    have hun: ∀q r,q∈os->r∈os->(F q).sl=(F r).sl->q=r:=λq r hq hr e=>by
     obtain⟨A,B,rfl⟩:=G1 hr;obtain⟨uA,uB⟩:=hT.uniq;rcases AB.1 hq with hq|hq
     ·exact absurd e (uA q hq)
     ·rcases Au.1 hq with rfl|hq
      ·rfl
      ·exact absurd e (uB q hq)
    have hsw: ∀q,q∈os->((F2 q).sl,(F2 q).dp)=M0 a c ((F q).sl,(F q).dp):=λq hq=>by
     unfold M0;by_cases h1:q=x
     ·rw[h1,elx,(el x).2.2];simp only;rw[Ad Rx.2]
     ·by_cases h2:q=y
      ·rw[h2,ely,(el y).2.2];simp only;rw[Ab (by rw[aN.2];exact λe=>hac e.symm),Ad aN.2]
      ·rw[elo q h1 h2,(el q).2.2];simp only;rw[Ab (λe=>h1 (hun q x hq Rx.1 (by rw[e,Rx.2]))),Ab (λe=>h2 (hun q y hq aN.1 (by rw[e,aN.2])))]
    have YB: ∀s',Ih s' es2=(blk F2 os s').map λp=> π p:=λs'=>by
     rw[hes2,Ko,hes1,Ko,hT.get];show(if s'=c then _ else if s'=a then _ else(blk F os s').map _)=_;have huf: ∀p,p∈os->(F2 p).sl=s'->(∀q,q∈os->(F2 q).sl=s'->q=p)->blk F2 os s'=some p:=λp hp N3 hu=>by
      cases hb:blk F2 os s' with
      |none=>exact absurd N3 (Kq hb p hp)
      |some q=>rw[hu q (IJ hb).1 (IJ hb).2]
     by_cases h1:s'=c
     ·rw[Ad h1,huf x Rx.1 (by rw[elx,h1]) λq hq e=>?_]
      ·rfl
      ·by_cases kN:q=x
       ·exact kN
       ·by_cases kO:q=y
        ·rw[kO,ely,h1] at e;exact absurd e hac
        ·rw[elo q kN kO,h1,<-aN.2] at e;exact absurd (hun q y hq aN.1 e) kO
     ·rw[Ab h1];by_cases h2:s'=a
      ·rw[Ad h2,huf y aN.1 (by rw[ely,h2]) λq hq e=>?_]
       ·rfl
       ·by_cases kO:q=y
        ·exact kO
        ·by_cases kN:q=x
         ·rw[kN,elx,h2] at e;exact absurd e.symm hac
         ·rw[elo q kN kO,h2,<-Rx.2] at e;exact absurd (hun q x hq Rx.1 e) kN
      ·rw[Ab h2];cases hb:blk F os s' with
       |none=>
        rw[Ik.2 λq hq e=>?_];by_cases kN:q=x
        ·rw[kN,elx] at e;exact h1 e.symm
        ·by_cases kO:q=y
         ·rw[kO,ely] at e;exact h2 e.symm
         ·rw[elo q kN kO] at e;exact Kq hb q hq e
       |some p=>
        have hp:=IJ hb;have hpx:p≠x:=λe=>h2 (by rw[<-hp.2,e,Rx.2]);have hpy:p≠y:=λe=>h1 (by rw[<-hp.2,e,aN.2]);rw[huf p hp.1 (by rw[elo p hpx hpy];exact hp.2) λq hq e=>?_];by_cases kN:q=x
        ·rw[kN,elx] at e;exact absurd e.symm h1
        ·by_cases kO:q=y
         ·rw[kO,ely] at e;exact absurd e.symm h2
         ·rw[elo q kN kO,<-hp.2] at e;exact hun q p hq hp.1 e
    have hD2:FH F2 os=swapD (FH F os) a c:=by unfold swapD FH;rw[CO];exact Bs λq hq=>hsw q hq
    have rO:(os.map λq=>(F2 q).sl).Nodup:=by
     rw[D6,Cz];have hn:=hT.snd;rw[D6,Cz] at hn;refine hn.imp_of_mem λ{q r} hq hr GS e=>GS ?_;have h1:=hsw q hq;have h2:=hsw r hr;have e1:(M0 a c ((F q).sl,(F q).dp)).1=(M0 a c ((F r).sl,(F r).dp)).1:=by rw[<-h1,<-h2];exact e
     exact Zw e1
    obtain⟨DI,RA⟩: ∃DI,DI=Lu b rb m::(m,Ir Cd es2 clock)::OV F2 all:=⟨_,rfl⟩
    refine Bc (l':=DI++G) ?_ ⟨rfl,DI,⟨rb,m,F2,all,os,es2,clock,hD2,⟨RA,hT.nd,hT.rin,hT.sub,hT.ond,OW hT.adj (λu _=>(el u).1) (λv _=>(el v).2.1),rO,Xb,YB⟩⟩,rfl⟩;rw[RA];simp only[Ae];exact AY
end Tr
open Go.RowKit
set_option maxRecDepth 20000
set_option maxRecDepth 20000 in
theorem drop_any(b:Nat)(D:SD)(lq:Ac)(hq:IsS b D lq)(a:Int)(G:Ac):
 Fn prog 387 [π b,ι a] (lq++G) λv l'=>v= ι (HR D a).1/\ ∃DI,IsS b (HR D a).2 DI/\l'=DI++G:=by
 have Nf:=hq;obtain⟨S,m,es,clock,rfl,hS⟩:=hq;have Ym:xC b m∈lq++G:=Ai _ hS.m1;have Vo:(m,Ge .i64 es clock)∈lq++G:=Ai _ hS.m2;refine AO func387 ntmps387 λE=>?_;obtain⟨p,n0,cap,aP,Qq⟩:=hS.look1 a;cases hf:D9 NdS.id S a with
 |none=>
  rw[show HR (S.map NdS.d) a=(2,S.map NdS.d) by unfold HR;rw[KI,hf];rfl];have hz:n0=0:=by unfold II at Qq;rw[KI,hf] at Qq;simp at Qq;omega
  refine gz ?_;rw[aP];refine gz ?_;exact Bc .refl ⟨rfl,_,Nf,rfl⟩
 |some nd=>
  obtain⟨Om,Vp⟩:=Fb hf;have Vk:=hS.sz nd Om;have hz:n0=nd.C.length:=by unfold II at Qq;rw[KI,hf] at Qq;simp at Qq;omega
  obtain⟨nd',hf',_,Ln⟩:=hS.look2 a Qq Af;rw[hf] at hf';obtain rfl:nd=nd':=AZ hf';have xV:nd.blk∈lq++G:=Ai _ (hS.m3 Om);refine gz ?_;rw[Ln];refine gz ?_;rw[Ln];refine gz ?_;refine CF (α:=Nat) (λk=>[(0,π b),(1,ι a),(24,nd.val),(25,ι (nd.C.length:Nat)),(26,ι k)]) (λ_=>lq++G) (λk=>k<=nd.C.length/\ ∀c,c∈nd.C.take k->c=Cu) (λk=>nd.C.length-k) 0 ⟨Bm _,by simp⟩ ⟨rfl,rfl,rfl,rfl,rfl,trivial⟩ .refl ?_;rintro k ⟨hk,hz⟩;by_cases C7:k<nd.C.length
  ·obtain⟨c,hc⟩: ∃c,nd.C[k]?=some c:=⟨_,Ak C7⟩
   obtain⟨g1,g2⟩:=Xw hc;refine gz ?_;refine Be (Dp (n:=8) rfl xV g2 g1) ?_;refine Iy λb6=>?_;refine Be (SX (ys:=Cb Cu) rfl rfl (EC c) (EC _)) ?_;rw[show BU (Cb c) (Cb Cu)=MD c Cu from rfl];cases he:MD c Cu with
   |false=>
    rw[show HR (S.map NdS.d) a=(16,S.map NdS.d) by
     unfold HR;rw[KI,hf];simp only[BY];rw[Ab λh=>by have:=AS.1 h c (Bg hc);rw[he] at this;cases this]]
    refine gz ?_;exact Bc ζ ⟨rfl,_,Nf,rfl⟩
   |true=>
    refine gz ?_;refine BZ (k+1) ⟨Af,λx hx=>?_⟩ Af ⟨rfl,rfl,rfl,rfl,rfl,trivial⟩ ζ;rw[BP,hc] at hx;rcases AB.1 hx with hx|hx
    ·exact hz x hx
    ·have:x=c:=by simpa using hx
     rw[this];exact Pk.1 he
  ·obtain rfl:k=nd.C.length:=by omega
   rw[CK] at hz;have GK:nd.C.all (λc=>MD c Cu)=true:=AS.2 λc hc=>Pk.2 (hz c hc);rw[show HR (S.map NdS.d) a=(0,(S.map NdS.d).filter λx=>decide (x.1≠a)) by unfold HR;rw[KI,hf];simp only[BY];rw[Ad GK]]
   obtain⟨A,B,aL,_,_⟩:=Ub hf;have AbO:S.filter (λx=>decide (x.id≠a))=A++B:=by rw[aL];exact bX (by rw[<-aL];exact hS.mb.asc) Vp
   refine gz ?_;rw[hS.eq];simp only[Ae];refine Nk (TR (a:=a) (es:=es) (clock:=clock) rfl rfl (.there .here)) rfl rfl ?_;rintro _ _ ⟨rfl,rfl⟩;refine gz ?_;have hMB:=hS.mb.drop a;rw[AbO] at hMB;refine BF [] rfl (l':=(xC b m::(m,Ge .i64 (P4 a es) clock)::(A++B).map NdS.blk)++G) ?_ Ba ⟨rfl,_,⟨A++B,m,_,_,by rw[<-nl,AbO],rfl,hMB,?_⟩,rfl⟩
   ·rw[aL,At,AK,At];obtain⟨X,hX⟩:=nk (A.map NdS.blk) (B.map NdS.blk) G nd.blk;exact⟨X,(((hX.cons _).cons _).trans (by show(xC b m::(m,Ge .i64 (P4 a es) clock)::(X++_)).Perm (X++(xC b m::(m,Ge .i64 (P4 a es) clock)::_));exact(AC X [xC b m,(m,Ge .i64 (P4 a es) clock)] _).symm))⟩
   ·intro x hx;refine hS.sz x ?_;rw[aL];rcases AB.1 hx with hx|hx
    ·exact Ai _ hx
    ·exact Aa _ (.tail _ hx)
section
variable{P:Program}{ro:Option Nat}{N:Nat}{fr:Fr}{R l:Ac}{d:Option Nat}{ty t t2:TypeId}{pos:String}{aft:Array Edge}{g:Option (Nat×Bool)}{x y:Operand}{b:Nat}
end
theorem cC(b:Nat)(H:HS)(lq:Ac)(hq:IsH b H lq)(id:Int)(G:Ac):
 Fn prog 365 [π b,ι id] (lq++G) λv l'=>v= ι (HR H.1 id).1/\ ∃DI,IsH b ((HR H.1 id).2,H.2) DI/\l'=DI++G:=by
 obtain⟨bs,bt,ls,lt,rfl,hs,ht⟩:=hq;refine AO func365 ntmps365 λE=>?_;simp only[Ae,Am];refine Aj ?_;refine Be (AI rfl rfl λl2 hl=>Lw b bs bt l2 (hl _ (.head _))) ?_;refine Aj ?_;refine AP (Dr rfl rfl (Fn.mvP (λA=>M1 b bs bt::(A++(lt++G))) (drop_any bs H.1 ls hs id (M1 b bs bt::(lt++G))))) ?_;rintro _ _ ⟨rfl,ls',hs',rfl⟩;refine Aj ?_;exact Bc (l':=(M1 b bs bt::(ls'++lt))++G) (.of_perm (.of_eq (by simp))) ⟨rfl,_,⟨bs,bt,ls',lt,rfl,hs',ht⟩,rfl⟩
theorem Uw(b:Nat)(H:HS)(lq:Ac)(hq:IsH b H lq)(hn:H.2.length<=1000)(s:Ch)(l:Ac)(CJ: ∀c,c∈lq->c∈l):
 Fn prog 282 [π b,.agg (τ (Cd s))] l λv l'=> ∃cs,OwnSl 61 2 v (Tr.belowD H.2 s).length (Tr.scs (Tr.belowD H.2 s)) cs/\l'=cs++l:=by
 obtain⟨bs,bt,ls,lt,hb⟩:=hq;have hm:=CJ _ hb.h;refine AO func282 ntmps282 λE=>?_;refine AR λb3=>?_;refine Ct [5] 7 (Dz b3 s::l) ?_;refine BJ ?_;apply CX
 ·exact Az rfl rfl (Tr.belowOf_any bt H.2 lt hb.t Af s _ λc hc=> .tail _ (CJ _ (hb.m2 c hc)))
 ·rfl
 ·rfl
 ·rfl
 ·rintro _ _ ⟨cs,_,rfl⟩ x hx;exact Aa _ hx
 rintro v _ ⟨cs,ho,rfl⟩;refine BJ ?_;refine Aj ?_;refine Bc (l':=cs++l) (A9 (A:=cs++(Dz b3 s::l)) [Dz b3 s]) ?_;exact⟨cs,ho,rfl⟩
theorem Wz(a b:CapT)(l:Ac):Fn prog 339 [.agg (τ (Cb a)),.agg (τ (Cb b))] l λv l'=>v= .bool (HQ a b)/\l'=l:=by
 refine AO func339 ntmps339 λE=>?_;refine AR λb2=>?_;refine AR λb3=>?_;refine Be (AI rfl rfl λl2 _=>IH a l2) ?_;unfold HQ;cases hA:E5 a with
 |false=>exact Fd
 |true=>
  refine Aj ?_;refine YQ (AI rfl rfl λl2 _=>IH b l2) rfl rfl rfl rfl rfl rfl ?_;cases hB:E5 b with
  |false=>exact Fd
  |true=>
   by_cases k0:a.kind=0
   ·rw[Aq k0];exact Fd
   rw[Av k0];by_cases k1:a.kind=b.kind
   ·rw[Aq k1];exact Fd
   ·rw[Av k1];exact Fd
theorem nR(b:Nat)(H:HS)(n:Nat)(hI:InvH H n)(lq:Ac)(hq:IsH b H lq)(s:Ch)(c:CapT)(G:Ac):
 Fn prog 299 [π b,.agg (τ (Cd s)),.agg (τ (Cb c))] (lq++G) λv l'=>v= ι (PG H s c).1/\ ∃DI,IsH b (PG H s c).2 DI/\l'=DI++G:=by
 have Nf:=hq;refine AO func299 ntmps299 λE=>?_;refine AR λb4=>?_;refine AR λb5=>?_;refine Be (AI rfl rfl λl2 hl=>JB b H lq hq s l2 λc hc=>hl c (.tail _ (.tail _ (Ai _ hc)))) ?_;have KF: ∀(d:CapT) (B:Nat),Keep (Bw B d::Bw b5 c::Dz b4 s::(lq++G)) (lq++G):=λ_ _=> .drop θ;cases Dh:E0 H.1 s with
 |false=>rw[Ww Dh,show PG H s c=(3,H) by unfold PG;rw[Ad Dh]];refine AR λb7=>?_;exact Bc (KF _ _) ⟨rfl,_,Nf,rfl⟩
 |true=>
 rw[Mj Dh];have e0:PG H s c=if(Dv H.1 s).kind=0 then(10,H) else if HQ (Dv H.1 s) c=false then(5,H) else(0,(Fc H.1 s c,H.2)):=by unfold PG;rw[Ab (by rw[Dh];decide)]
 rw[e0];refine AR λb7=>?_;by_cases hw:(Dv H.1 s).kind=0
 ·rw[Ad hw];refine Aj ?_;exact Bc (KF _ _) ⟨rfl,_,Nf,rfl⟩
 rw[Ab hw];refine Aj ?_;refine Be (AI rfl rfl λl2 hl=>Wz (Dv H.1 s) c l2) ?_;cases ha:HQ (Dv H.1 s) c with
 |false=>rw[Ad rfl];refine Aj ?_;exact Bc (KF _ _) ⟨rfl,_,Nf,rfl⟩
 |true=>
 rw[Ab A0];obtain⟨bs,bt,ls,lt,rfl,hs,ht⟩:=hq;obtain⟨X,hX⟩: ∃X,X=[Bw b7 (Dv H.1 s),Bw b5 c,Dz b4 s,M1 b bs bt]:=⟨_,rfl⟩
 have H1:=Fn.mvP (λA=>X++(A++(lt++G))) (set_any bs H.1 ls hs s c (X++(lt++G)));rw[Lv Dh (jc ha)] at H1;rw[hX] at H1;simp only[Ae,Am,Ag] at H1⊢;refine Aj ?_;refine Ct [6] 8 ([Bw b5 c,Dz b4 s,M1 b bs bt]) ?_;refine BJ ?_;apply CX
 ·exact Dr rfl rfl H1
 ·rfl
 ·rfl
 ·rfl
 ·rintro _ _ ⟨_,ls',_,rfl⟩;exact Vq
 rintro _ _ ⟨rfl,ls',hs',rfl⟩;refine BJ ?_;refine Aj ?_;exact Bc (l':=(M1 b bs bt::(ls'++lt))++G) (.drop (.drop (.drop (.of_perm (.of_eq (by simp)))))) ⟨rfl,_,⟨bs,bt,ls',lt,rfl,hs',ht⟩,rfl⟩
theorem jg(b:Nat)(H:HS)(n:Nat)(hI:InvH H n)(lq:Ac)(hq:IsH b H lq)(a c:Ch)(G:Ac):
 Fn prog 210 [π b,.agg (τ (Cd a)),.agg (τ (Cd c))] (lq++G) λv l'=>v= ι (JR H a c).1/\ ∃DI,IsH b (JR H a c).2 DI/\l'=DI++G:=by
 refine AO func210 ntmps210 λE=>?_;refine AR λb5=>?_;refine AR λb6=>?_;refine Be (AI rfl rfl λl2 hl=>Pr b H lq hq a c l2 λc hc=>hl c (.tail _ (.tail _ (Ai _ hc)))) ?_;have KF: ∀(d e:CapT) (B C:Nat),Keep (Bw B d::Bw C e::Dz b6 c::Dz b5 a::(lq++G)) (lq++G):=λ_ _ _ _=> .drop σ;by_cases Dh:E0 H.1 a=false\/E0 H.1 c=false
 ·rw[XG Dh];have e1:Hk H a c=3:=by unfold Hk;rw[Ad Dh]
  rw[show JR H a c=(3,H) by unfold JR;rw[Ad (by rw[e1];decide),e1]];refine Aj ?_;refine AP e_alloc ?_;rintro _ _ ⟨b9,_,rfl,rfl⟩;refine AR λGW=>?_;exact Bc (KF _ _ _ _) ⟨rfl,_,hq,rfl⟩
 obtain⟨lI,okc⟩:=fH Dh;rw[XF lI okc,Mj lI,Mj okc];refine Aj ?_;refine AP e_alloc ?_;rintro _ _ ⟨b9,_,rfl,rfl⟩;refine AR λGW=>?_;by_cases hp:(Dv H.1 a).kind=0
 ·have e1:Hk H a c=10:=by unfold Hk;rw[Ab Dh,Ad hp]
  rw[show JR H a c=(10,H) by unfold JR;rw[Ad (by rw[e1];decide),e1]];refine Aj ?_;exact Bc (KF _ _ _ _) ⟨rfl,_,hq,rfl⟩
 by_cases hw:(Dv H.1 c).kind≠0
 ·have e1:Hk H a c=11:=by unfold Hk;rw[Ab Dh,Ab hp,Ad hw]
  rw[show JR H a c=(11,H) by unfold JR;rw[Ad (by rw[e1];decide),e1]];refine Aj ?_;exact Bc (KF _ _ _ _) ⟨rfl,_,hq,rfl⟩
 have e1:Hk H a c=0:=by unfold Hk;rw[Ab Dh,Ab hp,Ab hw]
 rw[show JR H a c=(0,(Fc (Fc H.1 a Cu) c (Dv H.1 a),(Tr.moveD H.2 a c).2)) by unfold JR;rw[Ab (by rw[e1];decide)]];obtain⟨bs,bt,ls,lt,rfl,hs,ht⟩:=hq;have eh:=(Zz (t:=c) hI.tree ((hI.link a).2 ⟨lI,hp⟩) (hI.no (by simpa using hw))).1;obtain⟨X,hX⟩: ∃X,X=[Bw GW (Dv H.1 c),Bw b9 (Dv H.1 a),Dz b6 c,Dz b5 a,M1 b bs bt]:=⟨_,rfl⟩
 have H1:=Fn.mvP (λA=>X++(A++(lt++G))) (set_any bs H.1 ls hs a Cu (X++(lt++G)));have H2:=λls (hs:IsS bs (Fc H.1 a Cu) ls)=>Fn.mvP (λA=>X++(A++(lt++G))) (set_any bs _ ls hs c (Dv H.1 a) (X++(lt++G)));have H3:=λls=>Fn.mvP (λA=>X++(ls++(A++G))) (Tr.move_any bt H.2 lt ht a c (X++(ls++G)));rw[Lv lI Mi.1] at H1;rw[Lv (by rw[Nz];exact okc) (hI.at a).1] at H2;rw[eh] at H3;rw[hX] at H1 H2 H3;simp only[Ae,Am,Ag] at H1 H2 H3⊢;refine Aj ?_;refine Ct [6] 7 ([Dz b5 a,M1 b bs bt]) ?_;refine BJ ?_;apply CX
 ·exact Dr rfl rfl H1
 ·rfl
 ·rfl
 ·rfl
 ·rintro _ _ ⟨_,ls',_,rfl⟩;exact Vq
 rintro _ _ ⟨rfl,ls',hs',rfl⟩;refine BJ ?_;refine Aj ?_;refine Ct [6] 7 ([Bw b9 (Dv H.1 a),Dz b6 c,M1 b bs bt]) ?_;refine BJ ?_;apply CX
 ·exact Dr rfl rfl (H2 ls' hs')
 ·rfl
 ·rfl
 ·rfl
 ·rintro _ _ ⟨_,ls2,_,rfl⟩;exact Vq
 rintro _ _ ⟨rfl,ls2,Ol,rfl⟩;refine BJ ?_;refine Aj ?_;refine Ct [6] 8 ([Dz b6 c,Dz b5 a,M1 b bs bt]) ?_;refine BJ ?_;apply CX
 ·exact Dr rfl rfl (H3 ls2)
 ·rfl
 ·rfl
 ·rfl
 ·rintro _ _ ⟨_,lt',_,rfl⟩;exact Vq
 rintro _ _ ⟨rfl,lt',PJ,rfl⟩;refine BJ ?_;refine Aj ?_;exact Bc (l':=(M1 b bs bt::(ls2++lt'))++G) (.drop (.drop (.drop (.drop (.of_perm (.of_eq (by simp))))))) ⟨rfl,_,⟨bs,bt,ls2,lt',rfl,Ol,PJ⟩,rfl⟩
theorem jh(b:Nat)(H:HS)(n:Nat)(hI:InvH H n)(lq:Ac)(hq:IsH b H lq)(a c:Ch)(G:Ac):
 Fn prog 211 [π b,.agg (τ (Cd a)),.agg (τ (Cd c))] (lq++G) λv l'=>v= ι (Mh H a c).1/\ ∃DI,IsH b (Mh H a c).2 DI/\l'=DI++G:=by
 refine AO func211 ntmps211 λE=>?_;refine AR λb5=>?_;refine AR λb6=>?_;refine Be (AI rfl rfl λl2 hl=>Pr b H lq hq a c l2 λc hc=>hl c (.tail _ (.tail _ (Ai _ hc)))) ?_;have KF: ∀(d e:CapT) (B C:Nat),Keep (Bw B d::Bw C e::Dz b6 c::Dz b5 a::(lq++G)) (lq++G):=λ_ _ _ _=> .drop σ;by_cases Dh:E0 H.1 a=false\/E0 H.1 c=false
 ·rw[XG Dh,show Mh H a c=(3,H) by unfold Mh;rw[Ad Dh]];refine Aj ?_;refine AP e_alloc ?_;rintro _ _ ⟨b9,_,rfl,rfl⟩;refine AR λGW=>?_;exact Bc (KF _ _ _ _) ⟨rfl,_,hq,rfl⟩
 obtain⟨lI,okc⟩:=fH Dh;rw[XF lI okc,Mj lI,Mj okc,show Mh H a c=(0,(Fc (Fc H.1 a (Dv H.1 c)) c (Dv H.1 a),Tr.swapD H.2 a c)) by unfold Mh;rw[Ab Dh]];refine Aj ?_;refine AP e_alloc ?_;rintro _ _ ⟨b9,_,rfl,rfl⟩;refine AR λGW=>?_;obtain⟨bs,bt,ls,lt,rfl,hs,ht⟩:=hq;obtain⟨X,hX⟩: ∃X,X=[Bw GW (Dv H.1 c),Bw b9 (Dv H.1 a),Dz b6 c,Dz b5 a,M1 b bs bt]:=⟨_,rfl⟩
 have H1:=Fn.mvP (λA=>X++(A++(lt++G))) (set_any bs H.1 ls hs a (Dv H.1 c) (X++(lt++G)));have H2:=λls (hs:IsS bs (Fc H.1 a (Dv H.1 c)) ls)=>Fn.mvP (λA=>X++(A++(lt++G))) (set_any bs _ ls hs c (Dv H.1 a) (X++(lt++G)));have H3:=λls=>Fn.mvP (λA=>X++(ls++(A++G))) (Tr.swap_any bt H.2 lt ht a c (X++(ls++G)));rw[Lv lI (hI.at c).1] at H1;rw[Lv (by rw[Nz];exact okc) (hI.at a).1] at H2;rw[hX] at H1 H2 H3;simp only[Ae,Am,Ag] at H1 H2 H3⊢;refine Aj ?_;refine Ct [6] 7 ([Bw GW (Dv H.1 c),Dz b5 a,M1 b bs bt]) ?_;refine BJ ?_;apply CX
 ·exact Dr rfl rfl H1
 ·rfl
 ·rfl
 ·rfl
 ·rintro _ _ ⟨_,ls',_,rfl⟩;exact Vq
 rintro _ _ ⟨rfl,ls',hs',rfl⟩;refine BJ ?_;refine Aj ?_;refine Ct [6] 7 ([Bw b9 (Dv H.1 a),Dz b6 c,M1 b bs bt]) ?_;refine BJ ?_;apply CX
 ·exact Dr rfl rfl (H2 ls' hs')
 ·rfl
 ·rfl
 ·rfl
 ·rintro _ _ ⟨_,ls2,_,rfl⟩;exact Vq
 rintro _ _ ⟨rfl,ls2,Ol,rfl⟩;refine BJ ?_;refine Aj ?_;refine Ct [6] 8 ([Dz b6 c,Dz b5 a,M1 b bs bt]) ?_;refine BJ ?_;apply CX
 ·exact Dr rfl rfl (H3 ls2)
 ·rfl
 ·rfl
 ·rfl
 ·rintro _ _ ⟨_,lt',_,rfl⟩;exact Vq
 rintro _ _ ⟨rfl,lt',PJ,rfl⟩;refine BJ ?_;refine Aj ?_;exact Bc (l':=(M1 b bs bt::(ls2++lt'))++G) (.drop (.drop (.drop (.drop (.of_perm (.of_eq (by simp))))))) ⟨rfl,_,⟨bs,bt,ls2,lt',rfl,Ol,PJ⟩,rfl⟩
theorem cD(b:Nat)(H:HS)(n:Nat)(hI:InvH H n)(hn:n<=1000)(lq:Ac)(hq:IsH b H lq)(s:Ch)(G:Ac):
 Fn prog 327 [π b,.agg (τ (Cd s))] (lq++G) λv l'=>v= .tuple #[.agg (τ (Cb (D3 H s).1.1)),ι (D3 H s).1.2]/\ ∃DI,IsH b (D3 H s).2 DI/\l'=DI++G:=by
 refine AO func327 ntmps327 λE=>?_;refine AR λb3=>?_;refine AR λb4=>?_;refine Be (AI rfl rfl λl2 hl=>JB b H lq hq s l2 λc hc=>hl c (.tail _ (.tail _ (Ai _ hc)))) ?_;have hK: ∀(d2 c6:CapT) (B:Nat),Keep (Bw B d2::Bw b4 c6::Dz b3 s::(lq++G)) (Bw b4 c6::(lq++G)):=λ_ _ _=> .drop (.pick .here ζ);cases Dh:E0 H.1 s with
 |false=>rw[Ww Dh,show D3 H s=((Cu,3),H) by unfold D3;rw[Ad Dh]];refine AR λb6=>?_;exact CY (l':=lq++G) (Bw b4 Cu::(lq++G)) (hK Cu Cu b6) ζ ⟨rfl,_,hq,rfl⟩
 |true=>
 rw[Mj Dh];refine AR λb6=>?_;by_cases hw:(Dv H.1 s).kind=0
 ·rw[show D3 H s=((Cu,10),H) by unfold D3;rw[Ab (by rw[Dh];decide),Ad hw]];refine Aj ?_;exact CY (l':=lq++G) (Bw b4 Cu::(lq++G)) (hK (Dv H.1 s) Cu b6) ζ ⟨rfl,_,hq,rfl⟩
 rw[show D3 H s=((Dv H.1 s,0),(Fc H.1 s Cu,(Tr.removeD H.2 s).2)) by unfold D3;rw[Ab (by rw[Dh];decide),Ab hw]];obtain⟨bs,bt,ls,lt,rfl,hs,ht⟩:=hq;obtain⟨X,hX⟩: ∃X,X=[Bw b6 (Dv H.1 s),Bw b4 Cu,Dz b3 s,M1 b bs bt]:=⟨_,rfl⟩
 have H1:=Fn.mvP (λA=>X++(A++(lt++G))) (set_any bs H.1 ls hs s Cu (X++(lt++G)));have H2:=λls=>Fn.mvP (λA=>X++(ls++(A++G))) (Tr.remove_any bt H.2 lt ht (hI.small hn).2.2 s (X++(ls++G)));rw[Lv Dh Mi.1] at H1;rw[hX] at H1 H2;simp only[Ae,Am,Ag] at H1 H2⊢;refine Aj ?_;refine Ct [6] 7 ([Dz b3 s,M1 b bs bt]) ?_;refine BJ ?_;apply CX
 ·exact Dr rfl rfl H1
 ·rfl
 ·rfl
 ·rfl
 ·rintro _ _ ⟨_,ls',_,rfl⟩;exact Vq
 rintro _ _ ⟨rfl,ls',hs',rfl⟩;refine BJ ?_;refine Aj ?_;refine Ct [5] 6 ([Dz b3 s,M1 b bs bt]) ?_;refine BJ ?_;apply CX
 ·exact Dr rfl rfl (H2 ls')
 ·rfl
 ·rfl
 ·rfl
 ·rintro _ _ ⟨_,lt',_,rfl⟩;exact Vq
 rintro _ _ ⟨rfl,lt',PJ,rfl⟩;refine BJ ?_;refine Aj ?_;exact CY (l':=(M1 b bs bt::(ls'++lt'))++G) (Bw b4 (Dv H.1 s)::((M1 b bs bt::(ls'++lt'))++G)) (.drop (.pick .here (.drop (.of_perm (.of_eq (by simp)))))) ζ ⟨rfl,_,⟨bs,bt,ls',lt',rfl,hs',PJ⟩,rfl⟩
abbrev hpC(B b:Nat):Bh:=(B,.cells #[π b] 156 (0,0))
def Se(s:Ch)(c:CapT)(x:NW):Bool:=!decide (x.1=s)&&HQ x.2 c
def Lx(D:SD)(s:Ch)(c:CapT)(i:Nat):List Ch:=(((CI D).take i).filter (Se s c)).map Prod.fst
theorem cE{D:SD}{s:Ch}{c:CapT}{i:Nat}{x:NW}(h:(CI D)[i]?=some x):Lx D s c (i+1)=if Se s c x=true then Lx D s c i++[x.1] else Lx D s c i:=by
 unfold Lx;rw[BP,h,Option.toList_some,DM,At];by_cases hp:Se s c x=true
 ·rw[Ad hp,List.filter_cons_of_pos (by exact hp)];rfl
 ·rw[Ab hp,I4 (by exact hp)];simp
theorem ji(D:SD)(s:Ch)(c:CapT)(i:Nat):Lx D s c i<+:Lx D s c (CI D).length:=by unfold Lx;rw[CK];exact((BL i _).filter _).map _
theorem OwnSl.hds'{v:Value}{L:List NW}{cs l:Ac}(h:OwnSl 131 10 v L.length (OR L) cs)(hs: ∀c,c∈cs->c∈l):RowSl l v 10 Ny L:=OwnSl.rowSl (enc:=Ny) h (λ_=>rfl) hs
theorem cF(b:Nat)(s:Ch)(c:CapT)(l:Ac):
 Fn prog 362 [π b,.agg (τ (Cd s)),.agg (τ (Cb c))] l λv l'=>
  ∃B1 B2 B3,v= .func (.func 384) #[] #[π B1,π B2,π B3]/\l'=Bw B3 c::Dz B2 s::hpC B1 b::l:=by
 refine AO func362 ntmps362 λE=>?_;refine AR λb1=>?_;refine AR λb2=>?_;refine AR λb3=>?_;exact Bc .refl ⟨_,_,_,rfl,rfl⟩
theorem cG(B1 B2 B3 b:Nat)(H:HS)(n:Nat)(hI:InvH H n)(hn:n<=1000)(lq:Ac)(hq:IsH b H lq)(s:Ch)(c:CapT)(aS:(CI H.1).length<=900000):
 FN prog 384 [π B1,π B2,π B3] (λy:Ch=>[.agg (τ (Cd y))]) (λxs=>xs=Lx H.1 s c (CI H.1).length) (λpre=>pre<+:Lx H.1 s c (CI H.1).length)
  (λ_ l=>(∀x,x∈[hpC B1 b,Dz B2 s,Bw B3 c]->x∈l)/\(∀c,c∈lq->c∈l)):=by
 refine⟨λr I Ix G0 Cf hY l G hG h0=>?_⟩;obtain⟨n1,n2⟩:=Cf _ _ G hG h0;have m1:=n1 (hpC B1 b) (by simp);refine AO func384 ntmps384 λE=>?_;refine Aj ?_;refine AP (Az rfl rfl (Wv b H lq hq (hI.small hn).1 _ n2)) ?_;rintro v _ ⟨cs,ho,rfl⟩;obtain⟨U,hU⟩:=ξ (CI H.1)
 have aP:= @cE H.1 s c;have lL:=ji H.1 s c;rw[hU] at ho aS aP lL hY⊢;have hR:=λ(l2:Ac) (h: ∀c,c∈cs->c∈l2)=>ho.hds' h;obtain⟨p,cap,rfl⟩:=ho.shape;refine Aj ?_;refine CF (α:=Nat×Ac) (λx=>[(0,.func (.yield r) #[] #[]),(2,π B2),(3,π B3),(8,.slice p U.length cap),(9,ι U.length),(10,ι x.1)]) (λx=>x.2++(cs++G)) (λx=>x.1<=U.length/\I (Lx H.1 s c x.1) x.2) (λx=>U.length-x.1) (0,l) ⟨Bm _,h0⟩ ⟨rfl,rfl,rfl,rfl,rfl,rfl,trivial⟩ (Keep.in_mid cs l G) ?_;clear n1 n2 m1 h0;rintro⟨i,l⟩ ⟨hi,Kz⟩;simp only at hi Kz⊢;by_cases C7:i<U.length
 case neg=>
  obtain rfl:i=U.length:=by omega
  refine Aj ?_;exact Bc (l':=l++G) (A9 cs) ⟨l,rfl,.inl ⟨_,rfl,Kz⟩⟩
 obtain⟨x,hx⟩: ∃x,U[i]?=some x:=⟨_,Ak C7⟩
 have rO:=aP hx;obtain⟨a0,cp,hv,KZ⟩:=hR (l++(cs++G)) (λc hc=>Aa _ (Ai _ hc));obtain⟨gb,off,xs,ty,fz,rfl,hm,hc⟩:=KZ Af;obtain⟨g1,g2⟩:=hc i x hx;cases hv;obtain⟨n1,n2⟩:=Cf (Lx H.1 s c i) l (cs++G) (λc hc=>Aa _ (hG c hc)) Kz;refine Aj ?_;refine Be (Dp rfl hm g1 g2) ?_;refine Aj ?_;refine AP e_alloc ?_;rintro _ _ ⟨b6,_,rfl,rfl⟩;have m2:Dz B2 s∈l++(cs++G):=n1 _ (by simp);have m3:Bw B3 c∈l++(cs++G):=n1 _ (by simp);refine Aj ?_;refine Be (FC rfl rfl (Um x.1) (Um s)) ?_;by_cases Rx:x.1=s
 ·rw[Rx,Gq (Um s)];rw[Ab (by unfold Se;rw[Aq Rx];simp)] at rO;refine Aj ?_;exact BZ (i+1,l) ⟨by simp only;omega,by rw[rO];exact Kz⟩ (by simp only;omega) ⟨rfl,rfl,rfl,rfl,rfl,rfl,trivial⟩ ζ
 rw[AcJ Rx];refine Aj ?_;refine MU (AI rfl rfl λl2 hl=>Wz x.2 c l2) rfl rfl rfl ?_;cases ha:HQ x.2 c with
 |false=>rw[Ab (by unfold Se;rw[ha];simp)] at rO;refine Aj ?_;exact BZ (i+1,l) ⟨by simp only;omega,by rw[rO];exact Kz⟩ (by simp only;omega) ⟨rfl,rfl,rfl,rfl,rfl,rfl,trivial⟩ ζ
 |true=>
 rw[Ad (by unfold Se;rw[ha,Av Rx];rfl)] at rO;have hp:=lL (i+1);rw[rO] at hp;have hy:=hY (Lx H.1 s c i) x.1 l (hdC b6 x::(cs++G)) (λc hc=> .tail _ (Aa _ (hG c hc))) Kz hp;refine Aj ?_;refine Bt (Keep.in_mid [hdC b6 x] l (cs++G)) ?_;refine IE (C8 rfl rfl hy) rfl rfl rfl ?_;rintro w l' ⟨l1,rfl,⟨rfl,N7⟩|⟨rfl,Yn⟩⟩
 ·refine Aj ?_;exact BZ (i+1,l1) ⟨by simp only;omega,by rw[rO];exact N7⟩ (by simp only;omega) ⟨rfl,rfl,rfl,rfl,rfl,rfl,trivial⟩ (A9 [hdC b6 x])
 ·refine Aj ?_;exact Bc (l':=l1++G) (A9 (hdC b6 x::cs)) ⟨l1,rfl,.inr ⟨_,hp,Yn⟩⟩
theorem jj{H:HS}{s:Ch}(h1:E0 H.1 s=true)(h2:(Dv H.1 s).kind≠0):J8 H s=decide (Lx H.1 s (Dv H.1 s) (CI H.1).length=[]):=by
 unfold J8 Lx;rw[KD,IW,h1,Av h2,CK,List.map_eq_nil_iff,List.filter_eq_nil_iff];simp only[Hy,BA,Bool.and_true,AS];constructor
 ·intro h x hx hl;have:=h x hx;unfold Se at hl;cases hd:decide (x.1=s)<;>cases ha:HQ x.2 (Dv H.1 s)<;>simp_all
 ·intro h x hx;have:=h x hx;unfold Se at this;cases hd:decide (x.1=s)<;>cases ha:HQ x.2 (Dv H.1 s)<;>simp_all
theorem cH(b:Nat)(H:HS)(n:Nat)(hI:InvH H n)(hn:n<=1000)(lq:Ac)(hq:IsH b H lq)(s:Ch)(aS:(CI H.1).length<=900000)(l:Ac)(CJ: ∀c,c∈lq->c∈l):
 Fn prog 326 [π b,.agg (τ (Cd s))] l λv l'=>v= .bool (J8 H s)/\l'=l:=by
 refine AO func326 ntmps326 λE=>?_;refine AR λb3=>?_;refine AR λb4=>?_;refine Be (AI rfl rfl λl2 hl=>JB b H lq hq s l2 λc hc=>hl c (.tail _ (.tail _ (CJ c hc)))) ?_;cases Dh:E0 H.1 s with
 |false=>rw[Ww Dh,show J8 H s=false by unfold J8;rw[Dh];rfl];refine AR λb5=>?_;exact CY (l':=l) ((b4,.cells (τ [.bool false]) 4 (0,0))::l) (.drop (.pick .here ζ)) ζ ⟨rfl,rfl⟩
 |true=>
 rw[Mj Dh];refine AR λb5=>?_;by_cases hw:(Dv H.1 s).kind=0
 ·rw[show J8 H s=false by unfold J8;rw[Aq hw];simp];refine Aj ?_;exact CY (l':=l) ((b4,.cells (τ [.bool false]) 4 (0,0))::l) (.drop (.pick .here ζ)) ζ ⟨rfl,rfl⟩
 rw[jj Dh hw];refine Aj ?_;refine AP (Az rfl rfl (cF b s (Dv H.1 s) _)) ?_;rintro _ _ ⟨B1,B2,B3,rfl,rfl⟩;refine Aj ?_;refine Dj (α:=Ch) (ps:=[24]) (lb:=[π B1,π B2,π B3]) rfl (cG B1 B2 B3 b H n hI hn lq hq s (Dv H.1 s) aS) (λ_=>rfl) rfl
  (λpre l=>l=[Bw B3 (Dv H.1 s),Dz B2 s,hpC B1 b,(b4,.cells (τ [.bool false]) 4 (0,0))]/\pre=[])
  (λc pre l=>c= .ret/\pre≠[]/\l=[(b4,.cells (τ [.bool false]) 4 (0,0))])
  _ (Bw b5 (Dv H.1 s)::Dz b3 s::l) (λpre l2 X2 hX h=>⟨λx hx=>by rw[h.1];exact Ai _ (by simp only[Au,BR,EF] at hx⊢;rcases hx with h|h|h<;>simp[h]),λc hc=>Aa _ (hX _ (.tail _ (.tail _ (CJ _ hc))))⟩) AY ⟨rfl,rfl⟩ ?_ ?_ ?_
 ·rintro E r0 Gb pre x l' T ⟨fn,tmps,D0,rfl⟩ hT ⟨rfl,rfl⟩ DG;simp only[DY,Ae,Ag];refine Aj ?_;refine CP D1 ?_;refine Aj ?_;refine EH [(b4,.cells (τ [.bool false]) 4 (0,0))] AY ⟨rfl,by simp,rfl⟩
 ·rintro D0 xs l' hS ⟨rfl,rfl⟩;rw[<-hS];simp only[Ae,Ag];refine Aj ?_;exact AU [D0] ((b4,.cells (τ [.bool true]) 4 (0,0))::l) rfl (l':=l) AY Ba ζ ⟨rfl,rfl⟩
 ·rintro D0 c pre l' DG ⟨rfl,GS,rfl⟩;have hL:Lx H.1 s (Dv H.1 s) (CI H.1).length≠[]:=λe=>by rw[e] at DG;exact GS (List.prefix_nil.1 DG)
  rw[Av hL];simp only[Ae,Ag];refine Aj ?_;exact AU [D0] ((b4,.cells (τ [.bool false]) 4 (0,0))::l) rfl (l':=l) AY Ba ζ ⟨rfl,rfl⟩
namespace Ar
variable{S:ArT}{k:Nat}{o o':ObT}{id m s p v:Int}{os:OL}
def dropD(S:ArT)(id:Int):Int×ArT:=match atO S.os id with
 |some k=>(0,{S with os:=S.os.eraseIdx k})
 |none=>(2,S)
def setMa(o:ObT)(m:Int):ObT:={o with ma:=m}
def setPl(o:ObT)(s p v:Int):ObT:={o with se:=s,pg:=p,lv:=v}
def markD'(S:ArT)(id m:Int):Int×ArT:=match atO S.os id with
 |some k=>if(S.os.getD k obO).kd≠1 then(8,S) else if m<0\/m>(S.os.getD k obO).fr then(3,S) else(0,{S with os:=S.os.set k (setMa (S.os.getD k obO) m)})
 |none=>(2,S)
abbrev Tb(s p v:Int):Prop:=(s=0/\p=0/\v=0)\/(1<=s/\s<=16777215/\0<=p/\p<512/\1<=v/\v<=2)
def placeD(S:ArT)(id s p v:Int):Int×ArT:=match atO S.os id with
 |some k=>if(S.os.getD k obO).kd≠4 then(8,S) else if ¬Tb s p v then(3,S) else(0,{S with os:=S.os.set k (setPl (S.os.getD k obO) s p v)})
 |none=>(2,S)
theorem Lv(hS:S.Ok)(h:S.os[k]?=some o)(h1:o'.id=o.id)(h2:o'.fi=o.fi):ArT.Ok {S with os:=S.os.set k o'}:=by
 have hk:=(Aw.1 h).1;have he:=(Aw.1 h).2;have hm: ∀x∈S.os.set k o',∃y∈S.os,x.id=y.id/\x.fi=y.fi:=λx hx=>by
  rcases CS hx with hx|rfl
  ·exact⟨x,hx,rfl,rfl⟩
  ·exact⟨o,Bg h,h1,h2⟩
 refine⟨hS.n1,hS.n2,hS.g1,?_,λx hx=>?_,λx hx=>?_⟩
 ·show(S.os.set k o').Pairwise _;rw[Il];intro i j hi hj W4;rw[CE] at hi hj;have hP:=Il.1 hS.asc;have g: ∀(i:Nat) (hi:i<S.os.length) (hi':i<(S.os.set k o').length),((S.os.set k o')[i]).id=(S.os[i]).id:=λi hi hi'=>by
   rw[List.getElem_set]
   split
   ·rename_i e;subst e;rw[h1,he]
   ·rfl
  rw[g i hi,g j hj];exact hP i j hi hj W4
 ·obtain⟨y,hy,e1,e2⟩:=hm x hx;rw[e1];exact hS.rng y hy
 ·obtain⟨y,hy,e1,e2⟩:=hm x hx;show 0<=x.fi/\x.fi<S.n/\ ∃c:Int,0<=c/\c<S.g x.fi.toNat/\x.id=x.fi+1+64*c;rw[e1,e2];exact hS.num y hy
theorem atO_get(h:atO os id=some k):os[k]?=some (os.getD k obO)/\(os.getD k obO).id=id:=by obtain⟨o,h1,h2⟩:=atO_some h;rw[List.getD,h1];exact⟨rfl,h2⟩
theorem s8(hS:S.Ok)(id:Int):(dropD S id).2.Ok:=by
 unfold dropD
 split
 ·rename_i k hk;have hm: ∀x∈S.os.eraseIdx k,x∈S.os:=λx hx=>Gv hx;exact⟨hS.n1,hS.n2,hS.g1,hS.asc.sublist (List.eraseIdx_sublist ..),λx hx=>hS.rng x (hm x hx),λx hx=>hS.num x (hm x hx)⟩
 ·exact hS
theorem s9(hS:S.Ok)(id m:Int):(markD' S id m).2.Ok:=by
 unfold markD'
 split
 ·rename_i k hk
  split
  ·exact hS
  split
  ·exact hS
  exact Lv hS (atO_get hk).1 rfl rfl
 ·exact hS
theorem nS(hS:S.Ok)(id s p v:Int):(placeD S id s p v).2.Ok:=by
 unfold placeD
 split
 ·rename_i k hk
  split
  ·exact hS
  split
  ·exact hS
  exact Lv hS (atO_get hk).1 rfl rfl
 ·exact hS
theorem jk(os:OL)(k:Nat)(hk:k<os.length):(os.eraseIdx k)=os.take k++os.drop (k+1):=Du ..
theorem cI{c x:Bh}{l F:Ac}(h:c∈x::l):c∈x::(l++F):=by rw[<-Ae];exact Ai _ h
theorem jl(h:os[k]?=some o):ocs os=ocs (os.take k)++obC o++ocs (os.drop (k+1)):=by
 conv=>lhs;rw[Y8 h]
 rw[Nr,show ocs (o::os.drop (k+1))=obC o++ocs (os.drop (k+1)) from rfl,Am]
theorem Ps(h:os[k]?=some o):os.getD k obO=o:=by rw[List.getD,h];rfl
theorem WA(h:atO S.os id=none):markD' S id m=(2,S):=by unfold markD';rw[h]
theorem yV(h:atO S.os id=some k)(ho:S.os[k]?=some o)(h1:o.kd≠1):markD' S id m=(8,S):=by unfold markD';rw[h];simp only[Ps ho];rw[Ad h1]
theorem nT(h:atO S.os id=some k)(ho:S.os[k]?=some o)(h1:o.kd=1)(h2:m<0\/m>o.fr):markD' S id m=(3,S):=by unfold markD';rw[h];simp only[Ps ho];rw[Ab Af,Ad h2]
theorem yW(h:atO S.os id=some k)(ho:S.os[k]?=some o)(h1:o.kd=1)(h2:¬(m<0\/m>o.fr)):markD' S id m=(0,{S with os:=S.os.set k (setMa o m)}):=by unfold markD';rw[h];simp only[Ps ho];rw[Ab Af,Ab h2]
theorem Ux(h:atO S.os id=none):placeD S id s p v=(2,S):=by unfold placeD;rw[h]
theorem tc(h:atO S.os id=some k)(ho:S.os[k]?=some o)(h1:o.kd≠4):placeD S id s p v=(8,S):=by unfold placeD;rw[h];simp only[Ps ho];rw[Ad h1]
theorem tf(h:atO S.os id=some k)(ho:S.os[k]?=some o)(h1:o.kd=4)(h2:¬Tb s p v):placeD S id s p v=(3,S):=by unfold placeD;rw[h];simp only[Ps ho];rw[Ab Af,Ad h2]
theorem tg(h:atO S.os id=some k)(ho:S.os[k]?=some o)(h1:o.kd=4)(h2:Tb s p v):placeD S id s p v=(0,{S with os:=S.os.set k (setPl o s p v)}):=by unfold placeD;rw[h];simp only[Ps ho];rw[Ab Af,Ab (Gw h2)]
theorem fI{b gb cap:Nat}{sp:Ap}(Yl:ArT.Ok {S with os:=S.os.set k o'})(im:S.os.length<=cap)(Vn:cap<=maxLen)(N5:(ocs S.os++sp).length=cap*9):
 IsA b {S with os:=S.os.set k o'} [TY b S.n S.g (.slice (some ⟨gb,0,none⟩) S.os.length cap),(gb,.cells (τ (ocs (S.os.set k o')++sp)) 100 (0,0))]:=by
 refine⟨Yl,_,_,rfl,?_⟩;show OwnSl 100 9 _ (S.os.set k o').length (ocs (S.os.set k o')) _;refine⟨by rw[OJ],.inr ⟨gb,cap,sp,by rw[CE],rfl,by rw[CE];exact im,Vn,?_⟩⟩;rw[Ah,OJ,CE];rw[Ah,OJ] at N5;exact N5
end Ar
abbrev ZC:=Ch×Int
abbrev yX(y:ZC):Ap:=[ι y.1.1,ι y.1.2,ι y.2]
def jm(S:Ar.ArT)(c:CapT):Ar.ObT:=(Ar.getD' S c.obj).1
def fJ(Bv:Nat)(c:CapT)(left:Int):Nat:=if c.bits>0 then DF Bv (left-c.bits).toNat c.bits.toNat else 0
def SE(S:Ar.ArT)(c:CapT)(left:Int):Prop:=E5 c=true/\c.kind=2/\(Ar.getD' S c.obj).2=true/\(jm S c).kd=2/\c.bits+(jm S c).sz<=left
instance(S:Ar.ArT)(c:CapT)(left:Int):Decidable (SE S c left):=by unfold SE;exact inferInstance
def GY(S:Ar.ArT)(c:CapT)(left:Int):Int:=left-(c.bits+(jm S c).sz)
def JD(S:Ar.ArT)(Bv:Nat)(c:CapT)(left:Int):Ch:=((jm S c).id,(DF Bv (GY S c left).toNat (jm S c).sz.toNat:Nat))
def Ly(D:SD)(S:Ar.ArT)(Bv:Nat)(c:CapT)(left:Int):Option (ZC×CapT):=
 if SE S c left then(if fJ Bv c left=Ob c.guard/\(getD' D (JD S Bv c left)).2=0 then some ((JD S Bv c left,GY S c left),(getD' D (JD S Bv c left)).1) else none) else none
def ET(D:SD)(S:Ar.ArT)(Bv:Nat):Nat->CapT->Int->List ZC
 |0,_,_=>[]
 |f+1,c,left=>if left>0 then(match Ly D S Bv c left with|some y=>y.1::ET D S Bv f y.2 y.1.2|none=>[]) else[]
def VH(S:Ar.ArT):Prop:= ∀o∈S.os,o.kd=2->1<=o.sz/\o.sz<=4
theorem Q5{id:Int}(h:(Ar.getD' S id).2=true):(Ar.getD' S id).1∈S.os/\(Ar.getD' S id).1.id=id:=by
 unfold Ar.getD' at*;cases hk:Ar.atO S.os id with
 |none=>rw[hk] at h;cases h
 |some k=>obtain⟨h1,h2⟩:=Ar.atO_get hk;exact⟨Bg h1,h2⟩
theorem Pt(h:E5 c=true)(hk:c.kind=2):0<=c.bits/\c.bits<=12/\0<=c.guard/\Jz (Ob c.guard) c.bits=true:=by unfold E5 at h;rw[Ab Af,Ab Af,Ad hk] at h;unfold fB at h;simp only[AM,A3] at h;obtain⟨⟨⟨h1,h2⟩,h3,h4⟩,_⟩:=h;exact⟨h1,h2,h3,h4⟩
theorem Qe(hR:VH S)(h:SE S c left):0<=c.bits/\c.bits<=12/\1<=(jm S c).sz/\(jm S c).sz<=4/\0<=GY S c left/\GY S c left<left:=by obtain⟨h1,h2,h3,h4,h5⟩:=h;obtain⟨b1,b2,_⟩:=Pt h1 h2;obtain⟨m1,_⟩:=Q5 h3;obtain⟨s1,s2⟩:=hR _ m1 h4;unfold GY jm at*;refine⟨b1,b2,s1,s2,Af,Af⟩
theorem RS(h:SE S c left)(h2:fJ Bv c left=Ob c.guard/\(getD' D (JD S Bv c left)).2=0):Ly D S Bv c left=some ((JD S Bv c left,GY S c left),(getD' D (JD S Bv c left)).1):=by unfold Ly;rw[Ad h,Ad h2]
theorem cJ(h:¬SE S c left):Ly D S Bv c left=none:=by unfold Ly;rw[Ab h]
theorem Qf(h:¬(fJ Bv c left=Ob c.guard/\(getD' D (JD S Bv c left)).2=0)):Ly D S Bv c left=none:=by
 unfold Ly;by_cases hg:SE S c left
 ·rw[Ad hg,Ab h]
 ·rw[Ab hg]
theorem OY(h:left<=0):ET D S Bv f c left=[]:=by
 cases f with
 |zero=>rfl
 |succ f=>unfold ET;rw[Ab Af]
theorem Ld(h:Ly D S Bv c left=none):ET D S Bv f c left=[]:=by
 cases f with
 |zero=>rfl
 |succ f=>unfold ET;rw[h];split<;>rfl
theorem Tc{y:ZC×CapT}(h0:left>0)(h:Ly D S Bv c left=some y):ET D S Bv (f+1) c left=y.1::ET D S Bv f y.2 y.1.2:=by rw[ET,Ad h0,h]
theorem nU{w n:Nat}(h:n<=4):DF w a n<16:=D8 (show DF w a n<2^n from Hx _ (Fs n)) (Cp Af h)
def cK(Bv:Nat)(depth:Int):Prop:=depth<1\/depth>12\/Jz Bv depth=false
instance(Bv:Nat)(depth:Int):Decidable (cK Bv depth):=by unfold cK;exact inferInstance
def Mk(L:List ZC)(depth:Int):ZC:=L.getLast?.getD ((0,0),depth)
def VI(D:SD)(S:Ar.ArT)(c:CapT)(Bv:Nat)(depth:Int):Ch×Int:=
 if cK Bv depth then((0,0),3) else if(Mk (ET D S Bv 13 c depth) depth).2>0 then((0,0),12) else((Mk (ET D S Bv 13 c depth) depth).1,0)
theorem Keep.appL(X:Ac)(h:Keep A B):Keep (X++A) (X++B):=by obtain⟨r,p⟩:=h;exact⟨r,(E2 X p).trans (AC X r B)⟩
theorem Keep.dropL'(X:Ac)(h:Keep A B):Keep (X++A) B:=by obtain⟨r,p⟩:=h;exact⟨X++r,by rw[Am];exact p.append_left X⟩
abbrev ptA(B b:Nat):Bh:=(B,.cells #[π b] 155 (0,0))
abbrev ptS(B b:Nat):Bh:=(B,.cells #[π b] 230 (0,0))
theorem ti(c d:CapT):Dc (τ (Cb c)) 0 (τ (Cb d)).toList=τ (Cb d):=by cases c;cases d;simp[Dc,Cb]
theorem RU(w:Nat)(hw:w<18446744073709551616)(a n:Int)(h0:0<=a)(h1:1<=n)(h2:n<=63)(h3:a+n<=64)(l:Ac):
 Fn prog 253 [υ (w:Nat),ι a,ι n] l λr l'=>r= .tuple #[υ (DF w a.toNat n.toNat:Nat),ι 0]/\l'=l:=by
 obtain⟨a,rfl⟩: ∃q:Nat,a=q:=⟨a.toNat,Af⟩
 obtain⟨n,rfl⟩: ∃q:Nat,n=q:=⟨n.toNat,Af⟩
 exact J6 w a n hw Af Af Af l
theorem tj(bs ba:Nat)(Bv:Nat)(ha:Bv<18446744073709551616)(depth:Int)(l:Ac):
 Fn prog 272 [π bs,π ba,υ (Bv:Nat),ι depth] l λv l'=>v= ι (if cK Bv depth then 3 else 0)/\l'=l:=by
 refine AO func272 ntmps272 λE=>?_;by_cases h1:depth<1
 ·rw[Ad (.inl h1)];exact Fd
 by_cases h2:depth>12
 ·rw[Ad (.inr (.inl h2))];exact Fd
 refine Aj ?_;refine MU (AI rfl rfl λl2 _=>QZ Bv ha depth l2) rfl rfl rfl ?_;cases hf:Jz Bv depth with
 |false=>rw[Ad (.inr (.inr hf))];exact Fd
 |true=>rw[Ab (by rintro(h|h|h)<;>first|omega|(rw[hf] at h;cases h))];exact Fd
theorem jn(bs ba Bv:Nat)(root:CapT)(depth:Int)(l:Ac):
 Fn prog 273 [π bs,π ba,.agg (τ (Cb root)),υ (Bv:Nat),ι depth] l λv l'=>
  ∃B1 B2 B3 B4 B5,v= .func (.func 321) #[] #[π B1,π B2,π B3,π B4,π B5]/\
   l'=GT B2 depth::RM B4 Bv::Bw B1 root::ptA B3 ba::ptS B5 bs::l:=by
 refine AO func273 ntmps273 λE=>?_;refine AR λb5=>?_;refine AR λb6=>?_;refine AR λb7=>?_;refine AR λb8=>?_;refine AR λb9=>?_;exact Bc .refl ⟨_,_,_,_,_,rfl,rfl⟩
theorem cL(B1 B2 B3 B4 B5 bs ba:Nat)(D:SD)(S:Ar.ArT)(lq la:Ac)(hq:IsS bs D lq)(hA:Ar.IsA ba S la)(hR:VH S)(Bv:Nat)(YC:Bv<18446744073709551616)(root:CapT)(depth:Int)(hd:depth<=12):
 FN prog 321 [π B1,π B2,π B3,π B4,π B5] (λy:ZC=>[.agg (τ (yX y))]) (λxs=>xs=ET D S Bv 13 root depth) (λpre=>pre<+:ET D S Bv 13 root depth)
  (λ_ l=>(∀x,x∈[GT B2 depth,RM B4 Bv,Bw B1 root,ptA B3 ba,ptS B5 bs]->x∈l)/\(∀c,c∈lq->c∈l)/\(∀c,c∈la->c∈l)):=by
 refine⟨λr I Ix G0 Cf hY l G hG h0=>?_⟩;obtain⟨n1,n2,n3⟩:=Cf _ _ G hG h0;have m1:=n1 (Bw B1 root) (by simp);have m2:=n1 (GT B2 depth) (by simp);refine AO func321 ntmps321 λE=>?_;refine Aj ?_;refine Ct [2,3] 5 _ ?_ (hR:=(λ_ h=>h));refine BJ ?_;apply CX
 ·exact e_alloc
 ·rfl
 ·rfl
 ·rfl
 ·rintro _ _ ⟨b7,_,_,rfl⟩ x hx;exact .tail _ hx
 rintro _ _ ⟨b7,hb7,rfl,rfl⟩;refine BJ ?_;refine Aj ?_;have iu:ET D S Bv 13 root depth=[]++ET D S Bv 13 root depth:=rfl;refine CF (α:=CapT×Int×List ZC×Nat×Ac) (λx=>[(0,.func (.yield r) #[] #[]),(3,π B3),(4,π B4),(5,π B5),(7,π b7),(8,ι x.2.1)]) (λx=>x.2.2.2.2++(Bw b7 x.1::G))
  (λx=>I x.2.2.1 x.2.2.2.2/\ET D S Bv 13 root depth=x.2.2.1++ET D S Bv x.2.2.2.1 x.1 x.2.1/\x.2.1<=(x.2.2.2.1:Nat)/\x.2.1<=12) (λx=>x.2.1.toNat) (root,depth,[],13,l) ⟨h0,rfl,by simp only;omega,hd⟩ ⟨rfl,rfl,rfl,rfl,rfl,rfl,trivial⟩ (Keep.of_perm AJ.symm) ?_
 clear n1 n2 n3 m1 m2 iu hb7;rintro⟨c,left,pre,f,l⟩ ⟨hI,hW,hf,hl12⟩;simp only at hI hW hf hl12⊢;obtain⟨n1,n2,n3⟩:=Cf _ _ (Bw b7 c::G) (λc hc=> .tail _ (hG c hc)) hI;have m3:=n1 (ptA B3 ba) (by simp);have m4:=n1 (RM B4 Bv) (by simp);have m5:=n1 (ptS B5 bs) (by simp);have m7:Bw b7 c∈l++(Bw b7 c::G):=Aa _ (.head _);by_cases ru:left>0
 case neg=>have hE:ET D S Bv f c left=[]:=OY Af;rw[hE,Bj] at hW;refine Aj ?_;exact Bc (Keep.appL l ζ) ⟨l,rfl,.inl ⟨pre,hW.symm,hI⟩⟩
 obtain⟨f,rfl⟩: ∃q,f=q+1:=⟨f-1,Af⟩
 refine Aj ?_;refine Be (AI rfl rfl λl2 hl=>Ar.get_any ba S la hA c.obj l2 λx hx=>hl x (n3 x hx)) ?_;obtain⟨o,ho⟩:=ξ ((Ar.getD' S c.obj).1)
 obtain⟨ok,Dh⟩:=ξ ((Ar.getD' S c.obj).2)
 have ye:jm S c=o:=ho;rw[ho,Dh];refine Aj ?_;refine AP e_alloc ?_;rintro _ _ ⟨b9,_,rfl,rfl⟩;have m7':=An (Ar.obK b9 o) m7;refine Aj ?_;refine Be (AI rfl rfl λl2 _=>IH c l2) ?_;have KS: ∀{F:Ac},¬SE S c left->Keep (Ar.obK b9 o::(l++(Bw b7 c::G))) (l++G)/\ET D S Bv 13 root depth=pre:=λh=>by have hE:ET D S Bv (f+1) c left=[]:=Ld (cJ h);rw[hE,Bj] at hW;exact⟨.drop (Keep.appL l ζ),hW⟩
 cases hM:E5 c with
 |false=>
  obtain⟨hk,lM⟩:=KS (F:=[]) λh=>by have h1:=h.1;rw[hM] at h1;cases h1
  refine Aj ?_;exact Bc hk ⟨l,rfl,.inl ⟨pre,lM.symm,hI⟩⟩
 |true=>
 by_cases LH:c.kind=2
 case neg=>obtain⟨hk,lM⟩:=KS (F:=[]) λh=>LH h.2.1;refine Aj ?_;exact Bc hk ⟨l,rfl,.inl ⟨pre,lM.symm,hI⟩⟩
 cases hokb:ok with
 |false=>
  obtain⟨hk,lM⟩:=KS (F:=[]) λh=>by have h1:=h.2.2.1;rw[Dh,hokb] at h1;cases h1
  refine Aj ?_;exact Bc hk ⟨l,rfl,.inl ⟨pre,lM.symm,hI⟩⟩
 |true=>
 rw[hokb] at Dh;by_cases Yo:o.kd=2
 case neg=>obtain⟨hk,lM⟩:=KS (F:=[]) λh=>Yo (by rw[<-ye];exact h.2.2.2.1);refine Aj ?_;exact Bc hk ⟨l,rfl,.inl ⟨pre,lM.symm,hI⟩⟩
 obtain⟨bt0,bt1,gd0,_⟩:=Pt hM LH;obtain⟨sz1,sz2⟩:1<=o.sz/\o.sz<=4:=by rw[<-ho] at Yo⊢;exact hR _ (Q5 Dh).1 Yo
 by_cases SO:c.bits+o.sz>left
 ·obtain⟨hk,lM⟩:=KS (F:=[]) λh=>by have:=h.2.2.2.2;rw[ye] at this;omega
  refine Aj ?_;exact Bc hk ⟨l,rfl,.inl ⟨pre,lM.symm,hI⟩⟩
 have hgo:SE S c left:=⟨hM,LH,Dh,by rw[ye];exact Yo,by rw[ye];omega⟩
 clear KS;refine Aj ?_;obtain⟨p1,p2,p3,p4,p5,p6⟩:=Qe hR hgo;obtain⟨x,hx⟩:=ξ (JD S Bv c left)
 have kM:x.1=o.id:=by rw[<-hx];unfold JD;rw[ye]
 have Yn:x.2=(DF Bv (GY S c left).toNat o.sz.toNat:Nat):=by rw[<-hx];unfold JD;rw[ye]
 have hlN:GY S c left=left-(c.bits+o.sz):=by unfold GY;rw[ye]
 have AiG:DF Bv (GY S c left).toNat o.sz.toNat<16:=nU Af;by_cases hb:c.bits>0
 case' pos=>
  have hgF:((fJ Bv c left:Nat):Int)=(DF Bv (left-c.bits).toNat c.bits.toNat:Nat):=by unfold fJ;rw[Ad hb]
  refine Aj ?_;refine Be (AI rfl rfl λl2 _=>RU Bv YC (left-c.bits) c.bits Af Af Af Af l2) ?_;rw[<-hgF];refine Aj ?_
 case' neg=>
  have hgF:((fJ Bv c left:Nat):Int)=0:=by unfold fJ;rw[Ab hb];rfl
  refine Aj ?_
 all_goals
  refine Be (AI rfl rfl λl2 _=>RU Bv YC (left-(c.bits+o.sz)) o.sz Af Af Af Af l2) ?_;rw[<-hlN,<-Yn];refine AR λaT=>?_;have HG: ∀l2,(∀z,z∈lq->z∈l2)->Fn prog 229 [π bs,.agg (τ [ι o.id,ι x.2])] l2 λv l'=>v= .tuple #[.agg (τ (Cb (getD' D x).1)),ι (getD' D x).2]/\l'=l2:=λl2 h=>by rw[<-kM];exact get_any bs D lq hq x l2 h
  refine Be (AI rfl rfl λl2 hl=>HG l2 λz hz=>hl z (.tail _ (.tail _ (n2 z hz)))) ?_;obtain⟨nx,W8⟩:=ξ ((getD' D x).1)
  obtain⟨er,her⟩:=ξ ((getD' D x).2)
  rw[W8,her];refine Aj ?_;refine AP e_alloc ?_;rintro _ _ ⟨YD,_,rfl,rfl⟩;have m7b:=An (Dz aT (o.id,x.2)) m7';refine Aj ?_;refine Be (Ow rfl) ?_;rw[Wj];have hK:Keep (Bw YD nx::Dz aT (o.id,x.2)::Ar.obK b9 o::(l++(Bw b7 c::G))) (l++G):= .drop (.drop (.drop (Keep.appL l ζ)));by_cases hg:fJ Bv c left=Ob c.guard
  case neg=>have hE:ET D S Bv (f+1) c left=[]:=Ld (Qf λh=>hg h.1);rw[hE,Bj] at hW;refine Aj ?_;exact Bc hK ⟨l,rfl,.inl ⟨pre,hW.symm,hI⟩⟩
  by_cases he0:er=0
  case neg=>have hE:ET D S Bv (f+1) c left=[]:=Ld (Qf λh=>he0 (by rw[<-her,<-hx];exact h.2));rw[hE,Bj] at hW;refine Aj ?_;exact Bc hK ⟨l,rfl,.inl ⟨pre,hW.symm,hI⟩⟩
  have LF:Ly D S Bv c left=some ((x,GY S c left),nx):=by rw[RS hgo ⟨hg,by rw[hx,her,he0]⟩,hx,W8]
  have hE:ET D S Bv (f+1) c left=(x,GY S c left)::ET D S Bv f nx (GY S c left):=Tc ru LF;rw[hE] at hW;have Gx:pre++[(x,GY S c left)]<+:ET D S Bv 13 root depth:=by rw[hW];exact⟨ET D S Bv f nx (GY S c left),by simp⟩
  have hy:=hY pre (x,GY S c left) l (Bw YD nx::Dz aT (o.id,x.2)::Ar.obK b9 o::Bw b7 c::G) (λz hz=> .tail _ (.tail _ (.tail _ (.tail _ (hG z hz))))) hI Gx;rw[show yX (x,GY S c left)=[ι o.id,ι x.2,ι (GY S c left)] by rw[<-kM]] at hy;refine Aj ?_;refine Bt (Keep.in_mid [Bw YD nx,Dz aT (o.id,x.2),Ar.obK b9 o] l (Bw b7 c::G)) ?_;refine IE (C8 rfl rfl hy) rfl rfl rfl ?_;rintro w l' ⟨l1,rfl,⟨rfl,Kz⟩|⟨rfl,hx⟩⟩
  case' inr=>
   refine Aj ?_;exact Bc (Keep.appL l1 φ) ⟨l1,rfl,.inr ⟨_,Gx,hx⟩⟩
  all_goals
   have q15:Bw YD nx∈l1++(Bw YD nx::Dz aT (o.id,x.2)::Ar.obK b9 o::Bw b7 c::G):=Aa _ (.head _);refine Aj ?_;apply Nk
   ·exact EG (b:=b7) (off:=0) (cs:=τ (Cb c)) (ws:=τ (Cb nx)) (n:=8) (l':=l1++(Bw YD nx::Dz aT (o.id,x.2)::Ar.obK b9 o::Bw b7 nx::G)) rfl rfl rfl (by simp[Value.oneCell']) (by rw[ti];exact eY (.there (.there (.there .here))) l1) (by simp)
   ·rfl
   ·rfl
   rintro _ _ ⟨rfl,rfl⟩;refine Aj ?_;refine BZ (nx,GY S c left,pre++[(x,GY S c left)],f,l1) ⟨Kz,?_,?_,?_⟩ ?_ ⟨rfl,rfl,rfl,rfl,rfl,rfl,trivial⟩ (Keep.appL l1 σ)
   ·rw[hW];simp
   ·simp only;omega
   ·simp only;omega
   ·simp only;omega
theorem Uy(pre:List ZC)(x:ZC)(d:Int):Mk (pre++[x]) d=x:=by simp[Mk]
theorem WB(D:SD)(S:Ar.ArT)(Bv:Nat): ∀(f:Nat) (c:CapT) (left:Int) (pre:List ZC) (x:ZC),pre++[x]<+:ET D S Bv f c left->x.2=0->ET D S Bv f c left=pre++[x]
 |0,c,left,pre,x,h,_=>by have:=h.length_le;simp[ET] at this
 |f+1,c,left,pre,x,h,hx=>by
  by_cases hl:left>0
  ·cases hs:Ly D S Bv c left with
   |none=>rw[Ld hs] at h;have:=h.length_le;simp at this
   |some y=>
    rw[Tc hl hs] at h⊢;cases pre with
    |nil=>obtain⟨t,ht⟩:=h;simp only[Ag,Ae,Cj] at ht;rw[<-ht.1,OY Af];rfl
    |cons p pre=>obtain⟨t,ht⟩:=h;simp only[Ae,Cj] at ht;rw[WB D S Bv f y.2 y.1.2 pre x ⟨t,ht.2⟩ hx,<-ht.1];rfl
  ·rw[OY Af] at h;have:=h.length_le;simp at this
abbrev stC(B:Nat)(y:ZC):Bh:=(B,.cells (τ (yX y)) 442 (0,0))
theorem ZD(bs ba:Nat)(D:SD)(S:Ar.ArT)(lq la:Ac)(hq:IsS bs D lq)(hA:Ar.IsA ba S la)(hR:VH S)(Bv:Nat)(YC:Bv<18446744073709551616)(root:CapT)(depth:Int)(l:Ac)(h1: ∀c,c∈lq->c∈l)(h2: ∀c,c∈la->c∈l):
 Fn prog 206 [π bs,π ba,.agg (τ (Cb root)),υ (Bv:Nat),ι depth] l λv l'=>v= .tuple #[.agg (τ (Cd (VI D S root Bv depth).1)),ι (VI D S root Bv depth).2]/\l'=l:=by
 refine AO func206 ntmps206 λE=>?_;refine AR λb7=>?_;refine AR λGW=>?_;refine Be (AI rfl rfl λl2 _=>tj bs ba Bv YC depth l2) ?_;by_cases hb:cK Bv depth
 ·rw[Ad hb,show VI D S root Bv depth=((0,0),3) by unfold VI;rw[Ad hb]];refine Aj ?_;exact CY (l':=l) (Dz GW (0,0)::l) AY ζ ⟨rfl,rfl⟩
 rw[Ab hb];have Ae9:depth<=12:=Decidable.byContradiction λh=>hb (.inr (.inl Af));have hd1:1<=depth:=Decidable.byContradiction λh=>hb (.inl Af);refine AR λQs=>?_;refine AP (Az rfl rfl (jn bs ba Bv root depth _)) ?_;rintro _ _ ⟨B1,B2,B3,B4,B5,rfl,rfl⟩;refine Aj ?_;obtain⟨L,hL⟩:=ξ (ET D S Bv 13 root depth)
 have yf:VI D S root Bv depth=if(Mk L depth).2>0 then((0,0),12) else((Mk L depth).1,0):=by unfold VI;rw[Ab hb,hL]
 refine Dj (α:=ZC) (ps:=[32]) (lb:=[π B1,π B2,π B3,π B4,π B5]) rfl (cL B1 B2 B3 B4 B5 bs ba D S lq la hq hA hR Bv YC root depth Ae9) (λ_=>rfl) rfl
  (λpre l=>l=[GT B2 depth,RM B4 Bv,Bw B1 root,ptA B3 ba,ptS B5 bs,stC Qs (Mk pre depth)]/\True)
  (λc pre l=>c= .exit 0/\ ∃(Hh:List ZC) (x:ZC),pre=Hh++[x]/\x.2=0/\l=[stC Qs x])
  _ (Dz GW (0,0)::Bw b7 root::l) (λpre l2 X2 hX h=>⟨λx hx=>by rw[h.1];exact Ai _ (by simp only[Au,BR,EF] at hx⊢;rcases hx with h|h|h|h|h<;>simp[h]),λc hc=>Aa _ (hX _ (.tail _ (.tail _ (h1 _ hc)))),λc hc=>Aa _ (hX _ (.tail _ (.tail _ (h2 _ hc))))⟩) AY ⟨rfl,trivial⟩ ?_ ?_ ?_
 ·rintro E r0 Gb pre x l' T ⟨fn,tmps,D0,rfl⟩ hT ⟨rfl,_⟩ DG;simp only[DY,Ae,Ag];refine AR λaT=>?_;refine CP D1 ?_;refine Aj ?_;by_cases hy:x.2=0
  ·refine Aj ?_;refine Fe [stC Qs x] AY ⟨rfl,pre,x,rfl,hy,rfl⟩
  ·refine Aj ?_;refine Cn [GT B2 depth,RM B4 Bv,Bw B1 root,ptA B3 ba,ptS B5 bs,stC Qs x] AY ⟨by rw[Uy],trivial⟩
 ·rintro D0 xs l' rfl ⟨rfl,_⟩;rw[hL] at*;simp only[Ae,Ag];refine Aj ?_;by_cases hz:(Mk L depth).2>0
  ·rw[yf,Ad hz];refine Aj ?_;exact AU [D0] (Dz GW (0,0)::l) rfl (l':=l) AY Ba ζ ⟨rfl,rfl⟩
  ·rw[yf,Ab hz];refine Aj ?_;exact AU [D0] (Dz GW (Mk L depth).1::l) rfl (l':=l) AY Ba ζ ⟨rfl,rfl⟩
 ·rintro D0 c pre l' DG ⟨rfl,Hh,x,rfl,lu,rfl⟩;have hLx:L=Hh++[x]:=by rw[<-hL];exact WB D S Bv 13 root depth Hh x DG lu
  rw[yf,hLx,Uy,Ab Af];simp only[Ae,Ag];refine Aj ?_;exact AU [D0] (Dz GW x.1::l) rfl (l':=l) AY Ba ζ ⟨rfl,rfl⟩
end Go.Proofs.YtlifcingifodfaaGreat
