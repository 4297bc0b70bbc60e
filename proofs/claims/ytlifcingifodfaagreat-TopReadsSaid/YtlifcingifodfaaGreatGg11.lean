/- Laws that the statement's proof leans on (joined out of several texts). -/
import Derived.Test.YtlifcingifodfaaGreatGg10
set_option maxHeartbeats 4000000
set_option linter.unusedVariables false
set_option linter.unusedSimpArgs false
namespace Go.Proofs.YtlifcingifodfaaGreat
open Tryz
open List(toArray)
variable{S:Ar.ArT}{c:CapT}{left:Int}{D:SD}{Ck f a:Nat}{A B:Ac}
namespace Tr
open Go.RowKit
set_option maxRecDepth 20000
theorem remove_any(b:Nat)(D:DT)(lq:Ac)(hq:IsT b D lq)(hd:SmallD D)(s:SlotT)(G:Ac):
 Fn prog 363 [.pointer (some ⟨b,0,none⟩),.agg (toArray (Cw s))] (lq++G) λv l'=>v= .int .i64 (removeD D s).1/\ ∃DF,IsT b (removeD D s).2 DF/\l'=DF++G:=by
 obtain⟨rb,m,F,all,os,es,clock,rfl,hT⟩:=hq;refine AN func363 ntmps363 λE=>?_;refine gz ?_;refine AS (CH rfl) ?_;rintro _ _ ⟨b3,hb3,rfl,rfl⟩;have LA: ∀lq:Ac,Keep (lq++(Dv b3 s::G)) (lq++G):=λlq=>Keep.trans (.of_perm AI) (.drop .refl);refine Bs (Keep.of_perm (l':=lq++(Dv b3 s::G)) AI.symm) ?_;have CG: ∀c,c∈lq->c∈lq++(Dv b3 s::G):=λc hc=>Ai _ hc;have hbm:Dv b3 s∈lq++(Dv b3 s::G):=Aa _ (.head _);refine gz ?_;refine Bh (AL rfl rfl λl2 Lf=>of_any b rb m F all os es clock lq s hT l2 λc hc=>Lf c (CG c hc)) ?_;cases hbk:blk F os s with
 |none=>rw[show removeD (Ft F os) s=(10,Ft F os) by unfold removeD;rw[JY hbk]];simp only[No];refine gz ?_;exact Bb (l':=lq++G) (LA lq) ⟨rfl,lq,⟨rb,m,F,all,os,es,clock,rfl,hT⟩,rfl⟩
 |some p=>
  obtain⟨A,B,rfl,h2⟩:=Hf hbk;have NO:=(Iu hbk).2;obtain⟨oA,oB,rA,rB,prb⟩:=hT.out;obtain⟨uA,uB⟩:=hT.uniq;have hBn:B.Nodup:=(AP.1 (BC.1 (AP.1 hT.ond).2).2.1).2;obtain⟨tw,JA⟩: ∃tw,tw=B.takeWhile λq=>decide ((F p).dp<(F q).dp):=⟨_,rfl⟩
  have wF: ∀q,q∈tw->q∈B:=λq hq=>by rw[JA] at hq;exact(Ek _).subset hq
  have wz:p∈all:=hT.sub p (by simp);rw[show removeD (Ft F (A++p::B)) s=(0,Ft F A++Ft (Nr F tw) B) by unfold removeD;rw[h2];simp only;rw[JA,rO hBn]];simp only[No];refine gz ?_;refine AS (Dn rfl rfl (V4 _ _ _)) ?_;rintro v l' ⟨C1,C2,rfl,rfl⟩;refine gz ?_;refine Dg (α:=Nat) (ps:=[19]) (lb:=[.pointer (some ⟨C2,0,none⟩),.pointer (some ⟨C1,0,none⟩)]) rfl (Ua C1 C2 b rb m p F all (A++p::B) es clock lq hT (rb::A) B rfl) (λ_=>rfl) rfl
   (λpre l=>l=YU C1 p::Z1 C2 b::Lp b rb m::(m,Ii Cw es clock)::OG (Nr F pre) all)
   (λc pre l=>False)
   _ (Dv b3 s::G) (λpre l2 X2 hX h=>by
     subst h;refine⟨.head _,.tail _ (.head _),.tail _ (.tail _ (.head _)),λq hq=>?_⟩;have hqa:q∈all:=by
      rcases At.1 hq with rfl|hq
      ·exact hT.rin
      ·exact hT.sub q hq
     exact⟨Nr F pre q,.tail _ (.tail _ (.tail _ (.tail _ (Ai _ (Qw hqa))))),(T4 F pre q).2.1,λhn=>by rw[ML hn]⟩)
   (by rw[hT.eq,Rm (F:=F) (F':=Nr F []) λq _=>(ML (by simp)).symm];exact .refl) rfl ?_ ?_ ?_
  ·rintro E r0 FU pre y l' T ⟨fn,tmps,Dd,rfl⟩ Q8 rfl Dw;have hyB:y∈B:=wF y (by rw[JA];exact Dw.subset (by simp));have hya:y∈all:=hT.sub y (Aa _ (.tail _ hyB));have wE:y∉pre:=λh=>by
    have h1:(pre++[y]).Nodup:=(Dw.trans (Ek _)).sublist.nodup hBn;exact(BC.1 h1).2.2 y h y (by simp) rfl
   have hr:=hd _ (Av.2 ⟨y,Aa _ (.tail _ hyB),rfl⟩);simp only at hr;simp only[DX,Ae,Ag];refine gz ?_;refine CK (.there (.there (.there (.there (FK _ _ _ _ _))))) ?_;generalize hX1:(r0,Obj.loop (DR fn tmps _ _ _ Dd .busy none))::T=X1;have hmy:OF y (F y)∈OG (Nr F pre) all++X1:=Ai _ (by have:=Qw (F:=Nr F pre) hya;rw[ML wE] at this;exact this);refine gz ?_;have hu:=L8 (F:=Nr F pre) {F y with dp:=(F y).dp-1} hT.nd hya;rw[ML wE,ij wE] at hu;refine M9 (Du (b:=y) (off:=2) (cs:=toArray (F y).cells) rfl rfl rfl (.there (.there (.there (.there (Ki hu _))))) (by simp)) rfl rfl ?_;rintro _ _ ⟨rfl,rfl⟩;refine gz ?_;rw[<-hX1];exact Ci (_::_::_::_::OG (Nr F (pre++[y])) all) .refl rfl
  ·rintro Dd xs l' rfl rfl;rw[<-JA];simp only[Ae,Ag];obtain⟨F1,hF1⟩: ∃F1,F1=Nr F tw:=⟨_,rfl⟩
   have e1: ∀q,(F1 q).sl=(F q).sl/\(F1 q).nx=(F q).nx/\(F1 q).pv=(F q).pv:=λq=>by rw[hF1];exact T4 F tw q
   have wB: ∀q,q∉tw->F1 q=F q:=λq hq=>by rw[hF1];exact ML hq
   rw[<-hF1];refine Ky (l':=Cr Dd::Lp b rb m::(m,Ii Cw es clock)::(OG F1 all++(Dv b3 s::G))) (by exact AW) ?_;obtain⟨X,pp,hXp⟩: ∃X pp,rb::A=X++[pp]:=⟨_,_,(G6 (Mw rb A)).symm⟩
   obtain⟨nn,Z,hnZ⟩: ∃nn Z,B++[rb]=nn::Z:=by cases B with|nil=>exact⟨_,_,rfl⟩|cons y Y=>exact⟨_,_,rfl⟩
   have hL:rb::(A++p::B++[rb])=X++pp::p::nn::Z:=by
    have:rb::(A++p::B++[rb])=(rb::A)++(p::(B++[rb])):=by simp
    rw[this,hXp,hnZ];simp
   have Pk:=hT.adj;rw[hL] at Pk;have qx:=(Np Pk).2;have hnn:(F p).nx=nn:=(Np (X:=X++[pp]) (p:=p) (n:=nn) (Z:=Z) (by simpa using Pk)).1;have gn: ∀q,q∈X++pp::p::nn::Z->q∈all:=λq hq=>by
    rw[<-hL] at hq;rcases At.1 hq with rfl|hq
    ·exact hT.rin
    ·rcases AF.1 hq with hq|hq
     ·exact hT.sub q hq
     ·rw[AC.1 hq];exact hT.rin
   have Ad4:pp∈all:=gn pp (by simp);have Ad5:nn∈all:=gn nn (by simp);have kG:F1 p=F p:=wB p λh=>oB (wF p h);have wA: ∀d:Bd,OF p (F p)∈d::Lp b rb m::(m,Ii Cw es clock)::(OG F1 all++(Dv b3 s::G)):=λd=> .tail _ (.tail _ (.tail _ (Ai _ (by have:=Qw (F:=F1) wz;rw[kG] at this;exact this))));refine gz ?_;refine Cm [18,21] 22 ([]) ?_;refine pz ?_;apply Gp (S:=[OF p (F p)]);(·exact Vb);(·exact C7 (wA _));(·rfl);(·rfl);(·rfl);refine pz ?_;apply Gp (S:=[OF p (F p)]);(·exact Vb);(·exact C7 (wA _));(·rfl);(·rfl);(·rfl);refine pz ?_;apply Gp (S:=[OF p (F p)]);(·exact Vb);(·exact C7 (wA _));(·rfl);(·rfl);(·rfl);refine pz ?_;apply Gp (S:=[OF p (F p)]);(·exact Vb);(·exact C7 (wA _));(·rfl);(·rfl);(·rfl);rw[qx,hnn];refine pz ?_;obtain⟨F2,Ta⟩: ∃F2,F2=upd F1 pp {F1 pp with nx:=nn}:=⟨_,rfl⟩
   obtain⟨F3,hF3⟩: ∃F3,F3=upd F2 nn {F2 nn with pv:=pp}:=⟨_,rfl⟩
   apply Hy
   ·exact Du (b:=pp) (off:=4) (cs:=toArray (F1 pp).cells) rfl rfl rfl (.there (.there (.there (Ki (L8 {F1 pp with nx:=nn} hT.nd Ad4) _)))) (by simp)
   (·rfl);(·rfl);(·intro _ _ _ c hc;cases hc);(·exact λ_ _ _ x hx ha=>Dh BA hx ha)
   rintro _ _ ⟨rfl,rfl⟩;rw[<-Ta];refine pz ?_;apply Hy
   ·exact Du (b:=nn) (off:=3) (cs:=toArray (F2 nn).cells) rfl rfl rfl (.there (.there (.there (Ki (L8 {F2 nn with pv:=pp} hT.nd Ad5) _)))) (by simp)
   (·rfl);(·rfl);(·intro _ _ _ c hc;cases hc);(·exact λ_ _ _ x hx ha=>Dh BA hx ha)
   rintro _ _ ⟨rfl,rfl⟩;rw[<-hF3];refine pz ?_;refine gz ?_;refine Cm [5] 6 ([]) ?_;refine pz ?_;apply Gp (S:=[Lp b rb m]);(·exact Vb);(·exact C7 (.tail _ (.head _)));(·rfl);(·rfl);(·rfl);refine pz ?_;apply Gp (S:=[Dv b3 s]);(·exact Vb);(·exact C7 (.tail _ (.tail _ (.tail _ (Aa _ (.head _))))));(·rfl);(·rfl);(·rfl);refine pz ?_;apply Hy
   ·apply VF (enc:=Cw) (a:=s) (es:=es) (clock:=clock) (ks:=[some .i64,some .i64])
    ·rfl
    ·rfl
    ·exact Nn
    ·exact DY
   (·rfl);(·rfl);(·intro _ _ _ c hc;cases hc);(·exact λ_ _ _ x hx ha=>Dh BA hx ha)
   rintro _ _ ⟨rfl,rfl⟩;refine pz ?_;refine gz ?_;have e3: ∀q,(F3 q).sl=(F q).sl/\(F3 q).dp=(F1 q).dp:=λq=>by
    rw[<-(e1 q).1,hF3,Ta];unfold upd
    split<;>split<;>simp_all
   have zE: ∀q,(F3 q).nx=if q=pp then nn else(F q).nx:=λq=>by
    rw[<-(e1 q).2.1,hF3,Ta];unfold upd
    split<;>split<;>simp_all
   have zF: ∀q,(F3 q).pv=if q=nn then pp else(F q).pv:=λq=>by
    rw[<-(e1 q).2.2,hF3,Ta];unfold upd
    split<;>split<;>simp_all
   have eA: ∀q,q∈A->(F3 q).sl=(F q).sl/\(F3 q).dp=(F q).dp:=λq hq=>by refine⟨(e3 q).1,?_⟩;rw[(e3 q).2,wB q λh=>?_];have hn:=(AP.1 hT.ond).2;exact(BC.1 hn).2.2 q hq q (.tail _ (wF q h)) rfl
   obtain⟨DF,Q9⟩: ∃DF,DF=Lp b rb m::(m,Ii Cw (Po s es) clock)::OG F3 all:=⟨_,rfl⟩
   refine AU [Dd] (Lp b rb m::(m,Ii Cw (Po s es) clock)::(OG F3 all++(Dv b3 s::G))) rfl (l':=DF++G) .refl (by exact Ba) ?_ ⟨rfl,DF,⟨rb,m,F3,all,A++B,_,_,?_,⟨Q9,hT.nd,hT.rin,λq hq=>hT.sub q ?_,?_,?_,?_,hT.keys.del s,λs'=>?_⟩⟩,rfl⟩
   ·have h9:=LA DF;rw[Q9] at h9;rw[Q9];exact h9
   ·show Ft F3 (A++B)=Ft F A++Ft F1 B;have:Ft F3 (A++B)=Ft F3 A++Ft F3 B:=by unfold Ft;rw[Aq]
    rw[this,O7 (F:=F) (F':=F3) (os:=A) eA,O7 (F:=F1) (F':=F3) (os:=B) λq hq=>⟨by rw[(e3 q).1,(e1 q).1],(e3 q).2⟩]
   ·rcases AF.1 hq with hq|hq
    ·exact Ai _ hq
    ·exact Aa _ (.tail _ hq)
   ·exact hT.ond.sublist (List.Sublist.cons_cons _ (Gk (D9 _ _) _))
   ·have P3:rb::(A++B++[rb])=X++pp::nn::Z:=by
     have:rb::(A++B++[rb])=(rb::A)++(B++[rb]):=by simp
     rw[this,hXp,hnZ];simp
    rw[P3];refine PQ Pk ?_ ?_ (λu h1=>?_) (λv h1=>?_) ?_ ?_
    ·rw[<-hL,<-Ae,List.dropLast_concat];exact hT.ond
    ·rw[<-hL,Jd,BC];have:=AP.1 hT.ond;exact⟨this.2,by simp,λa ha c hc e=>this.1 (by rw[AC.1 hc] at e;rw[<-e];exact ha)⟩
    ·rw[zE,Ab h1]
    ·rw[zF,Ab h1]
    ·rw[zE,Ad rfl]
    ·rw[zF,Ad rfl]
   ·rw[show(A++B).map (λq=>(F3 q).sl)=(A++B).map (λq=>(F q).sl) from By λq _=>(e3 q).1];exact hT.snd.sublist ((Gk (D9 _ _) _).map _)
   ·show _=(blk F3 (A++B) s').map _;rw[Qg hT.keys,hT.get];show(if s'=s then none else(blk F (A++p::B) s').map _)=_;rw[O6 (F:=F) (F':=F3) λq _=>(e3 q).1,W3,NO];have aa:blk F (A++B) s'=(blk F A s').or (blk F B s'):=by unfold blk;rw[Eg]
    rw[aa];by_cases qD:s'=s
    ·subst qD;rw[NO] at uA uB;rw[Ad rfl,H0.2 uA,H0.2 uB];rfl
    ·rw[Ab qD,Ab (show ¬s=s' from λe=>qD e.symm)]
  ·rintro Dd c pre l' Dw h;exact h.elim
open Go.RowKit
set_option maxRecDepth 20000
section
variable{P:Program}{ro:Option Nat}{N:Nat}{fr:Fr}{R:Ac}{d:Option Nat}{ty t t2:TypeId}{pos:String}{aft:Array Edge}{g:Option (Nat×Bool)}{x y:Operand}
end
theorem swap_any(b:Nat)(D:DT)(lq:Ac)(hq:IsT b D lq)(a c:SlotT)(G:Ac):
 Fn prog 287 [.pointer (some ⟨b,0,none⟩),.agg (toArray (Cw a)),.agg (toArray (Cw c))] (lq++G) λv l'=>v= .int .i64 0/\ ∃DF,IsT b (swapD D a c) DF/\l'=DF++G:=by
 have M3:=hq;obtain⟨rb,m,F,all,os,es,clock,rfl,hT⟩:=hq;refine AN func287 ntmps287 λE=>?_;refine gz ?_;refine AS (CH rfl) ?_;rintro _ _ ⟨b4,hb4,rfl,rfl⟩;refine gz ?_;refine AS (CH rfl) ?_;rintro _ _ ⟨b5,zG,rfl,rfl⟩;have LA: ∀lq:Ac,Keep (lq++(Dv b5 c::Dv b4 a::G)) (lq++G):=λlq=>Keep.trans (.of_perm (AA lq [Dv b5 c,Dv b4 a] G)) (.drop (.drop .refl));refine Bs (Keep.of_perm (l':=lq++(Dv b5 c::Dv b4 a::G)) (AA [Dv b5 c,Dv b4 a] lq G)) ?_;have CG: ∀x,x∈lq->x∈lq++(Dv b5 c::Dv b4 a::G):=λx hx=>Ai _ hx;have hm4:Dv b4 a∈lq++(Dv b5 c::Dv b4 a::G):=Aa _ (.tail _ (.head _));have kD:Dv b5 c∈lq++(Dv b5 c::Dv b4 a::G):=Aa _ (.head _);refine gz ?_;refine Cm [] 8 _ ?_ (hR:=(λ_ h=>h));refine pz ?_;apply Eo
 ·exact AL rfl rfl λl2 Lf=>of_any b rb m F all os es clock lq a hT l2 λx hx=>Lf x (CG x hx)
 ·rfl
 ·rfl
 ·rfl
 refine pz ?_;apply Eo
 ·exact AL rfl rfl λl2 Lf=>of_any b rb m F all os es clock lq c hT l2 λx hx=>Lf x (CG x hx)
 ·rfl
 ·rfl
 ·rfl
 refine pz ?_;cases hba:blk F os a with
 |none=>
  cases hbc:blk F os c with
  |none=>rw[T5 (Kk hba) (Kk hbc)];simp only[No];refine gz ?_;exact Bb (l':=lq++G) (LA lq) ⟨rfl,lq,M3,rfl⟩
  |some y=>simp only[No];refine gz ?_;refine Bh (mu rfl rfl) ?_;refine gz ?_;have wG:=move_any b (Ft F os) lq M3 c a (Dv b5 c::Dv b4 a::G);rw[VY hT hbc hba,bf] at wG;refine AS (Az rfl rfl wG) ?_;rintro _ _ ⟨rfl,DF,hq',rfl⟩;refine gz ?_;exact Bb (l':=DF++G) (LA DF) ⟨rfl,DF,hq',rfl⟩
 |some x=>
  cases hbc:blk F os c with
  |none=>simp only[No];refine gz ?_;have wG:=move_any b (Ft F os) lq M3 a c (Dv b5 c::Dv b4 a::G);rw[VY hT hba hbc] at wG;refine AS (Az rfl rfl wG) ?_;rintro _ _ ⟨rfl,DF,hq',rfl⟩;refine gz ?_;exact Bb (l':=DF++G) (LA DF) ⟨rfl,DF,hq',rfl⟩
  |some y=>
   have PG:=Iu hba;have ac:=Iu hbc;have pT:x∈all:=hT.sub x PG.1;have hya:y∈all:=hT.sub y ac.1;simp only[No];refine gz ?_;refine Bh (rn rfl rfl AX (CG _ (hT.m3 pT)) (CG _ (hT.m3 hya))) ?_;by_cases uy:a=c
   ·subst uy;rw[hba] at hbc;obtain rfl:x=y:=AZ hbc;rw[AbJ,show swapD (Ft F os) a a=Ft F os by unfold swapD;rw[By λz _=>ik a z,List.map_id']];refine gz ?_;exact Bb (l':=lq++G) (LA lq) ⟨rfl,lq,M3,rfl⟩
   ·have UT:x≠y:=λe=>uy (by rw[<-PG.2,<-ac.2,e]);rw[AbK UT];refine gz ?_;refine Em (l':=Lp b rb m::Dv b5 c::Dv b4 a::(m,Ii Cw es clock)::(OG F all++G)) ?_ ?_
    ·rw[hT.eq];refine Keep.of_perm (List.Perm.cons _ ?_);exact AA ((m,Ii Cw es clock)::OG F all) [Dv b5 c,Dv b4 a] G
    obtain⟨F1,hF1⟩: ∃F1,F1=upd F x {F x with sl:=c}:=⟨_,rfl⟩
    obtain⟨F2,Ta⟩: ∃F2,F2=upd F1 y {F1 y with sl:=a}:=⟨_,rfl⟩
    refine gz ?_;refine Cm [6,9] 10 ([Dv b5 c,Dv b4 a]) ?_;refine pz ?_;apply Oe
    ·exact EH (b:=x) (off:=0) (cs:=toArray (F x).cells) (n:=2) rfl rfl rfl (by simp[Value.oneCell']) (.there (.there (.there (.there (Ki (L8 {F x with sl:=c} hT.nd pT) _))))) (by simp)
    ·rfl
    ·rfl
    ·rintro _ _ ⟨rfl,rfl⟩;exact(Cg (by exact MG))
    rintro _ _ ⟨rfl,rfl⟩;rw[<-hF1];refine pz ?_;apply Oe
    ·exact EH (b:=y) (off:=0) (cs:=toArray (F1 y).cells) (n:=2) rfl rfl rfl (by simp[Value.oneCell']) (.there (.there (.there (.there (Ki (L8 {F1 y with sl:=a} hT.nd hya) _))))) (by simp)
    ·rfl
    ·rfl
    ·rintro _ _ ⟨rfl,rfl⟩;exact(Cg (by exact MG))
    rintro _ _ ⟨rfl,rfl⟩;rw[<-Ta];refine pz ?_;obtain⟨A1,e1,B1,k1,k2,k3,k4,k5,k6⟩:=ey (v:= .pointer (some ⟨y,0,none⟩)) hT.keys (a:=a) (u:= .pointer (some ⟨x,0,none⟩)) (by rw[hT.get];show(blk F os a).map _=_;rw[hba];rfl);have Wy:=hT.keys.set a (.pointer (some ⟨y,0,none⟩));rw[k6] at Wy;obtain⟨A2,e2,B2,j1,j2,j3,j4,j5,j6⟩:=ey (v:= .pointer (some ⟨x,0,none⟩)) Wy (a:=c) (u:= .pointer (some ⟨y,0,none⟩)) (by rw[Kh,Ab (λe=>uy e.symm),hT.get];show(blk F os c).map _=_;rw[hbc];rfl);have Wz:=Wy.set c (.pointer (some ⟨x,0,none⟩));rw[j6] at Wz;obtain⟨es1,hes1⟩: ∃es1,es1=(LI a (.pointer (some ⟨y,0,none⟩)) clock es).1:=⟨_,rfl⟩
    obtain⟨es2,hes2⟩: ∃es2,es2=(LI c (.pointer (some ⟨x,0,none⟩)) clock es1).1:=⟨_,rfl⟩
    rw[<-hes1] at k5 Wy j1 j5 Wz;rw[<-hes2] at j5 Wz;refine gz ?_;refine Cm [12,14,15,17] 18 ([Lp b rb m,Dv b5 c,Dv b4 a]) ?_;refine pz ?_;apply CM
    ·apply RE (enc:=Cw) (a:=a) (es:=es) (clock:=clock) (ks:=[some .i64,some .i64]) (A:=A1) (e:=e1) (B:=B1) (m:=m) (l':=[])
     ·rfl
     ·rfl
     ·exact Nn
     ·exact k1
     ·exact k2
     ·exact k3
     ·exact BW
    ·rfl
    ·rfl
    ·rfl
    ·rintro _ _ ⟨rfl,rfl⟩;exact(Cg (by exact MG))
    rintro _ _ ⟨rfl,rfl⟩;refine pz ?_;apply Oe
    ·apply Py (enc:=Cw) (es:=es) (clock:=clock) (A:=A1) (e:=e1) (B:=B1) (m:=m) (v:= .pointer (some ⟨y,0,none⟩))
     ·rfl
     ·rfl
     ·rfl
     ·exact k1
     ·exact k4
     ·rw[k5];exact DY
    ·rfl
    ·rfl
    ·rintro _ _ ⟨rfl,rfl⟩;exact(Cg (by exact MG))
    rintro _ _ ⟨rfl,rfl⟩;refine pz ?_;apply CM
    ·apply RE (enc:=Cw) (a:=c) (es:=es1) (clock:=clock) (ks:=[some .i64,some .i64]) (A:=A2) (e:=e2) (B:=B2) (m:=m) (l':=[])
     ·rfl
     ·rfl
     ·exact Nn
     ·exact j1
     ·exact j2
     ·exact j3
     ·exact BW
    ·rfl
    ·rfl
    ·rfl
    ·rintro _ _ ⟨rfl,rfl⟩;exact(Cg (by exact MG))
    rintro _ _ ⟨rfl,rfl⟩;refine pz ?_;apply Oe
    ·apply Py (enc:=Cw) (es:=es1) (clock:=clock) (A:=A2) (e:=e2) (B:=B2) (m:=m) (v:= .pointer (some ⟨x,0,none⟩))
     ·rfl
     ·rfl
     ·rfl
     ·exact j1
     ·exact j4
     ·rw[j5];exact DY
    ·rfl
    ·rfl
    ·rintro _ _ ⟨rfl,rfl⟩;exact(Cg (by exact MG))
    rintro _ _ ⟨rfl,rfl⟩;refine pz ?_;refine gz ?_;have elx:(F2 x).sl=c:=by rw[Ta,Dl _ _ _ _ UT,hF1,DL]
    have ely:(F2 y).sl=a:=by rw[Ta,DL]
    have zI: ∀q,q≠x->q≠y->(F2 q).sl=(F q).sl:=λq h1 h2=>by rw[Ta,Dl _ _ _ _ h2,hF1,Dl _ _ _ _ h1]
    have el: ∀q,(F2 q).nx=(F q).nx/\(F2 q).pv=(F q).pv/\(F2 q).dp=(F q).dp:=λq=>by rw[Ta,hF1];unfold upd;split<;>split<;>simp_all
    have hun: ∀q r,q∈os->r∈os->(F q).sl=(F r).sl->q=r:=λq r hq hr e=>by
     obtain⟨A,B,rfl⟩:=GN hr;obtain⟨uA,uB⟩:=hT.uniq;rcases AF.1 hq with hq|hq
     ·exact absurd e (uA q hq)
     ·rcases At.1 hq with rfl|hq
      ·rfl
      ·exact absurd e (uB q hq)
    have hsw: ∀q,q∈os->((F2 q).sl,(F2 q).dp)=MM a c ((F q).sl,(F q).dp):=λq hq=>by
     unfold MM;by_cases h1:q=x
     ·rw[h1,elx,(el x).2.2];simp only;rw[Ad PG.2]
     ·by_cases h2:q=y
      ·rw[h2,ely,(el y).2.2];simp only;rw[Ab (by rw[ac.2];exact λe=>uy e.symm),Ad ac.2]
      ·rw[zI q h1 h2,(el q).2.2];simp only;rw[Ab (λe=>h1 (hun q x hq PG.1 (by rw[e,PG.2]))),Ab (λe=>h2 (hun q y hq ac.1 (by rw[e,ac.2])))]
    have XW: ∀s',HW s' es2=(blk F2 os s').map λp=> .pointer (some ⟨p,0,none⟩):=λs'=>by
     rw[hes2,Kh,hes1,Kh,hT.get];show(if s'=c then _ else if s'=a then _ else(blk F os s').map _)=_;have huf: ∀p,p∈os->(F2 p).sl=s'->(∀q,q∈os->(F2 q).sl=s'->q=p)->blk F2 os s'=some p:=λp hp NO hu=>by
      cases hb:blk F2 os s' with
      |none=>exact absurd NO (Kk hb p hp)
      |some q=>rw[hu q (Iu hb).1 (Iu hb).2]
     by_cases h1:s'=c
     ·rw[Ad h1,huf x PG.1 (by rw[elx,h1]) λq hq e=>?_]
      ·rfl
      ·by_cases jM:q=x
       ·exact jM
       ·by_cases jN:q=y
        ·rw[jN,ely,h1] at e;exact absurd e uy
        ·rw[zI q jM jN,h1,<-ac.2] at e;exact absurd (hun q y hq ac.1 e) jN
     ·rw[Ab h1];by_cases h2:s'=a
      ·rw[Ad h2,huf y ac.1 (by rw[ely,h2]) λq hq e=>?_]
       ·rfl
       ·by_cases jN:q=y
        ·exact jN
        ·by_cases jM:q=x
         ·rw[jM,elx,h2] at e;exact absurd e.symm uy
         ·rw[zI q jM jN,h2,<-PG.2] at e;exact absurd (hun q x hq PG.1 e) jM
      ·rw[Ab h2];cases hb:blk F os s' with
       |none=>
        rw[H0.2 λq hq e=>?_];by_cases jM:q=x
        ·rw[jM,elx] at e;exact h1 e.symm
        ·by_cases jN:q=y
         ·rw[jN,ely] at e;exact h2 e.symm
         ·rw[zI q jM jN] at e;exact Kk hb q hq e
       |some p=>
        have hp:=Iu hb;have hpx:p≠x:=λe=>h2 (by rw[<-hp.2,e,PG.2]);have hpy:p≠y:=λe=>h1 (by rw[<-hp.2,e,ac.2]);rw[huf p hp.1 (by rw[zI p hpx hpy];exact hp.2) λq hq e=>?_];by_cases jM:q=x
        ·rw[jM,elx] at e;exact absurd e.symm h1
        ·by_cases jN:q=y
         ·rw[jN,ely] at e;exact absurd e.symm h2
         ·rw[zI q jM jN,<-hp.2] at e;exact hun q p hq hp.1 e
    have hD2:Ft F2 os=swapD (Ft F os) a c:=by unfold swapD Ft;rw[CY];exact By λq hq=>hsw q hq
    have qG:(os.map λq=>(F2 q).sl).Nodup:=by
     rw[D3,Cx];have hn:=hT.snd;rw[D3,Cx] at hn;refine hn.imp_of_mem λ{q r} hq hr He e=>He ?_;have h1:=hsw q hq;have h2:=hsw r hr;have e1:(MM a c ((F q).sl,(F q).dp)).1=(MM a c ((F r).sl,(F r).dp)).1:=by rw[<-h1,<-h2];exact e
     exact YV e1
    obtain⟨DF,Q9⟩: ∃DF,DF=Lp b rb m::(m,Ii Cw es2 clock)::OG F2 all:=⟨_,rfl⟩
    refine Bb (l':=DF++G) ?_ ⟨rfl,DF,⟨rb,m,F2,all,os,es2,clock,hD2,⟨Q9,hT.nd,hT.rin,hT.sub,hT.ond,OH hT.adj (λu _=>(el u).1) (λv _=>(el v).2.1),qG,Wz,XW⟩⟩,rfl⟩;rw[Q9];simp only[Ae];exact AW
end Tr
open Go.RowKit
set_option maxRecDepth 20000
set_option maxRecDepth 20000 in
theorem drop_any(b:Nat)(D:SD)(lq:Ac)(hq:IsS b D lq)(a:Int)(G:Ac):
 Fn prog 387 [.pointer (some ⟨b,0,none⟩),.int .i64 a] (lq++G) λv l'=>v= .int .i64 (HF D a).1/\ ∃DF,IsS b (HF D a).2 DF/\l'=DF++G:=by
 have M3:=hq;obtain⟨S,m,es,clock,rfl,hS⟩:=hq;have XK:xC b m∈lq++G:=Ai _ hS.m1;have UW:(m,FX .i64 es clock)∈lq++G:=Ai _ hS.m2;refine AN func387 ntmps387 λE=>?_;obtain⟨p,n0,cap,af,P2⟩:=hS.look1 a;cases hf:D7 NdS.id S a with
 |none=>
  rw[show HF (S.map NdS.d) a=(2,S.map NdS.d) by unfold HF;rw[KA,hf];rfl];have hz:n0=0:=by unfold JI at P2;rw[KA,hf] at P2;simp at P2;omega
  refine gz ?_;rw[af];refine gz ?_;exact Bb .refl ⟨rfl,_,M3,rfl⟩
 |some nd=>
  obtain⟨N5,Vr⟩:=Ff hf;have US:=hS.sz nd N5;have hz:n0=nd.C.length:=by unfold JI at P2;rw[KA,hf] at P2;simp at P2;omega
  obtain⟨nd',hf',_,Le⟩:=hS.look2 a P2 Af;rw[hf] at hf';obtain rfl:nd=nd':=AZ hf';have wv:nd.blk∈lq++G:=Ai _ (hS.m3 N5);refine gz ?_;rw[Le];refine gz ?_;rw[Le];refine gz ?_;refine CN (α:=Nat) (λk=>[(0,.pointer (some ⟨b,0,none⟩)),(1,.int .i64 a),(24,nd.val),(25,.int .i64 (nd.C.length:Nat)),(26,.int .i64 k)]) (λ_=>lq++G) (λk=>k<=nd.C.length/\ ∀c,c∈nd.C.take k->c=CO) (λk=>nd.C.length-k) 0 ⟨Bp _,by simp⟩ ⟨rfl,rfl,rfl,rfl,rfl,trivial⟩ .refl ?_;rintro k ⟨hk,hz⟩;by_cases C9:k<nd.C.length
  ·obtain⟨c,hc⟩: ∃c,nd.C[k]?=some c:=⟨_,Al C9⟩
   obtain⟨g1,g2⟩:=WW hc;refine gz ?_;refine Bh (Dt (n:=8) rfl wv g2 g1) ?_;refine Im λb6=>?_;refine Bh (Sy (ys:=B0 CO) rfl rfl (EA c) (EA _)) ?_;rw[show Ca (B0 c) (B0 CO)=Ms c CO from rfl];cases he:Ms c CO with
   |false=>
    rw[show HF (S.map NdS.d) a=(16,S.map NdS.d) by
     unfold HF;rw[KA,hf];simp only[BU];rw[Ab λh=>by have:=A5.1 h c (Bc hc);rw[he] at this;cases this]]
    refine gz ?_;exact Bb (.drop .refl) ⟨rfl,_,M3,rfl⟩
   |true=>
    refine gz ?_;refine BO (k+1) ⟨Af,λx hx=>?_⟩ Af ⟨rfl,rfl,rfl,rfl,rfl,trivial⟩ (.drop .refl);rw[Ch,hc] at hx;rcases AF.1 hx with hx|hx
    ·exact hz x hx
    ·have:x=c:=by simpa using hx
     rw[this];exact WU.1 he
  ·obtain rfl:k=nd.C.length:=by omega
   rw[D8] at hz;have GD:nd.C.all (λc=>Ms c CO)=true:=A5.2 λc hc=>WU.2 (hz c hc);rw[show HF (S.map NdS.d) a=(0,(S.map NdS.d).filter λx=>decide (x.1≠a)) by unfold HF;rw[KA,hf];simp only[BU];rw[Ad GD]]
   obtain⟨A,B,aa,_,_⟩:=TQ hf;have AaL:S.filter (λx=>decide (x.id≠a))=A++B:=by rw[aa];exact aW (by rw[<-aa];exact hS.mb.asc) Vr
   refine gz ?_;rw[hS.eq];simp only[Ae];refine M9 (Tu (a:=a) (es:=es) (clock:=clock) rfl rfl (.there .here)) rfl rfl ?_;rintro _ _ ⟨rfl,rfl⟩;refine gz ?_;have hMB:=hS.mb.drop a;rw[AaL] at hMB;refine BE [] rfl (l':=(xC b m::(m,FX .i64 (PJ a es) clock)::(A++B).map NdS.blk)++G) ?_ (by exact Ba) ⟨rfl,_,⟨A++B,m,_,_,by rw[<-lY,AaL],rfl,hMB,?_⟩,rfl⟩
   ·rw[aa,Aq,AJ,Aq];obtain⟨X,hX⟩:=lX (A.map NdS.blk) (B.map NdS.blk) G nd.blk;exact⟨X,(((hX.cons _).cons _).trans (by show(xC b m::(m,FX .i64 (PJ a es) clock)::(X++_)).Perm (X++(xC b m::(m,FX .i64 (PJ a es) clock)::_));exact(AA X [xC b m,(m,FX .i64 (PJ a es) clock)] _).symm))⟩
   ·intro x hx;refine hS.sz x ?_;rw[aa];rcases AF.1 hx with hx|hx
    ·exact Ai _ hx
    ·exact Aa _ (.tail _ hx)
section
variable{P:Program}{ro:Option Nat}{N:Nat}{fr:Fr}{R l:Ac}{d:Option Nat}{ty t t2:TypeId}{pos:String}{aft:Array Edge}{g:Option (Nat×Bool)}{x y:Operand}{b:Nat}
end
theorem br(b:Nat)(H:HS)(lq:Ac)(hq:IsH b H lq)(id:Int)(G:Ac):
 Fn prog 365 [.pointer (some ⟨b,0,none⟩),.int .i64 id] (lq++G) λv l'=>v= .int .i64 (HF H.1 id).1/\ ∃DF,IsH b ((HF H.1 id).2,H.2) DF/\l'=DF++G:=by
 obtain⟨bs,bt,ls,lt,rfl,hs,ht⟩:=hq;refine AN func365 ntmps365 λE=>?_;simp only[Ae,Am];refine Aj ?_;refine Bh (AL rfl rfl λl2 hl=>Lr b bs bt l2 (hl _ (.head _))) ?_;refine Aj ?_;refine AS (Dn rfl rfl (Fn.mvP (λA=>MN b bs bt::(A++(lt++G))) (drop_any bs H.1 ls hs id (MN b bs bt::(lt++G))))) ?_;rintro _ _ ⟨rfl,ls',hs',rfl⟩;refine Aj ?_;exact Bb (l':=(MN b bs bt::(ls'++lt))++G) (.of_perm (.of_eq (by simp))) ⟨rfl,_,⟨bs,bt,ls',lt,rfl,hs',ht⟩,rfl⟩
theorem Ub(b:Nat)(H:HS)(lq:Ac)(hq:IsH b H lq)(hn:H.2.length<=1000)(s:Cs)(l:Ac)(CG: ∀c,c∈lq->c∈l):
 Fn prog 282 [.pointer (some ⟨b,0,none⟩),.agg (toArray (Cw s))] l λv l'=> ∃cs,OwnSl 61 2 v (Tr.belowD H.2 s).length (Tr.scs (Tr.belowD H.2 s)) cs/\l'=cs++l:=by
 obtain⟨bs,bt,ls,lt,hb⟩:=hq;have hm:=CG _ hb.h;refine AN func282 ntmps282 λE=>?_;refine AQ λb3=>?_;refine Cm [5] 7 (Dv b3 s::l) ?_;refine BM ?_;apply CM
 ·exact Az rfl rfl (Tr.belowOf_any bt H.2 lt hb.t Af s _ λc hc=> .tail _ (CG _ (hb.m2 c hc)))
 ·rfl
 ·rfl
 ·rfl
 ·rintro _ _ ⟨cs,_,rfl⟩ x hx;exact Aa _ hx
 rintro v _ ⟨cs,ho,rfl⟩;refine BM ?_;refine Aj ?_;refine Bb (l':=cs++l) (A8 (A:=cs++(Dv b3 s::l)) [Dv b3 s]) ?_;exact⟨cs,ho,rfl⟩
theorem V5(a b:CapT)(l:Ac):Fn prog 339 [.agg (toArray (B0 a)),.agg (toArray (B0 b))] l λv l'=>v= .bool (IJ a b)/\l'=l:=by
 refine AN func339 ntmps339 λE=>?_;refine AQ λb2=>?_;refine AQ λb3=>?_;refine Bh (AL rfl rfl λl2 _=>It a l2) ?_;unfold IJ;cases hA:FG a with
 |false=>exact E3
 |true=>
  refine Aj ?_;refine Yi (AL rfl rfl λl2 _=>It b l2) rfl rfl rfl rfl rfl rfl ?_;cases hB:FG b with
  |false=>exact E3
  |true=>
   by_cases k0:a.kind=0
   ·rw[Au k0];exact E3
   rw[Aw k0];by_cases k1:a.kind=b.kind
   ·rw[Au k1];exact E3
   ·rw[Aw k1];exact E3
theorem mP(b:Nat)(H:HS)(n:Nat)(hI:InvH H n)(lq:Ac)(hq:IsH b H lq)(s:Cs)(c:CapT)(G:Ac):
 Fn prog 299 [.pointer (some ⟨b,0,none⟩),.agg (toArray (Cw s)),.agg (toArray (B0 c))] (lq++G) λv l'=>v= .int .i64 (Pp H s c).1/\ ∃DF,IsH b (Pp H s c).2 DF/\l'=DF++G:=by
 have M3:=hq;refine AN func299 ntmps299 λE=>?_;refine AQ λb4=>?_;refine AQ λb5=>?_;refine Bh (AL rfl rfl λl2 hl=>Jo b H lq hq s l2 λc hc=>hl c (.tail _ (.tail _ (Ai _ hc)))) ?_;have Kw: ∀(d:CapT) (B:Nat),Keep (Bz B d::Bz b5 c::Dv b4 s::(lq++G)) (lq++G):=λ_ _=> .drop (.drop (.drop .refl));cases Dm:FM H.1 s with
 |false=>rw[V2 Dm,show Pp H s c=(3,H) by unfold Pp;rw[Ad Dm]];refine AQ λb7=>?_;exact Bb (Kw _ _) ⟨rfl,_,M3,rfl⟩
 |true=>
 rw[Md Dm];have e0:Pp H s c=if(D5 H.1 s).kind=0 then(10,H) else if IJ (D5 H.1 s) c=false then(5,H) else(0,(Gu H.1 s c,H.2)):=by unfold Pp;rw[Ab (by rw[Dm];decide)]
 rw[e0];refine AQ λb7=>?_;by_cases hw:(D5 H.1 s).kind=0
 ·rw[Ad hw];refine Aj ?_;exact Bb (Kw _ _) ⟨rfl,_,M3,rfl⟩
 rw[Ab hw];refine Aj ?_;refine Bh (AL rfl rfl λl2 hl=>V5 (D5 H.1 s) c l2) ?_;cases ha:IJ (D5 H.1 s) c with
 |false=>rw[Ad rfl];refine Aj ?_;exact Bb (Kw _ _) ⟨rfl,_,M3,rfl⟩
 |true=>
 rw[Ab AX];obtain⟨bs,bt,ls,lt,rfl,hs,ht⟩:=hq;obtain⟨X,hX⟩: ∃X,X=[Bz b7 (D5 H.1 s),Bz b5 c,Dv b4 s,MN b bs bt]:=⟨_,rfl⟩
 have H1:=Fn.mvP (λA=>X++(A++(lt++G))) (set_any bs H.1 ls hs s c (X++(lt++G)));rw[Lq Dm (io ha)] at H1;rw[hX] at H1;simp only[Ae,Am,Ag] at H1⊢;refine Aj ?_;refine Cm [6] 8 ([Bz b5 c,Dv b4 s,MN b bs bt]) ?_;refine BM ?_;apply CM
 ·exact Dn rfl rfl H1
 ·rfl
 ·rfl
 ·rfl
 ·rintro _ _ ⟨_,ls',_,rfl⟩;exact UX
 rintro _ _ ⟨rfl,ls',hs',rfl⟩;refine BM ?_;refine Aj ?_;exact Bb (l':=(MN b bs bt::(ls'++lt))++G) (.drop (.drop (.drop (.of_perm (.of_eq (by simp)))))) ⟨rfl,_,⟨bs,bt,ls',lt,rfl,hs',ht⟩,rfl⟩
theorem iv(b:Nat)(H:HS)(n:Nat)(hI:InvH H n)(lq:Ac)(hq:IsH b H lq)(a c:Cs)(G:Ac):
 Fn prog 210 [.pointer (some ⟨b,0,none⟩),.agg (toArray (Cw a)),.agg (toArray (Cw c))] (lq++G) λv l'=>v= .int .i64 (JJ H a c).1/\ ∃DF,IsH b (JJ H a c).2 DF/\l'=DF++G:=by
 refine AN func210 ntmps210 λE=>?_;refine AQ λb5=>?_;refine AQ λb6=>?_;refine Bh (AL rfl rfl λl2 hl=>Pa b H lq hq a c l2 λc hc=>hl c (.tail _ (.tail _ (Ai _ hc)))) ?_;have Kw: ∀(d e:CapT) (B C:Nat),Keep (Bz B d::Bz C e::Dv b6 c::Dv b5 a::(lq++G)) (lq++G):=λ_ _ _ _=> .drop (.drop (.drop (.drop .refl)));by_cases Dm:FM H.1 a=false\/FM H.1 c=false
 ·rw[W8 Dm];have e1:HJ H a c=3:=by unfold HJ;rw[Ad Dm]
  rw[show JJ H a c=(3,H) by unfold JJ;rw[Ad (by rw[e1];decide),e1]];refine Aj ?_;refine AS e_alloc ?_;rintro _ _ ⟨b9,_,rfl,rfl⟩;refine AQ λGd=>?_;exact Bb (Kw _ _ _ _) ⟨rfl,_,hq,rfl⟩
 obtain⟨kE,okc⟩:=ez Dm;rw[W7 kE okc,Md kE,Md okc];refine Aj ?_;refine AS e_alloc ?_;rintro _ _ ⟨b9,_,rfl,rfl⟩;refine AQ λGd=>?_;by_cases hp:(D5 H.1 a).kind=0
 ·have e1:HJ H a c=10:=by unfold HJ;rw[Ab Dm,Ad hp]
  rw[show JJ H a c=(10,H) by unfold JJ;rw[Ad (by rw[e1];decide),e1]];refine Aj ?_;exact Bb (Kw _ _ _ _) ⟨rfl,_,hq,rfl⟩
 by_cases hw:(D5 H.1 c).kind≠0
 ·have e1:HJ H a c=11:=by unfold HJ;rw[Ab Dm,Ab hp,Ad hw]
  rw[show JJ H a c=(11,H) by unfold JJ;rw[Ad (by rw[e1];decide),e1]];refine Aj ?_;exact Bb (Kw _ _ _ _) ⟨rfl,_,hq,rfl⟩
 have e1:HJ H a c=0:=by unfold HJ;rw[Ab Dm,Ab hp,Ab hw]
 rw[show JJ H a c=(0,(Gu (Gu H.1 a CO) c (D5 H.1 a),(Tr.moveD H.2 a c).2)) by unfold JJ;rw[Ab (by rw[e1];decide)]];obtain⟨bs,bt,ls,lt,rfl,hs,ht⟩:=hq;have dz:=(YY (t:=c) hI.tree ((hI.link a).2 ⟨kE,hp⟩) (hI.no (by simpa using hw))).1;obtain⟨X,hX⟩: ∃X,X=[Bz Gd (D5 H.1 c),Bz b9 (D5 H.1 a),Dv b6 c,Dv b5 a,MN b bs bt]:=⟨_,rfl⟩
 have H1:=Fn.mvP (λA=>X++(A++(lt++G))) (set_any bs H.1 ls hs a CO (X++(lt++G)));have H2:=λls (hs:IsS bs (Gu H.1 a CO) ls)=>Fn.mvP (λA=>X++(A++(lt++G))) (set_any bs _ ls hs c (D5 H.1 a) (X++(lt++G)));have H3:=λls=>Fn.mvP (λA=>X++(ls++(A++G))) (Tr.move_any bt H.2 lt ht a c (X++(ls++G)));rw[Lq kE Mc.1] at H1;rw[Lq (by rw[OE];exact okc) (hI.at a).1] at H2;rw[dz] at H3;rw[hX] at H1 H2 H3;simp only[Ae,Am,Ag] at H1 H2 H3⊢;refine Aj ?_;refine Cm [6] 7 ([Dv b5 a,MN b bs bt]) ?_;refine BM ?_;apply CM
 ·exact Dn rfl rfl H1
 ·rfl
 ·rfl
 ·rfl
 ·rintro _ _ ⟨_,ls',_,rfl⟩;exact UX
 rintro _ _ ⟨rfl,ls',hs',rfl⟩;refine BM ?_;refine Aj ?_;refine Cm [6] 7 ([Bz b9 (D5 H.1 a),Dv b6 c,MN b bs bt]) ?_;refine BM ?_;apply CM
 ·exact Dn rfl rfl (H2 ls' hs')
 ·rfl
 ·rfl
 ·rfl
 ·rintro _ _ ⟨_,ls2,_,rfl⟩;exact UX
 rintro _ _ ⟨rfl,ls2,M1,rfl⟩;refine BM ?_;refine Aj ?_;refine Cm [6] 8 ([Dv b6 c,Dv b5 a,MN b bs bt]) ?_;refine BM ?_;apply CM
 ·exact Dn rfl rfl (H3 ls2)
 ·rfl
 ·rfl
 ·rfl
 ·rintro _ _ ⟨_,lt',_,rfl⟩;exact UX
 rintro _ _ ⟨rfl,lt',ht',rfl⟩;refine BM ?_;refine Aj ?_;exact Bb (l':=(MN b bs bt::(ls2++lt'))++G) (.drop (.drop (.drop (.drop (.of_perm (.of_eq (by simp))))))) ⟨rfl,_,⟨bs,bt,ls2,lt',rfl,M1,ht'⟩,rfl⟩
theorem iw(b:Nat)(H:HS)(n:Nat)(hI:InvH H n)(lq:Ac)(hq:IsH b H lq)(a c:Cs)(G:Ac):
 Fn prog 211 [.pointer (some ⟨b,0,none⟩),.agg (toArray (Cw a)),.agg (toArray (Cw c))] (lq++G) λv l'=>v= .int .i64 (Mb H a c).1/\ ∃DF,IsH b (Mb H a c).2 DF/\l'=DF++G:=by
 refine AN func211 ntmps211 λE=>?_;refine AQ λb5=>?_;refine AQ λb6=>?_;refine Bh (AL rfl rfl λl2 hl=>Pa b H lq hq a c l2 λc hc=>hl c (.tail _ (.tail _ (Ai _ hc)))) ?_;have Kw: ∀(d e:CapT) (B C:Nat),Keep (Bz B d::Bz C e::Dv b6 c::Dv b5 a::(lq++G)) (lq++G):=λ_ _ _ _=> .drop (.drop (.drop (.drop .refl)));by_cases Dm:FM H.1 a=false\/FM H.1 c=false
 ·rw[W8 Dm,show Mb H a c=(3,H) by unfold Mb;rw[Ad Dm]];refine Aj ?_;refine AS e_alloc ?_;rintro _ _ ⟨b9,_,rfl,rfl⟩;refine AQ λGd=>?_;exact Bb (Kw _ _ _ _) ⟨rfl,_,hq,rfl⟩
 obtain⟨kE,okc⟩:=ez Dm;rw[W7 kE okc,Md kE,Md okc,show Mb H a c=(0,(Gu (Gu H.1 a (D5 H.1 c)) c (D5 H.1 a),Tr.swapD H.2 a c)) by unfold Mb;rw[Ab Dm]];refine Aj ?_;refine AS e_alloc ?_;rintro _ _ ⟨b9,_,rfl,rfl⟩;refine AQ λGd=>?_;obtain⟨bs,bt,ls,lt,rfl,hs,ht⟩:=hq;obtain⟨X,hX⟩: ∃X,X=[Bz Gd (D5 H.1 c),Bz b9 (D5 H.1 a),Dv b6 c,Dv b5 a,MN b bs bt]:=⟨_,rfl⟩
 have H1:=Fn.mvP (λA=>X++(A++(lt++G))) (set_any bs H.1 ls hs a (D5 H.1 c) (X++(lt++G)));have H2:=λls (hs:IsS bs (Gu H.1 a (D5 H.1 c)) ls)=>Fn.mvP (λA=>X++(A++(lt++G))) (set_any bs _ ls hs c (D5 H.1 a) (X++(lt++G)));have H3:=λls=>Fn.mvP (λA=>X++(ls++(A++G))) (Tr.swap_any bt H.2 lt ht a c (X++(ls++G)));rw[Lq kE (hI.at c).1] at H1;rw[Lq (by rw[OE];exact okc) (hI.at a).1] at H2;rw[hX] at H1 H2 H3;simp only[Ae,Am,Ag] at H1 H2 H3⊢;refine Aj ?_;refine Cm [6] 7 ([Bz Gd (D5 H.1 c),Dv b5 a,MN b bs bt]) ?_;refine BM ?_;apply CM
 ·exact Dn rfl rfl H1
 ·rfl
 ·rfl
 ·rfl
 ·rintro _ _ ⟨_,ls',_,rfl⟩;exact UX
 rintro _ _ ⟨rfl,ls',hs',rfl⟩;refine BM ?_;refine Aj ?_;refine Cm [6] 7 ([Bz b9 (D5 H.1 a),Dv b6 c,MN b bs bt]) ?_;refine BM ?_;apply CM
 ·exact Dn rfl rfl (H2 ls' hs')
 ·rfl
 ·rfl
 ·rfl
 ·rintro _ _ ⟨_,ls2,_,rfl⟩;exact UX
 rintro _ _ ⟨rfl,ls2,M1,rfl⟩;refine BM ?_;refine Aj ?_;refine Cm [6] 8 ([Dv b6 c,Dv b5 a,MN b bs bt]) ?_;refine BM ?_;apply CM
 ·exact Dn rfl rfl (H3 ls2)
 ·rfl
 ·rfl
 ·rfl
 ·rintro _ _ ⟨_,lt',_,rfl⟩;exact UX
 rintro _ _ ⟨rfl,lt',ht',rfl⟩;refine BM ?_;refine Aj ?_;exact Bb (l':=(MN b bs bt::(ls2++lt'))++G) (.drop (.drop (.drop (.drop (.of_perm (.of_eq (by simp))))))) ⟨rfl,_,⟨bs,bt,ls2,lt',rfl,M1,ht'⟩,rfl⟩
theorem bA(b:Nat)(H:HS)(n:Nat)(hI:InvH H n)(hn:n<=1000)(lq:Ac)(hq:IsH b H lq)(s:Cs)(G:Ac):
 Fn prog 327 [.pointer (some ⟨b,0,none⟩),.agg (toArray (Cw s))] (lq++G) λv l'=>v= .tuple #[.agg (toArray (B0 (Eb H s).1.1)),.int .i64 (Eb H s).1.2]/\ ∃DF,IsH b (Eb H s).2 DF/\l'=DF++G:=by
 refine AN func327 ntmps327 λE=>?_;refine AQ λb3=>?_;refine AQ λb4=>?_;refine Bh (AL rfl rfl λl2 hl=>Jo b H lq hq s l2 λc hc=>hl c (.tail _ (.tail _ (Ai _ hc)))) ?_;have hK: ∀(d2 c6:CapT) (B:Nat),Keep (Bz B d2::Bz b4 c6::Dv b3 s::(lq++G)) (Bz b4 c6::(lq++G)):=λ_ _ _=> .drop (.pick .here (.drop .refl));cases Dm:FM H.1 s with
 |false=>rw[V2 Dm,show Eb H s=((CO,3),H) by unfold Eb;rw[Ad Dm]];refine AQ λb6=>?_;exact CT (l':=lq++G) (Bz b4 CO::(lq++G)) (hK CO CO b6) (.drop .refl) ⟨rfl,_,hq,rfl⟩
 |true=>
 rw[Md Dm];refine AQ λb6=>?_;by_cases hw:(D5 H.1 s).kind=0
 ·rw[show Eb H s=((CO,10),H) by unfold Eb;rw[Ab (by rw[Dm];decide),Ad hw]];refine Aj ?_;exact CT (l':=lq++G) (Bz b4 CO::(lq++G)) (hK (D5 H.1 s) CO b6) (.drop .refl) ⟨rfl,_,hq,rfl⟩
 rw[show Eb H s=((D5 H.1 s,0),(Gu H.1 s CO,(Tr.removeD H.2 s).2)) by unfold Eb;rw[Ab (by rw[Dm];decide),Ab hw]];obtain⟨bs,bt,ls,lt,rfl,hs,ht⟩:=hq;obtain⟨X,hX⟩: ∃X,X=[Bz b6 (D5 H.1 s),Bz b4 CO,Dv b3 s,MN b bs bt]:=⟨_,rfl⟩
 have H1:=Fn.mvP (λA=>X++(A++(lt++G))) (set_any bs H.1 ls hs s CO (X++(lt++G)));have H2:=λls=>Fn.mvP (λA=>X++(ls++(A++G))) (Tr.remove_any bt H.2 lt ht (hI.small hn).2.2 s (X++(ls++G)));rw[Lq Dm Mc.1] at H1;rw[hX] at H1 H2;simp only[Ae,Am,Ag] at H1 H2⊢;refine Aj ?_;refine Cm [6] 7 ([Dv b3 s,MN b bs bt]) ?_;refine BM ?_;apply CM
 ·exact Dn rfl rfl H1
 ·rfl
 ·rfl
 ·rfl
 ·rintro _ _ ⟨_,ls',_,rfl⟩;exact UX
 rintro _ _ ⟨rfl,ls',hs',rfl⟩;refine BM ?_;refine Aj ?_;refine Cm [5] 6 ([Dv b3 s,MN b bs bt]) ?_;refine BM ?_;apply CM
 ·exact Dn rfl rfl (H2 ls')
 ·rfl
 ·rfl
 ·rfl
 ·rintro _ _ ⟨_,lt',_,rfl⟩;exact UX
 rintro _ _ ⟨rfl,lt',ht',rfl⟩;refine BM ?_;refine Aj ?_;exact CT (l':=(MN b bs bt::(ls'++lt'))++G) (Bz b4 (D5 H.1 s)::((MN b bs bt::(ls'++lt'))++G)) (.drop (.pick .here (.drop (.of_perm (.of_eq (by simp)))))) (.drop .refl) ⟨rfl,_,⟨bs,bt,ls',lt',rfl,hs',ht'⟩,rfl⟩
abbrev hpC(B b:Nat):Bd:=(B,.cells #[.pointer (some ⟨b,0,none⟩)] 156 (0,0))
def RJ(s:Cs)(c:CapT)(x:Qv):Bool:=!decide (x.1=s)&&IJ x.2 c
def Ls(D:SD)(s:Cs)(c:CapT)(i:Nat):List Cs:=(((DM D).take i).filter (RJ s c)).map Prod.fst
theorem bD{D:SD}{s:Cs}{c:CapT}{i:Nat}{x:Qv}(h:(DM D)[i]?=some x):Ls D s c (i+1)=if RJ s c x=true then Ls D s c i++[x.1] else Ls D s c i:=by
 unfold Ls;rw[Ch,h,Option.toList_some,DJ,Aq];by_cases hp:RJ s c x=true
 ·rw[Ad hp,List.filter_cons_of_pos (by exact hp)];rfl
 ·rw[Ab hp,IQ (by exact hp)];simp
theorem iy(D:SD)(s:Cs)(c:CapT)(i:Nat):Ls D s c i<+:Ls D s c (DM D).length:=by unfold Ls;rw[D8];exact((BK i _).filter _).map _
theorem OwnSl.hds'{v:Value}{L:List Qv}{cs l:Ac}(h:OwnSl 131 10 v L.length (Oz L) cs)(hs: ∀c,c∈cs->c∈l):RowSl l v 10 Oy L:=OwnSl.rowSl (enc:=Oy) h (λ_=>rfl) hs
theorem bE(b:Nat)(s:Cs)(c:CapT)(l:Ac):
 Fn prog 362 [.pointer (some ⟨b,0,none⟩),.agg (toArray (Cw s)),.agg (toArray (B0 c))] l λv l'=>
  ∃B1 B2 B3,v= .func (.func 384) #[] #[.pointer (some ⟨B1,0,none⟩),.pointer (some ⟨B2,0,none⟩),.pointer (some ⟨B3,0,none⟩)]/\l'=Bz B3 c::Dv B2 s::hpC B1 b::l:=by
 refine AN func362 ntmps362 λE=>?_;refine AQ λb1=>?_;refine AQ λb2=>?_;refine AQ λb3=>?_;exact Bb .refl ⟨_,_,_,rfl,rfl⟩
theorem bF(B1 B2 B3 b:Nat)(H:HS)(n:Nat)(hI:InvH H n)(hn:n<=1000)(lq:Ac)(hq:IsH b H lq)(s:Cs)(c:CapT)(ai:(DM H.1).length<=900000):
 FC prog 384 [.pointer (some ⟨B1,0,none⟩),.pointer (some ⟨B2,0,none⟩),.pointer (some ⟨B3,0,none⟩)] (λy:Cs=>[.agg (toArray (Cw y))]) (λxs=>xs=Ls H.1 s c (DM H.1).length) (λpre=>pre<+:Ls H.1 s c (DM H.1).length)
  (λ_ l=>(∀x,x∈[hpC B1 b,Dv B2 s,Bz B3 c]->x∈l)/\(∀c,c∈lq->c∈l)):=by
 refine⟨λr I Ix G0 Cb hY l G hG h0=>?_⟩;obtain⟨n1,n2⟩:=Cb _ _ G hG h0;have m1:=n1 (hpC B1 b) (by simp);refine AN func384 ntmps384 λE=>?_;refine Aj ?_;refine AS (Az rfl rfl (V1 b H lq hq (hI.small hn).1 _ n2)) ?_;rintro v _ ⟨cs,ho,rfl⟩;obtain⟨U,hU⟩: ∃U,DM H.1=U:=⟨_,rfl⟩
 have af:= @bD H.1 s c;have kH:=iy H.1 s c;rw[hU] at ho ai af kH hY⊢;have hR:=λ(l2:Ac) (h: ∀c,c∈cs->c∈l2)=>ho.hds' h;obtain⟨p,cap,rfl⟩:=ho.shape;refine Aj ?_;refine CN (α:=Nat×Ac) (λx=>[(0,.func (.yield r) #[] #[]),(2,.pointer (some ⟨B2,0,none⟩)),(3,.pointer (some ⟨B3,0,none⟩)),(8,.slice p U.length cap),(9,.int .i64 U.length),(10,.int .i64 x.1)]) (λx=>x.2++(cs++G)) (λx=>x.1<=U.length/\I (Ls H.1 s c x.1) x.2) (λx=>U.length-x.1) (0,l) ⟨Bp _,h0⟩ ⟨rfl,rfl,rfl,rfl,rfl,rfl,trivial⟩ (Keep.in_mid cs l G) ?_;clear n1 n2 m1 h0;rintro⟨i,l⟩ ⟨hi,LB⟩;simp only at hi LB⊢;by_cases C9:i<U.length
 case neg=>
  obtain rfl:i=U.length:=by omega
  refine Aj ?_;exact Bb (l':=l++G) (A8 cs) ⟨l,rfl,.inl ⟨_,rfl,LB⟩⟩
 obtain⟨x,hx⟩: ∃x,U[i]?=some x:=⟨_,Al C9⟩
 have qG:=af hx;obtain⟨a0,cp,hv,LD⟩:=hR (l++(cs++G)) (λc hc=>Aa _ (Ai _ hc));obtain⟨gb,off,xs,ty,fz,rfl,hm,hc⟩:=LD Af;obtain⟨g1,g2⟩:=hc i x hx;cases hv;obtain⟨n1,n2⟩:=Cb (Ls H.1 s c i) l (cs++G) (λc hc=>Aa _ (hG c hc)) LB;refine Aj ?_;refine Bh (Dt rfl hm g1 g2) ?_;refine Aj ?_;refine AS e_alloc ?_;rintro _ _ ⟨b6,_,rfl,rfl⟩;have m2:Dv B2 s∈l++(cs++G):=n1 _ (by simp);have m3:Bz B3 c∈l++(cs++G):=n1 _ (by simp);refine Aj ?_;refine Bh (Gx rfl rfl (T0 x.1) (T0 s)) ?_;by_cases PG:x.1=s
 ·rw[PG,GS (T0 s)];rw[Ab (by unfold RJ;rw[Au PG];simp)] at qG;refine Aj ?_;exact BO (i+1,l) ⟨by simp only;omega,by rw[qG];exact LB⟩ (by simp only;omega) ⟨rfl,rfl,rfl,rfl,rfl,rfl,trivial⟩ (.drop .refl)
 rw[AbG PG];refine Aj ?_;refine NY (AL rfl rfl λl2 hl=>V5 x.2 c l2) rfl rfl rfl ?_;cases ha:IJ x.2 c with
 |false=>rw[Ab (by unfold RJ;rw[ha];simp)] at qG;refine Aj ?_;exact BO (i+1,l) ⟨by simp only;omega,by rw[qG];exact LB⟩ (by simp only;omega) ⟨rfl,rfl,rfl,rfl,rfl,rfl,trivial⟩ (.drop .refl)
 |true=>
 rw[Ad (by unfold RJ;rw[ha,Aw PG];rfl)] at qG;have hp:=kH (i+1);rw[qG] at hp;have hy:=hY (Ls H.1 s c i) x.1 l (hdC b6 x::(cs++G)) (λc hc=> .tail _ (Aa _ (hG c hc))) LB hp;refine Aj ?_;refine Bs (Keep.in_mid [hdC b6 x] l (cs++G)) ?_;refine JB (C5 rfl rfl hy) rfl rfl rfl ?_;rintro w l' ⟨l1,rfl,⟨rfl,N6⟩|⟨rfl,XL⟩⟩
 ·refine Aj ?_;exact BO (i+1,l1) ⟨by simp only;omega,by rw[qG];exact N6⟩ (by simp only;omega) ⟨rfl,rfl,rfl,rfl,rfl,rfl,trivial⟩ (A8 [hdC b6 x])
 ·refine Aj ?_;exact Bb (l':=l1++G) (A8 (hdC b6 x::cs)) ⟨l1,rfl,.inr ⟨_,hp,XL⟩⟩
theorem iz{H:HS}{s:Cs}(h1:FM H.1 s=true)(h2:(D5 H.1 s).kind≠0):Ml H s=decide (Ls H.1 s (D5 H.1 s) (DM H.1).length=[]):=by
 unfold Ml Ls;rw[Kt,IG,h1,Aw h2,D8,List.map_eq_nil_iff,List.filter_eq_nil_iff];simp only[Hp,Bw,Bool.and_true,A5];constructor
 ·intro h x hx hl;have:=h x hx;unfold RJ at hl;cases hd:decide (x.1=s)<;>cases ha:IJ x.2 (D5 H.1 s)<;>simp_all
 ·intro h x hx;have:=h x hx;unfold RJ at this;cases hd:decide (x.1=s)<;>cases ha:IJ x.2 (D5 H.1 s)<;>simp_all
theorem bG(b:Nat)(H:HS)(n:Nat)(hI:InvH H n)(hn:n<=1000)(lq:Ac)(hq:IsH b H lq)(s:Cs)(ai:(DM H.1).length<=900000)(l:Ac)(CG: ∀c,c∈lq->c∈l):
 Fn prog 326 [.pointer (some ⟨b,0,none⟩),.agg (toArray (Cw s))] l λv l'=>v= .bool (Ml H s)/\l'=l:=by
 refine AN func326 ntmps326 λE=>?_;refine AQ λb3=>?_;refine AQ λb4=>?_;refine Bh (AL rfl rfl λl2 hl=>Jo b H lq hq s l2 λc hc=>hl c (.tail _ (.tail _ (CG c hc)))) ?_;cases Dm:FM H.1 s with
 |false=>rw[V2 Dm,show Ml H s=false by unfold Ml;rw[Dm];rfl];refine AQ λb5=>?_;exact CT (l':=l) ((b4,.cells (toArray [.bool false]) 4 (0,0))::l) (.drop (.pick .here (.drop .refl))) (.drop .refl) ⟨rfl,rfl⟩
 |true=>
 rw[Md Dm];refine AQ λb5=>?_;by_cases hw:(D5 H.1 s).kind=0
 ·rw[show Ml H s=false by unfold Ml;rw[Au hw];simp];refine Aj ?_;exact CT (l':=l) ((b4,.cells (toArray [.bool false]) 4 (0,0))::l) (.drop (.pick .here (.drop .refl))) (.drop .refl) ⟨rfl,rfl⟩
 rw[iz Dm hw];refine Aj ?_;refine AS (Az rfl rfl (bE b s (D5 H.1 s) _)) ?_;rintro _ _ ⟨B1,B2,B3,rfl,rfl⟩;refine Aj ?_;refine Dg (α:=Cs) (ps:=[24]) (lb:=[.pointer (some ⟨B1,0,none⟩),.pointer (some ⟨B2,0,none⟩),.pointer (some ⟨B3,0,none⟩)]) rfl (bF B1 B2 B3 b H n hI hn lq hq s (D5 H.1 s) ai) (λ_=>rfl) rfl
  (λpre l=>l=[Bz B3 (D5 H.1 s),Dv B2 s,hpC B1 b,(b4,.cells (toArray [.bool false]) 4 (0,0))]/\pre=[])
  (λc pre l=>c= .ret/\pre≠[]/\l=[(b4,.cells (toArray [.bool false]) 4 (0,0))])
  _ (Bz b5 (D5 H.1 s)::Dv b3 s::l) (λpre l2 X2 hX h=>⟨λx hx=>by rw[h.1];exact Ai _ (by simp only[At,BQ,EE] at hx⊢;rcases hx with h|h|h<;>simp[h]),λc hc=>Aa _ (hX _ (.tail _ (.tail _ (CG _ hc))))⟩) (by exact AW) ⟨rfl,rfl⟩ ?_ ?_ ?_
 ·rintro E r0 FU pre x l' T ⟨fn,tmps,D0,rfl⟩ hT ⟨rfl,rfl⟩ Dw;simp only[DX,Ae,Ag];refine Aj ?_;refine CK (by exact DY) ?_;refine Aj ?_;refine EI [(b4,.cells (toArray [.bool false]) 4 (0,0))] (by exact AW) ⟨rfl,by simp,rfl⟩
 ·rintro D0 xs l' hS ⟨rfl,rfl⟩;rw[<-hS];simp only[Ae,Ag];refine Aj ?_;exact AU [D0] ((b4,.cells (toArray [.bool true]) 4 (0,0))::l) rfl (l':=l) (by exact AW) (by exact Ba) (.drop .refl) ⟨rfl,rfl⟩
 ·rintro D0 c pre l' Dw ⟨rfl,He,rfl⟩;have hL:Ls H.1 s (D5 H.1 s) (DM H.1).length≠[]:=λe=>by rw[e] at Dw;exact He (List.prefix_nil.1 Dw)
  rw[Aw hL];simp only[Ae,Ag];refine Aj ?_;exact AU [D0] ((b4,.cells (toArray [.bool false]) 4 (0,0))::l) rfl (l':=l) (by exact AW) (by exact Ba) (.drop .refl) ⟨rfl,rfl⟩
namespace Ar
variable{S:ArT}{k:Nat}{o o':ObT}{id m s p v:Int}{os:OL}
def dropD(S:ArT)(id:Int):Int×ArT:=match atO S.os id with
 |some k=>(0,{S with os:=S.os.eraseIdx k})
 |none=>(2,S)
def setMa(o:ObT)(m:Int):ObT:={o with ma:=m}
def setPl(o:ObT)(s p v:Int):ObT:={o with se:=s,pg:=p,lv:=v}
def markD'(S:ArT)(id m:Int):Int×ArT:=match atO S.os id with
 |some k=>if(S.os.getD k obO).kd≠1 then(8,S) else if m<0\/m>(S.os.getD k obO).fr then(3,S) else(0,{S with os:=S.os.set k (setMa (S.os.getD k obO) m)})
 |none=>(2,S)
abbrev SH(s p v:Int):Prop:=(s=0/\p=0/\v=0)\/(1<=s/\s<=16777215/\0<=p/\p<512/\1<=v/\v<=2)
def placeD(S:ArT)(id s p v:Int):Int×ArT:=match atO S.os id with
 |some k=>if(S.os.getD k obO).kd≠4 then(8,S) else if ¬SH s p v then(3,S) else(0,{S with os:=S.os.set k (setPl (S.os.getD k obO) s p v)})
 |none=>(2,S)
theorem Lq(hS:S.Ok)(h:S.os[k]?=some o)(h1:o'.id=o.id)(h2:o'.fi=o.fi):ArT.Ok {S with os:=S.os.set k o'}:=by
 have hk:=(Ay.1 h).1;have he:=(Ay.1 h).2;have hm: ∀x∈S.os.set k o',∃y∈S.os,x.id=y.id/\x.fi=y.fi:=λx hx=>by
  rcases CQ hx with hx|rfl
  ·exact⟨x,hx,rfl,rfl⟩
  ·exact⟨o,Bc h,h1,h2⟩
 refine⟨hS.n1,hS.n2,hS.g1,?_,λx hx=>?_,λx hx=>?_⟩
 ·show(S.os.set k o').Pairwise _;rw[FT];intro i j hi hj Wt;rw[Ce] at hi hj;have hP:=FT.1 hS.asc;have g: ∀(i:Nat) (hi:i<S.os.length) (hi':i<(S.os.set k o').length),((S.os.set k o')[i]).id=(S.os[i]).id:=λi hi hi'=>by
   rw[List.getElem_set]
   split
   ·rename_i e;subst e;rw[h1,he]
   ·rfl
  rw[g i hi,g j hj];exact hP i j hi hj Wt
 ·obtain⟨y,hy,e1,e2⟩:=hm x hx;rw[e1];exact hS.rng y hy
 ·obtain⟨y,hy,e1,e2⟩:=hm x hx;show 0<=x.fi/\x.fi<S.n/\ ∃c:Int,0<=c/\c<S.g x.fi.toNat/\x.id=x.fi+1+64*c;rw[e1,e2];exact hS.num y hy
theorem atO_get(h:atO os id=some k):os[k]?=some (os.getD k obO)/\(os.getD k obO).id=id:=by obtain⟨o,h1,h2⟩:=atO_some h;rw[List.getD,h1];exact⟨rfl,h2⟩
theorem rR(hS:S.Ok)(id:Int):(dropD S id).2.Ok:=by
 unfold dropD
 split
 ·rename_i k hk;have hm: ∀x∈S.os.eraseIdx k,x∈S.os:=λx hx=>Gl hx;exact⟨hS.n1,hS.n2,hS.g1,hS.asc.sublist (List.eraseIdx_sublist ..),λx hx=>hS.rng x (hm x hx),λx hx=>hS.num x (hm x hx)⟩
 ·exact hS
theorem rS(hS:S.Ok)(id m:Int):(markD' S id m).2.Ok:=by
 unfold markD'
 split
 ·rename_i k hk
  split
  ·exact hS
  split
  ·exact hS
  exact Lq hS (atO_get hk).1 rfl rfl
 ·exact hS
theorem mS(hS:S.Ok)(id s p v:Int):(placeD S id s p v).2.Ok:=by
 unfold placeD
 split
 ·rename_i k hk
  split
  ·exact hS
  split
  ·exact hS
  exact Lq hS (atO_get hk).1 rfl rfl
 ·exact hS
theorem iA(os:OL)(k:Nat)(hk:k<os.length):(os.eraseIdx k)=os.take k++os.drop (k+1):=Dp ..
theorem bH{c x:Bd}{l F:Ac}(h:c∈x::l):c∈x::(l++F):=by rw[<-Ae];exact Ai _ h
theorem iB(h:os[k]?=some o):ocs os=ocs (os.take k)++obC o++ocs (os.drop (k+1)):=by
 conv=>lhs;rw[Yw h]
 rw[Ni,show ocs (o::os.drop (k+1))=obC o++ocs (os.drop (k+1)) from rfl,Am]
theorem Pb(h:os[k]?=some o):os.getD k obO=o:=by rw[List.getD,h];rfl
theorem V6(h:atO S.os id=none):markD' S id m=(2,S):=by unfold markD';rw[h]
theorem xN(h:atO S.os id=some k)(ho:S.os[k]?=some o)(h1:o.kd≠1):markD' S id m=(8,S):=by unfold markD';rw[h];simp only[Pb ho];rw[Ad h1]
theorem mU(h:atO S.os id=some k)(ho:S.os[k]?=some o)(h1:o.kd=1)(h2:m<0\/m>o.fr):markD' S id m=(3,S):=by unfold markD';rw[h];simp only[Pb ho];rw[Ab Af,Ad h2]
theorem xO(h:atO S.os id=some k)(ho:S.os[k]?=some o)(h1:o.kd=1)(h2:¬(m<0\/m>o.fr)):markD' S id m=(0,{S with os:=S.os.set k (setMa o m)}):=by unfold markD';rw[h];simp only[Pb ho];rw[Ab Af,Ab h2]
theorem Uc(h:atO S.os id=none):placeD S id s p v=(2,S):=by unfold placeD;rw[h]
theorem rT(h:atO S.os id=some k)(ho:S.os[k]?=some o)(h1:o.kd≠4):placeD S id s p v=(8,S):=by unfold placeD;rw[h];simp only[Pb ho];rw[Ad h1]
theorem rU(h:atO S.os id=some k)(ho:S.os[k]?=some o)(h1:o.kd=4)(h2:¬SH s p v):placeD S id s p v=(3,S):=by unfold placeD;rw[h];simp only[Pb ho];rw[Ab Af,Ad h2]
theorem rV(h:atO S.os id=some k)(ho:S.os[k]?=some o)(h1:o.kd=4)(h2:SH s p v):placeD S id s p v=(0,{S with os:=S.os.set k (setPl o s p v)}):=by unfold placeD;rw[h];simp only[Pb ho];rw[Ab Af,Ab (Gm h2)]
theorem eC{b gb cap:Nat}{sp:Ap}(XJ:ArT.Ok {S with os:=S.os.set k o'})(ZW:S.os.length<=cap)(UV:cap<=maxLen)(NP:(ocs S.os++sp).length=cap*9):
 IsA b {S with os:=S.os.set k o'} [TC b S.n S.g (.slice (some ⟨gb,0,none⟩) S.os.length cap),(gb,.cells (toArray (ocs (S.os.set k o')++sp)) 100 (0,0))]:=by
 refine⟨XJ,_,_,rfl,?_⟩;show OwnSl 100 9 _ (S.os.set k o').length (ocs (S.os.set k o')) _;refine⟨by rw[On],.inr ⟨gb,cap,sp,by rw[Ce],rfl,by rw[Ce];exact ZW,UV,?_⟩⟩;rw[Ah,On,Ce];rw[Ah,On] at NP;exact NP
end Ar
abbrev Z2:=Cs×Int
abbrev xP(y:Z2):Ap:=[.int .i64 y.1.1,.int .i64 y.1.2,.int .i64 y.2]
def rW(S:Ar.ArT)(c:CapT):Ar.ObT:=(Ar.getD' S c.obj).1
def vb(Ck:Nat)(c:CapT)(left:Int):Nat:=if c.bits>0 then Ed Ck (left-c.bits).toNat c.bits.toNat else 0
def Xa(S:Ar.ArT)(c:CapT)(left:Int):Prop:=FG c=true/\c.kind=2/\(Ar.getD' S c.obj).2=true/\(rW S c).kd=2/\c.bits+(rW S c).sz<=left
instance(S:Ar.ArT)(c:CapT)(left:Int):Decidable (Xa S c left):=by unfold Xa;exact inferInstance
def IX(S:Ar.ArT)(c:CapT)(left:Int):Int:=left-(c.bits+(rW S c).sz)
def PB(S:Ar.ArT)(Ck:Nat)(c:CapT)(left:Int):Cs:=((rW S c).id,(Ed Ck (IX S c left).toNat (rW S c).sz.toNat:Nat))
def OJ(D:SD)(S:Ar.ArT)(Ck:Nat)(c:CapT)(left:Int):Option (Z2×CapT):=
 if Xa S c left then(if vb Ck c left=Sf c.guard/\(getD' D (PB S Ck c left)).2=0 then some ((PB S Ck c left,IX S c left),(getD' D (PB S Ck c left)).1) else none) else none
def Gh(D:SD)(S:Ar.ArT)(Ck:Nat):Nat->CapT->Int->List Z2
 |0,_,_=>[]
 |f+1,c,left=>if left>0 then(match OJ D S Ck c left with|some y=>y.1::Gh D S Ck f y.2 y.1.2|none=>[]) else[]
def rX(S:Ar.ArT):Prop:= ∀o∈S.os,o.kd=2->1<=o.sz/\o.sz<=4
theorem eD{id:Int}(h:(Ar.getD' S id).2=true):(Ar.getD' S id).1∈S.os/\(Ar.getD' S id).1.id=id:=by
 unfold Ar.getD' at*;cases hk:Ar.atO S.os id with
 |none=>rw[hk] at h;cases h
 |some k=>obtain⟨h1,h2⟩:=Ar.atO_get hk;exact⟨Bc h1,h2⟩
theorem V7(h:FG c=true)(hk:c.kind=2):0<=c.bits/\c.bits<=12/\0<=c.guard/\Ln (Sf c.guard) c.bits=true:=by unfold FG at h;rw[Ab Af,Ab Af,Ad hk] at h;unfold ei at h;simp only[AV,Bk] at h;obtain⟨⟨⟨h1,h2⟩,h3,h4⟩,_⟩:=h;exact⟨h1,h2,h3,h4⟩
theorem bI(hR:rX S)(h:Xa S c left):0<=c.bits/\c.bits<=12/\1<=(rW S c).sz/\(rW S c).sz<=4/\0<=IX S c left/\IX S c left<left:=by obtain⟨h1,h2,h3,h4,h5⟩:=h;obtain⟨b1,b2,_⟩:=V7 h1 h2;obtain⟨m1,_⟩:=eD h3;obtain⟨s1,s2⟩:=hR _ m1 h4;unfold IX rW at*;refine⟨b1,b2,s1,s2,Af,Af⟩
theorem iC(h:Xa S c left)(h2:vb Ck c left=Sf c.guard/\(getD' D (PB S Ck c left)).2=0):OJ D S Ck c left=some ((PB S Ck c left,IX S c left),(getD' D (PB S Ck c left)).1):=by unfold OJ;rw[Ad h,Ad h2]
theorem bJ(h:¬Xa S c left):OJ D S Ck c left=none:=by unfold OJ;rw[Ab h]
theorem Ud(h:¬(vb Ck c left=Sf c.guard/\(getD' D (PB S Ck c left)).2=0)):OJ D S Ck c left=none:=by
 unfold OJ;by_cases hg:Xa S c left
 ·rw[Ad hg,Ab h]
 ·rw[Ab hg]
theorem Ue(h:left<=0):Gh D S Ck f c left=[]:=by
 cases f with
 |zero=>rfl
 |succ f=>unfold Gh;rw[Ab Af]
theorem Pc(h:OJ D S Ck c left=none):Gh D S Ck f c left=[]:=by
 cases f with
 |zero=>rfl
 |succ f=>unfold Gh;rw[h];split<;>rfl
theorem eG{y:Z2×CapT}(h0:left>0)(h:OJ D S Ck c left=some y):Gh D S Ck (f+1) c left=y.1::Gh D S Ck f y.2 y.1.2:=by rw[Gh,Ad h0,h]
theorem mW{w n:Nat}(h:n<=4):Ed w a n<16:=Ex (show Ed w a n<2^n from Ho _ (G1 n)) (CZ Af h)
def mY(Ck:Nat)(depth:Int):Prop:=depth<1\/depth>12\/Ln Ck depth=false
instance(Ck:Nat)(depth:Int):Decidable (mY Ck depth):=by unfold mY;exact inferInstance
def Qz(L:List Z2)(depth:Int):Z2:=L.getLast?.getD ((0,0),depth)
def Y3(D:SD)(S:Ar.ArT)(c:CapT)(Ck:Nat)(depth:Int):Cs×Int:=
 if mY Ck depth then((0,0),3) else if(Qz (Gh D S Ck 13 c depth) depth).2>0 then((0,0),12) else((Qz (Gh D S Ck 13 c depth) depth).1,0)
theorem Keep.appL(X:Ac)(h:Keep A B):Keep (X++A) (X++B):=by obtain⟨r,p⟩:=h;exact⟨r,(EZ X p).trans (AA X r B)⟩
theorem Keep.dropL'(X:Ac)(h:Keep A B):Keep (X++A) B:=by obtain⟨r,p⟩:=h;exact⟨X++r,by rw[Am];exact p.append_left X⟩
abbrev ptA(B b:Nat):Bd:=(B,.cells #[.pointer (some ⟨b,0,none⟩)] 155 (0,0))
abbrev ptS(B b:Nat):Bd:=(B,.cells #[.pointer (some ⟨b,0,none⟩)] 230 (0,0))
theorem rY(c d:CapT):Da (toArray (B0 c)) 0 (toArray (B0 d)).toList=toArray (B0 d):=by cases c;cases d;simp[Da,B0]
theorem Ro(w:Nat)(hw:w<18446744073709551616)(a n:Int)(h0:0<=a)(h1:1<=n)(h2:n<=63)(h3:a+n<=64)(l:Ac):
 Fn prog 253 [.int .u64 (w:Nat),.int .i64 a,.int .i64 n] l λr l'=>r= .tuple #[.int .u64 (Ed w a.toNat n.toNat:Nat),.int .i64 0]/\l'=l:=by
 obtain⟨a,rfl⟩: ∃q:Nat,a=q:=⟨a.toNat,Af⟩
 obtain⟨n,rfl⟩: ∃q:Nat,n=q:=⟨n.toNat,Af⟩
 exact JW w a n hw Af Af Af l
theorem rZ(bs ba:Nat)(Ck:Nat)(ha:Ck<18446744073709551616)(depth:Int)(l:Ac):
 Fn prog 272 [.pointer (some ⟨bs,0,none⟩),.pointer (some ⟨ba,0,none⟩),.int .u64 (Ck:Nat),.int .i64 depth] l λv l'=>v= .int .i64 (if mY Ck depth then 3 else 0)/\l'=l:=by
 refine AN func272 ntmps272 λE=>?_;by_cases h1:depth<1
 ·rw[Ad (.inl h1)];exact E3
 by_cases h2:depth>12
 ·rw[Ad (.inr (.inl h2))];exact E3
 refine Aj ?_;refine NY (AL rfl rfl λl2 _=>Qs Ck ha depth l2) rfl rfl rfl ?_;cases hf:Ln Ck depth with
 |false=>rw[Ad (.inr (.inr hf))];exact E3
 |true=>rw[Ab (by rintro(h|h|h)<;>first|omega|(rw[hf] at h;cases h))];exact E3
theorem iD(bs ba Ck:Nat)(root:CapT)(depth:Int)(l:Ac):
 Fn prog 273 [.pointer (some ⟨bs,0,none⟩),.pointer (some ⟨ba,0,none⟩),.agg (toArray (B0 root)),.int .u64 (Ck:Nat),.int .i64 depth] l λv l'=>
  ∃B1 B2 B3 B4 B5,v= .func (.func 321) #[] #[.pointer (some ⟨B1,0,none⟩),.pointer (some ⟨B2,0,none⟩),.pointer (some ⟨B3,0,none⟩),.pointer (some ⟨B4,0,none⟩),.pointer (some ⟨B5,0,none⟩)]/\
   l'=GJ B2 depth::Rj B4 Ck::Bz B1 root::ptA B3 ba::ptS B5 bs::l:=by
 refine AN func273 ntmps273 λE=>?_;refine AQ λb5=>?_;refine AQ λb6=>?_;refine AQ λb7=>?_;refine AQ λb8=>?_;refine AQ λb9=>?_;exact Bb .refl ⟨_,_,_,_,_,rfl,rfl⟩
theorem bK(B1 B2 B3 B4 B5 bs ba:Nat)(D:SD)(S:Ar.ArT)(lq la:Ac)(hq:IsS bs D lq)(hA:Ar.IsA ba S la)(hR:rX S)(Ck:Nat)(XX:Ck<18446744073709551616)(root:CapT)(depth:Int)(hd:depth<=12):
 FC prog 321 [.pointer (some ⟨B1,0,none⟩),.pointer (some ⟨B2,0,none⟩),.pointer (some ⟨B3,0,none⟩),.pointer (some ⟨B4,0,none⟩),.pointer (some ⟨B5,0,none⟩)] (λy:Z2=>[.agg (toArray (xP y))]) (λxs=>xs=Gh D S Ck 13 root depth) (λpre=>pre<+:Gh D S Ck 13 root depth)
  (λ_ l=>(∀x,x∈[GJ B2 depth,Rj B4 Ck,Bz B1 root,ptA B3 ba,ptS B5 bs]->x∈l)/\(∀c,c∈lq->c∈l)/\(∀c,c∈la->c∈l)):=by
 refine⟨λr I Ix G0 Cb hY l G hG h0=>?_⟩;obtain⟨n1,n2,n3⟩:=Cb _ _ G hG h0;have m1:=n1 (Bz B1 root) (by simp);have m2:=n1 (GJ B2 depth) (by simp);refine AN func321 ntmps321 λE=>?_;refine Aj ?_;refine Cm [2,3] 5 _ ?_ (hR:=(λ_ h=>h));refine BM ?_;apply CM
 ·exact e_alloc
 ·rfl
 ·rfl
 ·rfl
 ·rintro _ _ ⟨b7,_,_,rfl⟩ x hx;exact .tail _ hx
 rintro _ _ ⟨b7,hb7,rfl,rfl⟩;refine BM ?_;refine Aj ?_;have go:Gh D S Ck 13 root depth=[]++Gh D S Ck 13 root depth:=rfl;refine CN (α:=CapT×Int×List Z2×Nat×Ac) (λx=>[(0,.func (.yield r) #[] #[]),(3,.pointer (some ⟨B3,0,none⟩)),(4,.pointer (some ⟨B4,0,none⟩)),(5,.pointer (some ⟨B5,0,none⟩)),(7,.pointer (some ⟨b7,0,none⟩)),(8,.int .i64 x.2.1)]) (λx=>x.2.2.2.2++(Bz b7 x.1::G))
  (λx=>I x.2.2.1 x.2.2.2.2/\Gh D S Ck 13 root depth=x.2.2.1++Gh D S Ck x.2.2.2.1 x.1 x.2.1/\x.2.1<=(x.2.2.2.1:Nat)/\x.2.1<=12) (λx=>x.2.1.toNat) (root,depth,[],13,l) ⟨h0,rfl,by simp only;omega,hd⟩ ⟨rfl,rfl,rfl,rfl,rfl,rfl,trivial⟩ (Keep.of_perm AI.symm) ?_
 clear n1 n2 n3 m1 m2 go hb7;rintro⟨c,left,pre,f,l⟩ ⟨hI,hW,hf,hl12⟩;simp only at hI hW hf hl12⊢;obtain⟨n1,n2,n3⟩:=Cb _ _ (Bz b7 c::G) (λc hc=> .tail _ (hG c hc)) hI;have m3:=n1 (ptA B3 ba) (by simp);have m4:=n1 (Rj B4 Ck) (by simp);have m5:=n1 (ptS B5 bs) (by simp);have m7:Bz b7 c∈l++(Bz b7 c::G):=Aa _ (.head _);by_cases qn:left>0
 case neg=>have hE:Gh D S Ck f c left=[]:=Ue Af;rw[hE,Bj] at hW;refine Aj ?_;exact Bb (Keep.appL l (.drop .refl)) ⟨l,rfl,.inl ⟨pre,hW.symm,hI⟩⟩
 obtain⟨f,rfl⟩: ∃q,f=q+1:=⟨f-1,Af⟩
 refine Aj ?_;refine Bh (AL rfl rfl λl2 hl=>Ar.get_any ba S la hA c.obj l2 λx hx=>hl x (n3 x hx)) ?_;obtain⟨o,ho⟩: ∃o,(Ar.getD' S c.obj).1=o:=⟨_,rfl⟩
 obtain⟨ok,Dm⟩: ∃ok,(Ar.getD' S c.obj).2=ok:=⟨_,rfl⟩
 have wH:rW S c=o:=ho;rw[ho,Dm];refine Aj ?_;refine AS e_alloc ?_;rintro _ _ ⟨b9,_,rfl,rfl⟩;have m7':=An (Ar.obK b9 o) m7;refine Aj ?_;refine Bh (AL rfl rfl λl2 _=>It c l2) ?_;have KE: ∀{F:Ac},¬Xa S c left->Keep (Ar.obK b9 o::(l++(Bz b7 c::G))) (l++G)/\Gh D S Ck 13 root depth=pre:=λh=>by have hE:Gh D S Ck (f+1) c left=[]:=Pc (bJ h);rw[hE,Bj] at hW;exact⟨.drop (Keep.appL l (.drop .refl)),hW⟩
 cases hM:FG c with
 |false=>
  obtain⟨hk,kI⟩:=KE (F:=[]) λh=>by have h1:=h.1;rw[hM] at h1;cases h1
  refine Aj ?_;exact Bb hk ⟨l,rfl,.inl ⟨pre,kI.symm,hI⟩⟩
 |true=>
 by_cases LA:c.kind=2
 case neg=>obtain⟨hk,kI⟩:=KE (F:=[]) λh=>LA h.2.1;refine Aj ?_;exact Bb hk ⟨l,rfl,.inl ⟨pre,kI.symm,hI⟩⟩
 cases hokb:ok with
 |false=>
  obtain⟨hk,kI⟩:=KE (F:=[]) λh=>by have h1:=h.2.2.1;rw[Dm,hokb] at h1;cases h1
  refine Aj ?_;exact Bb hk ⟨l,rfl,.inl ⟨pre,kI.symm,hI⟩⟩
 |true=>
 rw[hokb] at Dm;by_cases gp:o.kd=2
 case neg=>obtain⟨hk,kI⟩:=KE (F:=[]) λh=>gp (by rw[<-wH];exact h.2.2.2.1);refine Aj ?_;exact Bb hk ⟨l,rfl,.inl ⟨pre,kI.symm,hI⟩⟩
 obtain⟨bt0,bt1,gd0,_⟩:=V7 hM LA;obtain⟨sz1,sz2⟩:1<=o.sz/\o.sz<=4:=by rw[<-ho] at gp⊢;exact hR _ (eD Dm).1 gp
 by_cases So:c.bits+o.sz>left
 ·obtain⟨hk,kI⟩:=KE (F:=[]) λh=>by have:=h.2.2.2.2;rw[wH] at this;omega
  refine Aj ?_;exact Bb hk ⟨l,rfl,.inl ⟨pre,kI.symm,hI⟩⟩
 have hgo:Xa S c left:=⟨hM,LA,Dm,by rw[wH];exact gp,by rw[wH];omega⟩
 clear KE;refine Aj ?_;obtain⟨p1,p2,p3,p4,p5,p6⟩:=bI hR hgo;obtain⟨x,hx⟩: ∃x,PB S Ck c left=x:=⟨_,rfl⟩
 have ZX:x.1=o.id:=by rw[<-hx];unfold PB;rw[wH]
 have XL:x.2=(Ed Ck (IX S c left).toNat o.sz.toNat:Nat):=by rw[<-hx];unfold PB;rw[wH]
 have hlN:IX S c left=left-(c.bits+o.sz):=by unfold IX;rw[wH]
 have AhC:Ed Ck (IX S c left).toNat o.sz.toNat<16:=mW Af;by_cases hb:c.bits>0
 case' pos=>
  have hgF:((vb Ck c left:Nat):Int)=(Ed Ck (left-c.bits).toNat c.bits.toNat:Nat):=by unfold vb;rw[Ad hb]
  refine Aj ?_;refine Bh (AL rfl rfl λl2 _=>Ro Ck XX (left-c.bits) c.bits Af Af Af Af l2) ?_;rw[<-hgF];refine Aj ?_
 case' neg=>
  have hgF:((vb Ck c left:Nat):Int)=0:=by unfold vb;rw[Ab hb];rfl
  refine Aj ?_
 all_goals
  refine Bh (AL rfl rfl λl2 _=>Ro Ck XX (left-(c.bits+o.sz)) o.sz Af Af Af Af l2) ?_;rw[<-hlN,<-XL];refine AQ λU5=>?_;have HG: ∀l2,(∀z,z∈lq->z∈l2)->Fn prog 229 [.pointer (some ⟨bs,0,none⟩),.agg (toArray [.int .i64 o.id,.int .i64 x.2])] l2 λv l'=>v= .tuple #[.agg (toArray (B0 (getD' D x).1)),.int .i64 (getD' D x).2]/\l'=l2:=λl2 h=>by rw[<-ZX];exact get_any bs D lq hq x l2 h
  refine Bh (AL rfl rfl λl2 hl=>HG l2 λz hz=>hl z (.tail _ (.tail _ (n2 z hz)))) ?_;obtain⟨nx,Wx⟩: ∃nx,(getD' D x).1=nx:=⟨_,rfl⟩
  obtain⟨er,her⟩: ∃er,(getD' D x).2=er:=⟨_,rfl⟩
  rw[Wx,her];refine Aj ?_;refine AS e_alloc ?_;rintro _ _ ⟨ZY,_,rfl,rfl⟩;have m7b:=An (Dv U5 (o.id,x.2)) m7';refine Aj ?_;refine Bh (Qe rfl) ?_;rw[VQ];have hK:Keep (Bz ZY nx::Dv U5 (o.id,x.2)::Ar.obK b9 o::(l++(Bz b7 c::G))) (l++G):= .drop (.drop (.drop (Keep.appL l (.drop .refl))));by_cases hg:vb Ck c left=Sf c.guard
  case neg=>have hE:Gh D S Ck (f+1) c left=[]:=Pc (Ud λh=>hg h.1);rw[hE,Bj] at hW;refine Aj ?_;exact Bb hK ⟨l,rfl,.inl ⟨pre,hW.symm,hI⟩⟩
  by_cases zC:er=0
  case neg=>have hE:Gh D S Ck (f+1) c left=[]:=Pc (Ud λh=>zC (by rw[<-her,<-hx];exact h.2));rw[hE,Bj] at hW;refine Aj ?_;exact Bb hK ⟨l,rfl,.inl ⟨pre,hW.symm,hI⟩⟩
  have K3:OJ D S Ck c left=some ((x,IX S c left),nx):=by rw[iC hgo ⟨hg,by rw[hx,her,zC]⟩,hx,Wx]
  have hE:Gh D S Ck (f+1) c left=(x,IX S c left)::Gh D S Ck f nx (IX S c left):=eG qn K3;rw[hE] at hW;have Gn:pre++[(x,IX S c left)]<+:Gh D S Ck 13 root depth:=by rw[hW];exact⟨Gh D S Ck f nx (IX S c left),by simp⟩
  have hy:=hY pre (x,IX S c left) l (Bz ZY nx::Dv U5 (o.id,x.2)::Ar.obK b9 o::Bz b7 c::G) (λz hz=> .tail _ (.tail _ (.tail _ (.tail _ (hG z hz))))) hI Gn;rw[show xP (x,IX S c left)=[.int .i64 o.id,.int .i64 x.2,.int .i64 (IX S c left)] by rw[<-ZX]] at hy;refine Aj ?_;refine Bs (Keep.in_mid [Bz ZY nx,Dv U5 (o.id,x.2),Ar.obK b9 o] l (Bz b7 c::G)) ?_;refine JB (C5 rfl rfl hy) rfl rfl rfl ?_;rintro w l' ⟨l1,rfl,⟨rfl,LB⟩|⟨rfl,hx⟩⟩
  case' inr=>
   refine Aj ?_;exact Bb (Keep.appL l1 (.drop (.drop (.drop (.drop .refl))))) ⟨l1,rfl,.inr ⟨_,Gn,hx⟩⟩
  all_goals
   have q15:Bz ZY nx∈l1++(Bz ZY nx::Dv U5 (o.id,x.2)::Ar.obK b9 o::Bz b7 c::G):=Aa _ (.head _);refine Aj ?_;apply M9
   ·exact EH (b:=b7) (off:=0) (cs:=toArray (B0 c)) (ws:=toArray (B0 nx)) (n:=8) (l':=l1++(Bz ZY nx::Dv U5 (o.id,x.2)::Ar.obK b9 o::Bz b7 nx::G)) rfl rfl rfl (by simp[Value.oneCell']) (by rw[rY];exact dS (.there (.there (.there .here))) l1) (by simp)
   ·rfl
   ·rfl
   rintro _ _ ⟨rfl,rfl⟩;refine Aj ?_;refine BO (nx,IX S c left,pre++[(x,IX S c left)],f,l1) ⟨LB,?_,?_,?_⟩ ?_ ⟨rfl,rfl,rfl,rfl,rfl,rfl,trivial⟩ (Keep.appL l1 (.drop (.drop (.drop .refl))))
   ·rw[hW];simp
   ·simp only;omega
   ·simp only;omega
   ·simp only;omega
theorem Uf(pre:List Z2)(x:Z2)(d:Int):Qz (pre++[x]) d=x:=by simp[Qz]
theorem V8(D:SD)(S:Ar.ArT)(Ck:Nat): ∀(f:Nat) (c:CapT) (left:Int) (pre:List Z2) (x:Z2),pre++[x]<+:Gh D S Ck f c left->x.2=0->Gh D S Ck f c left=pre++[x]
 |0,c,left,pre,x,h,_=>by have:=h.length_le;simp[Gh] at this
 |f+1,c,left,pre,x,h,hx=>by
  by_cases hl:left>0
  ·cases hs:OJ D S Ck c left with
   |none=>rw[Pc hs] at h;have:=h.length_le;simp at this
   |some y=>
    rw[eG hl hs] at h⊢;cases pre with
    |nil=>obtain⟨t,ht⟩:=h;simp only[Ag,Ae,Co] at ht;rw[<-ht.1,Ue Af];rfl
    |cons p pre=>obtain⟨t,ht⟩:=h;simp only[Ae,Co] at ht;rw[V8 D S Ck f y.2 y.1.2 pre x ⟨t,ht.2⟩ hx,<-ht.1];rfl
  ·rw[Ue Af] at h;have:=h.length_le;simp at this
abbrev stC(B:Nat)(y:Z2):Bd:=(B,.cells (toArray (xP y)) 442 (0,0))
theorem Y4(bs ba:Nat)(D:SD)(S:Ar.ArT)(lq la:Ac)(hq:IsS bs D lq)(hA:Ar.IsA ba S la)(hR:rX S)(Ck:Nat)(XX:Ck<18446744073709551616)(root:CapT)(depth:Int)(l:Ac)(h1: ∀c,c∈lq->c∈l)(h2: ∀c,c∈la->c∈l):
 Fn prog 206 [.pointer (some ⟨bs,0,none⟩),.pointer (some ⟨ba,0,none⟩),.agg (toArray (B0 root)),.int .u64 (Ck:Nat),.int .i64 depth] l λv l'=>v= .tuple #[.agg (toArray (Cw (Y3 D S root Ck depth).1)),.int .i64 (Y3 D S root Ck depth).2]/\l'=l:=by
 refine AN func206 ntmps206 λE=>?_;refine AQ λb7=>?_;refine AQ λGd=>?_;refine Bh (AL rfl rfl λl2 _=>rZ bs ba Ck XX depth l2) ?_;by_cases hb:mY Ck depth
 ·rw[Ad hb,show Y3 D S root Ck depth=((0,0),3) by unfold Y3;rw[Ad hb]];refine Aj ?_;exact CT (l':=l) (Dv Gd (0,0)::l) (by exact AW) (.drop .refl) ⟨rfl,rfl⟩
 rw[Ab hb];have Ad8:depth<=12:=Decidable.byContradiction λh=>hb (.inr (.inl Af));have hd1:1<=depth:=Decidable.byContradiction λh=>hb (.inl Af);refine AQ λWA=>?_;refine AS (Az rfl rfl (iD bs ba Ck root depth _)) ?_;rintro _ _ ⟨B1,B2,B3,B4,B5,rfl,rfl⟩;refine Aj ?_;obtain⟨L,hL⟩: ∃L,Gh D S Ck 13 root depth=L:=⟨_,rfl⟩
 have wI:Y3 D S root Ck depth=if(Qz L depth).2>0 then((0,0),12) else((Qz L depth).1,0):=by unfold Y3;rw[Ab hb,hL]
 refine Dg (α:=Z2) (ps:=[32]) (lb:=[.pointer (some ⟨B1,0,none⟩),.pointer (some ⟨B2,0,none⟩),.pointer (some ⟨B3,0,none⟩),.pointer (some ⟨B4,0,none⟩),.pointer (some ⟨B5,0,none⟩)]) rfl (bK B1 B2 B3 B4 B5 bs ba D S lq la hq hA hR Ck XX root depth Ad8) (λ_=>rfl) rfl
  (λpre l=>l=[GJ B2 depth,Rj B4 Ck,Bz B1 root,ptA B3 ba,ptS B5 bs,stC WA (Qz pre depth)]/\True)
  (λc pre l=>c= .exit 0/\ ∃(G8:List Z2) (x:Z2),pre=G8++[x]/\x.2=0/\l=[stC WA x])
  _ (Dv Gd (0,0)::Bz b7 root::l) (λpre l2 X2 hX h=>⟨λx hx=>by rw[h.1];exact Ai _ (by simp only[At,BQ,EE] at hx⊢;rcases hx with h|h|h|h|h<;>simp[h]),λc hc=>Aa _ (hX _ (.tail _ (.tail _ (h1 _ hc)))),λc hc=>Aa _ (hX _ (.tail _ (.tail _ (h2 _ hc))))⟩) (by exact AW) ⟨rfl,trivial⟩ ?_ ?_ ?_
 ·rintro E r0 FU pre x l' T ⟨fn,tmps,D0,rfl⟩ hT ⟨rfl,_⟩ Dw;simp only[DX,Ae,Ag];refine AQ λU5=>?_;refine CK (by exact DY) ?_;refine Aj ?_;by_cases hy:x.2=0
  ·refine Aj ?_;refine E5 [stC WA x] (by exact AW) ⟨rfl,pre,x,rfl,hy,rfl⟩
  ·refine Aj ?_;refine Ci [GJ B2 depth,Rj B4 Ck,Bz B1 root,ptA B3 ba,ptS B5 bs,stC WA x] (by exact AW) ⟨by rw[Uf],trivial⟩
 ·rintro D0 xs l' rfl ⟨rfl,_⟩;rw[hL] at*;simp only[Ae,Ag];refine Aj ?_;by_cases hz:(Qz L depth).2>0
  ·rw[wI,Ad hz];refine Aj ?_;exact AU [D0] (Dv Gd (0,0)::l) rfl (l':=l) (by exact AW) (by exact Ba) (.drop .refl) ⟨rfl,rfl⟩
  ·rw[wI,Ab hz];refine Aj ?_;exact AU [D0] (Dv Gd (Qz L depth).1::l) rfl (l':=l) (by exact AW) (by exact Ba) (.drop .refl) ⟨rfl,rfl⟩
 ·rintro D0 c pre l' Dw ⟨rfl,G8,x,rfl,qq,rfl⟩;have hLx:L=G8++[x]:=by rw[<-hL];exact V8 D S Ck 13 root depth G8 x Dw qq
  rw[wI,hLx,Uf,Ab Af];simp only[Ae,Ag];refine Aj ?_;exact AU [D0] (Dv Gd x.1::l) rfl (l':=l) (by exact AW) (by exact Ba) (.drop .refl) ⟨rfl,rfl⟩
end Go.Proofs.YtlifcingifodfaaGreat
