/- Laws that the statement's proof leans on (joined out of several texts). -/
import Derived.Test.YtlkgekpmileobaaGreatGd10
import Derived.Lib.AppendZeros
set_option maxHeartbeats 4000000
set_option linter.unusedVariables false
set_option linter.unusedSimpArgs false
namespace Go.Proofs.YtlkgekpmileobaaGreat
open Tryz
open List(toArray)
open Go.RowKit
set_option maxRecDepth 20000
variable{k F C b N n j gf f i bv cap e:Nat}{S:KT}{s:RL}{p:RP}{G L2 lo L:List Ab}{P:Program}{U:List Int}{ro:Option Nat}{ty t:TypeId}{pos:String}{E:World}{Q:Exit->Act->World->Prop}{ds:List Deferred}{x y:Operand}{g:Option (Nat×Bool)}{α:Type}{ps:List Tmp}{assign body:Code}{lb vs sp cs:List Value}{id:Int}
instance{F C k:Nat}{S:KT}{p:RP}{b:Nat}{id:Int}:EK prog F C b p 204 [pV b,.int .i64 id] k S k (iV (Ha S id).1) (Ha S id).2:=⟨λs G h=>qW h id⟩
section
def nB(F C b:Nat)(p:RP)(G:List Ab)(J:List α->Nat->KT->List Ab->Prop)(pre:List α)(l:List Ab):Prop:= ∃lo k S s L,J pre k S lo/\IsK F C k S p s/\Tail L G/\l=lo++Aw b p s S L
def nD(F C b:Nat)(p:RP)(G:List Ab)(J:Code->List α->Nat->KT->List Ab->Prop)(c:Code)(pre:List α)(l:List Ab):Prop:= ∃lo k S s L,J c pre k S lo/\IsK F C k S p s/\Tail L G/\l=lo++Aw b p s S L
variable{fr:Fr}{L0:List Ab}{g:Operand}{enc:α->List Value}{Sx Sp:List α->Prop}{Need:List α->List Ab->Prop}
theorem SA(hg:ev fr g=some (.func (.func gf) #[] lb.toArray))[en:EN P gf](hit:Fa P gf lb enc Sx Sp Need)(hps: ∀x,(enc x).length=ps.length)(hpb:ps.all (λp=>Nat.blt p N)=true)
 (J:List α->Nat->KT->List Ab->Prop)(JX:Code->List α->Nat->KT->List Ab->Prop)(hneed: ∀pre lo k S s L X,J pre k S lo->IsK F C k S p s->Need pre ((lo++Aw b p s S L)++X))(hL:Keep L0 (lo++Aw b p s S G))(h0:J [] k S lo)(hK:IsK F C k S p s)
 (hround: ∀(E:World) (r:Nat) (rec:LoopState->Option Code->Loop) (pre:List α) (x:α) (lo:List Ab) (k:Nat) (S:KT) (s:RL) (L T:List Ab),(∃fn tmps D,rec=Dz fn tmps ps.toArray assign body D)->Tail L G->J pre k S lo->IsK F C k S p s->Sp (pre++[x])->Cw b p∈Aw b p s S (L++T)->
   BH P (some r) N E assign (Exit.then (Ow P r body (roundPost P r (RK E (JG (nB F C b p G J) (nD F C b p G JX) (pre++[x]) r rec T)))) (λ_ _ _=>False)) (DG ps (enc x) fr) [] (lo++(r,.loop (rec .ready none))::Aw b p s S (L++T)))
 (hdone: ∀(D:Nat) (xs:List α) (lo:List Ab) (k:Nat) (S:KT) (s:RL) (L:List Ab),Sx xs->J xs k S lo->IsK F C k S p s->Tail L G->Cw b p∈Aw b p s S L->CO N E Q .normal fr (GU D::ds) (Cf D::(lo++Aw b p s S L)))
 (hstop: ∀(D:Nat) (c:Code) (pre:List α) (lo:List Ab) (k:Nat) (S:KT) (s:RL) (L:List Ab),Sp pre->JX c pre k S lo->IsK F C k S p s->Tail L G->Cw b p∈Aw b p s S L->BH P none N E c Q fr (GU D::ds) (Cf D::(lo++Aw b p s S L))):
 BH P none N E (.rangeFunc g ps.toArray assign body) Q fr ds L0:=by
 refine C0 hg hit hps hpb (nB F C b p G J) (nD F C b p G JX) (lo++Aw b p s S G) [] (λpre l X _ h=>by obtain⟨lo,k,S,s,L,h1,h2,_,rfl⟩:=h;exact hneed _ _ _ _ _ _ _ h1 h2) (by rw[Bf];exact hL) ⟨lo,k,S,s,G,h0,hK,.nil,rfl⟩ ?_ ?_ ?_
 ·rintro E r rec pre x l T hr-⟨lo,k,S,s,L,h1,h2,h3,rfl⟩ hsp;refine D3 (.of_perm ?_) (hround E r rec pre x lo k S s L T hr h3 h1 h2 hsp (mR λ_ h=>h));unfold Aw;exact BR
 ·rintro D xs l hS ⟨lo,k,S,s,L,h1,h2,h3,rfl⟩;rw[Bf];exact hdone D xs lo k S s L hS h1 h2 h3 (mR λ_ h=>h)
 ·rintro D c pre l hS ⟨lo,k,S,s,L,h1,h2,h3,rfl⟩;rw[Bf];exact hstop D c pre lo k S s L hS h1 h2 h3 (mR λ_ h=>h)
variable{r:Nat}{fn:FuncId}{tmps:Array Value}{pt:Array Tmp}{D:Nat}{J:List α->Nat->KT->List Ab->Prop}{JX:Code->List α->Nat->KT->List Ab->Prop}{xs:List α}{T Lst:List Ab}
theorem ay{o:Obj}(hk:Keep Lst (lo++(r,o)::Aw b p s S L2))(hT:Tail L2 (L++T)): ∃X,Keep Lst ((lo++Aw b p s S (X++L))++(r,o)::T):=by obtain⟨X,rfl⟩:=hT;refine⟨X,hk.trans (.of_perm ?_)⟩;unfold Aw;exact BR
theorem dv(lo:List Ab)(hk:Keep Lst (lo++(r,.loop (Dz fn tmps pt assign body D .busy none))::Aw b p s S L2))(hJ:J xs k S lo)(hT:Tail L2 (L++T):=by exact vS)(hL:Tail L G:=by assumption)(hK:IsK F C k S p s:=by infer_instance):CO N E (roundPost P r (RK E (JG (nB F C b p G J) (nD F C b p G JX) xs r (Dz fn tmps pt assign body D) T))) .normal fr ds Lst:=by obtain⟨X,h⟩:=ay hk hT;exact B0 _ h ⟨lo,k,S,s,X++L,hJ,hK,hL.step X,rfl⟩
theorem nE(lo:List Ab)(hk:Keep Lst (lo++(r,.loop (Dz fn tmps pt assign body D .busy none))::Aw b p s S L2))(hJ:JX .ret xs k S lo)(hT:Tail L2 (L++T):=by exact vS)(hL:Tail L G:=by assumption)(hK:IsK F C k S p s:=by infer_instance):CO N E (roundPost P r (RK E (JG (nB F C b p G J) (nD F C b p G JX) xs r (Dz fn tmps pt assign body D) T))) .ret fr ds Lst:=by obtain⟨X,h⟩:=ay hk hT;exact Eg _ h ⟨lo,k,S,s,X++L,hJ,hK,hL.step X,rfl⟩
end
abbrev ML(bv:Nat)(U:List Int)(sp:List Value):Ab:=(bv,.cells (toArray (U.map CG++sp)) 3 (0,0))
section
theorem IsK.cur(h:IsK F C k S p s): ∃bv cap sp,p.v= .slice (some ⟨bv,0,none⟩) C cap/\s.V=[ML bv S.U sp]/\C<=cap/\cap<=maxLen/\C+sp.length=cap:=by
 obtain⟨h1,⟨_,h0,_⟩|⟨bv,cap,sp,e1,e2,z1,z2,z3⟩⟩:=h.cu
 ·have:=h.c1;omega
 ·exact⟨bv,cap,sp,e1,e2,z1,z2,by rw[Ai,h1] at z3;omega⟩
theorem yM{k':Nat}{x:Value}{U':List Int}(hK:IsK F C k S p s)(hk:k'<=k)(hl:U'.length=S.U.length)(h: ∀bv cap sp G,p.v= .slice (some ⟨bv,0,none⟩) C cap->Cw b p∈G->(∀c,c∈s.T->c∈G)->Fn prog f vs (ML bv S.U sp::G) λv l'=>v=x/\ ∃X,l'=X++ML bv U' sp::G):Fn prog f vs (Aw b p s S G) (KK F C b p k' x {S with U:=U'} G):=by
 obtain⟨bv,cap,sp,e1,e2,z1,z2,z3⟩:=hK.cur;have ho:OwnSl 3 1 p.v C (U'.map CG) [ML bv U' sp]:=⟨by rw[A3,hl,hK.ul];omega,.inr ⟨bv,cap,sp,e1,rfl,z1,z2,by rw[Ai,A3,hl,hK.ul];omega⟩⟩
 exact Fn.re (.of_perm (by unfold Aw;rw[e2];exact BR)) (h bv cap sp (Cw b p::As.asA p.n S.N::(s.M++(s.C++(s.A++(s.H++(s.T++(s.Q++(s.E++G)))))))) e1 (.head _) (λc hc=>by simp[hc])) λv l' ⟨g1,X,g2⟩=>⟨Aw b p {s with V:=[ML bv U' sp]} {S with U:=U'} (X++G),by rw[g2];unfold Aw;exact A4 [],g1,{s with V:=[ML bv U' sp]},_,{hK.mono hk with cu:=ho,ul:=hl.trans hK.ul},⟨X,rfl⟩,rfl⟩
theorem Qg(h:i<U.length):(toArray (U.map CG++sp))[i]?=some (.int .i64 (U.getD i 0)):=by rw[AC,AF (by simpa using h),A0,Al h,List.getD,Al h];rfl
theorem pD(h:i<U.length)(v:Int):(toArray (U.map CG++sp)).setIfInBounds i (CG v)=toArray ((U.set i v).map CG++sp):=by rw[Bt,GQ _ _ (by simpa using h),Hj]
def Lh(U:List Int)(core:Int):Int:=if core<0\/core>=U.length then 0 else U.getD core.toNat 0
theorem az{x:Nat}{pre:List Nat}(h:pre++[x]<+:List.range n)(hj:pre.length=j):x=j/\j<n/\pre=List.range j:=by
 have h4:=h.length_le;rw[Ai,EM,Bh] at h4;obtain⟨t,ht⟩:=h;have e:(pre++[x])=List.range (j+1):=by have:=BN (List.take (j+1)) ht;rw[List.take_append_of_le_length (by simp;omega),Bv (by simp;omega),Gr,Ev Af] at this;exact this
 rw[Cu] at e;have:=I9 e rfl;exact⟨by simpa using this.2,Af,this.1⟩
theorem uE(hK:IsK F C k S p s)(core:Int)(l:List Ab)(hl: ∀c,c∈Aw b p s S G->c∈l):Fn prog 105 [pV b,.int .i64 core] l λv l'=>v=iV (Lh S.U core)/\l'=l:=by
 obtain⟨bv,cap,sp,e1,e2,z1,z2,z3⟩:=hK.cur;have hC:=hK.c1;have hul:=hK.ul;have mr:Cw b p∈l:=mR hl;have mv:ML bv S.U sp∈l:=mV hl _ (by rw[e2];simp);refine AM func105 ntmps105 λE=>?_;refine AO λb3=>?_;refine AO λb4=>?_;refine AP (Az rfl rfl (N4 b _)) ?_;rintro _ _ ⟨B,rfl,rfl⟩;refine Aj ?_;refine C0 (α:=Nat) (ps:=[9,10]) (lb:=[pV B]) rfl (Mp B b p bv C cap Af e1) (λ_=>rfl) rfl
  (λpre l=>(∀x:Nat,x∈pre->¬(x:Int)=core)/\l=[rB B b,BJ b4 0,BJ b3 core])
  (λc pre l=>c= .ret/\ ∃x:Nat,x<C/\(x:Int)=core/\l=[BJ b4 (S.U.getD x 0)])
  [rB B b,BJ b4 0,BJ b3 core] l (λpre l2 X hX h=>⟨by rw[h.2];exact Ah _ (.head _),Aa _ (hX _ mr)⟩) (by exact AS) ⟨λ_ h=>(nomatch h),rfl⟩ ?_ ?_ ?_
 ·rintro E r0 rec pre x l' X ⟨fn,tmps,D,rfl⟩ hX ⟨hn,rfl⟩ hsp;obtain⟨rfl,hx,_⟩:=az hsp rfl;have mX:=hX _ mv;have c0:=Qg (U:=S.U) (sp:=sp) (i:=pre.length) Af;simp only[DG,Ae,Ag,Df];refine Aj ?_;refine Cy (by exact DI) ?_;refine Aj ?_;by_cases h:((pre.length:Nat):Int)=core
  ·refine Aj ?_;refine Eg [BJ b4 (S.U.getD pre.length 0)] (by exact AS) ⟨rfl,pre.length,hx,h,rfl⟩
  ·refine Aj ?_;exact B0 [rB B b,BJ b4 0,BJ b3 core] (by exact AS) ⟨λz hz=>by
    rcases AE.1 hz with hz|hz
    ·exact hn z hz
    ·rw[Ax.1 hz];exact h,rfl⟩
 ·rintro D xs l' rfl ⟨hn,rfl⟩;have e0:Lh S.U core=0:=by
   unfold Lh
   split
   ·rfl
   ·rename_i h;exact absurd (show((core.toNat:Nat):Int)=core by omega) (hn core.toNat (by simp;omega))
  rw[e0];simp only[Ae,Ag];refine Aj ?_;exact AW [D] _ rfl (l':=l) (by exact AS) (by exact A8) (by exact AS) ⟨rfl,rfl⟩
 ·rintro D c pre l' hsp ⟨rfl,x,hx,rfl,rfl⟩;have e0:Lh S.U (x:Nat)=S.U.getD x 0:=by unfold Lh;rw[Ac Af,AY]
  rw[e0];simp only[Ae,Ag];refine Aj ?_;exact AW [D] _ rfl (l':=l) (by exact AS) (by exact A8) (by exact AS) ⟨rfl,rfl⟩
instance[h:IsK F C k S p s]{core:Int}:QF prog 105 [pV b,.int .i64 core] (Aw b p s S G) (iV (Lh S.U core)):=⟨λl hl=>uE h core l hl⟩
def MM(U:List Int)(core id:Int)(j:Nat):List Int:=(U.take j).mapIdx (λi x=>if(i:Int)=core then id else if x=id then 0 else x)++U.drop j
def Li(S:KT)(core id:Int):Int×KT:=if core<0\/core>=S.U.length then(3,S) else if My S id=false/\¬id=0 then(2,S) else(0,{S with U:=MM S.U core id S.U.length})
theorem W3(U:List Int)(core id:Int)(j:Nat):(MM U core id j).length=U.length:=by unfold MM;simp;omega
theorem dy{core:Int}(h:j<U.length):(MM U core id j).getD j 0=U.getD j 0/\MM U core id (j+1)=(MM U core id j).set j (if(j:Int)=core then id else if U.getD j 0=id then 0 else U.getD j 0):=by
 have e1:U.drop j=U.getD j 0::U.drop (j+1):=by rw[C4 h,List.getD,Al h];rfl
 have e2:U.take (j+1)=U.take j++[U.getD j 0]:=by rw[Cg,List.getD,Al h];rfl
 have ln:((U.take j).mapIdx λi x=>if(i:Int)=core then id else if x=id then 0 else x).length=j:=by simp;omega
 unfold MM;constructor
 ·rw[List.getD,AU (by rw[ln];omega),ln,DD,e1];rfl
 ·rw[e2,e1,Cm _ _ (by rw[ln];omega),ln,DD,List.mapIdx_append,Am];simp[Ev (Nat.le_of_lt h)]
end
theorem W4(h:j<U.length):U.set j (U.getD j 0)=U:=by
 refine C9 λi=>?_;rw[GA]
 split
 ·rename_i e;subst e;simp[h]
 ·rfl
section
theorem uF(hK:IsK F C k S p s)(core id:Int):Fn prog 104 [pV b,.int .i64 core,.int .i64 id] (Aw b p s S G) (KK F C b p k (iV (Li S core id).1) (Li S core id).2 G):=by
 have hC:=hK.c1;have hul:=hK.ul;have key:(Li S core id).2={S with U:=(Li S core id).2.U}:=by unfold Li;(repeat' split)<;>rfl
 rw[key];refine yM hK (A7 _) (by unfold Li;(repeat' split)<;>first|rfl|exact W3 _ _ _ _) λbv cap sp G e1 mr mt=>?_;have QT: ∀l2,(∀c,c∈G->c∈l2)->Fn prog 96 [pV p.t,.int .i64 id] l2 _:=λl2 h2=>Th.get_any p.t S.T s.T hK.th id l2 λc hc=>h2 _ (mt c hc);have nC:Cw b p=(b,.cells (toArray [pV p.m,pV p.c,pV p.a,pV p.h,pV p.n,pV p.t,pV p.q,pV p.e,.slice (some ⟨bv,0,none⟩) C cap]) 163 (0,0)):=by unfold Cw;rw[e1]
 have mr2:=mr;rw[nC] at mr2;refine AM func104 ntmps104 λE=>?_;refine AO λb4=>?_;refine AO λb5=>?_;refine HU ?_;by_cases hb:core<0\/core>=C
 ·rw[show Li S core id=(3,S) by unfold Li;rw[hul,Ad hb]];by_cases h1:core<0<;>by_cases h2:core>=C;all_goals first
   |(exfalso;omega)
   |(refine BM ?_
     refine Aj ?_;exact A9 .refl ⟨rfl,[BJ b5 id,BJ b4 core],rfl⟩)
 refine BM ?_;refine Aj ?_;refine Cn (Ck [9,10] 0 12) ?_;refine Cs ?_;refine ZR ?_ (AJ rfl rfl λl2 h2=>QT l2 λc hc=>h2 _ (.tail _ (.tail _ (.tail _ hc))));refine Cs ?_;refine Hm e_alloc (by rintro _ _ ⟨_,_,_,rfl⟩ c hc;exact .tail _ hc) ?_;rintro _ _ ⟨b7,_,rfl,rfl⟩;refine Cs ?_;obtain⟨t,ht⟩: ∃t,(Th.findH S.T id).getD Th.thZ=t:=⟨_,rfl⟩
 rw[ht];obtain⟨ok,hok⟩: ∃ok,(Th.findH S.T id).isSome=ok:=⟨_,rfl⟩
 rw[hok];refine Cs ?_;by_cases hbad:ok=false/\¬id=0
 ·rw[show Li S core id=(2,S) by unfold Li My;rw[hul,Ac hb,hok,Ad hbad]];obtain⟨rfl,h0⟩:=hbad;refine Aj ?_;exact A9 .refl ⟨rfl,[Th.thC b7 t,BJ b5 id,BJ b4 core],rfl⟩
 rw[show Li S core id=(0,{S with U:=MM S.U core id C}) by unfold Li My;rw[hul,Ac hb,hok,Ac hbad]];cases ok
 case' false=>
  have h0:id=0:=by
   by_cases e:id=0
   ·exact e
   ·exact absurd ⟨rfl,e⟩ hbad
 all_goals
  refine Aj ?_;refine AP (Az rfl rfl (N4 b _)) ?_;rintro _ _ ⟨B,rfl,rfl⟩;refine Aj ?_;refine C0 (α:=Nat) (ps:=[43,44]) (lb:=[pV B]) rfl (Mp B b p bv C cap Af e1) (λ_=>rfl) rfl
   (λpre l=>l=[rB B b,Th.thC b7 t,BJ b5 id,BJ b4 core,ML bv (MM S.U core id pre.length) sp])
   (λc pre l=>False)
   [rB B b,Th.thC b7 t,BJ b5 id,BJ b4 core,ML bv S.U sp] G (λpre l2 X hX h=>⟨by rw[h];exact Ah _ (.head _),Aa _ (hX _ mr)⟩) (by exact AS) (by simp[MM]) ?_ ?_ ?_
  ·rintro E r0 rec pre x l' X ⟨fn,tmps,D,rfl⟩ hX rfl hsp;obtain⟨rfl,hx,_⟩:=az hsp rfl;obtain⟨j,hj⟩: ∃j,pre.length=j:=⟨_,rfl⟩
   rw[hj] at hx⊢;obtain⟨g1,g2⟩:=dy (core:=core) (id:=id) (U:=S.U) (j:=j) Af;have hlj:j<(MM S.U core id j).length:=by rw[W3];omega
   have c0:=Qg (sp:=sp) hlj;rw[g1] at c0;have us:=pD (sp:=sp) hlj;simp only[DG,Ae,Ag,Df];refine Aj ?_;refine Cy (by exact DI) ?_;refine Aj ?_;by_cases h:((j:Nat):Int)=core
   ·rw[Ad h] at g2;refine Aj ?_;refine Mu (Dg (b:=bv) (off:=j) (cs:=toArray ((MM S.U core id j).map CG++sp)) rfl rfl rfl (by rw[show(Value.int IntKind.i64 id)=CG id from rfl,us,<-g2];exact DI) (by rw[Bn,Ai,A3];omega)) rfl rfl ?_;rintro _ _ ⟨rfl,rfl⟩;refine Aj ?_;exact B0 [rB B b,Th.thC b7 t,BJ b5 id,BJ b4 core,ML bv (MM S.U core id (j+1)) sp] (by exact AS) (by simp[hj])
   rw[Ac h] at g2;refine Aj ?_;refine HU ?_;by_cases h2:S.U.getD j 0=id
   ·rw[Ad h2] at g2;refine BM ?_;refine Aj ?_;refine Mu (Dg (b:=bv) (off:=j) (cs:=toArray ((MM S.U core id j).map CG++sp)) rfl rfl rfl (by rw[show(Value.int IntKind.i64 0)=CG 0 from rfl,us,<-g2];exact DI) (by rw[Bn,Ai,A3];omega)) rfl rfl ?_;rintro _ _ ⟨rfl,rfl⟩;refine Aj ?_;exact B0 [rB B b,Th.thC b7 t,BJ b5 id,BJ b4 core,ML bv (MM S.U core id (j+1)) sp] (by exact AS) (by simp[hj])
   ·rw[Ac h2] at g2;refine BM ?_;refine Aj ?_;exact B0 [rB B b,Th.thC b7 t,BJ b5 id,BJ b4 core,ML bv (MM S.U core id (j+1)) sp] (by rw[g2,show(MM S.U core id j).set j (S.U.getD j 0)=MM S.U core id j by rw[<-g1];exact W4 hlj];exact AS) (by simp[hj])
  ·rintro D xs l' rfl rfl;rw[EM];simp only[Ae,Ag];refine Aj ?_;exact AW [D] _ rfl .refl (by exact A8) (.drop (.drop (.drop (.drop .refl)))) ⟨rfl,[],rfl⟩
  ·rintro D c pre l' hsp h;exact h.elim
instance{core id:Int}:EK prog F C b p 104 [pV b,.int .i64 core,.int .i64 id] k S k (iV (Li S core id).1) (Li S core id).2:=⟨λs G h=>uF h core id⟩
end
theorem XE{A l:List Ab}(hl: ∀c,c∈A->c∈l): ∀{f:Nat} {vs:List Value} {v:Value} [QF P f vs A v],QF P f vs l v:=by intro f vs v q;exact⟨λl2 h=>q.out l2 λc hc=>h c (hl c hc)⟩
abbrev DU(S:KT)(x:Ce):CapT:=(getD' S.H.1 x).1
def Ft(S:KT)(id:Int):(Int×Int×Int)×Bool:=
 if My S id=false then((0,0,0),false)
 else if ¬(getD' S.H.1 (id,1)).2=0\/¬(DU S (id,1)).kind=5 then((0,0,0),false)
 else if(As.ofP S.N (DU S (id,1)).obj).2.2=false\/¬(Ar.getD' S.A (DU S (id,1)).obj).1.kd=5 then((0,0,0),false)
 else(((DU S (id,1)).obj,(As.ofP S.N (DU S (id,1)).obj).1,(As.ofP S.N (DU S (id,1)).obj).2.1),true)
section
theorem nG(hK:IsK F C k S p s)(id:Int)(l:List Ab)(hl: ∀c,c∈Aw b p s S G->c∈l):Fn prog 111 [pV b,.int .i64 id] l λv l'=>v= .tuple #[iV (Ft S id).1.1,iV (Ft S id).1.2.1,iV (Ft S id).1.2.2,.bool (Ft S id).2]/\l'=l:=by
 have mr:Cw b p∈l:=mR hl;have I: ∀{f:Nat} {vs:List Value} {v:Value} [QF prog f vs (Aw b p s S G) v],QF prog f vs l v:=XE hl;unfold Ft My;refine AM func111 ntmps111 λE=>?_;refine Aj ?_;refine El ?_;refine Aj ?_;refine El ?_;refine AO λb8=>?_;cases hf:(Th.findH S.T id).isSome with
 |false=>rw[Ad rfl];refine Aj ?_;exact qr
 |true=>
 rw[Ac AX];refine Aj ?_;refine El ?_;obtain⟨c,hc⟩: ∃c,(getD' S.H.1 (id,1)).1=c:=⟨_,rfl⟩
 obtain⟨e,he⟩: ∃e,(getD' S.H.1 (id,1)).2=e:=⟨_,rfl⟩
 rw[show DU S (id,1)=c from hc,hc,he];refine AO λb10=>?_;by_cases h1:¬e=0\/¬c.kind=5
 ·rw[Ad h1];by_cases h2:e=0<;>by_cases h3:c.kind=5;all_goals first
   |(exfalso;omega)
   |(refine Aj ?_
     exact qr)
 rw[Ac h1];refine Aj ?_;refine HU ?_;iterate 6 refine kP ?_
 refine TK ?_;obtain⟨o,ho⟩: ∃o,As.ofP S.N c.obj=o:=⟨_,rfl⟩
 rw[ho];refine BM ?_;refine Aj ?_;refine Cn (Ck [10,11] 0 13) ?_;refine Cs ?_;refine Hm e_alloc (by rintro _ _ ⟨_,_,_,rfl⟩ c hc;exact .tail _ hc) ?_;rintro _ _ ⟨b15,_,rfl,rfl⟩;obtain⟨q,hq⟩: ∃q,(Ar.getD' S.A c.obj).1=q:=⟨_,rfl⟩
 rw[hq];refine Cs ?_;by_cases h1:o.2.2=false\/¬q.kd=5
 ·rw[Ad h1];cases h2:o.2.2<;>by_cases h3:q.kd=5;all_goals first
   |(exfalso;simp_all;done)
   |(refine Aj ?_
     exact qr)
 rw[Ac h1];have h2:o.2.2=true:=by simp at h1;exact h1.1
 have h3:q.kd=5:=by simp at h1;exact h1.2
 rw[h2];refine Aj ?_;exact qr
instance[h:IsK F C k S p s]{id:Int}:QF prog 111 [pV b,.int .i64 id] (Aw b p s S G) (.tuple #[iV (Ft S id).1.1,iV (Ft S id).1.2.1,iV (Ft S id).1.2.2,.bool (Ft S id).2]):=⟨λl hl=>nG h id l hl⟩
theorem IsK.curAt(h:IsK F C k S p s)(hv:p.v= .slice (some ⟨bv,0,none⟩) C cap): ∃sp,s.V=[ML bv S.U sp]/\C<=cap/\cap<=maxLen/\C+sp.length=cap:=by obtain⟨bv',cap',sp,e1,e2,z1,z2,z3⟩:=h.cur;rw[hv] at e1;injection e1 with e3 e4 e5;injection e3 with e3;injection e3 with e3;subst e3 e5;exact⟨sp,e2,z1,z2,z3⟩
theorem ja{ops:Array Oper}{rest:List Oper}{fr:Fr}{l:List Ab}{aft:Array Edge}{v:Int}{Γ:List Ab->List Ab}(hv:p.v= .slice (some ⟨bv,0,none⟩) C cap)(hj:j<C)(hk: ∀S1 s',S1={S with U:=S.U.set j v}->IsK F C k S1 p s'->Cw b p∈Aw b p s' S1 G->Dk P ro N E ops Q rest fr ds (Γ (Aw b p s' S1 G)))[c:OC P t](hx:ev fr x=some (.pointer (some ⟨bv,j,none⟩)):=by rfl)(hy:ev fr y=some (.int .i64 v):=by rfl)(hF:Fr1 (Aw b p s S G) l Γ:=by exact Z9)(hK:IsK F C k S p s:=by infer_instance):Dk P ro N E ops Q (⟨none,.store t x y,ty,pos,aft,none⟩::rest) fr ds l:=by
 obtain⟨sp,e2,z1,z2,z3⟩:=hK.curAt hv;have hul:=hK.ul;obtain⟨A,rfl,hA⟩:=hF.eq;have hK1:IsK F C k {S with U:=S.U.set j v} p {s with V:=[ML bv (S.U.set j v) sp]}:=
  {hK with cu:=⟨by rw[A3,Cv,hul];omega,.inr ⟨bv,cap,sp,hv,rfl,z1,z2,by rw[Ai,A3,Cv,hul];omega⟩⟩,ul:=by rw[Cv];exact hul}
 have hk':=hk _ _ rfl hK1 (mR λ_ h=>h);rw[hA] at hk';have R: ∀U',(A++Aw b p {s with V:=[ML bv U' sp]} {S with U:=U'} G).Perm (ML bv U' sp::(A++(Cw b p::As.asA p.n S.N::(s.M++(s.C++(s.A++(s.H++(s.T++(s.Q++(s.E++G)))))))))):=λU'=>by unfold Aw;exact BR
 have R1:=R S.U;rw[<-e2] at R1;refine Bk (.of_perm R1) ?_;refine Mu (Dg (b:=bv) (off:=j) (cs:=toArray (S.U.map CG++sp)) hx hy rfl (by rw[show(Value.int IntKind.i64 v)=CG v from rfl,pD Af];exact .here) (by rw[Bn,Ai,A3];omega)) rfl rfl ?_;rintro _ _ ⟨rfl,rfl⟩;exact Bk (.of_perm (R _).symm) hk'
def Po(S:KT)(j:Nat):Int:=if My S (S.U.getD j 0)=false\/¬(DB S (S.U.getD j 0)).st=1 then 0 else S.U.getD j 0
def Fo(S:KT)(j:Nat):KT:=
 {S with U:=S.U.set j (Po S j),K:=if Po S j=0\/(Ft S (Po S j)).2=false then(setC S.K j (-1) 0).2 else(setC S.K j (Ar.getD' S.A (Ft S (Po S j)).1.1).1.fi (Ft S (Po S j)).1.2.1).2}
def K7(S:KT):KT:=(List.range S.U.length).foldl Fo S
end
section
theorem dz(S:KT)(n:Nat):(List.range (n+1)).foldl Fo S=Fo ((List.range n).foldl Fo S) n:=by rw[Cu,EO];rfl
theorem jc(hK:IsK F C k S p s):Fn prog 73 [pV b] (Aw b p s S G) λv l'=>v= .tuple #[]/\ ∃s' L,IsK F C k (K7 S) p s'/\Tail L G/\l'=Aw b p s' (K7 S) L:=by
 obtain⟨bv,cap,_,e1,_⟩:=hK.cur;have hC:=hK.c1;have hul:=hK.ul;refine AM func73 ntmps73 λE=>?_;refine AO λb1=>?_;refine AP (Az rfl rfl (N4 b _)) ?_;rintro _ _ ⟨B,rfl,rfl⟩;refine Aj ?_;refine SA (F:=F) (C:=C) (b:=b) (p:=p) (G:=G) (α:=Nat) (ps:=[14,15]) (lb:=[pV B]) rfl (Mp B b p bv C cap Af e1) (λ_=>rfl) rfl
  (λpre k' S' lo=>k'=k/\S'=(List.range pre.length).foldl Fo S/\lo=[rB B b,rB b1 b])
  (λ_ _ _ _ _=>False)
  (λpre lo k S s L X h hK=>by obtain⟨_,_,rfl⟩:=h;exact⟨by simp,Ah _ (Aa _ (mR λ_ h=>h))⟩)
  (.refl:Keep _ ([rB B b,rB b1 b]++Aw b p s S G)) ⟨rfl,rfl,rfl⟩ hK ?_ ?_ ?_
 ·rintro E r0 rec pre x lo k' S' s' L T ⟨fn,tmps,D,rfl⟩ hT ⟨rfl,hS',rfl⟩ hK' hsp mr;obtain⟨rfl,hx,_⟩:=az hsp rfl;obtain⟨j,hj⟩: ∃j,pre.length=j:=⟨_,rfl⟩
  rw[hj] at hx hS'⊢;obtain⟨sp,e2,_⟩:=hK'.curAt e1;have hul':=hK'.ul;have hs:=dz S j;rw[<-hS'] at hs;have mv:ML bv S'.U sp∈Aw b p s' S' (L++T):=mV (λ_ h=>h) _ (by rw[e2];simp);have c0:=Qg (U:=S'.U) (sp:=sp) (i:=j) Af;obtain⟨x,hxx⟩: ∃x,S'.U.getD j 0=x:=⟨_,rfl⟩
  rw[hxx] at c0;simp only[DG,Ae,Ag,Df];refine Aj ?_;refine Cy (by exact DI) ?_;refine Aj ?_;refine Cn (Ck [11,12] 0 14) ?_;refine Cs ?_;refine Hm e_alloc (by rintro _ _ ⟨_,_,_,rfl⟩ c hc;exact .tail _ hc) ?_;rintro _ _ ⟨b4,_,rfl,rfl⟩;obtain⟨t,ht⟩: ∃t,DB S' x=t:=⟨_,rfl⟩
  obtain⟨ok,hok⟩: ∃ok,(Th.findH S'.T x).isSome=ok:=⟨_,rfl⟩
  rw[ht,hok];refine Cs ?_;have hsx:Po S' j=if ok=false\/¬t.st=1 then 0 else x:=by unfold Po My;rw[hxx,ht,hok]
  obtain⟨y,hy⟩: ∃y,Po S' j=y:=⟨_,rfl⟩
  rw[hy] at hsx;have hfin:Fo S' j={S' with U:=S'.U.set j y,K:=if y=0\/(Ft S' y).2=false then(setC S'.K j (-1) 0).2 else(setC S'.K j (Ar.getD' S'.A (Ft S' y).1.1).1.fi (Ft S' y).1.2.1).2}:=by unfold Fo;rw[hy]
  have h4:(ok=true/\t.st=1)\/(ok=true/\¬t.st=1)\/(ok=false/\t.st=1)\/(ok=false/\¬t.st=1):=by cases ok<;>by_cases h2:t.st=1<;>simp[h2]
  rcases h4 with⟨rfl,h2⟩|⟨rfl,h2⟩|⟨rfl,h2⟩|⟨rfl,h2⟩
  case' inl=>
   rw[Ac (by simp[h2])] at hsx;obtain⟨S2,hS2⟩: ∃S2,S2=S':=⟨_,rfl⟩
   have hS2':S2={S' with U:=S'.U.set j y}:=by rw[hS2,hsx,<-hxx,W4 Af]
   have hK2:=hK';have mr2:=mr;rw[<-hS2] at hK2 mr2;refine Aj ?_;rw[<-hS2]
  case' inr.inl=>
   rw[Ad (by simp[h2])] at hsx;refine Aj ?_;refine ja e1 hx ?_;intro S2 s2 hS2' hK2 mr2;rw[<-hsx] at hS2';refine Aj ?_
  case' inr.inr.inl=>
   rw[Ad (by simp)] at hsx;refine Aj ?_;refine ja e1 hx ?_;intro S2 s2 hS2' hK2 mr2;rw[<-hsx] at hS2';refine Aj ?_
  case' inr.inr.inr=>
   rw[Ad (by simp)] at hsx;refine Aj ?_;refine ja e1 hx ?_;intro S2 s2 hS2' hK2 mr2;rw[<-hsx] at hS2';refine Aj ?_
  all_goals
   obtain⟨sp2,e22,_⟩:=hK2.curAt e1;have c2:=Qg (U:=S2.U) (sp:=sp2) (i:=j) (by rw[hK2.ul];exact hx);have mv2:=mV (l:=Aw b p _ S2 (L++T)) (λ_ h=>h) (ML bv S2.U sp2) (by rw[e22];simp);rw[show S2.U.getD j 0=y by rw[hS2'];simp[List.getD,hul',hx]] at c2;have hsp:Ft S2 y=Ft S' y:=by rw[hS2'];rfl
   have hgt: ∀i,Ar.getD' S2.A i=Ar.getD' S'.A i:=λi=>by rw[hS2']
   have hKK:S2.K=S'.K:=by rw[hS2']
   refine HU ?_;iterate 4 refine kP ?_
   refine TK ?_;rw[hsp];obtain⟨q,hq⟩: ∃q,Ft S' y=q:=⟨_,rfl⟩
   rw[hq] at hfin⊢;refine BM ?_;by_cases h5:y=0\/q.2=false
   ·rw[Ad h5] at hfin;cases h6:q.2<;>by_cases h7:y=0;all_goals first
     |(exfalso;revert h5;rw[h6];simp[h7];done)
     |(exfalso;omega)
     |(refine Aj ?_
       refine FI ?_;intro S3 s3 L3 hS3 hK3 hT3 mr3;refine Aj ?_;refine dv [rB B b,rB b1 b] (by exact AS) ⟨rfl,?_,rfl⟩;rw[Ai,hj,Bh,hs,hfin,hS3,hKK,hS2'])
   rw[Ac h5] at hfin;obtain⟨h6,h7⟩:q.2=true/\¬y=0:=by simp at h5;exact⟨h5.2,h5.1⟩
   first
    |(exfalso;omega)
    |(rw[h6]
      refine Aj ?_;simp only[AL,AK,AQ];refine El ?_;rw[hgt];obtain⟨o,ho⟩: ∃o,(Ar.getD' S'.A q.1.1).1=o:=⟨_,rfl⟩
      rw[ho] at hfin⊢;refine AO λb10=>?_;refine Cn (Ck [8] 0 9) ?_;refine Cs ?_;refine LN ?_;intro S3 s3 L3 hS3 hK3 hT3 mr3;refine Cs ?_;refine Aj ?_;refine dv [rB B b,rB b1 b] (by exact AS) ⟨rfl,?_,rfl⟩;rw[Ai,hj,Bh,hs,hfin,hS3,hKK,hS2'])
 ·rintro D xs lo k' S' s' L rfl ⟨rfl,hS',rfl⟩ hK' hT mr;rw[EM] at hS';have e:S'=K7 S:=by rw[hS'];unfold K7;rw[hul]
  subst e;simp only[Ae,Ag];refine Aj ?_;exact AW [D] _ rfl .refl (by exact A8) (.drop (.drop .refl)) ⟨rfl,s',L,hK',hT,rfl⟩
 ·rintro D c pre lo k' S' s' L hsp h;exact h.elim
end
def kZ(S:KT)(k z f:Int):KT:=if k=1 then S else{S with W:=(mU S.W f (Ar.framesD k z)).2}
def jd(S:KT)(n id:Int):KT:=if 0<n then{S with H:=((GI S.H.1 id n).2,S.H.2)} else S
def fj(S:KT)(k id:Int):KT:=if k=9 then{S with T:=(Th.addD S.T id).2} else if k=8 then{S with E:=(En.addD S.E id).2} else S
def I0(S:KT)(k z f:Int):(Int×Int)×KT:=
 if(Ar.addD S.A k z f).1.2=0 then(((Ar.addD S.A k z f).1.1,0),fj (jd (kZ {S with A:=(Ar.addD S.A k z f).2} k z f) (Ar.slotsD k z) (Ar.addD S.A k z f).1.1) k (Ar.addD S.A k z f).1.1)
 else((0,(Ar.addD S.A k z f).1.2),{S with A:=(Ar.addD S.A k z f).2})
section
theorem uG(hl:S.T.length+1+k<=900):EK prog F C b p 141 [pV p.t,.int .i64 id] k S k (iV (Th.addD S.T id).1) {S with T:=(Th.addD S.T id).2}:=⟨λs G h=>wK h (by unfold Th.addD;(repeat' split);all_goals(try rw[iA]);all_goals(try simp only);all_goals omega) (λu hu=>qK h.tw hu) Af λG=>Th.add_any p.t S.T s.T h.th id G⟩
theorem q5(hK:IsK F C (n+1) S p s)(k z f:Int):Fn prog 92 [pV b,.int .i64 k,.int .i64 z,.int .i64 f] (Aw b p s S G) (KK F C b p n (.tuple #[iV (I0 S k z f).1.1,iV (I0 S k z f).1.2]) (I0 S k z f).2 G):=by
 have mr:Cw b p∈Aw b p s S G:=mR λ_ h=>h;have hTl:=hK.tl;obtain⟨R,hR⟩: ∃R,I0 S k z f=R:=⟨_,rfl⟩
 rw[hR];unfold I0 at hR;refine AM func92 ntmps92 λE=>?_;refine Aj ?_;refine El ?_;refine Aj ?_;refine FI ?_;intro S1 s1 L1 hS1 hK1 hT1 mr1;rw[<-hS1] at hR;obtain⟨id,hid⟩: ∃x,(Ar.addD S.A k z f).1.1=x:=⟨_,rfl⟩
 obtain⟨er,her⟩: ∃x,(Ar.addD S.A k z f).1.2=x:=⟨_,rfl⟩
 rw[hid,her] at hR;rw[hid,her];by_cases he:er=0
 ·rw[Ad he] at hR;obtain⟨sl,hsl⟩: ∃x,Ar.slotsD k z=x:=⟨_,rfl⟩
  rw[hsl] at hR;refine Aj ?_;simp only[AL,AK,AQ];by_cases h1:k=1
  case' pos=>
   rw[show kZ S1 k z f=S1 from Ad h1] at hR;have h8:¬k=8:=by omega
   have h9:¬k=9:=by omega
   obtain⟨S2,hS2⟩: ∃S2,S1=S2:=⟨_,rfl⟩
   obtain⟨s2,hs2⟩: ∃s2,s1=s2:=⟨_,rfl⟩
   obtain⟨L2,hL2⟩: ∃L2,L1=L2:=⟨_,rfl⟩
   have hK2:=hK1;have hT2:=hT1;have mr2:=mr1;rw[hS2,hs2] at hK2;rw[hS2,hs2,hL2] at mr2;rw[hL2] at hT2;rw[hS2] at hR;have hl2:S2.T.length+1+n<=900:=by rw[<-hS2,hS1];show S.T.length+1+n<=900;omega
   refine Aj ?_;rw[hS2,hs2,hL2]
  case' neg=>
   refine Aj ?_;refine Cn (Ck [8] 0 9) ?_;refine Cs ?_;refine LN ?_;intro S2 s2 L2 hS2 hK2 hT2' mr2;have hT2:=hT2'.trans hT1;rw[show kZ S1 k z f=S2 from(Ac h1).trans hS2.symm] at hR;have hl2:S2.T.length+1+n<=900:=by rw[hS2,hS1];show S.T.length+1+n<=900;omega
   refine Cs ?_;refine Aj ?_
  all_goals
   refine El ?_;rw[hsl];refine Aj ?_;by_cases hs:0<sl
   case' pos=>
    refine Aj ?_;refine FI ?_;intro S3 s3 L3 hS3 hK3 hT3' mr3;have hT3:=hT3'.trans hT2;rw[show jd S2 sl id=S3 from(Ad hs).trans hS3.symm] at hR;have hl3:S3.T.length+1+n<=900:=by rw[hS3];exact hl2
    refine Aj ?_
   case' neg=>
    rw[show jd S2 sl id=S2 from Ac hs] at hR;obtain⟨S3,hS3⟩: ∃S3,S2=S3:=⟨_,rfl⟩
    obtain⟨s3,hs3⟩: ∃s3,s2=s3:=⟨_,rfl⟩
    obtain⟨L3,hL3⟩: ∃L3,L2=L3:=⟨_,rfl⟩
    have hK3:=hK2.mono (Nat.le_succ _);have hT3:=hT2;have mr3:=mr2;rw[hS3,hs3] at hK3;rw[hS3,hs3,hL3] at mr3;rw[hL3] at hT3;rw[hS3] at hR;have hl3:S3.T.length+1+n<=900:=by rw[<-hS3];exact hl2
    refine Aj ?_;rw[hS3,hs3,hL3]
   all_goals
    by_cases h9:k=9
    ·first
      |(exfalso;omega)
      |(refine Aj ?_
        refine FI (q:=uG hl3) ?_;intro S4 s4 L4 hS4 hK4 hT4' mr4;have hT4:=hT4'.trans hT3;rw[show fj S3 k id=S4 from(Ad h9).trans hS4.symm] at hR;rw[<-hR];refine Aj ?_;exact A5)
    by_cases h8:k=8
    ·first
      |(exfalso;omega)
      |(refine Aj ?_
        refine FI ?_;intro S4 s4 L4 hS4 hK4 hT4' mr4;have hT4:=hT4'.trans hT3;rw[show fj S3 k id=S4 from(Ac h9).trans ((Ad h8).trans hS4.symm)] at hR;rw[<-hR];refine Aj ?_;exact A5)
    rw[show fj S3 k id=S3 from(Ac h9).trans (Ac h8)] at hR;rw[<-hR];refine Aj ?_;exact A5
 ·rw[Ac he] at hR;rw[<-hR];refine Aj ?_;exact A5
instance{k z f:Int}:EK prog F C b p 92 [pV b,.int .i64 k,.int .i64 z,.int .i64 f] (n+1) S n (.tuple #[iV (I0 S k z f).1.1,iV (I0 S k z f).1.2]) (I0 S k z f).2:=⟨λs G h=>q5 h k z f⟩
end
class U6(a:Int):Prop where
 out:Kr a
section
theorem IsK.wl(h:IsK F C k S p s):S.W.length<=512:=by obtain⟨gb,f1,f2,hW,hu,hM⟩:=h.mem;omega
theorem IsK.wu(h:IsK F C k S p s): ∀w,w∈S.W->Kr w:=by obtain⟨gb,f1,f2,hW,hu,hM⟩:=h.mem;exact hu
theorem IsK.ldU(h:IsK F C k S p s)(a:Int):U6 (NZ S.W a).1:=⟨qN h.wu a⟩
theorem IsK.atU(h:IsK F C k S p s)(r pg lv:Int):U6 (PA S.W r pg lv).1:=⟨iJ h.wl⟩
instance[h:IsK F C k S p s]{a:Int}[hu:U6 a]:QF prog 203 [pV p.m,Ba a] (Aw b p s S G) (.tuple #[Ba (NZ S.W a).1,iV (NZ S.W a).2]):=⟨λl hl=>dc h a hu.out.1 hu.out.2 l hl⟩
instance[h:IsK F C k S p s]{r pg lv:Int}:QF prog 299 [pV p.m,.int .i64 r,.int .i64 pg,.int .i64 lv] (Aw b p s S G) (.tuple #[Ba (PA S.W r pg lv).1,iV (PA S.W r pg lv).2]):=⟨λl hl=>by obtain⟨gb,f1,f2,hW,hu,hM⟩:=h.mem;exact Vh p.m gb F S.W f2 hW hu r pg lv l (mM hl _ (by rw[hM];simp)) (mM hl _ (by rw[hM];simp))⟩
instance{w:Int}[hu:U6 w]{l:List Ab}:QF prog 344 [Ba w] l (.tuple #[WO (Ks w).1,iV (Ks w).2]):=⟨λl _=>by
 obtain⟨n,rfl⟩: ∃n:Nat,w=n:=⟨w.toNat,by have:=hu.out.1;omega⟩
 exact WS n (by have:=hu.out.2;omega) l⟩
instance{w:Int}[hu:U6 w]{l:List Ab}:QF prog 258 [Ba w] l (.tuple #[iV (Gu w).1,iV (Gu w).2]):=⟨λl _=>de w hu.out.1 hu.out.2 l⟩
def Mq(S:KT)(id:Int):Int:=if(Ar.getD' S.A id).2=false then-1 else(Ar.getD' S.A id).1.fi
def Hb(S:KT)(se pg lv:Int):(Int×Int)×Bool:=
 if(As.rootP S.N se).2.2=false then((0,0),false)
 else(((PA S.W (Mq S (As.rootP S.N se).1) pg lv).1,(As.rootP S.N se).2.1),decide ((PA S.W (Mq S (As.rootP S.N se).1) pg lv).2=0))
def SC(S:KT)(a:Int)(leaf:Bool)(f:Int):Bool:=decide ((Ks (NZ S.W a).1).2=0)&&(Ks (NZ S.W a).1).1.vd&&((Ks (NZ S.W a).1).1.lf==leaf)&&decide ((Ks (NZ S.W a).1).1.fr=f)
def Fu(S:KT)(id:Int):(Int×Int)×Bool:=
 if(Ar.getD' S.A id).2=false\/¬(Ar.getD' S.A id).1.kd=4\/(Ar.getD' S.A id).1.lv=0 then((0,0),false)
 else((Hb S (Ar.getD' S.A id).1.se (Ar.getD' S.A id).1.pg (Ar.getD' S.A id).1.lv).1,(Hb S (Ar.getD' S.A id).1.se (Ar.getD' S.A id).1.pg (Ar.getD' S.A id).1.lv).2&&SC S (Hb S (Ar.getD' S.A id).1.se (Ar.getD' S.A id).1.pg (Ar.getD' S.A id).1.lv).1.1 false (Ar.getD' S.A id).1.fi)
def Fv(S:KT)(c:CapT):(Int×Int)×Bool:=
 if(Ar.getD' S.A c.obj).2=false\/¬c.kind=3\/Fd c=false then((0,0),false)
 else((Hb S c.serial c.page 3).1,(Hb S c.serial c.page 3).2&&SC S (Hb S c.serial c.page 3).1.1 true (Ar.getD' S.A c.obj).1.fi)
theorem nH(hK:IsK F C k S p s)(id:Int)(l:List Ab)(hl: ∀c,c∈Aw b p s S G->c∈l):Fn prog 293 [pV b,.int .i64 id] l λv l'=>v=iV (Mq S id)/\l'=l:=by
 have mr:Cw b p∈l:=mR hl;have I: ∀{f:Nat} {vs:List Value} {v:Value} [QF prog f vs (Aw b p s S G) v],QF prog f vs l v:=XE hl;unfold Mq;refine AM func293 ntmps293 λE=>?_;refine Aj ?_;refine El ?_;refine Aj ?_;refine El ?_;obtain⟨o,ho⟩: ∃o,(Ar.getD' S.A id).1=o:=⟨_,rfl⟩
 obtain⟨ok,hok⟩: ∃ok,(Ar.getD' S.A id).2=ok:=⟨_,rfl⟩
 rw[ho,hok];refine AO λb5=>?_;cases ok with
 |false=>rw[Ad rfl];refine Aj ?_;exact qr
 |true=>
 rw[Ac AX];refine Aj ?_;exact qr
instance[h:IsK F C k S p s]{id:Int}:QF prog 293 [pV b,.int .i64 id] (Aw b p s S G) (iV (Mq S id)):=⟨λl hl=>nH h id l hl⟩
theorem nI(hK:IsK F C k S p s)(se pg lv:Int)(l:List Ab)(hl: ∀c,c∈Aw b p s S G->c∈l):Fn prog 370 [pV b,.int .i64 se,.int .i64 pg,.int .i64 lv] l λv l'=>v= .tuple #[Ba (Hb S se pg lv).1.1,iV (Hb S se pg lv).1.2,.bool (Hb S se pg lv).2]/\l'=l:=by
 have mr:Cw b p∈l:=mR hl;have I: ∀{f:Nat} {vs:List Value} {v:Value} [QF prog f vs (Aw b p s S G) v],QF prog f vs l v:=XE hl;unfold Hb;refine AM func370 ntmps370 λE=>?_;refine Aj ?_;refine El ?_;refine Aj ?_;refine El ?_;obtain⟨q,hq⟩: ∃q,As.rootP S.N se=q:=⟨_,rfl⟩
 rw[hq];refine Aj ?_;cases hf:q.2.2 with
 |false=>rw[Ad rfl];refine Aj ?_;exact qr
 |true=>
 rw[Ac AX];refine Aj ?_;simp only[AL,AK,AQ];refine El ?_;refine Aj ?_;refine El ?_;refine Aj ?_;refine El ?_;obtain⟨u,hu⟩: ∃u,PA S.W (Mq S q.1) pg lv=u:=⟨_,rfl⟩
 rw[hu];by_cases h1:u.2=0
 ·rw[h1];refine Aj ?_;exact qr
 ·rw[show decide (u.2=0)=false by simp[h1]];refine Aj ?_;exact qr
instance[h:IsK F C k S p s]{se pg lv:Int}:QF prog 370 [pV b,.int .i64 se,.int .i64 pg,.int .i64 lv] (Aw b p s S G) (.tuple #[Ba (Hb S se pg lv).1.1,iV (Hb S se pg lv).1.2,.bool (Hb S se pg lv).2]):=⟨λl hl=>nI h se pg lv l hl⟩
theorem IsK.plU(h:IsK F C k S p s)(se pg lv:Int):U6 (Hb S se pg lv).1.1:=by
 unfold Hb
 split
 ·exact⟨by decide,by decide⟩
 ·exact h.atU _ _ _
theorem nJ(hK:IsK F C k S p s)(a:Int)[ha:U6 a](leaf:Bool)(f:Int)(l:List Ab)(hl: ∀c,c∈Aw b p s S G->c∈l):Fn prog 371 [pV b,Ba a,.bool leaf,.int .i64 f] l λv l'=>v= .bool (SC S a leaf f)/\l'=l:=by
 have mr:Cw b p∈l:=mR hl;have I: ∀{f:Nat} {vs:List Value} {v:Value} [QF prog f vs (Aw b p s S G) v],QF prog f vs l v:=XE hl;have hu:=hK.ldU a;unfold SC;refine AM func371 ntmps371 λE=>?_;refine Aj ?_;refine El ?_;refine Aj ?_;refine El ?_;obtain⟨w,hw⟩: ∃w,(NZ S.W a).1=w:=⟨_,rfl⟩
 rw[hw] at hu⊢;refine Aj ?_;simp only[AL,AK,AQ];refine El ?_;obtain⟨e,he⟩: ∃e,(Ks w).1=e:=⟨_,rfl⟩
 obtain⟨er,her⟩: ∃er,(Ks w).2=er:=⟨_,rfl⟩
 rw[he,her];refine AO λb11=>?_;obtain⟨vd,lf,rd,wr,fr⟩:=e;by_cases h1:er=0<;>cases vd<;>cases lf<;>cases leaf<;>by_cases h2:fr=f;all_goals
  refine Aj ?_;simp only[h1,h2,F7,Hk,Bool.and_true,Bp,IE,Be];exact qr
end
section
instance[h:IsK F C k S p s]{a f:Int}{leaf:Bool}[ha:U6 a]:QF prog 371 [pV b,Ba a,.bool leaf,.int .i64 f] (Aw b p s S G) (.bool (SC S a leaf f)):=⟨λl hl=>nJ h a leaf f l hl⟩
theorem nK(hK:IsK F C k S p s)(id:Int)(l:List Ab)(hl: ∀c,c∈Aw b p s S G->c∈l):Fn prog 331 [pV b,.int .i64 id] l λv l'=>v= .tuple #[Ba (Fu S id).1.1,iV (Fu S id).1.2,.bool (Fu S id).2]/\l'=l:=by
 have mr:Cw b p∈l:=mR hl;have I: ∀{f:Nat} {vs:List Value} {v:Value} [QF prog f vs (Aw b p s S G) v],QF prog f vs l v:=XE hl;unfold Fu;refine AM func331 ntmps331 λE=>?_;refine Aj ?_;refine El ?_;refine Aj ?_;refine El ?_;obtain⟨o,ho⟩: ∃o,(Ar.getD' S.A id).1=o:=⟨_,rfl⟩
 obtain⟨ok,hok⟩: ∃ok,(Ar.getD' S.A id).2=ok:=⟨_,rfl⟩
 rw[ho,hok];refine AO λb7=>?_;by_cases h0:ok=false\/¬o.kd=4\/o.lv=0
 ·rw[Ad h0];cases ok<;>by_cases h1:o.kd=4<;>by_cases h2:o.lv=0;all_goals first
   |(exfalso;simp[h1,h2] at h0;done)
   |(refine Aj ?_
     exact qr)
 rw[Ac h0];obtain⟨h1,h2,h3⟩:ok=true/\o.kd=4/\¬o.lv=0:=by simp at h0;exact h0
 subst h1;refine Aj ?_;refine El ?_;have hu:=hK.plU o.se o.pg o.lv;obtain⟨q,hq⟩: ∃q,Hb S o.se o.pg o.lv=q:=⟨_,rfl⟩
 rw[hq] at hu⊢;refine Aj ?_;try simp only[AL,AK,AQ]
 cases hf:q.2 with
 |false=>refine Aj ?_;rw[Be];exact qr
 |true=>
 refine Aj ?_;try simp only[AL,AK,AQ]
 refine El ?_;refine Aj ?_;rw[Bp];exact qr
instance[h:IsK F C k S p s]{id:Int}:QF prog 331 [pV b,.int .i64 id] (Aw b p s S G) (.tuple #[Ba (Fu S id).1.1,iV (Fu S id).1.2,.bool (Fu S id).2]):=⟨λl hl=>nK h id l hl⟩
theorem nL(hK:IsK F C k S p s)(c:CapT)(l:List Ab)(hl: ∀c,c∈Aw b p s S G->c∈l):Fn prog 337 [pV b,U8 c] l λv l'=>v= .tuple #[Ba (Fv S c).1.1,iV (Fv S c).1.2,.bool (Fv S c).2]/\l'=l:=by
 have mr:Cw b p∈l:=mR hl;have I: ∀{f:Nat} {vs:List Value} {v:Value} [QF prog f vs (Aw b p s S G) v],QF prog f vs l v:=XE hl;unfold Fv;refine AM func337 ntmps337 λE=>?_;refine AO λb3=>?_;refine Cn (Ck [8,9] 0 11) ?_;refine Cs ?_;refine Hm e_alloc (by rintro _ _ ⟨_,_,_,rfl⟩ c hc;exact .tail _ hc) ?_;rintro _ _ ⟨b7,_,rfl,rfl⟩;obtain⟨o,ho⟩: ∃o,(Ar.getD' S.A c.obj).1=o:=⟨_,rfl⟩
 obtain⟨ok,hok⟩: ∃ok,(Ar.getD' S.A c.obj).2=ok:=⟨_,rfl⟩
 rw[ho,hok];refine Cs ?_;by_cases h0:ok=false\/¬c.kind=3\/Fd c=false
 ·rw[Ad h0];by_cases h9:ok=true/\c.kind=3
  ·obtain⟨rfl,h1⟩:=h9;have h2:Fd c=false:=by simp[h1] at h0;exact h0
   refine Aj ?_;refine El ?_;rw[h2];refine Aj ?_;exact qr
  cases ok<;>by_cases h1:c.kind=3;all_goals first
   |(exfalso;simp[h1] at h9;done)
   |(refine Aj ?_
     exact qr)
 rw[Ac h0];obtain⟨h1,h2,h3⟩:ok=true/\c.kind=3/\Fd c=true:=by simp at h0;exact h0
 subst h1;refine Aj ?_;refine El ?_;rw[h3];refine Aj ?_;refine El ?_;have hu:=hK.plU c.serial c.page 3;obtain⟨q,hq⟩: ∃q,Hb S c.serial c.page 3=q:=⟨_,rfl⟩
 rw[hq] at hu⊢;refine Aj ?_;try simp only[AL,AK,AQ]
 cases hf:q.2 with
 |false=>refine Aj ?_;rw[Be];exact qr
 |true=>
 refine Aj ?_;try simp only[AL,AK,AQ]
 refine El ?_;refine Aj ?_;rw[Bp];exact qr
instance[h:IsK F C k S p s]{c:CapT}:QF prog 337 [pV b,U8 c] (Aw b p s S G) (.tuple #[Ba (Fv S c).1.1,iV (Fv S c).1.2,.bool (Fv S c).2]):=⟨λl hl=>nL h c l hl⟩
theorem nM(hK:IsK F C k S p s)(id:Int)(l:List Ab)(hl: ∀c,c∈Aw b p s S G->c∈l):Fn prog 292 [pV b,.int .i64 id] l λv l'=>v= .bool (Fu S id).2/\l'=l:=by have mr:Cw b p∈l:=mR hl;have I: ∀{f:Nat} {vs:List Value} {v:Value} [QF prog f vs (Aw b p s S G) v],QF prog f vs l v:=XE hl;refine AM func292 ntmps292 λE=>?_;refine Aj ?_;refine El ?_;refine Aj ?_;exact qr
instance[h:IsK F C k S p s]{id:Int}:QF prog 292 [pV b,.int .i64 id] (Aw b p s S G) (.bool (Fu S id).2):=⟨λl hl=>nM h id l hl⟩
theorem nN(hK:IsK F C k S p s)(c:CapT)(l:List Ab)(hl: ∀c,c∈Aw b p s S G->c∈l):Fn prog 298 [pV b,U8 c] l λv l'=>v= .bool (Fv S c).2/\l'=l:=by have mr:Cw b p∈l:=mR hl;have I: ∀{f:Nat} {vs:List Value} {v:Value} [QF prog f vs (Aw b p s S G) v],QF prog f vs l v:=XE hl;refine AM func298 ntmps298 λE=>?_;refine AO λb3=>?_;refine El ?_;refine Aj ?_;exact qr
instance[h:IsK F C k S p s]{c:CapT}:QF prog 298 [pV b,U8 c] (Aw b p s S G) (.bool (Fv S c).2):=⟨λl hl=>nN h c l hl⟩
end
section
instance:U6 0:=⟨by decide,by decide⟩
instance{a v:Int}[ha:U6 a][hv:U6 v]:EK prog F C b p 202 [pV p.m,Ba a,Ba v] k S k (iV (cY S.W a v).1) {S with W:=(cY S.W a v).2}:=⟨λs G h=>YG h a v ha.out.1 ha.out.2 hv.out⟩
def W5(S:KT)(id:Int):KT:={S with W:=(cY S.W (Fu S id).1.1 0).2,K:=If S.K (PB (Fu S id).1.2),A:=(Ar.placeD S.A id 0 0 0).2}
theorem IsK.tbU(h:IsK F C k S p s)(id:Int):U6 (Fu S id).1.1:=by
 unfold Fu
 split
 ·exact⟨by decide,by decide⟩
 ·exact h.plU _ _ _
theorem IsK.frU(h:IsK F C k S p s)(c:CapT):U6 (Fv S c).1.1:=by
 unfold Fv
 split
 ·exact⟨by decide,by decide⟩
 ·exact h.plU _ _ _
theorem q6(hK:IsK F C k S p s)(id:Int):Fn prog 297 [pV b,.int .i64 id] (Aw b p s S G) (KK F C b p k (.bool (Fu S id).2) (if(Fu S id).2=true then W5 S id else S) G):=by
 have mr:Cw b p∈Aw b p s S G:=mR λ_ h=>h;have hu:=hK.tbU id;unfold W5;refine AM func297 ntmps297 λE=>?_;refine Aj ?_;refine El ?_;obtain⟨q,hq⟩: ∃q,Fu S id=q:=⟨_,rfl⟩
 rw[hq] at hu⊢;cases hf:q.2 with
 |false=>rw[Ac AX];refine Aj ?_;exact A5
 |true=>
 rw[Ad rfl];refine Aj ?_;refine El ?_;refine Aj ?_;try simp only[AL,AK,AQ]
 refine FI ?_;intro S1 s1 L1 hS1 hK1 hT1 mr1;refine Aj ?_;refine El ?_;refine Aj ?_;try simp only[AL,AK,AQ]
 refine FI ?_;intro S2 s2 L2 hS2 hK2 hT2 mr2;refine Aj ?_;refine El ?_;refine Aj ?_;refine FI ?_;intro S3 s3 L3 hS3 hK3 hT3 mr3;refine Aj ?_;exact A5
instance{id:Int}:EK prog F C b p 297 [pV b,.int .i64 id] k S k (.bool (Fu S id).2) (if(Fu S id).2=true then W5 S id else S):=⟨λs G h=>q6 h id⟩
def je(S:KT)(c:CapT):KT:={S with W:=(cY S.W (Fv S c).1.1 0).2,K:=If S.K (JI (Fv S c).1.2 c.page)}
theorem jf(hK:IsK F C k S p s)(c:CapT):Fn prog 302 [pV b,U8 c] (Aw b p s S G) (KK F C b p k (.bool (Fv S c).2) (if(Fv S c).2=true then je S c else S) G):=by
 have mr:Cw b p∈Aw b p s S G:=mR λ_ h=>h;have hu:=hK.frU c;unfold je;refine AM func302 ntmps302 λE=>?_;refine AO λb3=>?_;refine El ?_;obtain⟨q,hq⟩: ∃q,Fv S c=q:=⟨_,rfl⟩
 rw[hq] at hu⊢;cases hf:q.2 with
 |false=>rw[Ac AX];refine Aj ?_;exact A5
 |true=>
 rw[Ad rfl];refine Aj ?_;refine El ?_;refine Aj ?_;try simp only[AL,AK,AQ]
 refine FI ?_;intro S1 s1 L1 hS1 hK1 hT1 mr1;refine Aj ?_;refine Cn (Ck [5] 0 6) ?_;refine Cs ?_;refine LN ?_;intro S2 s2 L2 hS2 hK2 hT2 mr2;refine Cs ?_;refine Aj ?_;exact A5
instance{c:CapT}:EK prog F C b p 302 [pV b,U8 c] k S k (.bool (Fv S c).2) (if(Fv S c).2=true then je S c else S):=⟨λs G h=>jf h c⟩
end
abbrev MV(x:Ce)(k:Int):List Value:=[iV x.1,iV x.2,iV k]
def E5(S:KT)(x:Ce)(k:Int):Prop:=(getD' S.H.1 x).2=0/\(DU S x).kind=k
instance(S:KT)(x:Ce)(k:Int):Decidable (E5 S x k):=by unfold E5;exact inferInstance
section
theorem aA(hK:IsK F C k S p s)(bw:Nat)(x:Ce)(kd:Int)(l:List Ab)(hl: ∀c,c∈Aw b p s S G->c∈l)(mw:(bw,Obj.cells (toArray (MV x kd)) 458 (0,0))∈l):Fn prog 291 [pV b,.slice (some ⟨bw,0,none⟩) 1 1] l λv l'=>
 (E5 S x kd/\ ∃u cs,OwnSl 74 8 u 1 (BW (DU S x)) cs/\v= .tuple #[u,iV 0]/\l'=cs++l)\/(¬E5 S x kd/\v= .tuple #[.slice none 0 0,iV 8]/\l'=l):=by
 have mr:Cw b p∈l:=mR hl;have I: ∀{f:Nat} {vs:List Value} {v:Value} [QF prog f vs (Aw b p s S G) v],QF prog f vs l v:=XE hl;have w1:(toArray (MV x kd)).extract (0+(0:Int).toNat*3) (0+(0:Int).toNat*3+3)=toArray (MV x kd):=rfl;refine AM func291 ntmps291 λE=>?_;refine Aj ?_;refine Hu 1 ?_;refine Aj ?_;refine Bb (Dn rfl mw (by show 0+(0:Int).toNat*3+3<=3;decide) w1) ?_;refine AO λb8=>?_;refine Cn (Ck [8,9] 0 11) ?_;refine Cs ?_;refine Hm e_alloc (by rintro _ _ ⟨_,_,_,rfl⟩ c hc;exact .tail _ hc) ?_;rintro _ _ ⟨b9,_,rfl,rfl⟩;unfold E5;obtain⟨c,hc⟩: ∃c,(getD' S.H.1 x).1=c:=⟨_,rfl⟩
 obtain⟨e,he⟩: ∃e,(getD' S.H.1 x).2=e:=⟨_,rfl⟩
 rw[show DU S x=c from hc,hc,he];refine Cs ?_;by_cases h0:e=0/\c.kind=kd
 case neg=>
  by_cases h1:e=0<;>by_cases h2:c.kind=kd
  ·exact absurd ⟨h1,h2⟩ h0
  all_goals
   refine Aj ?_;exact CF _ .refl (.drop (.drop .refl)) (.inr ⟨h0,rfl,rfl⟩)
 obtain⟨h1,h2⟩:=h0;refine Aj ?_;refine AP (Fb (ws:=BW c) (k:=8) rfl rfl rfl AX AX) ?_;rintro _ _ ⟨bl,_,rfl,rfl⟩;refine Aj ?_;refine AP (GX (k:=8) (X:=[(b9,Obj.cells (toArray (BW c)) 74 (0,0)),(b8,Obj.cells (toArray (MV x kd)) 458 (0,0))]) (cs:=[]) (xs:=[]) (n:=0) (zs:=BW ⟨0,0,0,0,0,0,0,0⟩) (ws:=BW c) rfl rfl rfl (OwnSl.nil _ _) rfl (by simp[Value.oneCell']) Af AX) ?_;rintro v' _ ⟨c2,ho2,rfl⟩;simp only[Ae,Ag] at ho2⊢;refine Aj ?_;refine EI ?_;refine Aj ?_;exact CF _ .refl (.drop (.drop .refl)) (.inl ⟨⟨h1,h2⟩,v',c2,ho2,rfl,rfl⟩)
theorem QZ(hK:IsK F C k S p s)(bw:Nat)(x y:Ce)(kd kd2:Int)(l:List Ab)(hl: ∀c,c∈Aw b p s S G->c∈l)(mw:(bw,Obj.cells (toArray (MV x kd++MV y kd2)) 458 (0,0))∈l):Fn prog 291 [pV b,.slice (some ⟨bw,0,none⟩) 2 2] l λv l'=>
 ((E5 S x kd/\E5 S y kd2)/\ ∃u cs,OwnSl 74 8 u 2 (BW (DU S x)++BW (DU S y)) cs/\v= .tuple #[u,iV 0]/\l'=cs++l)\/(¬(E5 S x kd/\E5 S y kd2)/\v= .tuple #[.slice none 0 0,iV 8]/\l'=l):=by
 have mr:Cw b p∈l:=mR hl;have I: ∀{f:Nat} {vs:List Value} {v:Value} [QF prog f vs (Aw b p s S G) v],QF prog f vs l v:=XE hl;have w1:(toArray (MV x kd++MV y kd2)).extract (0+(0:Int).toNat*3) (0+(0:Int).toNat*3+3)=toArray (MV x kd):=rfl;have w2:(toArray (MV x kd++MV y kd2)).extract (0+(1:Int).toNat*3) (0+(1:Int).toNat*3+3)=toArray (MV y kd2):=rfl;refine AM func291 ntmps291 λE=>?_;refine Aj ?_;refine Hu 2 ?_;refine Aj ?_;refine Bb (Dn rfl mw (by show 0+(0:Int).toNat*3+3<=6;decide) w1) ?_;refine AO λb8=>?_;refine Cn (Ck [8,9] 0 11) ?_;refine Cs ?_;refine Hm e_alloc (by rintro _ _ ⟨_,_,_,rfl⟩ c hc;exact .tail _ hc) ?_;rintro _ _ ⟨b9,_,rfl,rfl⟩;unfold E5;obtain⟨c,hc⟩: ∃c,(getD' S.H.1 x).1=c:=⟨_,rfl⟩
 obtain⟨e,he⟩: ∃e,(getD' S.H.1 x).2=e:=⟨_,rfl⟩
 obtain⟨c',hc'⟩: ∃c,(getD' S.H.1 y).1=c:=⟨_,rfl⟩
 obtain⟨e',he'⟩: ∃e,(getD' S.H.1 y).2=e:=⟨_,rfl⟩
 rw[show DU S x=c from hc,show DU S y=c' from hc',hc,he,he'];refine Cs ?_;by_cases h0:e=0/\c.kind=kd
 case neg=>
  by_cases h1:e=0<;>by_cases h2:c.kind=kd
  ·exact absurd ⟨h1,h2⟩ h0
  all_goals
   refine Aj ?_;exact CF _ .refl (.drop (.drop .refl)) (.inr ⟨λh=>h0 h.1,rfl,rfl⟩)
 obtain⟨h1,h2⟩:=h0;refine Aj ?_;refine AP (Fb (ws:=BW c) (k:=8) rfl rfl rfl AX AX) ?_;rintro _ _ ⟨bl,_,rfl,rfl⟩;refine Aj ?_;refine AP (GX (k:=8) (X:=[(b9,Obj.cells (toArray (BW c)) 74 (0,0)),(b8,Obj.cells (toArray (MV x kd)) 458 (0,0))]) (cs:=[]) (xs:=[]) (n:=0) (zs:=BW ⟨0,0,0,0,0,0,0,0⟩) (ws:=BW c) rfl rfl rfl (OwnSl.nil _ _) rfl (by simp[Value.oneCell']) Af AX) ?_;rintro v' _ ⟨c2,ho2,rfl⟩;simp only[Ae,Ag] at ho2⊢;refine Aj ?_;refine EI ?_;refine Aj ?_;rw[show(0:Int)+1=1 from rfl];refine Bb (Dn rfl (.tail _ (.tail _ (Aa _ mw))) (by show 0+(1:Int).toNat*3+3<=6;decide) w2) ?_;refine AO λd8=>?_;refine Cn (Ck [8,9] 0 11) ?_;have I2: ∀{f:Nat} {vs:List Value} {v:Value} [QF prog f vs (Aw b p s S G) v],QF prog f vs (c2++l) v:=XE λc hc=>Aa _ (hl c hc);refine Cs ?_;rw[hc',he'];refine Hm e_alloc (by rintro _ _ ⟨_,_,_,rfl⟩ c hc;exact .tail _ hc) ?_;rintro _ _ ⟨d9,_,rfl,rfl⟩;refine Cs ?_;by_cases h0:e'=0/\c'.kind=kd2
 case neg=>
  by_cases h3:e'=0<;>by_cases h4:c'.kind=kd2
  ·exact absurd ⟨h3,h4⟩ h0
  all_goals
   refine Aj ?_;exact CF _ .refl (.drop (.drop (.drop (.drop (Keep.dropL' c2 .refl))))) (.inr ⟨λh=>h0 h.2,rfl,rfl⟩)
 obtain⟨h3,h4⟩:=h0;refine Aj ?_;refine AP (Fb (ws:=BW c') (k:=8) rfl rfl rfl AX AX) ?_;rintro _ _ ⟨bl2,_,rfl,rfl⟩;refine Aj ?_;refine AP (GX (k:=8) (X:=[(d9,Obj.cells (toArray (BW c')) 74 (0,0)),(d8,Obj.cells (toArray (MV y kd2)) 458 (0,0)),(b9,Obj.cells (toArray (BW c)) 74 (0,0)),(b8,Obj.cells (toArray (MV x kd)) 458 (0,0))]) (cs:=c2) (xs:=BW c) (n:=1) (zs:=BW ⟨0,0,0,0,0,0,0,0⟩) (ws:=BW c') rfl rfl rfl ho2 rfl (by simp[Value.oneCell']) Af AX) ?_;rintro v2 _ ⟨c3,ho3,rfl⟩;simp only[Ae,Ag];refine Aj ?_;refine EI ?_;refine Aj ?_;exact CF _ .refl (.drop (.drop (.drop (.drop .refl)))) (.inl ⟨⟨⟨h1,h2⟩,h3,h4⟩,v2,c3,ho3,rfl,rfl⟩)
end
section
def Qh(S:KT)(id:Int):KT:=if(Fu S id).2=true then W5 S id else S
def Nz(S:KT)(x:Ce):Int×KT:=if E5 S x 4 then(0,{Qh S (DU S x).obj with A:=(Ar.placeD (Qh S (DU S x).obj).A (DU S x).obj 0 0 0).2}) else(8,S)
theorem Mr{u:Value}{xs:List Value}{cs:List Ab}{m:Nat}(h:OwnSl e m u n xs cs)(h1:1<=n): ∃gb cap sp,u= .slice (some ⟨gb,0,none⟩) n cap/\cs=[(gb,.cells (toArray (xs++sp)) e (0,0))]:=by
 obtain⟨_,⟨_,h0,_⟩|⟨gb,cap,sp,h2,h3,_⟩⟩:=h
 ·omega
 ·exact⟨gb,cap,sp,h2,h3⟩
theorem q8(hK:IsK F C k S p s)(x:Ce):Fn prog 216 [pV b,Fz x] (Aw b p s S G) (KK F C b p k (iV (Nz S x).1) (Nz S x).2 G):=by
 have mr:Cw b p∈Aw b p s S G:=mR λ_ h=>h;unfold Nz;refine AM func216 ntmps216 λE=>?_;refine AO λb3=>?_;refine AP (Fb (ws:=MV x 4) (k:=3) rfl rfl rfl AX AX) ?_;rintro _ _ ⟨bw,_,rfl,rfl⟩;refine Aj ?_;refine AP (Az rfl rfl (aA hK bw x 4 _ (λc hc=> .tail _ (.tail _ hc)) (.head _))) ?_;rintro _ _ (⟨hk,u,cs,ho,rfl,rfl⟩|⟨hk,rfl,rfl⟩)
 case' inr=>
  rw[Ac hk];refine Aj ?_;exact A5
 rw[Ad hk];obtain⟨gb,cap,sp,rfl,rfl⟩:=Mr ho Af;rw[Cb];obtain⟨c,hc⟩: ∃c,DU S x=c:=⟨_,rfl⟩
 rw[hc];have z1:(toArray (BW c++sp))[0+(0:Int).toNat*8+1]?=some (.int .i64 c.obj):=rfl;refine Aj ?_;refine FI ?_;intro S1 s1 L1 hS1 hK1 hT1 mr1;refine Aj ?_;refine Cn (Ck [6] 0 7) ?_;refine Cs ?_;refine LN ?_;intro S2 s2 L2 hS2 hK2 hT2 mr2;refine Cs ?_;refine Aj ?_;have hS:S2={Qh S c.obj with A:=(Ar.placeD (Qh S c.obj).A c.obj 0 0 0).2}:=by rw[hS2,hS1];rfl
 exact A5
instance{x:Ce}:EK prog F C b p 216 [pV b,Fz x] k S k (iV (Nz S x).1) (Nz S x).2:=⟨λs G h=>q8 h x⟩
end
theorem Pp: ∀(us ws X Y:List Value),us.length=ws.length->CV (toArray (X++(us++Y))) X.length ws=toArray (X++(ws++Y))
 |[],[],X,Y,_=>rfl
 |u::us,w::ws,X,Y,h=>by
  have h1:(toArray (X++(u::us++Y))).setIfInBounds X.length w=toArray ((X++[w])++(us++Y)):=by apply BO.1;rw[Array.toList_setIfInBounds];show(X++(u::(us++Y))).set X.length w=_;rw[Cm _ _ Af,DD,E6];simp
  unfold CV;rw[h1];have h2:=Pp us ws (X++[w]) Y (by simpa using h);rw[Ai] at h2;rw[show X.length+1=X.length+[w].length from rfl,h2];simp
def Eu:Nat->List (List Value)->List (Nat×Value)
 |_,[]=>[]
 |i,r::rs=>(i,.agg (toArray r))::Eu (i+1) rs
theorem PX{zs:List Value}{k:Nat}(hz:zs.length=k): ∀(rows:List (List Value)) (done:List Value) (i:Nat),(∀r,r∈rows->r.length=k)->done.length=i*k->
 Instr.fill (λi=>some (i*k,k)) (toArray (done++(List.replicate rows.length zs).flatten)) (Eu i rows)=some (toArray (done++rows.flatten))
 |[],done,i,_,_=>by simp[Eu,Instr.fill]
 |r::rs,done,i,hr,hd=>by have h1:r.length=k:=hr r Ak;unfold Eu Instr.fill;have e2:(Value.agg (toArray r)).cells=toArray r:=rfl;simp only[e2];rw[Br,BG,Cq];rw[Ac (by simp[h1,hz,hd])];rw[Jl,<-hd,Pp zs r done _ (by rw[hz,h1]),<-Am];rw[PX hz rs (done++r) (i+1) (λr' h=>hr r' (An _ h)) (by rw[Ai,hd,h1,FA])];rw[Am,Cq]
section
variable{fr:Fr}{l:List Ab}{d:Option Nat}{aft:Array Edge}
theorem DL{T yb:Nat}{zs:List Value}{ps:List (Nat×Operand)}{pvs:List (Nat×Value)}(hps:XR fr ps=some pvs)(h0:0<n*k)(hn:n*k<=16777216)[c:ST P T e k yb][cz:ZV P e zs](hzs:zs.length=k)(hfill:Instr.fill (λi=>some (i*k,k)) (toArray (List.replicate n zs).flatten) pvs=some (toArray cs)):
 OpE P ro N fr l ⟨d,.buildSlice T n ps.toArray,ty,pos,aft,g⟩ (λv' l'=> ∃b,(∀c,c∈l->c.1≠b)/\v'= .slice (some ⟨b,0,none⟩) n n/\l'=(b,.cells (toArray cs) e (0,0))::l):=Dy rfl λρ hρ=>by
 simp only[execOp,AB];have e:ps.toArray.map (λ(i,x)=>(i,ρ x))=toArray pvs:=by rw[<-hρ.parts hps];simp
 rw[e];exact Jm (cs:=cs) c.out cz.out hzs h0 hn hfill λb hb=>⟨b,hb,rfl,rfl⟩
end
section
abbrev x8(x:Ce)(k:Int):Value:= .agg (toArray (MV x k))
theorem Q0(x y:Ce)(k1 k2:Int):Instr.fill (λi=>some (i*3,3)) (toArray (List.replicate 2 (MV (0,0) 0)).flatten) [(0,x8 x k1),(1,x8 y k2)]=some (toArray (MV x k1++MV y k2)):=
 PX (zs:=MV (0,0) 0) rfl [MV x k1,MV y k2] [] 0 (by simp) rfl
def NA(S:KT)(x y:Ce):Int×KT:=if E5 S x 7/\E5 S y 6 then((As.addP S.N (DU S y).obj).2.1,{S with N:=(As.addP S.N (DU S y).obj).2.2}) else(8,S)
theorem ra(hK:IsK F C k S p s)(x y:Ce):Fn prog 219 [pV b,Fz x,Fz y] (Aw b p s S G) (KK F C b p k (iV (NA S x y).1) (NA S x y).2 G):=by
 have mr:Cw b p∈Aw b p s S G:=mR λ_ h=>h;unfold NA;refine AM func219 ntmps219 λE=>?_;refine AO λb3=>?_;refine AO λb4=>?_;refine AP (DL (k:=3) (n:=2) (e:=458) (zs:=MV (0,0) 0) (cs:=MV x 7++MV y 6) rfl AX AX rfl (Q0 x y 7 6)) ?_;rintro _ _ ⟨bw,_,rfl,rfl⟩;refine Aj ?_;refine AP (Az rfl rfl (QZ hK bw x y 7 6 _ (λc hc=> .tail _ (.tail _ (.tail _ hc))) (.head _))) ?_;rintro _ _ (⟨hk,u,cs,ho,rfl,rfl⟩|⟨hk,rfl,rfl⟩)
 case' inr=>
  rw[Ac hk];refine Aj ?_;exact A5
 rw[Ad hk];obtain⟨gb,cap,sp,rfl,rfl⟩:=Mr ho Af;rw[Cb];obtain⟨c,hc⟩: ∃c,DU S x=c:=⟨_,rfl⟩
 obtain⟨d,hd⟩: ∃d,DU S y=d:=⟨_,rfl⟩
 rw[hc,hd];have z1:(toArray (BW c++BW d++sp))[0+(1:Int).toNat*8+1]?=some (.int .i64 d.obj):=rfl;refine Aj ?_;refine Cn (Ck [6] 0 11) ?_;refine Cs ?_;refine LN ?_;intro S1 s1 L1 hS1 hK1 hT1 mr1;refine Cs ?_;refine Aj ?_;exact A5
instance{x y:Ce}:EK prog F C b p 219 [pV b,Fz x,Fz y] k S k (iV (NA S x y).1) (NA S x y).2:=⟨λs G h=>ra h x y⟩
def NB(S:KT)(x y:Ce):Int×KT:=
 if E5 S x 6/\E5 S y 5 then((As.assignP S.N (DU S x).obj (DU S y).obj).2.2.1,{S with N:=(As.assignP S.N (DU S x).obj (DU S y).obj).2.2.2,W:=if(As.assignP S.N (DU S x).obj (DU S y).obj).2.2.1=0 then(mU S.W (Mq S (DU S y).obj) 1).2 else S.W}) else(8,S)
theorem rc(hK:IsK F C (k+1) S p s)(x y:Ce):Fn prog 220 [pV b,Fz x,Fz y] (Aw b p s S G) (KK F C b p k (iV (NB S x y).1) (NB S x y).2 G):=by
 have mr:Cw b p∈Aw b p s S G:=mR λ_ h=>h;unfold NB;refine AM func220 ntmps220 λE=>?_;refine AO λb3=>?_;refine AO λb4=>?_;refine AP (DL (k:=3) (n:=2) (e:=458) (zs:=MV (0,0) 0) (cs:=MV x 6++MV y 5) rfl AX AX rfl (Q0 x y 6 5)) ?_;rintro _ _ ⟨bw,_,rfl,rfl⟩;refine Aj ?_;refine AP (Az rfl rfl (QZ hK bw x y 6 5 _ (λc hc=> .tail _ (.tail _ (.tail _ hc))) (.head _))) ?_;rintro _ _ (⟨hk,u,cs,ho,rfl,rfl⟩|⟨hk,rfl,rfl⟩)
 case' inr=>
  rw[Ac hk];refine Aj ?_;exact A5
 rw[Ad hk];obtain⟨gb,cap,sp,rfl,rfl⟩:=Mr ho Af;rw[Cb];obtain⟨c,hc⟩: ∃c,DU S x=c:=⟨_,rfl⟩
 obtain⟨d,hd⟩: ∃d,DU S y=d:=⟨_,rfl⟩
 rw[hc,hd];have z0:(toArray (BW c++BW d++sp))[0+(0:Int).toNat*8+1]?=some (.int .i64 c.obj):=rfl;have z1:(toArray (BW c++BW d++sp))[0+(1:Int).toNat*8+1]?=some (.int .i64 d.obj):=rfl;refine Aj ?_;refine Cn (Ck [10] 0 16) ?_;refine Cs ?_;refine LN ?_;intro S1 s1 L1 hS1 hK1 hT1 mr1;obtain⟨r,hr⟩: ∃r,As.assignP S.N c.obj d.obj=r:=⟨_,rfl⟩
 rw[hr] at hS1⊢;refine Cs ?_;by_cases h0:r.2.2.1=0
 case neg=>rw[Ac h0];refine Aj ?_;exact A5
 rw[Ad h0];refine Aj ?_;refine Cn (Ck [8] 0 9) ?_;refine Cs ?_;refine LN ?_;intro S2 s2 L2 hS2 hK2 hT2 mr2;refine Cs ?_;refine Aj ?_;have hS:S2={S with N:=r.2.2.2,W:=(mU S.W (Mq S d.obj) 1).2}:=by rw[hS2,hS1];rfl
 exact A5
instance{x y:Ce}:EK prog F C b p 220 [pV b,Fz x,Fz y] (k+1) S k (iV (NB S x y).1) (NB S x y).2:=⟨λs G h=>rc h x y⟩
end
class CW(c:CapT):Prop where
 out:IM c
section
instance pE{x:Ce}{c:CapT}[hc:CW c]:EK prog F C b p 300 [pV p.h,Fz x,U8 c] k S k (iV (Oa S.H x c).1) {S with H:=(Oa S.H x c).2}:=⟨λs G h=>mZ h Af (λm hm=>(hm.set x c hc.out).mono Af) λm G hm _=>im p.h S.H m hm s.H h.ho x c G⟩
theorem IsK.cw(h:IsK F C k S p s)(x:Ce):CW (DU S x):=by
 obtain⟨m,h1,h2⟩:=h.inv;unfold DU getD'
 split
 ·exact⟨(h2.at x).2⟩
 ·exact⟨K3.2⟩
theorem aB(c:CapT)(sp:List Value):(toArray (BW c++sp)).extract (0+(0:Int).toNat*8) (0+(0:Int).toNat*8+8)=toArray (BW c):=by apply BO.1;simp
def MA(S:KT)(c:CapT):KT:=if(Fv S c).2=true then je S c else S
def NC(S:KT)(x:Ce):Int×KT:=if E5 S x 3 then(0,{MA S (DU S x) with H:=(Oa (MA S (DU S x)).H x {DU S x with serial:=0,page:=0}).2}) else(8,S)
theorem rh(hK:IsK F C k S p s)(x:Ce):Fn prog 218 [pV b,Fz x] (Aw b p s S G) (KK F C b p k (iV (NC S x).1) (NC S x).2 G):=by
 have mr:Cw b p∈Aw b p s S G:=mR λ_ h=>h;have hw:=hK.cw x;unfold NC;refine AM func218 ntmps218 λE=>?_;refine AO λb3=>?_;refine AP (Fb (ws:=MV x 3) (k:=3) rfl rfl rfl AX AX) ?_;rintro _ _ ⟨bw,_,rfl,rfl⟩;refine Aj ?_;refine AP (Az rfl rfl (aA hK bw x 3 _ (λc hc=> .tail _ (.tail _ hc)) (.head _))) ?_;rintro _ _ (⟨hk,u,cs,ho,rfl,rfl⟩|⟨hk,rfl,rfl⟩)
 case' inr=>
  rw[Ac hk];refine Aj ?_;exact A5
 rw[Ad hk];obtain⟨gb,cap,sp,rfl,rfl⟩:=Mr ho Af;rw[Cb];obtain⟨c,hc⟩: ∃c,DU S x=c:=⟨_,rfl⟩
 rw[hc] at hw⊢;have hw2:CW {c with serial:=0,page:=0}:=⟨hw.out.1,hw.out.2⟩
 have z1:=aB c sp;refine Aj ?_;refine Bb (Dn rfl (.head _) (by show 0+(0:Int).toNat*8+8<=(BW c++sp).length;simp) z1) ?_;refine AO λb7=>?_;refine FI ?_;intro S1 s1 L1 hS1 hK1 hT1 mr1;refine Aj ?_;refine Cn (Ck [4] 0 5) ?_;refine Cs ?_;refine LN (q:=pE (x:=x) (c:={c with serial:=0,page:=0})) ?_;intro S2 s2 L2 hS2 hK2 hT2 mr2;refine Cs ?_;refine Aj ?_;have hS:S2={MA S c with H:=(Oa (MA S c).H x {c with serial:=0,page:=0}).2}:=by rw[hS2,hS1];rfl
 exact A5
instance{x:Ce}:EK prog F C b p 218 [pV b,Fz x] k S k (iV (NC S x).1) (NC S x).2:=⟨λs G h=>rh h x⟩
end
section
def SE(S:KT)(x:Ce):Int:=if(getD' S.H.1 x).2=0/\(DU S x).kind=0 then 10 else(getD' S.H.1 x).2
theorem uH(hK:IsK F C k S p s)(x:Ce)(l:List Ab)(hl: ∀c,c∈Aw b p s S G->c∈l):Fn prog 289 [pV b,Fz x] l λv l'=>v=iV (SE S x)/\l'=l:=by
 have mr:Cw b p∈l:=mR hl;have I: ∀{f:Nat} {vs:List Value} {v:Value} [QF prog f vs (Aw b p s S G) v],QF prog f vs l v:=XE hl;unfold SE;refine AM func289 ntmps289 λE=>?_;refine AO λb3=>?_;refine Cn (Ck [7,8] 0 10) ?_;refine Cs ?_;refine Hm e_alloc (by rintro _ _ ⟨_,_,_,rfl⟩ c hc;exact .tail _ hc) ?_;rintro _ _ ⟨b5,_,rfl,rfl⟩;obtain⟨c,hc⟩: ∃c,(getD' S.H.1 x).1=c:=⟨_,rfl⟩
 obtain⟨e,he⟩: ∃e,(getD' S.H.1 x).2=e:=⟨_,rfl⟩
 rw[show DU S x=c from hc,hc,he];refine Cs ?_;by_cases h0:e=0/\c.kind=0
 ·rw[Ad h0];obtain⟨h1,h2⟩:=h0;refine Aj ?_;exact qr
 rw[Ac h0];by_cases h1:e=0
 case pos=>have h2:¬c.kind=0:=λh=>h0 ⟨h1,h⟩;refine Aj ?_;exact qr
 refine Aj ?_;exact qr
instance[h:IsK F C k S p s]{x:Ce}:QF prog 289 [pV b,Fz x] (Aw b p s S G) (iV (SE S x)):=⟨λl hl=>uH h x l hl⟩
def pF(W:List Int)(root page:Int):List (Int×Int):=
 if ¬(PA W root page 1).2=0 then[] else(1,(PA W root page 1).1)::if ¬(PA W root page 2).2=0 then[] else[(2,(PA W root page 2).1)]
theorem jg(root page:Int)(l:List Ab):Fn prog 294 [pV b,.int .i64 root,.int .i64 page] l λv l'=> ∃B3 B4 B5,v= .func (.func 332) #[] #[pV B3,pV B4,pV B5]/\l'=BJ B5 page::BJ B4 root::rB B3 b::l:=by refine AM func294 ntmps294 λE=>?_;refine AO λb3=>?_;refine AO λb4=>?_;refine AO λb5=>?_;exact A9 .refl ⟨_,_,_,rfl,rfl⟩
end
section
def LJ(S:KT)(core:Int):Th.ThT×Int:=
 if core<0\/core>=S.K.length then(Th.thZ,3) else if My S (Lh S.U core)=false\/¬(DB S (Lh S.U core)).st=1 then(Th.thZ,19) else(DB S (Lh S.U core),0)
theorem uI(hK:IsK F C k S p s)(core:Int)(l:List Ab)(hl: ∀c,c∈Aw b p s S G->c∈l):Fn prog 154 [pV b,.int .i64 core] l λv l'=>v= .tuple #[Th.thV (LJ S core).1,iV (LJ S core).2]/\l'=l:=by
 have mr:Cw b p∈l:=mR hl;have I: ∀{f:Nat} {vs:List Value} {v:Value} [QF prog f vs (Aw b p s S G) v],QF prog f vs l v:=XE hl;unfold LJ My;refine AM func154 ntmps154 λE=>?_;refine AO λb4=>?_;by_cases h1:core<0
 ·rw[Ad (.inl h1)];refine Aj ?_;exact AW [] _ rfl .refl (Cz rfl (.head _) (As.LSub.of_all (n:=24) (Th.encH Th.thZ) rfl) (by exact A8)) (.drop .refl) ⟨rfl,rfl⟩
 refine Aj ?_;refine El ?_;refine Aj ?_;refine El ?_;by_cases h2:core>=S.K.length
 ·rw[Ad (.inr h2)];refine Aj ?_;exact AW [] _ rfl .refl (Cz rfl (.head _) (As.LSub.of_all (n:=24) (Th.encH Th.thZ) rfl) (by exact A8)) (.drop .refl) ⟨rfl,rfl⟩
 rw[Ac Af];refine Aj ?_;refine El ?_;refine Aj ?_;refine El ?_;refine Aj ?_;refine El ?_;obtain⟨t,ht⟩: ∃t,DB S (Lh S.U core)=t:=⟨_,rfl⟩
 obtain⟨ok,hok⟩: ∃ok,(Th.findH S.T (Lh S.U core)).isSome=ok:=⟨_,rfl⟩
 rw[ht,hok];refine AO λb6=>?_;by_cases h3:ok=false\/¬t.st=1
 ·rw[Ad h3];cases ok<;>by_cases h4:t.st=1;all_goals first
   |(exfalso;simp[h4] at h3;done)
   |(refine Aj ?_
     exact AW [] _ rfl .refl (Cz rfl (.tail _ (.head _)) (As.LSub.of_all (n:=24) (Th.encH Th.thZ) rfl) (by exact A8)) (.drop (.drop .refl)) ⟨rfl,rfl⟩)
 rw[Ac h3];obtain⟨h4,h5⟩:ok=true/\t.st=1:=by simp at h3;exact h3
 subst h4;refine Aj ?_;exact AW [] _ rfl .refl (Cz rfl (.tail _ (.head _)) (As.LSub.of_all (n:=24) (Th.encH t) rfl) (by exact A8)) (.drop (.drop .refl)) ⟨rfl,rfl⟩
instance[h:IsK F C k S p s]{core:Int}:QF prog 154 [pV b,.int .i64 core] (Aw b p s S G) (.tuple #[Th.thV (LJ S core).1,iV (LJ S core).2]):=⟨λl hl=>uI h core l hl⟩
end
abbrev YX(a b c d:Nat):List Value:=[.int .i64 (a:Nat),.int .i64 (b:Nat),.int .i64 (c:Nat),.int .i64 (d:Nat)]
def rk(w:Nat):List Value:=if 32768<=w then YX 0 0 0 0 else YX (DX w 12 3) (DX w 9 3) (DX w 6 3) (DX w 0 6)
theorem N5(w a n:Nat):DX w a n<2^n:=GN _ (Gm n)
theorem dA(w:Nat)(hw:w<18446744073709551616)(l:List Ab):Fn prog 256 [.int .u64 (w:Nat)] l λv l'=>v= .tuple #[.agg (toArray (rk w)),iV (if 32768<=w then 3 else 0)]/\l'=l:=by
 have f1:=N5 w 12 3;have f2:=N5 w 9 3;have f3:=N5 w 6 3;have f4:=N5 w 0 6;unfold rk;refine AM func256 ntmps256 λE=>?_;refine AO λb2=>?_;by_cases h1:32768<=w
 ·rw[Ad h1,Ad h1];refine Aj ?_;exact AW [] _ rfl .refl (Cz rfl (.head _) (As.LSub.of_all (n:=4) (YX 0 0 0 0) rfl) (by exact A8)) (.drop .refl) ⟨rfl,rfl⟩
 rw[Ac h1,Ac h1];refine AO λb4=>?_;refine Hu 3 ?_;refine Aj ?_;refine Bb (AJ rfl rfl λl2 _=>Je w 12 3 hw AX AX AX l2) ?_;obtain⟨x1,hx1⟩: ∃x,DX w 12 3=x:=⟨_,rfl⟩
 rw[hx1] at f1⊢;refine Aj ?_;refine Mu (F0 (cs:=YX 0 0 0 0) (cs':=YX x1 0 0 0) rfl rfl rfl (.head _) (by exact .zero) (by exact .here)) rfl rfl ?_;rintro _ _ ⟨rfl,rfl⟩;refine Aj ?_;refine EI ?_;refine Aj ?_;refine Bb (AJ rfl rfl λl2 _=>Je w 9 3 hw AX AX AX l2) ?_;obtain⟨x2,hx2⟩: ∃x,DX w 9 3=x:=⟨_,rfl⟩
 rw[hx2] at f2⊢;refine Aj ?_;refine Mu (F0 (cs:=YX x1 0 0 0) (cs':=YX x1 x2 0 0) rfl rfl rfl (.head _) (by exact .succ .zero) (by exact .here)) rfl rfl ?_;rintro _ _ ⟨rfl,rfl⟩;refine Aj ?_;refine EI ?_;refine Aj ?_;refine Bb (AJ rfl rfl λl2 _=>Je w 6 3 hw AX AX AX l2) ?_;obtain⟨x3,hx3⟩: ∃x,DX w 6 3=x:=⟨_,rfl⟩
 rw[hx3] at f3⊢;refine Aj ?_;refine Mu (F0 (cs:=YX x1 x2 0 0) (cs':=YX x1 x2 x3 0) rfl rfl rfl (.head _) (by exact .succ (.succ .zero)) (by exact .here)) rfl rfl ?_;rintro _ _ ⟨rfl,rfl⟩;refine Aj ?_;refine EI ?_;refine Aj ?_;refine Bb (AJ rfl rfl λl2 _=>Je w 0 6 hw AX AX AX l2) ?_;obtain⟨x4,hx4⟩: ∃x,DX w 0 6=x:=⟨_,rfl⟩
 rw[hx4] at f4⊢;have g0:(toArray (YX x1 x2 x3 0))[0+(0:Int).toNat*1]?=some (.int .i64 (x1:Nat)):=rfl;have g1:(toArray (YX x1 x2 x3 0))[0+(1:Int).toNat*1]?=some (.int .i64 (x2:Nat)):=rfl;have g2:(toArray (YX x1 x2 x3 0))[0+(2:Int).toNat*1]?=some (.int .i64 (x3:Nat)):=rfl;refine Aj ?_;exact AW [] _ rfl .refl (Cz rfl (.tail _ (.head _)) (As.LSub.of_all (n:=4) (YX x1 x2 x3 x4) rfl) (by exact A8)) (.drop (.drop .refl)) ⟨rfl,rfl⟩
section
def rl(w:Int):List Value:=rk w.toNat
def rm(w:Int):Int:=if 32768<=w.toNat then 3 else 0
instance{w:Int}[hu:U6 w]{l:List Ab}:QF prog 256 [Ba w] l (.tuple #[.agg (toArray (rl w)),iV (rm w)]):=⟨λl _=>by
 obtain⟨n,rfl⟩: ∃n:Nat,w=n:=⟨w.toNat,by have:=hu.out.1;omega⟩
 exact dA n (by have:=hu.out.2;omega) l⟩
def x9(x:Lm)(va:Int):Int:=IntKind.u64.wrap (IntKind.i64.wrap (IntKind.i64.wrap (x.fr*64)+(DX va.toNat 0 6:Nat)))
def findA(S:KT)(core va:Int)(wr:Bool):(Int×Int)×KT:=
 if 32768<=va.toNat then((0,1),S) else if ¬va%8=0 then((0,2),S) else if ¬(Oo S.K core).2.2=0\/(Oo S.K core).1<0 then((0,3),S)
 else if ¬(DA S.K S.W core (Gu va).1).1.2.2=0 then((0,4),{S with K:=(DA S.K S.W core (Gu va).1).2})
 else if(wr=true/\(DA S.K S.W core (Gu va).1).1.1.wr=false)\/(wr=false/\(DA S.K S.W core (Gu va).1).1.1.rd=false) then((0,5),{S with K:=(DA S.K S.W core (Gu va).1).2})
 else((x9 (DA S.K S.W core (Gu va).1).1.1 va,0),{S with K:=(DA S.K S.W core (Gu va).1).2})
theorem nO(hK:IsK F C k S p s)(core va:Int)[hu:U6 va](wr:Bool):Fn prog 201 [pV p.c,pV p.m,.int .i64 core,Ba va,.bool wr] (Aw b p s S G) (KK F C b p k (.tuple #[Ba (findA S core va wr).1.1,iV (findA S core va wr).1.2]) (findA S core va wr).2 G):=by
 have mr:Cw b p∈Aw b p s S G:=mR λ_ h=>h;obtain⟨u0,u1⟩:=hu.out;obtain⟨R,hR⟩: ∃R,findA S core va wr=R:=⟨_,rfl⟩
 rw[hR];unfold findA at hR;refine AM func201 ntmps201 λE=>?_;refine Aj ?_;refine Hu 1 ?_;refine Aj ?_;refine El ?_;refine Aj ?_;by_cases h1:32768<=va.toNat
 ·rw[Ad h1] at hR;subst hR;rw[show rm va=3 from Ad h1,show rl va=YX 0 0 0 0 from Ad h1];refine AO λb14=>?_;exact A5
 rw[Ac h1] at hR;rw[show rm va=0 from Ac h1,show rl va=YX (DX va.toNat 12 3) (DX va.toNat 9 3) (DX va.toNat 6 3) (DX va.toNat 0 6) from Ac h1];obtain⟨x1,hx1⟩: ∃x,DX va.toNat 12 3=x:=⟨_,rfl⟩
 obtain⟨x2,hx2⟩: ∃x,DX va.toNat 9 3=x:=⟨_,rfl⟩
 obtain⟨x3,hx3⟩: ∃x,DX va.toNat 6 3=x:=⟨_,rfl⟩
 obtain⟨x4,hx4⟩: ∃x,DX va.toNat 0 6=x:=⟨_,rfl⟩
 rw[hx1,hx2,hx3,hx4];refine AO λb14=>?_;by_cases h2:va%8=0
 case neg=>rw[Ad h2] at hR;subst hR;refine Aj ?_;exact A5
 rw[Ac (by simpa using h2)] at hR;refine Aj ?_;refine El ?_;obtain⟨r,hr⟩: ∃r,Oo S.K core=r:=⟨_,rfl⟩
 rw[hr] at hR⊢;refine Aj ?_;by_cases h3:¬r.2.2=0\/r.1<0
 ·rw[Ad h3] at hR;subst hR;by_cases h4:r.2.2=0<;>by_cases h5:r.1<0;all_goals first
   |(exfalso;omega)
   |(refine Aj ?_
     exact A5)
 rw[Ac h3] at hR;obtain⟨h4,h5⟩:r.2.2=0/\¬r.1<0:=by omega
 refine Aj ?_;refine El ?_;refine Aj ?_;try simp only[AL,AK,AQ]
 refine FI ?_;intro S1 s1 L1 hS1 hK1 hT1 mr1;obtain⟨t,ht⟩: ∃t,DA S.K S.W core (Gu va).1=t:=⟨_,rfl⟩
 rw[ht] at hR hS1⊢;rw[<-hS1] at hR;refine AO λb20=>?_;by_cases h6:t.1.2.2=0
 case neg=>rw[Ad h6] at hR;subst hR;refine Aj ?_;exact A5
 rw[Ac (by simpa using h6)] at hR;by_cases h7:(wr=true/\t.1.1.wr=false)\/(wr=false/\t.1.1.rd=false)
 ·rw[Ad h7] at hR;subst hR;cases wr<;>cases h8:t.1.1.wr<;>cases h9:t.1.1.rd;all_goals first
   |(exfalso;simp[h8,h9] at h7;done)
   |(refine Aj ?_
     exact A5)
 rw[Ac h7] at hR;subst hR;cases wr<;>cases h8:t.1.1.wr<;>cases h9:t.1.1.rd;all_goals first
  |(exfalso;simp[h8,h9] at h7;done)
  |(refine Aj ?_
    refine Bb (lG rfl rfl) ?_;refine Aj ?_;refine Bb (lF rfl rfl) ?_;refine Aj ?_;refine Bb (OZ rfl) ?_;refine Aj ?_;refine EI ?_;refine Aj ?_;unfold x9;rw[hx4];exact A5)
end
section
instance{core va:Int}[hu:U6 va]{wr:Bool}:EK prog F C b p 201 [pV p.c,pV p.m,.int .i64 core,Ba va,.bool wr] k S k (.tuple #[Ba (findA S core va wr).1.1,iV (findA S core va wr).1.2]) (findA S core va wr).2:=⟨λs G h=>nO h core va wr⟩
abbrev XF(kd va:Int)(wr:Bool):List Value:=[iV kd,Ba va,.bool wr]
theorem rn(x:Int):U6 (IntKind.u64.wrap x):=⟨by rw[gh];exact⟨Af,Af⟩⟩
theorem jh(S:KT)(core va:Int)(wr:Bool):U6 (findA S core va wr).1.1:=by
 unfold findA
 repeat' split
 all_goals first
  |exact(⟨by decide,by decide⟩:U6 0)
  |exact rn _
def fl(kd va:Int)(wr:Bool):List Value:=if kd=0 then XF 0 0 false else XF kd va wr
def fm(S:KT)(core va:Int):(Int×Int)×KT:=
 if ¬(findA S core va false).1.2=0 then((0,(findA S core va false).1.2),(findA S core va false).2)
 else if ¬(NZ (findA S core va false).2.W (findA S core va false).1.1).2=0 then((0,4),(findA S core va false).2)
 else(((NZ (findA S core va false).2.W (findA S core va false).1.1).1,0),(findA S core va false).2)
theorem nP(hK:IsK F C k S p s)(core va:Int)[hu:U6 va]:Fn prog 156 [pV p.c,pV p.m,.int .i64 core,Ba va] (Aw b p s S G) (KK F C b p k (.tuple #[Ba (fm S core va).1.1,.agg (toArray (fl (fm S core va).1.2 va false))]) (fm S core va).2 G):=by
 have mr:Cw b p∈Aw b p s S G:=mR λ_ h=>h;have hU:=jh S core va false;obtain⟨R,hR⟩: ∃R,fm S core va=R:=⟨_,rfl⟩
 rw[hR];unfold fm at hR;refine AM func156 ntmps156 λE=>?_;refine AO λb9=>?_;refine FI ?_;intro S1 s1 L1 hS1 hK1 hT1 mr1;obtain⟨q,hq⟩: ∃q,findA S core va false=q:=⟨_,rfl⟩
 rw[hq] at hR hS1 hU⊢;rw[<-hS1] at hR;refine Aj ?_;by_cases h1:q.1.2=0
 case neg=>rw[Ad h1] at hR;subst hR;rw[show fl q.1.2 va false=XF q.1.2 va false from Ac h1];refine Aj ?_;exact A5 (h:= .tmp rfl (Cz rfl (.head _) (As.LSub.of_all (n:=3) (XF q.1.2 va false) rfl) .nil))
 rw[Ac (by simpa using h1)] at hR;refine Aj ?_;try simp only[AL,AK,AQ]
 refine El ?_;obtain⟨w,hw⟩: ∃w,NZ S1.W q.1.1=w:=⟨_,rfl⟩
 rw[hw] at hR⊢;refine Aj ?_;by_cases h2:w.2=0
 case neg=>rw[Ad h2] at hR;subst hR;rw[show fl 4 va false=XF 4 va false from rfl];refine Aj ?_;exact A5 (h:= .tmp rfl (Cz rfl (.head _) (As.LSub.of_all (n:=3) (XF 4 va false) rfl) .nil))
 rw[Ac (by simpa using h2)] at hR;subst hR;refine Aj ?_;exact A5 (h:= .tmp rfl (Cz rfl (.head _) (As.LSub.of_all (n:=3) (XF 0 0 false) rfl) .nil))
instance{core va:Int}[hu:U6 va]:EK prog F C b p 156 [pV p.c,pV p.m,.int .i64 core,Ba va] k S k (.tuple #[Ba (fm S core va).1.1,.agg (toArray (fl (fm S core va).1.2 va false))]) (fm S core va).2:=⟨λs G h=>nP h core va⟩
end
section
def ji(S:KT)(core va v:Int):Int×KT:=
 if ¬(findA S core va true).1.2=0 then((findA S core va true).1.2,(findA S core va true).2)
 else(if(cY (findA S core va true).2.W (findA S core va true).1.1 v).1=0 then 0 else 4,{(findA S core va true).2 with W:=(cY (findA S core va true).2.W (findA S core va true).1.1 v).2})
theorem jj(hK:IsK F C k S p s)(core va v:Int)[hu:U6 va][hv:U6 v]:Fn prog 155 [pV p.c,pV p.m,.int .i64 core,Ba va,Ba v] (Aw b p s S G) (KK F C b p k (.agg (toArray (fl (ji S core va v).1 va true))) (ji S core va v).2 G):=by
 have mr:Cw b p∈Aw b p s S G:=mR λ_ h=>h;have hU:=jh S core va true;obtain⟨R,hR⟩: ∃R,ji S core va v=R:=⟨_,rfl⟩
 rw[hR];unfold ji at hR;refine AM func155 ntmps155 λE=>?_;refine AO λb9=>?_;refine FI ?_;intro S1 s1 L1 hS1 hK1 hT1 mr1;obtain⟨q,hq⟩: ∃q,findA S core va true=q:=⟨_,rfl⟩
 rw[hq] at hR hS1 hU⊢;rw[<-hS1] at hR;refine Aj ?_;by_cases h1:q.1.2=0
 case neg=>rw[Ad h1] at hR;subst hR;rw[show fl q.1.2 va true=XF q.1.2 va true from Ac h1];refine Aj ?_;exact A5 (h:=Cz rfl (.head _) (As.LSub.of_all (n:=3) (XF q.1.2 va true) rfl) .nil)
 rw[Ac (by simpa using h1)] at hR;refine Aj ?_;try simp only[AL,AK,AQ]
 refine FI ?_;intro S2 s2 L2 hS2 hK2 hT2 mr2;obtain⟨w,hw⟩: ∃w,cY S1.W q.1.1 v=w:=⟨_,rfl⟩
 rw[hw] at hR hS2⊢;rw[<-hS2] at hR;by_cases h2:w.1=0
 case neg=>rw[Ac h2] at hR;subst hR;rw[show fl 4 va true=XF 4 va true from rfl];refine Aj ?_;exact A5 (h:=Cz rfl (.head _) (As.LSub.of_all (n:=3) (XF 4 va true) rfl) .nil)
 rw[Ad h2] at hR;subst hR;refine Aj ?_;exact A5 (h:=Cz rfl (.head _) (As.LSub.of_all (n:=3) (XF 0 0 false) rfl) .nil)
instance{core va v:Int}[hu:U6 va][hv:U6 v]:EK prog F C b p 155 [pV p.c,pV p.m,.int .i64 core,Ba va,Ba v] k S k (.agg (toArray (fl (ji S core va v).1 va true))) (ji S core va v).2:=⟨λs G h=>jj h core va v⟩
end
abbrev yN(x:Int×Int):List Value:=[iV x.1,Ba x.2]
theorem W6(B3 B4 B5 b gb F:Nat)(p:RP)(W:List Int)(h1:F<=64)(hW:W.length=F*8)(hu: ∀w,w∈W->Kr w)(root page:Int):
 Fa prog 332 [pV B3,pV B4,pV B5] yN (λxs=>xs=pF W root page) (λpre=>pre<+:pF W root page)
  (λ_ l=>BJ B5 page∈l/\BJ B4 root∈l/\rB B3 b∈l/\Cw b p∈l/\Oj p.m gb F∈l/\Se gb W∈l):=by
 refine⟨λr I Ix G0 hneed hY l G hG h0=>?_⟩;have Q1: ∀l,Cw b p∈l->QF prog 87 [pV b] l (pV p.m):=λl h=>⟨λl2 hl=>Sk b p l2 (hl _ h)⟩
 have Q2: ∀l lv,Oj p.m gb F∈l->Se gb W∈l->QF prog 299 [pV p.m,.int .i64 root,.int .i64 page,.int .i64 lv] l (.tuple #[Ba (PA W root page lv).1,iV (PA W root page lv).2]):=λl lv m1 m2=>⟨λl2 hl=>Vh p.m gb F W h1 hW hu root page lv l2 (hl _ m1) (hl _ m2)⟩
 obtain⟨n1,n2,n3,n4,n5,n6⟩:=hneed _ _ G hG h0;have i1:=Q1 _ n4;have i2:=Q2 _ 1 n5 n6;obtain⟨a1,ha1⟩: ∃a,PA W root page 1=a:=⟨_,rfl⟩
 obtain⟨a2,ha2⟩: ∃a,PA W root page 2=a:=⟨_,rfl⟩
 rw[ha1] at i2;have hD:pF W root page=if ¬a1.2=0 then[] else(1,a1.1)::if ¬a2.2=0 then[] else[(2,a2.1)]:=by unfold pF;rw[ha1,ha2]
 rw[hD] at hY⊢;refine AM func332 ntmps332 λE=>?_;refine Aj ?_;refine Hu 2 ?_;refine Aj ?_;refine HU ?_;refine kP ?_;refine TK ?_;iterate 3 refine kP ?_
 refine TK ?_;refine BM ?_;by_cases e1:a1.2=0
 case neg=>refine Aj ?_;exact A9 .refl ⟨l,rfl,.inl ⟨[],(Ad e1).symm,h0⟩⟩
 rw[Ac (by simpa using e1)] at hY⊢;refine Aj ?_;have hp1:[((1:Int),a1.1)]<+:(1,a1.1)::(if ¬a2.2=0 then[] else[((2:Int),a2.1)]):=⟨_,rfl⟩
 have hy:=hY [] (1,a1.1) l G hG h0 hp1;refine Ia (CQ rfl rfl hy) rfl rfl rfl ?_;rintro v _ ⟨l1,rfl,⟨rfl,hI⟩|⟨rfl,hx⟩⟩
 case' inr=>
  refine Aj ?_;exact A9 .refl ⟨l1,rfl,.inr ⟨_,hp1,hx⟩⟩
 obtain⟨n1,n2,n3,n4,n5,n6⟩:=hneed _ _ G hG hI;have i1:=Q1 _ n4;have i2:=Q2 _ 2 n5 n6;rw[ha2] at i2;refine Aj ?_;refine EI ?_;refine Aj ?_;rw[show(1:Int)+1=2 from rfl];refine HU ?_;refine kP ?_;refine TK ?_;iterate 3 refine kP ?_
 refine TK ?_;refine BM ?_;by_cases e2:a2.2=0
 case neg=>rw[Ad e2] at hY⊢;refine Aj ?_;exact A9 .refl ⟨l1,rfl,.inl ⟨[(1,a1.1)],rfl,hI⟩⟩
 rw[Ac (by simpa using e2)] at hY⊢;refine Aj ?_;have hp2:[((1:Int),a1.1),(2,a2.1)]<+:[((1:Int),a1.1),(2,a2.1)]:=⟨[],rfl⟩
 have hy2:=hY [(1,a1.1)] (2,a2.1) l1 G hG hI hp2;refine Ia (CQ rfl rfl hy2) rfl rfl rfl ?_;rintro v _ ⟨l2,rfl,⟨rfl,hI2⟩|⟨rfl,hx2⟩⟩
 case' inr=>
  refine Aj ?_;exact A9 .refl ⟨l2,rfl,.inr ⟨_,hp2,hx2⟩⟩
 refine Aj ?_;refine EI ?_;refine Aj ?_;exact A9 .refl ⟨l2,rfl,.inl ⟨[(1,a1.1),(2,a2.1)],rfl,hI2⟩⟩
section
theorem jk(N:As.ASt)(o:Int):(As.dropP N o).2.2.given=N.given:=by unfold As.dropP;(repeat' split)<;>rfl
theorem YY(hK:IsK F C k S p s)(o:Int):Fn prog 387 [pV p.n,.int .i64 o] (Aw b p s S G) λv l'=> ∃sl cs,v= .tuple #[sl,iV (As.dropP S.N o).2.1]/\OwnSl 3 1 sl (As.dropP S.N o).1.length (As.dropP S.N o).1 cs/\IsK F C k {S with N:=(As.dropP S.N o).2.2} p s/\l'=cs++Aw b p s {S with N:=(As.dropP S.N o).2.2} G:=
 Fn.re (.of_perm (by unfold Aw;exact BR)) (As.dropPool_any p.n S.N o (Cw b p::(s.M++(s.C++(s.A++(s.H++(s.T++(s.Q++(s.E++(s.V++G))))))))))
  λv l' ⟨sl,cs,h1,h2,h3⟩=>⟨cs++Aw b p s {S with N:=(As.dropP S.N o).2.2} G,by rw[h3];unfold Aw;exact A4 [],sl,cs,h1,h2,{hK with giv:=λn hn=>by rw[show({S with N:=(As.dropP S.N o).2.2}:KT).N.given=S.N.given from jk ..];exact hK.giv n hn},rfl⟩
end
section
def vI:Value->Int
 | .int _ i=>i
 |_=>0
def nQ(N:As.ASt)(o:Int):List Int:=(As.dropP N o).1.map vI
def OM(S:KT)(id:Int):Bool×KT:=
 if(Ar.getD' S.A id).2=false then(false,S)
 else if(Ar.getD' S.A id).1.kd=4 then((Fu S id).2,Qh S id)
 else if(Ar.getD' S.A id).1.kd=5 then(decide ((As.unP S.N id).2.1=0),{S with N:=(As.unP S.N id).2.2,K:=if(As.unP S.N id).2.1=0 then If S.K (PB (As.unP S.N id).1) else S.K})
 else if(Ar.getD' S.A id).1.kd=6 then(decide ((As.dropP S.N id).2.1=0),{S with N:=(As.dropP S.N id).2.2,K:=(nQ S.N id).foldl (λK n=>If K (PB n)) S.K})
 else(false,S)
theorem uJ(hK:IsK F C k S p s)(id:Int)(h6:¬(Ar.getD' S.A id).1.kd=6):Fn prog 365 [pV b,.int .i64 id] (Aw b p s S G) (KK F C b p k (.bool (OM S id).1) (OM S id).2 G):=by
 have mr:Cw b p∈Aw b p s S G:=mR λ_ h=>h;obtain⟨R,hR⟩: ∃R,OM S id=R:=⟨_,rfl⟩
 rw[hR];unfold OM at hR;refine AM func365 ntmps365 λE=>?_;refine Aj ?_;refine El ?_;refine Aj ?_;refine El ?_;obtain⟨o,ho⟩: ∃o,(Ar.getD' S.A id).1=o:=⟨_,rfl⟩
 obtain⟨ok,hok⟩: ∃ok,(Ar.getD' S.A id).2=ok:=⟨_,rfl⟩
 rw[ho,hok] at hR;rw[ho] at h6;rw[ho,hok];refine AO λb5=>?_;cases ok with
 |false=>rw[Ad rfl] at hR;subst hR;refine Aj ?_;exact A5
 |true=>
 rw[Ac AX] at hR;refine Aj ?_;by_cases h4:o.kd=4
 ·rw[Ad h4] at hR;subst hR;refine Aj ?_;refine FI ?_;intro S1 s1 L1 hS1 hK1 hT1 mr1;refine Aj ?_;exact A5
 rw[Ac h4] at hR;by_cases h5:o.kd=5
 ·rw[Ad h5] at hR;refine Aj ?_;refine El ?_;refine Aj ?_;refine FI ?_;intro S1 s1 L1 hS1 hK1 hT1 mr1;obtain⟨u,hu⟩: ∃u,As.unP S.N id=u:=⟨_,rfl⟩
  rw[hu] at hR hS1⊢;refine Aj ?_;by_cases h7:u.2.1=0
  ·rw[Ad h7,h7] at hR;subst hR;refine Aj ?_;refine El ?_;refine Aj ?_;try simp only[AL,AK,AQ]
   refine FI ?_;intro S2 s2 L2 hS2 hK2 hT2 mr2;refine Aj ?_;have hS:S2={S with N:=u.2.2,K:=If S.K (PB u.1)}:=by rw[hS2,hS1]
   exact A5
  rw[Ac h7,show decide (u.2.1=0)=false by simp[h7]] at hR;subst hR;refine Aj ?_;exact A5
 rw[Ac h5,Ac h6] at hR;subst hR;refine Aj ?_;exact A5
end
section
theorem nR(N:As.ASt)(o:Int):(As.dropP N o).1.length<=4:=by
 unfold As.dropP
 split
 ·simp
 ·exact BP (As.dropL_len ..) (As.nums_len _)
theorem nS(N:As.ASt)(o:Int):(As.dropP N o).1=(nQ N o).map iV:=by
 unfold nQ;rw[CJ];unfold As.dropP
 split
 ·rfl
 ·unfold As.dropL;simp only[CJ];exact Bw λ_ _=>rfl
theorem rp(hK:IsK F C k S p s)(id:Int)(h6:(Ar.getD' S.A id).1.kd=6):Fn prog 365 [pV b,.int .i64 id] (Aw b p s S G) (KK F C b p k (.bool (OM S id).1) (OM S id).2 G):=by
 have mr:Cw b p∈Aw b p s S G:=mR λ_ h=>h;obtain⟨R,hR⟩: ∃R,OM S id=R:=⟨_,rfl⟩
 rw[hR];unfold OM at hR;refine AM func365 ntmps365 λE=>?_;refine Aj ?_;refine El ?_;refine Aj ?_;refine El ?_;obtain⟨o,ho⟩: ∃o,(Ar.getD' S.A id).1=o:=⟨_,rfl⟩
 obtain⟨ok,hok⟩: ∃ok,(Ar.getD' S.A id).2=ok:=⟨_,rfl⟩
 rw[ho,hok] at hR;rw[ho] at h6;rw[ho,hok];refine AO λb5=>?_;cases ok with
 |false=>rw[Ad rfl] at hR;subst hR;refine Aj ?_;exact A5
 |true=>
 rw[Ac AX,Ac Af,Ac Af,Ad h6] at hR;refine Aj ?_;refine El ?_;refine Aj ?_;refine Bk (.of_perm (ET b p s S [_] G)) ?_;refine AP (Az rfl rfl (YY hK id)) ?_;rintro _ _ ⟨sl,cs,rfl,ho1,hK1,rfl⟩;have hl:=nR S.N id;rw[nS] at ho1 hl;obtain⟨dn,hdn⟩: ∃d,As.dropP S.N id=d:=⟨_,rfl⟩
 obtain⟨ds,hds⟩: ∃ds,nQ S.N id=ds:=⟨_,rfl⟩
 rw[hds] at ho1 hl hR;rw[hdn] at hK1 hR⊢;rw[A3] at ho1 hl;refine Bk (.of_perm (ET b p s _ cs _)) ?_;obtain⟨c5,hc5⟩: ∃c,(b5,Obj.cells (toArray (Ar.obC o)) 100 (0,0))=c:=⟨_,rfl⟩
 obtain⟨pp,cap,hsh⟩:=ho1.shape;have htl:Tail (cs++([(b5,Obj.cells (toArray (Ar.obC o)) 100 (0,0))]++G)) G:=⟨cs++[_],by rw[Am]⟩
 rcases ds with _|⟨d1,_|⟨d2,_|⟨d3,_|⟨d4,_|⟨d5,ds⟩⟩⟩⟩⟩
 ·simp only[FY] at hR;rw[hsh];subst hR;refine Aj ?_;refine Hu 0 ?_;refine Aj ?_;exact A5 (ht:=htl)
 ·obtain⟨gb,cap,sp,rfl,rfl⟩:=Mr ho1 (by simp);simp only[D5,FY] at hR;obtain⟨L0,hL0⟩: ∃L0,[(gb,Obj.cells (toArray ([d1].map iV++sp)) 3 (0,0))]++([(b5,Obj.cells (toArray (Ar.obC o)) 100 (0,0))]++G)=L0:=⟨_,rfl⟩
  have w0:(gb,Obj.cells (toArray ([d1].map iV++sp)) 3 (0,0))∈L0:=by rw[<-hL0];exact .head _
  rw[hL0] at htl⊢;have m0:=mG (b:=b) (p:=p) (s:=s) (S:=({S with N:=dn.2.2}:KT)) (G:=L0) (l:=Aw b p s {S with N:=dn.2.2} L0) (λ_ h=>h) _ w0;have mr:=mR (b:=b) (p:=p) (s:=s) (S:=({S with N:=dn.2.2}:KT)) (G:=L0) (l:=Aw b p s {S with N:=dn.2.2} L0) λ_ h=>h;have z0:(toArray ([d1].map iV++sp))[0+(0:Int).toNat*1]?=some (.int .i64 d1):=rfl;rw[show([d1]:List Int).length=1 from rfl];refine Aj ?_;refine Hu 1 ?_;refine Aj ?_;refine El ?_;refine Aj ?_;refine FI ?_;intro S1 s1 L1 hS1 hK2 hT1 mr1;have w1:(gb,Obj.cells (toArray ([d1].map iV++sp)) 3 (0,0))∈L1:=by obtain⟨X,rfl⟩:=hT1;exact Aa _ w0
  have m1:=mG (b:=b) (p:=p) (s:=s1) (S:=S1) (G:=L1) (l:=Aw b p s1 S1 L1) (λ_ h=>h) _ w1;refine Aj ?_;refine EI ?_;refine Aj ?_;subst hR;exact A5 (ht:=(hT1.trans htl))
 ·obtain⟨gb,cap,sp,rfl,rfl⟩:=Mr ho1 (by simp);simp only[D5,FY] at hR;obtain⟨L0,hL0⟩: ∃L0,[(gb,Obj.cells (toArray ([d1,d2].map iV++sp)) 3 (0,0))]++([(b5,Obj.cells (toArray (Ar.obC o)) 100 (0,0))]++G)=L0:=⟨_,rfl⟩
  have w0:(gb,Obj.cells (toArray ([d1,d2].map iV++sp)) 3 (0,0))∈L0:=by rw[<-hL0];exact .head _
  rw[hL0] at htl⊢;have m0:=mG (b:=b) (p:=p) (s:=s) (S:=({S with N:=dn.2.2}:KT)) (G:=L0) (l:=Aw b p s {S with N:=dn.2.2} L0) (λ_ h=>h) _ w0;have mr:=mR (b:=b) (p:=p) (s:=s) (S:=({S with N:=dn.2.2}:KT)) (G:=L0) (l:=Aw b p s {S with N:=dn.2.2} L0) λ_ h=>h;have z0:(toArray ([d1,d2].map iV++sp))[0+(0:Int).toNat*1]?=some (.int .i64 d1):=rfl;have z1:(toArray ([d1,d2].map iV++sp))[0+(1:Int).toNat*1]?=some (.int .i64 d2):=rfl;rw[show([d1,d2]:List Int).length=2 from rfl];refine Aj ?_;refine Hu 2 ?_;refine Aj ?_;refine El ?_;refine Aj ?_;refine FI ?_;intro S1 s1 L1 hS1 hK2 hT1 mr1;have w1:(gb,Obj.cells (toArray ([d1,d2].map iV++sp)) 3 (0,0))∈L1:=by obtain⟨X,rfl⟩:=hT1;exact Aa _ w0
  have m1:=mG (b:=b) (p:=p) (s:=s1) (S:=S1) (G:=L1) (l:=Aw b p s1 S1 L1) (λ_ h=>h) _ w1;refine Aj ?_;refine EI ?_;refine Aj ?_;rw[show(0:Int)+1=1 from rfl];refine Aj ?_;refine El ?_;refine Aj ?_;refine FI ?_;intro S2 s2 L2 hS2 hK3 hT2 mr2;have w2:(gb,Obj.cells (toArray ([d1,d2].map iV++sp)) 3 (0,0))∈L2:=by obtain⟨X,rfl⟩:=hT2;exact Aa _ w1
  have m2:=mG (b:=b) (p:=p) (s:=s2) (S:=S2) (G:=L2) (l:=Aw b p s2 S2 L2) (λ_ h=>h) _ w2;refine Aj ?_;refine EI ?_;refine Aj ?_;subst hR;exact A5 (ht:=(hT2.trans (hT1.trans htl)))
 ·obtain⟨gb,cap,sp,rfl,rfl⟩:=Mr ho1 (by simp);simp only[D5,FY] at hR;obtain⟨L0,hL0⟩: ∃L0,[(gb,Obj.cells (toArray ([d1,d2,d3].map iV++sp)) 3 (0,0))]++([(b5,Obj.cells (toArray (Ar.obC o)) 100 (0,0))]++G)=L0:=⟨_,rfl⟩
  have w0:(gb,Obj.cells (toArray ([d1,d2,d3].map iV++sp)) 3 (0,0))∈L0:=by rw[<-hL0];exact .head _
  rw[hL0] at htl⊢;have m0:=mG (b:=b) (p:=p) (s:=s) (S:=({S with N:=dn.2.2}:KT)) (G:=L0) (l:=Aw b p s {S with N:=dn.2.2} L0) (λ_ h=>h) _ w0;have mr:=mR (b:=b) (p:=p) (s:=s) (S:=({S with N:=dn.2.2}:KT)) (G:=L0) (l:=Aw b p s {S with N:=dn.2.2} L0) λ_ h=>h;have z0:(toArray ([d1,d2,d3].map iV++sp))[0+(0:Int).toNat*1]?=some (.int .i64 d1):=rfl;have z1:(toArray ([d1,d2,d3].map iV++sp))[0+(1:Int).toNat*1]?=some (.int .i64 d2):=rfl;have z2:(toArray ([d1,d2,d3].map iV++sp))[0+(2:Int).toNat*1]?=some (.int .i64 d3):=rfl;rw[show([d1,d2,d3]:List Int).length=3 from rfl];refine Aj ?_;refine Hu 3 ?_;refine Aj ?_;refine El ?_;refine Aj ?_;refine FI ?_;intro S1 s1 L1 hS1 hK2 hT1 mr1;have w1:(gb,Obj.cells (toArray ([d1,d2,d3].map iV++sp)) 3 (0,0))∈L1:=by obtain⟨X,rfl⟩:=hT1;exact Aa _ w0
  have m1:=mG (b:=b) (p:=p) (s:=s1) (S:=S1) (G:=L1) (l:=Aw b p s1 S1 L1) (λ_ h=>h) _ w1;refine Aj ?_;refine EI ?_;refine Aj ?_;rw[show(0:Int)+1=1 from rfl];refine Aj ?_;refine El ?_;refine Aj ?_;refine FI ?_;intro S2 s2 L2 hS2 hK3 hT2 mr2;have w2:(gb,Obj.cells (toArray ([d1,d2,d3].map iV++sp)) 3 (0,0))∈L2:=by obtain⟨X,rfl⟩:=hT2;exact Aa _ w1
  have m2:=mG (b:=b) (p:=p) (s:=s2) (S:=S2) (G:=L2) (l:=Aw b p s2 S2 L2) (λ_ h=>h) _ w2;refine Aj ?_;refine EI ?_;refine Aj ?_;rw[show(1:Int)+1=2 from rfl];refine Aj ?_;refine El ?_;refine Aj ?_;refine FI ?_;intro S3 s3 L3 hS3 hK4 hT3 mr3;have w3:(gb,Obj.cells (toArray ([d1,d2,d3].map iV++sp)) 3 (0,0))∈L3:=by obtain⟨X,rfl⟩:=hT3;exact Aa _ w2
  have m3:=mG (b:=b) (p:=p) (s:=s3) (S:=S3) (G:=L3) (l:=Aw b p s3 S3 L3) (λ_ h=>h) _ w3;refine Aj ?_;refine EI ?_;refine Aj ?_;subst hR;exact A5 (ht:=(hT3.trans (hT2.trans (hT1.trans htl))))
 ·obtain⟨gb,cap,sp,rfl,rfl⟩:=Mr ho1 (by simp);simp only[D5,FY] at hR;obtain⟨L0,hL0⟩: ∃L0,[(gb,Obj.cells (toArray ([d1,d2,d3,d4].map iV++sp)) 3 (0,0))]++([(b5,Obj.cells (toArray (Ar.obC o)) 100 (0,0))]++G)=L0:=⟨_,rfl⟩
  have w0:(gb,Obj.cells (toArray ([d1,d2,d3,d4].map iV++sp)) 3 (0,0))∈L0:=by rw[<-hL0];exact .head _
  rw[hL0] at htl⊢;have m0:=mG (b:=b) (p:=p) (s:=s) (S:=({S with N:=dn.2.2}:KT)) (G:=L0) (l:=Aw b p s {S with N:=dn.2.2} L0) (λ_ h=>h) _ w0;have mr:=mR (b:=b) (p:=p) (s:=s) (S:=({S with N:=dn.2.2}:KT)) (G:=L0) (l:=Aw b p s {S with N:=dn.2.2} L0) λ_ h=>h;have z0:(toArray ([d1,d2,d3,d4].map iV++sp))[0+(0:Int).toNat*1]?=some (.int .i64 d1):=rfl;have z1:(toArray ([d1,d2,d3,d4].map iV++sp))[0+(1:Int).toNat*1]?=some (.int .i64 d2):=rfl;have z2:(toArray ([d1,d2,d3,d4].map iV++sp))[0+(2:Int).toNat*1]?=some (.int .i64 d3):=rfl;have z3:(toArray ([d1,d2,d3,d4].map iV++sp))[0+(3:Int).toNat*1]?=some (.int .i64 d4):=rfl;rw[show([d1,d2,d3,d4]:List Int).length=4 from rfl];refine Aj ?_;refine Hu 4 ?_;refine Aj ?_;refine El ?_;refine Aj ?_;refine FI ?_;intro S1 s1 L1 hS1 hK2 hT1 mr1;have w1:(gb,Obj.cells (toArray ([d1,d2,d3,d4].map iV++sp)) 3 (0,0))∈L1:=by obtain⟨X,rfl⟩:=hT1;exact Aa _ w0
  have m1:=mG (b:=b) (p:=p) (s:=s1) (S:=S1) (G:=L1) (l:=Aw b p s1 S1 L1) (λ_ h=>h) _ w1;refine Aj ?_;refine EI ?_;refine Aj ?_;rw[show(0:Int)+1=1 from rfl];refine Aj ?_;refine El ?_;refine Aj ?_;refine FI ?_;intro S2 s2 L2 hS2 hK3 hT2 mr2;have w2:(gb,Obj.cells (toArray ([d1,d2,d3,d4].map iV++sp)) 3 (0,0))∈L2:=by obtain⟨X,rfl⟩:=hT2;exact Aa _ w1
  have m2:=mG (b:=b) (p:=p) (s:=s2) (S:=S2) (G:=L2) (l:=Aw b p s2 S2 L2) (λ_ h=>h) _ w2;refine Aj ?_;refine EI ?_;refine Aj ?_;rw[show(1:Int)+1=2 from rfl];refine Aj ?_;refine El ?_;refine Aj ?_;refine FI ?_;intro S3 s3 L3 hS3 hK4 hT3 mr3;have w3:(gb,Obj.cells (toArray ([d1,d2,d3,d4].map iV++sp)) 3 (0,0))∈L3:=by obtain⟨X,rfl⟩:=hT3;exact Aa _ w2
  have m3:=mG (b:=b) (p:=p) (s:=s3) (S:=S3) (G:=L3) (l:=Aw b p s3 S3 L3) (λ_ h=>h) _ w3;refine Aj ?_;refine EI ?_;refine Aj ?_;rw[show(2:Int)+1=3 from rfl];refine Aj ?_;refine El ?_;refine Aj ?_;refine FI ?_;intro S4 s4 L4 hS4 hK5 hT4 mr4;have w4:(gb,Obj.cells (toArray ([d1,d2,d3,d4].map iV++sp)) 3 (0,0))∈L4:=by obtain⟨X,rfl⟩:=hT4;exact Aa _ w3
  have m4:=mG (b:=b) (p:=p) (s:=s4) (S:=S4) (G:=L4) (l:=Aw b p s4 S4 L4) (λ_ h=>h) _ w4;refine Aj ?_;refine EI ?_;refine Aj ?_;subst hR;exact A5 (ht:=(hT4.trans (hT3.trans (hT2.trans (hT1.trans htl)))))
 ·exfalso;simp at hl
instance{id:Int}:EK prog F C b p 365 [pV b,.int .i64 id] k S k (.bool (OM S id).1) (OM S id).2:=⟨λs G h=>by
 by_cases h6:(Ar.getD' S.A id).1.kd=6
 ·exact rp h id h6
 ·exact uJ h id h6⟩
end
section
variable{fr:Fr}{g:Operand}{enc:α->List Value}
abbrev SF(r:Nat)(fn:FuncId)(tmps:Array Value)(ps:List Tmp)(assign body:Code)(D:Nat)(st:LoopState)(c:Option Code):Ab:=(r,.loop (Dz fn tmps ps.toArray assign body D st c))
theorem W7(hg:ev fr g=some (.func (.func gf) #[] lb.toArray))[en:EN P gf](A:List Ab->Prop)(B:Code->List Ab->Prop)
 (hrun: ∀(r:Nat) (fn:FuncId) (tmps:Array Value) (D:Nat),(∀a:Act,a.tmps=tmps->FSat N fr a)->
   Fn P gf (.func (.yield r) #[] #[]::lb) (SF r fn tmps ps assign body D .ready none::Cf D::L) λv l'=>(∃l1,A l1/\l'=SF r fn tmps ps assign body D .ready none::Cf D::l1)\/(∃c l1,B c l1/\l'=SF r fn tmps ps assign body D .done (some c)::Cf D::l1))
 (hdone: ∀(D:Nat) (l:List Ab),A l->CO N E Q .normal fr (GU D::ds) (Cf D::l))
 (hstop: ∀(D:Nat) (c:Code) (l:List Ab),B c l->BH P none N E c Q fr (GU D::ds) (Cf D::l)):
 BH P none N E (.rangeFunc g ps.toArray assign body) Q fr ds L:=by
 refine⟨λa W hf hds hs=>wpIn_rangeFunc ?_⟩;intro fn hfn;obtain⟨rec,hrec⟩: ∃rec,rec=Dz fn a.tmps ps.toArray assign body W.heap.size:=⟨_,rfl⟩
 obtain⟨W1,hW1⟩: ∃W1,(W.alloc (.deferred (some []))).alloc (.loop (rec .ready none))=W1:=⟨_,rfl⟩
 have hs1:Sat E ((W.heap.size+1,.loop (rec .ready none))::(W.heap.size,.deferred (some []))::L) W1:=by have:=(hs.alloc (.deferred (some []))).alloc (.loop (rec .ready none));rw[World.size_alloc,hW1] at this;exact this
 have hev:=hf.agrees g _ hg;refine⟨W.heap.size+1,[GU W.heap.size],W1,{target:= .fn (.func gf) lb.toArray,args:=#[.func (.yield (W.heap.size+1)) #[] #[]]},W1,gf,#[.func (.yield (W.heap.size+1)) #[] #[]]++lb.toArray,W1,?_,?_,λ_ _=>trivial,?_,λh=>(by cases h),?_⟩
 ·rw[<-hW1,hrec];exact run_enterLoop_outer _ _ _ _ _
 ·simp only[resolve,hev];simp[Deferred.ofValue,Act.eval]
 ·simp[invoke,en.out]
 ·have hc:=(hrun (W.heap.size+1) fn a.tmps W.heap.size λa' ha'=>⟨by rw[ha'];exact hf.size,λd v hd=>by rw[ha'];exact hf.at_ d v hd⟩).run E W1 (by rw[hrec] at hs1;exact hs1);have eargs:(Value.func (.yield (W.heap.size+1)) #[] #[]::lb).toArray=#[.func (.yield (W.heap.size+1)) #[] #[]]++lb.toArray:=by simp
  rw[eargs] at hc;refine LR (hc.mono ?_);rintro e W2 ⟨v,l',rfl,⟨l1,hA,rfl⟩|⟨c,l1,hB,rfl⟩,hs3⟩
  ·have hm:W2.heap[W.heap.size+1]?=some (.loop (Dz fn a.tmps ps.toArray assign body W.heap.size .ready none)):=hs3.has (W.heap.size+1,_) (.head _);refine⟨none,_,run_endLoop (P:=P) hm (by simp[Dz]),?_⟩;refine(hdone W.heap.size l1 hA).run {a with defers:=[GU W.heap.size]++a.defers} _ ⟨hf.size,hf.at_⟩ (by rw[<-hds];rfl) ?_;exact(hs3.upd .here).tail
  ·have hm:W2.heap[W.heap.size+1]?=some (.loop (Dz fn a.tmps ps.toArray assign body W.heap.size .done (some c))):=hs3.has (W.heap.size+1,_) (.head _);refine⟨some c,_,run_endLoop (P:=P) hm (by simp[Dz]),?_⟩;refine(hstop W.heap.size c l1 hB).run {a with defers:=[GU W.heap.size]++a.defers} _ ⟨hf.size,hf.at_⟩ (by rw[<-hds];rfl) ?_;exact(hs3.upd .here).tail
structure W8(P:Program)(gf:Nat)(lb:List Value)(enc:α->List Value)(C:List Ab)(Out:List α->List Ab->Prop):Prop where
 run: ∀(r:Nat) (I:List α->List Ab->Prop),(∀pre x l X,pre.length<=3->I pre l->MX P r (enc x) (l++X) (λv l'=> ∃l1,v= .bool true/\I (pre++[x]) l1/\l'=l1++X))->
  ∀l,I [] l->Fn P gf (.func (.yield r) #[] #[]::lb) (l++C) (λv l'=> ∃xs l1 C',I xs l1/\Out xs C'/\l'=l1++C')
theorem jl(hg:ev fr g=some (.func (.func gf) #[] lb.toArray))[en:EN P gf]{C:List Ab}{Out:List α->List Ab->Prop}(hit:W8 P gf lb enc C Out)(hps: ∀x,(enc x).length=ps.length)(hpb:ps.all (λp=>Nat.blt p N)=true)
 (I:List α->List Ab->Prop)(l0:List Ab)(hL:Keep L (l0++C))(h0:I [] l0)
 (hround: ∀(E:World) (r:Nat) (rec:LoopState->Option Code->Loop) (pre:List α) (x:α) (l T:List Ab),(∃fn tmps D,rec=Dz fn tmps ps.toArray assign body D)->pre.length<=3->I pre l->
   BH P (some r) N E assign (Exit.then (Ow P r body (roundPost P r (RK E (JG I (λ_ _ _=>False) (pre++[x]) r rec T)))) (λ_ _ _=>False)) (DG ps (enc x) fr) [] (l++(r,.loop (rec .ready none))::T))
 (hdone: ∀(D:Nat) (xs:List α) (l C':List Ab),I xs l->Out xs C'->CO N E Q .normal fr (GU D::ds) (Cf D::(l++C'))):
 BH P none N E (.rangeFunc g ps.toArray assign body) Q fr ds L:=by
 refine D3 hL (W7 hg (λl1=> ∃xs l C',I xs l/\Out xs C'/\l1=l++C') (λ_ _=>False) ?_ ?_ λD c l h=>h.elim)
 ·intro r fn tmps D hf;have hy:=hit.run r (λpre l=> ∃l1,I pre l1/\l=l1++[SF r fn tmps ps assign body D .ready none,Cf D]) (λpre x l X h3 ⟨l1,h1,h2⟩=>by
   subst h2;have hy:=Ri (P:=P) (N:=N) (fr:=fr) (assign:=assign) (body:=body) (ps:=ps) (enc:=enc) (r:=r) (fn:=fn) (tmps:=tmps) (D:=D) (T:=Cf D::X) (I:=I) (Ix:=λ_ _ _=>False) (pre:=pre) (x:=x) (l:=l1) (hps x) hpb hf (λE'=>hround E' r _ pre x l1 (Cf D::X) ⟨fn,tmps,D,rfl⟩ h3 h1);refine⟨λE' W' hs'=>?_⟩;have e:l1++[SF r fn tmps ps assign body D .ready none,Cf D]++X=l1++SF r fn tmps ps assign body D .ready none::Cf D::X:=by simp
   rw[e] at hs';obtain⟨fn',tm,asg,bo,k1,k2⟩:=hy.run E' W' hs';refine⟨fn',tm,asg,bo,k1,k2.mono ?_⟩;rintro e' W'' ⟨v,l',rfl,hk,hs''⟩;refine⟨v,l',rfl,?_,hs''⟩;rcases hk with⟨hv,l2,hI,rfl⟩|⟨hv,c,l2,hI,rfl⟩
   ·exact⟨l2++[SF r fn tmps ps assign body D .ready none,Cf D],hv,⟨l2,hI,rfl⟩,by simp⟩
   ·exact hI.elim) (l0++[SF r fn tmps ps assign body D .ready none,Cf D]) ⟨l0,h0,rfl⟩
  refine Fn.re (.of_perm ?_) hy λv l' ⟨xs,l1,C',⟨l2,h1,h2⟩,h3,h4⟩=>⟨SF r fn tmps ps assign body D .ready none::Cf D::(l2++C'),.of_perm ?_,.inl ⟨_,⟨xs,l2,C',h1,h3,rfl⟩,rfl⟩⟩
  ·exact(Iz C (Ey (l₁:=[SF r fn tmps ps assign body D .ready none,Cf D]) (l₂:=l0)))
  ·subst h4 h2;exact(Iz C' (Ey (l₁:=l2) (l₂:=[SF r fn tmps ps assign body D .ready none,Cf D])))
 ·rintro D l ⟨xs,l1,C',h1,h2,rfl⟩;exact hdone D xs l1 C' h1 h2
structure pG(P:Program)(gf:Nat)(lb:List Value)(enc:α->List Value)(Nx:List α->Option α->List Ab->Prop):Prop where
 run: ∀(r:Nat) (I:Nat->List α->Option α->List Ab->Prop) (Ix:List α->List Ab->Prop),(∀m pre o l X,I m pre o l->Nx pre o (l++X))->
  (∀m pre x l X,I m pre (some x) l->MX P r (enc x) (l++X) (λv l'=> ∃l1,l'=l1++X/\((v= .bool true/\ ∃m' o,m'<m/\I m' (pre++[x]) o l1)\/(v= .bool false/\Ix (pre++[x]) l1))))->
  ∀m o l X,I m [] o l->Fn P gf (.func (.yield r) #[] #[]::lb) (l++X) (λv l'=> ∃l1,l'=l1++X/\((∃m xs,I m xs none l1)\/ ∃pre,Ix pre l1))
theorem jm(hg:ev fr g=some (.func (.func gf) #[] lb.toArray))[en:EN P gf]{Nx:List α->Option α->List Ab->Prop}(hit:pG P gf lb enc Nx)(hps: ∀x,(enc x).length=ps.length)(hpb:ps.all (λp=>Nat.blt p N)=true)
 (I:Nat->List α->Option α->List Ab->Prop)(Ix:Code->List α->List Ab->Prop)(l0:List Ab){m0:Nat}{o0:Option α}(hnx: ∀m pre o l X,I m pre o l->Nx pre o (l++X))(hL:Keep L l0)(h0:I m0 [] o0 l0)
 (hround: ∀(E:World) (r:Nat) (rec:LoopState->Option Code->Loop) (m:Nat) (pre:List α) (x:α) (l T:List Ab),(∃fn tmps D,rec=Dz fn tmps ps.toArray assign body D)->I m pre (some x) l->
   BH P (some r) N E assign (Exit.then (Ow P r body (roundPost P r (RK E (JG (λxs l=> ∃m' o,m'<m/\I m' xs o l) Ix (pre++[x]) r rec T)))) (λ_ _ _=>False)) (DG ps (enc x) fr) [] (l++(r,.loop (rec .ready none))::T))
 (hdone: ∀(D:Nat) (m:Nat) (xs:List α) (l:List Ab),I m xs none l->CO N E Q .normal fr (GU D::ds) (Cf D::l))
 (hstop: ∀(D:Nat) (c:Code) (pre:List α) (l:List Ab),Ix c pre l->BH P none N E c Q fr (GU D::ds) (Cf D::l)):
 BH P none N E (.rangeFunc g ps.toArray assign body) Q fr ds L:=by
 refine D3 hL (W7 hg (λl1=> ∃m xs,I m xs none l1) (λc l1=> ∃pre,Ix c pre l1) ?_ ?_ ?_)
 ·intro r fn tmps D hf;have hy:=hit.run r (λm pre o l=> ∃l1,I m pre o l1/\l=l1++[SF r fn tmps ps assign body D .ready none,Cf D]) (λpre l=> ∃c l1,Ix c pre l1/\l=l1++[SF r fn tmps ps assign body D .done (some c),Cf D]) (λm pre o l X ⟨l1,h1,h2⟩=>by rw[h2,Am];exact hnx _ _ _ _ _ h1) (λm pre x l X ⟨l1,h1,h2⟩=>by
   subst h2;have hy:=Ri (P:=P) (N:=N) (fr:=fr) (assign:=assign) (body:=body) (ps:=ps) (enc:=enc) (r:=r) (fn:=fn) (tmps:=tmps) (D:=D) (T:=Cf D::X) (I:=λxs l=> ∃m' o,m'<m/\I m' xs o l) (Ix:=Ix) (pre:=pre) (x:=x) (l:=l1) (hps x) hpb hf (λE'=>hround E' r _ m pre x l1 (Cf D::X) ⟨fn,tmps,D,rfl⟩ h1);refine⟨λE' W' hs'=>?_⟩;have e:l1++[SF r fn tmps ps assign body D .ready none,Cf D]++X=l1++SF r fn tmps ps assign body D .ready none::Cf D::X:=by simp
   rw[e] at hs';obtain⟨fn',tm,asg,bo,k1,k2⟩:=hy.run E' W' hs';refine⟨fn',tm,asg,bo,k1,k2.mono ?_⟩;rintro e' W'' ⟨v,l',rfl,hk,hs''⟩;refine⟨v,l',rfl,?_,hs''⟩;rcases hk with⟨hv,l2,⟨m',o,hm,hI⟩,rfl⟩|⟨hv,c,l2,hI,rfl⟩
   ·exact⟨l2++[SF r fn tmps ps assign body D .ready none,Cf D],by simp,.inl ⟨hv,m',o,hm,l2,hI,rfl⟩⟩
   ·exact⟨l2++[SF r fn tmps ps assign body D .done (some c),Cf D],by simp,.inr ⟨hv,c,l2,hI,rfl⟩⟩) m0 o0 (l0++[SF r fn tmps ps assign body D .ready none,Cf D]) [] ⟨l0,h0,rfl⟩
  refine Fn.re (.of_perm ?_) hy ?_
  ·rw[Bf];exact Ey (l₁:=[SF r fn tmps ps assign body D .ready none,Cf D]) (l₂:=l0)
  rintro v l' ⟨l1,rfl,⟨m,xs,l2,h1,rfl⟩|⟨pre,c,l2,h1,rfl⟩⟩
  ·refine⟨SF r fn tmps ps assign body D .ready none::Cf D::l2,.of_perm ?_,.inl ⟨l2,⟨m,xs,h1⟩,rfl⟩⟩;rw[Bf];exact Ey (l₁:=l2) (l₂:=[SF r fn tmps ps assign body D .ready none,Cf D])
  ·refine⟨SF r fn tmps ps assign body D .done (some c)::Cf D::l2,.of_perm ?_,.inr ⟨c,l2,⟨pre,h1⟩,rfl⟩⟩;rw[Bf];exact Ey (l₁:=l2) (l₂:=[SF r fn tmps ps assign body D .done (some c),Cf D])
 ·rintro D l ⟨m,xs,h1⟩;exact hdone D m xs l h1
 ·rintro D c l ⟨pre,h1⟩;exact hstop D c pre l h1
end
section
variable{fr:Fr}{l:List Ab}{K:Value->List Ab->Prop}{d:Option Nat}{aft:Array Edge}
theorem nT{xs:List Operand}{at_:Array TypeId}(hx:ev fr x=some (.func (.func f) #[] (toArray cs)))(hy:Qm fr xs=some vs)[c:EN P f](h:Fn P f (vs++cs) l K):OpE P ro N fr l ⟨d,.call {callee:= .value x,args:=xs.toArray,argTypes:=at_},ty,pos,aft,g⟩ K:=Da hx hy (by simpa using h)
end
def K8(i j:Int):Int:=IntKind.i64.wrap (((BitVec.ofInt 64 i)&&& (BitVec.ofInt 64 j)).toNat:Int)
theorem JW{fr:Fr}{R:List Ab}{d:Option Nat}{t2:TypeId}{aft:Array Edge}{i j:Int}(hx:ev fr x=some (.int .i64 i))(hy:ev fr y=some (.int .i64 j)):OpQ P ro N fr R ⟨d,.binOp .and t x y t2,ty,pos,aft,g⟩ (.int .i64 (K8 i j)):=
 Ik hx hy (λ_ _=>CZ _ _ _ _ _) (by simp only[binOp,Op.intBits];rfl)
end Go.Proofs.YtlkgekpmileobaaGreat
namespace Go.Proofs.YtlkgekpmileobaaGreat
open Tryz
open List(toArray)
open Go.RowKit Go.Lib
section
variable{P:Program}{ro:Option Nat}{N:Nat}{fr:Fr}{l:List Ab}{d:Option Nat}{ty:TypeId}{pos:String}{aft:Array Edge}{g:Option (Nat×Bool)}
theorem dB{R:List Ab}{s x:Operand}{p q:Option Addr}{T e kk yb n cap cp:Nat}(hs:ev fr s=some (.slice p n cap))(hx:ev fr x=some (.slice q 0 cp))[c:ST P T e kk yb](hn:n<=cap):
 OpQ P ro N fr R ⟨d,.call {callee:= .builtin .append,args:=#[s,x],argTypes:=#[T,T]},ty,pos,aft,g⟩ (.slice p n cap):=BK rfl λρ l hρ _=>by
 obtain⟨inf,u1,u2,_⟩:=EH c.out;simp only[execOp,resolve,AB,Bj,invoke,builtin,C5,AI,CI,hρ s _ hs,hρ x _ hx];unfold Builtin.append_;simp only[AC,CY,CX,AB];rw[EC u1];simp only;rw[EP u2];simp only[AB];rw[EC u1];simp only[Bj,Bi,CR,Builtin.lenOf,GO,CT,CH,Ad hn,AB,Builtin.firstCells];cases q with
 |none=>
  cases p with
  |none=>exact⟨rfl,rfl⟩
  |some a=>exact⟨rfl,rfl⟩
 |some a'=>
  simp only[Gb,loadCells,loadCellsFrom,Bj];cases p with
  |none=>exact⟨rfl,rfl⟩
  |some a=>exact⟨rfl,rfl⟩
end
end Go.Proofs.YtlkgekpmileobaaGreat
namespace Go.Proofs.YtlkgekpmileobaaGreat
open Tryz
open List(toArray)
open Go.RowKit
variable{P:Program}{ro:Option Nat}{N k e n:Nat}{cs:List Ab}{a b:Ab}{E:World}{Q:Exit->Act->World->Prop}{ds:List Deferred}{ty:TypeId}{pos:String}{x:Operand}{v:Value}{xs:List Value}{c:Code}{p:Prop}{Γ:List Ab->List Ab}
theorem PY{fr:Fr}{F:List Ab}{d:Option Nat}{aft:Array Edge}{g:Option (Nat×Bool)}{s:Operand}{vx:Value}{T yb m:Nat}{ys zs:List Value}{cw:List Ab}(hs:ev fr s=some v)(hx:ev fr x=some vx)[c:ST P T e k yb][cz:ZV P e zs](hzs:zs.length=k)(ho:OwnSl e k v n xs cs)(ho2:OwnSl e k vx m ys cw)(h1: ∀u∈ys,u.oneCell'=true)(hn:n<=1000000)(hm:m<=1000000)(hby:yb<=1000):
 OpE P ro N fr (cs++(cw++F)) ⟨d,.call {callee:= .builtin .append,args:=#[s,x],argTypes:=#[T,T]},ty,pos,aft,g⟩ (λv' l'=> ∃c2,OwnSl e k v' (n+m) (xs++ys) c2/\l'=c2++(cw++F)):=by
 have hb:(n+m)*yb<=140737488355328:=by have:=IB (show n+m<=2000000 by omega) hby;omega
 by_cases h0:m=0
 ·subst h0;obtain⟨pp,cap,hv⟩:=ho.shape;obtain⟨p2,cap2,hv2⟩:=ho2.shape;subst hv hv2;have hle:n<=cap:=by
   rcases ho.2 with⟨e1,e2,_⟩|⟨b,c2,sp,e1,_,e2,_⟩
   ·omega
   ·cases e1;exact e2
  have hy:ys=[]:=DY (by rw[ho2.1,Gb]);subst hy;have hq:=dB (P:=P) (ro:=ro) (N:=N) (R:=[]) (d:=d) (ty:=ty) (pos:=pos) (aft:=aft) (g:=g) (T:=T) hs hx hle;refine(hq.run (cs++(cw++F)) λc hc=>by cases hc).mono ?_;rintro _ _ ⟨rfl,rfl⟩;exact⟨cs,by rw[Bf];exact ho,rfl⟩
 ·obtain⟨hl,⟨_,h2,_⟩|⟨b,cap,sp,rfl,rfl,h3,h4,h5⟩⟩:=ho2
  ·exact absurd h2 h0
  exact F4 (k:=k) (yb:=yb) (news:=ys) (zs:=zs) (m:=m) hs hx hzs ho (Aa _ (.head _)) (λj u hj=>by rw[BC,AC];rw[AF (Ay.1 hj).1];exact hj) hl h1 (by unfold maxLen;omega) hb
theorem To{l:List Ab}(ha:a∈l): ∀x,x∈[a]->x∈l:=by intro x hx;rw[Ax.1 hx];exact ha
theorem uK{l:List Ab}(ha:a∈l)(hb:b∈l): ∀x,x∈[a,b]->x∈l:=by
 intro x hx;simp only[Ap,BQ,Eo] at hx;rcases hx with rfl|rfl
 ·exact ha
 ·exact hb
def rq:Code->Nat
 | .skip=>0
 | .region ..=>1
 | .seq ..=>3
 | .cond ..=>4
 | .block ..=>5
 | .loop ..=>6
 | .rangeFunc ..=>7
 | .exit ..=>8
 | .scope ..=>9
 | .label ..=>10
 |_=>11
def yO:Code->Code
 | .seq a _=>a
 |c=>c
def yP:Code->Code
 | .seq _ b=>b
 |c=>c
def yd:Code->Code
 | .cond _ a _=>a
 |c=>c
def ye:Code->Code
 | .cond _ _ b=>b
 |c=>c
def sR:Code->Operand
 | .cond o _ _=>o
 |_=> .tmp 0
def sS:Code->Nat
 | .cond (.tmp t) _ _=>t
 |_=>0
def yQ:Code->Code
 | .block _ x=>x
 | .loop x=>x
 | .scope x=>x
 |c=>c
def yR:Code->Nat
 | .block k _=>k
 |_=>0
def yS:Code->Operand
 | .rangeFunc g _ _ _=>g
 |_=> .tmp 0
def yT:Code->List Tmp
 | .rangeFunc _ ps _ _=>ps.toList
 |_=>[]
def yU:Code->Code
 | .rangeFunc _ _ a _=>a
 |c=>c
def yV:Code->Code
 | .rangeFunc _ _ _ b=>b
 |c=>c
section
variable{fr:Fr}{l:List Ab}
theorem rr(hc:rq c=3)(h:BH P ro N E (yO c) (Exit.then ((yP c).wpIn (Fw ro) 0 P Q) Q) fr ds l):BH P ro N E c Q fr ds l:=by cases c<;>first|exact Zx h|cases hc
theorem jn(hc:rq c=5)(h:BH P ro N E (yQ c) (Exit.inBlock (yR c) Q) fr ds l):BH P ro N E c Q fr ds l:=by cases c<;>first|exact OS h|cases hc
theorem jo(hc:rq c=7)(h:BH P ro N E (.rangeFunc (yS c) (yT c).toArray (yU c) (yV c)) Q fr ds l):BH P ro N E c Q fr ds l:=by cases c<;>first|exact h|cases hc
theorem jp(hc:rq c=4)(hv:ev fr (sR c)=some (.bool true))(h:BH P ro N E (yd c) Q fr ds l):BH P ro N E c Q fr ds l:=by cases c<;>first|exact Lt hv h|cases hc
theorem jq(hc:rq c=4)(hv:ev fr (sR c)=some (.bool false))(h:BH P ro N E (ye c) Q fr ds l):BH P ro N E c Q fr ds l:=by cases c<;>first|exact Lu hv h|cases hc
theorem ru{ip:Decidable p}(hc:rq c=4)(ho:sR c= .tmp (sS c))(hv:BU fr (sS c)=some (.bool (@decide p ip)))(hp:p)(h:BH P ro N E (yd c) Q ((sS c,.bool true)::fr) ds l):BH P ro N E c Q fr ds l:=by
 cases c with
 |cond o a b=>simp only[sR] at ho;rw[ho];exact Rg hv hp h
 |_=>cases hc
theorem rv{ip:Decidable p}(hc:rq c=4)(ho:sR c= .tmp (sS c))(hv:BU fr (sS c)=some (.bool (@decide p ip)))(hp:¬p)(h:BH P ro N E (ye c) Q ((sS c,.bool false)::fr) ds l):BH P ro N E c Q fr ds l:=by
 cases c with
 |cond o a b=>simp only[sR] at ho;rw[ho];exact Rh hv hp h
 |_=>cases hc
theorem W9{f:FuncId}{fn:Func}{args:List Value}{K:Value->List Ab->Prop}(hf:P.funcs[f]?=some fn)(hb:fn.body.isSome=true)(hn:Nat.ble args.length fn.ntmps=true)
 (h: ∀E,BH P none fn.ntmps E (fn.body.getD .skip) (bodyPostM Fence.wide 0 P fn (RK E K)) (UC 0 args) [] l):Fn P f args l K:=by
 cases hb2:fn.body with
 |none=>rw[hb2] at hb;cases hb
 |some c=>exact Rd hf hb2 hn (by rw[hb2] at h;exact h)
end
theorem KF{H G:Prop}(k:H)(h:Bx H->G:=by(intro k;(repeat(first|(show Dk _ _ _ _ _ _ (_::_) _ _ _;first|refine vL ?_|refine vM ?_|refine ozs0 ?_|refine vO ?_|refine vP ?_|refine qh rfl rfl rfl rfl rfl rfl ?_|refine wv ?_)|refine rr rfl ?_|refine MY ?_|refine OT ?_|refine Tu ?_|refine jp rfl rfl ?_|refine jq rfl rfl ?_|refine jn rfl ?_|refine UD ?_|refine Rb ?_|refine OV ?_|refine KM ?_|refine IH ?_|refine LT rfl ?_|refine Zy ?_|refine LS ?_|refine KO ?_|refine c_scopeP rfl ?_|refine Qy ?_|refine Qz ?_|refine KP ?_|refine p_scope_exit ?_|refine ZA ?_|refine ru rfl rfl rfl Af ?_|refine rv rfl rfl rfl Af ?_));exact k.h)):G:=h ⟨k⟩
set_option maxRecDepth 20000
section
variable{Q':Exit->Act->World->Prop}{fr:Fr}{l:List Ab}{e:Exit}
theorem rx(h: ∀Q',(∀e a W,Q e a W->Q' e a W)->BH P ro N E c Q' fr ds l):BH P ro N E c Q fr ds l:=h Q λ_ _ _ h=>h
theorem uL(hQ: ∀e a W,Q e a W->Q' e a W)(h:CO N E Q e fr ds l):CO N E Q' e fr ds l:=⟨λa W h1 h2 h3=>hQ _ _ _ (h.run a W h1 h2 h3)⟩
end
theorem Q3(h:OwnSl e k v n xs cs):v.oneCell'=true:=by obtain⟨_,_,h⟩:=h.shape;rw[h];rfl
theorem Up{c:Ab}{l:List Ab}(ha:a∈l)(hb:b∈l)(hc:c∈l): ∀x,x∈[a,b,c]->x∈l:=by
 intro x hx;simp only[Ap,BQ,Eo] at hx;rcases hx with rfl|rfl|rfl
 ·exact ha
 ·exact hb
 ·exact hc
section
variable{F C:Nat}{S:KT}{p:RP}{s:RL}{b:Nat}{G:List Ab}
theorem GD{L:List Ab}(hT:Tail L (cs++G)): ∃L',Tail L' G/\(Aw b p s S L).Perm (cs++Aw b p s S L'):=by obtain⟨X,rfl⟩:=hT;exact⟨X++G,⟨X,rfl⟩,by unfold Aw;exact BR⟩
instance:QF prog 144 [pV b] [Cw b p] (pV p.h):=⟨λl hl=>DK b p l (hl _ (.head _))⟩
instance:EK prog F C b p 73 [pV b] k S k (.tuple #[]) (K7 S):=⟨λs G h=>jc h⟩
instance:QF prog 263 [pV b] [Cw b p] (pV p.e):=⟨λl hl=>Ue b p l (hl _ (.head _))⟩
variable{ops:Array Oper}{fr:Fr}{l R:List Ab}{x0:Value}{d f k' i:Nat}{xs:List Operand}{vs:List Value}{at_:Array TypeId}{aft:Array Edge}{S':KT}{tbl:List (List Nat)}{pl:List BF}
theorem sU(hR: ∀S1 s' L,∀c,c∈R->c∈Γ (Aw b p s' S1 L))(hk: ∀S1 s' L,S1=S'->IsK F C k' S1 p s'->Tail L G->Cw b p∈Aw b p s' S1 L->PlanS P ro N E ops Q R tbl none [] pl ((d,x0)::fr) ds (Γ (Aw b p s' S1 L)))(hx:ev fr x=some (.func (.func f) #[] #[]):=by rfl)(hy:Qm fr xs=some vs:=by rfl)(hF:Fr1 (Aw b p s S G) l Γ:=by exact Z9)(c:EN P f:=by infer_instance)(hK:IsK F C k S p s:=by infer_instance)(q:EK P F C b p f vs k S k' x0 S':=by infer_instance)(hb:Nat.blt d N=true:=by rfl):PlanS P ro N E ops Q R tbl none [] ((i,false,⟨some d,.call {callee:= .value x,args:=xs.toArray,argTypes:=at_},ty,pos,aft,none⟩)::pl) fr ds l:=
 CM (Az hx hy (q.on hK hF)) rfl rfl hb (λv l' ⟨h1,s',L,h2,h3,h4⟩ c hc=>by rw[h4];exact hR S' s' L c hc) λv l' ⟨h1,s',L,h2,h3,h4⟩=>by rw[h1,h4];exact hk S' s' L rfl h2 h3 (mR λ_ h=>h)
theorem wY{j dj:Nat}{oj:Oper}{w:Bool}(hR: ∀S1 s' L,∀c,c∈R->c∈Γ (Aw b p s' S1 L))(hk: ∀S1 s' L,S1=S'->IsK F C k' S1 p s'->Tail L G->Cw b p∈Aw b p s' S1 L->PlanS P ro N E ops Q R tbl none [] pl ((d,x0)::fr) ds (Γ (Aw b p s' S1 L)))(hx:ev fr x=some (.func (.func f) #[] #[]):=by rfl)(hy:Qm fr xs=some vs:=by rfl)(hF:Fr1 (Aw b p s S G) l Γ:=by exact Z9)(c:EN P f:=by infer_instance)(hK:IsK F C k S p s:=by infer_instance)(q:EK P F C b p f vs k S k' x0 S':=by infer_instance)(hb:Nat.blt d N=true:=by rfl)(hj:ops[j]?=some oj:=by rfl)(hjd:oj.dst=some dj:=by rfl)(hbg:BU fr dj=some (.bool w):=by rfl):PlanS P ro N E ops Q R tbl none [] ((i,false,⟨some d,.call {callee:= .value x,args:=xs.toArray,argTypes:=at_},ty,pos,aft,some (j,w)⟩)::pl) fr ds l:=
 tF (Az hx hy (q.on hK hF)) rfl hj hjd hbg rfl hb (λv l' ⟨h1,s',L,h2,h3,h4⟩ c hc=>by rw[h4];exact hR S' s' L c hc) λv l' ⟨h1,s',L,h2,h3,h4⟩=>by rw[h1,h4];exact hk S' s' L rfl h2 h3 (mR λ_ h=>h)
end
end Go.Proofs.YtlkgekpmileobaaGreat
