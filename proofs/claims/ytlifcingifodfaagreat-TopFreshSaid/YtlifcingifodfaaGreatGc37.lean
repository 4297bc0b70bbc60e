/- Laws that the statement's proof leans on (joined out of several texts). -/
import Derived.Test.YtlifcingifodfaaGreatGc36
set_option maxHeartbeats 4000000
set_option linter.unusedVariables false
set_option linter.unusedSimpArgs false
namespace Go.Proofs.YtlifcingifodfaaGreat
open Tryz
open List(toArray)
open Go.RowKit
set_option maxRecDepth 20000
variable{S:KT}{s:RL}{k F C b j N i n bv cap:Nat}{p:RP}{G L2 lo l:Ad}{U:A4}{P:Program}{E:World}{Q:Exit->Act->World->Prop}{ds:List Deferred}{sp:Ap}{id:Int}
instance{F C k:Nat}{S:KT}{p:RP}{b:Nat}{id:Int}:EK prog F C b p 203 [pV b,.int .i64 id] k S k (iV (IN S id).1) (IN S id).2:=⟨λs G h=>wM h id⟩
section
variable{α:Type}
def rM(F C b:Nat)(p:RP)(G:Ad)(J:List α->Nat->KT->Ad->Prop)(pre:List α)(l:Ad):Prop:= ∃lo k S s L,J pre k S lo/\IsK F C k S p s/\Tail L G/\l=lo++Aw b p s S L
def rN(F C b:Nat)(p:RP)(G:Ad)(J:Code->List α->Nat->KT->Ad->Prop)(c:Code)(pre:List α)(l:Ad):Prop:= ∃lo k S s L,J c pre k S lo/\IsK F C k S p s/\Tail L G/\l=lo++Aw b p s S L
variable{fr:Fr}{L0:Ad}{g:Operand}{ps:List Tmp}{assign body:Code}{gf:Nat}{lb:Ap}{enc:α->Ap}{Sx Sp:List α->Prop}{Need:List α->Ad->Prop}
theorem Uo(hg:ev fr g=some (.func (.func gf) #[] lb.toArray))[en:EN P gf](hit:FA P gf lb enc Sx Sp Need)(Nt: ∀x,(enc x).length=ps.length)(je:ps.all (λp=>Nat.blt p N)=true)
 (J:List α->Nat->KT->Ad->Prop)(JX:Code->List α->Nat->KT->Ad->Prop)(Ca: ∀pre lo k S s L X,J pre k S lo->IsK F C k S p s->Need pre ((lo++Aw b p s S L)++X))(hL:Keep L0 (lo++Aw b p s S G))(h0:J [] k S lo)(hK:IsK F C k S p s)
 (MI: ∀(E:World) (r:Nat) (FS:LoopState->Option Code->Loop) (pre:List α) (x:α) (lo:Ad) (k:Nat) (S:KT) (s:RL) (L T:Ad),(∃fn tmps D,FS=DN fn tmps ps.toArray assign body D)->Tail L G->J pre k S lo->IsK F C k S p s->Sp (pre++[x])->CD b p∈Aw b p s S (L++T)->
   BN P (some r) N E assign (Exit.then (Px P r body (roundPost P r (RK E (Kg (rM F C b p G J) (rN F C b p G JX) (pre++[x]) r FS T)))) (λ_ _ _=>False)) (DU ps (enc x) fr) [] (lo++(r,.loop (FS .ready none))::Aw b p s S (L++T)))
 (NL: ∀(D:Nat) (xs:List α) (lo:Ad) (k:Nat) (S:KT) (s:RL) (L:Ad),Sx xs->J xs k S lo->IsK F C k S p s->Tail L G->CD b p∈Aw b p s S L->CU N E Q .normal fr (Hq D::ds) (Cm D::(lo++Aw b p s S L)))
 (Kn: ∀(D:Nat) (c:Code) (pre:List α) (lo:Ad) (k:Nat) (S:KT) (s:RL) (L:Ad),Sp pre->JX c pre k S lo->IsK F C k S p s->Tail L G->CD b p∈Aw b p s S L->BN P none N E c Q fr (Hq D::ds) (Cm D::(lo++Aw b p s S L))):
 BN P none N E (.rangeFunc g ps.toArray assign body) Q fr ds L0:=by
 refine Df hg hit Nt je (rM F C b p G J) (rN F C b p G JX) (lo++Aw b p s S G) [] (λpre l X _ h=>by obtain⟨lo,k,S,s,L,h1,h2,_,rfl⟩:=h;exact Ca _ _ _ _ _ _ _ h1 h2) (by rw[Bi];exact hL) ⟨lo,k,S,s,G,h0,hK,.nil,rfl⟩ ?_ ?_ ?_
 ·rintro E r FS pre x l T hr-⟨lo,k,S,s,L,h1,h2,h3,rfl⟩ DB;refine Em (.of_perm ?_) (MI E r FS pre x lo k S s L T hr h3 h1 h2 DB (mR λ_ h=>h));unfold Aw;exact B0
 ·rintro D xs l hS ⟨lo,k,S,s,L,h1,h2,h3,rfl⟩;rw[Bi];exact NL D xs lo k S s L hS h1 h2 h3 (mR λ_ h=>h)
 ·rintro D c pre l hS ⟨lo,k,S,s,L,h1,h2,h3,rfl⟩;rw[Bi];exact Kn D c pre lo k S s L hS h1 h2 h3 (mR λ_ h=>h)
variable{r:Nat}{fn:FuncId}{tmps:Array Value}{pt:Array Tmp}{D:Nat}{J:List α->Nat->KT->Ad->Prop}{JX:Code->List α->Nat->KT->Ad->Prop}{xs:List α}{L T Lst:Ad}
theorem ee{o:Obj}(hk:Keep Lst (lo++(r,o)::Aw b p s S L2))(hT:Tail L2 (L++T)): ∃X,Keep Lst ((lo++Aw b p s S (X++L))++(r,o)::T):=by obtain⟨X,rfl⟩:=hT;refine⟨X,hk.trans (.of_perm ?_)⟩;unfold Aw;exact B0
theorem iv(lo:Ad)(hk:Keep Lst (lo++(r,.loop (DN fn tmps pt assign body D .busy none))::Aw b p s S L2))(hJ:J xs k S lo)(hT:Tail L2 (L++T):=by exact zTl)(hL:Tail L G:=by assumption)(hK:IsK F C k S p s:=by infer_instance):CU N E (roundPost P r (RK E (Kg (rM F C b p G J) (rN F C b p G JX) xs r (DN fn tmps pt assign body D) T))) .normal fr ds Lst:=by obtain⟨X,h⟩:=ee hk hT;exact Cg _ h ⟨lo,k,S,s,X++L,hJ,hK,hL.step X,rfl⟩
theorem rO(lo:Ad)(hk:Keep Lst (lo++(r,.loop (DN fn tmps pt assign body D .busy none))::Aw b p s S L2))(hJ:JX .ret xs k S lo)(hT:Tail L2 (L++T):=by exact zTl)(hL:Tail L G:=by assumption)(hK:IsK F C k S p s:=by infer_instance):CU N E (roundPost P r (RK E (Kg (rM F C b p G J) (rN F C b p G JX) xs r (DN fn tmps pt assign body D) T))) .ret fr ds Lst:=by obtain⟨X,h⟩:=ee hk hT;exact EC _ h ⟨lo,k,S,s,X++L,hJ,hK,hL.step X,rfl⟩
end
abbrev NA(bv:Nat)(U:A4)(sp:Ap):Bg:=(bv,.cells (toArray (U.map CN++sp)) 3 (0,0))
section
theorem IsK.cur(h:IsK F C k S p s): ∃bv cap sp,p.v= .slice (some ⟨bv,0,none⟩) C cap/\s.V=[NA bv S.U sp]/\C<=cap/\cap<=maxLen/\C+sp.length=cap:=by
 obtain⟨h1,⟨_,h0,_⟩|⟨bv,cap,sp,e1,e2,z1,z2,z3⟩⟩:=h.cu
 ·have:=h.c1;omega
 ·exact⟨bv,cap,sp,e1,e2,z1,z2,by rw[Ah,h1] at z3;omega⟩
theorem lfV{k' f:Nat}{vs:Ap}{x:Value}{U':A4}(hK:IsK F C k S p s)(hk:k'<=k)(hl:U'.length=S.U.length)(h: ∀bv cap sp G,p.v= .slice (some ⟨bv,0,none⟩) C cap->CD b p∈G->(∀c,c∈s.T->c∈G)->Fn prog f vs (NA bv S.U sp::G) λv l'=>v=x/\ ∃X,l'=X++NA bv U' sp::G):Fn prog f vs (Aw b p s S G) (KK F C b p k' x {S with U:=U'} G):=by
 obtain⟨bv,cap,sp,e1,e2,z1,z2,z3⟩:=hK.cur;have ho:OwnSl 3 1 p.v C (U'.map CN) [NA bv U' sp]:=⟨by rw[A7,hl,hK.ul];omega,.inr ⟨bv,cap,sp,e1,rfl,z1,z2,by rw[Ah,A7,hl,hK.ul];omega⟩⟩
 exact Fn.re (.of_perm (by unfold Aw;rw[e2];exact B0)) (h bv cap sp (CD b p::As.asA p.n S.N::(s.M++(s.C++(s.A++(s.H++(s.T++(s.Q++(s.E++G)))))))) e1 (.head _) (λc hc=>by simp[hc])) λv l' ⟨g1,X,g2⟩=>⟨Aw b p {s with V:=[NA bv U' sp]} {S with U:=U'} (X++G),by rw[g2];unfold Aw;exact A8 [],g1,{s with V:=[NA bv U' sp]},_,{hK.mono hk with cu:=ho,ul:=hl.trans hK.ul},⟨X,rfl⟩,rfl⟩
theorem RB(h:i<U.length):(toArray (U.map CN++sp))[i]?=some (.int .i64 (U.getD i 0)):=by rw[AF,AB (by simpa using h),A5,Al h,List.getD,Al h];rfl
theorem uk(h:i<U.length)(v:Int):(toArray (U.map CN++sp)).setIfInBounds i (CN v)=toArray ((U.set i v).map CN++sp):=by rw[Bw,Hl _ _ (by simpa using h),HN]
def LZ(U:A4)(core:Int):Int:=if core<0\/core>=U.length then 0 else U.getD core.toNat 0
theorem eg{x:Nat}{pre:List Nat}(h:pre++[x]<+:List.range n)(hj:pre.length=j):x=j/\j<n/\pre=List.range j:=by
 have h4:=h.length_le;rw[Ah,Fc,Bs] at h4;obtain⟨t,ht⟩:=h;have e:(pre++[x])=List.range (j+1):=by have:=BO (List.take (j+1)) ht;rw[List.take_append_of_le_length (by simp;omega),Bz (by simp;omega),GV,ES Af] at this;exact this
 rw[CA] at e;have:=JD e rfl;exact⟨by simpa using this.2,Af,this.1⟩
theorem AaY(hK:IsK F C k S p s)(core:Int)(l:Ad)(hl: ∀c,c∈Aw b p s S G->c∈l):Fn prog 104 [pV b,.int .i64 core] l λv l'=>v=iV (LZ S.U core)/\l'=l:=by
 obtain⟨bv,cap,sp,e1,e2,z1,z2,z3⟩:=hK.cur;have hC:=hK.c1;have ZL:=hK.ul;have mr:CD b p∈l:=mR hl;have mv:NA bv S.U sp∈l:=mV hl _ (by rw[e2];simp);refine AO func104 ntmps104 λE=>?_;refine AQ λb3=>?_;refine AQ λb4=>?_;refine AR (AA rfl rfl (O6 b _)) ?_;rintro _ _ ⟨B,rfl,rfl⟩;refine Aj ?_;refine Df (α:=Nat) (ps:=[9,10]) (lb:=[pV B]) rfl (Nc B b p bv C cap Af e1) (λ_=>rfl) rfl
  (λpre l=>(∀x:Nat,x∈pre->¬(x:Int)=core)/\l=[rB B b,BP b4 0,BP b3 core])
  (λc pre l=>c= .ret/\ ∃x:Nat,x<C/\(x:Int)=core/\l=[BP b4 (S.U.getD x 0)])
  [rB B b,BP b4 0,BP b3 core] l (λpre l2 X hX h=>⟨by rw[h.2];exact Ai _ (.head _),Aa _ (hX _ mr)⟩) (by exact AU) ⟨λ_ h=>(nomatch h),rfl⟩ ?_ ?_ ?_
 ·rintro E r0 FS pre x l' X ⟨fn,tmps,D,rfl⟩ hX ⟨hn,rfl⟩ DB;obtain⟨rfl,hx,_⟩:=eg DB rfl;have mX:=hX _ mv;have c0:=RB (U:=S.U) (sp:=sp) (i:=pre.length) Af;simp only[DU,Ae,Ag,Dq];refine Aj ?_;refine CH (by exact DX) ?_;refine Aj ?_;by_cases h:((pre.length:Nat):Int)=core
  ·refine Aj ?_;refine EC [BP b4 (S.U.getD pre.length 0)] (by exact AU) ⟨rfl,pre.length,hx,h,rfl⟩
  ·refine Aj ?_;exact Cg [rB B b,BP b4 0,BP b3 core] (by exact AU) ⟨λz hz=>by
    rcases AH.1 hz with hz|hz
    ·exact hn z hz
    ·rw[AE.1 hz];exact h,rfl⟩
 ·rintro D xs l' rfl ⟨hn,rfl⟩;have e0:LZ S.U core=0:=by
   unfold LZ
   split
   ·rfl
   ·rename_i h;exact absurd (show((core.toNat:Nat):Int)=core by omega) (hn core.toNat (by simp;omega))
  rw[e0];simp only[Ae,Ag];refine Aj ?_;exact AV [D] _ rfl (l':=l) (by exact AU) (by exact Ba) (by exact AU) ⟨rfl,rfl⟩
 ·rintro D c pre l' DB ⟨rfl,x,hx,rfl,rfl⟩;have e0:LZ S.U (x:Nat)=S.U.getD x 0:=by unfold LZ;rw[Ab Af,AY]
  rw[e0];simp only[Ae,Ag];refine Aj ?_;exact AV [D] _ rfl (l':=l) (by exact AU) (by exact Ba) (by exact AU) ⟨rfl,rfl⟩
instance[h:IsK F C k S p s]{core:Int}:QF prog 104 [pV b,.int .i64 core] (Aw b p s S G) (iV (LZ S.U core)):=⟨λl hl=>AaY h core l hl⟩
def NB(U:A4)(core id:Int)(j:Nat):A4:=(U.take j).mapIdx (λi x=>if(i:Int)=core then id else if x=id then 0 else x)++U.drop j
def NC(S:KT)(core id:Int):Int×KT:=if core<0\/core>=S.U.length then(3,S) else if Ps S id=false/\¬id=0 then(2,S) else(0,{S with U:=NB S.U core id S.U.length})
theorem Y3(U:A4)(core id:Int)(j:Nat):(NB U core id j).length=U.length:=by unfold NB;simp;omega
theorem iw{core:Int}(h:j<U.length):(NB U core id j).getD j 0=U.getD j 0/\NB U core id (j+1)=(NB U core id j).set j (if(j:Int)=core then id else if U.getD j 0=id then 0 else U.getD j 0):=by
 have e1:U.drop j=U.getD j 0::U.drop (j+1):=by rw[Dh h,List.getD,Al h];rfl
 have e2:U.take (j+1)=U.take j++[U.getD j 0]:=by rw[Cf,List.getD,Al h];rfl
 have ln:((U.take j).mapIdx λi x=>if(i:Int)=core then id else if x=id then 0 else x).length=j:=by simp;omega
 unfold NB;constructor
 ·rw[List.getD,AN (by rw[ln];omega),ln,DR,e1];rfl
 ·rw[e2,e1,Cs _ _ (by rw[ln];omega),ln,DR,List.mapIdx_append,Am];simp[ES (Nat.le_of_lt h)]
end
theorem Y4(h:j<U.length):U.set j (U.getD j 0)=U:=by
 refine Dl λi=>?_;rw[G8]
 split
 ·rename_i e;subst e;simp[h]
 ·rfl
section
theorem AaZ(hK:IsK F C k S p s)(core id:Int):Fn prog 103 [pV b,.int .i64 core,.int .i64 id] (Aw b p s S G) (KK F C b p k (iV (NC S core id).1) (NC S core id).2 G):=by
 have hC:=hK.c1;have ZL:=hK.ul;have key:(NC S core id).2={S with U:=(NC S core id).2.U}:=by unfold NC;(repeat' split)<;>rfl
 rw[key];refine lfV hK (Bd _) (by unfold NC;(repeat' split)<;>first|rfl|exact Y3 _ _ _ _) λbv cap sp G e1 mr mt=>?_;have QT: ∀l2,(∀c,c∈G->c∈l2)->Fn prog 95 [pV p.t,.int .i64 id] l2 _:=λl2 h2=>Th.get_any p.t S.T s.T hK.th id l2 λc hc=>h2 _ (mt c hc);have nC:CD b p=(b,.cells (toArray [pV p.m,pV p.c,pV p.a,pV p.h,pV p.n,pV p.t,pV p.q,pV p.e,.slice (some ⟨bv,0,none⟩) C cap]) 162 (0,0)):=by unfold CD;rw[e1]
 have HP:=mr;rw[nC] at HP;refine AO func103 ntmps103 λE=>?_;refine AQ λb4=>?_;refine AQ λb5=>?_;refine It ?_;by_cases hb:core<0\/core>=C
 ·rw[show NC S core id=(3,S) by unfold NC;rw[ZL,Ac hb]];by_cases h1:core<0<;>by_cases h2:core>=C;all_goals first
   |(exfalso;omega)
   |(refine BS ?_
     refine Aj ?_;exact Bb .refl ⟨rfl,[BP b5 id,BP b4 core],rfl⟩)
 refine BS ?_;refine Aj ?_;refine Cx (Cr [9,10] 0 12) ?_;refine CC ?_;refine dl ?_ (AL rfl rfl λl2 h2=>QT l2 λc hc=>h2 _ (.tail _ (.tail _ (.tail _ hc))));refine CC ?_;refine Id e_alloc (by rintro _ _ ⟨_,_,_,rfl⟩ c hc;exact .tail _ hc) ?_;rintro _ _ ⟨b7,_,rfl,rfl⟩;refine CC ?_;obtain⟨t,ht⟩: ∃t,(Th.findH S.T id).getD Th.thZ=t:=⟨_,rfl⟩
 rw[ht];obtain⟨ok,Dm⟩: ∃ok,(Th.findH S.T id).isSome=ok:=⟨_,rfl⟩
 rw[Dm];refine CC ?_;by_cases ZQ:ok=false/\¬id=0
 ·rw[show NC S core id=(2,S) by unfold NC Ps;rw[ZL,Ab hb,Dm,Ac ZQ]];obtain⟨rfl,h0⟩:=ZQ;refine Aj ?_;exact Bb .refl ⟨rfl,[Th.thC b7 t,BP b5 id,BP b4 core],rfl⟩
 rw[show NC S core id=(0,{S with U:=NB S.U core id C}) by unfold NC Ps;rw[ZL,Ab hb,Dm,Ab ZQ]];cases ok
 case' false=>
  have h0:id=0:=by
   by_cases e:id=0
   ·exact e
   ·exact absurd ⟨rfl,e⟩ ZQ
 all_goals
  refine Aj ?_;refine AR (AA rfl rfl (O6 b _)) ?_;rintro _ _ ⟨B,rfl,rfl⟩;refine Aj ?_;refine Df (α:=Nat) (ps:=[43,44]) (lb:=[pV B]) rfl (Nc B b p bv C cap Af e1) (λ_=>rfl) rfl
   (λpre l=>l=[rB B b,Th.thC b7 t,BP b5 id,BP b4 core,NA bv (NB S.U core id pre.length) sp])
   (λc pre l=>False)
   [rB B b,Th.thC b7 t,BP b5 id,BP b4 core,NA bv S.U sp] G (λpre l2 X hX h=>⟨by rw[h];exact Ai _ (.head _),Aa _ (hX _ mr)⟩) (by exact AU) (by simp[NB]) ?_ ?_ ?_
  ·rintro E r0 FS pre x l' X ⟨fn,tmps,D,rfl⟩ hX rfl DB;obtain⟨rfl,hx,_⟩:=eg DB rfl;obtain⟨j,hj⟩: ∃j,pre.length=j:=⟨_,rfl⟩
   rw[hj] at hx⊢;obtain⟨g1,g2⟩:=iw (core:=core) (id:=id) (U:=S.U) (j:=j) Af;have hlj:j<(NB S.U core id j).length:=by rw[Y3];omega
   have c0:=RB (sp:=sp) hlj;rw[g1] at c0;have us:=uk (sp:=sp) hlj;simp only[DU,Ae,Ag,Dq];refine Aj ?_;refine CH (by exact DX) ?_;refine Aj ?_;by_cases h:((j:Nat):Int)=core
   ·rw[Ac h] at g2;refine Aj ?_;refine ME (Du (b:=bv) (off:=j) (cs:=toArray ((NB S.U core id j).map CN++sp)) rfl rfl rfl (by rw[show(Value.int IntKind.i64 id)=CN id from rfl,us,<-g2];exact DX) (by rw[Bt,Ah,A7];omega)) rfl rfl ?_;rintro _ _ ⟨rfl,rfl⟩;refine Aj ?_;exact Cg [rB B b,Th.thC b7 t,BP b5 id,BP b4 core,NA bv (NB S.U core id (j+1)) sp] (by exact AU) (by simp[hj])
   rw[Ab h] at g2;refine Aj ?_;refine It ?_;by_cases h2:S.U.getD j 0=id
   ·rw[Ac h2] at g2;refine BS ?_;refine Aj ?_;refine ME (Du (b:=bv) (off:=j) (cs:=toArray ((NB S.U core id j).map CN++sp)) rfl rfl rfl (by rw[show(Value.int IntKind.i64 0)=CN 0 from rfl,us,<-g2];exact DX) (by rw[Bt,Ah,A7];omega)) rfl rfl ?_;rintro _ _ ⟨rfl,rfl⟩;refine Aj ?_;exact Cg [rB B b,Th.thC b7 t,BP b5 id,BP b4 core,NA bv (NB S.U core id (j+1)) sp] (by exact AU) (by simp[hj])
   ·rw[Ab h2] at g2;refine BS ?_;refine Aj ?_;exact Cg [rB B b,Th.thC b7 t,BP b5 id,BP b4 core,NA bv (NB S.U core id (j+1)) sp] (by rw[g2,show(NB S.U core id j).set j (S.U.getD j 0)=NB S.U core id j by rw[<-g1];exact Y4 hlj];exact AU) (by simp[hj])
  ·rintro D xs l' rfl rfl;rw[Fc];simp only[Ae,Ag];refine Aj ?_;exact AV [D] _ rfl .refl (by exact Ba) (.drop (.drop (.drop (.drop .refl)))) ⟨rfl,[],rfl⟩
  ·rintro D c pre l' DB h;exact h.elim
instance{core id:Int}:EK prog F C b p 103 [pV b,.int .i64 core,.int .i64 id] k S k (iV (NC S core id).1) (NC S core id).2:=⟨λs G h=>AaZ h core id⟩
end
theorem Zz{A:Ad}(hl: ∀c,c∈A->c∈l): ∀{f:Nat} {vs:Ap} {v:Value} [QF P f vs A v],QF P f vs l v:=by intro f vs v q;exact⟨λl2 h=>q.out l2 λc hc=>h c (hl c hc)⟩
abbrev Ec(S:KT)(x:Ck):CapT:=(getD' S.H.1 x).1
def FW(S:KT)(id:Int):(Int×Int×Int)×Bool:=
 if Ps S id=false then((0,0,0),false)
 else if ¬(getD' S.H.1 (id,1)).2=0\/¬(Ec S (id,1)).kind=5 then((0,0,0),false)
 else if(As.ofP S.N (Ec S (id,1)).obj).2.2=false\/¬(Ar.getD' S.A (Ec S (id,1)).obj).1.kd=5 then((0,0,0),false)
 else(((Ec S (id,1)).obj,(As.ofP S.N (Ec S (id,1)).obj).1,(As.ofP S.N (Ec S (id,1)).obj).2.1),true)
section
theorem rP(hK:IsK F C k S p s)(id:Int)(l:Ad)(hl: ∀c,c∈Aw b p s S G->c∈l):Fn prog 110 [pV b,.int .i64 id] l λv l'=>v= .tuple #[iV (FW S id).1.1,iV (FW S id).1.2.1,iV (FW S id).1.2.2,.bool (FW S id).2]/\l'=l:=by
 have mr:CD b p∈l:=mR hl;have I: ∀{f:Nat} {vs:Ap} {v:Value} [QF prog f vs (Aw b p s S G) v],QF prog f vs l v:=Zz hl;unfold FW Ps;refine AO func110 ntmps110 λE=>?_;refine Aj ?_;refine EI ?_;refine Aj ?_;refine EI ?_;refine AQ λb8=>?_;cases hf:(Th.findH S.T id).isSome with
 |false=>rw[Ac rfl];refine Aj ?_;exact qr
 |true=>
 rw[Ab AZ];refine Aj ?_;refine EI ?_;obtain⟨c,hc⟩: ∃c,(getD' S.H.1 (id,1)).1=c:=⟨_,rfl⟩
 obtain⟨e,he⟩: ∃e,(getD' S.H.1 (id,1)).2=e:=⟨_,rfl⟩
 rw[show Ec S (id,1)=c from hc,hc,he];refine AQ λGX=>?_;by_cases h1:¬e=0\/¬c.kind=5
 ·rw[Ac h1];by_cases h2:e=0<;>by_cases h3:c.kind=5;all_goals first
   |(exfalso;omega)
   |(refine Aj ?_
     exact qr)
 rw[Ab h1];refine Aj ?_;refine It ?_;iterate 6 refine pc ?_
 refine Vs ?_;obtain⟨o,ho⟩: ∃o,As.ofP S.N c.obj=o:=⟨_,rfl⟩
 rw[ho];refine BS ?_;refine Aj ?_;refine Cx (Cr [10,11] 0 13) ?_;refine CC ?_;refine Id e_alloc (by rintro _ _ ⟨_,_,_,rfl⟩ c hc;exact .tail _ hc) ?_;rintro _ _ ⟨Zv,_,rfl,rfl⟩;obtain⟨q,hq⟩: ∃q,(Ar.getD' S.A c.obj).1=q:=⟨_,rfl⟩
 rw[hq];refine CC ?_;by_cases h1:o.2.2=false\/¬q.kd=5
 ·rw[Ac h1];cases h2:o.2.2<;>by_cases h3:q.kd=5;all_goals first
   |(exfalso;simp_all;done)
   |(refine Aj ?_
     exact qr)
 rw[Ab h1];have h2:o.2.2=true:=by simp at h1;exact h1.1
 have h3:q.kd=5:=by simp at h1;exact h1.2
 rw[h2];refine Aj ?_;exact qr
instance[h:IsK F C k S p s]{id:Int}:QF prog 110 [pV b,.int .i64 id] (Aw b p s S G) (.tuple #[iV (FW S id).1.1,iV (FW S id).1.2.1,iV (FW S id).1.2.2,.bool (FW S id).2]):=⟨λl hl=>rP h id l hl⟩
theorem IsK.curAt(h:IsK F C k S p s)(hv:p.v= .slice (some ⟨bv,0,none⟩) C cap): ∃sp,s.V=[NA bv S.U sp]/\C<=cap/\cap<=maxLen/\C+sp.length=cap:=by obtain⟨bv',cap',sp,e1,e2,z1,z2,z3⟩:=h.cur;rw[hv] at e1;injection e1 with e3 e4 e5;injection e3 with e3;injection e3 with e3;subst e3 e5;exact⟨sp,e2,z1,z2,z3⟩
theorem nf{ro:Option Nat}{ops:Array Oper}{A0:List Oper}{fr:Fr}{x y:Operand}{t ty:TypeId}{pos:String}{aft:Array Edge}{v:Int}{Γ:Ad->Ad}(hv:p.v= .slice (some ⟨bv,0,none⟩) C cap)(hj:j<C)(hk: ∀S1 s',S1={S with U:=S.U.set j v}->IsK F C k S1 p s'->CD b p∈Aw b p s' S1 G->Dz P ro N E ops Q A0 fr ds (Γ (Aw b p s' S1 G)))[c:OC P t](hx:ev fr x=some (.pointer (some ⟨bv,j,none⟩)):=by rfl)(hy:ev fr y=some (.int .i64 v):=by rfl)(hF:Fr1 (Aw b p s S G) l Γ:=by exact dI)(hK:IsK F C k S p s:=by infer_instance):Dz P ro N E ops Q (⟨none,.store t x y,ty,pos,aft,none⟩::A0) fr ds l:=by
 obtain⟨sp,e2,z1,z2,z3⟩:=hK.curAt hv;have ZL:=hK.ul;obtain⟨A,rfl,hA⟩:=hF.eq;have Ey:IsK F C k {S with U:=S.U.set j v} p {s with V:=[NA bv (S.U.set j v) sp]}:=
  {hK with cu:=⟨by rw[A7,CB,ZL];omega,.inr ⟨bv,cap,sp,hv,rfl,z1,z2,by rw[Ah,A7,CB,ZL];omega⟩⟩,ul:=by rw[CB];exact ZL}
 have uU:=hk _ _ rfl Ey (mR λ_ h=>h);rw[hA] at uU;have R: ∀U',(A++Aw b p {s with V:=[NA bv U' sp]} {S with U:=U'} G).Perm (NA bv U' sp::(A++(CD b p::As.asA p.n S.N::(s.M++(s.C++(s.A++(s.H++(s.T++(s.Q++(s.E++G)))))))))):=λU'=>by unfold Aw;exact B0
 have R1:=R S.U;rw[<-e2] at R1;refine Bq (.of_perm R1) ?_;refine ME (Du (b:=bv) (off:=j) (cs:=toArray (S.U.map CN++sp)) hx hy rfl (by rw[show(Value.int IntKind.i64 v)=CN v from rfl,uk Af];exact .here) (by rw[Bt,Ah,A7];omega)) rfl rfl ?_;rintro _ _ ⟨rfl,rfl⟩;exact Bq (.of_perm (R _).symm) uU
def Qr(S:KT)(j:Nat):Int:=if Ps S (S.U.getD j 0)=false\/¬(DW S (S.U.getD j 0)).st=1 then 0 else S.U.getD j 0
def Gd(S:KT)(j:Nat):KT:=
 {S with U:=S.U.set j (Qr S j),K:=if Qr S j=0\/(FW S (Qr S j)).2=false then(setC S.K j (-1) 0).2 else(setC S.K j (Ar.getD' S.A (FW S (Qr S j)).1.1).1.fi (FW S (Qr S j)).1.2.1).2}
def Nn(S:KT):KT:=(List.range S.U.length).foldl Gd S
end
section
theorem iy(S:KT)(n:Nat):(List.range (n+1)).foldl Gd S=Gd ((List.range n).foldl Gd S) n:=by rw[CA,Fd];rfl
theorem ng(hK:IsK F C k S p s):Fn prog 72 [pV b] (Aw b p s S G) λv l'=>v= .tuple #[]/\ ∃s' L,IsK F C k (Nn S) p s'/\Tail L G/\l'=Aw b p s' (Nn S) L:=by
 obtain⟨bv,cap,_,e1,_⟩:=hK.cur;have hC:=hK.c1;have ZL:=hK.ul;refine AO func72 ntmps72 λE=>?_;refine AQ λb1=>?_;refine AR (AA rfl rfl (O6 b _)) ?_;rintro _ _ ⟨B,rfl,rfl⟩;refine Aj ?_;refine Uo (F:=F) (C:=C) (b:=b) (p:=p) (G:=G) (α:=Nat) (ps:=[14,15]) (lb:=[pV B]) rfl (Nc B b p bv C cap Af e1) (λ_=>rfl) rfl
  (λpre k' S' lo=>k'=k/\S'=(List.range pre.length).foldl Gd S/\lo=[rB B b,rB b1 b])
  (λ_ _ _ _ _=>False)
  (λpre lo k S s L X h hK=>by obtain⟨_,_,rfl⟩:=h;exact⟨by simp,Ai _ (Aa _ (mR λ_ h=>h))⟩)
  (.refl:Keep _ ([rB B b,rB b1 b]++Aw b p s S G)) ⟨rfl,rfl,rfl⟩ hK ?_ ?_ ?_
 ·rintro E r0 FS pre x lo k' S' s' L T ⟨fn,tmps,D,rfl⟩ hT ⟨rfl,jG,rfl⟩ hK' DB mr;obtain⟨rfl,hx,_⟩:=eg DB rfl;obtain⟨j,hj⟩: ∃j,pre.length=j:=⟨_,rfl⟩
  rw[hj] at hx jG⊢;obtain⟨sp,e2,_⟩:=hK'.curAt e1;have Ac2:=hK'.ul;have hs:=iy S j;rw[<-jG] at hs;have mv:NA bv S'.U sp∈Aw b p s' S' (L++T):=mV (λ_ h=>h) _ (by rw[e2];simp);have c0:=RB (U:=S'.U) (sp:=sp) (i:=j) Af;obtain⟨x,hxx⟩: ∃x,S'.U.getD j 0=x:=⟨_,rfl⟩
  rw[hxx] at c0;simp only[DU,Ae,Ag,Dq];refine Aj ?_;refine CH (by exact DX) ?_;refine Aj ?_;refine Cx (Cr [11,12] 0 14) ?_;refine CC ?_;refine Id e_alloc (by rintro _ _ ⟨_,_,_,rfl⟩ c hc;exact .tail _ hc) ?_;rintro _ _ ⟨b4,_,rfl,rfl⟩;obtain⟨t,ht⟩: ∃t,DW S' x=t:=⟨_,rfl⟩
  obtain⟨ok,Dm⟩: ∃ok,(Th.findH S'.T x).isSome=ok:=⟨_,rfl⟩
  rw[ht,Dm];refine CC ?_;have pS:Qr S' j=if ok=false\/¬t.st=1 then 0 else x:=by unfold Qr Ps;rw[hxx,ht,Dm]
  obtain⟨y,hy⟩: ∃y,Qr S' j=y:=⟨_,rfl⟩
  rw[hy] at pS;have XJ:Gd S' j={S' with U:=S'.U.set j y,K:=if y=0\/(FW S' y).2=false then(setC S'.K j (-1) 0).2 else(setC S'.K j (Ar.getD' S'.A (FW S' y).1.1).1.fi (FW S' y).1.2.1).2}:=by unfold Gd;rw[hy]
  have h4:(ok=true/\t.st=1)\/(ok=true/\¬t.st=1)\/(ok=false/\t.st=1)\/(ok=false/\¬t.st=1):=by cases ok<;>by_cases h2:t.st=1<;>simp[h2]
  rcases h4 with⟨rfl,h2⟩|⟨rfl,h2⟩|⟨rfl,h2⟩|⟨rfl,h2⟩
  case' inl=>
   rw[Ab (by simp[h2])] at pS;obtain⟨S2,hS2⟩: ∃S2,S2=S':=⟨_,rfl⟩
   have RR:S2={S' with U:=S'.U.set j y}:=by rw[hS2,pS,<-hxx,Y4 Af]
   have FT:=hK';have HP:=mr;rw[<-hS2] at FT HP;refine Aj ?_;rw[<-hS2]
  case' inr.inl=>
   rw[Ac (by simp[h2])] at pS;refine Aj ?_;refine nf e1 hx ?_;intro S2 s2 RR FT HP;rw[<-pS] at RR;refine Aj ?_
  case' inr.inr.inl=>
   rw[Ac (by simp)] at pS;refine Aj ?_;refine nf e1 hx ?_;intro S2 s2 RR FT HP;rw[<-pS] at RR;refine Aj ?_
  case' inr.inr.inr=>
   rw[Ac (by simp)] at pS;refine Aj ?_;refine nf e1 hx ?_;intro S2 s2 RR FT HP;rw[<-pS] at RR;refine Aj ?_
  all_goals
   obtain⟨Xp,tA,_⟩:=FT.curAt e1;have c2:=RB (U:=S2.U) (sp:=Xp) (i:=j) (by rw[FT.ul];exact hx);have mv2:=mV (l:=Aw b p _ S2 (L++T)) (λ_ h=>h) (NA bv S2.U Xp) (by rw[tA];simp);rw[show S2.U.getD j 0=y by rw[RR];simp[List.getD,Ac2,hx]] at c2;have DB:FW S2 y=FW S' y:=by rw[RR];rfl
   have XF: ∀i,Ar.getD' S2.A i=Ar.getD' S'.A i:=λi=>by rw[RR]
   have hKK:S2.K=S'.K:=by rw[RR]
   refine It ?_;iterate 4 refine pc ?_
   refine Vs ?_;rw[DB];obtain⟨q,hq⟩: ∃q,FW S' y=q:=⟨_,rfl⟩
   rw[hq] at XJ⊢;refine BS ?_;by_cases h5:y=0\/q.2=false
   ·rw[Ac h5] at XJ;cases h6:q.2<;>by_cases h7:y=0;all_goals first
     |(exfalso;revert h5;rw[h6];simp[h7];done)
     |(exfalso;omega)
     |(refine Aj ?_
       refine Gc ?_;intro S3 s3 L3 hS3 MD KQ PV;refine Aj ?_;refine iv [rB B b,rB b1 b] (by exact AU) ⟨rfl,?_,rfl⟩;rw[Ah,hj,Bs,hs,XJ,hS3,hKK,RR])
   rw[Ab h5] at XJ;obtain⟨h6,h7⟩:q.2=true/\¬y=0:=by simp at h5;exact⟨h5.2,h5.1⟩
   first
    |(exfalso;omega)
    |(rw[h6]
      refine Aj ?_;simp only[AM,AK,AS];refine EI ?_;rw[XF];obtain⟨o,ho⟩: ∃o,(Ar.getD' S'.A q.1.1).1=o:=⟨_,rfl⟩
      rw[ho] at XJ⊢;refine AQ λGX=>?_;refine Cx (Cr [8] 0 9) ?_;refine CC ?_;refine MG ?_;intro S3 s3 L3 hS3 MD KQ PV;refine CC ?_;refine Aj ?_;refine iv [rB B b,rB b1 b] (by exact AU) ⟨rfl,?_,rfl⟩;rw[Ah,hj,Bs,hs,XJ,hS3,hKK,RR])
 ·rintro D xs lo k' S' s' L rfl ⟨rfl,jG,rfl⟩ hK' hT mr;rw[Fc] at jG;have e:S'=Nn S:=by rw[jG];unfold Nn;rw[ZL]
  subst e;simp only[Ae,Ag];refine Aj ?_;exact AV [D] _ rfl .refl (by exact Ba) (.drop (.drop .refl)) ⟨rfl,s',L,hK',hT,rfl⟩
 ·rintro D c pre lo k' S' s' L DB h;exact h.elim
end
def nh(S:KT)(k z f:Int):KT:=if k=1 then S else{S with W:=(YK S.W f (Ar.framesD k z)).2}
def iz(S:KT)(n id:Int):KT:=if 0<n then{S with H:=((Hg S.H.1 id n).2,S.H.2)} else S
def eh(S:KT)(k id:Int):KT:=if k=9 then{S with T:=(Th.addD S.T id).2} else if k=8 then{S with E:=(En.addD S.E id).2} else S
def Jl(S:KT)(k z f:Int):(Int×Int)×KT:=
 if(Ar.addD S.A k z f).1.2=0 then(((Ar.addD S.A k z f).1.1,0),eh (iz (nh {S with A:=(Ar.addD S.A k z f).2} k z f) (Ar.slotsD k z) (Ar.addD S.A k z f).1.1) k (Ar.addD S.A k z f).1.1)
 else((0,(Ar.addD S.A k z f).1.2),{S with A:=(Ar.addD S.A k z f).2})
section
theorem Aa0(hl:S.T.length+1+k<=900):EK prog F C b p 140 [pV p.t,.int .i64 id] k S k (iV (Th.addD S.T id).1) {S with T:=(Th.addD S.T id).2}:=⟨λs G h=>lfT h (by unfold Th.addD;(repeat' split);all_goals(try rw[l5]);all_goals(try simp only);all_goals omega) (λu hu=>wz h.tw hu) Af λG=>Th.add_any p.t S.T s.T h.th id G⟩
theorem wQ(hK:IsK F C (n+1) S p s)(k z f:Int):Fn prog 91 [pV b,.int .i64 k,.int .i64 z,.int .i64 f] (Aw b p s S G) (KK F C b p n (.tuple #[iV (Jl S k z f).1.1,iV (Jl S k z f).1.2]) (Jl S k z f).2 G):=by
 have mr:CD b p∈Aw b p s S G:=mR λ_ h=>h;have hTl:=hK.tl;obtain⟨R,hR⟩: ∃R,Jl S k z f=R:=⟨_,rfl⟩
 rw[hR];unfold Jl at hR;refine AO func91 ntmps91 λE=>?_;refine Aj ?_;refine EI ?_;refine Aj ?_;refine Gc ?_;intro S1 s1 L1 EA Ey DL GI;rw[<-EA] at hR;obtain⟨id,Va⟩: ∃x,(Ar.addD S.A k z f).1.1=x:=⟨_,rfl⟩
 obtain⟨er,her⟩: ∃x,(Ar.addD S.A k z f).1.2=x:=⟨_,rfl⟩
 rw[Va,her] at hR;rw[Va,her];by_cases he:er=0
 ·rw[Ac he] at hR;obtain⟨sl,yh⟩: ∃x,Ar.slotsD k z=x:=⟨_,rfl⟩
  rw[yh] at hR;refine Aj ?_;simp only[AM,AK,AS];by_cases h1:k=1
  case' pos=>
   rw[show nh S1 k z f=S1 from Ac h1] at hR;have h8:¬k=8:=by omega
   have h9:¬k=9:=by omega
   obtain⟨S2,hS2⟩: ∃S2,S1=S2:=⟨_,rfl⟩
   obtain⟨s2,NM⟩: ∃s2,s1=s2:=⟨_,rfl⟩
   obtain⟨L2,PR⟩: ∃L2,L1=L2:=⟨_,rfl⟩
   have FT:=Ey;have FL:=DL;have HP:=GI;rw[hS2,NM] at FT;rw[hS2,NM,PR] at HP;rw[PR] at FL;rw[hS2] at hR;have Lf:S2.T.length+1+n<=900:=by rw[<-hS2,EA];show S.T.length+1+n<=900;omega
   refine Aj ?_;rw[hS2,NM,PR]
  case' neg=>
   refine Aj ?_;refine Cx (Cr [8] 0 9) ?_;refine CC ?_;refine MG ?_;intro S2 s2 L2 hS2 FT hT2' HP;have FL:=hT2'.trans DL;rw[show nh S1 k z f=S2 from(Ab h1).trans hS2.symm] at hR;have Lf:S2.T.length+1+n<=900:=by rw[hS2,EA];show S.T.length+1+n<=900;omega
   refine CC ?_;refine Aj ?_
  all_goals
   refine EI ?_;rw[yh];refine Aj ?_;by_cases hs:0<sl
   case' pos=>
    refine Aj ?_;refine Gc ?_;intro S3 s3 L3 hS3 MD hT3' PV;have KQ:=hT3'.trans FL;rw[show iz S2 sl id=S3 from(Ac hs).trans hS3.symm] at hR;have hl3:S3.T.length+1+n<=900:=by rw[hS3];exact Lf
    refine Aj ?_
   case' neg=>
    rw[show iz S2 sl id=S2 from Ab hs] at hR;obtain⟨S3,hS3⟩: ∃S3,S2=S3:=⟨_,rfl⟩
    obtain⟨s3,Ro⟩: ∃s3,s2=s3:=⟨_,rfl⟩
    obtain⟨L3,hL3⟩: ∃L3,L2=L3:=⟨_,rfl⟩
    have MD:=FT.mono (Nat.le_succ _);have KQ:=FL;have PV:=HP;rw[hS3,Ro] at MD;rw[hS3,Ro,hL3] at PV;rw[hL3] at KQ;rw[hS3] at hR;have hl3:S3.T.length+1+n<=900:=by rw[<-hS3];exact Lf
    refine Aj ?_;rw[hS3,Ro,hL3]
   all_goals
    by_cases h9:k=9
    ·first
      |(exfalso;omega)
      |(refine Aj ?_
        refine Gc (q:=Aa0 hl3) ?_;intro S4 s4 L4 hS4 hK4 hT4' mr4;have jm:=hT4'.trans KQ;rw[show eh S3 k id=S4 from(Ac h9).trans hS4.symm] at hR;rw[<-hR];refine Aj ?_;exact A9)
    by_cases h8:k=8
    ·first
      |(exfalso;omega)
      |(refine Aj ?_
        refine Gc ?_;intro S4 s4 L4 hS4 hK4 hT4' mr4;have jm:=hT4'.trans KQ;rw[show eh S3 k id=S4 from(Ab h9).trans ((Ac h8).trans hS4.symm)] at hR;rw[<-hR];refine Aj ?_;exact A9)
    rw[show eh S3 k id=S3 from(Ab h9).trans (Ab h8)] at hR;rw[<-hR];refine Aj ?_;exact A9
 ·rw[Ab he] at hR;rw[<-hR];refine Aj ?_;exact A9
instance{k z f:Int}:EK prog F C b p 91 [pV b,.int .i64 k,.int .i64 z,.int .i64 f] (n+1) S n (.tuple #[iV (Jl S k z f).1.1,iV (Jl S k z f).1.2]) (Jl S k z f).2:=⟨λs G h=>wQ h k z f⟩
end
end Go.Proofs.YtlifcingifodfaaGreat
