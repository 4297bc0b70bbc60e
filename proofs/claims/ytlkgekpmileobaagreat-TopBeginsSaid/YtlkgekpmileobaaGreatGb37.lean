/- Laws that the statement's proof leans on (joined out of several texts). -/
import Derived.Test.YtlkgekpmileobaaGreatGb34
import Derived.Test.YtlkgekpmileobaaGreatGb36
import Derived.Test.YtlkgekpmileobaaGreatGb8
import Derived.Test.YtlkgekpmileobaaGreatGb10
import Derived.Test.YtlkgekpmileobaaGreatGb30
set_option linter.unusedVariables false
set_option linter.unusedSimpArgs false
namespace Go.Proofs.YtlkgekpmileobaaGreat
open Tryz
open List(toArray)
open Go.RowKit
set_option maxRecDepth 20000
variable{S:KT}{s:RL}{k F C b j N i n bv cap:Nat}{p:RP}{G L2 lo l:List Ab}{U:List Int}{P:Program}{E:World}{Q:Exit->Act->World->Prop}{fr:Fr}{ds:List Deferred}{sp:List Value}{id:Int}
instance{F C k:Nat}{S:KT}{p:RP}{b:Nat}{id:Int}:EK prog F C b p 204 [pV b,.int .i64 id] k S k (iV (Jq S id).1) (Jq S id).2:=⟨λs G h=>oE h id⟩
section
variable{α:Type}
def kH(F C b:Nat)(p:RP)(G:List Ab)(J:List α->Nat->KT->List Ab->Prop)(pre:List α)(l:List Ab):Prop:= ∃lo k S s L,J pre k S lo/\IsK F C k S p s/\Tail L G/\l=lo++Av b p s S L
def kI(F C b:Nat)(p:RP)(G:List Ab)(J:Code->List α->Nat->KT->List Ab->Prop)(c:Code)(pre:List α)(l:List Ab):Prop:= ∃lo k S s L,J c pre k S lo/\IsK F C k S p s/\Tail L G/\l=lo++Av b p s S L
variable{L0:List Ab}{g:Operand}{ps:List Tmp}{assign body:Code}{gf:Nat}{lb:List Value}{enc:α->List Value}{Sx Sp:List α->Prop}{Need:List α->List Ab->Prop}
theorem R6(hg:ev fr g=some (.func (.func gf) #[] lb.toArray))[en:EN P gf](hit:E2 P gf lb enc Sx Sp Need)(hps: ∀x,(enc x).length=ps.length)(hpb:ps.all (λp=>Nat.blt p N)=true)
 (J:List α->Nat->KT->List Ab->Prop)(JX:Code->List α->Nat->KT->List Ab->Prop)(hneed: ∀pre lo k S s L X,J pre k S lo->IsK F C k S p s->Need pre ((lo++Av b p s S L)++X))(hL:Keep L0 (lo++Av b p s S G))(h0:J [] k S lo)(hK:IsK F C k S p s)
 (hround: ∀(E:World) (r:Nat) (rec:LoopState->Option Code->Loop) (pre:List α) (x:α) (lo:List Ab) (k:Nat) (S:KT) (s:RL) (L T:List Ab),(∃fn tmps D,rec=Dp fn tmps ps.toArray assign body D)->Tail L G->J pre k S lo->IsK F C k S p s->Sp (pre++[x])->Co b p∈Av b p s S (L++T)->
   BF P (some r) N E assign (Exit.then (NS P r body (roundPost P r (RK E (Ji (kH F C b p G J) (kI F C b p G JX) (pre++[x]) r rec T)))) (λ_ _ _=>False)) (Du ps (enc x) fr) [] (lo++(r,.loop (rec .ready none))::Av b p s S (L++T)))
 (hdone: ∀(D:Nat) (xs:List α) (lo:List Ab) (k:Nat) (S:KT) (s:RL) (L:List Ab),Sx xs->J xs k S lo->IsK F C k S p s->Tail L G->Co b p∈Av b p s S L->CH N E Q .normal fr (GF D::ds) (Cd D::(lo++Av b p s S L)))
 (hstop: ∀(D:Nat) (c:Code) (pre:List α) (lo:List Ab) (k:Nat) (S:KT) (s:RL) (L:List Ab),Sp pre->JX c pre k S lo->IsK F C k S p s->Tail L G->Co b p∈Av b p s S L->BF P none N E c Q fr (GF D::ds) (Cd D::(lo++Av b p s S L))):
 BF P none N E (.rangeFunc g ps.toArray assign body) Q fr ds L0:=by
 refine CU hg hit hps hpb (kH F C b p G J) (kI F C b p G JX) (lo++Av b p s S G) [] (λpre l X _ h=>by obtain⟨lo,k,S,s,L,h1,h2,_,rfl⟩:=h;exact hneed _ _ _ _ _ _ _ h1 h2) (by rw[Be];exact hL) ⟨lo,k,S,s,G,h0,hK,.nil,rfl⟩ ?_ ?_ ?_
 ·rintro E r rec pre x l T hr-⟨lo,k,S,s,L,h1,h2,h3,rfl⟩ hsp;refine DQ (.of_perm ?_) (hround E r rec pre x lo k S s L T hr h3 h1 h2 hsp (mR λ_ h=>h));unfold Av;exact Cc
 ·rintro D xs l hS ⟨lo,k,S,s,L,h1,h2,h3,rfl⟩;rw[Be];exact hdone D xs lo k S s L hS h1 h2 h3 (mR λ_ h=>h)
 ·rintro D c pre l hS ⟨lo,k,S,s,L,h1,h2,h3,rfl⟩;rw[Be];exact hstop D c pre lo k S s L hS h1 h2 h3 (mR λ_ h=>h)
variable{r:Nat}{fn:FuncId}{tmps:Array Value}{pt:Array Tmp}{D:Nat}{J:List α->Nat->KT->List Ab->Prop}{JX:Code->List α->Nat->KT->List Ab->Prop}{xs:List α}{L T Lst:List Ab}
theorem ZL{o:Obj}(hk:Keep Lst (lo++(r,o)::Av b p s S L2))(hT:Tail L2 (L++T)): ∃X,Keep Lst ((lo++Av b p s S (X++L))++(r,o)::T):=by obtain⟨X,rfl⟩:=hT;refine⟨X,hk.trans (.of_perm ?_)⟩;unfold Av;exact Cc
theorem bV(lo:List Ab)(hk:Keep Lst (lo++(r,.loop (Dp fn tmps pt assign body D .busy none))::Av b p s S L2))(hJ:J xs k S lo)(hT:Tail L2 (L++T):=by exact sN)(hL:Tail L G:=by assumption)(hK:IsK F C k S p s:=by infer_instance):CH N E (roundPost P r (RK E (Ji (kH F C b p G J) (kI F C b p G JX) xs r (Dp fn tmps pt assign body D) T))) .normal fr ds Lst:=by obtain⟨X,h⟩:=ZL hk hT;exact B9 _ h ⟨lo,k,S,s,X++L,hJ,hK,hL.step X,rfl⟩
theorem kJ(lo:List Ab)(hk:Keep Lst (lo++(r,.loop (Dp fn tmps pt assign body D .busy none))::Av b p s S L2))(hJ:JX .ret xs k S lo)(hT:Tail L2 (L++T):=by exact sN)(hL:Tail L G:=by assumption)(hK:IsK F C k S p s:=by infer_instance):CH N E (roundPost P r (RK E (Ji (kH F C b p G J) (kI F C b p G JX) xs r (Dp fn tmps pt assign body D) T))) .ret fr ds Lst:=by obtain⟨X,h⟩:=ZL hk hT;exact D3 _ h ⟨lo,k,S,s,X++L,hJ,hK,hL.step X,rfl⟩
end
abbrev Me(bv:Nat)(U:List Int)(sp:List Value):Ab:=(bv,.cells (toArray (U.map CA++sp)) 3 (0,0))
section
theorem IsK.cur(h:IsK F C k S p s): ∃bv cap sp,p.v= .slice (some ⟨bv,0,none⟩) C cap/\s.V=[Me bv S.U sp]/\C<=cap/\cap<=maxLen/\C+sp.length=cap:=by
 obtain⟨h1,⟨_,h0,_⟩|⟨bv,cap,sp,e1,e2,z1,z2,z3⟩⟩:=h.cu
 ·have:=h.c1;omega
 ·exact⟨bv,cap,sp,e1,e2,z1,z2,by rw[Ah,h1] at z3;omega⟩
theorem vE{k' f:Nat}{vs:List Value}{x:Value}{U':List Int}(hK:IsK F C k S p s)(hk:k'<=k)(hl:U'.length=S.U.length)(h: ∀bv cap sp G,p.v= .slice (some ⟨bv,0,none⟩) C cap->Co b p∈G->(∀c,c∈s.T->c∈G)->Fn prog f vs (Me bv S.U sp::G) λv l'=>v=x/\ ∃X,l'=X++Me bv U' sp::G):Fn prog f vs (Av b p s S G) (KK F C b p k' x {S with U:=U'} G):=by
 obtain⟨bv,cap,sp,e1,e2,z1,z2,z3⟩:=hK.cur;have ho:OwnSl 3 1 p.v C (U'.map CA) [Me bv U' sp]:=⟨by rw[AZ,hl,hK.ul];omega,.inr ⟨bv,cap,sp,e1,rfl,z1,z2,by rw[Ah,AZ,hl,hK.ul];omega⟩⟩
 exact Fn.re (.of_perm (by unfold Av;rw[e2];exact Cc)) (h bv cap sp (Co b p::As.asA p.n S.N::(s.M++(s.C++(s.A++(s.H++(s.T++(s.Q++(s.E++G)))))))) e1 (.head _) (λc hc=>by simp[hc])) λv l' ⟨g1,X,g2⟩=>⟨Av b p {s with V:=[Me bv U' sp]} {S with U:=U'} (X++G),by rw[g2];unfold Av;exact AY [],g1,{s with V:=[Me bv U' sp]},_,{hK.mono hk with cu:=ho,ul:=hl.trans hK.ul},⟨X,rfl⟩,rfl⟩
theorem PK(h:i<U.length):(toArray (U.map CA++sp))[i]?=some (.int .i64 (U.getD i 0)):=by rw[AE,AC (by simpa using h),A0,Am h,List.getD,Am h];rfl
theorem mW(h:i<U.length)(v:Int):(toArray (U.map CA++sp)).setIfInBounds i (CA v)=toArray ((U.set i v).map CA++sp):=by rw[Bq,GA _ _ (by simpa using h),GX]
def KM(U:List Int)(core:Int):Int:=if core<0\/core>=U.length then 0 else U.getD core.toNat 0
theorem ZM{x:Nat}{pre:List Nat}(h:pre++[x]<+:List.range n)(hj:pre.length=j):x=j/\j<n/\pre=List.range j:=by
 have h4:=h.length_le;rw[Ah,EC,Bl] at h4;obtain⟨t,ht⟩:=h;have e:(pre++[x])=List.range (j+1):=by have:=BM (List.take (j+1)) ht;rw[List.take_append_of_le_length (by simp;omega),Bz (by simp;omega),Ge,DU Af] at this;exact this
 rw[Cs] at e;have:=IF e rfl;exact⟨by simpa using this.2,Af,this.1⟩
set_option maxHeartbeats 1000000 in
theorem rM(hK:IsK F C k S p s)(core:Int)(l:List Ab)(hl: ∀c,c∈Av b p s S G->c∈l):Fn prog 105 [pV b,.int .i64 core] l λv l'=>v=iV (KM S.U core)/\l'=l:=by
 obtain⟨bv,cap,sp,e1,e2,z1,z2,z3⟩:=hK.cur;have hC:=hK.c1;have hul:=hK.ul;have mr:Co b p∈l:=mR hl;have mv:Me bv S.U sp∈l:=mV hl _ (by rw[e2];simp);refine AO func105 ntmps105 λE=>?_;refine AQ λb3=>?_;refine AQ λb4=>?_;refine AS (Az rfl rfl (Nu b _)) ?_;rintro _ _ ⟨B,rfl,rfl⟩;refine Aj ?_;refine CU (α:=Nat) (ps:=[9,10]) (lb:=[pV B]) rfl (LL B b p bv C cap Af e1) (λ_=>rfl) rfl
  (λpre l=>(∀x:Nat,x∈pre->¬(x:Int)=core)/\l=[rB B b,BG b4 0,BG b3 core])
  (λc pre l=>c= .ret/\ ∃x:Nat,x<C/\(x:Int)=core/\l=[BG b4 (S.U.getD x 0)])
  [rB B b,BG b4 0,BG b3 core] l (λpre l2 X hX h=>⟨by rw[h.2];exact Ai _ (.head _),Aa _ (hX _ mr)⟩) (by exact AR) ⟨λ_ h=>(nomatch h),rfl⟩ ?_ ?_ ?_
 ·rintro E r0 rec pre x l' X ⟨fn,tmps,D,rfl⟩ hX ⟨hn,rfl⟩ hsp;obtain⟨rfl,hx,_⟩:=ZM hsp rfl;have mX:=hX _ mv;have c0:=PK (U:=S.U) (sp:=sp) (i:=pre.length) Af;simp only[Du,Ad,Ag,Dh];refine Aj ?_;refine Cp (by exact Dw) ?_;refine Aj ?_;by_cases h:((pre.length:Nat):Int)=core
  ·refine Aj ?_;refine D3 [BG b4 (S.U.getD pre.length 0)] (by exact AR) ⟨rfl,pre.length,hx,h,rfl⟩
  ·refine Aj ?_;exact B9 [rB B b,BG b4 0,BG b3 core] (by exact AR) ⟨λz hz=>by
    rcases AF.1 hz with hz|hz
    ·exact hn z hz
    ·rw[AA.1 hz];exact h,rfl⟩
 ·rintro D xs l' rfl ⟨hn,rfl⟩;have e0:KM S.U core=0:=by
   unfold KM
   split
   ·rfl
   ·rename_i h;exact absurd (show((core.toNat:Nat):Int)=core by omega) (hn core.toNat (by simp;omega))
  rw[e0];simp only[Ad,Ag];refine Aj ?_;exact AU [D] _ rfl (l':=l) (by exact AR) (by exact A7) (by exact AR) ⟨rfl,rfl⟩
 ·rintro D c pre l' hsp ⟨rfl,x,hx,rfl,rfl⟩;have e0:KM S.U (x:Nat)=S.U.getD x 0:=by unfold KM;rw[Ac Af,A3]
  rw[e0];simp only[Ad,Ag];refine Aj ?_;exact AU [D] _ rfl (l':=l) (by exact AR) (by exact A7) (by exact AR) ⟨rfl,rfl⟩
instance[h:IsK F C k S p s]{core:Int}:QF prog 105 [pV b,.int .i64 core] (Av b p s S G) (iV (KM S.U core)):=⟨λl hl=>rM h core l hl⟩
def Mf(U:List Int)(core id:Int)(j:Nat):List Int:=(U.take j).mapIdx (λi x=>if(i:Int)=core then id else if x=id then 0 else x)++U.drop j
def NE(S:KT)(core id:Int):Int×KT:=if core<0\/core>=S.U.length then(3,S) else if Oa S id=false/\¬id=0 then(2,S) else(0,{S with U:=Mf S.U core id S.U.length})
theorem Ww(U:List Int)(core id:Int)(j:Nat):(Mf U core id j).length=U.length:=by unfold Mf;simp;omega
theorem bW{core:Int}(h:j<U.length):(Mf U core id j).getD j 0=U.getD j 0/\Mf U core id (j+1)=(Mf U core id j).set j (if(j:Int)=core then id else if U.getD j 0=id then 0 else U.getD j 0):=by
 have e1:U.drop j=U.getD j 0::U.drop (j+1):=by rw[CX h,List.getD,Am h];rfl
 have e2:U.take (j+1)=U.take j++[U.getD j 0]:=by rw[B0,List.getD,Am h];rfl
 have ln:((U.take j).mapIdx λi x=>if(i:Int)=core then id else if x=id then 0 else x).length=j:=by simp;omega
 unfold Mf;constructor
 ·rw[List.getD,AP (by rw[ln];omega),ln,Dr,e1];rfl
 ·rw[e2,e1,Cg _ _ (by rw[ln];omega),ln,Dr,List.mapIdx_append,Al];simp[DU (Nat.le_of_lt h)]
end
theorem Wx(h:j<U.length):U.set j (U.getD j 0)=U:=by
 refine Dq λi=>?_;rw[Ke]
 split
 ·rename_i e;subst e;simp[h]
 ·rfl
section
set_option maxHeartbeats 2000000 in
theorem rN(hK:IsK F C k S p s)(core id:Int):Fn prog 104 [pV b,.int .i64 core,.int .i64 id] (Av b p s S G) (KK F C b p k (iV (NE S core id).1) (NE S core id).2 G):=by
 have hC:=hK.c1;have hul:=hK.ul;have key:(NE S core id).2={S with U:=(NE S core id).2.U}:=by unfold NE;(repeat' split)<;>rfl
 rw[key];refine vE hK (A5 _) (by unfold NE;(repeat' split)<;>first|rfl|exact Ww _ _ _ _) λbv cap sp G e1 mr mt=>?_;have QT: ∀l2,(∀c,c∈G->c∈l2)->Fn prog 96 [pV p.t,.int .i64 id] l2 _:=λl2 h2=>Th.get_any p.t S.T s.T hK.th id l2 λc hc=>h2 _ (mt c hc);have nC:Co b p=(b,.cells (toArray [pV p.m,pV p.c,pV p.a,pV p.h,pV p.n,pV p.t,pV p.q,pV p.e,.slice (some ⟨bv,0,none⟩) C cap]) 163 (0,0)):=by unfold Co;rw[e1]
 have mr2:=mr;rw[nC] at mr2;refine AO func104 ntmps104 λE=>?_;refine AQ λb4=>?_;refine AQ λb5=>?_;refine Hw ?_;by_cases hb:core<0\/core>=C
 ·rw[show NE S core id=(3,S) by unfold NE;rw[hul,Ae hb]];by_cases h1:core<0<;>by_cases h2:core>=C;all_goals first
   |(exfalso;omega)
   |(refine BI ?_
     refine Aj ?_;exact A8 .refl ⟨rfl,[BG b5 id,BG b4 core],rfl⟩)
 refine BI ?_;refine Aj ?_;refine Ch (Cf [9,10] 0 12) ?_;refine Ci ?_;refine Y8 ?_ (AK rfl rfl λl2 h2=>QT l2 λc hc=>h2 _ (.tail _ (.tail _ (.tail _ hc))));refine Ci ?_;refine Hf e_alloc (by rintro _ _ ⟨_,_,_,rfl⟩ c hc;exact .tail _ hc) ?_;rintro _ _ ⟨b7,_,rfl,rfl⟩;refine Ci ?_;obtain⟨t,ht⟩: ∃t,(Th.findH S.T id).getD Th.thZ=t:=⟨_,rfl⟩
 rw[ht];obtain⟨ok,hok⟩: ∃ok,(Th.findH S.T id).isSome=ok:=⟨_,rfl⟩
 rw[hok];refine Ci ?_;by_cases hbad:ok=false/\¬id=0
 ·rw[show NE S core id=(2,S) by unfold NE Oa;rw[hul,Ac hb,hok,Ae hbad]];obtain⟨rfl,h0⟩:=hbad;refine Aj ?_;exact A8 .refl ⟨rfl,[Th.thC b7 t,BG b5 id,BG b4 core],rfl⟩
 rw[show NE S core id=(0,{S with U:=Mf S.U core id C}) by unfold NE Oa;rw[hul,Ac hb,hok,Ac hbad]];cases ok
 case' false=>
  have h0:id=0:=by
   by_cases e:id=0
   ·exact e
   ·exact absurd ⟨rfl,e⟩ hbad
 all_goals
  refine Aj ?_;refine AS (Az rfl rfl (Nu b _)) ?_;rintro _ _ ⟨B,rfl,rfl⟩;refine Aj ?_;refine CU (α:=Nat) (ps:=[43,44]) (lb:=[pV B]) rfl (LL B b p bv C cap Af e1) (λ_=>rfl) rfl
   (λpre l=>l=[rB B b,Th.thC b7 t,BG b5 id,BG b4 core,Me bv (Mf S.U core id pre.length) sp])
   (λc pre l=>False)
   [rB B b,Th.thC b7 t,BG b5 id,BG b4 core,Me bv S.U sp] G (λpre l2 X hX h=>⟨by rw[h];exact Ai _ (.head _),Aa _ (hX _ mr)⟩) (by exact AR) (by simp[Mf]) ?_ ?_ ?_
  ·rintro E r0 rec pre x l' X ⟨fn,tmps,D,rfl⟩ hX rfl hsp;obtain⟨rfl,hx,_⟩:=ZM hsp rfl;obtain⟨j,hj⟩: ∃j,pre.length=j:=⟨_,rfl⟩
   rw[hj] at hx⊢;obtain⟨g1,g2⟩:=bW (core:=core) (id:=id) (U:=S.U) (j:=j) Af;have hlj:j<(Mf S.U core id j).length:=by rw[Ww];omega
   have c0:=PK (sp:=sp) hlj;rw[g1] at c0;have us:=mW (sp:=sp) hlj;simp only[Du,Ad,Ag,Dh];refine Aj ?_;refine Cp (by exact Dw) ?_;refine Aj ?_;by_cases h:((j:Nat):Int)=core
   ·rw[Ae h] at g2;refine Aj ?_;refine LV (C7 (b:=bv) (off:=j) (cs:=toArray ((Mf S.U core id j).map CA++sp)) rfl rfl rfl (by rw[show(Value.int IntKind.i64 id)=CA id from rfl,us,<-g2];exact Dw) (by rw[Bm,Ah,AZ];omega)) rfl rfl ?_;rintro _ _ ⟨rfl,rfl⟩;refine Aj ?_;exact B9 [rB B b,Th.thC b7 t,BG b5 id,BG b4 core,Me bv (Mf S.U core id (j+1)) sp] (by exact AR) (by simp[hj])
   rw[Ac h] at g2;refine Aj ?_;refine Hw ?_;by_cases h2:S.U.getD j 0=id
   ·rw[Ae h2] at g2;refine BI ?_;refine Aj ?_;refine LV (C7 (b:=bv) (off:=j) (cs:=toArray ((Mf S.U core id j).map CA++sp)) rfl rfl rfl (by rw[show(Value.int IntKind.i64 0)=CA 0 from rfl,us,<-g2];exact Dw) (by rw[Bm,Ah,AZ];omega)) rfl rfl ?_;rintro _ _ ⟨rfl,rfl⟩;refine Aj ?_;exact B9 [rB B b,Th.thC b7 t,BG b5 id,BG b4 core,Me bv (Mf S.U core id (j+1)) sp] (by exact AR) (by simp[hj])
   ·rw[Ac h2] at g2;refine BI ?_;refine Aj ?_;exact B9 [rB B b,Th.thC b7 t,BG b5 id,BG b4 core,Me bv (Mf S.U core id (j+1)) sp] (by rw[g2,show(Mf S.U core id j).set j (S.U.getD j 0)=Mf S.U core id j by rw[<-g1];exact Wx hlj];exact AR) (by simp[hj])
  ·rintro D xs l' rfl rfl;rw[EC];simp only[Ad,Ag];refine Aj ?_;exact AU [D] _ rfl .refl (by exact A7) (.drop (.drop (.drop (.drop .refl)))) ⟨rfl,[],rfl⟩
  ·rintro D c pre l' hsp h;exact h.elim
instance{core id:Int}:EK prog F C b p 104 [pV b,.int .i64 core,.int .i64 id] k S k (iV (NE S core id).1) (NE S core id).2:=⟨λs G h=>rN h core id⟩
end
theorem W5{A:List Ab}(hl: ∀c,c∈A->c∈l): ∀{f:Nat} {vs:List Value} {v:Value} [QF P f vs A v],QF P f vs l v:=by intro f vs v q;exact⟨λl2 h=>q.out l2 λc hc=>h c (hl c hc)⟩
abbrev D5(S:KT)(x:CB):CapT:=(getD' S.H.1 x).1
def Gm(S:KT)(id:Int):(Int×Int×Int)×Bool:=
 if Oa S id=false then((0,0,0),false)
 else if ¬(getD' S.H.1 (id,1)).2=0\/¬(D5 S (id,1)).kind=5 then((0,0,0),false)
 else if(As.ofP S.N (D5 S (id,1)).obj).2.2=false\/¬(Ar.getD' S.A (D5 S (id,1)).obj).1.kd=5 then((0,0,0),false)
 else(((D5 S (id,1)).obj,(As.ofP S.N (D5 S (id,1)).obj).1,(As.ofP S.N (D5 S (id,1)).obj).2.1),true)
section
set_option maxHeartbeats 1000000 in
theorem kK(hK:IsK F C k S p s)(id:Int)(l:List Ab)(hl: ∀c,c∈Av b p s S G->c∈l):Fn prog 111 [pV b,.int .i64 id] l λv l'=>v= .tuple #[iV (Gm S id).1.1,iV (Gm S id).1.2.1,iV (Gm S id).1.2.2,.bool (Gm S id).2]/\l'=l:=by
 have mr:Co b p∈l:=mR hl;have I: ∀{f:Nat} {vs:List Value} {v:Value} [QF prog f vs (Av b p s S G) v],QF prog f vs l v:=W5 hl;unfold Gm Oa;refine AO func111 ntmps111 λE=>?_;refine Aj ?_;refine Ea ?_;refine Aj ?_;refine Ea ?_;refine AQ λb8=>?_;cases hf:(Th.findH S.T id).isSome with
 |false=>rw[Ae rfl];refine Aj ?_;exact qr
 |true=>
 rw[Ac AW];refine Aj ?_;refine Ea ?_;obtain⟨c,hc⟩: ∃c,(getD' S.H.1 (id,1)).1=c:=⟨_,rfl⟩
 obtain⟨e,he⟩: ∃e,(getD' S.H.1 (id,1)).2=e:=⟨_,rfl⟩
 rw[show D5 S (id,1)=c from hc,hc,he];refine AQ λb10=>?_;by_cases h1:¬e=0\/¬c.kind=5
 ·rw[Ae h1];by_cases h2:e=0<;>by_cases h3:c.kind=5;all_goals first
   |(exfalso;omega)
   |(refine Aj ?_
     exact qr)
 rw[Ac h1];refine Aj ?_;refine Hw ?_;iterate 6 refine iK ?_
 refine Tf ?_;obtain⟨o,ho⟩: ∃o,As.ofP S.N c.obj=o:=⟨_,rfl⟩
 rw[ho];refine BI ?_;refine Aj ?_;refine Ch (Cf [10,11] 0 13) ?_;refine Ci ?_;refine Hf e_alloc (by rintro _ _ ⟨_,_,_,rfl⟩ c hc;exact .tail _ hc) ?_;rintro _ _ ⟨b15,_,rfl,rfl⟩;obtain⟨q,hq⟩: ∃q,(Ar.getD' S.A c.obj).1=q:=⟨_,rfl⟩
 rw[hq];refine Ci ?_;by_cases h1:o.2.2=false\/¬q.kd=5
 ·rw[Ae h1];cases h2:o.2.2<;>by_cases h3:q.kd=5;all_goals first
   |(exfalso;simp_all;done)
   |(refine Aj ?_
     exact qr)
 rw[Ac h1];have h2:o.2.2=true:=by simp at h1;exact h1.1
 have h3:q.kd=5:=by simp at h1;exact h1.2
 rw[h2];refine Aj ?_;exact qr
instance[h:IsK F C k S p s]{id:Int}:QF prog 111 [pV b,.int .i64 id] (Av b p s S G) (.tuple #[iV (Gm S id).1.1,iV (Gm S id).1.2.1,iV (Gm S id).1.2.2,.bool (Gm S id).2]):=⟨λl hl=>kK h id l hl⟩
theorem IsK.curAt(h:IsK F C k S p s)(hv:p.v= .slice (some ⟨bv,0,none⟩) C cap): ∃sp,s.V=[Me bv S.U sp]/\C<=cap/\cap<=maxLen/\C+sp.length=cap:=by obtain⟨bv',cap',sp,e1,e2,z1,z2,z3⟩:=h.cur;rw[hv] at e1;injection e1 with e3 e4 e5;injection e3 with e3;injection e3 with e3;subst e3 e5;exact⟨sp,e2,z1,z2,z3⟩
theorem gh{ro:Option Nat}{ops:Array Oper}{rest:List Oper}{x y:Operand}{t ty:TypeId}{pos:String}{aft:Array Edge}{v:Int}{Γ:List Ab->List Ab}(hv:p.v= .slice (some ⟨bv,0,none⟩) C cap)(hj:j<C)(hk: ∀S1 s',S1={S with U:=S.U.set j v}->IsK F C k S1 p s'->Co b p∈Av b p s' S1 G->Df P ro N E ops Q rest fr ds (Γ (Av b p s' S1 G)))[c:OC P t](hx:ev fr x=some (.pointer (some ⟨bv,j,none⟩)):=by rfl)(hy:ev fr y=some (.int .i64 v):=by rfl)(hF:Fr1 (Av b p s S G) l Γ:=by exact Zr)(hK:IsK F C k S p s:=by infer_instance):Df P ro N E ops Q (⟨none,.store t x y,ty,pos,aft,none⟩::rest) fr ds l:=by
 obtain⟨sp,e2,z1,z2,z3⟩:=hK.curAt hv;have hul:=hK.ul;obtain⟨A,rfl,hA⟩:=hF.eq;have hK1:IsK F C k {S with U:=S.U.set j v} p {s with V:=[Me bv (S.U.set j v) sp]}:=
  {hK with cu:=⟨by rw[AZ,Ct,hul];omega,.inr ⟨bv,cap,sp,hv,rfl,z1,z2,by rw[Ah,AZ,Ct,hul];omega⟩⟩,ul:=by rw[Ct];exact hul}
 have hk':=hk _ _ rfl hK1 (mR λ_ h=>h);rw[hA] at hk';have R: ∀U',(A++Av b p {s with V:=[Me bv U' sp]} {S with U:=U'} G).Perm (Me bv U' sp::(A++(Co b p::As.asA p.n S.N::(s.M++(s.C++(s.A++(s.H++(s.T++(s.Q++(s.E++G)))))))))):=λU'=>by unfold Av;exact Cc
 have R1:=R S.U;rw[<-e2] at R1;refine Bk (.of_perm R1) ?_;refine LV (C7 (b:=bv) (off:=j) (cs:=toArray (S.U.map CA++sp)) hx hy rfl (by rw[show(Value.int IntKind.i64 v)=CA v from rfl,mW Af];exact .here) (by rw[Bm,Ah,AZ];omega)) rfl rfl ?_;rintro _ _ ⟨rfl,rfl⟩;exact Bk (.of_perm (R _).symm) hk'
def PL(S:KT)(j:Nat):Int:=if Oa S (S.U.getD j 0)=false\/¬(Er S (S.U.getD j 0)).st=1 then 0 else S.U.getD j 0
def R7(S:KT)(j:Nat):KT:=
 {S with U:=S.U.set j (PL S j),K:=if PL S j=0\/(Gm S (PL S j)).2=false then(ON S.K j (-1) 0).2 else(ON S.K j (Ar.getD' S.A (Gm S (PL S j)).1.1).1.fi (Gm S (PL S j)).1.2.1).2}
def OR(S:KT):KT:=(List.range S.U.length).foldl R7 S
end
section
theorem bX(S:KT)(n:Nat):(List.range (n+1)).foldl R7 S=R7 ((List.range n).foldl R7 S) n:=by rw[Cs,ED];rfl
set_option maxHeartbeats 2000000 in
theorem gi(hK:IsK F C k S p s):Fn prog 73 [pV b] (Av b p s S G) λv l'=>v= .tuple #[]/\ ∃s' L,IsK F C k (OR S) p s'/\Tail L G/\l'=Av b p s' (OR S) L:=by
 obtain⟨bv,cap,_,e1,_⟩:=hK.cur;have hC:=hK.c1;have hul:=hK.ul;refine AO func73 ntmps73 λE=>?_;refine AQ λb1=>?_;refine AS (Az rfl rfl (Nu b _)) ?_;rintro _ _ ⟨B,rfl,rfl⟩;refine Aj ?_;refine R6 (F:=F) (C:=C) (b:=b) (p:=p) (G:=G) (α:=Nat) (ps:=[14,15]) (lb:=[pV B]) rfl (LL B b p bv C cap Af e1) (λ_=>rfl) rfl
  (λpre k' S' lo=>k'=k/\S'=(List.range pre.length).foldl R7 S/\lo=[rB B b,rB b1 b])
  (λ_ _ _ _ _=>False)
  (λpre lo k S s L X h hK=>by obtain⟨_,_,rfl⟩:=h;exact⟨by simp,Ai _ (Aa _ (mR λ_ h=>h))⟩)
  (.refl:Keep _ ([rB B b,rB b1 b]++Av b p s S G)) ⟨rfl,rfl,rfl⟩ hK ?_ ?_ ?_
 ·rintro E r0 rec pre x lo k' S' s' L T ⟨fn,tmps,D,rfl⟩ hT ⟨rfl,hS',rfl⟩ hK' hsp mr;obtain⟨rfl,hx,_⟩:=ZM hsp rfl;obtain⟨j,hj⟩: ∃j,pre.length=j:=⟨_,rfl⟩
  rw[hj] at hx hS'⊢;obtain⟨sp,e2,_⟩:=hK'.curAt e1;have hul':=hK'.ul;have hs:=bX S j;rw[<-hS'] at hs;have mv:Me bv S'.U sp∈Av b p s' S' (L++T):=mV (λ_ h=>h) _ (by rw[e2];simp);have c0:=PK (U:=S'.U) (sp:=sp) (i:=j) Af;obtain⟨x,hxx⟩: ∃x,S'.U.getD j 0=x:=⟨_,rfl⟩
  rw[hxx] at c0;simp only[Du,Ad,Ag,Dh];refine Aj ?_;refine Cp (by exact Dw) ?_;refine Aj ?_;refine Ch (Cf [11,12] 0 14) ?_;refine Ci ?_;refine Hf e_alloc (by rintro _ _ ⟨_,_,_,rfl⟩ c hc;exact .tail _ hc) ?_;rintro _ _ ⟨b4,_,rfl,rfl⟩;obtain⟨t,ht⟩: ∃t,Er S' x=t:=⟨_,rfl⟩
  obtain⟨ok,hok⟩: ∃ok,(Th.findH S'.T x).isSome=ok:=⟨_,rfl⟩
  rw[ht,hok];refine Ci ?_;have hsx:PL S' j=if ok=false\/¬t.st=1 then 0 else x:=by unfold PL Oa;rw[hxx,ht,hok]
  obtain⟨y,hy⟩: ∃y,PL S' j=y:=⟨_,rfl⟩
  rw[hy] at hsx;have hfin:R7 S' j={S' with U:=S'.U.set j y,K:=if y=0\/(Gm S' y).2=false then(ON S'.K j (-1) 0).2 else(ON S'.K j (Ar.getD' S'.A (Gm S' y).1.1).1.fi (Gm S' y).1.2.1).2}:=by unfold R7;rw[hy]
  have h4:(ok=true/\t.st=1)\/(ok=true/\¬t.st=1)\/(ok=false/\t.st=1)\/(ok=false/\¬t.st=1):=by cases ok<;>by_cases h2:t.st=1<;>simp[h2]
  rcases h4 with⟨rfl,h2⟩|⟨rfl,h2⟩|⟨rfl,h2⟩|⟨rfl,h2⟩
  case' inl=>
   rw[Ac (by simp[h2])] at hsx;obtain⟨S2,hS2⟩: ∃S2,S2=S':=⟨_,rfl⟩
   have hS2':S2={S' with U:=S'.U.set j y}:=by rw[hS2,hsx,<-hxx,Wx Af]
   have hK2:=hK';have mr2:=mr;rw[<-hS2] at hK2 mr2;refine Aj ?_;rw[<-hS2]
  case' inr.inl=>
   rw[Ae (by simp[h2])] at hsx;refine Aj ?_;refine gh e1 hx ?_;intro S2 s2 hS2' hK2 mr2;rw[<-hsx] at hS2';refine Aj ?_
  case' inr.inr.inl=>
   rw[Ae (by simp)] at hsx;refine Aj ?_;refine gh e1 hx ?_;intro S2 s2 hS2' hK2 mr2;rw[<-hsx] at hS2';refine Aj ?_
  case' inr.inr.inr=>
   rw[Ae (by simp)] at hsx;refine Aj ?_;refine gh e1 hx ?_;intro S2 s2 hS2' hK2 mr2;rw[<-hsx] at hS2';refine Aj ?_
  all_goals
   obtain⟨sp2,e22,_⟩:=hK2.curAt e1;have c2:=PK (U:=S2.U) (sp:=sp2) (i:=j) (by rw[hK2.ul];exact hx);have mv2:=mV (l:=Av b p _ S2 (L++T)) (λ_ h=>h) (Me bv S2.U sp2) (by rw[e22];simp);rw[show S2.U.getD j 0=y by rw[hS2'];simp[List.getD,hul',hx]] at c2;have hsp:Gm S2 y=Gm S' y:=by rw[hS2'];rfl
   have hgt: ∀i,Ar.getD' S2.A i=Ar.getD' S'.A i:=λi=>by rw[hS2']
   have hKK:S2.K=S'.K:=by rw[hS2']
   refine Hw ?_;iterate 4 refine iK ?_
   refine Tf ?_;rw[hsp];obtain⟨q,hq⟩: ∃q,Gm S' y=q:=⟨_,rfl⟩
   rw[hq] at hfin⊢;refine BI ?_;by_cases h5:y=0\/q.2=false
   ·rw[Ae h5] at hfin;cases h6:q.2<;>by_cases h7:y=0;all_goals first
     |(exfalso;revert h5;rw[h6];simp[h7];done)
     |(exfalso;omega)
     |(refine Aj ?_
       refine Fy ?_;intro S3 s3 L3 hS3 hK3 hT3 mr3;refine Aj ?_;refine bV [rB B b,rB b1 b] (by exact AR) ⟨rfl,?_,rfl⟩;rw[Ah,hj,Bl,hs,hfin,hS3,hKK,hS2'])
   rw[Ac h5] at hfin;obtain⟨h6,h7⟩:q.2=true/\¬y=0:=by simp at h5;exact⟨h5.2,h5.1⟩
   first
    |(exfalso;omega)
    |(rw[h6]
      refine Aj ?_;simp only[AL,AI,AN];refine Ea ?_;rw[hgt];obtain⟨o,ho⟩: ∃o,(Ar.getD' S'.A q.1.1).1=o:=⟨_,rfl⟩
      rw[ho] at hfin⊢;refine AQ λb10=>?_;refine Ch (Cf [8] 0 9) ?_;refine Ci ?_;refine Lj ?_;intro S3 s3 L3 hS3 hK3 hT3 mr3;refine Ci ?_;refine Aj ?_;refine bV [rB B b,rB b1 b] (by exact AR) ⟨rfl,?_,rfl⟩;rw[Ah,hj,Bl,hs,hfin,hS3,hKK,hS2'])
 ·rintro D xs lo k' S' s' L rfl ⟨rfl,hS',rfl⟩ hK' hT mr;rw[EC] at hS';have e:S'=OR S:=by rw[hS'];unfold OR;rw[hul]
  subst e;simp only[Ad,Ag];refine Aj ?_;exact AU [D] _ rfl .refl (by exact A7) (.drop (.drop .refl)) ⟨rfl,s',L,hK',hT,rfl⟩
 ·rintro D c pre lo k' S' s' L hsp h;exact h.elim
end
def t7(S:KT)(k z f:Int):KT:=if k=1 then S else{S with W:=(jV S.W f (Ar.framesD k z)).2}
def t8(S:KT)(n id:Int):KT:=if 0<n then{S with H:=((G4 S.H.1 id n).2,S.H.2)} else S
def sS(S:KT)(k id:Int):KT:=if k=9 then{S with T:=(Th.addD S.T id).2} else if k=8 then{S with E:=(En.addD S.E id).2} else S
def L7(S:KT)(k z f:Int):(Int×Int)×KT:=
 if(Ar.addD S.A k z f).1.2=0 then(((Ar.addD S.A k z f).1.1,0),sS (t8 (t7 {S with A:=(Ar.addD S.A k z f).2} k z f) (Ar.slotsD k z) (Ar.addD S.A k z f).1.1) k (Ar.addD S.A k z f).1.1)
 else((0,(Ar.addD S.A k z f).1.2),{S with A:=(Ar.addD S.A k z f).2})
section
theorem rO(hl:S.T.length+1+k<=900):EK prog F C b p 141 [pV p.t,.int .i64 id] k S k (iV (Th.addD S.T id).1) {S with T:=(Th.addD S.T id).2}:=⟨λs G h=>tK h (by unfold Th.addD;(repeat' split);all_goals(try rw[fA]);all_goals(try simp only);all_goals omega) (λu hu=>oh h.tw hu) Af λG=>Th.add_any p.t S.T s.T h.th id G⟩
set_option maxHeartbeats 2000000 in
theorem oI(hK:IsK F C (n+1) S p s)(k z f:Int):Fn prog 92 [pV b,.int .i64 k,.int .i64 z,.int .i64 f] (Av b p s S G) (KK F C b p n (.tuple #[iV (L7 S k z f).1.1,iV (L7 S k z f).1.2]) (L7 S k z f).2 G):=by
 have mr:Co b p∈Av b p s S G:=mR λ_ h=>h;have hTl:=hK.tl;obtain⟨R,hR⟩: ∃R,L7 S k z f=R:=⟨_,rfl⟩
 rw[hR];unfold L7 at hR;refine AO func92 ntmps92 λE=>?_;refine Aj ?_;refine Ea ?_;refine Aj ?_;refine Fy ?_;intro S1 s1 L1 hS1 hK1 hT1 mr1;rw[<-hS1] at hR;obtain⟨id,hid⟩: ∃x,(Ar.addD S.A k z f).1.1=x:=⟨_,rfl⟩
 obtain⟨er,her⟩: ∃x,(Ar.addD S.A k z f).1.2=x:=⟨_,rfl⟩
 rw[hid,her] at hR;rw[hid,her];by_cases he:er=0
 ·rw[Ae he] at hR;obtain⟨sl,hsl⟩: ∃x,Ar.slotsD k z=x:=⟨_,rfl⟩
  rw[hsl] at hR;refine Aj ?_;simp only[AL,AI,AN];by_cases h1:k=1
  case' pos=>
   rw[show t7 S1 k z f=S1 from Ae h1] at hR;have h8:¬k=8:=by omega
   have h9:¬k=9:=by omega
   obtain⟨S2,hS2⟩: ∃S2,S1=S2:=⟨_,rfl⟩
   obtain⟨s2,hs2⟩: ∃s2,s1=s2:=⟨_,rfl⟩
   obtain⟨L2,hL2⟩: ∃L2,L1=L2:=⟨_,rfl⟩
   have hK2:=hK1;have hT2:=hT1;have mr2:=mr1;rw[hS2,hs2] at hK2;rw[hS2,hs2,hL2] at mr2;rw[hL2] at hT2;rw[hS2] at hR;have hl2:S2.T.length+1+n<=900:=by rw[<-hS2,hS1];show S.T.length+1+n<=900;omega
   refine Aj ?_;rw[hS2,hs2,hL2]
  case' neg=>
   refine Aj ?_;refine Ch (Cf [8] 0 9) ?_;refine Ci ?_;refine Lj ?_;intro S2 s2 L2 hS2 hK2 hT2' mr2;have hT2:=hT2'.trans hT1;rw[show t7 S1 k z f=S2 from(Ac h1).trans hS2.symm] at hR;have hl2:S2.T.length+1+n<=900:=by rw[hS2,hS1];show S.T.length+1+n<=900;omega
   refine Ci ?_;refine Aj ?_
  all_goals
   refine Ea ?_;rw[hsl];refine Aj ?_;by_cases hs:0<sl
   case' pos=>
    refine Aj ?_;refine Fy ?_;intro S3 s3 L3 hS3 hK3 hT3' mr3;have hT3:=hT3'.trans hT2;rw[show t8 S2 sl id=S3 from(Ae hs).trans hS3.symm] at hR;have hl3:S3.T.length+1+n<=900:=by rw[hS3];exact hl2
    refine Aj ?_
   case' neg=>
    rw[show t8 S2 sl id=S2 from Ac hs] at hR;obtain⟨S3,hS3⟩: ∃S3,S2=S3:=⟨_,rfl⟩
    obtain⟨s3,hs3⟩: ∃s3,s2=s3:=⟨_,rfl⟩
    obtain⟨L3,hL3⟩: ∃L3,L2=L3:=⟨_,rfl⟩
    have hK3:=hK2.mono (Nat.le_succ _);have hT3:=hT2;have mr3:=mr2;rw[hS3,hs3] at hK3;rw[hS3,hs3,hL3] at mr3;rw[hL3] at hT3;rw[hS3] at hR;have hl3:S3.T.length+1+n<=900:=by rw[<-hS3];exact hl2
    refine Aj ?_;rw[hS3,hs3,hL3]
   all_goals
    by_cases h9:k=9
    ·first
      |(exfalso;omega)
      |(refine Aj ?_
        refine Fy (q:=rO hl3) ?_;intro S4 s4 L4 hS4 hK4 hT4' mr4;have hT4:=hT4'.trans hT3;rw[show sS S3 k id=S4 from(Ae h9).trans hS4.symm] at hR;rw[<-hR];refine Aj ?_;exact A4)
    by_cases h8:k=8
    ·first
      |(exfalso;omega)
      |(refine Aj ?_
        refine Fy ?_;intro S4 s4 L4 hS4 hK4 hT4' mr4;have hT4:=hT4'.trans hT3;rw[show sS S3 k id=S4 from(Ac h9).trans ((Ae h8).trans hS4.symm)] at hR;rw[<-hR];refine Aj ?_;exact A4)
    rw[show sS S3 k id=S3 from(Ac h9).trans (Ac h8)] at hR;rw[<-hR];refine Aj ?_;exact A4
 ·rw[Ac he] at hR;rw[<-hR];refine Aj ?_;exact A4
instance{k z f:Int}:EK prog F C b p 92 [pV b,.int .i64 k,.int .i64 z,.int .i64 f] (n+1) S n (.tuple #[iV (L7 S k z f).1.1,iV (L7 S k z f).1.2]) (L7 S k z f).2:=⟨λs G h=>oI h k z f⟩
end
end Go.Proofs.YtlkgekpmileobaaGreat
