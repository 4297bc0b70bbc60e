/- Laws that the statement's proof leans on (joined out of several texts). -/
import Derived.Test.YtlifcingifodfaaGreatGg15
set_option maxHeartbeats 4000000
set_option linter.unusedVariables false
set_option linter.unusedSimpArgs false
namespace Go.Proofs.YtlifcingifodfaaGreat
open Tryz
open List(toArray)
open Go.RowKit
set_option maxRecDepth 20000
variable{k F C b n j N i bv cap e:Nat}{S:KT}{s:RL}{p:RP}{G L2 lo:Ac}{P:Program}{U:A4}{E:World}{Q:Exit->Act->World->Prop}{ds:List Deferred}{sp:Ap}{id:Int}{ro:Option Nat}{ty:TypeId}{pos:String}
namespace Ar
theorem all_any(b:Nat)(S:ArT)(lq:Ac)(hA:IsA b S lq)(l:Ac)(CG: ∀c,c∈lq->c∈l):
 Fn prog 73 [.pointer (some ⟨b,0,none⟩)] l λv l'=> ∃cs,OwnSl 100 9 v S.os.length (ocs S.os) cs/\l'=cs++l:=by
 have Eh:=hA.ok.len;obtain⟨Dm,v,cs,rfl,ho⟩:=hA;obtain⟨gb,LD,Oz⟩:=WR ho;refine AN func73 ntmps73 λE=>?_;refine Im λb3=>?_;refine AS (Az rfl rfl (Jm _ rfl _)) ?_;rintro _ _ ⟨B,rfl,rfl⟩;refine gz ?_;refine Dg (α:=ObT×Nat) (ps:=[8,9]) (lb:=[.pointer (some ⟨B,0,none⟩)]) rfl (HY B b S.n S.g v S.os gb LD Af) (λ_=>rfl) rfl
  (λpre l=> ∃u NX,OwnSl 100 9 u pre.length (ocs (pre.map Prod.fst)) NX/\l=[xB B (some ⟨b,0,none⟩),(b3,.cells #[u] 43 (0,0))]++NX)
  (λc pre l=>False)
  _ l (λpre l2 X2 hX h=>by obtain⟨u,NX,_,rfl⟩:=h;exact⟨List.Mem.head _,Aa _ (hX _ (CG _ (.head _)))⟩) (by exact AW) ⟨_,[],OwnSl.nil _ _,rfl⟩ ?_ ?_ ?_
 ·rintro E r0 FU pre ⟨o,k⟩ l' T ⟨fn,tmps,D,rfl⟩ hT ⟨u,NX,EX,rfl⟩ Dw;obtain⟨Gc,hk,_⟩:=Qo Dw;simp only at Gc hk;have ZT:=(Ay.1 Gc).1;obtain⟨sp,rfl⟩:=Oz _ _ Gc;have ut:=hT _ (CG _ (.tail _ (.head _)));obtain⟨x1,x2⟩:=ea Gc sp;have hu1:u.oneCell'=true:=EX.one;simp only[DX,Ae,Ag];refine gz ?_;refine CK (.there (.there (FK _ _ _ _ _))) ?_;generalize hX1:(r0,Obj.loop (DR fn tmps _ _ _ D .busy none))::T=X1;have hmX:(gb,Obj.cells (toArray (ocs S.os++sp)) 100 (0,0))∈X1:=by rw[<-hX1];exact .tail _ ut
  refine gz ?_;refine Cm [4,5,6] 7 ([]) ?_;refine pz ?_;apply Gp (S:=[(b3,.cells #[u] 43 (0,0))])
  ·exact DS rfl (.head _) rfl
  ·intro c hc;cases hc with
   |head=>exact .tail _ (.head _)
   |tail _ h=>cases h
  ·rfl
  ·rfl
  ·rfl
  refine pz ?_;apply Gp (S:=[(gb,Obj.cells (toArray (ocs S.os++sp)) 100 (0,0))])
  ·exact Dt rfl (.head _) x1 x2
  ·intro c hc;cases hc with
   |head=>exact .tail _ (.tail _ (Aa _ hmX))
   |tail _ h=>cases h
  ·rfl
  ·rfl
  ·rfl
  refine pz ?_;apply G9
  ·apply FE (ws:=obC o) (k:=9)
   ·rfl
   ·rfl
   ·rfl
   ·decide
   ·decide
  ·rfl
  ·rfl
  ·rfl
  ·intro _ _ _ c hc;cases hc
  ·rintro _ _ ⟨bl,_,rfl,rfl⟩ x hx _ c hc;have h3: ∀q:Obj,(b3,q)∈(bl,Obj.cells (toArray (obC o)) 100 (0,0))::xB B (some ⟨b,0,none⟩)::(b3,q)::(NX++X1):=λq=> .tail _ (.tail _ (.head _));simp only[At,BQ,EE] at hx;rcases hx with rfl|rfl<;>simp only[At,BQ,EE] at hc<;>subst hc
   ·exact .tail _ (.tail _ (.tail _ (Aa _ hmX)))
   ·exact h3 _
  rintro _ _ ⟨bl,_,rfl,rfl⟩;refine pz ?_;apply G9
  ·apply Hz (k:=9) (X:=[xB B (some ⟨b,0,none⟩),(b3,.cells #[u] 43 (0,0))]) (cs:=NX) (xs:=ocs (pre.map Prod.fst)) (n:=pre.length) (zs:=p7) (ws:=obC o)
   ·rfl
   ·rfl
   ·rfl
   ·exact EX
   ·rfl
   ·simp[Value.oneCell']
   ·omega
   ·decide
  ·rfl
  ·rfl
  ·rfl
  ·intro _ _ _ c hc;cases hc
  ·exact λ_ _ _ x hx ha=>Dh BA hx ha
  rintro v' _ ⟨c2,Fg,rfl⟩;have Jz:v'.oneCell'=true:=Fg.one;simp only[Ae,Ag];apply Hy
  ·apply GF (cs:=[u])
   ·rfl
   ·rfl
   ·exact Jz
   ·exact BW
   ·exact .zero
   ·exact DY
  ·rfl
  ·rfl
  ·intro _ _ _ c hc;cases hc
  ·exact λ_ _ _ x hx ha=>Dh BA hx ha
  rintro _ _ ⟨rfl,rfl⟩;refine pz ?_;refine gz ?_;rw[<-hX1];refine Ci _ (.refl) ⟨v',c2,?_,rfl⟩;rw[Aq,show[(o,k)].map Prod.fst=[o] from rfl,lK,Ah];exact Fg
 ·rintro D xs l' rfl ⟨u,NX,EX,rfl⟩;have hu1:u.oneCell'=true:=EX.one;simp only[Ae,Ag];refine gz ?_;refine AU [D] (NX++l) rfl (l':=NX++l) (by exact AW) (by exact Ba) .refl ?_;rw[ed,show(XN S.os).map Prod.fst=S.os from List.zipIdx_map_fst ..] at EX;exact⟨NX,EX,rfl⟩
 ·rintro D c pre l' Dw h;exact h.elim
end Ar
namespace As
theorem setFrom_all(cs vs:Ap)(h:vs.length=cs.length):Da (toArray cs) 0 vs=toArray vs:=by
 apply DI;intro j;rw[RG _ _ _ _ (by simp[h])];by_cases hj:j<vs.length
 ·rw[Ad Af];simp
 ·rw[Ab Af];simp;rw[Bg Af,Bg Af]
theorem LSub.of_all{n:Nat}(ws:Ap)(h:ws.length=n):LSub ws 0 n ws:=by
 subst h
 induction ws with
 |nil=>exact .done
 |cons w ws ih=>exact .take ih
theorem pools_any(b:Nat)(s:ASt)(ws:Ap)(hw:s.cells.extract 0 80=toArray ws)(hl:ws.length=80)(h1: ∀v,v∈ws->v.oneCell'=true)(l:Ac)(hm:asA b s∈l):Fn prog 77 [.pointer (some ⟨b,0,none⟩)] l λv l'=>v= .agg (toArray ws)/\l'=l:=by
 refine AN func77 ntmps77 λE=>?_;refine Im λb2=>?_;refine Bh (Dt (cs:=s.cells) (n:=80) rfl (by exact BW) (by rw[s.cells_size];omega) hw) ?_;refine gz ?_;apply M9
 ·apply EH (n:=80)
  ·rfl
  ·rfl
  ·simpa using hl
  ·exact h1
  ·exact .here
  ·simp
 ·rfl
 ·rfl
 rintro _ _ ⟨rfl,rfl⟩;rw[DQ,setFrom_all _ _ (by rw[hl];rfl)];refine gz ?_;refine AU [] ((b2,.cells (toArray ws) 50 (0,0))::l) rfl (l':=l) (by exact AW) (Cq rfl (by exact BW) (LSub.of_all (n:=80) _ hl) .nil) (by exact AW) ⟨rfl,rfl⟩
end As
abbrev rB(B b:Nat):Bd:=(B,.cells #[pV b] 124 (0,0))
theorem Ph(b:Nat)(l:Ac):Fn prog 79 [pV b] l λv l'=> ∃B,v= .func (.func 120) #[] #[pV B]/\l'=rB B b::l:=by refine AN func79 ntmps79 λE=>?_;refine AQ λB=>?_;exact Bb .refl ⟨B,rfl,rfl⟩
theorem Ux(h:k<n):(List.range n).take (k+1)=(List.range n).take k++[k]:=by rw[G7,G7,EW Af,EW Af,CC]
theorem Nz(B b:Nat)(p:RP)(bv C cap:Nat)(hC:C<=100)(hv:p.v= .slice (some ⟨bv,0,none⟩) C cap):
 FC prog 120 [pV B] (λi:Nat=>[.int .i64 i,.pointer (some ⟨bv,i*1,none⟩)]) (λxs=>xs=List.range C) (λpre=>pre<+:List.range C) (λ_ l=>rB B b∈l/\CF b p∈l):=by
 refine⟨λr I Ix G0 Cb hY l G hG h0=>?_⟩;obtain⟨n1,n2⟩:=Cb _ _ G hG h0;simp only[CF,hv] at Cb n2;refine AN func120 ntmps120 λE=>?_;refine Aj ?_;refine CN (α:=Nat×Ac) (λx=>[(0,.func (.yield r) #[] #[]),(1,pV B),(10,.int .i64 C),(11,.int .i64 x.1)]) (λx=>x.2++G) (λx=>x.1<=C/\I ((List.range C).take x.1) x.2) (λx=>C-x.1) (0,l) ⟨Bp _,h0⟩ ⟨rfl,rfl,rfl,rfl,trivial⟩ .refl ?_;clear n1 n2;rintro⟨k,l⟩ ⟨hk,hI⟩;simp only at hk hI⊢;obtain⟨n1,n2⟩:=Cb _ _ G hG hI;by_cases C9:k<C
 ·refine Aj ?_;have hy:=hY ((List.range C).take k) k l G hG hI (by rw[<-Ux C9];exact BK _ _);refine AS (C5 rfl rfl hy) ?_;rintro v l' ⟨l1,rfl,⟨rfl,LB⟩|⟨rfl,hx⟩⟩
  ·refine Aj ?_;exact BO (k+1,l1) ⟨by simp only;omega,by simp only;rw[Ux C9];exact LB⟩ (by simp only;omega) ⟨rfl,rfl,rfl,rfl,trivial⟩ .refl
  ·refine Aj ?_;exact BE [] rfl .refl (by exact Ba) ⟨l1,rfl,.inr ⟨_,by rw[<-Ux C9];exact BK _ _,hx⟩⟩
 ·obtain rfl:k=C:=by omega
  rw[BD (by simp)] at hI;refine Aj ?_;exact Bb .refl ⟨l,rfl,.inl ⟨_,rfl,hI⟩⟩
instance{F C k:Nat}{S:KT}{p:RP}{b:Nat}{id:Int}:EK prog F C b p 203 [pV b,.int .i64 id] k S k (iV (IY S id).1) (IY S id).2:=⟨λs G h=>ye h id⟩
section
variable{α:Type}
def sJ(F C b:Nat)(p:RP)(G:Ac)(J:List α->Nat->KT->Ac->Prop)(pre:List α)(l:Ac):Prop:= ∃lo k S s L,J pre k S lo/\IsK F C k S p s/\Tail L G/\l=lo++Ax b p s S L
def sK(F C b:Nat)(p:RP)(G:Ac)(J:Code->List α->Nat->KT->Ac->Prop)(c:Code)(pre:List α)(l:Ac):Prop:= ∃lo k S s L,J c pre k S lo/\IsK F C k S p s/\Tail L G/\l=lo++Ax b p s S L
variable{fr:Fr}{L0:Ac}{g:Operand}{ps:List Tmp}{assign body:Code}{gf:Nat}{lb:Ap}{enc:α->Ap}{Sx Sp:List α->Prop}{Need:List α->Ac->Prop}
theorem Uy(hg:ev fr g=some (.func (.func gf) #[] lb.toArray))[en:EN P gf](hit:FC P gf lb enc Sx Sp Need)(NO: ∀x,(enc x).length=ps.length)(jI:ps.all (λp=>Nat.blt p N)=true)
 (J:List α->Nat->KT->Ac->Prop)(JX:Code->List α->Nat->KT->Ac->Prop)(Cb: ∀pre lo k S s L X,J pre k S lo->IsK F C k S p s->Need pre ((lo++Ax b p s S L)++X))(hL:Keep L0 (lo++Ax b p s S G))(h0:J [] k S lo)(hK:IsK F C k S p s)
 (M0: ∀(E:World) (r:Nat) (FU:LoopState->Option Code->Loop) (pre:List α) (x:α) (lo:Ac) (k:Nat) (S:KT) (s:RL) (L T:Ac),(∃fn tmps D,FU=DR fn tmps ps.toArray assign body D)->Tail L G->J pre k S lo->IsK F C k S p s->Sp (pre++[x])->CF b p∈Ax b p s S (L++T)->
   BR P (some r) N E assign (Exit.then (PI P r body (roundPost P r (RK E (Kz (sJ F C b p G J) (sK F C b p G JX) (pre++[x]) r FU T)))) (λ_ _ _=>False)) (DX ps (enc x) fr) [] (lo++(r,.loop (FU .ready none))::Ax b p s S (L++T)))
 (N4: ∀(D:Nat) (xs:List α) (lo:Ac) (k:Nat) (S:KT) (s:RL) (L:Ac),Sx xs->J xs k S lo->IsK F C k S p s->Tail L G->CF b p∈Ax b p s S L->C0 N E Q .normal fr (Hw D::ds) (Cr D::(lo++Ax b p s S L)))
 (KE: ∀(D:Nat) (c:Code) (pre:List α) (lo:Ac) (k:Nat) (S:KT) (s:RL) (L:Ac),Sp pre->JX c pre k S lo->IsK F C k S p s->Tail L G->CF b p∈Ax b p s S L->BR P none N E c Q fr (Hw D::ds) (Cr D::(lo++Ax b p s S L))):
 BR P none N E (.rangeFunc g ps.toArray assign body) Q fr ds L0:=by
 refine Dg hg hit NO jI (sJ F C b p G J) (sK F C b p G JX) (lo++Ax b p s S G) [] (λpre l X _ h=>by obtain⟨lo,k,S,s,L,h1,h2,_,rfl⟩:=h;exact Cb _ _ _ _ _ _ _ h1 h2) (by rw[Bj];exact hL) ⟨lo,k,S,s,G,h0,hK,.nil,rfl⟩ ?_ ?_ ?_
 ·rintro E r FU pre x l T hr-⟨lo,k,S,s,L,h1,h2,h3,rfl⟩ Dw;refine Em (.of_perm ?_) (M0 E r FU pre x lo k S s L T hr h3 h1 h2 Dw (mR λ_ h=>h));unfold Ax;exact BX
 ·rintro D xs l hS ⟨lo,k,S,s,L,h1,h2,h3,rfl⟩;rw[Bj];exact N4 D xs lo k S s L hS h1 h2 h3 (mR λ_ h=>h)
 ·rintro D c pre l hS ⟨lo,k,S,s,L,h1,h2,h3,rfl⟩;rw[Bj];exact KE D c pre lo k S s L hS h1 h2 h3 (mR λ_ h=>h)
variable{r:Nat}{fn:FuncId}{tmps:Array Value}{pt:Array Tmp}{D:Nat}{J:List α->Nat->KT->Ac->Prop}{JX:Code->List α->Nat->KT->Ac->Prop}{xs:List α}{L T Lst:Ac}
theorem fm{o:Obj}(hk:Keep Lst (lo++(r,o)::Ax b p s S L2))(hT:Tail L2 (L++T)): ∃X,Keep Lst ((lo++Ax b p s S (X++L))++(r,o)::T):=by obtain⟨X,rfl⟩:=hT;refine⟨X,hk.trans (.of_perm ?_)⟩;unfold Ax;exact BX
theorem iU(lo:Ac)(hk:Keep Lst (lo++(r,.loop (DR fn tmps pt assign body D .busy none))::Ax b p s S L2))(hJ:J xs k S lo)(hT:Tail L2 (L++T):=by exact zTl)(hL:Tail L G:=by assumption)(hK:IsK F C k S p s:=by infer_instance):C0 N E (roundPost P r (RK E (Kz (sJ F C b p G J) (sK F C b p G JX) xs r (DR fn tmps pt assign body D) T))) .normal fr ds Lst:=by obtain⟨X,h⟩:=fm hk hT;exact Ci _ h ⟨lo,k,S,s,X++L,hJ,hK,hL.step X,rfl⟩
theorem sL(lo:Ac)(hk:Keep Lst (lo++(r,.loop (DR fn tmps pt assign body D .busy none))::Ax b p s S L2))(hJ:JX .ret xs k S lo)(hT:Tail L2 (L++T):=by exact zTl)(hL:Tail L G:=by assumption)(hK:IsK F C k S p s:=by infer_instance):C0 N E (roundPost P r (RK E (Kz (sJ F C b p G J) (sK F C b p G JX) xs r (DR fn tmps pt assign body D) T))) .ret fr ds Lst:=by obtain⟨X,h⟩:=fm hk hT;exact EI _ h ⟨lo,k,S,s,X++L,hJ,hK,hL.step X,rfl⟩
end
abbrev NU(bv:Nat)(U:A4)(sp:Ap):Bd:=(bv,.cells (toArray (U.map CU++sp)) 3 (0,0))
section
theorem IsK.cur(h:IsK F C k S p s): ∃bv cap sp,p.v= .slice (some ⟨bv,0,none⟩) C cap/\s.V=[NU bv S.U sp]/\C<=cap/\cap<=maxLen/\C+sp.length=cap:=by
 obtain⟨h1,⟨_,h0,_⟩|⟨bv,cap,sp,e1,e2,z1,z2,z3⟩⟩:=h.cu
 ·have:=h.c1;omega
 ·exact⟨bv,cap,sp,e1,e2,z1,z2,by rw[Ah,h1] at z3;omega⟩
theorem lfV{k' f:Nat}{vs:Ap}{x:Value}{U':A4}(hK:IsK F C k S p s)(hk:k'<=k)(hl:U'.length=S.U.length)(h: ∀bv cap sp G,p.v= .slice (some ⟨bv,0,none⟩) C cap->CF b p∈G->(∀c,c∈s.T->c∈G)->Fn prog f vs (NU bv S.U sp::G) λv l'=>v=x/\ ∃X,l'=X++NU bv U' sp::G):Fn prog f vs (Ax b p s S G) (KK F C b p k' x {S with U:=U'} G):=by
 obtain⟨bv,cap,sp,e1,e2,z1,z2,z3⟩:=hK.cur;have ho:OwnSl 3 1 p.v C (U'.map CU) [NU bv U' sp]:=⟨by rw[A7,hl,hK.ul];omega,.inr ⟨bv,cap,sp,e1,rfl,z1,z2,by rw[Ah,A7,hl,hK.ul];omega⟩⟩
 exact Fn.re (.of_perm (by unfold Ax;rw[e2];exact BX)) (h bv cap sp (CF b p::As.asA p.n S.N::(s.M++(s.C++(s.A++(s.H++(s.T++(s.Q++(s.E++G)))))))) e1 (.head _) (λc hc=>by simp[hc])) λv l' ⟨g1,X,g2⟩=>⟨Ax b p {s with V:=[NU bv U' sp]} {S with U:=U'} (X++G),by rw[g2];unfold Ax;exact A8 [],g1,{s with V:=[NU bv U' sp]},_,{hK.mono hk with cu:=ho,ul:=hl.trans hK.ul},⟨X,rfl⟩,rfl⟩
theorem RR(h:i<U.length):(toArray (U.map CU++sp))[i]?=some (.int .i64 (U.getD i 0)):=by rw[AE,AH (by simpa using h),A6,Al h,List.getD,Al h];rfl
theorem vC(h:i<U.length)(v:Int):(toArray (U.map CU++sp)).setIfInBounds i (CU v)=toArray ((U.set i v).map CU++sp):=by rw[BB,Hr _ _ (by simpa using h),HT]
def Ee(U:A4)(core:Int):Int:=if core<0\/core>=U.length then 0 else U.getD core.toNat 0
theorem fo{x:Nat}{pre:List Nat}(h:pre++[x]<+:List.range n)(hj:pre.length=j):x=j/\j<n/\pre=List.range j:=by
 have h4:=h.length_le;rw[Ah,Fc,Bl] at h4;obtain⟨t,ht⟩:=h;have e:(pre++[x])=List.range (j+1):=by have:=BI (List.take (j+1)) ht;rw[List.take_append_of_le_length (by simp;omega),BD (by simp;omega),G7,EW Af] at this;exact this
 rw[CC] at e;have:=JP e rfl;exact⟨by simpa using this.2,Af,this.1⟩
theorem Ab5(hK:IsK F C k S p s)(core:Int)(l:Ac)(hl: ∀c,c∈Ax b p s S G->c∈l):Fn prog 104 [pV b,.int .i64 core] l λv l'=>v=iV (Ee S.U core)/\l'=l:=by
 obtain⟨bv,cap,sp,e1,e2,z1,z2,z3⟩:=hK.cur;have hC:=hK.c1;have ai:=hK.ul;have mr:CF b p∈l:=mR hl;have mv:NU bv S.U sp∈l:=mV hl _ (by rw[e2];simp);refine AN func104 ntmps104 λE=>?_;refine AQ λb3=>?_;refine AQ λb4=>?_;refine AS (Az rfl rfl (Ph b _)) ?_;rintro _ _ ⟨B,rfl,rfl⟩;refine Aj ?_;refine Dg (α:=Nat) (ps:=[9,10]) (lb:=[pV B]) rfl (Nz B b p bv C cap Af e1) (λ_=>rfl) rfl
  (λpre l=>(∀x:Nat,x∈pre->¬(x:Int)=core)/\l=[rB B b,BS b4 0,BS b3 core])
  (λc pre l=>c= .ret/\ ∃x:Nat,x<C/\(x:Int)=core/\l=[BS b4 (S.U.getD x 0)])
  [rB B b,BS b4 0,BS b3 core] l (λpre l2 X hX h=>⟨by rw[h.2];exact Ai _ (.head _),Aa _ (hX _ mr)⟩) (by exact AW) ⟨λ_ h=>(nomatch h),rfl⟩ ?_ ?_ ?_
 ·rintro E r0 FU pre x l' X ⟨fn,tmps,D,rfl⟩ hX ⟨hn,rfl⟩ Dw;obtain⟨rfl,hx,_⟩:=fo Dw rfl;have mX:=hX _ mv;have c0:=RR (U:=S.U) (sp:=sp) (i:=pre.length) Af;simp only[DX,Ae,Ag,Dr];refine Aj ?_;refine CK (by exact DY) ?_;refine Aj ?_;by_cases h:((pre.length:Nat):Int)=core
  ·refine Aj ?_;refine EI [BS b4 (S.U.getD pre.length 0)] (by exact AW) ⟨rfl,pre.length,hx,h,rfl⟩
  ·refine Aj ?_;exact Ci [rB B b,BS b4 0,BS b3 core] (by exact AW) ⟨λz hz=>by
    rcases AF.1 hz with hz|hz
    ·exact hn z hz
    ·rw[AC.1 hz];exact h,rfl⟩
 ·rintro D xs l' rfl ⟨hn,rfl⟩;have e0:Ee S.U core=0:=by
   unfold Ee
   split
   ·rfl
   ·rename_i h;exact absurd (show((core.toNat:Nat):Int)=core by omega) (hn core.toNat (by simp;omega))
  rw[e0];simp only[Ae,Ag];refine Aj ?_;exact AU [D] _ rfl (l':=l) (by exact AW) (by exact Ba) (by exact AW) ⟨rfl,rfl⟩
 ·rintro D c pre l' Dw ⟨rfl,x,hx,rfl,rfl⟩;have e0:Ee S.U (x:Nat)=S.U.getD x 0:=by unfold Ee;rw[Ab Af,A0]
  rw[e0];simp only[Ae,Ag];refine Aj ?_;exact AU [D] _ rfl (l':=l) (by exact AW) (by exact Ba) (by exact AW) ⟨rfl,rfl⟩
instance[h:IsK F C k S p s]{core:Int}:QF prog 104 [pV b,.int .i64 core] (Ax b p s S G) (iV (Ee S.U core)):=⟨λl hl=>Ab5 h core l hl⟩
def NV(U:A4)(core id:Int)(j:Nat):A4:=(U.take j).mapIdx (λi x=>if(i:Int)=core then id else if x=id then 0 else x)++U.drop j
def Mm(S:KT)(core id:Int):Int×KT:=if core<0\/core>=S.U.length then(3,S) else if MY S id=false/\¬id=0 then(2,S) else(0,{S with U:=NV S.U core id S.U.length})
theorem Zp(U:A4)(core id:Int)(j:Nat):(NV U core id j).length=U.length:=by unfold NV;simp;omega
theorem iW{core:Int}(h:j<U.length):(NV U core id j).getD j 0=U.getD j 0/\NV U core id (j+1)=(NV U core id j).set j (if(j:Int)=core then id else if U.getD j 0=id then 0 else U.getD j 0):=by
 have e1:U.drop j=U.getD j 0::U.drop (j+1):=by rw[Di h,List.getD,Al h];rfl
 have e2:U.take (j+1)=U.take j++[U.getD j 0]:=by rw[Ch,List.getD,Al h];rfl
 have ln:((U.take j).mapIdx λi x=>if(i:Int)=core then id else if x=id then 0 else x).length=j:=by simp;omega
 unfold NV;constructor
 ·rw[List.getD,AY (by rw[ln];omega),ln,DV,e1];rfl
 ·rw[e2,e1,Cv _ _ (by rw[ln];omega),ln,DV,List.mapIdx_append,Am];simp[EW (Nat.le_of_lt h)]
end
theorem Zq(h:j<U.length):U.set j (U.getD j 0)=U:=by
 refine CI λi=>?_;rw[EP]
 split
 ·rename_i e;subst e;simp[h]
 ·rfl
section
theorem Ab6(hK:IsK F C k S p s)(core id:Int):Fn prog 103 [pV b,.int .i64 core,.int .i64 id] (Ax b p s S G) (KK F C b p k (iV (Mm S core id).1) (Mm S core id).2 G):=by
 have hC:=hK.c1;have ai:=hK.ul;have key:(Mm S core id).2={S with U:=(Mm S core id).2.U}:=by unfold Mm;(repeat' split)<;>rfl
 rw[key];refine lfV hK (Bf _) (by unfold Mm;(repeat' split)<;>first|rfl|exact Zp _ _ _ _) λbv cap sp G e1 mr mt=>?_;have QT: ∀l2,(∀c,c∈G->c∈l2)->Fn prog 95 [pV p.t,.int .i64 id] l2 _:=λl2 h2=>Th.get_any p.t S.T s.T hK.th id l2 λc hc=>h2 _ (mt c hc);have nC:CF b p=(b,.cells (toArray [pV p.m,pV p.c,pV p.a,pV p.h,pV p.n,pV p.t,pV p.q,pV p.e,.slice (some ⟨bv,0,none⟩) C cap]) 162 (0,0)):=by unfold CF;rw[e1]
 have HV:=mr;rw[nC] at HV;refine AN func103 ntmps103 λE=>?_;refine AQ λb4=>?_;refine AQ λb5=>?_;refine IB ?_;by_cases hb:core<0\/core>=C
 ·rw[show Mm S core id=(3,S) by unfold Mm;rw[ai,Ad hb]];by_cases h1:core<0<;>by_cases h2:core>=C;all_goals first
   |(exfalso;omega)
   |(refine BM ?_
     refine Aj ?_;exact Bb .refl ⟨rfl,[BS b5 id,BS b4 core],rfl⟩)
 refine BM ?_;refine Aj ?_;refine CA (Cu [9,10] 0 12) ?_;refine CE ?_;refine dX ?_ (AL rfl rfl λl2 h2=>QT l2 λc hc=>h2 _ (.tail _ (.tail _ (.tail _ hc))));refine CE ?_;refine Ij e_alloc (by rintro _ _ ⟨_,_,_,rfl⟩ c hc;exact .tail _ hc) ?_;rintro _ _ ⟨b7,_,rfl,rfl⟩;refine CE ?_;obtain⟨t,ht⟩: ∃t,(Th.findH S.T id).getD Th.thZ=t:=⟨_,rfl⟩
 rw[ht];obtain⟨ok,Dm⟩: ∃ok,(Th.findH S.T id).isSome=ok:=⟨_,rfl⟩
 rw[Dm];refine CE ?_;by_cases aj:ok=false/\¬id=0
 ·rw[show Mm S core id=(2,S) by unfold Mm MY;rw[ai,Ab hb,Dm,Ad aj]];obtain⟨rfl,h0⟩:=aj;refine Aj ?_;exact Bb .refl ⟨rfl,[Th.thC b7 t,BS b5 id,BS b4 core],rfl⟩
 rw[show Mm S core id=(0,{S with U:=NV S.U core id C}) by unfold Mm MY;rw[ai,Ab hb,Dm,Ab aj]];cases ok
 case' false=>
  have h0:id=0:=by
   by_cases e:id=0
   ·exact e
   ·exact absurd ⟨rfl,e⟩ aj
 all_goals
  refine Aj ?_;refine AS (Az rfl rfl (Ph b _)) ?_;rintro _ _ ⟨B,rfl,rfl⟩;refine Aj ?_;refine Dg (α:=Nat) (ps:=[43,44]) (lb:=[pV B]) rfl (Nz B b p bv C cap Af e1) (λ_=>rfl) rfl
   (λpre l=>l=[rB B b,Th.thC b7 t,BS b5 id,BS b4 core,NU bv (NV S.U core id pre.length) sp])
   (λc pre l=>False)
   [rB B b,Th.thC b7 t,BS b5 id,BS b4 core,NU bv S.U sp] G (λpre l2 X hX h=>⟨by rw[h];exact Ai _ (.head _),Aa _ (hX _ mr)⟩) (by exact AW) (by simp[NV]) ?_ ?_ ?_
  ·rintro E r0 FU pre x l' X ⟨fn,tmps,D,rfl⟩ hX rfl Dw;obtain⟨rfl,hx,_⟩:=fo Dw rfl;obtain⟨j,hj⟩: ∃j,pre.length=j:=⟨_,rfl⟩
   rw[hj] at hx⊢;obtain⟨g1,g2⟩:=iW (core:=core) (id:=id) (U:=S.U) (j:=j) Af;have hlj:j<(NV S.U core id j).length:=by rw[Zp];omega
   have c0:=RR (sp:=sp) hlj;rw[g1] at c0;have us:=vC (sp:=sp) hlj;simp only[DX,Ae,Ag,Dr];refine Aj ?_;refine CK (by exact DY) ?_;refine Aj ?_;by_cases h:((j:Nat):Int)=core
   ·rw[Ad h] at g2;refine Aj ?_;refine M9 (Du (b:=bv) (off:=j) (cs:=toArray ((NV S.U core id j).map CU++sp)) rfl rfl rfl (by rw[show(Value.int IntKind.i64 id)=CU id from rfl,us,<-g2];exact DY) (by rw[Bv,Ah,A7];omega)) rfl rfl ?_;rintro _ _ ⟨rfl,rfl⟩;refine Aj ?_;exact Ci [rB B b,Th.thC b7 t,BS b5 id,BS b4 core,NU bv (NV S.U core id (j+1)) sp] (by exact AW) (by simp[hj])
   rw[Ab h] at g2;refine Aj ?_;refine IB ?_;by_cases h2:S.U.getD j 0=id
   ·rw[Ad h2] at g2;refine BM ?_;refine Aj ?_;refine M9 (Du (b:=bv) (off:=j) (cs:=toArray ((NV S.U core id j).map CU++sp)) rfl rfl rfl (by rw[show(Value.int IntKind.i64 0)=CU 0 from rfl,us,<-g2];exact DY) (by rw[Bv,Ah,A7];omega)) rfl rfl ?_;rintro _ _ ⟨rfl,rfl⟩;refine Aj ?_;exact Ci [rB B b,Th.thC b7 t,BS b5 id,BS b4 core,NU bv (NV S.U core id (j+1)) sp] (by exact AW) (by simp[hj])
   ·rw[Ab h2] at g2;refine BM ?_;refine Aj ?_;exact Ci [rB B b,Th.thC b7 t,BS b5 id,BS b4 core,NU bv (NV S.U core id (j+1)) sp] (by rw[g2,show(NV S.U core id j).set j (S.U.getD j 0)=NV S.U core id j by rw[<-g1];exact Zq hlj];exact AW) (by simp[hj])
  ·rintro D xs l' rfl rfl;rw[Fc];simp only[Ae,Ag];refine Aj ?_;exact AU [D] _ rfl .refl (by exact Ba) (.drop (.drop (.drop (.drop .refl)))) ⟨rfl,[],rfl⟩
  ·rintro D c pre l' Dw h;exact h.elim
instance{core id:Int}:EK prog F C b p 103 [pV b,.int .i64 core,.int .i64 id] k S k (iV (Mm S core id).1) (Mm S core id).2:=⟨λs G h=>Ab6 h core id⟩
end
theorem Z3{A l:Ac}(hl: ∀c,c∈A->c∈l): ∀{f:Nat} {vs:Ap} {v:Value} [QF P f vs A v],QF P f vs l v:=by intro f vs v q;exact⟨λl2 h=>q.out l2 λc hc=>h c (hl c hc)⟩
abbrev Ei(S:KT)(x:Cs):CapT:=(getD' S.H.1 x).1
def FY(S:KT)(id:Int):(Int×Int×Int)×Bool:=
 if MY S id=false then((0,0,0),false)
 else if ¬(getD' S.H.1 (id,1)).2=0\/¬(Ei S (id,1)).kind=5 then((0,0,0),false)
 else if(As.ofP S.N (Ei S (id,1)).obj).2.2=false\/¬(Ar.getD' S.A (Ei S (id,1)).obj).1.kd=5 then((0,0,0),false)
 else(((Ei S (id,1)).obj,(As.ofP S.N (Ei S (id,1)).obj).1,(As.ofP S.N (Ei S (id,1)).obj).2.1),true)
section
theorem sM(hK:IsK F C k S p s)(id:Int)(l:Ac)(hl: ∀c,c∈Ax b p s S G->c∈l):Fn prog 110 [pV b,.int .i64 id] l λv l'=>v= .tuple #[iV (FY S id).1.1,iV (FY S id).1.2.1,iV (FY S id).1.2.2,.bool (FY S id).2]/\l'=l:=by
 have mr:CF b p∈l:=mR hl;have I: ∀{f:Nat} {vs:Ap} {v:Value} [QF prog f vs (Ax b p s S G) v],QF prog f vs l v:=Z3 hl;unfold FY MY;refine AN func110 ntmps110 λE=>?_;refine Aj ?_;refine EM ?_;refine Aj ?_;refine EM ?_;refine AQ λb8=>?_;cases hf:(Th.findH S.T id).isSome with
 |false=>rw[Ad rfl];refine Aj ?_;exact qr
 |true=>
 rw[Ab AX];refine Aj ?_;refine EM ?_;obtain⟨c,hc⟩: ∃c,(getD' S.H.1 (id,1)).1=c:=⟨_,rfl⟩
 obtain⟨e,he⟩: ∃e,(getD' S.H.1 (id,1)).2=e:=⟨_,rfl⟩
 rw[show Ei S (id,1)=c from hc,hc,he];refine AQ λGd=>?_;by_cases h1:¬e=0\/¬c.kind=5
 ·rw[Ad h1];by_cases h2:e=0<;>by_cases h3:c.kind=5;all_goals first
   |(exfalso;omega)
   |(refine Aj ?_
     exact qr)
 rw[Ab h1];refine Aj ?_;refine IB ?_;iterate 6 refine pY ?_
 refine VI ?_;obtain⟨o,ho⟩: ∃o,As.ofP S.N c.obj=o:=⟨_,rfl⟩
 rw[ho];refine BM ?_;refine Aj ?_;refine CA (Cu [10,11] 0 13) ?_;refine CE ?_;refine Ij e_alloc (by rintro _ _ ⟨_,_,_,rfl⟩ c hc;exact .tail _ hc) ?_;rintro _ _ ⟨ZY,_,rfl,rfl⟩;obtain⟨q,hq⟩: ∃q,(Ar.getD' S.A c.obj).1=q:=⟨_,rfl⟩
 rw[hq];refine CE ?_;by_cases h1:o.2.2=false\/¬q.kd=5
 ·rw[Ad h1];cases h2:o.2.2<;>by_cases h3:q.kd=5;all_goals first
   |(exfalso;simp_all;done)
   |(refine Aj ?_
     exact qr)
 rw[Ab h1];have h2:o.2.2=true:=by simp at h1;exact h1.1
 have h3:q.kd=5:=by simp at h1;exact h1.2
 rw[h2];refine Aj ?_;exact qr
instance[h:IsK F C k S p s]{id:Int}:QF prog 110 [pV b,.int .i64 id] (Ax b p s S G) (.tuple #[iV (FY S id).1.1,iV (FY S id).1.2.1,iV (FY S id).1.2.2,.bool (FY S id).2]):=⟨λl hl=>sM h id l hl⟩
theorem IsK.curAt(h:IsK F C k S p s)(hv:p.v= .slice (some ⟨bv,0,none⟩) C cap): ∃sp,s.V=[NU bv S.U sp]/\C<=cap/\cap<=maxLen/\C+sp.length=cap:=by obtain⟨bv',cap',sp,e1,e2,z1,z2,z3⟩:=h.cur;rw[hv] at e1;injection e1 with e3 e4 e5;injection e3 with e3;injection e3 with e3;subst e3 e5;exact⟨sp,e2,z1,z2,z3⟩
theorem nR{ops:Array Oper}{A3:List Oper}{fr:Fr}{l:Ac}{x y:Operand}{t:TypeId}{aft:Array Edge}{v:Int}{Γ:Ac->Ac}(hv:p.v= .slice (some ⟨bv,0,none⟩) C cap)(hj:j<C)(hk: ∀S1 s',S1={S with U:=S.U.set j v}->IsK F C k S1 p s'->CF b p∈Ax b p s' S1 G->DA P ro N E ops Q A3 fr ds (Γ (Ax b p s' S1 G)))[c:OC P t](hx:ev fr x=some (.pointer (some ⟨bv,j,none⟩)):=by rfl)(hy:ev fr y=some (.int .i64 v):=by rfl)(hF:Fr1 (Ax b p s S G) l Γ:=by exact eJ)(hK:IsK F C k S p s:=by infer_instance):DA P ro N E ops Q (⟨none,.store t x y,ty,pos,aft,none⟩::A3) fr ds l:=by
 obtain⟨sp,e2,z1,z2,z3⟩:=hK.curAt hv;have ai:=hK.ul;obtain⟨A,rfl,hA⟩:=hF.eq;have EC:IsK F C k {S with U:=S.U.set j v} p {s with V:=[NU bv (S.U.set j v) sp]}:=
  {hK with cu:=⟨by rw[A7,Ce,ai];omega,.inr ⟨bv,cap,sp,hv,rfl,z1,z2,by rw[Ah,A7,Ce,ai];omega⟩⟩,ul:=by rw[Ce];exact ai}
 have qv:=hk _ _ rfl EC (mR λ_ h=>h);rw[hA] at qv;have R: ∀U',(A++Ax b p {s with V:=[NU bv U' sp]} {S with U:=U'} G).Perm (NU bv U' sp::(A++(CF b p::As.asA p.n S.N::(s.M++(s.C++(s.A++(s.H++(s.T++(s.Q++(s.E++G)))))))))):=λU'=>by unfold Ax;exact BX
 have R1:=R S.U;rw[<-e2] at R1;refine Bs (.of_perm R1) ?_;refine M9 (Du (b:=bv) (off:=j) (cs:=toArray (S.U.map CU++sp)) hx hy rfl (by rw[show(Value.int IntKind.i64 v)=CU v from rfl,vC Af];exact .here) (by rw[Bv,Ah,A7];omega)) rfl rfl ?_;rintro _ _ ⟨rfl,rfl⟩;exact Bs (.of_perm (R _).symm) qv
def QG(S:KT)(j:Nat):Int:=if MY S (S.U.getD j 0)=false\/¬(Dq S (S.U.getD j 0)).st=1 then 0 else S.U.getD j 0
def Fu(S:KT)(j:Nat):KT:=
 {S with U:=S.U.set j (QG S j),K:=if QG S j=0\/(FY S (QG S j)).2=false then(setC S.K j (-1) 0).2 else(setC S.K j (Ar.getD' S.A (FY S (QG S j)).1.1).1.fi (FY S (QG S j)).1.2.1).2}
def Js(S:KT):KT:=(List.range S.U.length).foldl Fu S
end
section
theorem iX(S:KT)(n:Nat):(List.range (n+1)).foldl Fu S=Fu ((List.range n).foldl Fu S) n:=by rw[CC,Fd];rfl
theorem nS(hK:IsK F C k S p s):Fn prog 72 [pV b] (Ax b p s S G) λv l'=>v= .tuple #[]/\ ∃s' L,IsK F C k (Js S) p s'/\Tail L G/\l'=Ax b p s' (Js S) L:=by
 obtain⟨bv,cap,_,e1,_⟩:=hK.cur;have hC:=hK.c1;have ai:=hK.ul;refine AN func72 ntmps72 λE=>?_;refine AQ λb1=>?_;refine AS (Az rfl rfl (Ph b _)) ?_;rintro _ _ ⟨B,rfl,rfl⟩;refine Aj ?_;refine Uy (F:=F) (C:=C) (b:=b) (p:=p) (G:=G) (α:=Nat) (ps:=[14,15]) (lb:=[pV B]) rfl (Nz B b p bv C cap Af e1) (λ_=>rfl) rfl
  (λpre k' S' lo=>k'=k/\S'=(List.range pre.length).foldl Fu S/\lo=[rB B b,rB b1 b])
  (λ_ _ _ _ _=>False)
  (λpre lo k S s L X h hK=>by obtain⟨_,_,rfl⟩:=h;exact⟨by simp,Ai _ (Aa _ (mR λ_ h=>h))⟩)
  (.refl:Keep _ ([rB B b,rB b1 b]++Ax b p s S G)) ⟨rfl,rfl,rfl⟩ hK ?_ ?_ ?_
 ·rintro E r0 FU pre x lo k' S' s' L T ⟨fn,tmps,D,rfl⟩ hT ⟨rfl,kz,rfl⟩ hK' Dw mr;obtain⟨rfl,hx,_⟩:=fo Dw rfl;obtain⟨j,hj⟩: ∃j,pre.length=j:=⟨_,rfl⟩
  rw[hj] at hx kz⊢;obtain⟨sp,e2,_⟩:=hK'.curAt e1;have Aeh:=hK'.ul;have hs:=iX S j;rw[<-kz] at hs;have mv:NU bv S'.U sp∈Ax b p s' S' (L++T):=mV (λ_ h=>h) _ (by rw[e2];simp);have c0:=RR (U:=S'.U) (sp:=sp) (i:=j) Af;obtain⟨x,hxx⟩: ∃x,S'.U.getD j 0=x:=⟨_,rfl⟩
  rw[hxx] at c0;simp only[DX,Ae,Ag,Dr];refine Aj ?_;refine CK (by exact DY) ?_;refine Aj ?_;refine CA (Cu [11,12] 0 14) ?_;refine CE ?_;refine Ij e_alloc (by rintro _ _ ⟨_,_,_,rfl⟩ c hc;exact .tail _ hc) ?_;rintro _ _ ⟨b4,_,rfl,rfl⟩;obtain⟨t,ht⟩: ∃t,Dq S' x=t:=⟨_,rfl⟩
  obtain⟨ok,Dm⟩: ∃ok,(Th.findH S'.T x).isSome=ok:=⟨_,rfl⟩
  rw[ht,Dm];refine CE ?_;have qI:QG S' j=if ok=false\/¬t.st=1 then 0 else x:=by unfold QG MY;rw[hxx,ht,Dm]
  obtain⟨y,hy⟩: ∃y,QG S' j=y:=⟨_,rfl⟩
  rw[hy] at qI;have X5:Fu S' j={S' with U:=S'.U.set j y,K:=if y=0\/(FY S' y).2=false then(setC S'.K j (-1) 0).2 else(setC S'.K j (Ar.getD' S'.A (FY S' y).1.1).1.fi (FY S' y).1.2.1).2}:=by unfold Fu;rw[hy]
  have h4:(ok=true/\t.st=1)\/(ok=true/\¬t.st=1)\/(ok=false/\t.st=1)\/(ok=false/\¬t.st=1):=by cases ok<;>by_cases h2:t.st=1<;>simp[h2]
  rcases h4 with⟨rfl,h2⟩|⟨rfl,h2⟩|⟨rfl,h2⟩|⟨rfl,h2⟩
  case' inl=>
   rw[Ab (by simp[h2])] at qI;obtain⟨S2,hS2⟩: ∃S2,S2=S':=⟨_,rfl⟩
   have Sb:S2={S' with U:=S'.U.set j y}:=by rw[hS2,qI,<-hxx,Zq Af]
   have FW:=hK';have HV:=mr;rw[<-hS2] at FW HV;refine Aj ?_;rw[<-hS2]
  case' inr.inl=>
   rw[Ad (by simp[h2])] at qI;refine Aj ?_;refine nR e1 hx ?_;intro S2 s2 Sb FW HV;rw[<-qI] at Sb;refine Aj ?_
  case' inr.inr.inl=>
   rw[Ad (by simp)] at qI;refine Aj ?_;refine nR e1 hx ?_;intro S2 s2 Sb FW HV;rw[<-qI] at Sb;refine Aj ?_
  case' inr.inr.inr=>
   rw[Ad (by simp)] at qI;refine Aj ?_;refine nR e1 hx ?_;intro S2 s2 Sb FW HV;rw[<-qI] at Sb;refine Aj ?_
  all_goals
   obtain⟨R7,uH,_⟩:=FW.curAt e1;have c2:=RR (U:=S2.U) (sp:=R7) (i:=j) (by rw[FW.ul];exact hx);have mv2:=mV (l:=Ax b p _ S2 (L++T)) (λ_ h=>h) (NU bv S2.U R7) (by rw[uH];simp);rw[show S2.U.getD j 0=y by rw[Sb];simp[List.getD,Aeh,hx]] at c2;have Dw:FY S2 y=FY S' y:=by rw[Sb];rfl
   have XW: ∀i,Ar.getD' S2.A i=Ar.getD' S'.A i:=λi=>by rw[Sb]
   have hKK:S2.K=S'.K:=by rw[Sb]
   refine IB ?_;iterate 4 refine pY ?_
   refine VI ?_;rw[Dw];obtain⟨q,hq⟩: ∃q,FY S' y=q:=⟨_,rfl⟩
   rw[hq] at X5⊢;refine BM ?_;by_cases h5:y=0\/q.2=false
   ·rw[Ad h5] at X5;cases h6:q.2<;>by_cases h7:y=0;all_goals first
     |(exfalso;revert h5;rw[h6];simp[h7];done)
     |(exfalso;omega)
     |(refine Aj ?_
       refine Gi ?_;intro S3 s3 L3 hS3 MW Lg Pu;refine Aj ?_;refine iU [rB B b,rB b1 b] (by exact AW) ⟨rfl,?_,rfl⟩;rw[Ah,hj,Bl,hs,X5,hS3,hKK,Sb])
   rw[Ab h5] at X5;obtain⟨h6,h7⟩:q.2=true/\¬y=0:=by simp at h5;exact⟨h5.2,h5.1⟩
   first
    |(exfalso;omega)
    |(rw[h6]
      refine Aj ?_;simp only[AM,AK,AR];refine EM ?_;rw[XW];obtain⟨o,ho⟩: ∃o,(Ar.getD' S'.A q.1.1).1=o:=⟨_,rfl⟩
      rw[ho] at X5⊢;refine AQ λGd=>?_;refine CA (Cu [8] 0 9) ?_;refine CE ?_;refine MX ?_;intro S3 s3 L3 hS3 MW Lg Pu;refine CE ?_;refine Aj ?_;refine iU [rB B b,rB b1 b] (by exact AW) ⟨rfl,?_,rfl⟩;rw[Ah,hj,Bl,hs,X5,hS3,hKK,Sb])
 ·rintro D xs lo k' S' s' L rfl ⟨rfl,kz,rfl⟩ hK' hT mr;rw[Fc] at kz;have e:S'=Js S:=by rw[kz];unfold Js;rw[ai]
  subst e;simp only[Ae,Ag];refine Aj ?_;exact AU [D] _ rfl .refl (by exact Ba) (.drop (.drop .refl)) ⟨rfl,s',L,hK',hT,rfl⟩
 ·rintro D c pre lo k' S' s' L Dw h;exact h.elim
end
def qf(S:KT)(k z f:Int):KT:=if k=1 then S else{S with W:=(r4 S.W f (Ar.framesD k z)).2}
def nT(S:KT)(n id:Int):KT:=if 0<n then{S with H:=((Hn S.H.1 id n).2,S.H.2)} else S
def jW(S:KT)(k id:Int):KT:=if k=9 then{S with T:=(Th.addD S.T id).2} else if k=8 then{S with E:=(En.addD S.E id).2} else S
def KL(S:KT)(k z f:Int):(Int×Int)×KT:=
 if(Ar.addD S.A k z f).1.2=0 then(((Ar.addD S.A k z f).1.1,0),jW (nT (qf {S with A:=(Ar.addD S.A k z f).2} k z f) (Ar.slotsD k z) (Ar.addD S.A k z f).1.1) k (Ar.addD S.A k z f).1.1)
 else((0,(Ar.addD S.A k z f).1.2),{S with A:=(Ar.addD S.A k z f).2})
section
theorem Ab7(hl:S.T.length+1+k<=900):EK prog F C b p 140 [pV p.t,.int .i64 id] k S k (iV (Th.addD S.T id).1) {S with T:=(Th.addD S.T id).2}:=⟨λs G h=>lfT h (by unfold Th.addD;(repeat' split);all_goals(try rw[ng]);all_goals(try simp only);all_goals omega) (λu hu=>xT h.tw hu) Af λG=>Th.add_any p.t S.T s.T h.th id G⟩
theorem yj(hK:IsK F C (n+1) S p s)(k z f:Int):Fn prog 91 [pV b,.int .i64 k,.int .i64 z,.int .i64 f] (Ax b p s S G) (KK F C b p n (.tuple #[iV (KL S k z f).1.1,iV (KL S k z f).1.2]) (KL S k z f).2 G):=by
 have mr:CF b p∈Ax b p s S G:=mR λ_ h=>h;have hTl:=hK.tl;obtain⟨R,hR⟩: ∃R,KL S k z f=R:=⟨_,rfl⟩
 rw[hR];unfold KL at hR;refine AN func91 ntmps91 λE=>?_;refine Aj ?_;refine EM ?_;refine Aj ?_;refine Gi ?_;intro S1 s1 L1 EG EC DO GQ;rw[<-EG] at hR;obtain⟨id,Vr⟩: ∃x,(Ar.addD S.A k z f).1.1=x:=⟨_,rfl⟩
 obtain⟨er,her⟩: ∃x,(Ar.addD S.A k z f).1.2=x:=⟨_,rfl⟩
 rw[Vr,her] at hR;rw[Vr,her];by_cases he:er=0
 ·rw[Ad he] at hR;obtain⟨sl,um⟩: ∃x,Ar.slotsD k z=x:=⟨_,rfl⟩
  rw[um] at hR;refine Aj ?_;simp only[AM,AK,AR];by_cases h1:k=1
  case' pos=>
   rw[show qf S1 k z f=S1 from Ad h1] at hR;have h8:¬k=8:=by omega
   have h9:¬k=9:=by omega
   obtain⟨S2,hS2⟩: ∃S2,S1=S2:=⟨_,rfl⟩
   obtain⟨s2,M1⟩: ∃s2,s1=s2:=⟨_,rfl⟩
   obtain⟨L2,P3⟩: ∃L2,L1=L2:=⟨_,rfl⟩
   have FW:=EC;have FN:=DO;have HV:=GQ;rw[hS2,M1] at FW;rw[hS2,M1,P3] at HV;rw[P3] at FN;rw[hS2] at hR;have Lf:S2.T.length+1+n<=900:=by rw[<-hS2,EG];show S.T.length+1+n<=900;omega
   refine Aj ?_;rw[hS2,M1,P3]
  case' neg=>
   refine Aj ?_;refine CA (Cu [8] 0 9) ?_;refine CE ?_;refine MX ?_;intro S2 s2 L2 hS2 FW hT2' HV;have FN:=hT2'.trans DO;rw[show qf S1 k z f=S2 from(Ab h1).trans hS2.symm] at hR;have Lf:S2.T.length+1+n<=900:=by rw[hS2,EG];show S.T.length+1+n<=900;omega
   refine CE ?_;refine Aj ?_
  all_goals
   refine EM ?_;rw[um];refine Aj ?_;by_cases hs:0<sl
   case' pos=>
    refine Aj ?_;refine Gi ?_;intro S3 s3 L3 hS3 MW hT3' Pu;have Lg:=hT3'.trans FN;rw[show nT S2 sl id=S3 from(Ad hs).trans hS3.symm] at hR;have wo:S3.T.length+1+n<=900:=by rw[hS3];exact Lf
    refine Aj ?_
   case' neg=>
    rw[show nT S2 sl id=S2 from Ab hs] at hR;obtain⟨S3,hS3⟩: ∃S3,S2=S3:=⟨_,rfl⟩
    obtain⟨s3,RA⟩: ∃s3,s2=s3:=⟨_,rfl⟩
    obtain⟨L3,hL3⟩: ∃L3,L2=L3:=⟨_,rfl⟩
    have MW:=FW.mono (Nat.le_succ _);have Lg:=FN;have Pu:=HV;rw[hS3,RA] at MW;rw[hS3,RA,hL3] at Pu;rw[hL3] at Lg;rw[hS3] at hR;have wo:S3.T.length+1+n<=900:=by rw[<-hS3];exact Lf
    refine Aj ?_;rw[hS3,RA,hL3]
   all_goals
    by_cases h9:k=9
    ·first
      |(exfalso;omega)
      |(refine Aj ?_
        refine Gi (q:=Ab7 wo) ?_;intro S4 s4 L4 hS4 hK4 hT4' mr4;have jP:=hT4'.trans Lg;rw[show jW S3 k id=S4 from(Ad h9).trans hS4.symm] at hR;rw[<-hR];refine Aj ?_;exact A9)
    by_cases h8:k=8
    ·first
      |(exfalso;omega)
      |(refine Aj ?_
        refine Gi ?_;intro S4 s4 L4 hS4 hK4 hT4' mr4;have jP:=hT4'.trans Lg;rw[show jW S3 k id=S4 from(Ab h9).trans ((Ad h8).trans hS4.symm)] at hR;rw[<-hR];refine Aj ?_;exact A9)
    rw[show jW S3 k id=S3 from(Ab h9).trans (Ab h8)] at hR;rw[<-hR];refine Aj ?_;exact A9
 ·rw[Ab he] at hR;rw[<-hR];refine Aj ?_;exact A9
instance{k z f:Int}:EK prog F C b p 91 [pV b,.int .i64 k,.int .i64 z,.int .i64 f] (n+1) S n (.tuple #[iV (KL S k z f).1.1,iV (KL S k z f).1.2]) (KL S k z f).2:=⟨λs G h=>yj h k z f⟩
end
class U6(a:Int):Prop where
 out:Lt a
section
theorem IsK.wl(h:IsK F C k S p s):S.W.length<=512:=by obtain⟨gb,f1,f2,hW,hu,hM⟩:=h.mem;omega
theorem IsK.wu(h:IsK F C k S p s): ∀w,w∈S.W->Lt w:=by obtain⟨gb,f1,f2,hW,hu,hM⟩:=h.mem;exact hu
theorem IsK.ldU(h:IsK F C k S p s)(a:Int):U6 (N1 S.W a).1:=⟨xW h.wu a⟩
theorem IsK.atU(h:IsK F C k S p s)(r pg lv:Int):U6 (Q4 S.W r pg lv).1:=⟨nr h.wl⟩
instance[h:IsK F C k S p s]{a:Int}[hu:U6 a]:QF prog 202 [pV p.m,Be a] (Ax b p s S G) (.tuple #[Be (N1 S.W a).1,iV (N1 S.W a).2]):=⟨λl hl=>iG h a hu.out.1 hu.out.2 l hl⟩
instance[h:IsK F C k S p s]{r pg lv:Int}:QF prog 298 [pV p.m,.int .i64 r,.int .i64 pg,.int .i64 lv] (Ax b p s S G) (.tuple #[Be (Q4 S.W r pg lv).1,iV (Q4 S.W r pg lv).2]):=⟨λl hl=>by obtain⟨gb,f1,f2,hW,hu,hM⟩:=h.mem;exact Xk p.m gb F S.W f2 hW hu r pg lv l (mM hl _ (by rw[hM];simp)) (mM hl _ (by rw[hM];simp))⟩
instance{w:Int}[hu:U6 w]{l:Ac}:QF prog 343 [Be w] l (.tuple #[Zd (Kl w).1,iV (Kl w).2]):=⟨λl _=>by
 obtain⟨n,rfl⟩: ∃n:Nat,w=n:=⟨w.toNat,by have:=hu.out.1;omega⟩
 exact Zh n (by have:=hu.out.2;omega) l⟩
instance{w:Int}[hu:U6 w]{l:Ac}:QF prog 257 [Be w] l (.tuple #[iV (E4 w).1,iV (E4 w).2]):=⟨λl _=>iI w hu.out.1 hu.out.2 l⟩
def NA(S:KT)(id:Int):Int:=if(Ar.getD' S.A id).2=false then-1 else(Ar.getD' S.A id).1.fi
def HL(S:KT)(se pg lv:Int):(Int×Int)×Bool:=
 if(As.rootP S.N se).2.2=false then((0,0),false)
 else(((Q4 S.W (NA S (As.rootP S.N se).1) pg lv).1,(As.rootP S.N se).2.1),decide ((Q4 S.W (NA S (As.rootP S.N se).1) pg lv).2=0))
def Uz(S:KT)(a:Int)(NR:Bool)(f:Int):Bool:=decide ((Kl (N1 S.W a).1).2=0)&&(Kl (N1 S.W a).1).1.vd&&((Kl (N1 S.W a).1).1.lf==NR)&&decide ((Kl (N1 S.W a).1).1.fr=f)
def FZ(S:KT)(id:Int):(Int×Int)×Bool:=
 if(Ar.getD' S.A id).2=false\/¬(Ar.getD' S.A id).1.kd=4\/(Ar.getD' S.A id).1.lv=0 then((0,0),false)
 else((HL S (Ar.getD' S.A id).1.se (Ar.getD' S.A id).1.pg (Ar.getD' S.A id).1.lv).1,(HL S (Ar.getD' S.A id).1.se (Ar.getD' S.A id).1.pg (Ar.getD' S.A id).1.lv).2&&Uz S (HL S (Ar.getD' S.A id).1.se (Ar.getD' S.A id).1.pg (Ar.getD' S.A id).1.lv).1.1 false (Ar.getD' S.A id).1.fi)
def F0(S:KT)(c:CapT):(Int×Int)×Bool:=
 if(Ar.getD' S.A c.obj).2=false\/¬c.kind=3\/FG c=false then((0,0),false)
 else((HL S c.serial c.page 3).1,(HL S c.serial c.page 3).2&&Uz S (HL S c.serial c.page 3).1.1 true (Ar.getD' S.A c.obj).1.fi)
theorem sN(hK:IsK F C k S p s)(id:Int)(l:Ac)(hl: ∀c,c∈Ax b p s S G->c∈l):Fn prog 292 [pV b,.int .i64 id] l λv l'=>v=iV (NA S id)/\l'=l:=by
 have mr:CF b p∈l:=mR hl;have I: ∀{f:Nat} {vs:Ap} {v:Value} [QF prog f vs (Ax b p s S G) v],QF prog f vs l v:=Z3 hl;unfold NA;refine AN func292 ntmps292 λE=>?_;refine Aj ?_;refine EM ?_;refine Aj ?_;refine EM ?_;obtain⟨o,ho⟩: ∃o,(Ar.getD' S.A id).1=o:=⟨_,rfl⟩
 obtain⟨ok,Dm⟩: ∃ok,(Ar.getD' S.A id).2=ok:=⟨_,rfl⟩
 rw[ho,Dm];refine AQ λb5=>?_;cases ok with
 |false=>rw[Ad rfl];refine Aj ?_;exact qr
 |true=>
 rw[Ab AX];refine Aj ?_;exact qr
instance[h:IsK F C k S p s]{id:Int}:QF prog 292 [pV b,.int .i64 id] (Ax b p s S G) (iV (NA S id)):=⟨λl hl=>sN h id l hl⟩
theorem sO(hK:IsK F C k S p s)(se pg lv:Int)(l:Ac)(hl: ∀c,c∈Ax b p s S G->c∈l):Fn prog 369 [pV b,.int .i64 se,.int .i64 pg,.int .i64 lv] l λv l'=>v= .tuple #[Be (HL S se pg lv).1.1,iV (HL S se pg lv).1.2,.bool (HL S se pg lv).2]/\l'=l:=by
 have mr:CF b p∈l:=mR hl;have I: ∀{f:Nat} {vs:Ap} {v:Value} [QF prog f vs (Ax b p s S G) v],QF prog f vs l v:=Z3 hl;unfold HL;refine AN func369 ntmps369 λE=>?_;refine Aj ?_;refine EM ?_;refine Aj ?_;refine EM ?_;obtain⟨q,hq⟩: ∃q,As.rootP S.N se=q:=⟨_,rfl⟩
 rw[hq];refine Aj ?_;cases hf:q.2.2 with
 |false=>rw[Ad rfl];refine Aj ?_;exact qr
 |true=>
 rw[Ab AX];refine Aj ?_;simp only[AM,AK,AR];refine EM ?_;refine Aj ?_;refine EM ?_;refine Aj ?_;refine EM ?_;obtain⟨u,hu⟩: ∃u,Q4 S.W (NA S q.1) pg lv=u:=⟨_,rfl⟩
 rw[hu];by_cases h1:u.2=0
 ·rw[h1];refine Aj ?_;exact qr
 ·rw[show decide (u.2=0)=false by simp[h1]];refine Aj ?_;exact qr
instance[h:IsK F C k S p s]{se pg lv:Int}:QF prog 369 [pV b,.int .i64 se,.int .i64 pg,.int .i64 lv] (Ax b p s S G) (.tuple #[Be (HL S se pg lv).1.1,iV (HL S se pg lv).1.2,.bool (HL S se pg lv).2]):=⟨λl hl=>sO h se pg lv l hl⟩
theorem IsK.plU(h:IsK F C k S p s)(se pg lv:Int):U6 (HL S se pg lv).1.1:=by
 unfold HL
 split
 ·exact⟨by decide,by decide⟩
 ·exact h.atU _ _ _
theorem sP(hK:IsK F C k S p s)(a:Int)[ha:U6 a](NR:Bool)(f:Int)(l:Ac)(hl: ∀c,c∈Ax b p s S G->c∈l):Fn prog 370 [pV b,Be a,.bool NR,.int .i64 f] l λv l'=>v= .bool (Uz S a NR f)/\l'=l:=by
 have mr:CF b p∈l:=mR hl;have I: ∀{f:Nat} {vs:Ap} {v:Value} [QF prog f vs (Ax b p s S G) v],QF prog f vs l v:=Z3 hl;have hu:=hK.ldU a;unfold Uz;refine AN func370 ntmps370 λE=>?_;refine Aj ?_;refine EM ?_;refine Aj ?_;refine EM ?_;obtain⟨w,hw⟩: ∃w,(N1 S.W a).1=w:=⟨_,rfl⟩
 rw[hw] at hu⊢;refine Aj ?_;simp only[AM,AK,AR];refine EM ?_;obtain⟨e,he⟩: ∃e,(Kl w).1=e:=⟨_,rfl⟩
 obtain⟨er,her⟩: ∃er,(Kl w).2=er:=⟨_,rfl⟩
 rw[he,her];refine AQ λM4=>?_;obtain⟨vd,lf,rd,wr,fr⟩:=e;by_cases h1:er=0<;>cases vd<;>cases lf<;>cases NR<;>by_cases h2:fr=f;all_goals
  refine Aj ?_;simp only[h1,h2,GK,HU,Bool.and_true,Bw,Jf,Bi];exact qr
end
section
instance[h:IsK F C k S p s]{a f:Int}{NR:Bool}[ha:U6 a]:QF prog 370 [pV b,Be a,.bool NR,.int .i64 f] (Ax b p s S G) (.bool (Uz S a NR f)):=⟨λl hl=>sP h a NR f l hl⟩
theorem sQ(hK:IsK F C k S p s)(id:Int)(l:Ac)(hl: ∀c,c∈Ax b p s S G->c∈l):Fn prog 330 [pV b,.int .i64 id] l λv l'=>v= .tuple #[Be (FZ S id).1.1,iV (FZ S id).1.2,.bool (FZ S id).2]/\l'=l:=by
 have mr:CF b p∈l:=mR hl;have I: ∀{f:Nat} {vs:Ap} {v:Value} [QF prog f vs (Ax b p s S G) v],QF prog f vs l v:=Z3 hl;unfold FZ;refine AN func330 ntmps330 λE=>?_;refine Aj ?_;refine EM ?_;refine Aj ?_;refine EM ?_;obtain⟨o,ho⟩: ∃o,(Ar.getD' S.A id).1=o:=⟨_,rfl⟩
 obtain⟨ok,Dm⟩: ∃ok,(Ar.getD' S.A id).2=ok:=⟨_,rfl⟩
 rw[ho,Dm];refine AQ λb7=>?_;by_cases h0:ok=false\/¬o.kd=4\/o.lv=0
 ·rw[Ad h0];cases ok<;>by_cases h1:o.kd=4<;>by_cases h2:o.lv=0;all_goals first
   |(exfalso;simp[h1,h2] at h0;done)
   |(refine Aj ?_
     exact qr)
 rw[Ab h0];obtain⟨h1,h2,h3⟩:ok=true/\o.kd=4/\¬o.lv=0:=by simp at h0;exact h0
 subst h1;refine Aj ?_;refine EM ?_;have hu:=hK.plU o.se o.pg o.lv;obtain⟨q,hq⟩: ∃q,HL S o.se o.pg o.lv=q:=⟨_,rfl⟩
 rw[hq] at hu⊢;refine Aj ?_;try simp only[AM,AK,AR]
 cases hf:q.2 with
 |false=>refine Aj ?_;rw[Bi];exact qr
 |true=>
 refine Aj ?_;try simp only[AM,AK,AR]
 refine EM ?_;refine Aj ?_;rw[Bw];exact qr
instance[h:IsK F C k S p s]{id:Int}:QF prog 330 [pV b,.int .i64 id] (Ax b p s S G) (.tuple #[Be (FZ S id).1.1,iV (FZ S id).1.2,.bool (FZ S id).2]):=⟨λl hl=>sQ h id l hl⟩
theorem sR(hK:IsK F C k S p s)(c:CapT)(l:Ac)(hl: ∀c,c∈Ax b p s S G->c∈l):Fn prog 336 [pV b,Xb c] l λv l'=>v= .tuple #[Be (F0 S c).1.1,iV (F0 S c).1.2,.bool (F0 S c).2]/\l'=l:=by
 have mr:CF b p∈l:=mR hl;have I: ∀{f:Nat} {vs:Ap} {v:Value} [QF prog f vs (Ax b p s S G) v],QF prog f vs l v:=Z3 hl;unfold F0;refine AN func336 ntmps336 λE=>?_;refine AQ λb3=>?_;refine CA (Cu [8,9] 0 11) ?_;refine CE ?_;refine Ij e_alloc (by rintro _ _ ⟨_,_,_,rfl⟩ c hc;exact .tail _ hc) ?_;rintro _ _ ⟨b7,_,rfl,rfl⟩;obtain⟨o,ho⟩: ∃o,(Ar.getD' S.A c.obj).1=o:=⟨_,rfl⟩
 obtain⟨ok,Dm⟩: ∃ok,(Ar.getD' S.A c.obj).2=ok:=⟨_,rfl⟩
 rw[ho,Dm];refine CE ?_;by_cases h0:ok=false\/¬c.kind=3\/FG c=false
 ·rw[Ad h0];by_cases h9:ok=true/\c.kind=3
  ·obtain⟨rfl,h1⟩:=h9;have h2:FG c=false:=by simp[h1] at h0;exact h0
   refine Aj ?_;refine EM ?_;rw[h2];refine Aj ?_;exact qr
  cases ok<;>by_cases h1:c.kind=3;all_goals first
   |(exfalso;simp[h1] at h9;done)
   |(refine Aj ?_
     exact qr)
 rw[Ab h0];obtain⟨h1,h2,h3⟩:ok=true/\c.kind=3/\FG c=true:=by simp at h0;exact h0
 subst h1;refine Aj ?_;refine EM ?_;rw[h3];refine Aj ?_;refine EM ?_;have hu:=hK.plU c.serial c.page 3;obtain⟨q,hq⟩: ∃q,HL S c.serial c.page 3=q:=⟨_,rfl⟩
 rw[hq] at hu⊢;refine Aj ?_;try simp only[AM,AK,AR]
 cases hf:q.2 with
 |false=>refine Aj ?_;rw[Bi];exact qr
 |true=>
 refine Aj ?_;try simp only[AM,AK,AR]
 refine EM ?_;refine Aj ?_;rw[Bw];exact qr
instance[h:IsK F C k S p s]{c:CapT}:QF prog 336 [pV b,Xb c] (Ax b p s S G) (.tuple #[Be (F0 S c).1.1,iV (F0 S c).1.2,.bool (F0 S c).2]):=⟨λl hl=>sR h c l hl⟩
theorem sS(hK:IsK F C k S p s)(id:Int)(l:Ac)(hl: ∀c,c∈Ax b p s S G->c∈l):Fn prog 291 [pV b,.int .i64 id] l λv l'=>v= .bool (FZ S id).2/\l'=l:=by have mr:CF b p∈l:=mR hl;have I: ∀{f:Nat} {vs:Ap} {v:Value} [QF prog f vs (Ax b p s S G) v],QF prog f vs l v:=Z3 hl;refine AN func291 ntmps291 λE=>?_;refine Aj ?_;refine EM ?_;refine Aj ?_;exact qr
instance[h:IsK F C k S p s]{id:Int}:QF prog 291 [pV b,.int .i64 id] (Ax b p s S G) (.bool (FZ S id).2):=⟨λl hl=>sS h id l hl⟩
theorem sU(hK:IsK F C k S p s)(c:CapT)(l:Ac)(hl: ∀c,c∈Ax b p s S G->c∈l):Fn prog 297 [pV b,Xb c] l λv l'=>v= .bool (F0 S c).2/\l'=l:=by have mr:CF b p∈l:=mR hl;have I: ∀{f:Nat} {vs:Ap} {v:Value} [QF prog f vs (Ax b p s S G) v],QF prog f vs l v:=Z3 hl;refine AN func297 ntmps297 λE=>?_;refine AQ λb3=>?_;refine EM ?_;refine Aj ?_;exact qr
instance[h:IsK F C k S p s]{c:CapT}:QF prog 297 [pV b,Xb c] (Ax b p s S G) (.bool (F0 S c).2):=⟨λl hl=>sU h c l hl⟩
end
section
instance:U6 0:=⟨by decide,by decide⟩
instance{a v:Int}[ha:U6 a][hv:U6 v]:EK prog F C b p 201 [pV p.m,Be a,Be v] k S k (iV (V9 S.W a v).1) {S with W:=(V9 S.W a v).2}:=⟨λs G h=>bQ h a v ha.out.1 ha.out.2 hv.out⟩
def Zr(S:KT)(id:Int):KT:={S with W:=(V9 S.W (FZ S id).1.1 0).2,K:=IM S.K (Q5 (FZ S id).1.2),A:=(Ar.placeD S.A id 0 0 0).2}
theorem IsK.tbU(h:IsK F C k S p s)(id:Int):U6 (FZ S id).1.1:=by
 unfold FZ
 split
 ·exact⟨by decide,by decide⟩
 ·exact h.plU _ _ _
theorem IsK.frU(h:IsK F C k S p s)(c:CapT):U6 (F0 S c).1.1:=by
 unfold F0
 split
 ·exact⟨by decide,by decide⟩
 ·exact h.plU _ _ _
theorem yk(hK:IsK F C k S p s)(id:Int):Fn prog 296 [pV b,.int .i64 id] (Ax b p s S G) (KK F C b p k (.bool (FZ S id).2) (if(FZ S id).2=true then Zr S id else S) G):=by
 have mr:CF b p∈Ax b p s S G:=mR λ_ h=>h;have hu:=hK.tbU id;unfold Zr;refine AN func296 ntmps296 λE=>?_;refine Aj ?_;refine EM ?_;obtain⟨q,hq⟩: ∃q,FZ S id=q:=⟨_,rfl⟩
 rw[hq] at hu⊢;cases hf:q.2 with
 |false=>rw[Ab AX];refine Aj ?_;exact A9
 |true=>
 rw[Ad rfl];refine Aj ?_;refine EM ?_;refine Aj ?_;try simp only[AM,AK,AR]
 refine Gi ?_;intro S1 s1 L1 EG EC DO GQ;refine Aj ?_;refine EM ?_;refine Aj ?_;try simp only[AM,AK,AR]
 refine Gi ?_;intro S2 s2 L2 hS2 FW FN HV;refine Aj ?_;refine EM ?_;refine Aj ?_;refine Gi ?_;intro S3 s3 L3 hS3 MW Lg Pu;refine Aj ?_;exact A9
instance{id:Int}:EK prog F C b p 296 [pV b,.int .i64 id] k S k (.bool (FZ S id).2) (if(FZ S id).2=true then Zr S id else S):=⟨λs G h=>yk h id⟩
def nU(S:KT)(c:CapT):KT:={S with W:=(V9 S.W (F0 S c).1.1 0).2,K:=IM S.K (KB (F0 S c).1.2 c.page)}
theorem nW(hK:IsK F C k S p s)(c:CapT):Fn prog 301 [pV b,Xb c] (Ax b p s S G) (KK F C b p k (.bool (F0 S c).2) (if(F0 S c).2=true then nU S c else S) G):=by
 have mr:CF b p∈Ax b p s S G:=mR λ_ h=>h;have hu:=hK.frU c;unfold nU;refine AN func301 ntmps301 λE=>?_;refine AQ λb3=>?_;refine EM ?_;obtain⟨q,hq⟩: ∃q,F0 S c=q:=⟨_,rfl⟩
 rw[hq] at hu⊢;cases hf:q.2 with
 |false=>rw[Ab AX];refine Aj ?_;exact A9
 |true=>
 rw[Ad rfl];refine Aj ?_;refine EM ?_;refine Aj ?_;try simp only[AM,AK,AR]
 refine Gi ?_;intro S1 s1 L1 EG EC DO GQ;refine Aj ?_;refine CA (Cu [5] 0 6) ?_;refine CE ?_;refine MX ?_;intro S2 s2 L2 hS2 FW FN HV;refine CE ?_;refine Aj ?_;exact A9
instance{c:CapT}:EK prog F C b p 301 [pV b,Xb c] k S k (.bool (F0 S c).2) (if(F0 S c).2=true then nU S c else S):=⟨λs G h=>nW h c⟩
end
abbrev N2(x:Cs)(k:Int):Ap:=[iV x.1,iV x.2,iV k]
def FH(S:KT)(x:Cs)(k:Int):Prop:=(getD' S.H.1 x).2=0/\(Ei S x).kind=k
instance(S:KT)(x:Cs)(k:Int):Decidable (FH S x k):=by unfold FH;exact inferInstance
section
theorem fq(hK:IsK F C k S p s)(bw:Nat)(x:Cs)(kd:Int)(l:Ac)(hl: ∀c,c∈Ax b p s S G->c∈l)(mw:(bw,Obj.cells (toArray (N2 x kd)) 457 (0,0))∈l):Fn prog 290 [pV b,.slice (some ⟨bw,0,none⟩) 1 1] l λv l'=>
 (FH S x kd/\ ∃u cs,OwnSl 74 8 u 1 (B0 (Ei S x)) cs/\v= .tuple #[u,iV 0]/\l'=cs++l)\/(¬FH S x kd/\v= .tuple #[.slice none 0 0,iV 8]/\l'=l):=by
 have mr:CF b p∈l:=mR hl;have I: ∀{f:Nat} {vs:Ap} {v:Value} [QF prog f vs (Ax b p s S G) v],QF prog f vs l v:=Z3 hl;have w1:(toArray (N2 x kd)).extract (0+(0:Int).toNat*3) (0+(0:Int).toNat*3+3)=toArray (N2 x kd):=rfl;refine AN func290 ntmps290 λE=>?_;refine Aj ?_;refine Ie 1 ?_;refine Aj ?_;refine Bh (Dt rfl mw (by show 0+(0:Int).toNat*3+3<=3;decide) w1) ?_;refine AQ λb8=>?_;refine CA (Cu [8,9] 0 11) ?_;refine CE ?_;refine Ij e_alloc (by rintro _ _ ⟨_,_,_,rfl⟩ c hc;exact .tail _ hc) ?_;rintro _ _ ⟨b9,_,rfl,rfl⟩;unfold FH;obtain⟨c,hc⟩: ∃c,(getD' S.H.1 x).1=c:=⟨_,rfl⟩
 obtain⟨e,he⟩: ∃e,(getD' S.H.1 x).2=e:=⟨_,rfl⟩
 rw[show Ei S x=c from hc,hc,he];refine CE ?_;by_cases h0:e=0/\c.kind=kd
 case neg=>
  by_cases h1:e=0<;>by_cases h2:c.kind=kd
  ·exact absurd ⟨h1,h2⟩ h0
  all_goals
   refine Aj ?_;exact CT _ .refl (.drop (.drop .refl)) (.inr ⟨h0,rfl,rfl⟩)
 obtain⟨h1,h2⟩:=h0;refine Aj ?_;refine AS (FE (ws:=B0 c) (k:=8) rfl rfl rfl AX AX) ?_;rintro _ _ ⟨bl,_,rfl,rfl⟩;refine Aj ?_;refine AS (Hz (k:=8) (X:=[(b9,Obj.cells (toArray (B0 c)) 74 (0,0)),(b8,Obj.cells (toArray (N2 x kd)) 457 (0,0))]) (cs:=[]) (xs:=[]) (n:=0) (zs:=B0 ⟨0,0,0,0,0,0,0,0⟩) (ws:=B0 c) rfl rfl rfl (OwnSl.nil _ _) rfl (by simp[Value.oneCell']) Af AX) ?_;rintro v' _ ⟨c2,Fg,rfl⟩;simp only[Ae,Ag] at Fg⊢;refine Aj ?_;refine E9 ?_;refine Aj ?_;exact CT _ .refl (.drop (.drop .refl)) (.inl ⟨⟨h1,h2⟩,v',c2,Fg,rfl,rfl⟩)
theorem SR(hK:IsK F C k S p s)(bw:Nat)(x y:Cs)(kd kd2:Int)(l:Ac)(hl: ∀c,c∈Ax b p s S G->c∈l)(mw:(bw,Obj.cells (toArray (N2 x kd++N2 y kd2)) 457 (0,0))∈l):Fn prog 290 [pV b,.slice (some ⟨bw,0,none⟩) 2 2] l λv l'=>
 ((FH S x kd/\FH S y kd2)/\ ∃u cs,OwnSl 74 8 u 2 (B0 (Ei S x)++B0 (Ei S y)) cs/\v= .tuple #[u,iV 0]/\l'=cs++l)\/(¬(FH S x kd/\FH S y kd2)/\v= .tuple #[.slice none 0 0,iV 8]/\l'=l):=by
 have mr:CF b p∈l:=mR hl;have I: ∀{f:Nat} {vs:Ap} {v:Value} [QF prog f vs (Ax b p s S G) v],QF prog f vs l v:=Z3 hl;have w1:(toArray (N2 x kd++N2 y kd2)).extract (0+(0:Int).toNat*3) (0+(0:Int).toNat*3+3)=toArray (N2 x kd):=rfl;have w2:(toArray (N2 x kd++N2 y kd2)).extract (0+(1:Int).toNat*3) (0+(1:Int).toNat*3+3)=toArray (N2 y kd2):=rfl;refine AN func290 ntmps290 λE=>?_;refine Aj ?_;refine Ie 2 ?_;refine Aj ?_;refine Bh (Dt rfl mw (by show 0+(0:Int).toNat*3+3<=6;decide) w1) ?_;refine AQ λb8=>?_;refine CA (Cu [8,9] 0 11) ?_;refine CE ?_;refine Ij e_alloc (by rintro _ _ ⟨_,_,_,rfl⟩ c hc;exact .tail _ hc) ?_;rintro _ _ ⟨b9,_,rfl,rfl⟩;unfold FH;obtain⟨c,hc⟩: ∃c,(getD' S.H.1 x).1=c:=⟨_,rfl⟩
 obtain⟨e,he⟩: ∃e,(getD' S.H.1 x).2=e:=⟨_,rfl⟩
 obtain⟨c',hc'⟩: ∃c,(getD' S.H.1 y).1=c:=⟨_,rfl⟩
 obtain⟨e',wx⟩: ∃e,(getD' S.H.1 y).2=e:=⟨_,rfl⟩
 rw[show Ei S x=c from hc,show Ei S y=c' from hc',hc,he,wx];refine CE ?_;by_cases h0:e=0/\c.kind=kd
 case neg=>
  by_cases h1:e=0<;>by_cases h2:c.kind=kd
  ·exact absurd ⟨h1,h2⟩ h0
  all_goals
   refine Aj ?_;exact CT _ .refl (.drop (.drop .refl)) (.inr ⟨λh=>h0 h.1,rfl,rfl⟩)
 obtain⟨h1,h2⟩:=h0;refine Aj ?_;refine AS (FE (ws:=B0 c) (k:=8) rfl rfl rfl AX AX) ?_;rintro _ _ ⟨bl,_,rfl,rfl⟩;refine Aj ?_;refine AS (Hz (k:=8) (X:=[(b9,Obj.cells (toArray (B0 c)) 74 (0,0)),(b8,Obj.cells (toArray (N2 x kd)) 457 (0,0))]) (cs:=[]) (xs:=[]) (n:=0) (zs:=B0 ⟨0,0,0,0,0,0,0,0⟩) (ws:=B0 c) rfl rfl rfl (OwnSl.nil _ _) rfl (by simp[Value.oneCell']) Af AX) ?_;rintro v' _ ⟨c2,Fg,rfl⟩;simp only[Ae,Ag] at Fg⊢;refine Aj ?_;refine E9 ?_;refine Aj ?_;rw[show(0:Int)+1=1 from rfl];refine Bh (Dt rfl (.tail _ (.tail _ (Aa _ mw))) (by show 0+(1:Int).toNat*3+3<=6;decide) w2) ?_;refine AQ λd8=>?_;refine CA (Cu [8,9] 0 11) ?_;have I2: ∀{f:Nat} {vs:Ap} {v:Value} [QF prog f vs (Ax b p s S G) v],QF prog f vs (c2++l) v:=Z3 λc hc=>Aa _ (hl c hc);refine CE ?_;rw[hc',wx];refine Ij e_alloc (by rintro _ _ ⟨_,_,_,rfl⟩ c hc;exact .tail _ hc) ?_;rintro _ _ ⟨d9,_,rfl,rfl⟩;refine CE ?_;by_cases h0:e'=0/\c'.kind=kd2
 case neg=>
  by_cases h3:e'=0<;>by_cases h4:c'.kind=kd2
  ·exact absurd ⟨h3,h4⟩ h0
  all_goals
   refine Aj ?_;exact CT _ .refl (.drop (.drop (.drop (.drop (Keep.dropL' c2 .refl))))) (.inr ⟨λh=>h0 h.2,rfl,rfl⟩)
 obtain⟨h3,h4⟩:=h0;refine Aj ?_;refine AS (FE (ws:=B0 c') (k:=8) rfl rfl rfl AX AX) ?_;rintro _ _ ⟨bl2,_,rfl,rfl⟩;refine Aj ?_;refine AS (Hz (k:=8) (X:=[(d9,Obj.cells (toArray (B0 c')) 74 (0,0)),(d8,Obj.cells (toArray (N2 y kd2)) 457 (0,0)),(b9,Obj.cells (toArray (B0 c)) 74 (0,0)),(b8,Obj.cells (toArray (N2 x kd)) 457 (0,0))]) (cs:=c2) (xs:=B0 c) (n:=1) (zs:=B0 ⟨0,0,0,0,0,0,0,0⟩) (ws:=B0 c') rfl rfl rfl Fg rfl (by simp[Value.oneCell']) Af AX) ?_;rintro v2 _ ⟨c3,ho3,rfl⟩;simp only[Ae,Ag];refine Aj ?_;refine E9 ?_;refine Aj ?_;exact CT _ .refl (.drop (.drop (.drop (.drop .refl)))) (.inl ⟨⟨⟨h1,h2⟩,h3,h4⟩,v2,c3,ho3,rfl,rfl⟩)
end
section
def RS(S:KT)(id:Int):KT:=if(FZ S id).2=true then Zr S id else S
def RU(S:KT)(x:Cs):Int×KT:=if FH S x 4 then(0,{RS S (Ei S x).obj with A:=(Ar.placeD (RS S (Ei S x).obj).A (Ei S x).obj 0 0 0).2}) else(8,S)
theorem MR{u:Value}{xs:Ap}{cs:Ac}{m:Nat}(h:OwnSl e m u n xs cs)(h1:1<=n): ∃gb cap sp,u= .slice (some ⟨gb,0,none⟩) n cap/\cs=[(gb,.cells (toArray (xs++sp)) e (0,0))]:=by
 obtain⟨_,⟨_,h0,_⟩|⟨gb,cap,sp,h2,h3,_⟩⟩:=h
 ·omega
 ·exact⟨gb,cap,sp,h2,h3⟩
theorem yl(hK:IsK F C k S p s)(x:Cs):Fn prog 215 [pV b,F6 x] (Ax b p s S G) (KK F C b p k (iV (RU S x).1) (RU S x).2 G):=by
 have mr:CF b p∈Ax b p s S G:=mR λ_ h=>h;unfold RU;refine AN func215 ntmps215 λE=>?_;refine AQ λb3=>?_;refine AS (FE (ws:=N2 x 4) (k:=3) rfl rfl rfl AX AX) ?_;rintro _ _ ⟨bw,_,rfl,rfl⟩;refine Aj ?_;refine AS (Az rfl rfl (fq hK bw x 4 _ (λc hc=> .tail _ (.tail _ hc)) (.head _))) ?_;rintro _ _ (⟨hk,u,cs,ho,rfl,rfl⟩|⟨hk,rfl,rfl⟩)
 case' inr=>
  rw[Ab hk];refine Aj ?_;exact A9
 rw[Ad hk];obtain⟨gb,cap,sp,rfl,rfl⟩:=MR ho Af;rw[Cn];obtain⟨c,hc⟩: ∃c,Ei S x=c:=⟨_,rfl⟩
 rw[hc];have z1:(toArray (B0 c++sp))[0+(0:Int).toNat*8+1]?=some (.int .i64 c.obj):=rfl;refine Aj ?_;refine Gi ?_;intro S1 s1 L1 EG EC DO GQ;refine Aj ?_;refine CA (Cu [6] 0 7) ?_;refine CE ?_;refine MX ?_;intro S2 s2 L2 hS2 FW FN HV;refine CE ?_;refine Aj ?_;have hS:S2={RS S c.obj with A:=(Ar.placeD (RS S c.obj).A c.obj 0 0 0).2}:=by rw[hS2,EG];rfl
 exact A9
instance{x:Cs}:EK prog F C b p 215 [pV b,F6 x] k S k (iV (RU S x).1) (RU S x).2:=⟨λs G h=>yl h x⟩
end
theorem QI: ∀(us ws X Y:Ap),us.length=ws.length->Da (toArray (X++(us++Y))) X.length ws=toArray (X++(ws++Y))
 |[],[],X,Y,_=>rfl
 |u::us,w::ws,X,Y,h=>by
  have h1:(toArray (X++(u::us++Y))).setIfInBounds X.length w=toArray ((X++[w])++(us++Y)):=by apply BP.1;rw[Array.toList_setIfInBounds];show(X++(u::(us++Y))).set X.length w=_;rw[Cv _ _ Af,DV,Fy];simp
  unfold Da;rw[h1];have h2:=QI us ws (X++[w]) Y (by simpa using h);rw[Ah] at h2;rw[show X.length+1=X.length+[w].length from rfl,h2];simp
def EU:Nat->List (Ap)->List (Nat×Value)
 |_,[]=>[]
 |i,r::rs=>(i,.agg (toArray r))::EU (i+1) rs
theorem Ru{zs:Ap}{k:Nat}(hz:zs.length=k): ∀(rows:List (Ap)) (done:Ap) (i:Nat),(∀r,r∈rows->r.length=k)->done.length=i*k->
 Instr.fill (λi=>some (i*k,k)) (toArray (done++(List.replicate rows.length zs).flatten)) (EU i rows)=some (toArray (done++rows.flatten))
 |[],done,i,_,_=>by simp[EU,Instr.fill]
 |r::rs,done,i,hr,hd=>by have h1:r.length=k:=hr r Ak;unfold EU Instr.fill;have e2:(Value.agg (toArray r)).cells=toArray r:=rfl;simp only[e2];rw[Bu,BL,Cy];rw[Ab (by simp[h1,hz,hd])];rw[J5,<-hd,QI zs r done _ (by rw[hz,h1]),<-Am];rw[Ru hz rs (done++r) (i+1) (λr' h=>hr r' (An _ h)) (by rw[Ah,hd,h1,F7])];rw[Am,Cy]
section
variable{fr:Fr}{l:Ac}{d:Option Nat}{aft:Array Edge}{g:Option (Nat×Bool)}
theorem D1{T yb:Nat}{zs:Ap}{ps:List (Nat×Operand)}{pvs:List (Nat×Value)}{cs:Ap}(NO:aC fr ps=some pvs)(h0:0<n*k)(hn:n*k<=16777216)[c:ST P T e k yb][cz:ZV P e zs](R8:zs.length=k)(Ps:Instr.fill (λi=>some (i*k,k)) (toArray (List.replicate n zs).flatten) pvs=some (toArray cs)):
 OpE P ro N fr l ⟨d,.buildSlice T n ps.toArray,ty,pos,aft,g⟩ (λv' l'=> ∃b,(∀c,c∈l->c.1≠b)/\v'= .slice (some ⟨b,0,none⟩) n n/\l'=(b,.cells (toArray cs) e (0,0))::l):=DP rfl λρ hρ=>by
 simp only[execOp,AB];have e:ps.toArray.map (λ(i,x)=>(i,ρ x))=toArray pvs:=by rw[<-hρ.parts NO];simp
 rw[e];exact J6 (cs:=cs) c.out cz.out R8 h0 hn Ps λb hb=>⟨b,hb,rfl,rfl⟩
end
section
abbrev waA(x:Cs)(k:Int):Value:= .agg (toArray (N2 x k))
theorem SS(x y:Cs)(k1 k2:Int):Instr.fill (λi=>some (i*3,3)) (toArray (List.replicate 2 (N2 (0,0) 0)).flatten) [(0,waA x k1),(1,waA y k2)]=some (toArray (N2 x k1++N2 y k2)):=
 Ru (zs:=N2 (0,0) 0) rfl [N2 x k1,N2 y k2] [] 0 (by simp) rfl
def RV(S:KT)(x y:Cs):Int×KT:=if FH S x 7/\FH S y 6 then((As.addP S.N (Ei S y).obj).2.1,{S with N:=(As.addP S.N (Ei S y).obj).2.2}) else(8,S)
theorem ym(hK:IsK F C k S p s)(x y:Cs):Fn prog 218 [pV b,F6 x,F6 y] (Ax b p s S G) (KK F C b p k (iV (RV S x y).1) (RV S x y).2 G):=by
 have mr:CF b p∈Ax b p s S G:=mR λ_ h=>h;unfold RV;refine AN func218 ntmps218 λE=>?_;refine AQ λb3=>?_;refine AQ λb4=>?_;refine AS (D1 (k:=3) (n:=2) (e:=457) (zs:=N2 (0,0) 0) (cs:=N2 x 7++N2 y 6) rfl AX AX rfl (SS x y 7 6)) ?_;rintro _ _ ⟨bw,_,rfl,rfl⟩;refine Aj ?_;refine AS (Az rfl rfl (SR hK bw x y 7 6 _ (λc hc=> .tail _ (.tail _ (.tail _ hc))) (.head _))) ?_;rintro _ _ (⟨hk,u,cs,ho,rfl,rfl⟩|⟨hk,rfl,rfl⟩)
 case' inr=>
  rw[Ab hk];refine Aj ?_;exact A9
 rw[Ad hk];obtain⟨gb,cap,sp,rfl,rfl⟩:=MR ho Af;rw[Cn];obtain⟨c,hc⟩: ∃c,Ei S x=c:=⟨_,rfl⟩
 obtain⟨d,hd⟩: ∃d,Ei S y=d:=⟨_,rfl⟩
 rw[hc,hd];have z1:(toArray (B0 c++B0 d++sp))[0+(1:Int).toNat*8+1]?=some (.int .i64 d.obj):=rfl;refine Aj ?_;refine CA (Cu [6] 0 11) ?_;refine CE ?_;refine MX ?_;intro S1 s1 L1 EG EC DO GQ;refine CE ?_;refine Aj ?_;exact A9
instance{x y:Cs}:EK prog F C b p 218 [pV b,F6 x,F6 y] k S k (iV (RV S x y).1) (RV S x y).2:=⟨λs G h=>ym h x y⟩
def RW(S:KT)(x y:Cs):Int×KT:=
 if FH S x 6/\FH S y 5 then((As.assignP S.N (Ei S x).obj (Ei S y).obj).2.2.1,{S with N:=(As.assignP S.N (Ei S x).obj (Ei S y).obj).2.2.2,W:=if(As.assignP S.N (Ei S x).obj (Ei S y).obj).2.2.1=0 then(r4 S.W (NA S (Ei S y).obj) 1).2 else S.W}) else(8,S)
theorem yn(hK:IsK F C (k+1) S p s)(x y:Cs):Fn prog 219 [pV b,F6 x,F6 y] (Ax b p s S G) (KK F C b p k (iV (RW S x y).1) (RW S x y).2 G):=by
 have mr:CF b p∈Ax b p s S G:=mR λ_ h=>h;unfold RW;refine AN func219 ntmps219 λE=>?_;refine AQ λb3=>?_;refine AQ λb4=>?_;refine AS (D1 (k:=3) (n:=2) (e:=457) (zs:=N2 (0,0) 0) (cs:=N2 x 6++N2 y 5) rfl AX AX rfl (SS x y 6 5)) ?_;rintro _ _ ⟨bw,_,rfl,rfl⟩;refine Aj ?_;refine AS (Az rfl rfl (SR hK bw x y 6 5 _ (λc hc=> .tail _ (.tail _ (.tail _ hc))) (.head _))) ?_;rintro _ _ (⟨hk,u,cs,ho,rfl,rfl⟩|⟨hk,rfl,rfl⟩)
 case' inr=>
  rw[Ab hk];refine Aj ?_;exact A9
 rw[Ad hk];obtain⟨gb,cap,sp,rfl,rfl⟩:=MR ho Af;rw[Cn];obtain⟨c,hc⟩: ∃c,Ei S x=c:=⟨_,rfl⟩
 obtain⟨d,hd⟩: ∃d,Ei S y=d:=⟨_,rfl⟩
 rw[hc,hd];have z0:(toArray (B0 c++B0 d++sp))[0+(0:Int).toNat*8+1]?=some (.int .i64 c.obj):=rfl;have z1:(toArray (B0 c++B0 d++sp))[0+(1:Int).toNat*8+1]?=some (.int .i64 d.obj):=rfl;refine Aj ?_;refine CA (Cu [10] 0 16) ?_;refine CE ?_;refine MX ?_;intro S1 s1 L1 EG EC DO GQ;obtain⟨r,hr⟩: ∃r,As.assignP S.N c.obj d.obj=r:=⟨_,rfl⟩
 rw[hr] at EG⊢;refine CE ?_;by_cases h0:r.2.2.1=0
 case neg=>rw[Ab h0];refine Aj ?_;exact A9
 rw[Ad h0];refine Aj ?_;refine CA (Cu [8] 0 9) ?_;refine CE ?_;refine MX ?_;intro S2 s2 L2 hS2 FW FN HV;refine CE ?_;refine Aj ?_;have hS:S2={S with N:=r.2.2.2,W:=(r4 S.W (NA S d.obj) 1).2}:=by rw[hS2,EG];rfl
 exact A9
instance{x y:Cs}:EK prog F C b p 219 [pV b,F6 x,F6 y] (k+1) S k (iV (RW S x y).1) (RW S x y).2:=⟨λs G h=>yn h x y⟩
end
class CW(c:CapT):Prop where
 out:Jn c
section
instance vD{x:Cs}{c:CapT}[hc:CW c]:EK prog F C b p 299 [pV p.h,F6 x,Xb c] k S k (iV (Pp S.H x c).1) {S with H:=(Pp S.H x c).2}:=⟨λs G h=>r7 h Af (λm hm=>(hm.set x c hc.out).mono Af) λm G hm _=>mP p.h S.H m hm s.H h.ho x c G⟩
theorem IsK.cw(h:IsK F C k S p s)(x:Cs):CW (Ei S x):=by
 obtain⟨m,h1,h2⟩:=h.inv;unfold Ei getD'
 split
 ·exact⟨(h2.at x).2⟩
 ·exact⟨Mc.2⟩
theorem fu(c:CapT)(sp:Ap):(toArray (B0 c++sp)).extract (0+(0:Int).toNat*8) (0+(0:Int).toNat*8+8)=toArray (B0 c):=by apply BP.1;simp
def NK(S:KT)(c:CapT):KT:=if(F0 S c).2=true then nU S c else S
def RX(S:KT)(x:Cs):Int×KT:=if FH S x 3 then(0,{NK S (Ei S x) with H:=(Pp (NK S (Ei S x)).H x {Ei S x with serial:=0,page:=0}).2}) else(8,S)
theorem yp(hK:IsK F C k S p s)(x:Cs):Fn prog 217 [pV b,F6 x] (Ax b p s S G) (KK F C b p k (iV (RX S x).1) (RX S x).2 G):=by
 have mr:CF b p∈Ax b p s S G:=mR λ_ h=>h;have hw:=hK.cw x;unfold RX;refine AN func217 ntmps217 λE=>?_;refine AQ λb3=>?_;refine AS (FE (ws:=N2 x 3) (k:=3) rfl rfl rfl AX AX) ?_;rintro _ _ ⟨bw,_,rfl,rfl⟩;refine Aj ?_;refine AS (Az rfl rfl (fq hK bw x 3 _ (λc hc=> .tail _ (.tail _ hc)) (.head _))) ?_;rintro _ _ (⟨hk,u,cs,ho,rfl,rfl⟩|⟨hk,rfl,rfl⟩)
 case' inr=>
  rw[Ab hk];refine Aj ?_;exact A9
 rw[Ad hk];obtain⟨gb,cap,sp,rfl,rfl⟩:=MR ho Af;rw[Cn];obtain⟨c,hc⟩: ∃c,Ei S x=c:=⟨_,rfl⟩
 rw[hc] at hw⊢;have ko:CW {c with serial:=0,page:=0}:=⟨hw.out.1,hw.out.2⟩
 have z1:=fu c sp;refine Aj ?_;refine Bh (Dt rfl (.head _) (by show 0+(0:Int).toNat*8+8<=(B0 c++sp).length;simp) z1) ?_;refine AQ λb7=>?_;refine Gi ?_;intro S1 s1 L1 EG EC DO GQ;refine Aj ?_;refine CA (Cu [4] 0 5) ?_;refine CE ?_;refine MX (q:=vD (x:=x) (c:={c with serial:=0,page:=0})) ?_;intro S2 s2 L2 hS2 FW FN HV;refine CE ?_;refine Aj ?_;have hS:S2={NK S c with H:=(Pp (NK S c).H x {c with serial:=0,page:=0}).2}:=by rw[hS2,EG];rfl
 exact A9
instance{x:Cs}:EK prog F C b p 217 [pV b,F6 x] k S k (iV (RX S x).1) (RX S x).2:=⟨λs G h=>yp h x⟩
end
section
def UA(S:KT)(x:Cs):Int:=if(getD' S.H.1 x).2=0/\(Ei S x).kind=0 then 10 else(getD' S.H.1 x).2
theorem Ab8(hK:IsK F C k S p s)(x:Cs)(l:Ac)(hl: ∀c,c∈Ax b p s S G->c∈l):Fn prog 288 [pV b,F6 x] l λv l'=>v=iV (UA S x)/\l'=l:=by
 have mr:CF b p∈l:=mR hl;have I: ∀{f:Nat} {vs:Ap} {v:Value} [QF prog f vs (Ax b p s S G) v],QF prog f vs l v:=Z3 hl;unfold UA;refine AN func288 ntmps288 λE=>?_;refine AQ λb3=>?_;refine CA (Cu [7,8] 0 10) ?_;refine CE ?_;refine Ij e_alloc (by rintro _ _ ⟨_,_,_,rfl⟩ c hc;exact .tail _ hc) ?_;rintro _ _ ⟨b5,_,rfl,rfl⟩;obtain⟨c,hc⟩: ∃c,(getD' S.H.1 x).1=c:=⟨_,rfl⟩
 obtain⟨e,he⟩: ∃e,(getD' S.H.1 x).2=e:=⟨_,rfl⟩
 rw[show Ei S x=c from hc,hc,he];refine CE ?_;by_cases h0:e=0/\c.kind=0
 ·rw[Ad h0];obtain⟨h1,h2⟩:=h0;refine Aj ?_;exact qr
 rw[Ab h0];by_cases h1:e=0
 case pos=>have h2:¬c.kind=0:=λh=>h0 ⟨h1,h⟩;refine Aj ?_;exact qr
 refine Aj ?_;exact qr
instance[h:IsK F C k S p s]{x:Cs}:QF prog 288 [pV b,F6 x] (Ax b p s S G) (iV (UA S x)):=⟨λl hl=>Ab8 h x l hl⟩
def vE(W:A4)(root page:Int):List (Int×Int):=
 if ¬(Q4 W root page 1).2=0 then[] else(1,(Q4 W root page 1).1)::if ¬(Q4 W root page 2).2=0 then[] else[(2,(Q4 W root page 2).1)]
theorem nX(root page:Int)(l:Ac):Fn prog 293 [pV b,.int .i64 root,.int .i64 page] l λv l'=> ∃B3 B4 B5,v= .func (.func 331) #[] #[pV B3,pV B4,pV B5]/\l'=BS B5 page::BS B4 root::rB B3 b::l:=by refine AN func293 ntmps293 λE=>?_;refine AQ λb3=>?_;refine AQ λb4=>?_;refine AQ λb5=>?_;exact Bb .refl ⟨_,_,_,rfl,rfl⟩
end
section
def IN(S:KT)(core:Int):Th.ThT×Int:=
 if core<0\/core>=S.K.length then(Th.thZ,3) else if MY S (Ee S.U core)=false\/¬(Dq S (Ee S.U core)).st=1 then(Th.thZ,19) else(Dq S (Ee S.U core),0)
theorem Ab9(hK:IsK F C k S p s)(core:Int)(l:Ac)(hl: ∀c,c∈Ax b p s S G->c∈l):Fn prog 153 [pV b,.int .i64 core] l λv l'=>v= .tuple #[Th.thV (IN S core).1,iV (IN S core).2]/\l'=l:=by
 have mr:CF b p∈l:=mR hl;have I: ∀{f:Nat} {vs:Ap} {v:Value} [QF prog f vs (Ax b p s S G) v],QF prog f vs l v:=Z3 hl;unfold IN MY;refine AN func153 ntmps153 λE=>?_;refine AQ λb4=>?_;by_cases h1:core<0
 ·rw[Ad (.inl h1)];refine Aj ?_;exact AU [] _ rfl .refl (Cq rfl (.head _) (As.LSub.of_all (n:=24) (Th.encH Th.thZ) rfl) (by exact Ba)) (.drop .refl) ⟨rfl,rfl⟩
 refine Aj ?_;refine EM ?_;refine Aj ?_;refine EM ?_;by_cases h2:core>=S.K.length
 ·rw[Ad (.inr h2)];refine Aj ?_;exact AU [] _ rfl .refl (Cq rfl (.head _) (As.LSub.of_all (n:=24) (Th.encH Th.thZ) rfl) (by exact Ba)) (.drop .refl) ⟨rfl,rfl⟩
 rw[Ab Af];refine Aj ?_;refine EM ?_;refine Aj ?_;refine EM ?_;refine Aj ?_;refine EM ?_;obtain⟨t,ht⟩: ∃t,Dq S (Ee S.U core)=t:=⟨_,rfl⟩
 obtain⟨ok,Dm⟩: ∃ok,(Th.findH S.T (Ee S.U core)).isSome=ok:=⟨_,rfl⟩
 rw[ht,Dm];refine AQ λb6=>?_;by_cases h3:ok=false\/¬t.st=1
 ·rw[Ad h3];cases ok<;>by_cases h4:t.st=1;all_goals first
   |(exfalso;simp[h4] at h3;done)
   |(refine Aj ?_
     exact AU [] _ rfl .refl (Cq rfl (.tail _ (.head _)) (As.LSub.of_all (n:=24) (Th.encH Th.thZ) rfl) (by exact Ba)) (.drop (.drop .refl)) ⟨rfl,rfl⟩)
 rw[Ab h3];obtain⟨h4,h5⟩:ok=true/\t.st=1:=by simp at h3;exact h3
 subst h4;refine Aj ?_;exact AU [] _ rfl .refl (Cq rfl (.tail _ (.head _)) (As.LSub.of_all (n:=24) (Th.encH t) rfl) (by exact Ba)) (.drop (.drop .refl)) ⟨rfl,rfl⟩
instance[h:IsK F C k S p s]{core:Int}:QF prog 153 [pV b,.int .i64 core] (Ax b p s S G) (.tuple #[Th.thV (IN S core).1,iV (IN S core).2]):=⟨λl hl=>Ab9 h core l hl⟩
end
abbrev cD(a b c d:Nat):Ap:=[.int .i64 (a:Nat),.int .i64 (b:Nat),.int .i64 (c:Nat),.int .i64 (d:Nat)]
def yu(w:Nat):Ap:=if 32768<=w then cD 0 0 0 0 else cD (Ed w 12 3) (Ed w 9 3) (Ed w 6 3) (Ed w 0 6)
theorem Pi(w a n:Nat):Ed w a n<2^n:=Ho _ (G1 n)
theorem iY(w:Nat)(hw:w<18446744073709551616)(l:Ac):Fn prog 255 [.int .u64 (w:Nat)] l λv l'=>v= .tuple #[.agg (toArray (yu w)),iV (if 32768<=w then 3 else 0)]/\l'=l:=by
 have f1:=Pi w 12 3;have f2:=Pi w 9 3;have f3:=Pi w 6 3;have f4:=Pi w 0 6;unfold yu;refine AN func255 ntmps255 λE=>?_;refine AQ λb2=>?_;by_cases h1:32768<=w
 ·rw[Ad h1,Ad h1];refine Aj ?_;exact AU [] _ rfl .refl (Cq rfl (.head _) (As.LSub.of_all (n:=4) (cD 0 0 0 0) rfl) (by exact Ba)) (.drop .refl) ⟨rfl,rfl⟩
 rw[Ab h1,Ab h1];refine AQ λb4=>?_;refine Ie 3 ?_;refine Aj ?_;refine Bh (AL rfl rfl λl2 _=>JW w 12 3 hw AX AX AX l2) ?_;obtain⟨x1,ZX⟩: ∃x,Ed w 12 3=x:=⟨_,rfl⟩
 rw[ZX] at f1⊢;refine Aj ?_;refine M9 (GF (cs:=cD 0 0 0 0) (cs':=cD x1 0 0 0) rfl rfl rfl (.head _) (by exact .zero) (by exact .here)) rfl rfl ?_;rintro _ _ ⟨rfl,rfl⟩;refine Aj ?_;refine E9 ?_;refine Aj ?_;refine Bh (AL rfl rfl λl2 _=>JW w 9 3 hw AX AX AX l2) ?_;obtain⟨x2,XL⟩: ∃x,Ed w 9 3=x:=⟨_,rfl⟩
 rw[XL] at f2⊢;refine Aj ?_;refine M9 (GF (cs:=cD x1 0 0 0) (cs':=cD x1 x2 0 0) rfl rfl rfl (.head _) (by exact .succ .zero) (by exact .here)) rfl rfl ?_;rintro _ _ ⟨rfl,rfl⟩;refine Aj ?_;refine E9 ?_;refine Aj ?_;refine Bh (AL rfl rfl λl2 _=>JW w 6 3 hw AX AX AX l2) ?_;obtain⟨x3,hx3⟩: ∃x,Ed w 6 3=x:=⟨_,rfl⟩
 rw[hx3] at f3⊢;refine Aj ?_;refine M9 (GF (cs:=cD x1 x2 0 0) (cs':=cD x1 x2 x3 0) rfl rfl rfl (.head _) (by exact .succ (.succ .zero)) (by exact .here)) rfl rfl ?_;rintro _ _ ⟨rfl,rfl⟩;refine Aj ?_;refine E9 ?_;refine Aj ?_;refine Bh (AL rfl rfl λl2 _=>JW w 0 6 hw AX AX AX l2) ?_;obtain⟨x4,hx4⟩: ∃x,Ed w 0 6=x:=⟨_,rfl⟩
 rw[hx4] at f4⊢;have g0:(toArray (cD x1 x2 x3 0))[0+(0:Int).toNat*1]?=some (.int .i64 (x1:Nat)):=rfl;have g1:(toArray (cD x1 x2 x3 0))[0+(1:Int).toNat*1]?=some (.int .i64 (x2:Nat)):=rfl;have g2:(toArray (cD x1 x2 x3 0))[0+(2:Int).toNat*1]?=some (.int .i64 (x3:Nat)):=rfl;refine Aj ?_;exact AU [] _ rfl .refl (Cq rfl (.tail _ (.head _)) (As.LSub.of_all (n:=4) (cD x1 x2 x3 x4) rfl) (by exact Ba)) (.drop (.drop .refl)) ⟨rfl,rfl⟩
end Go.Proofs.YtlifcingifodfaaGreat
