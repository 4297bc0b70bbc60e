/- Laws. -/
import Derived.Test.YtlifcingifodfaaGreatGd15
set_option maxHeartbeats 4000000
set_option linter.all false
namespace Go.Proofs.YtlifcingifodfaaGreat
open Tryz
open List renaming toArray→τ
open Go.RowKit
set_option maxRecDepth 20000
variable{k F C b n j N i bv cap e:Nat}{S:KT}{s:RL}{p:RP}{G L2 lo:Ac}{P:Program}{E:World}{Q:Exit->Act->World->Prop}{ds:List Deferred}{sp:Ap}{id:Int}{ro:Option Nat}{ty:TypeId}{pos:String}
namespace Ar
theorem all_any(b:Nat)(S:ArT)(lq:Ac)(hA:IsA b S lq)(l:Ac)(CJ: ∀c,c∈lq->c∈l):
 Fn prog 73 [π b] l λv l'=> ∃cs,OwnSl 100 9 v S.os.length (ocs S.os) cs/\l'=cs++l:=by
 have Ef:=hA.ok.len;obtain⟨Dh,v,cs,rfl,ho⟩:=hA;obtain⟨gb,KZ,OR⟩:=Xs ho;refine AO func73 ntmps73 λE=>?_;refine Iy λb3=>?_;refine AP (Az rfl rfl (Jy _ rfl _)) ?_;rintro _ _ ⟨B,rfl,rfl⟩;refine gz ?_;refine Dj (α:=ObT×Nat) (ps:=[8,9]) (lb:=[π B]) rfl (Ii B b S.n S.g v S.os gb KZ Af) (λ_=>rfl) rfl
  (λpre l=> ∃u N4,OwnSl 100 9 u pre.length (ocs (pre.map Prod.fst)) N4/\l=[xB B (some ⟨b,0,none⟩),(b3,.cells #[u] 43 (0,0))]++N4)
  (λc pre l=>False)
  _ l (λpre l2 X2 hX h=>by obtain⟨u,N4,_,rfl⟩:=h;exact⟨List.Mem.head _,Aa _ (hX _ (CJ _ (.head _)))⟩) AY ⟨_,[],OwnSl.nil _ _,rfl⟩ ?_ ?_ ?_
 ·rintro E r0 Gb pre ⟨o,k⟩ l' T ⟨fn,tmps,D,rfl⟩ hT ⟨u,N4,EY,rfl⟩ DG;obtain⟨Gc,hk,_⟩:=QV DG;simp only at Gc hk;have aB:=(Aw.1 Gc).1;obtain⟨sp,rfl⟩:=OR _ _ Gc;have vM:=hT _ (CJ _ ν);obtain⟨x1,x2⟩:=fj Gc sp;have hu1:u.oneCell'=true:=EY.one;simp only[DY,Ae,Ag];refine gz ?_;refine CP (.there (.there (FX _ _ _ _ _))) ?_;generalize hX1:(r0,Obj.loop (DV fn tmps _ _ _ D .busy none))::T=X1;have hmX:(gb,Obj.cells (τ (ocs S.os++sp)) 100 (0,0))∈X1:=by rw[<-hX1];exact .tail _ vM
  refine gz ?_;refine Ct [4,5,6] 7 ([]) ?_;refine pz ?_;apply Gy (S:=[(b3,.cells #[u] 43 (0,0))])
  ·exact DQ rfl (.head _) rfl
  ·intro c hc;cases hc with
   |head=>exact .tail _ (.head _)
   |tail _ h=>cases h
  ·rfl
  ·rfl
  ·rfl
  refine pz ?_;apply Gy (S:=[(gb,Obj.cells (τ (ocs S.os++sp)) 100 (0,0))])
  ·exact Dp rfl (.head _) x1 x2
  ·intro c hc;cases hc with
   |head=>exact .tail _ (.tail _ (Aa _ hmX))
   |tail _ h=>cases h
  ·rfl
  ·rfl
  ·rfl
  refine pz ?_;apply Hi
  ·apply FB (ws:=obC o) (k:=9)
   ·rfl
   ·rfl
   ·rfl
   ·decide
   ·decide
  ·rfl
  ·rfl
  ·rfl
  ·intro _ _ _ c hc;cases hc
  ·rintro _ _ ⟨bl,_,rfl,rfl⟩ x hx _ c hc;have h3: ∀q:Obj,(b3,q)∈(bl,Obj.cells (τ (obC o)) 100 (0,0))::xB B (some ⟨b,0,none⟩)::(b3,q)::(N4++X1):=λq=> .tail _ ν;simp only[Au,BR,EF] at hx;rcases hx with rfl|rfl<;>simp only[Au,BR,EF] at hc<;>subst hc
   ·exact .tail _ (.tail _ (.tail _ (Aa _ hmX)))
   ·exact h3 _
  rintro _ _ ⟨bl,_,rfl,rfl⟩;refine pz ?_;apply Hi
  ·apply HM (k:=9) (X:=[xB B (some ⟨b,0,none⟩),(b3,.cells #[u] 43 (0,0))]) (cs:=N4) (xs:=ocs (pre.map Prod.fst)) (n:=pre.length) (zs:=qY) (ws:=obC o)
   ·rfl
   ·rfl
   ·rfl
   ·exact EY
   ·rfl
   ·simp[Value.oneCell']
   ·omega
   ·decide
  ·rfl
  ·rfl
  ·rfl
  ·intro _ _ _ c hc;cases hc
  ·exact λ_ _ _ x hx ha=>Dk Bu hx ha
  rintro v' _ ⟨c2,F0,rfl⟩;have Js:v'.oneCell'=true:=F0.one;simp only[Ae,Ag];apply HL
  ·apply GM (cs:=[u])
   ·rfl
   ·rfl
   ·exact Js
   ·exact Ca
   ·exact .zero
   ·exact D1
  ·rfl
  ·rfl
  ·intro _ _ _ c hc;cases hc
  ·exact λ_ _ _ x hx ha=>Dk Bu hx ha
  rintro _ _ ⟨rfl,rfl⟩;refine pz ?_;refine gz ?_;rw[<-hX1];refine Cn _ (.refl) ⟨v',c2,?_,rfl⟩;rw[At,show[(o,k)].map Prod.fst=[o] from rfl,mP,Ah];exact F0
 ·rintro D xs l' rfl ⟨u,N4,EY,rfl⟩;have hu1:u.oneCell'=true:=EY.one;simp only[Ae,Ag];refine gz ?_;refine AU [D] (N4++l) rfl (l':=N4++l) AY Ba .refl ?_;rw[fm,show(Ys S.os).map Prod.fst=S.os from List.zipIdx_map_fst ..] at EY;exact⟨N4,EY,rfl⟩
 ·rintro D c pre l' DG h;exact h.elim
end Ar
namespace As
theorem setFrom_all(cs vs:Ap)(h:vs.length=cs.length):Dc (τ cs) 0 vs=τ vs:=by
 apply Dq;intro j;rw[Sb _ _ _ _ (by simp[h])];by_cases hj:j<vs.length
 ·rw[Ad Af];simp
 ·rw[Ab Af];simp;rw[Bi Af,Bi Af]
theorem LSub.of_all{n:Nat}(ws:Ap)(h:ws.length=n):LSub ws 0 n ws:=by
 subst h
 induction ws with
 |nil=>exact .done
 |cons w ws ih=>exact .take ih
theorem pools_any(b:Nat)(s:ASt)(ws:Ap)(hw:s.cells.extract 0 80=τ ws)(hl:ws.length=80)(h1: ∀v,v∈ws->v.oneCell'=true)(l:Ac)(hm:asA b s∈l):Fn prog 77 [π b] l λv l'=>v= .agg (τ ws)/\l'=l:=by
 refine AO func77 ntmps77 λE=>?_;refine Iy λb2=>?_;refine Be (Dp (cs:=s.cells) (n:=80) rfl Ca (by rw[s.cells_size];omega) hw) ?_;refine gz ?_;apply Nk
 ·apply EG (n:=80)
  ·rfl
  ·rfl
  ·simpa using hl
  ·exact h1
  ·exact .here
  ·simp
 ·rfl
 ·rfl
 rintro _ _ ⟨rfl,rfl⟩;rw[DU,setFrom_all _ _ (by rw[hl];rfl)];refine gz ?_;refine AU [] ((b2,.cells (τ ws) 50 (0,0))::l) rfl (l':=l) AY (B0 rfl Ca (LSub.of_all (n:=80) _ hl) .nil) AY ⟨rfl,rfl⟩
end As
abbrev rB(B b:Nat):Bh:=(B,.cells #[pV b] 124 (0,0))
theorem Pz(b:Nat)(l:Ac):Fn prog 79 [pV b] l λv l'=> ∃B,v= .func (.func 120) #[] #[pV B]/\l'=rB B b::l:=by refine AO func79 ntmps79 λE=>?_;refine AR λB=>?_;exact Bc .refl ⟨B,rfl,rfl⟩
theorem UR(h:k<n):(List.range n).take (k+1)=(List.range n).take k++[k]:=by rw[Hg,Hg,EX Af,EX Af,Cx]
theorem NM(B b:Nat)(p:RP)(bv C cap:Nat)(hC:C<=100)(hv:p.v= .slice (some ⟨bv,0,none⟩) C cap):
 FN prog 120 [pV B] (λi:Nat=>[ι i,.pointer (some ⟨bv,i*1,none⟩)]) (λxs=>xs=List.range C) (λpre=>pre<+:List.range C) (λ_ l=>rB B b∈l/\CH b p∈l):=by
 refine⟨λr I Ix G0 Cf hY l G hG h0=>?_⟩;obtain⟨n1,n2⟩:=Cf _ _ G hG h0;simp only[CH,hv] at Cf n2;refine AO func120 ntmps120 λE=>?_;refine Aj ?_;refine CF (α:=Nat×Ac) (λx=>[(0,.func (.yield r) #[] #[]),(1,pV B),(10,ι C),(11,ι x.1)]) (λx=>x.2++G) (λx=>x.1<=C/\I ((List.range C).take x.1) x.2) (λx=>C-x.1) (0,l) ⟨Bm _,h0⟩ ⟨rfl,rfl,rfl,rfl,trivial⟩ .refl ?_;clear n1 n2;rintro⟨k,l⟩ ⟨hk,hI⟩;simp only at hk hI⊢;obtain⟨n1,n2⟩:=Cf _ _ G hG hI;by_cases C7:k<C
 ·refine Aj ?_;have hy:=hY ((List.range C).take k) k l G hG hI (by rw[<-UR C7];exact BL _ _);refine AP (C8 rfl rfl hy) ?_;rintro v l' ⟨l1,rfl,⟨rfl,Kz⟩|⟨rfl,hx⟩⟩
  ·refine Aj ?_;exact BZ (k+1,l1) ⟨by simp only;omega,by simp only;rw[UR C7];exact Kz⟩ (by simp only;omega) ⟨rfl,rfl,rfl,rfl,trivial⟩ .refl
  ·refine Aj ?_;exact BF [] rfl .refl Ba ⟨l1,rfl,.inr ⟨_,by rw[<-UR C7];exact BL _ _,hx⟩⟩
 ·obtain rfl:k=C:=by omega
  rw[BD (by simp)] at hI;refine Aj ?_;exact Bc .refl ⟨l,rfl,.inl ⟨_,rfl,hI⟩⟩
instance{F C k:Nat}{S:KT}{p:RP}{b:Nat}{id:Int}:EK prog F C b p 203 [pV b,ι id] k S k (iV (I9 S id).1) (I9 S id).2:=⟨λs G h=>zf h id⟩
section
variable{α:Type}
def tW(F C b:Nat)(p:RP)(G:Ac)(J:List α->Nat->KT->Ac->Prop)(pre:List α)(l:Ac):Prop:= ∃lo k S s L,J pre k S lo/\IsK F C k S p s/\Tail L G/\l=lo++AA b p s S L
def tX(F C b:Nat)(p:RP)(G:Ac)(J:Code->List α->Nat->KT->Ac->Prop)(c:Code)(pre:List α)(l:Ac):Prop:= ∃lo k S s L,J c pre k S lo/\IsK F C k S p s/\Tail L G/\l=lo++AA b p s S L
variable{fr:Fr}{L0:Ac}{g:Operand}{ps:List Tmp}{assign body:Code}{gf:Nat}{lb:Ap}{enc:α->Ap}{Sx Sp:List α->Prop}{Need:List α->Ac->Prop}
theorem US(hg:ev fr g=some (.func (.func gf) #[] lb.toArray))[en:EN P gf](hit:FN P gf lb enc Sx Sp Need)(N3: ∀x,(enc x).length=ps.length)(kJ:ps.all (λp=>Nat.blt p N)=true)
 (J:List α->Nat->KT->Ac->Prop)(JX:Code->List α->Nat->KT->Ac->Prop)(Cf: ∀pre lo k S s L X,J pre k S lo->IsK F C k S p s->Need pre ((lo++AA b p s S L)++X))(hL:Keep L0 (lo++AA b p s S G))(h0:J [] k S lo)(hK:IsK F C k S p s)
 (Nd: ∀(E:World) (r:Nat) (Gb:LoopState->Option Code->Loop) (pre:List α) (x:α) (lo:Ac) (k:Nat) (S:KT) (s:RL) (L T:Ac),(∃fn tmps D,Gb=DV fn tmps ps.toArray assign body D)->Tail L G->J pre k S lo->IsK F C k S p s->Sp (pre++[x])->CH b p∈AA b p s S (L++T)->
   BS P (some r) N E assign (Exit.then (P3 P r body (roundPost P r (RK E (KH (tW F C b p G J) (tX F C b p G JX) (pre++[x]) r Gb T)))) (λ_ _ _=>False)) (DY ps (enc x) fr) [] (lo++(r,.loop (Gb .ready none))::AA b p s S (L++T)))
 (Oj: ∀(D:Nat) (xs:List α) (lo:Ac) (k:Nat) (S:KT) (s:RL) (L:Ac),Sx xs->J xs k S lo->IsK F C k S p s->Tail L G->CH b p∈AA b p s S L->C3 N E Q .normal fr (HJ D::ds) (Cv D::(lo++AA b p s S L)))
 (KS: ∀(D:Nat) (c:Code) (pre:List α) (lo:Ac) (k:Nat) (S:KT) (s:RL) (L:Ac),Sp pre->JX c pre k S lo->IsK F C k S p s->Tail L G->CH b p∈AA b p s S L->BS P none N E c Q fr (HJ D::ds) (Cv D::(lo++AA b p s S L))):
 BS P none N E (.rangeFunc g ps.toArray assign body) Q fr ds L0:=by
 refine Dj hg hit N3 kJ (tW F C b p G J) (tX F C b p G JX) (lo++AA b p s S G) [] (λpre l X _ h=>by obtain⟨lo,k,S,s,L,h1,h2,_,rfl⟩:=h;exact Cf _ _ _ _ _ _ _ h1 h2) (by rw[Bj];exact hL) ⟨lo,k,S,s,G,h0,hK,.nil,rfl⟩ ?_ ?_ ?_
 ·rintro E r Gb pre x l T hr-⟨lo,k,S,s,L,h1,h2,h3,rfl⟩ DG;refine Eh (.of_perm ?_) (Nd E r Gb pre x lo k S s L T hr h3 h1 h2 DG (mR λ_ h=>h));unfold AA;exact δ
 ·rintro D xs l hS ⟨lo,k,S,s,L,h1,h2,h3,rfl⟩;rw[Bj];exact Oj D xs lo k S s L hS h1 h2 h3 (mR λ_ h=>h)
 ·rintro D c pre l hS ⟨lo,k,S,s,L,h1,h2,h3,rfl⟩;rw[Bj];exact KS D c pre lo k S s L hS h1 h2 h3 (mR λ_ h=>h)
variable{r:Nat}{fn:FuncId}{tmps:Array Value}{pt:Array Tmp}{D:Nat}{J:List α->Nat->KT->Ac->Prop}{JX:Code->List α->Nat->KT->Ac->Prop}{xs:List α}{L T Lst:Ac}
theorem go{o:Obj}(hk:Keep Lst (lo++(r,o)::AA b p s S L2))(hT:Tail L2 (L++T)): ∃X,Keep Lst ((lo++AA b p s S (X++L))++(r,o)::T):=by obtain⟨X,rfl⟩:=hT;refine⟨X,hk.trans (.of_perm ?_)⟩;unfold AA;exact δ
theorem jG(lo:Ac)(hk:Keep Lst (lo++(r,.loop (DV fn tmps pt assign body D .busy none))::AA b p s S L2))(hJ:J xs k S lo)(hT:Tail L2 (L++T):=by exact zTl)(hL:Tail L G:=by assumption)(hK:IsK F C k S p s:=by infer_instance):C3 N E (roundPost P r (RK E (KH (tW F C b p G J) (tX F C b p G JX) xs r (DV fn tmps pt assign body D) T))) .normal fr ds Lst:=by obtain⟨X,h⟩:=go hk hT;exact Cn _ h ⟨lo,k,S,s,X++L,hJ,hK,hL.step X,rfl⟩
theorem tY(lo:Ac)(hk:Keep Lst (lo++(r,.loop (DV fn tmps pt assign body D .busy none))::AA b p s S L2))(hJ:JX .ret xs k S lo)(hT:Tail L2 (L++T):=by exact zTl)(hL:Tail L G:=by assumption)(hK:IsK F C k S p s:=by infer_instance):C3 N E (roundPost P r (RK E (KH (tW F C b p G J) (tX F C b p G JX) xs r (DV fn tmps pt assign body D) T))) .ret fr ds Lst:=by obtain⟨X,h⟩:=go hk hT;exact EH _ h ⟨lo,k,S,s,X++L,hJ,hK,hL.step X,rfl⟩
end
abbrev Od(bv:Nat)(U:A8)(sp:Ap):Bh:=(bv,.cells (τ (U.map CU++sp)) 3 (0,0))
section
theorem IsK.cur(h:IsK F C k S p s): ∃bv cap sp,p.v= .slice (some ⟨bv,0,none⟩) C cap/\s.V=[Od bv S.U sp]/\C<=cap/\cap<=maxLen/\C+sp.length=cap:=by
 obtain⟨h1,⟨_,h0,_⟩|⟨bv,cap,sp,e1,e2,z1,z2,z3⟩⟩:=h.cu
 ·have:=h.c1;omega
 ·exact⟨bv,cap,sp,e1,e2,z1,z2,by rw[Ah,h1] at z3;omega⟩
theorem lfV{k' f:Nat}{vs:Ap}{x:Value}{U':A8}(hK:IsK F C k S p s)(hk:k'<=k)(hl:U'.length=S.U.length)(h: ∀bv cap sp G,p.v= .slice (some ⟨bv,0,none⟩) C cap->CH b p∈G->(∀c,c∈s.T->c∈G)->Fn prog f vs (Od bv S.U sp::G) λv l'=>v=x/\ ∃X,l'=X++Od bv U' sp::G):Fn prog f vs (AA b p s S G) (KK F C b p k' x {S with U:=U'} G):=by
 obtain⟨bv,cap,sp,e1,e2,z1,z2,z3⟩:=hK.cur;have ho:OwnSl 3 1 p.v C (U'.map CU) [Od bv U' sp]:=⟨by rw[A5,hl,hK.ul];omega,.inr ⟨bv,cap,sp,e1,rfl,z1,z2,by rw[Ah,A5,hl,hK.ul];omega⟩⟩
 exact Fn.re (.of_perm (by unfold AA;rw[e2];exact δ)) (h bv cap sp (CH b p::As.asA p.n S.N::(s.M++(s.C++(s.A++(s.H++(s.T++(s.Q++(s.E++G)))))))) e1 (.head _) (λc hc=>by simp[hc])) λv l' ⟨g1,X,g2⟩=>⟨AA b p {s with V:=[Od bv U' sp]} {S with U:=U'} (X++G),by rw[g2];unfold AA;exact γ [],g1,{s with V:=[Od bv U' sp]},_,{hK.mono hk with cu:=ho,ul:=hl.trans hK.ul},⟨X,rfl⟩,rfl⟩
theorem Sj{U:A8}(h:i<U.length):(τ (U.map CU++sp))[i]?=some (ι (U.getD i 0)):=by rw[AF,AH (by simpa using h),A7,Ak h,List.getD,Ak h];rfl
theorem wQ{U:A8}(h:i<U.length)(v:Int):(τ (U.map CU++sp)).setIfInBounds i (CU v)=τ ((U.set i v).map CU++sp):=by rw[BB,HA _ _ (by simpa using h),Ie]
def KL(U:A8)(core:Int):Int:=if core<0\/core>=U.length then 0 else U.getD core.toNat 0
theorem gp{x:Nat}{pre:List Nat}(h:pre++[x]<+:List.range n)(hj:pre.length=j):x=j/\j<n/\pre=List.range j:=by
 have h4:=h.length_le;rw[Ah,Fq,Bk] at h4;obtain⟨t,ht⟩:=h;have e:(pre++[x])=List.range (j+1):=by have:=BM (List.take (j+1)) ht;rw[List.take_append_of_le_length (by simp;omega),BD (by simp;omega),Hg,EX Af] at this;exact this
 rw[Cx] at e;have:=JW e rfl;exact⟨by simpa using this.2,Af,this.1⟩
theorem Ac9(hK:IsK F C k S p s)(core:Int)(l:Ac)(hl: ∀c,c∈AA b p s S G->c∈l):Fn prog 104 [pV b,ι core] l λv l'=>v=iV (KL S.U core)/\l'=l:=by
 obtain⟨bv,cap,sp,e1,e2,z1,z2,z3⟩:=hK.cur;have hC:=hK.c1;have aS:=hK.ul;have mr:CH b p∈l:=mR hl;have mv:Od bv S.U sp∈l:=mV hl _ (by rw[e2];simp);refine AO func104 ntmps104 λE=>?_;refine AR λb3=>?_;refine AR λb4=>?_;refine AP (Az rfl rfl (Pz b _)) ?_;rintro _ _ ⟨B,rfl,rfl⟩;refine Aj ?_;refine Dj (α:=Nat) (ps:=[9,10]) (lb:=[pV B]) rfl (NM B b p bv C cap Af e1) (λ_=>rfl) rfl
  (λpre l=>(∀x:Nat,x∈pre->¬(x:Int)=core)/\l=[rB B b,BX b4 0,BX b3 core])
  (λc pre l=>c= .ret/\ ∃x:Nat,x<C/\(x:Int)=core/\l=[BX b4 (S.U.getD x 0)])
  [rB B b,BX b4 0,BX b3 core] l (λpre l2 X hX h=>⟨by rw[h.2];exact Ai _ (.head _),Aa _ (hX _ mr)⟩) AY ⟨λ_ h=>(nomatch h),rfl⟩ ?_ ?_ ?_
 ·rintro E r0 Gb pre x l' X ⟨fn,tmps,D,rfl⟩ hX ⟨hn,rfl⟩ DG;obtain⟨rfl,hx,_⟩:=gp DG rfl;have mX:=hX _ mv;have c0:=Sj (U:=S.U) (sp:=sp) (i:=pre.length) Af;simp only[DY,Ae,Ag,Dw];refine Aj ?_;refine CP D1 ?_;refine Aj ?_;by_cases h:((pre.length:Nat):Int)=core
  ·refine Aj ?_;refine EH [BX b4 (S.U.getD pre.length 0)] AY ⟨rfl,pre.length,hx,h,rfl⟩
  ·refine Aj ?_;exact Cn [rB B b,BX b4 0,BX b3 core] AY ⟨λz hz=>by
    rcases AB.1 hz with hz|hz
    ·exact hn z hz
    ·rw[Ay.1 hz];exact h,rfl⟩
 ·rintro D xs l' rfl ⟨hn,rfl⟩;have e0:KL S.U core=0:=by
   unfold KL
   split
   ·rfl
   ·rename_i h;exact absurd (show((core.toNat:Nat):Int)=core by omega) (hn core.toNat (by simp;omega))
  rw[e0];simp only[Ae,Ag];refine Aj ?_;exact AU [D] _ rfl (l':=l) AY Ba AY ⟨rfl,rfl⟩
 ·rintro D c pre l' DG ⟨rfl,x,hx,rfl,rfl⟩;have e0:KL S.U (x:Nat)=S.U.getD x 0:=by unfold KL;rw[Ab Af,AV]
  rw[e0];simp only[Ae,Ag];refine Aj ?_;exact AU [D] _ rfl (l':=l) AY Ba AY ⟨rfl,rfl⟩
instance[h:IsK F C k S p s]{core:Int}:QF prog 104 [pV b,ι core] (AA b p s S G) (iV (KL S.U core)):=⟨λl hl=>Ac9 h core l hl⟩
def K6(U:A8)(core id:Int)(j:Nat):A8:=(U.take j).mapIdx (λi x=>if(i:Int)=core then id else if x=id then 0 else x)++U.drop j
def M4(S:KT)(core id:Int):Int×KT:=if core<0\/core>=S.U.length then(3,S) else if Mw S id=false/\¬id=0 then(2,S) else(0,{S with U:=K6 S.U core id S.U.length})
theorem Rb(U:A8)(core id:Int)(j:Nat):(K6 U core id j).length=U.length:=by unfold K6;simp;omega
theorem jH{U:A8}{core:Int}(h:j<U.length):(K6 U core id j).getD j 0=U.getD j 0/\K6 U core id (j+1)=(K6 U core id j).set j (if(j:Int)=core then id else if U.getD j 0=id then 0 else U.getD j 0):=by
 have e1:U.drop j=U.getD j 0::U.drop (j+1):=by rw[CR h,List.getD,Ak h];rfl
 have e2:U.take (j+1)=U.take j++[U.getD j 0]:=by rw[BP,List.getD,Ak h];rfl
 have ln:((U.take j).mapIdx λi x=>if(i:Int)=core then id else if x=id then 0 else x).length=j:=by simp;omega
 unfold K6;constructor
 ·rw[List.getD,AW (by rw[ln];omega),ln,Dx,e1];rfl
 ·rw[e2,e1,Cq _ _ (by rw[ln];omega),ln,Dx,List.mapIdx_append,Am];simp[EX (Nat.le_of_lt h)]
end
theorem ZZ{U:A8}(h:j<U.length):U.set j (U.getD j 0)=U:=by
 refine Dn λi=>?_;rw[Hp]
 split
 ·rename_i e;subst e;simp[h]
 ·rfl
section
theorem Ada(hK:IsK F C k S p s)(core id:Int):Fn prog 103 [pV b,ι core,ι id] (AA b p s S G) (KK F C b p k (iV (M4 S core id).1) (M4 S core id).2 G):=by
 have hC:=hK.c1;have aS:=hK.ul;have key:(M4 S core id).2={S with U:=(M4 S core id).2.U}:=by unfold M4;(repeat' split)<;>rfl
 rw[key];refine lfV hK (Bf _) (by unfold M4;(repeat' split)<;>first|rfl|exact Rb _ _ _ _) λbv cap sp G e1 mr mt=>?_;have QT: ∀l2,(∀c,c∈G->c∈l2)->Fn prog 95 [pV p.t,ι id] l2 _:=λl2 h2=>Th.get_any p.t S.T s.T hK.th id l2 λc hc=>h2 _ (mt c hc);have nC:CH b p=(b,.cells (τ [pV p.m,pV p.c,pV p.a,pV p.h,pV p.n,pV p.t,pV p.q,pV p.e,.slice (some ⟨bv,0,none⟩) C cap]) 162 (0,0)):=by unfold CH;rw[e1]
 have Ig:=mr;rw[nC] at Ig;refine AO func103 ntmps103 λE=>?_;refine AR λb4=>?_;refine AR λb5=>?_;refine IP ?_;by_cases hb:core<0\/core>=C
 ·rw[show M4 S core id=(3,S) by unfold M4;rw[aS,Ad hb]];by_cases h1:core<0<;>by_cases h2:core>=C;all_goals first
   |(exfalso;omega)
   |(refine BJ ?_
     refine Aj ?_;exact Bc .refl ⟨rfl,[BX b5 id,BX b4 core],rfl⟩)
 refine BJ ?_;refine Aj ?_;refine CC (Cy [9,10] 0 12) ?_;refine CG ?_;refine ff ?_ (AI rfl rfl λl2 h2=>QT l2 λc hc=>h2 _ (.tail _ (.tail _ (.tail _ hc))));refine CG ?_;refine Is e_alloc (by rintro _ _ ⟨_,_,_,rfl⟩ c hc;exact .tail _ hc) ?_;rintro _ _ ⟨b7,_,rfl,rfl⟩;refine CG ?_;obtain⟨t,ht⟩:=ξ ((Th.findH S.T id).getD Th.thZ)
 rw[ht];obtain⟨ok,Dh⟩:=ξ ((Th.findH S.T id).isSome)
 rw[Dh];refine CG ?_;by_cases aU:ok=false/\¬id=0
 ·rw[show M4 S core id=(2,S) by unfold M4 Mw;rw[aS,Ab hb,Dh,Ad aU]];obtain⟨rfl,h0⟩:=aU;refine Aj ?_;exact Bc .refl ⟨rfl,[Th.thC b7 t,BX b5 id,BX b4 core],rfl⟩
 rw[show M4 S core id=(0,{S with U:=K6 S.U core id C}) by unfold M4 Mw;rw[aS,Ab hb,Dh,Ab aU]];cases ok
 case' false=>
  have h0:id=0:=by
   by_cases e:id=0
   ·exact e
   ·exact absurd ⟨rfl,e⟩ aU
 all_goals
  refine Aj ?_;refine AP (Az rfl rfl (Pz b _)) ?_;rintro _ _ ⟨B,rfl,rfl⟩;refine Aj ?_;refine Dj (α:=Nat) (ps:=[43,44]) (lb:=[pV B]) rfl (NM B b p bv C cap Af e1) (λ_=>rfl) rfl
   (λpre l=>l=[rB B b,Th.thC b7 t,BX b5 id,BX b4 core,Od bv (K6 S.U core id pre.length) sp])
   (λc pre l=>False)
   [rB B b,Th.thC b7 t,BX b5 id,BX b4 core,Od bv S.U sp] G (λpre l2 X hX h=>⟨by rw[h];exact Ai _ (.head _),Aa _ (hX _ mr)⟩) AY (by simp[K6]) ?_ ?_ ?_
  ·rintro E r0 Gb pre x l' X ⟨fn,tmps,D,rfl⟩ hX rfl DG;obtain⟨rfl,hx,_⟩:=gp DG rfl;obtain⟨j,hj⟩:=ξ pre.length
   rw[hj] at hx⊢;obtain⟨g1,g2⟩:=jH (core:=core) (id:=id) (U:=S.U) (j:=j) Af;have hlj:j<(K6 S.U core id j).length:=by rw[Rb];omega
   have c0:=Sj (sp:=sp) hlj;rw[g1] at c0;have us:=wQ (sp:=sp) hlj;simp only[DY,Ae,Ag,Dw];refine Aj ?_;refine CP D1 ?_;refine Aj ?_;by_cases h:((j:Nat):Int)=core
   ·rw[Ad h] at g2;refine Aj ?_;refine Nk (Dy (b:=bv) (off:=j) (cs:=τ ((K6 S.U core id j).map CU++sp)) rfl rfl rfl (by rw[show(ι id)=CU id from rfl,us,<-g2];exact D1) (by rw[Bz,Ah,A5];omega)) rfl rfl ?_;rintro _ _ ⟨rfl,rfl⟩;refine Aj ?_;exact Cn [rB B b,Th.thC b7 t,BX b5 id,BX b4 core,Od bv (K6 S.U core id (j+1)) sp] AY (by simp[hj])
   rw[Ab h] at g2;refine Aj ?_;refine IP ?_;by_cases h2:S.U.getD j 0=id
   ·rw[Ad h2] at g2;refine BJ ?_;refine Aj ?_;refine Nk (Dy (b:=bv) (off:=j) (cs:=τ ((K6 S.U core id j).map CU++sp)) rfl rfl rfl (by rw[show(Value.int IntKind.i64 0)=CU 0 from rfl,us,<-g2];exact D1) (by rw[Bz,Ah,A5];omega)) rfl rfl ?_;rintro _ _ ⟨rfl,rfl⟩;refine Aj ?_;exact Cn [rB B b,Th.thC b7 t,BX b5 id,BX b4 core,Od bv (K6 S.U core id (j+1)) sp] AY (by simp[hj])
   ·rw[Ab h2] at g2;refine BJ ?_;refine Aj ?_;exact Cn [rB B b,Th.thC b7 t,BX b5 id,BX b4 core,Od bv (K6 S.U core id (j+1)) sp] (by rw[g2,show(K6 S.U core id j).set j (S.U.getD j 0)=K6 S.U core id j by rw[<-g1];exact ZZ hlj];exact AY) (by simp[hj])
  ·rintro D xs l' rfl rfl;rw[Fq];simp only[Ae,Ag];refine Aj ?_;exact AU [D] _ rfl .refl Ba φ ⟨rfl,[],rfl⟩
  ·rintro D c pre l' DG h;exact h.elim
instance{core id:Int}:EK prog F C b p 103 [pV b,ι core,ι id] k S k (iV (M4 S core id).1) (M4 S core id).2:=⟨λs G h=>Ada h core id⟩
end
theorem aG{A l:Ac}(hl: ∀c,c∈A->c∈l): ∀{f:Nat} {vs:Ap} {v:Value} [QF P f vs A v],QF P f vs l v:=by intro f vs v q;exact⟨λl2 h=>q.out l2 λc hc=>h c (hl c hc)⟩
abbrev Ep(S:KT)(x:Ch):CapT:=(getD' S.H.1 x).1
def Gf(S:KT)(id:Int):(Int×Int×Int)×Bool:=
 if Mw S id=false then((0,0,0),false)
 else if ¬(getD' S.H.1 (id,1)).2=0\/¬(Ep S (id,1)).kind=5 then((0,0,0),false)
 else if(As.ofP S.N (Ep S (id,1)).obj).2.2=false\/¬(Ar.getD' S.A (Ep S (id,1)).obj).1.kd=5 then((0,0,0),false)
 else(((Ep S (id,1)).obj,(As.ofP S.N (Ep S (id,1)).obj).1,(As.ofP S.N (Ep S (id,1)).obj).2.1),true)
section
theorem tZ(hK:IsK F C k S p s)(id:Int)(l:Ac)(hl: ∀c,c∈AA b p s S G->c∈l):Fn prog 110 [pV b,ι id] l λv l'=>v= .tuple #[iV (Gf S id).1.1,iV (Gf S id).1.2.1,iV (Gf S id).1.2.2,.bool (Gf S id).2]/\l'=l:=by
 have mr:CH b p∈l:=mR hl;have I: ∀{f:Nat} {vs:Ap} {v:Value} [QF prog f vs (AA b p s S G) v],QF prog f vs l v:=aG hl;unfold Gf Mw;refine AO func110 ntmps110 λE=>?_;refine Aj ?_;refine EO ?_;refine Aj ?_;refine EO ?_;refine AR λb8=>?_;cases hf:(Th.findH S.T id).isSome with
 |false=>rw[Ad rfl];refine Aj ?_;exact qr
 |true=>
 rw[Ab A0];refine Aj ?_;refine EO ?_;obtain⟨c,hc⟩:=ξ ((getD' S.H.1 (id,1)).1)
 obtain⟨e,he⟩:=ξ ((getD' S.H.1 (id,1)).2)
 rw[show Ep S (id,1)=c from hc,hc,he];refine AR λGW=>?_;by_cases h1:¬e=0\/¬c.kind=5
 ·rw[Ad h1];by_cases h2:e=0<;>by_cases h3:c.kind=5;all_goals first
   |(exfalso;omega)
   |(refine Aj ?_
     exact qr)
 rw[Ab h1];refine Aj ?_;refine IP ?_;iterate 6 refine qX ?_
 refine Wb ?_;obtain⟨o,ho⟩:=ξ (As.ofP S.N c.obj)
 rw[ho];refine BJ ?_;refine Aj ?_;refine CC (Cy [10,11] 0 13) ?_;refine CG ?_;refine Is e_alloc (by rintro _ _ ⟨_,_,_,rfl⟩ c hc;exact .tail _ hc) ?_;rintro _ _ ⟨YD,_,rfl,rfl⟩;obtain⟨q,hq⟩:=ξ ((Ar.getD' S.A c.obj).1)
 rw[hq];refine CG ?_;by_cases h1:o.2.2=false\/¬q.kd=5
 ·rw[Ad h1];cases h2:o.2.2<;>by_cases h3:q.kd=5;all_goals first
   |(exfalso;simp_all;done)
   |(refine Aj ?_
     exact qr)
 rw[Ab h1];have h2:o.2.2=true:=by simp at h1;exact h1.1
 have h3:q.kd=5:=by simp at h1;exact h1.2
 rw[h2];refine Aj ?_;exact qr
instance[h:IsK F C k S p s]{id:Int}:QF prog 110 [pV b,ι id] (AA b p s S G) (.tuple #[iV (Gf S id).1.1,iV (Gf S id).1.2.1,iV (Gf S id).1.2.2,.bool (Gf S id).2]):=⟨λl hl=>tZ h id l hl⟩
theorem IsK.curAt(h:IsK F C k S p s)(hv:p.v= .slice (some ⟨bv,0,none⟩) C cap): ∃sp,s.V=[Od bv S.U sp]/\C<=cap/\cap<=maxLen/\C+sp.length=cap:=by obtain⟨bv',cap',sp,e1,e2,z1,z2,z3⟩:=h.cur;rw[hv] at e1;injection e1 with e3 e4 e5;injection e3 with e3;injection e3 with e3;subst e3 e5;exact⟨sp,e2,z1,z2,z3⟩
theorem oQ{ops:Array Oper}{A6:List Oper}{fr:Fr}{l:Ac}{x y:Operand}{t:TypeId}{aft:Array Edge}{v:Int}{Γ:Ac->Ac}(hv:p.v= .slice (some ⟨bv,0,none⟩) C cap)(hj:j<C)(hk: ∀S1 s',S1={S with U:=S.U.set j v}->IsK F C k S1 p s'->CH b p∈AA b p s' S1 G->DC P ro N E ops Q A6 fr ds (Γ (AA b p s' S1 G)))[c:OC P t](hx:ev fr x=some (.pointer (some ⟨bv,j,none⟩)):=by rfl)(hy:ev fr y=some (ι v):=by rfl)(hF:Fr1 (AA b p s S G) l Γ:=by exact fL)(hK:IsK F C k S p s:=by infer_instance):DC P ro N E ops Q (⟨none,.store t x y,ty,pos,aft,none⟩::A6) fr ds l:=by
 obtain⟨sp,e2,z1,z2,z3⟩:=hK.curAt hv;have aS:=hK.ul;obtain⟨A,rfl,hA⟩:=hF.eq;have ED:IsK F C k {S with U:=S.U.set j v} p {s with V:=[Od bv (S.U.set j v) sp]}:=
  {hK with cu:=⟨by rw[A5,CE,aS];omega,.inr ⟨bv,cap,sp,hv,rfl,z1,z2,by rw[Ah,A5,CE,aS];omega⟩⟩,ul:=by rw[CE];exact aS}
 have lB:=hk _ _ rfl ED (mR λ_ h=>h);rw[hA] at lB;have R: ∀U',(A++AA b p {s with V:=[Od bv U' sp]} {S with U:=U'} G).Perm (Od bv U' sp::(A++(CH b p::As.asA p.n S.N::(s.M++(s.C++(s.A++(s.H++(s.T++(s.Q++(s.E++G)))))))))):=λU'=>by unfold AA;exact δ
 have R1:=R S.U;rw[<-e2] at R1;refine Bt (.of_perm R1) ?_;refine Nk (Dy (b:=bv) (off:=j) (cs:=τ (S.U.map CU++sp)) hx hy rfl (by rw[show(ι v)=CU v from rfl,wQ Af];exact .here) (by rw[Bz,Ah,A5];omega)) rfl rfl ?_;rintro _ _ ⟨rfl,rfl⟩;exact Bt (.of_perm (R _).symm) lB
def Rc(S:KT)(j:Nat):Int:=if Mw S (S.U.getD j 0)=false\/¬(DJ S (S.U.getD j 0)).st=1 then 0 else S.U.getD j 0
def FS(S:KT)(j:Nat):KT:=
 {S with U:=S.U.set j (Rc S j),K:=if Rc S j=0\/(Gf S (Rc S j)).2=false then(setC S.K j (-1) 0).2 else(setC S.K j (Ar.getD' S.A (Gf S (Rc S j)).1.1).1.fi (Gf S (Rc S j)).1.2.1).2}
def HW(S:KT):KT:=(List.range S.U.length).foldl FS S
end
section
theorem jI(S:KT)(n:Nat):(List.range (n+1)).foldl FS S=FS ((List.range n).foldl FS S) n:=by rw[Cx,El];rfl
theorem oR(hK:IsK F C k S p s):Fn prog 72 [pV b] (AA b p s S G) λv l'=>v= .tuple #[]/\ ∃s' L,IsK F C k (HW S) p s'/\Tail L G/\l'=AA b p s' (HW S) L:=by
 obtain⟨bv,cap,_,e1,_⟩:=hK.cur;have hC:=hK.c1;have aS:=hK.ul;refine AO func72 ntmps72 λE=>?_;refine AR λb1=>?_;refine AP (Az rfl rfl (Pz b _)) ?_;rintro _ _ ⟨B,rfl,rfl⟩;refine Aj ?_;refine US (F:=F) (C:=C) (b:=b) (p:=p) (G:=G) (α:=Nat) (ps:=[14,15]) (lb:=[pV B]) rfl (NM B b p bv C cap Af e1) (λ_=>rfl) rfl
  (λpre k' S' lo=>k'=k/\S'=(List.range pre.length).foldl FS S/\lo=[rB B b,rB b1 b])
  (λ_ _ _ _ _=>False)
  (λpre lo k S s L X h hK=>by obtain⟨_,_,rfl⟩:=h;exact⟨by simp,Ai _ (Aa _ (mR λ_ h=>h))⟩)
  (.refl:Keep _ ([rB B b,rB b1 b]++AA b p s S G)) ⟨rfl,rfl,rfl⟩ hK ?_ ?_ ?_
 ·rintro E r0 Gb pre x lo k' S' s' L T ⟨fn,tmps,D,rfl⟩ hT ⟨rfl,lz,rfl⟩ hK' DG mr;obtain⟨rfl,hx,_⟩:=gp DG rfl;obtain⟨j,hj⟩:=ξ pre.length
  rw[hj] at hx lz⊢;obtain⟨sp,e2,_⟩:=hK'.curAt e1;have Afh:=hK'.ul;have hs:=jI S j;rw[<-lz] at hs;have mv:Od bv S'.U sp∈AA b p s' S' (L++T):=mV (λ_ h=>h) _ (by rw[e2];simp);have c0:=Sj (U:=S'.U) (sp:=sp) (i:=j) Af;obtain⟨x,hxx⟩:=ξ (S'.U.getD j 0)
  rw[hxx] at c0;simp only[DY,Ae,Ag,Dw];refine Aj ?_;refine CP D1 ?_;refine Aj ?_;refine CC (Cy [11,12] 0 14) ?_;refine CG ?_;refine Is e_alloc (by rintro _ _ ⟨_,_,_,rfl⟩ c hc;exact .tail _ hc) ?_;rintro _ _ ⟨b4,_,rfl,rfl⟩;obtain⟨t,ht⟩:=ξ (DJ S' x)
  obtain⟨ok,Dh⟩:=ξ ((Th.findH S'.T x).isSome)
  rw[ht,Dh];refine CG ?_;have rQ:Rc S' j=if ok=false\/¬t.st=1 then 0 else x:=by unfold Rc Mw;rw[hxx,ht,Dh]
  obtain⟨y,hy⟩:=ξ (Rc S' j)
  rw[hy] at rQ;have RB:FS S' j={S' with U:=S'.U.set j y,K:=if y=0\/(Gf S' y).2=false then(setC S'.K j (-1) 0).2 else(setC S'.K j (Ar.getD' S'.A (Gf S' y).1.1).1.fi (Gf S' y).1.2.1).2}:=by unfold FS;rw[hy]
  have h4:(ok=true/\t.st=1)\/(ok=true/\¬t.st=1)\/(ok=false/\t.st=1)\/(ok=false/\¬t.st=1):=by cases ok<;>by_cases h2:t.st=1<;>simp[h2]
  rcases h4 with⟨rfl,h2⟩|⟨rfl,h2⟩|⟨rfl,h2⟩|⟨rfl,h2⟩
  case' inl=>
   rw[Ab (by simp[h2])] at rQ;obtain⟨S2,hS2⟩: ∃S2,S2=S':=⟨_,rfl⟩
   have Qy:S2={S' with U:=S'.U.set j y}:=by rw[hS2,rQ,<-hxx,ZZ Af]
   have Gd:=hK';have Ig:=mr;rw[<-hS2] at Gd Ig;refine Aj ?_;rw[<-hS2]
  case' inr.inl=>
   rw[Ad (by simp[h2])] at rQ;refine Aj ?_;refine oQ e1 hx ?_;intro S2 s2 Qy Gd Ig;rw[<-rQ] at Qy;refine Aj ?_
  case' inr.inr.inl=>
   rw[Ad (by simp)] at rQ;refine Aj ?_;refine oQ e1 hx ?_;intro S2 s2 Qy Gd Ig;rw[<-rQ] at Qy;refine Aj ?_
  case' inr.inr.inr=>
   rw[Ad (by simp)] at rQ;refine Aj ?_;refine oQ e1 hx ?_;intro S2 s2 Qy Gd Ig;rw[<-rQ] at Qy;refine Aj ?_
  all_goals
   obtain⟨Yk,vX,_⟩:=Gd.curAt e1;have c2:=Sj (U:=S2.U) (sp:=Yk) (i:=j) (by rw[Gd.ul];exact hx);have mv2:=mV (l:=AA b p _ S2 (L++T)) (λ_ h=>h) (Od bv S2.U Yk) (by rw[vX];simp);rw[show S2.U.getD j 0=y by rw[Qy];simp[List.getD,Afh,hx]] at c2;have DG:Gf S2 y=Gf S' y:=by rw[Qy];rfl
   have YB: ∀i,Ar.getD' S2.A i=Ar.getD' S'.A i:=λi=>by rw[Qy]
   have hKK:S2.K=S'.K:=by rw[Qy]
   refine IP ?_;iterate 4 refine qX ?_
   refine Wb ?_;rw[DG];obtain⟨q,hq⟩:=ξ (Gf S' y)
   rw[hq] at RB⊢;refine BJ ?_;by_cases h5:y=0\/q.2=false
   ·rw[Ad h5] at RB;cases h6:q.2<;>by_cases h7:y=0;all_goals first
     |(exfalso;revert h5;rw[h6];simp[h7];done)
     |(exfalso;omega)
     |(refine Aj ?_
       refine Gt ?_;intro S3 s3 L3 hS3 M8 Lo Qv;refine Aj ?_;refine jG [rB B b,rB b1 b] AY ⟨rfl,?_,rfl⟩;rw[Ah,hj,Bk,hs,RB,hS3,hKK,Qy])
   rw[Ab h5] at RB;obtain⟨h6,h7⟩:q.2=true/\¬y=0:=by simp at h5;exact⟨h5.2,h5.1⟩
   first
    |(exfalso;omega)
    |(rw[h6]
      refine Aj ?_;simp only[AN,AL,AX];refine EO ?_;rw[YB];obtain⟨o,ho⟩:=ξ ((Ar.getD' S'.A q.1.1).1)
      rw[ho] at RB⊢;refine AR λGW=>?_;refine CC (Cy [8] 0 9) ?_;refine CG ?_;refine Na ?_;intro S3 s3 L3 hS3 M8 Lo Qv;refine CG ?_;refine Aj ?_;refine jG [rB B b,rB b1 b] AY ⟨rfl,?_,rfl⟩;rw[Ah,hj,Bk,hs,RB,hS3,hKK,Qy])
 ·rintro D xs lo k' S' s' L rfl ⟨rfl,lz,rfl⟩ hK' hT mr;rw[Fq] at lz;have e:S'=HW S:=by rw[lz];unfold HW;rw[aS]
  subst e;simp only[Ae,Ag];refine Aj ?_;exact AU [D] _ rfl .refl Ba θ ⟨rfl,s',L,hK',hT,rfl⟩
 ·rintro D c pre lo k' S' s' L DG h;exact h.elim
end
def oS(S:KT)(k z f:Int):KT:=if k=1 then S else{S with W:=(tk S.W f (Ar.framesD k z)).2}
def kX(S:KT)(n id:Int):KT:=if 0<n then{S with H:=((Hv S.H.1 id n).2,S.H.2)} else S
def jJ(S:KT)(k id:Int):KT:=if k=9 then{S with T:=(Th.addD S.T id).2} else if k=8 then{S with E:=(En.addD S.E id).2} else S
def Ks(S:KT)(k z f:Int):(Int×Int)×KT:=
 if(Ar.addD S.A k z f).1.2=0 then(((Ar.addD S.A k z f).1.1,0),jJ (kX (oS {S with A:=(Ar.addD S.A k z f).2} k z f) (Ar.slotsD k z) (Ar.addD S.A k z f).1.1) k (Ar.addD S.A k z f).1.1)
 else((0,(Ar.addD S.A k z f).1.2),{S with A:=(Ar.addD S.A k z f).2})
section
theorem Adb(hl:S.T.length+1+k<=900):EK prog F C b p 140 [pV p.t,ι id] k S k (iV (Th.addD S.T id).1) {S with T:=(Th.addD S.T id).2}:=⟨λs G h=>lfT h (by unfold Th.addD;(repeat' split);all_goals(try rw[n7]);all_goals(try simp only);all_goals omega) (λu hu=>y0 h.tw hu) Af λG=>Th.add_any p.t S.T s.T h.th id G⟩
theorem zj(hK:IsK F C (n+1) S p s)(k z f:Int):Fn prog 91 [pV b,ι k,ι z,ι f] (AA b p s S G) (KK F C b p n (.tuple #[iV (Ks S k z f).1.1,iV (Ks S k z f).1.2]) (Ks S k z f).2 G):=by
 have mr:CH b p∈AA b p s S G:=mR λ_ h=>h;have hTl:=hK.tl;obtain⟨R,hR⟩:=ξ (Ks S k z f)
 rw[hR];unfold Ks at hR;refine AO func91 ntmps91 λE=>?_;refine Aj ?_;refine EO ?_;refine Aj ?_;refine Gt ?_;intro S1 s1 L1 Er ED DO G6;rw[<-Er] at hR;obtain⟨id,Vp⟩: ∃x,(Ar.addD S.A k z f).1.1=x:=⟨_,rfl⟩
 obtain⟨er,her⟩: ∃x,(Ar.addD S.A k z f).1.2=x:=⟨_,rfl⟩
 rw[Vp,her] at hR;rw[Vp,her];by_cases he:er=0
 ·rw[Ad he] at hR;obtain⟨sl,hsl⟩: ∃x,Ar.slotsD k z=x:=⟨_,rfl⟩
  rw[hsl] at hR;refine Aj ?_;simp only[AN,AL,AX];by_cases h1:k=1
  case' pos=>
   rw[show oS S1 k z f=S1 from Ad h1] at hR;have h8:¬k=8:=by omega
   have h9:¬k=9:=by omega
   obtain⟨S2,hS2⟩:=ξ S1
   obtain⟨s2,Ol⟩:=ξ s1
   obtain⟨L2,Qr⟩:=ξ L1
   have Gd:=ED;have F4:=DO;have Ig:=G6;rw[hS2,Ol] at Gd;rw[hS2,Ol,Qr] at Ig;rw[Qr] at F4;rw[hS2] at hR;have JP:S2.T.length+1+n<=900:=by rw[<-hS2,Er];show S.T.length+1+n<=900;omega
   refine Aj ?_;rw[hS2,Ol,Qr]
  case' neg=>
   refine Aj ?_;refine CC (Cy [8] 0 9) ?_;refine CG ?_;refine Na ?_;intro S2 s2 L2 hS2 Gd hT2' Ig;have F4:=hT2'.trans DO;rw[show oS S1 k z f=S2 from(Ab h1).trans hS2.symm] at hR;have JP:S2.T.length+1+n<=900:=by rw[hS2,Er];show S.T.length+1+n<=900;omega
   refine CG ?_;refine Aj ?_
  all_goals
   refine EO ?_;rw[hsl];refine Aj ?_;by_cases hs:0<sl
   case' pos=>
    refine Aj ?_;refine Gt ?_;intro S3 s3 L3 hS3 M8 hT3' Qv;have Lo:=hT3'.trans F4;rw[show kX S2 sl id=S3 from(Ad hs).trans hS3.symm] at hR;have hl3:S3.T.length+1+n<=900:=by rw[hS3];exact JP
    refine Aj ?_
   case' neg=>
    rw[show kX S2 sl id=S2 from Ab hs] at hR;obtain⟨S3,hS3⟩:=ξ S2
    obtain⟨s3,R6⟩:=ξ s2
    obtain⟨L3,hL3⟩:=ξ L2
    have M8:=Gd.mono (Nat.le_succ _);have Lo:=F4;have Qv:=Ig;rw[hS3,R6] at M8;rw[hS3,R6,hL3] at Qv;rw[hL3] at Lo;rw[hS3] at hR;have hl3:S3.T.length+1+n<=900:=by rw[<-hS3];exact JP
    refine Aj ?_;rw[hS3,R6,hL3]
   all_goals
    by_cases h9:k=9
    ·first
      |(exfalso;omega)
      |(refine Aj ?_
        refine Gt (q:=Adb hl3) ?_;intro S4 s4 L4 hS4 hK4 hT4' mr4;have kQ:=hT4'.trans Lo;rw[show jJ S3 k id=S4 from(Ad h9).trans hS4.symm] at hR;rw[<-hR];refine Aj ?_;exact Bd)
    by_cases h8:k=8
    ·first
      |(exfalso;omega)
      |(refine Aj ?_
        refine Gt ?_;intro S4 s4 L4 hS4 hK4 hT4' mr4;have kQ:=hT4'.trans Lo;rw[show jJ S3 k id=S4 from(Ab h9).trans ((Ad h8).trans hS4.symm)] at hR;rw[<-hR];refine Aj ?_;exact Bd)
    rw[show jJ S3 k id=S3 from(Ab h9).trans (Ab h8)] at hR;rw[<-hR];refine Aj ?_;exact Bd
 ·rw[Ab he] at hR;rw[<-hR];refine Aj ?_;exact Bd
instance{k z f:Int}:EK prog F C b p 91 [pV b,ι k,ι z,ι f] (n+1) S n (.tuple #[iV (Ks S k z f).1.1,iV (Ks S k z f).1.2]) (Ks S k z f).2:=⟨λs G h=>zj h k z f⟩
end
class U6(a:Int):Prop where
 out:Jj a
section
theorem IsK.wl(h:IsK F C k S p s):S.W.length<=512:=by obtain⟨gb,f1,f2,hW,hu,hM⟩:=h.mem;omega
theorem IsK.wu(h:IsK F C k S p s): ∀w,w∈S.W->Jj w:=by obtain⟨gb,f1,f2,hW,hu,hM⟩:=h.mem;exact hu
theorem IsK.ldU(h:IsK F C k S p s)(a:Int):U6 (Pu S.W a).1:=⟨y5 h.wu a⟩
theorem IsK.atU(h:IsK F C k S p s)(r pg lv:Int):U6 (Rr S.W r pg lv).1:=⟨om h.wl⟩
instance[h:IsK F C k S p s]{a:Int}[hu:U6 a]:QF prog 202 [pV p.m,Bb a] (AA b p s S G) (.tuple #[Bb (Pu S.W a).1,iV (Pu S.W a).2]):=⟨λl hl=>js h a hu.out.1 hu.out.2 l hl⟩
instance[h:IsK F C k S p s]{r pg lv:Int}:QF prog 298 [pV p.m,ι r,ι pg,ι lv] (AA b p s S G) (.tuple #[Bb (Rr S.W r pg lv).1,iV (Rr S.W r pg lv).2]):=⟨λl hl=>by obtain⟨gb,f1,f2,hW,hu,hM⟩:=h.mem;exact XQ p.m gb F S.W f2 hW hu r pg lv l (mM hl _ (by rw[hM];simp)) (mM hl _ (by rw[hM];simp))⟩
instance{w:Int}[hu:U6 w]{l:Ac}:QF prog 343 [Bb w] l (.tuple #[ZL (Lz w).1,iV (Lz w).2]):=⟨λl _=>by
 obtain⟨n,rfl⟩: ∃n:Nat,w=n:=⟨w.toNat,by have:=hu.out.1;omega⟩
 exact ZQ n (by have:=hu.out.2;omega) l⟩
instance{w:Int}[hu:U6 w]{l:Ac}:QF prog 257 [Bb w] l (.tuple #[iV (Hl w).1,iV (Hl w).2]):=⟨λl _=>ju w hu.out.1 hu.out.2 l⟩
def NN(S:KT)(id:Int):Int:=if(Ar.getD' S.A id).2=false then-1 else(Ar.getD' S.A id).1.fi
def Ho(S:KT)(se pg lv:Int):(Int×Int)×Bool:=
 if(As.rootP S.N se).2.2=false then((0,0),false)
 else(((Rr S.W (NN S (As.rootP S.N se).1) pg lv).1,(As.rootP S.N se).2.1),decide ((Rr S.W (NN S (As.rootP S.N se).1) pg lv).2=0))
def UT(S:KT)(a:Int)(N8:Bool)(f:Int):Bool:=decide ((Lz (Pu S.W a).1).2=0)&&(Lz (Pu S.W a).1).1.vd&&((Lz (Pu S.W a).1).1.lf==N8)&&decide ((Lz (Pu S.W a).1).1.fr=f)
def Gg(S:KT)(id:Int):(Int×Int)×Bool:=
 if(Ar.getD' S.A id).2=false\/¬(Ar.getD' S.A id).1.kd=4\/(Ar.getD' S.A id).1.lv=0 then((0,0),false)
 else((Ho S (Ar.getD' S.A id).1.se (Ar.getD' S.A id).1.pg (Ar.getD' S.A id).1.lv).1,(Ho S (Ar.getD' S.A id).1.se (Ar.getD' S.A id).1.pg (Ar.getD' S.A id).1.lv).2&&UT S (Ho S (Ar.getD' S.A id).1.se (Ar.getD' S.A id).1.pg (Ar.getD' S.A id).1.lv).1.1 false (Ar.getD' S.A id).1.fi)
def Ft(S:KT)(c:CapT):(Int×Int)×Bool:=
 if(Ar.getD' S.A c.obj).2=false\/¬c.kind=3\/E5 c=false then((0,0),false)
 else((Ho S c.serial c.page 3).1,(Ho S c.serial c.page 3).2&&UT S (Ho S c.serial c.page 3).1.1 true (Ar.getD' S.A c.obj).1.fi)
theorem t6(hK:IsK F C k S p s)(id:Int)(l:Ac)(hl: ∀c,c∈AA b p s S G->c∈l):Fn prog 292 [pV b,ι id] l λv l'=>v=iV (NN S id)/\l'=l:=by
 have mr:CH b p∈l:=mR hl;have I: ∀{f:Nat} {vs:Ap} {v:Value} [QF prog f vs (AA b p s S G) v],QF prog f vs l v:=aG hl;unfold NN;refine AO func292 ntmps292 λE=>?_;refine Aj ?_;refine EO ?_;refine Aj ?_;refine EO ?_;obtain⟨o,ho⟩:=ξ ((Ar.getD' S.A id).1)
 obtain⟨ok,Dh⟩:=ξ ((Ar.getD' S.A id).2)
 rw[ho,Dh];refine AR λb5=>?_;cases ok with
 |false=>rw[Ad rfl];refine Aj ?_;exact qr
 |true=>
 rw[Ab A0];refine Aj ?_;exact qr
instance[h:IsK F C k S p s]{id:Int}:QF prog 292 [pV b,ι id] (AA b p s S G) (iV (NN S id)):=⟨λl hl=>t6 h id l hl⟩
theorem t7(hK:IsK F C k S p s)(se pg lv:Int)(l:Ac)(hl: ∀c,c∈AA b p s S G->c∈l):Fn prog 369 [pV b,ι se,ι pg,ι lv] l λv l'=>v= .tuple #[Bb (Ho S se pg lv).1.1,iV (Ho S se pg lv).1.2,.bool (Ho S se pg lv).2]/\l'=l:=by
 have mr:CH b p∈l:=mR hl;have I: ∀{f:Nat} {vs:Ap} {v:Value} [QF prog f vs (AA b p s S G) v],QF prog f vs l v:=aG hl;unfold Ho;refine AO func369 ntmps369 λE=>?_;refine Aj ?_;refine EO ?_;refine Aj ?_;refine EO ?_;obtain⟨q,hq⟩:=ξ (As.rootP S.N se)
 rw[hq];refine Aj ?_;cases hf:q.2.2 with
 |false=>rw[Ad rfl];refine Aj ?_;exact qr
 |true=>
 rw[Ab A0];refine Aj ?_;simp only[AN,AL,AX];refine EO ?_;refine Aj ?_;refine EO ?_;refine Aj ?_;refine EO ?_;obtain⟨u,hu⟩:=ξ (Rr S.W (NN S q.1) pg lv)
 rw[hu];by_cases h1:u.2=0
 ·rw[h1];refine Aj ?_;exact qr
 ·rw[show decide (u.2=0)=false by simp[h1]];refine Aj ?_;exact qr
instance[h:IsK F C k S p s]{se pg lv:Int}:QF prog 369 [pV b,ι se,ι pg,ι lv] (AA b p s S G) (.tuple #[Bb (Ho S se pg lv).1.1,iV (Ho S se pg lv).1.2,.bool (Ho S se pg lv).2]):=⟨λl hl=>t7 h se pg lv l hl⟩
theorem IsK.plU(h:IsK F C k S p s)(se pg lv:Int):U6 (Ho S se pg lv).1.1:=by
 unfold Ho
 split
 ·exact⟨by decide,by decide⟩
 ·exact h.atU _ _ _
theorem t8(hK:IsK F C k S p s)(a:Int)[ha:U6 a](N8:Bool)(f:Int)(l:Ac)(hl: ∀c,c∈AA b p s S G->c∈l):Fn prog 370 [pV b,Bb a,.bool N8,ι f] l λv l'=>v= .bool (UT S a N8 f)/\l'=l:=by
 have mr:CH b p∈l:=mR hl;have I: ∀{f:Nat} {vs:Ap} {v:Value} [QF prog f vs (AA b p s S G) v],QF prog f vs l v:=aG hl;have hu:=hK.ldU a;unfold UT;refine AO func370 ntmps370 λE=>?_;refine Aj ?_;refine EO ?_;refine Aj ?_;refine EO ?_;obtain⟨w,hw⟩:=ξ ((Pu S.W a).1)
 rw[hw] at hu⊢;refine Aj ?_;simp only[AN,AL,AX];refine EO ?_;obtain⟨e,he⟩:=ξ ((Lz w).1)
 obtain⟨er,her⟩:=ξ ((Lz w).2)
 rw[he,her];refine AR λMs=>?_;obtain⟨vd,lf,rd,wr,fr⟩:=e;by_cases h1:er=0<;>cases vd<;>cases lf<;>cases N8<;>by_cases h2:fr=f;all_goals
  refine Aj ?_;simp only[h1,h2,GV,If,Bool.and_true,BA,Jq,Bl];exact qr
end
section
instance[h:IsK F C k S p s]{a f:Int}{N8:Bool}[ha:U6 a]:QF prog 370 [pV b,Bb a,.bool N8,ι f] (AA b p s S G) (.bool (UT S a N8 f)):=⟨λl hl=>t8 h a N8 f l hl⟩
theorem ua(hK:IsK F C k S p s)(id:Int)(l:Ac)(hl: ∀c,c∈AA b p s S G->c∈l):Fn prog 330 [pV b,ι id] l λv l'=>v= .tuple #[Bb (Gg S id).1.1,iV (Gg S id).1.2,.bool (Gg S id).2]/\l'=l:=by
 have mr:CH b p∈l:=mR hl;have I: ∀{f:Nat} {vs:Ap} {v:Value} [QF prog f vs (AA b p s S G) v],QF prog f vs l v:=aG hl;unfold Gg;refine AO func330 ntmps330 λE=>?_;refine Aj ?_;refine EO ?_;refine Aj ?_;refine EO ?_;obtain⟨o,ho⟩:=ξ ((Ar.getD' S.A id).1)
 obtain⟨ok,Dh⟩:=ξ ((Ar.getD' S.A id).2)
 rw[ho,Dh];refine AR λb7=>?_;by_cases h0:ok=false\/¬o.kd=4\/o.lv=0
 ·rw[Ad h0];cases ok<;>by_cases h1:o.kd=4<;>by_cases h2:o.lv=0;all_goals first
   |(exfalso;simp[h1,h2] at h0;done)
   |(refine Aj ?_
     exact qr)
 rw[Ab h0];obtain⟨h1,h2,h3⟩:ok=true/\o.kd=4/\¬o.lv=0:=by simp at h0;exact h0
 subst h1;refine Aj ?_;refine EO ?_;have hu:=hK.plU o.se o.pg o.lv;obtain⟨q,hq⟩:=ξ (Ho S o.se o.pg o.lv)
 rw[hq] at hu⊢;refine Aj ?_;try simp only[AN,AL,AX]
 cases hf:q.2 with
 |false=>refine Aj ?_;rw[Bl];exact qr
 |true=>
 refine Aj ?_;try simp only[AN,AL,AX]
 refine EO ?_;refine Aj ?_;rw[BA];exact qr
instance[h:IsK F C k S p s]{id:Int}:QF prog 330 [pV b,ι id] (AA b p s S G) (.tuple #[Bb (Gg S id).1.1,iV (Gg S id).1.2,.bool (Gg S id).2]):=⟨λl hl=>ua h id l hl⟩
theorem ub(hK:IsK F C k S p s)(c:CapT)(l:Ac)(hl: ∀c,c∈AA b p s S G->c∈l):Fn prog 336 [pV b,Vs c] l λv l'=>v= .tuple #[Bb (Ft S c).1.1,iV (Ft S c).1.2,.bool (Ft S c).2]/\l'=l:=by
 have mr:CH b p∈l:=mR hl;have I: ∀{f:Nat} {vs:Ap} {v:Value} [QF prog f vs (AA b p s S G) v],QF prog f vs l v:=aG hl;unfold Ft;refine AO func336 ntmps336 λE=>?_;refine AR λb3=>?_;refine CC (Cy [8,9] 0 11) ?_;refine CG ?_;refine Is e_alloc (by rintro _ _ ⟨_,_,_,rfl⟩ c hc;exact .tail _ hc) ?_;rintro _ _ ⟨b7,_,rfl,rfl⟩;obtain⟨o,ho⟩:=ξ ((Ar.getD' S.A c.obj).1)
 obtain⟨ok,Dh⟩:=ξ ((Ar.getD' S.A c.obj).2)
 rw[ho,Dh];refine CG ?_;by_cases h0:ok=false\/¬c.kind=3\/E5 c=false
 ·rw[Ad h0];by_cases h9:ok=true/\c.kind=3
  ·obtain⟨rfl,h1⟩:=h9;have h2:E5 c=false:=by simp[h1] at h0;exact h0
   refine Aj ?_;refine EO ?_;rw[h2];refine Aj ?_;exact qr
  cases ok<;>by_cases h1:c.kind=3;all_goals first
   |(exfalso;simp[h1] at h9;done)
   |(refine Aj ?_
     exact qr)
 rw[Ab h0];obtain⟨h1,h2,h3⟩:ok=true/\c.kind=3/\E5 c=true:=by simp at h0;exact h0
 subst h1;refine Aj ?_;refine EO ?_;rw[h3];refine Aj ?_;refine EO ?_;have hu:=hK.plU c.serial c.page 3;obtain⟨q,hq⟩:=ξ (Ho S c.serial c.page 3)
 rw[hq] at hu⊢;refine Aj ?_;try simp only[AN,AL,AX]
 cases hf:q.2 with
 |false=>refine Aj ?_;rw[Bl];exact qr
 |true=>
 refine Aj ?_;try simp only[AN,AL,AX]
 refine EO ?_;refine Aj ?_;rw[BA];exact qr
instance[h:IsK F C k S p s]{c:CapT}:QF prog 336 [pV b,Vs c] (AA b p s S G) (.tuple #[Bb (Ft S c).1.1,iV (Ft S c).1.2,.bool (Ft S c).2]):=⟨λl hl=>ub h c l hl⟩
theorem uc(hK:IsK F C k S p s)(id:Int)(l:Ac)(hl: ∀c,c∈AA b p s S G->c∈l):Fn prog 291 [pV b,ι id] l λv l'=>v= .bool (Gg S id).2/\l'=l:=by have mr:CH b p∈l:=mR hl;have I: ∀{f:Nat} {vs:Ap} {v:Value} [QF prog f vs (AA b p s S G) v],QF prog f vs l v:=aG hl;refine AO func291 ntmps291 λE=>?_;refine Aj ?_;refine EO ?_;refine Aj ?_;exact qr
instance[h:IsK F C k S p s]{id:Int}:QF prog 291 [pV b,ι id] (AA b p s S G) (.bool (Gg S id).2):=⟨λl hl=>uc h id l hl⟩
theorem ue(hK:IsK F C k S p s)(c:CapT)(l:Ac)(hl: ∀c,c∈AA b p s S G->c∈l):Fn prog 297 [pV b,Vs c] l λv l'=>v= .bool (Ft S c).2/\l'=l:=by have mr:CH b p∈l:=mR hl;have I: ∀{f:Nat} {vs:Ap} {v:Value} [QF prog f vs (AA b p s S G) v],QF prog f vs l v:=aG hl;refine AO func297 ntmps297 λE=>?_;refine AR λb3=>?_;refine EO ?_;refine Aj ?_;exact qr
instance[h:IsK F C k S p s]{c:CapT}:QF prog 297 [pV b,Vs c] (AA b p s S G) (.bool (Ft S c).2):=⟨λl hl=>ue h c l hl⟩
end
section
instance:U6 0:=⟨by decide,by decide⟩
instance{a v:Int}[ha:U6 a][hv:U6 v]:EK prog F C b p 201 [pV p.m,Bb a,Bb v] k S k (iV (jp S.W a v).1) {S with W:=(jp S.W a v).2}:=⟨λs G h=>cT h a v ha.out.1 ha.out.2 hv.out⟩
def Z0(S:KT)(id:Int):KT:={S with W:=(jp S.W (Gg S id).1.1 0).2,K:=IZ S.K (Rs (Gg S id).1.2),A:=(Ar.placeD S.A id 0 0 0).2}
theorem IsK.tbU(h:IsK F C k S p s)(id:Int):U6 (Gg S id).1.1:=by
 unfold Gg
 split
 ·exact⟨by decide,by decide⟩
 ·exact h.plU _ _ _
theorem IsK.frU(h:IsK F C k S p s)(c:CapT):U6 (Ft S c).1.1:=by
 unfold Ft
 split
 ·exact⟨by decide,by decide⟩
 ·exact h.plU _ _ _
theorem zk(hK:IsK F C k S p s)(id:Int):Fn prog 296 [pV b,ι id] (AA b p s S G) (KK F C b p k (.bool (Gg S id).2) (if(Gg S id).2=true then Z0 S id else S) G):=by
 have mr:CH b p∈AA b p s S G:=mR λ_ h=>h;have hu:=hK.tbU id;unfold Z0;refine AO func296 ntmps296 λE=>?_;refine Aj ?_;refine EO ?_;obtain⟨q,hq⟩:=ξ (Gg S id)
 rw[hq] at hu⊢;cases hf:q.2 with
 |false=>rw[Ab A0];refine Aj ?_;exact Bd
 |true=>
 rw[Ad rfl];refine Aj ?_;refine EO ?_;refine Aj ?_;try simp only[AN,AL,AX]
 refine Gt ?_;intro S1 s1 L1 Er ED DO G6;refine Aj ?_;refine EO ?_;refine Aj ?_;try simp only[AN,AL,AX]
 refine Gt ?_;intro S2 s2 L2 hS2 Gd F4 Ig;refine Aj ?_;refine EO ?_;refine Aj ?_;refine Gt ?_;intro S3 s3 L3 hS3 M8 Lo Qv;refine Aj ?_;exact Bd
instance{id:Int}:EK prog F C b p 296 [pV b,ι id] k S k (.bool (Gg S id).2) (if(Gg S id).2=true then Z0 S id else S):=⟨λs G h=>zk h id⟩
def oT(S:KT)(c:CapT):KT:={S with W:=(jp S.W (Ft S c).1.1 0).2,K:=IZ S.K (KJ (Ft S c).1.2 c.page)}
theorem oU(hK:IsK F C k S p s)(c:CapT):Fn prog 301 [pV b,Vs c] (AA b p s S G) (KK F C b p k (.bool (Ft S c).2) (if(Ft S c).2=true then oT S c else S) G):=by
 have mr:CH b p∈AA b p s S G:=mR λ_ h=>h;have hu:=hK.frU c;unfold oT;refine AO func301 ntmps301 λE=>?_;refine AR λb3=>?_;refine EO ?_;obtain⟨q,hq⟩:=ξ (Ft S c)
 rw[hq] at hu⊢;cases hf:q.2 with
 |false=>rw[Ab A0];refine Aj ?_;exact Bd
 |true=>
 rw[Ad rfl];refine Aj ?_;refine EO ?_;refine Aj ?_;try simp only[AN,AL,AX]
 refine Gt ?_;intro S1 s1 L1 Er ED DO G6;refine Aj ?_;refine CC (Cy [5] 0 6) ?_;refine CG ?_;refine Na ?_;intro S2 s2 L2 hS2 Gd F4 Ig;refine CG ?_;refine Aj ?_;exact Bd
instance{c:CapT}:EK prog F C b p 301 [pV b,Vs c] k S k (.bool (Ft S c).2) (if(Ft S c).2=true then oT S c else S):=⟨λs G h=>oU h c⟩
end
abbrev Oi(x:Ch)(k:Int):Ap:=[iV x.1,iV x.2,iV k]
def FT(S:KT)(x:Ch)(k:Int):Prop:=(getD' S.H.1 x).2=0/\(Ep S x).kind=k
instance(S:KT)(x:Ch)(k:Int):Decidable (FT S x k):=by unfold FT;exact inferInstance
section
theorem gr(hK:IsK F C k S p s)(bw:Nat)(x:Ch)(kd:Int)(l:Ac)(hl: ∀c,c∈AA b p s S G->c∈l)(mw:(bw,Obj.cells (τ (Oi x kd)) 457 (0,0))∈l):Fn prog 290 [pV b,.slice (some ⟨bw,0,none⟩) 1 1] l λv l'=>
 (FT S x kd/\ ∃u cs,OwnSl 74 8 u 1 (Cb (Ep S x)) cs/\v= .tuple #[u,iV 0]/\l'=cs++l)\/(¬FT S x kd/\v= .tuple #[.slice none 0 0,iV 8]/\l'=l):=by
 have mr:CH b p∈l:=mR hl;have I: ∀{f:Nat} {vs:Ap} {v:Value} [QF prog f vs (AA b p s S G) v],QF prog f vs l v:=aG hl;have w1:(τ (Oi x kd)).extract (0+(0:Int).toNat*3) (0+(0:Int).toNat*3+3)=τ (Oi x kd):=rfl;refine AO func290 ntmps290 λE=>?_;refine Aj ?_;refine Io 1 ?_;refine Aj ?_;refine Be (Dp rfl mw (by show 0+(0:Int).toNat*3+3<=3;decide) w1) ?_;refine AR λb8=>?_;refine CC (Cy [8,9] 0 11) ?_;refine CG ?_;refine Is e_alloc (by rintro _ _ ⟨_,_,_,rfl⟩ c hc;exact .tail _ hc) ?_;rintro _ _ ⟨b9,_,rfl,rfl⟩;unfold FT;obtain⟨c,hc⟩:=ξ ((getD' S.H.1 x).1)
 obtain⟨e,he⟩:=ξ ((getD' S.H.1 x).2)
 rw[show Ep S x=c from hc,hc,he];refine CG ?_;by_cases h0:e=0/\c.kind=kd
 case neg=>
  by_cases h1:e=0<;>by_cases h2:c.kind=kd
  ·exact absurd ⟨h1,h2⟩ h0
  all_goals
   refine Aj ?_;exact CY _ .refl θ (.inr ⟨h0,rfl,rfl⟩)
 obtain⟨h1,h2⟩:=h0;refine Aj ?_;refine AP (FB (ws:=Cb c) (k:=8) rfl rfl rfl A0 A0) ?_;rintro _ _ ⟨bl,_,rfl,rfl⟩;refine Aj ?_;refine AP (HM (k:=8) (X:=[(b9,Obj.cells (τ (Cb c)) 74 (0,0)),(b8,Obj.cells (τ (Oi x kd)) 457 (0,0))]) (cs:=[]) (xs:=[]) (n:=0) (zs:=Cb ⟨0,0,0,0,0,0,0,0⟩) (ws:=Cb c) rfl rfl rfl (OwnSl.nil _ _) rfl (by simp[Value.oneCell']) Af A0) ?_;rintro v' _ ⟨c2,F0,rfl⟩;simp only[Ae,Ag] at F0⊢;refine Aj ?_;refine Fk ?_;refine Aj ?_;exact CY _ .refl θ (.inl ⟨⟨h1,h2⟩,v',c2,F0,rfl,rfl⟩)
theorem Tm(hK:IsK F C k S p s)(bw:Nat)(x y:Ch)(kd kd2:Int)(l:Ac)(hl: ∀c,c∈AA b p s S G->c∈l)(mw:(bw,Obj.cells (τ (Oi x kd++Oi y kd2)) 457 (0,0))∈l):Fn prog 290 [pV b,.slice (some ⟨bw,0,none⟩) 2 2] l λv l'=>
 ((FT S x kd/\FT S y kd2)/\ ∃u cs,OwnSl 74 8 u 2 (Cb (Ep S x)++Cb (Ep S y)) cs/\v= .tuple #[u,iV 0]/\l'=cs++l)\/(¬(FT S x kd/\FT S y kd2)/\v= .tuple #[.slice none 0 0,iV 8]/\l'=l):=by
 have mr:CH b p∈l:=mR hl;have I: ∀{f:Nat} {vs:Ap} {v:Value} [QF prog f vs (AA b p s S G) v],QF prog f vs l v:=aG hl;have w1:(τ (Oi x kd++Oi y kd2)).extract (0+(0:Int).toNat*3) (0+(0:Int).toNat*3+3)=τ (Oi x kd):=rfl;have w2:(τ (Oi x kd++Oi y kd2)).extract (0+(1:Int).toNat*3) (0+(1:Int).toNat*3+3)=τ (Oi y kd2):=rfl;refine AO func290 ntmps290 λE=>?_;refine Aj ?_;refine Io 2 ?_;refine Aj ?_;refine Be (Dp rfl mw (by show 0+(0:Int).toNat*3+3<=6;decide) w1) ?_;refine AR λb8=>?_;refine CC (Cy [8,9] 0 11) ?_;refine CG ?_;refine Is e_alloc (by rintro _ _ ⟨_,_,_,rfl⟩ c hc;exact .tail _ hc) ?_;rintro _ _ ⟨b9,_,rfl,rfl⟩;unfold FT;obtain⟨c,hc⟩:=ξ ((getD' S.H.1 x).1)
 obtain⟨e,he⟩:=ξ ((getD' S.H.1 x).2)
 obtain⟨c',hc'⟩: ∃c,(getD' S.H.1 y).1=c:=⟨_,rfl⟩
 obtain⟨e',xX⟩: ∃e,(getD' S.H.1 y).2=e:=⟨_,rfl⟩
 rw[show Ep S x=c from hc,show Ep S y=c' from hc',hc,he,xX];refine CG ?_;by_cases h0:e=0/\c.kind=kd
 case neg=>
  by_cases h1:e=0<;>by_cases h2:c.kind=kd
  ·exact absurd ⟨h1,h2⟩ h0
  all_goals
   refine Aj ?_;exact CY _ .refl θ (.inr ⟨λh=>h0 h.1,rfl,rfl⟩)
 obtain⟨h1,h2⟩:=h0;refine Aj ?_;refine AP (FB (ws:=Cb c) (k:=8) rfl rfl rfl A0 A0) ?_;rintro _ _ ⟨bl,_,rfl,rfl⟩;refine Aj ?_;refine AP (HM (k:=8) (X:=[(b9,Obj.cells (τ (Cb c)) 74 (0,0)),(b8,Obj.cells (τ (Oi x kd)) 457 (0,0))]) (cs:=[]) (xs:=[]) (n:=0) (zs:=Cb ⟨0,0,0,0,0,0,0,0⟩) (ws:=Cb c) rfl rfl rfl (OwnSl.nil _ _) rfl (by simp[Value.oneCell']) Af A0) ?_;rintro v' _ ⟨c2,F0,rfl⟩;simp only[Ae,Ag] at F0⊢;refine Aj ?_;refine Fk ?_;refine Aj ?_;rw[show(0:Int)+1=1 from rfl];refine Be (Dp rfl (.tail _ (.tail _ (Aa _ mw))) (by show 0+(1:Int).toNat*3+3<=6;decide) w2) ?_;refine AR λd8=>?_;refine CC (Cy [8,9] 0 11) ?_;have I2: ∀{f:Nat} {vs:Ap} {v:Value} [QF prog f vs (AA b p s S G) v],QF prog f vs (c2++l) v:=aG λc hc=>Aa _ (hl c hc);refine CG ?_;rw[hc',xX];refine Is e_alloc (by rintro _ _ ⟨_,_,_,rfl⟩ c hc;exact .tail _ hc) ?_;rintro _ _ ⟨d9,_,rfl,rfl⟩;refine CG ?_;by_cases h0:e'=0/\c'.kind=kd2
 case neg=>
  by_cases h3:e'=0<;>by_cases h4:c'.kind=kd2
  ·exact absurd ⟨h3,h4⟩ h0
  all_goals
   refine Aj ?_;exact CY _ .refl (.drop (.drop (.drop (.drop (Keep.dropL' c2 .refl))))) (.inr ⟨λh=>h0 h.2,rfl,rfl⟩)
 obtain⟨h3,h4⟩:=h0;refine Aj ?_;refine AP (FB (ws:=Cb c') (k:=8) rfl rfl rfl A0 A0) ?_;rintro _ _ ⟨bl2,_,rfl,rfl⟩;refine Aj ?_;refine AP (HM (k:=8) (X:=[(d9,Obj.cells (τ (Cb c')) 74 (0,0)),(d8,Obj.cells (τ (Oi y kd2)) 457 (0,0)),(b9,Obj.cells (τ (Cb c)) 74 (0,0)),(b8,Obj.cells (τ (Oi x kd)) 457 (0,0))]) (cs:=c2) (xs:=Cb c) (n:=1) (zs:=Cb ⟨0,0,0,0,0,0,0,0⟩) (ws:=Cb c') rfl rfl rfl F0 rfl (by simp[Value.oneCell']) Af A0) ?_;rintro v2 _ ⟨c3,ho3,rfl⟩;simp only[Ae,Ag];refine Aj ?_;refine Fk ?_;refine Aj ?_;exact CY _ .refl φ (.inl ⟨⟨⟨h1,h2⟩,h3,h4⟩,v2,c3,ho3,rfl,rfl⟩)
end
section
def Sk(S:KT)(id:Int):KT:=if(Gg S id).2=true then Z0 S id else S
def Sl(S:KT)(x:Ch):Int×KT:=if FT S x 4 then(0,{Sk S (Ep S x).obj with A:=(Ar.placeD (Sk S (Ep S x).obj).A (Ep S x).obj 0 0 0).2}) else(8,S)
theorem NO{u:Value}{xs:Ap}{cs:Ac}{m:Nat}(h:OwnSl e m u n xs cs)(h1:1<=n): ∃gb cap sp,u= .slice (some ⟨gb,0,none⟩) n cap/\cs=[(gb,.cells (τ (xs++sp)) e (0,0))]:=by
 obtain⟨_,⟨_,h0,_⟩|⟨gb,cap,sp,h2,h3,_⟩⟩:=h
 ·omega
 ·exact⟨gb,cap,sp,h2,h3⟩
theorem zl(hK:IsK F C k S p s)(x:Ch):Fn prog 215 [pV b,Fy x] (AA b p s S G) (KK F C b p k (iV (Sl S x).1) (Sl S x).2 G):=by
 have mr:CH b p∈AA b p s S G:=mR λ_ h=>h;unfold Sl;refine AO func215 ntmps215 λE=>?_;refine AR λb3=>?_;refine AP (FB (ws:=Oi x 4) (k:=3) rfl rfl rfl A0 A0) ?_;rintro _ _ ⟨bw,_,rfl,rfl⟩;refine Aj ?_;refine AP (Az rfl rfl (gr hK bw x 4 _ (λc hc=> .tail _ (.tail _ hc)) (.head _))) ?_;rintro _ _ (⟨hk,u,cs,ho,rfl,rfl⟩|⟨hk,rfl,rfl⟩)
 case' inr=>
  rw[Ab hk];refine Aj ?_;exact Bd
 rw[Ad hk];obtain⟨gb,cap,sp,rfl,rfl⟩:=NO ho Af;rw[Ce];obtain⟨c,hc⟩:=ξ (Ep S x)
 rw[hc];have z1:(τ (Cb c++sp))[0+(0:Int).toNat*8+1]?=some (ι c.obj):=rfl;refine Aj ?_;refine Gt ?_;intro S1 s1 L1 Er ED DO G6;refine Aj ?_;refine CC (Cy [6] 0 7) ?_;refine CG ?_;refine Na ?_;intro S2 s2 L2 hS2 Gd F4 Ig;refine CG ?_;refine Aj ?_;have hS:S2={Sk S c.obj with A:=(Ar.placeD (Sk S c.obj).A c.obj 0 0 0).2}:=by rw[hS2,Er];rfl
 exact Bd
instance{x:Ch}:EK prog F C b p 215 [pV b,Fy x] k S k (iV (Sl S x).1) (Sl S x).2:=⟨λs G h=>zl h x⟩
end
theorem Rd: ∀(us ws X Y:Ap),us.length=ws.length->Dc (τ (X++(us++Y))) X.length ws=τ (X++(ws++Y))
 |[],[],X,Y,_=>rfl
 |u::us,w::ws,X,Y,h=>by
  have h1:(τ (X++(u::us++Y))).setIfInBounds X.length w=τ ((X++[w])++(us++Y)):=by apply BQ.1;rw[Array.toList_setIfInBounds];show(X++(u::(us++Y))).set X.length w=_;rw[Cq _ _ Af,Dx,E7];simp
  unfold Dc;rw[h1];have h2:=Rd us ws (X++[w]) Y (by simpa using h);rw[Ah] at h2;rw[show X.length+1=X.length+[w].length from rfl,h2];simp
def EU:Nat->List (Ap)->List (Nat×Value)
 |_,[]=>[]
 |i,r::rs=>(i,.agg (τ r))::EU (i+1) rs
theorem RZ{zs:Ap}{k:Nat}(hz:zs.length=k): ∀(rows:List (Ap)) (done:Ap) (i:Nat),(∀r,r∈rows->r.length=k)->done.length=i*k->
 Instr.fill (λi=>some (i*k,k)) (τ (done++(List.replicate rows.length zs).flatten)) (EU i rows)=some (τ (done++rows.flatten))
 |[],done,i,_,_=>by simp[EU,Instr.fill]
 |r::rs,done,i,hr,hd=>by have h1:r.length=k:=hr r Al;unfold EU Instr.fill;have e2:(Value.agg (τ r)).cells=τ r:=rfl;simp only[e2];rw[By,BN,CA];rw[Ab (by simp[h1,hz,hd])];rw[Kb,<-hd,Rd zs r done _ (by rw[hz,h1]),<-Am];rw[RZ hz rs (done++r) (i+1) (λr' h=>hr r' (An _ h)) (by rw[Ah,hd,h1,Gj])];rw[Am,CA]
section
variable{fr:Fr}{l:Ac}{d:Option Nat}{aft:Array Edge}{g:Option (Nat×Bool)}
theorem D5{T yb:Nat}{zs:Ap}{ps:List (Nat×Operand)}{pvs:List (Nat×Value)}{cs:Ap}(N3:bA fr ps=some pvs)(h0:0<n*k)(hn:n*k<=16777216)[c:ST P T e k yb][cz:ZV P e zs](Sv:zs.length=k)(PK:Instr.fill (λi=>some (i*k,k)) (τ (List.replicate n zs).flatten) pvs=some (τ cs)):
 OpE P ro N fr l ⟨d,.buildSlice T n ps.toArray,ty,pos,aft,g⟩ (λv' l'=> ∃b,(∀c,c∈l->c.1≠b)/\v'= .slice (some ⟨b,0,none⟩) n n/\l'=(b,.cells (τ cs) e (0,0))::l):=DS rfl λρ hρ=>by
 simp only[execOp,AE];have e:ps.toArray.map (λ(i,x)=>(i,ρ x))=τ pvs:=by rw[<-hρ.parts N3];simp
 rw[e];exact Kc (cs:=cs) c.out cz.out Sv h0 hn PK λb hb=>⟨b,hb,rfl,rfl⟩
end
section
abbrev waA(x:Ch)(k:Int):Value:= .agg (τ (Oi x k))
theorem Tn(x y:Ch)(k1 k2:Int):Instr.fill (λi=>some (i*3,3)) (τ (List.replicate 2 (Oi (0,0) 0)).flatten) [(0,waA x k1),(1,waA y k2)]=some (τ (Oi x k1++Oi y k2)):=
 RZ (zs:=Oi (0,0) 0) rfl [Oi x k1,Oi y k2] [] 0 (by simp) rfl
def Sm(S:KT)(x y:Ch):Int×KT:=if FT S x 7/\FT S y 6 then((As.addP S.N (Ep S y).obj).2.1,{S with N:=(As.addP S.N (Ep S y).obj).2.2}) else(8,S)
theorem zm(hK:IsK F C k S p s)(x y:Ch):Fn prog 218 [pV b,Fy x,Fy y] (AA b p s S G) (KK F C b p k (iV (Sm S x y).1) (Sm S x y).2 G):=by
 have mr:CH b p∈AA b p s S G:=mR λ_ h=>h;unfold Sm;refine AO func218 ntmps218 λE=>?_;refine AR λb3=>?_;refine AR λb4=>?_;refine AP (D5 (k:=3) (n:=2) (e:=457) (zs:=Oi (0,0) 0) (cs:=Oi x 7++Oi y 6) rfl A0 A0 rfl (Tn x y 7 6)) ?_;rintro _ _ ⟨bw,_,rfl,rfl⟩;refine Aj ?_;refine AP (Az rfl rfl (Tm hK bw x y 7 6 _ (λc hc=> .tail _ (.tail _ (.tail _ hc))) (.head _))) ?_;rintro _ _ (⟨hk,u,cs,ho,rfl,rfl⟩|⟨hk,rfl,rfl⟩)
 case' inr=>
  rw[Ab hk];refine Aj ?_;exact Bd
 rw[Ad hk];obtain⟨gb,cap,sp,rfl,rfl⟩:=NO ho Af;rw[Ce];obtain⟨c,hc⟩:=ξ (Ep S x)
 obtain⟨d,hd⟩:=ξ (Ep S y)
 rw[hc,hd];have z1:(τ (Cb c++Cb d++sp))[0+(1:Int).toNat*8+1]?=some (ι d.obj):=rfl;refine Aj ?_;refine CC (Cy [6] 0 11) ?_;refine CG ?_;refine Na ?_;intro S1 s1 L1 Er ED DO G6;refine CG ?_;refine Aj ?_;exact Bd
instance{x y:Ch}:EK prog F C b p 218 [pV b,Fy x,Fy y] k S k (iV (Sm S x y).1) (Sm S x y).2:=⟨λs G h=>zm h x y⟩
def Sn(S:KT)(x y:Ch):Int×KT:=
 if FT S x 6/\FT S y 5 then((As.assignP S.N (Ep S x).obj (Ep S y).obj).2.2.1,{S with N:=(As.assignP S.N (Ep S x).obj (Ep S y).obj).2.2.2,W:=if(As.assignP S.N (Ep S x).obj (Ep S y).obj).2.2.1=0 then(tk S.W (NN S (Ep S y).obj) 1).2 else S.W}) else(8,S)
theorem zn(hK:IsK F C (k+1) S p s)(x y:Ch):Fn prog 219 [pV b,Fy x,Fy y] (AA b p s S G) (KK F C b p k (iV (Sn S x y).1) (Sn S x y).2 G):=by
 have mr:CH b p∈AA b p s S G:=mR λ_ h=>h;unfold Sn;refine AO func219 ntmps219 λE=>?_;refine AR λb3=>?_;refine AR λb4=>?_;refine AP (D5 (k:=3) (n:=2) (e:=457) (zs:=Oi (0,0) 0) (cs:=Oi x 6++Oi y 5) rfl A0 A0 rfl (Tn x y 6 5)) ?_;rintro _ _ ⟨bw,_,rfl,rfl⟩;refine Aj ?_;refine AP (Az rfl rfl (Tm hK bw x y 6 5 _ (λc hc=> .tail _ (.tail _ (.tail _ hc))) (.head _))) ?_;rintro _ _ (⟨hk,u,cs,ho,rfl,rfl⟩|⟨hk,rfl,rfl⟩)
 case' inr=>
  rw[Ab hk];refine Aj ?_;exact Bd
 rw[Ad hk];obtain⟨gb,cap,sp,rfl,rfl⟩:=NO ho Af;rw[Ce];obtain⟨c,hc⟩:=ξ (Ep S x)
 obtain⟨d,hd⟩:=ξ (Ep S y)
 rw[hc,hd];have z0:(τ (Cb c++Cb d++sp))[0+(0:Int).toNat*8+1]?=some (ι c.obj):=rfl;have z1:(τ (Cb c++Cb d++sp))[0+(1:Int).toNat*8+1]?=some (ι d.obj):=rfl;refine Aj ?_;refine CC (Cy [10] 0 16) ?_;refine CG ?_;refine Na ?_;intro S1 s1 L1 Er ED DO G6;obtain⟨r,hr⟩:=ξ (As.assignP S.N c.obj d.obj)
 rw[hr] at Er⊢;refine CG ?_;by_cases h0:r.2.2.1=0
 case neg=>rw[Ab h0];refine Aj ?_;exact Bd
 rw[Ad h0];refine Aj ?_;refine CC (Cy [8] 0 9) ?_;refine CG ?_;refine Na ?_;intro S2 s2 L2 hS2 Gd F4 Ig;refine CG ?_;refine Aj ?_;have hS:S2={S with N:=r.2.2.2,W:=(tk S.W (NN S d.obj) 1).2}:=by rw[hS2,Er];rfl
 exact Bd
instance{x y:Ch}:EK prog F C b p 219 [pV b,Fy x,Fy y] (k+1) S k (iV (Sn S x y).1) (Sn S x y).2:=⟨λs G h=>zn h x y⟩
end
class CW(c:CapT):Prop where
 out:JA c
section
instance wR{x:Ch}{c:CapT}[hc:CW c]:EK prog F C b p 299 [pV p.h,Fy x,Vs c] k S k (iV (PG S.H x c).1) {S with H:=(PG S.H x c).2}:=⟨λs G h=>tu h Af (λm hm=>(hm.set x c hc.out).mono Af) λm G hm _=>nR p.h S.H m hm s.H h.ho x c G⟩
theorem IsK.cw(h:IsK F C k S p s)(x:Ch):CW (Ep S x):=by
 obtain⟨m,h1,h2⟩:=h.inv;unfold Ep getD'
 split
 ·exact⟨(h2.at x).2⟩
 ·exact⟨Mi.2⟩
theorem gA(c:CapT)(sp:Ap):(τ (Cb c++sp)).extract (0+(0:Int).toNat*8) (0+(0:Int).toNat*8+8)=τ (Cb c):=by apply BQ.1;simp
def M5(S:KT)(c:CapT):KT:=if(Ft S c).2=true then oT S c else S
def So(S:KT)(x:Ch):Int×KT:=if FT S x 3 then(0,{M5 S (Ep S x) with H:=(PG (M5 S (Ep S x)).H x {Ep S x with serial:=0,page:=0}).2}) else(8,S)
theorem zp(hK:IsK F C k S p s)(x:Ch):Fn prog 217 [pV b,Fy x] (AA b p s S G) (KK F C b p k (iV (So S x).1) (So S x).2 G):=by
 have mr:CH b p∈AA b p s S G:=mR λ_ h=>h;have hw:=hK.cw x;unfold So;refine AO func217 ntmps217 λE=>?_;refine AR λb3=>?_;refine AP (FB (ws:=Oi x 3) (k:=3) rfl rfl rfl A0 A0) ?_;rintro _ _ ⟨bw,_,rfl,rfl⟩;refine Aj ?_;refine AP (Az rfl rfl (gr hK bw x 3 _ (λc hc=> .tail _ (.tail _ hc)) (.head _))) ?_;rintro _ _ (⟨hk,u,cs,ho,rfl,rfl⟩|⟨hk,rfl,rfl⟩)
 case' inr=>
  rw[Ab hk];refine Aj ?_;exact Bd
 rw[Ad hk];obtain⟨gb,cap,sp,rfl,rfl⟩:=NO ho Af;rw[Ce];obtain⟨c,hc⟩:=ξ (Ep S x)
 rw[hc] at hw⊢;have lk:CW {c with serial:=0,page:=0}:=⟨hw.out.1,hw.out.2⟩
 have z1:=gA c sp;refine Aj ?_;refine Be (Dp rfl (.head _) (by show 0+(0:Int).toNat*8+8<=(Cb c++sp).length;simp) z1) ?_;refine AR λb7=>?_;refine Gt ?_;intro S1 s1 L1 Er ED DO G6;refine Aj ?_;refine CC (Cy [4] 0 5) ?_;refine CG ?_;refine Na (q:=wR (x:=x) (c:={c with serial:=0,page:=0})) ?_;intro S2 s2 L2 hS2 Gd F4 Ig;refine CG ?_;refine Aj ?_;have hS:S2={M5 S c with H:=(PG (M5 S c).H x {c with serial:=0,page:=0}).2}:=by rw[hS2,Er];rfl
 exact Bd
instance{x:Ch}:EK prog F C b p 217 [pV b,Fy x] k S k (iV (So S x).1) (So S x).2:=⟨λs G h=>zp h x⟩
end
section
def R2(S:KT)(x:Ch):Int:=if(getD' S.H.1 x).2=0/\(Ep S x).kind=0 then 10 else(getD' S.H.1 x).2
theorem Adc(hK:IsK F C k S p s)(x:Ch)(l:Ac)(hl: ∀c,c∈AA b p s S G->c∈l):Fn prog 288 [pV b,Fy x] l λv l'=>v=iV (R2 S x)/\l'=l:=by
 have mr:CH b p∈l:=mR hl;have I: ∀{f:Nat} {vs:Ap} {v:Value} [QF prog f vs (AA b p s S G) v],QF prog f vs l v:=aG hl;unfold R2;refine AO func288 ntmps288 λE=>?_;refine AR λb3=>?_;refine CC (Cy [7,8] 0 10) ?_;refine CG ?_;refine Is e_alloc (by rintro _ _ ⟨_,_,_,rfl⟩ c hc;exact .tail _ hc) ?_;rintro _ _ ⟨b5,_,rfl,rfl⟩;obtain⟨c,hc⟩:=ξ ((getD' S.H.1 x).1)
 obtain⟨e,he⟩:=ξ ((getD' S.H.1 x).2)
 rw[show Ep S x=c from hc,hc,he];refine CG ?_;by_cases h0:e=0/\c.kind=0
 ·rw[Ad h0];obtain⟨h1,h2⟩:=h0;refine Aj ?_;exact qr
 rw[Ab h0];by_cases h1:e=0
 case pos=>have h2:¬c.kind=0:=λh=>h0 ⟨h1,h⟩;refine Aj ?_;exact qr
 refine Aj ?_;exact qr
instance[h:IsK F C k S p s]{x:Ch}:QF prog 288 [pV b,Fy x] (AA b p s S G) (iV (R2 S x)):=⟨λl hl=>Adc h x l hl⟩
def wS(W:A8)(root page:Int):List (Int×Int):=
 if ¬(Rr W root page 1).2=0 then[] else(1,(Rr W root page 1).1)::if ¬(Rr W root page 2).2=0 then[] else[(2,(Rr W root page 2).1)]
theorem oV(root page:Int)(l:Ac):Fn prog 293 [pV b,ι root,ι page] l λv l'=> ∃B3 B4 B5,v= .func (.func 331) #[] #[pV B3,pV B4,pV B5]/\l'=BX B5 page::BX B4 root::rB B3 b::l:=by refine AO func293 ntmps293 λE=>?_;refine AR λb3=>?_;refine AR λb4=>?_;refine AR λb5=>?_;exact Bc .refl ⟨_,_,_,rfl,rfl⟩
end
section
def M6(S:KT)(core:Int):Th.ThT×Int:=
 if core<0\/core>=S.K.length then(Th.thZ,3) else if Mw S (KL S.U core)=false\/¬(DJ S (KL S.U core)).st=1 then(Th.thZ,19) else(DJ S (KL S.U core),0)
theorem Add(hK:IsK F C k S p s)(core:Int)(l:Ac)(hl: ∀c,c∈AA b p s S G->c∈l):Fn prog 153 [pV b,ι core] l λv l'=>v= .tuple #[Th.thV (M6 S core).1,iV (M6 S core).2]/\l'=l:=by
 have mr:CH b p∈l:=mR hl;have I: ∀{f:Nat} {vs:Ap} {v:Value} [QF prog f vs (AA b p s S G) v],QF prog f vs l v:=aG hl;unfold M6 Mw;refine AO func153 ntmps153 λE=>?_;refine AR λb4=>?_;by_cases h1:core<0
 ·rw[Ad (.inl h1)];refine Aj ?_;exact AU [] _ rfl .refl (B0 rfl (.head _) (As.LSub.of_all (n:=24) (Th.encH Th.thZ) rfl) Ba) ζ ⟨rfl,rfl⟩
 refine Aj ?_;refine EO ?_;refine Aj ?_;refine EO ?_;by_cases h2:core>=S.K.length
 ·rw[Ad (.inr h2)];refine Aj ?_;exact AU [] _ rfl .refl (B0 rfl (.head _) (As.LSub.of_all (n:=24) (Th.encH Th.thZ) rfl) Ba) ζ ⟨rfl,rfl⟩
 rw[Ab Af];refine Aj ?_;refine EO ?_;refine Aj ?_;refine EO ?_;refine Aj ?_;refine EO ?_;obtain⟨t,ht⟩:=ξ (DJ S (KL S.U core))
 obtain⟨ok,Dh⟩:=ξ ((Th.findH S.T (KL S.U core)).isSome)
 rw[ht,Dh];refine AR λb6=>?_;by_cases h3:ok=false\/¬t.st=1
 ·rw[Ad h3];cases ok<;>by_cases h4:t.st=1;all_goals first
   |(exfalso;simp[h4] at h3;done)
   |(refine Aj ?_
     exact AU [] _ rfl .refl (B0 rfl ν (As.LSub.of_all (n:=24) (Th.encH Th.thZ) rfl) Ba) θ ⟨rfl,rfl⟩)
 rw[Ab h3];obtain⟨h4,h5⟩:ok=true/\t.st=1:=by simp at h3;exact h3
 subst h4;refine Aj ?_;exact AU [] _ rfl .refl (B0 rfl ν (As.LSub.of_all (n:=24) (Th.encH t) rfl) Ba) θ ⟨rfl,rfl⟩
instance[h:IsK F C k S p s]{core:Int}:QF prog 153 [pV b,ι core] (AA b p s S G) (.tuple #[Th.thV (M6 S core).1,iV (M6 S core).2]):=⟨λl hl=>Add h core l hl⟩
end
abbrev dm(a b c d:Nat):Ap:=[ι (a:Nat),ι (b:Nat),ι (c:Nat),ι (d:Nat)]
def zr(w:Nat):Ap:=if 32768<=w then dm 0 0 0 0 else dm (DF w 12 3) (DF w 9 3) (DF w 6 3) (DF w 0 6)
theorem M7(w a n:Nat):DF w a n<2^n:=Hx _ (Fs n)
theorem jK(w:Nat)(hw:w<18446744073709551616)(l:Ac):Fn prog 255 [υ (w:Nat)] l λv l'=>v= .tuple #[.agg (τ (zr w)),iV (if 32768<=w then 3 else 0)]/\l'=l:=by
 have f1:=M7 w 12 3;have f2:=M7 w 9 3;have f3:=M7 w 6 3;have f4:=M7 w 0 6;unfold zr;refine AO func255 ntmps255 λE=>?_;refine AR λb2=>?_;by_cases h1:32768<=w
 ·rw[Ad h1,Ad h1];refine Aj ?_;exact AU [] _ rfl .refl (B0 rfl (.head _) (As.LSub.of_all (n:=4) (dm 0 0 0 0) rfl) Ba) ζ ⟨rfl,rfl⟩
 rw[Ab h1,Ab h1];refine AR λb4=>?_;refine Io 3 ?_;refine Aj ?_;refine Be (AI rfl rfl λl2 _=>J6 w 12 3 hw A0 A0 A0 l2) ?_;obtain⟨x1,kM⟩: ∃x,DF w 12 3=x:=⟨_,rfl⟩
 rw[kM] at f1⊢;refine Aj ?_;refine Nk (GM (cs:=dm 0 0 0 0) (cs':=dm x1 0 0 0) rfl rfl rfl (.head _) (by exact .zero) (by exact .here)) rfl rfl ?_;rintro _ _ ⟨rfl,rfl⟩;refine Aj ?_;refine Fk ?_;refine Aj ?_;refine Be (AI rfl rfl λl2 _=>J6 w 9 3 hw A0 A0 A0 l2) ?_;obtain⟨x2,Yn⟩: ∃x,DF w 9 3=x:=⟨_,rfl⟩
 rw[Yn] at f2⊢;refine Aj ?_;refine Nk (GM (cs:=dm x1 0 0 0) (cs':=dm x1 x2 0 0) rfl rfl rfl (.head _) (by exact .succ .zero) (by exact .here)) rfl rfl ?_;rintro _ _ ⟨rfl,rfl⟩;refine Aj ?_;refine Fk ?_;refine Aj ?_;refine Be (AI rfl rfl λl2 _=>J6 w 6 3 hw A0 A0 A0 l2) ?_;obtain⟨x3,hx3⟩: ∃x,DF w 6 3=x:=⟨_,rfl⟩
 rw[hx3] at f3⊢;refine Aj ?_;refine Nk (GM (cs:=dm x1 x2 0 0) (cs':=dm x1 x2 x3 0) rfl rfl rfl (.head _) (by exact .succ (.succ .zero)) (by exact .here)) rfl rfl ?_;rintro _ _ ⟨rfl,rfl⟩;refine Aj ?_;refine Fk ?_;refine Aj ?_;refine Be (AI rfl rfl λl2 _=>J6 w 0 6 hw A0 A0 A0 l2) ?_;obtain⟨x4,hx4⟩: ∃x,DF w 0 6=x:=⟨_,rfl⟩
 rw[hx4] at f4⊢;have g0:(τ (dm x1 x2 x3 0))[0+(0:Int).toNat*1]?=some (ι (x1:Nat)):=rfl;have g1:(τ (dm x1 x2 x3 0))[0+(1:Int).toNat*1]?=some (ι (x2:Nat)):=rfl;have g2:(τ (dm x1 x2 x3 0))[0+(2:Int).toNat*1]?=some (ι (x3:Nat)):=rfl;refine Aj ?_;exact AU [] _ rfl .refl (B0 rfl ν (As.LSub.of_all (n:=4) (dm x1 x2 x3 x4) rfl) Ba) θ ⟨rfl,rfl⟩
end Go.Proofs.YtlifcingifodfaaGreat
