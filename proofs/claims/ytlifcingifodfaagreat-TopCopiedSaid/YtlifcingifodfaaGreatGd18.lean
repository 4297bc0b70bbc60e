/- Laws. -/
import Derived.Test.YtlifcingifodfaaGreatGd17
set_option maxHeartbeats 4000000
set_option linter.all false
namespace Go.Proofs.YtlifcingifodfaaGreat
open Tryz
open List renaming toArray→τ
open Go.RowKit
set_option maxRecDepth 20000
variable{S:KT}{k F C b n i N t:Nat}{p:RP}{s:RL}{G lo L A T B X cs Z:Ac}{lp c c10 c8 cB cv c5 c6 c7 c2:Bh}{P:Program}{ro:Option Nat}{E:World}
abbrev gG(B bl b5 b6 b7 b2 b:Nat)(vl ve:Value)(n:Nat):Ac:=[lpB B bl,rn bl vl,lpB b5 bl,NY b6 ve,BX b7 n,rB b2 b]
section
def DrI(F C k b:Nat)(p:RP)(G:Ac)(R:KT×A8×Nat)(M B bl b5 b6 b7 b2 m:Nat)(pre:List Ch)(o:Option Ch)(l:Ac):Prop:=
 ∃(S':KT) (s':RL) (L:Ac) (ys:List Ch) (vl ve:Value) (cl ce:Ac) (es:A8) (n:Nat),IsK F C k S' p s'/\Tail L G/\1<=ys.length/\o=ys[pre.length]?/\17*Mz S'+(ys.drop pre.length).length<=m/\17*Mz S'+ys.length<=M/\es.length<=pre.length/\n<=pre.length/\pre.length<=ys.length/\dropR m S' (ys.drop pre.length) es n=R/\
  OwnSl 61 2 vl ys.length (Tr.scs ys) cl/\OwnSl 3 1 ve es.length (es.map CU) ce/\l=gG B bl b5 b6 b7 b2 b vl ve n++(cl++(ce++AA b p s' S' L))
theorem Adm{r:Nat}{o:Obj}:(lo++(r,o)::AA b p s S L).Perm (lo++AA b p s S ((r,o)::L)):=by unfold AA;exact δ
theorem Adn:(lo++(A++(B++AA b p s S L))).Perm (lo++AA b p s S (A++(B++L))):=by unfold AA;exact δ
theorem gH{L9:Ac}(h:Tail L9 (lp::(A++(B++(L++T))))): ∃L',Tail L' L/\ ∀lo,(lo++AA b p s S L9).Perm ((lo++(A++(B++AA b p s S L')))++lp::T):=by obtain⟨X,rfl⟩:=h;exact⟨X++L,⟨X,rfl⟩,λlo=>by unfold AA;exact δ⟩
theorem zJ:([c10,c8,cB,cv,c5,c6,c7,c2]++AA b p s S (X++lp::(A++(B++(L++T))))).Perm (cv::(A++AA b p s S ([c10,c8,cB,c5,c6,c7,c2]++(B++(X++lp::(L++T)))))):=by unfold AA;exact δ
theorem ur:(cv::(A++AA b p s S (Z++([c10,c8,cB,c5,c6,c7,c2]++(B++(X++lp::(L++T))))))).Perm ([c10,c8,cB,cv,c5,c6,c7,c2]++(B++(A++AA b p s S (Z++(X++lp::(L++T)))))):=by unfold AA;exact δ
theorem ut:(lo++(B++(A++AA b p s S (Z++(X++lp::(L++T)))))).Perm ((lo++(A++(B++AA b p s S (Z++(X++L)))))++lp::T):=by unfold AA;exact δ
theorem zK(hK:IsK F C k S p s)(x:Ch):Fn prog 289 [pV b,Fy x] (AA b p s S G) (KK F C b p k (iV (PW S x).1) (PW S x).2 G):=by
 have mr:CH b p∈AA b p s S G:=mR λ_ h=>h;obtain⟨m9,h91,h92,_,h93⟩:=hK.small;have t93:Mz S<=1000:=h93;obtain⟨R,hR⟩:=ξ (dropR (17*Mz S+1) S [x] [] 0)
 unfold PW;rw[hR];refine AO func289 ntmps289 λE=>?_;refine AR λb2=>?_;refine AR λb3=>?_;refine AP (FB (ws:=Cd x) (k:=2) rfl rfl rfl A0 A0) ?_;rintro _ _ ⟨gs,_,rfl,rfl⟩;refine AR λbl=>?_;refine AR λb5=>?_;refine AR λb6=>?_;refine AR λb7=>?_;refine AP (Az rfl rfl (pn bl _)) ?_;rintro _ _ ⟨B,rfl,rfl⟩;refine Aj ?_;refine o6 (α:=Ch) (ps:=[20]) (lb:=[pV B]) rfl (jQ B bl) (λ_=>rfl) rfl
  (DrI F C k b p G R (17*Mz S+1) B bl b5 b6 b7 b2) (λ_ _ _=>False) (gG B bl b5 b6 b7 b2 b (.slice (some ⟨gs,0,none⟩) 1 1) (.slice none 0 0) 0++([lsC gs [x] []]++([]++AA b p s S G))) (m0:=17*Mz S+1) (o0:=some x) ?_ AY ⟨S,s,G,[x],_,_,_,_,[],0,hK,.nil,Bf _,rfl,Bf _,Bf _,Bf _,Bf _,Bm _,hR,⟨rfl,.inr ⟨gs,1,[],rfl,rfl,Bf _,by unfold maxLen;omega,rfl⟩⟩,OwnSl.nil _ _,rfl⟩ ?_ ?_ ?_
 ·rintro m pre o l X ⟨S1,s1,L1,ys,vl,ve,cl,ce,es,n,ED,DO,qT,ho,hm,hM,vJ,hn,hp,hR1,qW,hoe,rfl⟩;obtain⟨gb,cap,sp,rfl,rfl⟩:=NO qW qT;exact⟨gb,cap,sp,ys,by simp,by simp,by simp,Af,ho⟩
 ·rintro E r0 Gb m pre x1 l T ⟨fn,tmps,D,hrec⟩ ⟨S1,s1,L1,ys,vl,ve,cl,ce,es,n,ED,DO,qT,ho,hm,hM,vJ,hn,hp,hR1,qW,hoe,rfl⟩;obtain⟨m8,h81,h82,_⟩:=ED.small;have C7:=(Aw.1 ho.symm).1;have hd:ys.drop pre.length=x1::ys.drop (pre.length+1):=by rw[CR C7,(Aw.1 ho.symm).2]
  rw[hd] at hm hR1;rw[By] at hm;obtain⟨m,rfl⟩: ∃q,m=q+1:=⟨m-1,Af⟩
  unfold dropR at hR1;have hln:(ys.drop (pre.length+1)).length=ys.length-(pre.length+1):=DR;have aC:(pre++[x1]).length=pre.length+1:=by simp
  refine Eh (.of_perm (zI (lo:=gG B bl b5 b6 b7 b2 b vl ve n))) ?_;rw[hrec];simp only[DY,gG,Ae,Ag];refine AR λb8=>?_;refine CP D1 ?_;rw[<-hrec];refine Eh (.of_perm (Adm (lo:=WI b8 x1::gG B bl b5 b6 b7 b2 b vl ve n))) ?_;obtain⟨lp,lL⟩: ∃lp:Bh,(r0,Obj.loop (Gb .busy none))=lp:=⟨_,rfl⟩
  rw[lL];have G6:CH b p∈AA b p s1 S1 (lp::(cl++(ce++(L1++T)))):=mR λ_ h=>h;simp only[gG,Ae,Ag];refine Aj ?_;refine CC (Cy [] 0 5) ?_;refine CG ?_;obtain⟨fin,RB⟩: ∃q,J8 S1.H x1=q:=⟨_,rfl⟩
  rw[RB] at hR1⊢;refine Aj ?_;obtain⟨q,hq⟩:=ξ (D3 S1.H x1)
  have vY:q.1.2=0->q.2.2.length+1=Mz S1:=λh=>by rw[<-hq] at h⊢;exact dt h82 h
  have YF:¬q.1.2=0->q.2=S1.H:=λh=>by rw[<-hq] at h⊢;exact du h
  unfold dropX at hR1;rw[hq] at hR1;refine L7 [(0,true),(1,true),(2,true),(3,false),(4,true),(5,true),(6,true),(7,false),(8,false),(9,true)] [[],[0],[],[0,1,2],[0,1,2,3],[0,1,2,3,4],[0,1,2,3,4],[],[0,1,2,3,4,5,7],[0,1,2,3,4,5,6,7,8]] 3 7 ([rB b2 b,WI b8 x1,CH b p]) Bu Bu GO ((WM Ca Ca Ca)) ?_;refine BJ ?_;refine Wb ?_;refine BJ ?_;refine Oz [(7,false),(3,false),(4,true),(5,true),(6,true),(8,false),(9,true)] GO (AJ (l₁:=[_,_,_,_])).symm Bu ?_ ?_
  case' refine_1=>
   refine pek ?_ ?_
   ·intro S2 s2 L2;have Ig:CH b p∈AA b p s2 S2 L2:=mR λ_ h=>h;exact WM Ca Ca Ca
   intro S2 s2 L2 hS2 Gd F4 Ig;iterate 3 refine YY ?_
   refine CX e_alloc rfl rfl rfl ?_ ?_
   ·rintro _ _ ⟨_,_,_,rfl⟩ c hc;exact .tail _ (WM Ca Ca Ca c hc)
   rintro _ _ ⟨GW,_,rfl,rfl⟩
  case' refine_2=>
   refine CX e_alloc rfl rfl rfl ?_ ?_
   ·rintro _ _ ⟨_,_,_,rfl⟩ c hc;exact .tail _ (WM Ca Ca Ca c hc)
   rintro _ _ ⟨GW,_,rfl,rfl⟩;refine pek ?_ ?_
   ·intro S2 s2 L2;have Ig:CH b p∈AA b p s2 S2 L2:=mR λ_ h=>h;exact WM Ca Ca Ca
   intro S2 s2 L2 hS2 Gd F4 Ig;iterate 3 refine YY ?_
  all_goals
   rw[hq] at hS2⊢;obtain⟨c,hc⟩:=ξ q.1.1
   obtain⟨er,her⟩: ∃e,q.1.2=e:=⟨_,rfl⟩
   rw[hc,her] at hR1⊢;rw[her] at vY YF;refine wt ?_ (hR:=WM Ca Ca Ca);refine BJ ?_;refine Aj ?_;by_cases h0:er=0
   case neg=>
    rw[Ad h0] at hR1;have e2:Mz S2=Mz S1:=by rw[hS2];show q.2.2.length=_;rw[YF h0]
    rw[<-hS2] at hR1;refine Aj ?_;subst lL hrec;obtain⟨L9,hL9,hp9⟩:=gH (b:=b) (p:=p) (s:=s2) (S:=S2) F4;exact Cn (gG B bl b5 b6 b7 b2 b vl ve n++(cl++(ce++AA b p s2 S2 L9))) (Keep.trans θ (.of_perm (hp9 (gG B bl b5 b6 b7 b2 b vl ve n)))) ⟨m,ys[pre.length+1]?,Id _,by unfold DrI;simp only[aC];exact⟨S2,s2,L9,ys,vl,ve,cl,ce,es,n,Gd,hL9.trans DO,qT,rfl,Af,Af,Af,Af,Af,hR1,qW,hoe,rfl⟩⟩
   rw[Ab (λh=>h h0)] at hR1;have e2:Mz S2+1=Mz S1:=by rw[hS2];exact vY h0
   have hn9:n<=18000:=by omega
   refine Aj ?_;by_cases h3:c.kind=3
   case' pos=>
    rw[Ad h3] at hR1;refine Aj ?_;refine Gt ?_;intro S3 s3 L3 hS3 M8 hT3' Qv;have Lo:=hT3'.trans F4;have e3:Mz S3=Mz S2:=by rw[hS3];exact BM (λH:HS=>H.2.length) (uq S2 c)
    rw[show M5 {S1 with H:=q.2} c=S3 by rw[hS3,<-hS2];rfl] at hR1;refine Aj ?_
   case' neg=>
    rw[Ab h3] at hR1;obtain⟨S3,hS3⟩:=ξ S2
    obtain⟨s3,R6⟩:=ξ s2
    obtain⟨L3,hL3⟩:=ξ L2
    have M8:=Gd;have Lo:=F4;have Qv:=Ig;rw[hS3,R6] at M8;rw[hS3,R6,hL3] at Qv;rw[hL3] at Lo;have e3:Mz S3=Mz S2:=by rw[hS3]
    rw[show({S1 with H:=q.2}:KT)=S3 by rw[<-hS3,hS2]] at hR1;refine Aj ?_;rw[hS3,R6,hL3]
   all_goals
    by_cases h4:fin=false\/c.obj=0
    ·rw[Ad h4] at hR1;cases fin<;>by_cases h5:c.obj=0;all_goals first
      |(exfalso;simp[h5] at h4;done)
      |(refine Aj ?_
        subst lL hrec;obtain⟨L9,hL9,hp9⟩:=gH (b:=b) (p:=p) (s:=s3) (S:=S3) Lo;exact Cn (gG B bl b5 b6 b7 b2 b vl ve (n+1)++(cl++(ce++AA b p s3 S3 L9))) (Keep.trans θ (.of_perm (hp9 (gG B bl b5 b6 b7 b2 b vl ve (n+1))))) ⟨m,ys[pre.length+1]?,Id _,by unfold DrI;simp only[aC];exact⟨S3,s3,L9,ys,vl,ve,cl,ce,es,n+1,M8,hL9.trans DO,qT,rfl,Af,Af,Af,Af,Af,hR1,qW,hoe,rfl⟩⟩)
    rw[Ab h4] at hR1;obtain⟨h5,h6⟩:fin=true/\¬c.obj=0:=by simpa using h4
    subst h5;refine Aj ?_;obtain⟨X,rfl⟩:=Lo;refine AP (Az rfl rfl (Fn.keep (.of_perm zJ) (Adi M8 c bl vl ys cl Af qW))) ?_;rintro _ _ ⟨rfl,v2,N4,s4,L4,ho4,hK4,⟨Z,rfl⟩,rfl⟩;refine Bt (.of_perm ur) ?_;simp only[Ae,Ag];refine Aj ?_;refine AP (Lq (v:=iV c.obj) rfl rfl) ?_;rintro _ _ ⟨bz,_,rfl,rfl⟩;refine Aj ?_;refine AP (HM (k:=1) (X:=[Bw GW c,WI b8 x1,lpB B bl,rn bl v2,lpB b5 bl,NY b6 ve,BX b7 ((n:Int)+1),rB b2 b]) (cs:=ce) (xs:=es.map CU) (n:=es.length) (zs:=[iV 0]) (ws:=[iV c.obj]) rfl rfl rfl hoe rfl (by simp[Value.oneCell']) Af A0) ?_;rintro ve2 _ ⟨ce2,hoe2,rfl⟩;have o2:=To hoe2;simp only[Ae,Ag];refine Aj ?_;have hz:(My (K8 S3 c) c).length<=16:=by have h1:=WO (K8 S3 c) c (Ar.slotsD c.kind (Ar.getD' (K8 S3 c).A c.obj).1.sz).toNat;have h2:=gE c.kind (Ar.getD' (K8 S3 c).A c.obj).1.sz;unfold My;omega
    have e4:Mz (K8 S3 c)=Mz S3:=by show(K8 S3 c).H.2.length=_;rw[zH]
    have e5:(ys++My (K8 S3 c) c).drop (pre.length+1)=ys.drop (pre.length+1)++My (K8 S3 c) c:=List.drop_append_of_le_length Af;subst lL hrec;exact Cn (gG B bl b5 b6 b7 b2 b v2 ve2 (n+1)++(N4++(ce2++AA b p s4 (K8 S3 c) (Z++(X++L1))))) (Keep.trans θ (.of_perm (ut (lo:=gG B bl b5 b6 b7 b2 b v2 ve2 (n+1))))) ⟨m,(ys++My (K8 S3 c) c)[pre.length+1]?,Id _,by unfold DrI;simp only[aC];exact⟨K8 S3 c,s4,Z++(X++L1),ys++My (K8 S3 c) c,v2,ve2,N4,ce2,es++[c.obj],n+1,hK4,Tail.trans ⟨Z++X,by simp⟩ DO,by rw[Ah];omega,rfl,by rw[e5,Ah];omega,by rw[Ah];omega,by rw[Ah,Bk];omega,Af,by rw[Ah];omega,by rw[e5];exact hR1,ho4,by rw[Ah,At];exact hoe2,rfl⟩⟩
 ·rintro D m xs l ⟨S1,s1,L1,ys,vl,ve,cl,ce,es,n,ED,DO,qT,ho,hm,hM,vJ,hn,hp,hR1,qW,hoe,rfl⟩;rw[List.drop_eq_nil_of_le (List.getElem?_eq_none_iff.1 ho.symm),WQ] at hR1;subst hR1;refine KG (.of_perm (.cons _ (Adn (lo:=gG B bl b5 b6 b7 b2 b vl ve n)))) ?_;have G6:CH b p∈AA b p s1 S1 (cl++(ce++L1)):=mR λ_ h=>h;simp only[gG,Ae,Ag];by_cases he:es.length=0
  ·obtain⟨pp,cap,ei⟩:=hoe.shape;rw[he] at ei;rw[ei,GG.1 he];refine Aj ?_;refine Io 0 ?_;refine Aj ?_;refine Gt ?_;intro S2 s2 L2 hS2 Gd F4 Ig;refine Aj ?_;exact AU [D] _ rfl .refl Ba χ ⟨rfl,s2,L2,by rw[show HW (pw S1 [])=S2 from hS2.symm];exact Gd,F4.trans (Tail.trans ⟨cl++ce,by simp⟩ DO),by rw[show HW (pw S1 [])=S2 from hS2.symm]⟩
  have xE:=gF hoe;obtain⟨gw,cap,sw,rfl,rfl⟩:=NO hoe Af;refine Aj ?_;refine CF (α:=Nat×KT×RL×Ac) (λx=>[(2,pV b2),(7,pV b7),(58,.slice (some ⟨gw,0,none⟩) es.length cap),(59,ι (es.length:Nat)),(60,ι x.1)]) (λx=>Cv D::BX b7 n::rB b2 b::AA b p x.2.2.1 x.2.1 x.2.2.2) (λx=>x.1<=es.length/\x.2.1=pw S1 (es.take x.1)/\IsK F C k x.2.1 p x.2.2.1/\Tail x.2.2.2 (cl++([Od gw es sw]++L1))) (λx=>es.length-x.1) (0,S1,s1,_) ⟨Bm _,rfl,ED,.nil⟩ ⟨rfl,rfl,rfl,rfl,rfl,trivial⟩ AY ?_;rintro⟨i,S2,s2,L2⟩ ⟨hi,hS2,Gd,F4⟩;simp only at hi hS2 Gd F4⊢;have Ig:CH b p∈AA b p s2 S2 L2:=mR λ_ h=>h;have mw:Od gw es sw∈AA b p s2 S2 L2:=mG (λ_ h=>h) _ (by obtain⟨X,rfl⟩:=F4;simp);by_cases C7:i<es.length
  ·obtain⟨t,ht⟩:=ξ (es.getD i 0)
   have c0:(τ (es.map CU++sw))[i*1]?=some (ι t):=by rw[Dw,<-ht];exact Sj C7
   refine Aj ?_;refine Gt ?_;intro S3 s3 L3 hS3 M8 Lo Qv;refine Aj ?_;exact BZ (i+1,S3,s3,L3) ⟨by simp only;omega,by simp only;unfold pw;rw[WP C7,El,ht];exact hS3.trans (by rw[hS2];rfl),M8,Lo.trans F4⟩ (by simp only;omega) ⟨rfl,rfl,rfl,rfl,rfl,trivial⟩ .refl
  ·rw[BD Af] at hS2;refine Aj ?_;refine Gt ?_;intro S3 s3 L3 hS3 M8 Lo Qv;refine Aj ?_;rw[hS2] at hS3;exact AU [D] _ rfl .refl Ba θ ⟨rfl,s3,L3,by rw[<-hS3];exact M8,Lo.trans (F4.trans (Tail.trans ⟨cl++[Od gw es sw],by simp⟩ DO)),by rw[<-hS3]⟩
 ·rintro D c pre l h;exact h.elim
instance{x:Ch}:EK prog F C b p 289 [pV b,Fy x] k S k (iV (PW S x).1) (PW S x).2:=⟨λs G h=>zK h x⟩
end
section
def Oe(S:KT)(x:Ch):(Int×Int)×KT:=if ¬R2 S x=0 then((0,R2 S x),S) else((((PW S x).1:Nat),0),(PW S x).2)
theorem Ado(hK:IsK F C k S p s)(x:Ch):Fn prog 212 [pV b,Fy x] (AA b p s S G) (KK F C b p k (.tuple #[iV (Oe S x).1.1,iV (Oe S x).1.2]) (Oe S x).2 G):=by
 have mr:CH b p∈AA b p s S G:=mR λ_ h=>h;obtain⟨R,hR⟩:=ξ (Oe S x)
 rw[hR];unfold Oe at hR;refine AO func212 ntmps212 λE=>?_;refine AR λb3=>?_;refine EO ?_;obtain⟨e,he⟩:=ξ (R2 S x)
 rw[he] at hR⊢;by_cases h0:e=0
 case neg=>rw[Ad h0] at hR;subst hR;refine Aj ?_;exact Bd
 rw[Ab (λh=>h h0)] at hR;subst hR;refine Aj ?_;refine Gt ?_;intro S1 s1 L1 Er ED DO G6;refine Aj ?_;exact Bd
instance{x:Ch}:EK prog F C b p 212 [pV b,Fy x] k S k (.tuple #[iV (Oe S x).1.1,iV (Oe S x).1.2]) (Oe S x).2:=⟨λs G h=>Ado h x⟩
def revR:Nat->KT->Ch->Nat->Nat->(Int×Int)×KT
 |0,S,_,_,n=>((n,0),S)
 |m+1,S,x,bu,n=>
  if ¬R2 S x=0 then((n,0),S) else match Tr.belowD S.H.2 x with
  |[]=>((n,0),S)
  |y::_=>if n=bu then((n,17),S) else revR m (PW S y).2 x bu (n+1)
def SI(S:KT)(x:Ch)(bu:Int):(Int×Int)×KT:=
 if ¬R2 S x=0 then((0,R2 S x),S) else if bu<1\/64<bu then((0,2),S) else revR (bu.toNat+1) S x bu.toNat 0
theorem zL:(A++(c::AA b p s S G)).Perm (c::AA b p s S (A++G)):=by unfold AA;exact δ
theorem Adp(hK:IsK F C k S p s)(x:Ch)(bu:Int):Fn prog 213 [pV b,Fy x,ι bu] (AA b p s S G) (KK F C b p k (.tuple #[iV (SI S x bu).1.1,iV (SI S x bu).1.2]) (SI S x bu).2 G):=by
 have mr:CH b p∈AA b p s S G:=mR λ_ h=>h;obtain⟨R,hR⟩:=ξ (SI S x bu)
 rw[hR];unfold SI at hR;refine AO func213 ntmps213 λE=>?_;refine AR λb4=>?_;refine EO ?_;obtain⟨e,he⟩:=ξ (R2 S x)
 rw[he] at hR⊢;by_cases h0:e=0
 case neg=>rw[Ad h0] at hR;subst hR;refine Aj ?_;exact Bd
 rw[Ab (λh=>h h0)] at hR;by_cases h1:bu<1\/64<bu
 ·rw[Ad h1] at hR;subst hR;by_cases h2:bu<1<;>by_cases h3:64<bu;all_goals first
   |(exfalso;omega)
   |(refine Aj ?_
     exact Bd)
 rw[Ab h1] at hR;obtain⟨h2,h3⟩:¬bu<1/\¬64<bu:=by omega
 obtain⟨w,rfl⟩: ∃w:Nat,bu=w:=⟨bu.toNat,Af⟩
 rw[AV] at hR;refine Aj ?_;refine CF (α:=Nat×KT×RL×Ac) (λy=>[(0,pV b),(2,ι (w:Nat)),(4,pV b4),(9,ι y.1)]) (λy=>WI b4 x::AA b p y.2.2.1 y.2.1 y.2.2.2) (λy=>y.1<=w/\revR (w-y.1+1) y.2.1 x w y.1=R/\IsK F C k y.2.1 p y.2.2.1/\Tail y.2.2.2 G) (λy=>w-y.1) (0,S,s,G) ⟨Bm _,hR,hK,.nil⟩ ⟨rfl,rfl,rfl,rfl,trivial⟩ .refl ?_;rintro⟨n,S1,s1,L1⟩ ⟨hn,hR1,ED,DO⟩;simp only at hn hR1 ED DO⊢;have G6:CH b p∈AA b p s1 S1 L1:=mR λ_ h=>h;obtain⟨m8,h81,h82,_,h83⟩:=ED.small;unfold revR at hR1;refine Aj ?_;refine EO ?_;obtain⟨e1,he1⟩: ∃e,R2 S1 x=e:=⟨_,rfl⟩
 rw[he1] at hR1⊢;by_cases h4:e1=0
 case neg=>rw[Ad h4] at hR1;subst hR1;refine Aj ?_;exact Bd
 rw[Ab (λh=>h h4)] at hR1;refine Aj ?_;refine CC (Cy [3] 0 5) ?_;refine CG ?_;refine LP (Az rfl rfl (Uw p.h S1.H s1.H ED.ho Af x _ λy hy=> .tail _ (mH (λ_ h=>h) y hy))) ?_ rfl rfl;rintro sl _ ⟨cs,ho,rfl⟩;refine CG ?_;refine KG (.of_perm zL) ?_;have Ig:CH b p∈AA b p s1 S1 (cs++L1):=mR λ_ h=>h;have F4:Tail (cs++L1) G:=DO.step cs;cases hD:Tr.belowD S1.H.2 x with
 |nil=>rw[hD] at hR1 ho;simp only at hR1;subst hR1;obtain⟨pp,cap,ei⟩:=ho.shape;rw[EW] at ei;rw[ei];refine Aj ?_;exact Bd
 |cons y r=>
 rw[hD] at hR1 ho;simp only at hR1;obtain⟨gb,cap,sp,rfl,rfl⟩:=NO ho (by simp);have hl:0<(y::r).length:=by simp
 obtain⟨z1,z2⟩:=gD (ys:=y::r) (i:=0) (x:=y) rfl sp;have mw:lsC gb (y::r) sp∈AA b p s1 S1 ([lsC gb (y::r) sp]++L1):=mG (λ_ h=>h) _ (by simp);obtain⟨ln,hln⟩: ∃ln:Nat,(y::r).length=ln:=⟨_,rfl⟩
 rw[hln] at hl⊢;by_cases h5:n=w
 ·rw[Ad h5] at hR1;subst hR1;refine Aj ?_;exact Bd
 rw[Ab h5] at hR1;have h6:¬(n:Int)=(w:Int):=by omega
 refine Aj ?_;refine Be (Dp rfl (.tail _ mw) z1 z2) ?_;refine Aj ?_;refine Gt ?_;intro S2 s2 L2 hS2 Gd Lo Qv;refine Aj ?_;exact BZ (n+1,S2,s2,L2) ⟨by simp only;omega,by simp only;rw[hS2,show w-(n+1)+1=w-n by omega];exact hR1,Gd,Lo.trans F4⟩ (by simp only;omega) ⟨rfl,rfl,rfl,rfl,trivial⟩ .refl
instance{x:Ch}{bu:Int}:EK prog F C b p 213 [pV b,Fy x,ι bu] k S k (.tuple #[iV (SI S x bu).1.1,iV (SI S x bu).1.2]) (SI S x bu).2:=⟨λs G h=>Adp h x bu⟩
end
section
variable{fr:Fr}{R:Ac}{d:Option Nat}{ty:TypeId}{pos:String}{aft:Array Edge}{g:Option (Nat×Bool)}{x y:Operand}{v:Value}
theorem jS{Q:Value->Ac->Prop}{off:Nat}{l:Ac}{cs:Array Value}(hc:rY P t=true)(hv:cs[off]?=some v)(h:Q v l):sl P (part t cs off) l Q:=by have h2:=YP (P:=P) (f:=λv=>(pure v:Sem Value)) (Q:=Q) hc hv (by simpa only[Bq] using h);simpa using h2
theorem XY{e m:Nat}{ki:IntKind}{cs:Array Value}(hx:ev fr x=some (.agg cs))(hy:ev fr y=some (.int ki (m:Nat)))[c:AT P t n e k][co:OC P e](hk:k=1)(hi:m<n)(hv:cs[m]?=some v):OpQ P ro N fr R ⟨d,.index t x y,ty,pos,aft,g⟩ v:=BO rfl λρ l hρ _=>by
 obtain⟨HH,k1,k2,k3⟩:=MQ c.out;simp only[execOp,hρ x _ hx,hρ y _ hy];unfold Instr.index;simp only[asIntOf,AE,Bq];rw[E9 k1];have h0:(0:Int)<=(m:Nat)/\((m:Nat):Int)<(n:Nat):=by omega
 simp only[Ad h0,AE,AV];rw[HK k2,k3,hk,Dw];exact jS co.out hv ⟨rfl,rfl⟩
end
structure Ja where
 op:Int
 a:Int
 b:Int
 c:Int
 n0:Int
 n1:Int
 n2:Int
 w:Int
 ms:O5
deriving DecidableEq
abbrev SJ(o:Ja):Ap:=[iV o.op,iV o.a,iV o.b,iV o.c,iV o.n0,iV o.n1,iV o.n2,Bb o.w,Bb o.ms.a,Bb o.ms.b,Bb o.ms.c,Bb o.ms.d]
abbrev orV(o:Ja):Value:= .agg (τ (SJ o))
abbrev rp(b:Nat)(t:Int)(o:Ja)(x y:Ch):Ap:=[pV b,iV t,iV o.op,iV o.a,iV o.b,iV o.c,iV o.n0,iV o.n1,iV o.n2,Bb o.w,Bb o.ms.a,Bb o.ms.b,Bb o.ms.c,Bb o.ms.d,iV x.1,iV x.2,iV y.1,iV y.2]
abbrev O7(b:Nat)(t:Int)(o:Ja)(x y:Ch):Value:= .agg (τ (rp b t o x y))
abbrev Yw(B b:Nat)(t:Int)(o:Ja)(x y:Ch):Bh:=(B,.cells (τ (rp b t o x y)) 292 (0,0))
section
theorem Adq(hK:IsK F C k S p s)(t:Int)(o:Ja)(x y z:Ch)(kd:Int)(l:Ac)(hl: ∀c,c∈AA b p s S G->c∈l):Fn prog 281 [O7 b t o x y,Fy z,ι kd] l λv l'=>v= .tuple #[Vs (Ep S z),.bool (decide (FT S z kd))]/\l'=l:=by
 have mr:CH b p∈l:=mR hl;have I: ∀{f:Nat} {vs:Ap} {v:Value} [QF prog f vs (AA b p s S G) v],QF prog f vs l v:=aG hl;refine AO func281 ntmps281 λE=>?_;refine AR λb3=>?_;refine AR λb4=>?_;refine AR λb6=>?_;refine CC (Cy [8,9] 0 11) ?_;refine CG ?_;obtain⟨c,hc⟩:=ξ ((getD' S.H.1 z).1)
 obtain⟨e,he⟩:=ξ ((getD' S.H.1 z).2)
 have hd:decide (FT S z kd)=(decide (e=0)&&decide (c.kind=kd)):=by rw[KD,AM,IW,IW,IW];show(_=0/\(Ep S z).kind=kd)<->_;rw[he,show Ep S z=c from hc]
 rw[show Ep S z=c from hc,hd,hc,he];refine Is e_alloc (by rintro _ _ ⟨_,_,_,rfl⟩ c hc;exact .tail _ hc) ?_;rintro _ _ ⟨b8,_,rfl,rfl⟩;refine CG ?_;refine Aj ?_;by_cases h1:e=0<;>by_cases h2:c.kind=kd;all_goals
  refine Ct [9] 11 ([Bw b8 c]) ?_ (hR:=(UV Ca));refine BJ ?_;refine Aj ?_
  first|rw[Aq h1]|rw[Av h1]
  first|rw[Aq h2]|rw[Av h2]|skip
  simp only[Bool.and_true,BA,Jq,Bl];exact AU [] _ rfl .refl (B0 rfl ν (As.LSub.of_all (n:=8) (Cb c) rfl) Ba) φ ⟨rfl,rfl⟩
instance[h:IsK F C k S p s]{t:Int}{o:Ja}{x y z:Ch}{kd:Int}:QF prog 281 [O7 b t o x y,Fy z,ι kd] (AA b p s S G) (.tuple #[Vs (Ep S z),.bool (decide (FT S z kd))]):=⟨λl hl=>Adq h t o x y z kd l hl⟩
def dv(S:KT)(t:Int)(j:Nat):KT:=if KL S.U j=t then(M4 S j 0).2 else S
def uv(S:KT)(t:Int):KT:=(List.range S.K.length).foldl (λS j=>dv S t j) S
theorem jT(hK:IsK F C k S p s)(t:Int):Fn prog 303 [pV b,ι t] (AA b p s S G) (KK F C b p k (.tuple #[]) (uv S t) G):=by
 have mr:CH b p∈AA b p s S G:=mR λ_ h=>h;have rv:=hK.c1;have aB:=hK.kl;refine AO func303 ntmps303 λE=>?_;refine Aj ?_;refine EO ?_;refine Aj ?_;refine EO ?_;refine Aj ?_;refine CF (α:=Nat×KT×RL×Ac) (λx=>[(0,pV b),(1,ι t),(7,ι (S.K.length:Nat)),(8,ι x.1)]) (λx=>AA b p x.2.2.1 x.2.1 x.2.2.2) (λx=>x.1<=S.K.length/\x.2.1=(List.range x.1).foldl (λS j=>dv S t j) S/\IsK F C k x.2.1 p x.2.2.1/\Tail x.2.2.2 G) (λx=>S.K.length-x.1) (0,S,s,G) ⟨Bm _,rfl,hK,.nil⟩ ⟨rfl,rfl,rfl,rfl,trivial⟩ .refl ?_;rintro⟨j,S1,s1,L1⟩ ⟨hj,Er,ED,DO⟩;simp only at hj Er ED DO⊢;have G6:CH b p∈AA b p s1 S1 L1:=mR λ_ h=>h;have hs:(List.range (j+1)).foldl (λS j=>dv S t j) S=dv S1 t j:=by rw[Cx,El,<-Er];rfl
 by_cases C7:j<S.K.length
 ·refine Aj ?_;refine EO ?_;unfold dv at hs;obtain⟨u,hu⟩:=ξ (KL S1.U j)
  rw[hu] at hs⊢;by_cases h0:u=t
  ·rw[Ad h0] at hs;refine Aj ?_;refine Gt ?_;intro S2 s2 L2 hS2 Gd F4 Ig;refine Aj ?_;exact BZ (j+1,S2,s2,L2) ⟨by simp only;omega,by simp only;exact hS2.trans hs.symm,Gd,F4.trans DO⟩ (by simp only;omega) ⟨rfl,rfl,rfl,rfl,trivial⟩ .refl
  ·rw[Ab h0] at hs;refine Aj ?_;exact BZ (j+1,S1,s1,L1) ⟨by simp only;omega,by simp only;exact hs.symm,ED,DO⟩ (by simp only;omega) ⟨rfl,rfl,rfl,rfl,trivial⟩ .refl
 ·obtain rfl:j=S.K.length:=by omega
  refine Aj ?_;exact Bd
instance{t:Int}:EK prog F C b p 303 [pV b,ι t] k S k (.tuple #[]) (uv S t):=⟨λs G h=>jT h t⟩
def XZ(S:KT)(t:Int):KT:=uv {S with Q:=(Qu.backQ S.Q t).2} t
theorem px(hK:IsK F C k S p s)(t:Int)(o:Ja)(x y:Ch):Fn prog 220 [O7 b t o x y] (AA b p s S G) (KK F C b p k (iV 0) (XZ S t) G):=by have mr:CH b p∈AA b p s S G:=mR λ_ h=>h;unfold XZ;refine AO func220 ntmps220 λE=>?_;refine AR λb1=>?_;refine CC (Cy [5] 0 6) ?_;refine CG ?_;refine Na ?_;intro S1 s1 L1 Er ED DO G6;rw[<-Er];refine CG ?_;refine Aj ?_;refine Gt ?_;intro S2 s2 L2 hS2 Gd F4 Ig;refine Aj ?_;exact Bd
def gI(n:Int):Int:=if n=0 then 2 else if n=1 then 5 else 8
def Rf(S:KT)(n:Int)(x y:Ch):Int×KT:=
 if ¬FT S x 9\/¬FT S y (gI n) then(8,S)
 else((F7 S.H y ((Ep S x).obj,n) (Ea (Dv S.H.1 y) 7)).1,{S with H:=(F7 S.H y ((Ep S x).obj,n) (Ea (Dv S.H.1 y) 7)).2})
theorem zM(hK:IsK F C (k+1) S p s)(t:Int)(o:Ja)(x y:Ch)(hn:0<=o.n0/\o.n0<=2):Fn prog 221 [O7 b t o x y] (AA b p s S G) (KK F C b p k (iV (Rf S o.n0 x y).1) (Rf S o.n0 x y).2 G):=by
 have mr:CH b p∈AA b p s S G:=mR λ_ h=>h;obtain⟨R,hR⟩:=ξ (Rf S o.n0 x y)
 rw[hR];unfold Rf at hR;obtain⟨n,Qq⟩: ∃n:Nat,o.n0=n:=⟨o.n0.toNat,Af⟩
 have hn3:n<3:=by omega
 have z0:(τ (rp b t o x y))[2+4+(0:Int).toNat*1]?=some (iV o.n0):=rfl;have hv:(τ [iV 2,iV 5,iV 8])[n]?=some (iV (gI o.n0)):=by
  rw[Qq];have:n=0\/n=1\/n=2:=by omega
  rcases this with rfl|rfl|rfl<;>rfl
 refine AO func221 ntmps221 λE=>?_;refine AR λb1=>?_;refine EO (vs:=[O7 b t o x y,Fy x,ι 9]) ?_;obtain⟨c,hc⟩:=ξ (Ep S x)
 rw[hc] at hR⊢;refine AR λb3=>?_;refine CC (Cy [13,14] 0 16) ?_;refine CG ?_;refine Y4 ?_ (FR (zs:=[iV 0,iV 0,iV 0]) (cs:=[iV 2,iV 5,iV 8]) rfl rfl);refine CG ?_;refine Y4 (v:=iV (gI o.n0)) ?_ (by refine XY (m:=n) rfl (by rw[<-Qq];rfl) rfl hn3 hv);obtain⟨w,hw⟩:=ξ (gI o.n0)
 rw[hw] at hR⊢;refine mqa (vs:=[O7 b t o x y,Fy y,ι w]) ?_;obtain⟨d,hd⟩:=ξ (Ep S y)
 rw[hd];refine CG ?_;refine Is e_alloc (by rintro _ _ ⟨_,_,_,rfl⟩ c hc;exact .tail _ hc) ?_;rintro _ _ ⟨b5,_,rfl,rfl⟩;refine CG ?_;by_cases h0:¬FT S x 9\/¬FT S y w
 ·rw[Ad h0] at hR;subst hR;by_cases h1:FT S x 9<;>by_cases h2:FT S y w;all_goals first
   |(exfalso;simp[h1,h2] at h0;done)
   |(simp only[h1,h2,GV,If]
     refine Aj ?_;exact Bd)
 rw[Ab h0] at hR;subst hR;obtain⟨h1,h2⟩:FT S x 9/\FT S y w:=by simpa using h0
 simp only[h1,h2,GV];refine Aj ?_;refine CC (Cy [12] 0 14) ?_;refine CG ?_;obtain⟨z,hz⟩: ∃z:Ch,(c.obj,o.n0)=z:=⟨_,rfl⟩
 try rw[hz] at hR
 try rw[hz]
 refine Na (vs:=[pV p.h,Fy y,Fy z,ι 7]) ?_ (hy:=by subst hz;rfl);intro S1 s1 L1 Er ED DO G6;refine CG ?_;refine Aj ?_;exact Bd
end
def Vw(m e:Int)(n:Nat):List (Int×Int):=(List.range n).map λi:Nat=>(m+(i:Int)*e,m+(i:Int)*e+e)
theorem Z5(m e:Int)(h:i<=n):(Vw m e n).take i=Vw m e i:=by unfold Vw;rw[<-Hm,Hg,EX h]
theorem UW(m e:Int)(n:Nat):Vw m e (n+1)=Vw m e n++[(m+(n:Int)*e,m+(n:Int)*e+e)]:=by unfold Vw;rw[Cx,At];rfl
theorem gJ(m e:Int)(h:i<n):Vw m e i++[(m+(i:Int)*e,m+(i:Int)*e+e)]<+:Vw m e n:=by rw[<-UW,<-Z5 m e (show i+1<=n by omega)];exact BL _ _
abbrev pcV(x:Int×Int):Ap:=[iV x.1,iV x.2]
theorem dy(m e n:Int)(l:Ac):Fn prog 323 [ι m,ι e,ι n] l λv l'=> ∃B3 B4 B5,v= .func (.func 360) #[] #[pV B5,pV B3,pV B4]/\l'=BX B5 n::BX B4 e::BX B3 m::l:=by refine AO func323 ntmps323 λE=>?_;refine AR λb3=>?_;refine AR λb4=>?_;refine AR λb5=>?_;exact Bc .refl ⟨_,_,_,rfl,rfl⟩
theorem Z6(B3 B4 B5:Nat)(m e:Int)(n:Nat)(hm:0<=m/\m<=64)(he:1<=e/\e<=64)(hn:n<=4):
 FN prog 360 [pV B5,pV B3,pV B4] pcV (λxs=>xs=Vw m e n) (λpre=>pre<+:Vw m e n) (λ_ l=>BX B5 n∈l/\BX B4 e∈l/\BX B3 m∈l):=by
 refine⟨λr I Ix G0 Cf hY l G hG h0=>?_⟩;obtain⟨n1,n2,n3⟩:=Cf _ _ G hG h0;refine AO func360 ntmps360 λE=>?_;refine Aj ?_;refine CF (α:=Nat×Ac) (λx=>[(0,.func (.yield r) #[] #[]),(1,pV B5),(2,pV B3),(3,pV B4),(6,ι n),(7,ι x.1)]) (λx=>x.2++G) (λx=>x.1<=n/\I (Vw m e x.1) x.2) (λx=>n-x.1) (0,l) ⟨Bm _,h0⟩ ⟨rfl,rfl,rfl,rfl,rfl,rfl,trivial⟩ .refl ?_;clear n1 n2 n3;rintro⟨k,l⟩ ⟨hk,hI⟩;simp only at hk hI⊢;obtain⟨n1,n2,n3⟩:=Cf _ _ G hG hI;by_cases C7:k<n
 ·have hke:(k:Int)*e<=4*64:=Int.mul_le_mul Af Af Af Af;have hk0:0<=(k:Int)*e:=Int.mul_nonneg Af Af;have hy:=hY (Vw m e k) (m+(k:Int)*e,m+(k:Int)*e+e) l G hG hI (gJ m e C7);refine Aj ?_;refine AP (C8 rfl rfl hy) ?_;rintro v l' ⟨l1,rfl,⟨rfl,Kz⟩|⟨rfl,hx⟩⟩
  ·rw[<-UW] at Kz;refine Aj ?_;exact BZ (k+1,l1) ⟨by simp only;omega,Kz⟩ (by simp only;omega) ⟨rfl,rfl,rfl,rfl,rfl,rfl,trivial⟩ .refl
  ·refine Aj ?_;exact Bc .refl ⟨l1,rfl,.inr ⟨_,gJ m e C7,hx⟩⟩
 ·obtain rfl:k=n:=by omega
  refine Aj ?_;exact Bc .refl ⟨l,rfl,.inl ⟨_,rfl,hI⟩⟩
def I0(t m e n:Int):(A8×Int)×Int:=
 if t<0\/64<t\/m<0\/t<m\/e<1\/64<e\/n<1\/4<n then(([],0),2)
 else if e*n>t-m then(([],0),7)
 else(((Vw m e n.toNat).map Prod.fst,m+n*e),0)
theorem zO{m e:Int}{pre:List (Int×Int)}{x:Int×Int}(h:pre++[x]<+:Vw m e n):x=(m+(pre.length:Int)*e,m+(pre.length:Int)*e+e)/\pre.length<n/\pre=Vw m e pre.length:=by
 have hl:=h.length_le;have hn:(Vw m e n).length=n:=by unfold Vw;simp
 rw[hn,Ah,Bk] at hl;have h2:=I6.1 h;rw[Z5 m e (by simp;omega),Ah,Bk,UW] at h2;obtain⟨h3,h4⟩:=JW h2 rfl;exact⟨by simpa using h4,Af,h3⟩
theorem Agq:((lo++cs)++c::T).Perm (lo++c::(cs++T)):=δ
theorem Adr:(lo++c::(cs++T)).Perm (lo++(cs++c::T)):=δ
theorem jU(t m e n:Int)(l:Ac):Fn prog 283 [ι t,ι m,ι e,ι n] l λv l'=> ∃sl cs,v= .tuple #[sl,iV (I0 t m e n).1.2,iV (I0 t m e n).2]/\OwnSl 3 1 sl (I0 t m e n).1.1.length ((I0 t m e n).1.1.map CU) cs/\l'=cs++l:=by
 obtain⟨R,hR⟩:=ξ (I0 t m e n)
 rw[hR];unfold I0 at hR;refine AO func283 ntmps283 λE=>?_;refine Aj ?_;by_cases h1:t<0
 ·rw[Ad Af] at hR;subst hR;refine Aj ?_;exact CY _ .refl .refl ⟨_,[],rfl,OwnSl.nil _ _,rfl⟩
 by_cases h2:64<t
 ·rw[Ad Af] at hR;subst hR;refine Aj ?_;exact CY _ .refl .refl ⟨_,[],rfl,OwnSl.nil _ _,rfl⟩
 by_cases h3:m<0
 ·rw[Ad Af] at hR;subst hR;refine Aj ?_;exact CY _ .refl .refl ⟨_,[],rfl,OwnSl.nil _ _,rfl⟩
 by_cases h4:t<m
 ·rw[Ad Af] at hR;subst hR;refine Aj ?_;exact CY _ .refl .refl ⟨_,[],rfl,OwnSl.nil _ _,rfl⟩
 by_cases h5:e<1
 ·rw[Ad Af] at hR;subst hR;refine Aj ?_;exact CY _ .refl .refl ⟨_,[],rfl,OwnSl.nil _ _,rfl⟩
 by_cases h6:64<e
 ·rw[Ad Af] at hR;subst hR;refine Aj ?_;exact CY _ .refl .refl ⟨_,[],rfl,OwnSl.nil _ _,rfl⟩
 by_cases h7:n<1
 ·rw[Ad Af] at hR;subst hR;refine Aj ?_;exact CY _ .refl .refl ⟨_,[],rfl,OwnSl.nil _ _,rfl⟩
 by_cases h8:4<n
 ·rw[Ad Af] at hR;subst hR;refine Aj ?_;exact CY _ .refl .refl ⟨_,[],rfl,OwnSl.nil _ _,rfl⟩
 rw[Ab Af] at hR;obtain⟨n,rfl⟩: ∃k:Nat,n=k:=⟨n.toNat,Af⟩
 rw[AV] at hR;have hke:e*(n:Int)<=64*4:=Int.mul_le_mul Af Af Af Af;have hk0:0<=e*(n:Int):=Int.mul_nonneg Af Af;refine Aj ?_;by_cases h9:e*(n:Int)>t-m
 ·rw[Ad h9] at hR;subst hR;refine Aj ?_;exact CY _ .refl .refl ⟨_,[],rfl,OwnSl.nil _ _,rfl⟩
 rw[Ab h9] at hR;subst hR;refine AR λMs=>?_;refine AR λTy=>?_;refine AP (Az rfl rfl (dy m e n _)) ?_;rintro _ _ ⟨B3,B4,B5,rfl,rfl⟩;refine Aj ?_;refine Dj (α:=Int×Int) (ps:=[60,61]) (lb:=[pV B5,pV B3,pV B4]) rfl (Z6 B3 B4 B5 m e n Af Af Af) (λ_=>rfl) rfl
  (λpre l1=> ∃v cs,OwnSl 3 1 v pre.length ((pre.map Prod.fst).map CU) cs/\l1=[BX B5 n,BX B4 e,BX B3 m,BX Ty (m+(pre.length:Int)*e),NY Ms v]++cs) (λ_ _ _=>False)
  [BX B5 n,BX B4 e,BX B3 m,BX Ty m,NY Ms (.slice none 0 0)] l (λpre l1 X hX h=>by obtain⟨v,cs,ho,rfl⟩:=h;exact⟨by simp,by simp,by simp⟩) AY ⟨_,[],OwnSl.nil _ _,by simp⟩ ?_ ?_ λ_ _ _ _ _ h=>h.elim
 ·rintro E r0 Gb pre x l1 T ⟨fn,tmps,D,rfl⟩ hX ⟨v,cs,ho,rfl⟩ DG;obtain⟨rfl,C7,_⟩:=zO DG;refine Eh (.of_perm Agq) ?_;simp only[DY,Ae,Ag];refine Aj ?_;refine CP D1 ?_;refine Eh (.of_perm (Adr (lo:=[BX B5 n,BX B4 e,BX B3 m,BX Ty (m+(pre.length:Int)*e),NY Ms v]))) ?_;simp only[Ae,Ag];obtain⟨w,hw⟩:=ξ (m+(pre.length:Int)*e)
  rw[hw];refine Aj ?_;refine AP (Lq (v:=iV w) rfl rfl) ?_;rintro _ _ ⟨bz,_,rfl,rfl⟩;refine Aj ?_;refine AP (HM (k:=1) (X:=[BX B5 n,BX B4 e,BX B3 m,BX Ty w,NY Ms v]) (cs:=cs) (xs:=(pre.map Prod.fst).map CU) (n:=pre.length) (zs:=[iV 0]) (ws:=[iV w]) rfl rfl rfl ho rfl (by simp[Value.oneCell']) Af A0) ?_;rintro v2 _ ⟨N4,F0,rfl⟩;simp only[Ae,Ag];have o2:=To F0;refine Aj ?_;refine Cn ([BX B5 n,BX B4 e,BX B3 m,BX Ty (w+e),NY Ms v2]++N4) (by exact .refl) ?_;exact⟨v2,N4,by rw[Ah,At,At];exact F0,by
   have:m+((pre.length+1:Nat):Int)*e=m+(pre.length:Int)*e+e:=by rw[Int.natCast_add,Int.add_mul];omega
   rw[Ah,Bk,this,hw];rfl⟩
 ·rintro D xs l1 rfl ⟨v,cs,ho,rfl⟩;have Ef:(Vw m e n).length=n:=by unfold Vw;simp
  rw[Ef] at ho⊢;simp only[Ae,Ag];refine Aj ?_;refine CC (Cy [] 0 5) ?_;refine CG ?_;refine Aj ?_;have hq2:m+(n:Int)*e=m+(n:Int)*e:=rfl;exact AU [D] _ rfl .refl Ba AY ⟨v,cs,rfl,by rw[A5,Ef];exact ho,rfl⟩
def Z7(P:A8)(nd ix:Int)(n:Nat):List (Int×Ch):=(List.range n).map λi:Nat=>(P.getD i 0,(nd,ix+(i:Int)))
theorem Z8(P:A8)(nd ix:Int)(h:i<=n):(Z7 P nd ix n).take i=Z7 P nd ix i:=by unfold Z7;rw[<-Hm,Hg,EX h]
theorem UX(P:A8)(nd ix:Int)(n:Nat):Z7 P nd ix (n+1)=Z7 P nd ix n++[(P.getD n 0,(nd,ix+(n:Int)))]:=by unfold Z7;rw[Cx,At];rfl
theorem gK(P:A8)(nd ix:Int)(h:i<n):Z7 P nd ix i++[(P.getD i 0,(nd,ix+(i:Int)))]<+:Z7 P nd ix n:=by rw[<-UX,<-Z8 P nd ix (show i+1<=n by omega)];exact BL _ _
theorem gM(P:A8)(nd ix:Int)(n:Nat):(Z7 P nd ix n).length=n:=by unfold Z7;simp
theorem py{P:A8}{nd ix:Int}{pre:List (Int×Ch)}{x:Int×Ch}(h:pre++[x]<+:Z7 P nd ix n):x=(P.getD pre.length 0,(nd,ix+(pre.length:Int)))/\pre.length<n/\pre=Z7 P nd ix pre.length:=by have hl:=h.length_le;rw[gM,Ah,Bk] at hl;have h2:=I6.1 h;rw[Z8 P nd ix (by simp;omega),Ah,Bk,UX] at h2;obtain⟨h3,h4⟩:=JW h2 rfl;exact⟨by simpa using h4,Af,h3⟩
abbrev kpV(x:Int×Ch):Ap:=[iV x.1,Fy x.2]
theorem Sr(v:Value)(hv:v.oneCell'=true)(nd ix:Int)(l:Ac):Fn prog 284 [v,ι nd,ι ix] l λv' l'=> ∃B3 B4 B5,v'= .func (.func 324) #[] #[pV B3,pV B4,pV B5]/\l'=BX B5 ix::BX B4 nd::NY B3 v::l:=by refine AO func284 ntmps284 λE=>?_;refine Aj ?_;refine AP (EA rfl hv) ?_;rintro _ _ ⟨b3,_,rfl,rfl⟩;refine AR λb4=>?_;refine AR λb5=>?_;exact Bc .refl ⟨_,_,_,rfl,rfl⟩
theorem Rg(B3 B4 B5 gb cap:Nat)(P:A8)(sp:Ap)(nd ix:Int)(hP:P.length<=4)(hx:0<=ix/\ix<=100):
 FN prog 324 [pV B3,pV B4,pV B5] kpV (λxs=>xs=Z7 P nd ix P.length) (λpre=>pre<+:Z7 P nd ix P.length) (λ_ l=>NY B3 (.slice (some ⟨gb,0,none⟩) P.length cap)∈l/\BX B4 nd∈l/\BX B5 ix∈l/\Od gb P sp∈l):=by
 refine⟨λr I Ix G0 Cf hY l G hG h0=>?_⟩;obtain⟨n1,n2,n3,n4⟩:=Cf _ _ G hG h0;refine AO func324 ntmps324 λE=>?_;refine Aj ?_;refine CF (α:=Nat×Ac) (λx=>[(0,.func (.yield r) #[] #[]),(2,pV B4),(3,pV B5),(7,.slice (some ⟨gb,0,none⟩) P.length cap),(8,ι (P.length:Nat)),(9,ι x.1)]) (λx=>x.2++G) (λx=>x.1<=P.length/\I (Z7 P nd ix x.1) x.2) (λx=>P.length-x.1) (0,l) ⟨Bm _,h0⟩ ⟨rfl,rfl,rfl,rfl,rfl,rfl,trivial⟩ .refl ?_;clear n1 n2 n3 n4;rintro⟨k,l⟩ ⟨hk,hI⟩;simp only at hk hI⊢;obtain⟨n1,n2,n3,n4⟩:=Cf _ _ G hG hI;by_cases C7:k<P.length
 ·have hy:=hY (Z7 P nd ix k) (P.getD k 0,(nd,ix+(k:Int))) l G hG hI (gK P nd ix C7);obtain⟨t,ht⟩:=ξ (P.getD k 0)
  have c0:(τ (P.map CU++sp))[k*1]?=some (ι t):=by rw[Dw,<-ht];exact Sj C7
  rw[ht] at hy;refine Aj ?_;refine AP (C8 (vs:=[iV t,Fy (nd,ix+(k:Int))]) rfl rfl hy) ?_;rintro v l' ⟨l1,rfl,⟨rfl,Kz⟩|⟨rfl,hx⟩⟩
  ·rw[<-ht,<-UX] at Kz;refine Aj ?_;exact BZ (k+1,l1) ⟨by simp only;omega,Kz⟩ (by simp only;omega) ⟨rfl,rfl,rfl,rfl,rfl,rfl,trivial⟩ .refl
  ·rw[<-ht] at hx;refine Aj ?_;exact Bc .refl ⟨l1,rfl,.inr ⟨_,gK P nd ix C7,hx⟩⟩
 ·obtain rfl:k=P.length:=by omega
  refine Aj ?_;exact Bc .refl ⟨l,rfl,.inl ⟨_,rfl,hI⟩⟩
def PA(kind:Int):Int:=if kind=3 then 3 else if kind=8 then 7 else 0
theorem pA(kind:Int):0<=PA kind/\PA kind<=7:=by unfold PA;repeat' split<;>constructor<;>omega
def PX(x:Ch)(kind size first:Int)(S:KT)(q:Int×Ch):KT:=
 {(Ks S kind size (first+q.1)).2 with H:=(It (Ks S kind size (first+q.1)).2.H x q.2 ⟨kind,(Ks S kind size (first+q.1)).1.1,PA kind,0,0,0,0,0⟩).2}
def MA(S:KT)(first:Int):List (Int×Ch)->Int->Option Int
 |[],c=>some c
 |q::r,c=>if ¬(getD' S.H.1 q.2).2=0 then none else MA S first r (if ¬(Ep S q.2).kind=0\/Ar.nextD S.A (first+q.1)=0 then 11 else c)
def dz(S:KT)(x:Ch):Int:=if(Tr.belowD S.H.2 x).length=0 then 0 else(Ar.getD' S.A (Ep S x).obj).1.ma
def NP(S:KT)(o:Ja)(x:Ch):(A8×Int)×Int:=I0 (Ar.getD' S.A (Ep S x).obj).1.fr (dz S x) (Ar.framesD o.n0 o.n1) (o.n2/16)
def dA(S:KT)(o:Ja)(x y:Ch):List (Int×Ch):=Z7 (NP S o x).1.1 (Ep S y).obj (o.n2%16) (NP S o x).1.1.length
def pB(S:KT)(id m:Int):Int×KT:=((Ar.markD' S.A id m).1,{S with A:=(Ar.markD' S.A id m).2})
def GF(S:KT)(o:Ja)(x y:Ch):Int×KT:=
 if ¬FT S x 1\/¬FT S y 2 then(8,S)
 else if ¬(NP S o x).2=0 then((NP S o x).2,S)
 else match MA S (Ar.getD' S.A (Ep S x).obj).1.fi (dA S o x y) 0 with
 |none=>(3,S)
 |some code=>if ¬code=0 then(code,S) else pB ((dA S o x y).foldl (PX x o.n0 o.n1 (Ar.getD' S.A (Ep S x).obj).1.fi) S) (Ep S x).obj (NP S o x).1.2
theorem jV(t m e n:Int)(h:(I0 t m e n).2=0):1<=(I0 t m e n).1.1.length:=by
 unfold I0 Vw at h⊢
 split at h
 ·simp at h
 ·split at h
  ·simp at h
  ·rename_i h1 h2;rw[Ab h1,Ab h2];simp;omega
theorem Z9(S:KT)(fi c:Int)(q:Int×Ch)(r:List (Int×Ch)):MA S fi (q::r) c=if ¬(getD' S.H.1 q.2).2=0 then none else MA S fi r (if ¬(Ep S q.2).kind=0\/Ar.nextD S.A (fi+q.1)=0 then 11 else c):=rfl
theorem jW(t m e n:Int): ∀u,u∈(I0 t m e n).1.1->0<=u/\u<=64:=by
 unfold I0 Vw
 split
 ·simp
 split
 ·simp
 rename_i h1 h2;intro u hu;simp only[CO,Ax,C9] at hu;obtain⟨i,hi,rfl⟩:=hu;simp only[Function.comp];have h3:(i:Int)*e<=n*e:=Int.mul_le_mul_of_nonneg_right Af Af;have h4:0<=(i:Int)*e:=Int.mul_nonneg Af Af;have h5:n*e=e*n:=Int.mul_comm _ _;omega
theorem IsK.obfi(h:IsK F C k S p s)(id:Int):0<=(Ar.getD' S.A id).1.fi/\(Ar.getD' S.A id).1.fi<=64:=by
 have h2:=h.ar.ok.n2;unfold Ar.getD'
 split
 ·rename_i k hk;obtain⟨h3,h4,_⟩:=h.ar.ok.num _ (XK hk);exact⟨h3,by dsimp only;omega⟩
 ·exact⟨by decide,by decide⟩
theorem jX(t m e n:Int):(I0 t m e n).1.1.length<=4:=by
 unfold I0 Vw
 repeat' split
 all_goals simp
 omega
section
variable{Q1:Act->World->Prop}{Q2:Exit->Act->World->Prop}{c:Code}{fr:Fr}{ds:List Deferred}{l:Ac}
theorem Ss{α:Type}(fx:α->Fr)(lx:α->Ac)(pre:α->Prop)(h1:BS P ro N E c (Exit.then (eR N E fx ds lx pre) Q2) fr ds l)(h2: ∀x,pre x->C3 N E (Exit.then Q1 Q2) .normal (fx x) ds (lx x)):BS P ro N E c (Exit.then Q1 Q2) fr ds l:=
 ⟨λa W hf hds hs=>wpIn_mono (h1.run a W hf hds hs) λe a' W' h=>by
   cases e with
   |normal=>obtain⟨y,h3,h4,h5,h6⟩:=h;exact(h2 y h3).run a' W' h4 h5 h6
   |_=>exact h⟩
end
abbrev UY(B:Nat)(x:Int):Bh:=(B,.cells (τ [iV x]) 29 (0,0))
abbrev aa(B:Nat)(o:Ar.ObT):Bh:=(B,.cells (τ (Ar.obC o)) 100 (0,0))
section
instance uw{x y:Ch}{c:CapT}[hc:CW c]:EK prog F C b p 250 [pV p.h,Fy x,Fy y,Vs c] (k+1) S k (iV (It S.H x y c).1) {S with H:=(It S.H x y c).2}:=⟨λs G h=>tu h Af (λn hn=>(hn.child x y c hc.out).mono Af) λn G hn h9=>Us p.h S.H n hn h9 s.H h.ho x y c G⟩
theorem pC(hK:IsK F C (k+8) S p s)(t:Int)(o:Ja)(x y:Ch)(hn:0<=o.n2/\o.n2<=1000):Fn prog 209 [O7 b t o x y] (AA b p s S G) (KK F C b p k (iV (GF S o x y).1) (GF S o x y).2 G):=by
 have mr:CH b p∈AA b p s S G:=mR λ_ h=>h;obtain⟨m9,h91,h92,_,h93⟩:=hK.small;obtain⟨R,hR⟩:=ξ (GF S o x y)
 rw[hR];unfold GF at hR;have z0:(τ (rp b t o x y))[2+4+(0:Int).toNat*1]?=some (iV o.n0):=rfl;have z1:(τ (rp b t o x y))[2+4+(1:Int).toNat*1]?=some (iV o.n1):=rfl;have z2:(τ (rp b t o x y))[2+4+(2:Int).toNat*1]?=some (iV o.n2):=rfl;refine AO func209 ntmps209 λE=>?_;refine AR λb1=>?_;refine AR λb2=>?_;refine EO (vs:=[O7 b t o x y,Fy x,ι 1]) ?_;obtain⟨c,hc⟩:=ξ (Ep S x)
 rw[hc] at hR⊢;refine AR λb3=>?_;refine EO (vs:=[O7 b t o x y,Fy y,ι 2]) ?_;obtain⟨d,hd⟩:=ξ (Ep S y)
 rw[hd];refine AR λb5=>?_;by_cases h0:¬FT S x 1\/¬FT S y 2
 ·rw[Ad h0] at hR;subst hR;by_cases h1:FT S x 1<;>by_cases h2:FT S y 2;all_goals first
   |(exfalso;simp[h1,h2] at h0;done)
   |(simp only[h1,h2,GV,If]
     refine Aj ?_;exact Bd)
 rw[Ab h0] at hR;obtain⟨h1,h2⟩:FT S x 1/\FT S y 2:=by simpa using h0
 simp only[h1,h2,GV];refine Aj ?_;refine CC (Cy [9,10] 0 12) ?_;refine CG ?_;obtain⟨ob,aM⟩:=ξ ((Ar.getD' S.A c.obj).1)
 obtain⟨okb,hokb⟩: ∃k,(Ar.getD' S.A c.obj).2=k:=⟨_,rfl⟩
 rw[aM] at hR;rw[aM,hokb];refine Is e_alloc (by rintro _ _ ⟨_,_,_,rfl⟩ c hc;exact .tail _ hc) ?_;rintro _ _ ⟨b7,_,rfl,rfl⟩;refine CG ?_;refine Aj ?_;refine CC (Cy [5] 0 8) ?_;refine CG ?_;refine LP (Az rfl rfl (Uw p.h S.H s.H hK.ho Af x _ λy hy=> .tail _ (.tail _ (.tail _ (.tail _ (.tail _ (mH (λ_ h=>h) y hy))))))) ?_ rfl rfl;rintro sl _ ⟨cb,hob2,rfl⟩;obtain⟨pp,cap,rfl⟩:=hob2.shape;refine CG ?_;refine Aj ?_;obtain⟨mk,kP⟩: ∃m,dz S x=m:=⟨_,rfl⟩
 have Afl:=kP;unfold dz at kP;rw[hc,aM] at kP;refine Ss (α:=Unit) (λ_=>[(1,pV b1),(2,pV b2),(3,pV b3),(5,pV b5),(7,pV b7),(9,iV mk)]) (λ_=>[aa b7 ob,Bw b5 d,Bw b3 c,UY b2 0,Yw b1 b t o x y]++AA b p s S G) (λ_=>True) ?_ ?_
 ·by_cases hl:(Tr.belowD S.H.2 x).length=0
  ·rw[Ad hl] at kP;subst kP;refine Aj ?_;exact EM () trivial ⟨rfl,rfl,rfl,rfl,rfl,rfl,trivial⟩ (Keep.dropL' cb .refl)
  ·rw[Ab hl] at kP;subst kP;refine Aj ?_;exact EM () trivial ⟨rfl,rfl,rfl,rfl,rfl,rfl,trivial⟩ (Keep.dropL' cb .refl)
 rintro- -;simp only[Ae,Ag];refine Aj ?_;refine Ss (α:=Nat×Nat) (λz=>[(1,pV b1),(2,pV b2),(3,pV b3),(5,pV b5),(7,pV b7),(9,iV mk),(10,pV z.1),(11,pV z.2),(12,iV (o.n2%16))]) (λz=>[BX z.1 o.n0,BX z.2 o.n1,aa b7 ob,Bw b5 d,Bw b3 c,UY b2 0,Yw b1 b t o x y]++AA b p s S G) (λ_=>True) ?_ ?_
 ·refine L7 [(0,true),(1,true),(2,true),(3,true),(4,true),(5,true),(6,true),(7,true),(8,true),(9,true),(10,true),(11,true),(12,true),(13,false),(14,false),(15,false),(16,false),(17,true)] [[],[0],[0,1],[0,1,2],[],[4],[4,5],[4,5,6],[],[8],[8,9],[8,9,10],[8,9,10,11],[],[],[0,1,2,3,13,14],[0,1,2,3,4,5,6,7,13,14,15],[0,1,2,3,4,5,6,7,8,9,10,11,12,13,14,15,16]] 13 14 ([Yw b1 b t o x y]) Bu Bu GO ((UV Ca)) ?_;refine BJ ?_;refine Oz [(14,false),(13,false),(15,false),(16,false),(17,true)] GO (List.Perm.swap _ _ _) Bu ?_ ?_;all_goals
   refine CX e_alloc rfl rfl rfl ?_ ?_
   ·rintro _ _ ⟨_,_,_,rfl⟩ c hc;exact .tail _ (UV Ca c hc)
   rintro _ _ ⟨u,_,rfl,rfl⟩;refine CX e_alloc rfl rfl rfl ?_ ?_
   ·rintro _ _ ⟨_,_,_,rfl⟩ c hc;exact .tail _ (UV Ca c hc)
   rintro _ _ ⟨v,_,rfl,rfl⟩;refine BJ ?_
   first
    |exact EM (u,v) trivial ⟨rfl,rfl,rfl,rfl,rfl,rfl,rfl,rfl,rfl,trivial⟩ (.of_perm (.swap _ _ _))
    |exact EM (v,u) trivial ⟨rfl,rfl,rfl,rfl,rfl,rfl,rfl,rfl,rfl,trivial⟩ .refl
 rintro⟨GW,Ms⟩-;simp only[Ae,Ag];refine Aj ?_;refine CC (Cy [11] 0 19) ?_;refine CG ?_;refine LP (Az rfl rfl (jU ob.fr mk (Ar.framesD o.n0 o.n1) (o.n2/16) _)) ?_ rfl rfl;rintro _ _ ⟨sl,cs,rfl,OR,rfl⟩;obtain⟨cv,hcv⟩:=ξ (I0 ob.fr mk (Ar.framesD o.n0 o.n1) (o.n2/16))
 have hcr:NP S o x=cv:=by unfold NP;rw[hc,aM,Afl];exact hcv
 have hcp:=jV ob.fr mk (Ar.framesD o.n0 o.n1) (o.n2/16);have N5:=jX ob.fr mk (Ar.framesD o.n0 o.n1) (o.n2/16);rw[hcv] at OR hcp N5⊢;unfold dA at hR;rw[hcr] at hR;refine CG ?_;refine Aj ?_;by_cases h3:cv.2=0
 case neg=>rw[Ad h3] at hR;subst hR;refine Eh (Keep.dropL' cs .refl) ?_;refine Aj ?_;exact Bd
 rw[Ab (λh=>h h3),hd] at hR;have AbV:=hcp h3;obtain⟨P,hP⟩:=ξ cv.1.1
 obtain⟨en,hen⟩: ∃e,cv.1.2=e:=⟨_,rfl⟩
 rw[hP] at OR N5 AbV hR;rw[hen] at hR;try rw[hen]
 obtain⟨gb,cap2,sp,rfl,rfl⟩:=NO OR AbV;simp only[Ae,Ag];refine AR λQt=>?_;refine AP (Az rfl rfl (Sr _ rfl d.obj (o.n2%16) _)) ?_;rintro _ _ ⟨B3,B4,B5,rfl,rfl⟩;refine Aj ?_;have hfi:=hK.obfi c.obj;rw[aM] at hfi;have hPr: ∀u,u∈P->0<=u/\u<=64:=by rw[<-hP,<-hcv];exact jW _ _ _ _
 refine US (F:=F) (C:=C) (b:=b) (p:=p) (G:=G) (α:=Int×Ch) (ps:=[102,103]) (lb:=[pV B3,pV B4,pV B5]) rfl (Rg B3 B4 B5 gb cap2 P sp d.obj (o.n2%16) N5 ⟨Af,Af⟩) (λ_=>rfl) rfl
  (λpre k' S' lo=>k'=k+8/\S=S'/\ ∃ca,(∀r,MA S ob.fi (pre++r) 0=MA S ob.fi r ca)/\lo=[BX B5 (o.n2%16),BX B4 d.obj,NY B3 (.slice (some ⟨gb,0,none⟩) P.length cap2),UY Qt ca,Od gb P sp,BX GW o.n0,BX Ms o.n1,aa b7 ob,Bw b5 d,Bw b3 c,UY b2 0,Yw b1 b t o x y])
  (λc' pre k' S' lo=>c'= .ret/\k'=k+8/\S=S'/\(∀r,MA S ob.fi (pre++r) 0=none)/\ ∃ca:Int,lo=[BX B5 (o.n2%16),BX B4 d.obj,NY B3 (.slice (some ⟨gb,0,none⟩) P.length cap2),UY Qt ca,Od gb P sp,BX GW o.n0,BX Ms o.n1,aa b7 ob,Bw b5 d,Bw b3 c,UY b2 3,Yw b1 b t o x y])
  (λpre lo k S s L X h hK=>by obtain⟨_,_,_,_,rfl⟩:=h;exact⟨by simp,by simp,by simp,by simp⟩)
  (.refl:Keep _ ([BX B5 (o.n2%16),BX B4 d.obj,NY B3 (.slice (some ⟨gb,0,none⟩) P.length cap2),UY Qt 0,Od gb P sp,BX GW o.n0,BX Ms o.n1,aa b7 ob,Bw b5 d,Bw b3 c,UY b2 0,Yw b1 b t o x y]++AA b p s S G)) ⟨rfl,rfl,0,λ_=>rfl,rfl⟩ hK ?_ ?_ ?_
 ·rintro E r0 Gb pre ⟨fp,si,sj⟩ lo k' S' s' L T ⟨fn,tmps,D,rfl⟩ hT ⟨rfl,rfl,ca,hca,rfl⟩ hK' DG mr';obtain⟨hq,C7,Gx⟩:=py DG;have hfp:0<=fp/\fp<=64:=by
   have e1:fp=P.getD pre.length 0:=BM Prod.fst hq;rw[e1];exact hPr _ (by rw[List.getD,Ak C7];exact Ib C7)
  have LF: ∀r,MA S ob.fi ((pre++[(fp,(si,sj))])++r) 0=if ¬(getD' S.H.1 (si,sj)).2=0 then none else MA S ob.fi r (if ¬(Ep S (si,sj)).kind=0\/Ar.nextD S.A (ob.fi+fp)=0 then 11 else ca):=λr=>by rw[Am,Ce,hca,Z9]
  obtain⟨hh,hhh⟩: ∃c,(getD' S.H.1 (si,sj)).1=c:=⟨_,rfl⟩
  obtain⟨e,he⟩:=ξ ((getD' S.H.1 (si,sj)).2)
  rw[he,show Ep S (si,sj)=hh from hhh] at LF;simp only[DY,Ae,Ag];refine AR λlN=>?_;refine CP D1 ?_;refine Aj ?_;refine CC (Cy [8,9] 0 11) ?_;refine CG ?_;rw[hhh,he];refine Is e_alloc (by rintro _ _ ⟨_,_,_,rfl⟩ c hc;exact .tail _ hc) ?_;rintro _ _ ⟨vW,_,rfl,rfl⟩;refine CG ?_;refine Aj ?_;by_cases h5:e=0
  case neg=>refine Aj ?_;exact tY ([BX B5 (o.n2%16),BX B4 d.obj,NY B3 (.slice (some ⟨gb,0,none⟩) P.length cap2),UY Qt ca,Od gb P sp,BX GW o.n0,BX Ms o.n1,aa b7 ob,Bw b5 d,Bw b3 c,UY b2 3,Yw b1 b t o x y]) AY ⟨rfl,rfl,rfl,λr=>by rw[LF,Ad h5],ca,rfl⟩
  refine Aj ?_;obtain⟨nx,W8⟩: ∃v,Ar.nextD S.A (ob.fi+fp)=v:=⟨_,rfl⟩
  rw[W8] at LF;by_cases h6:hh.kind=0
  case' pos=>
   refine Ct [] 15 _ ?_ (hR:=(λ_ h=>h));refine BJ ?_;refine Wb ?_;refine BJ ?_;refine Wb ?_;rw[W8];refine BJ ?_;refine Aj ?_;by_cases h7:nx=0
   case' pos=>
    refine Aj ?_;exact jG ([BX B5 (o.n2%16),BX B4 d.obj,NY B3 (.slice (some ⟨gb,0,none⟩) P.length cap2),UY Qt 11,Od gb P sp,BX GW o.n0,BX Ms o.n1,aa b7 ob,Bw b5 d,Bw b3 c,UY b2 0,Yw b1 b t o x y]) AY ⟨rfl,rfl,11,λr=>by rw[LF,Ab (λh=>h h5),Ad (.inr h7)],rfl⟩
   case' neg=>
    refine Aj ?_;exact jG ([BX B5 (o.n2%16),BX B4 d.obj,NY B3 (.slice (some ⟨gb,0,none⟩) P.length cap2),UY Qt ca,Od gb P sp,BX GW o.n0,BX Ms o.n1,aa b7 ob,Bw b5 d,Bw b3 c,UY b2 0,Yw b1 b t o x y]) AY ⟨rfl,rfl,ca,λr=>by rw[LF,Ab (λh=>h h5),Ab (by rintro(h|h);exact h h6;exact h7 h)],rfl⟩
  case' neg=>
   refine Ct [] 15 _ ?_ (hR:=(λ_ h=>h));refine BJ ?_;refine Aj ?_;exact jG ([BX B5 (o.n2%16),BX B4 d.obj,NY B3 (.slice (some ⟨gb,0,none⟩) P.length cap2),UY Qt 11,Od gb P sp,BX GW o.n0,BX Ms o.n1,aa b7 ob,Bw b5 d,Bw b3 c,UY b2 0,Yw b1 b t o x y]) AY ⟨rfl,rfl,11,λr=>by rw[LF,Ab (λh=>h h5),Ad (.inl h6)],rfl⟩
 case' refine_3=>
  rintro D c' pre lo k' S' s' L ⟨r,hr⟩ ⟨rfl,rfl,rfl,hcn,ca,rfl⟩ ED DO G6;have hrc:=hcn r;rw[hr] at hrc;rw[hrc] at hR;dsimp only at hR;subst hR;simp only[Ae,Ag];refine Aj ?_;exact AU [D] _ rfl .refl Ba (Keep.dropL' [BX B5 (o.n2%16),BX B4 d.obj,NY B3 (.slice (some ⟨gb,0,none⟩) P.length cap2),UY Qt ca,Od gb P sp,BX GW o.n0,BX Ms o.n1,aa b7 ob,Bw b5 d,Bw b3 c,UY b2 3,Yw b1 b t o x y] .refl) ⟨rfl,s',L,ED.mono Af,DO,rfl⟩
 rintro D xs lo k' S' s' L rfl ⟨rfl,rfl,ca,hca,rfl⟩ ED DO G6;have hrc:=hca [];rw[Bj] at hrc;rw[hrc] at hR;unfold MA at hR;dsimp only at hR;simp only[Ae,Ag];refine Aj ?_;by_cases h8:ca=0
 case neg=>rw[Ad h8] at hR;subst hR;refine Aj ?_;exact AU [D] _ rfl .refl Ba (Keep.dropL' [BX B5 (o.n2%16),BX B4 d.obj,NY B3 (.slice (some ⟨gb,0,none⟩) P.length cap2),UY Qt ca,Od gb P sp,BX GW o.n0,BX Ms o.n1,aa b7 ob,Bw b5 d,Bw b3 c,UY b2 ca,Yw b1 b t o x y] .refl) ⟨rfl,s',L,ED.mono Af,DO,rfl⟩
 rw[Ab (λh=>h h8)] at hR;refine Aj ?_;refine AP (Az rfl rfl (Sr _ rfl d.obj (o.n2%16) _)) ?_;rintro _ _ ⟨B6,B7,B8,rfl,rfl⟩;refine Aj ?_;refine US (F:=F) (C:=C) (b:=b) (p:=p) (G:=L) (α:=Int×Ch) (ps:=[138,139]) (lb:=[pV B6,pV B7,pV B8]) (lo:=[BX B8 (o.n2%16),BX B7 d.obj,NY B6 (.slice (some ⟨gb,0,none⟩) P.length cap2),Od gb P sp,Cv D,BX GW o.n0,BX Ms o.n1,aa b7 ob,Bw b3 c,Bw b5 d,UY b2 0,Yw b1 b t o x y]) (s:=s') (S:=S) rfl (Rg B6 B7 B8 gb cap2 P sp d.obj (o.n2%16) N5 ⟨Af,Af⟩) (λ_=>rfl) rfl
  (λpre k' S' lo=>k'+2*pre.length=k+8/\S'=pre.foldl (PX x o.n0 o.n1 ob.fi) S/\lo=[BX B8 (o.n2%16),BX B7 d.obj,NY B6 (.slice (some ⟨gb,0,none⟩) P.length cap2),Od gb P sp,Cv D,BX GW o.n0,BX Ms o.n1,aa b7 ob,Bw b3 c,Bw b5 d,UY b2 0,Yw b1 b t o x y])
  (λ_ _ _ _ _=>False)
  (λpre lo k S s L X h hK=>by obtain⟨_,_,rfl⟩:=h;exact⟨by simp,by simp,by simp,by simp⟩)
  AY ⟨rfl,rfl,rfl⟩ ED ?_ ?_ (λ_ _ _ _ _ _ _ _ _ h=>h.elim)
 ·rintro E r0 Gb pre ⟨fp,si,sj⟩ lo k' S' s2 L2 T ⟨fn,tmps,D2,rfl⟩ hT ⟨lB,lz,rfl⟩ hK' DG mr';obtain⟨hq,C7,Gx⟩:=py DG;have hfp:0<=fp/\fp<=64:=by
   have e1:fp=P.getD pre.length 0:=BM Prod.fst hq;rw[e1];exact hPr _ (by rw[List.getD,Ak C7];exact Ib C7)
  obtain⟨k2,rfl⟩: ∃j,k'=j+2:=⟨k'-2,Af⟩
  simp only[DY,Ae,Ag];refine AR λb22=>?_;refine CP D1 ?_;refine Aj ?_;refine Gt ?_;intro S1 s1 L1 Er hK1' hT1' mr1';obtain⟨id,Vp⟩: ∃i,(Ks S' o.n0 o.n1 (ob.fi+fp)).1.1=i:=⟨_,rfl⟩
  rw[Vp];refine AR λb25=>?_;obtain⟨rg,hrg⟩: ∃r,PA o.n0=r:=⟨_,rfl⟩
  have Afn:=hrg;have hrr:=pA o.n0;rw[hrg] at hrr;have hcw:CW ⟨o.n0,id,rg,0,0,0,0,0⟩:=⟨by constructor<;>dsimp only<;>omega⟩
  unfold PA at hrg;by_cases h9:o.n0=3
  case' pos=>
   rw[Ad h9] at hrg;refine Aj ?_
  case' neg=>
   rw[Ab h9] at hrg;refine Aj ?_;by_cases VA:o.n0=8
   case' pos=>
    rw[Ad VA] at hrg;refine Aj ?_
   case' neg=>
    rw[Ab VA] at hrg;refine Aj ?_
  all_goals
   refine CC (Cy [7] 0 8) ?_;refine CG ?_;refine Na (vs:=[pV p.h,Fy x,Fy (si,sj),Vs ⟨o.n0,id,rg,0,0,0,0,0⟩]) ?_ (hy:=by rw[<-hrg];rfl) (q:=uw (x:=x) (y:=(si,sj)) (c:=⟨o.n0,id,rg,0,0,0,0,0⟩));intro S2 s3 L3 hS2 Gd F4 Ig;refine CG ?_;refine Aj ?_;exact jG (k:=k2) ([BX B8 (o.n2%16),BX B7 d.obj,NY B6 (.slice (some ⟨gb,0,none⟩) P.length cap2),Od gb P sp,Cv D,BX GW o.n0,BX Ms o.n1,aa b7 ob,Bw b3 c,Bw b5 d,UY b2 0,Yw b1 b t o x y]) AY ⟨by rw[Ah,Bk];omega,by rw[El,Ev,GJ,<-lz];unfold PX;rw[Vp,Afn,<-Er];exact hS2,rfl⟩
 rintro D2 xs lo k' S' s2 L2 rfl ⟨lB,lz,rfl⟩ Gd F4 Ig;rw[gM] at lB;simp only[Ae,Ag];have kR:pB S' c.obj en=R:=by rw[lz];exact hR
 unfold pB at kR;refine Aj ?_;refine CC (Cy [6,7] 0 8) ?_;refine CG ?_;simp only[AN,AL,AX];refine Na ?_;intro S3 s3 L3 hS3 M8 Lo Qv;rw[<-hS3] at kR;refine CG ?_;refine Aj ?_;subst kR;exact AU [D2,D] _ rfl AY Ba (.drop (.drop (.drop (.drop (.drop χ))))) ⟨rfl,s3,L3,M8.mono Af,Lo.trans (F4.trans DO),rfl⟩
end
section
def K9(S:KT)(n:Int)(x:Ch):Int×KT:=if ¬FT S x 9 then(8,S) else((Oe S ((Ep S x).obj,n)).1.2,(Oe S ((Ep S x).obj,n)).2)
def La(S:KT)(x:Ch):Int×KT:=if ¬FT S x 9 then(8,S) else if ¬(DJ S (Ep S x).obj).st=0 then(16,S) else O1 S (Ep S x).obj 1
def JG(S:KT)(x:Ch):Int×KT:=if ¬FT S x 9 then(8,S) else I9 S (Ep S x).obj
def gN(S:KT)(id pr:Int):KT:=if(Qu.dropQ S.Q id).1=true then{S with Q:=(Qu.addQ (Qu.dropQ S.Q id).2 id pr).2} else{S with Q:=(Qu.dropQ S.Q id).2}
def Rh(S:KT)(n:Int)(x:Ch):Int×KT:=
 if ¬FT S x 9 then(8,S) else(0,gN (DZ S {DJ S (Ep S x).obj with pr:=n}) (DJ S (Ep S x).obj).id n)
theorem pD(hK:IsK F C k S p s)(t:Int)(o:Ja)(x y:Ch):Fn prog 222 [O7 b t o x y] (AA b p s S G) (KK F C b p k (iV (K9 S o.n0 x).1) (K9 S o.n0 x).2 G):=by
 have mr:CH b p∈AA b p s S G:=mR λ_ h=>h;obtain⟨R,hR⟩:=ξ (K9 S o.n0 x)
 rw[hR];unfold K9 at hR;have z0:(τ (rp b t o x y))[2+4+(0:Int).toNat*1]?=some (iV o.n0):=rfl;refine AO func222 ntmps222 λE=>?_;refine AR λb1=>?_;refine EO (vs:=[O7 b t o x y,Fy x,ι 9]) ?_;obtain⟨c,hc⟩:=ξ (Ep S x)
 rw[hc] at hR⊢;refine AR λb3=>?_;by_cases h1:FT S x 9
 case neg=>rw[Ad h1] at hR;subst hR;simp only[h1,If];refine Aj ?_;exact Bd
 rw[Ab (λh=>h h1)] at hR;simp only[h1,GV];refine Aj ?_;obtain⟨z,hz⟩: ∃z:Ch,(c.obj,o.n0)=z:=⟨_,rfl⟩
 rw[hz] at hR;refine Gt (vs:=[pV b,Fy z]) ?_ (hy:=by subst hz;rfl);intro S1 s1 L1 Er ED DO G6;refine Aj ?_;subst hR;exact Bd
theorem pE(hK:IsK F C (k+1) S p s)(t:Int)(o:Ja)(x y:Ch):Fn prog 223 [O7 b t o x y] (AA b p s S G) (KK F C b p k (iV (La S x).1) (La S x).2 G):=by
 have mr:CH b p∈AA b p s S G:=mR λ_ h=>h;obtain⟨R,hR⟩:=ξ (La S x)
 rw[hR];unfold La at hR;refine AO func223 ntmps223 λE=>?_;refine AR λb1=>?_;refine EO (vs:=[O7 b t o x y,Fy x,ι 9]) ?_;obtain⟨c,hc⟩:=ξ (Ep S x)
 rw[hc] at hR⊢;refine AR λb3=>?_;by_cases h1:FT S x 9
 case neg=>rw[Ad h1] at hR;subst hR;simp only[h1,If];refine Aj ?_;exact Bd
 rw[Ab (λh=>h h1)] at hR;simp only[h1,GV];refine Aj ?_;refine CC (Cy [9,10] 0 12) ?_;refine CG ?_;obtain⟨u,hu⟩:=ξ (DJ S c.obj)
 rw[hu] at hR⊢;refine Is e_alloc (by rintro _ _ ⟨_,_,_,rfl⟩ c hc;exact .tail _ hc) ?_;rintro _ _ ⟨b5,_,rfl,rfl⟩;refine CG ?_;by_cases h2:u.st=0
 case neg=>rw[Ad h2] at hR;subst hR;refine Aj ?_;exact Bd
 rw[Ab (λh=>h h2)] at hR;refine Aj ?_;refine Gt ?_;intro S1 s1 L1 Er ED DO G6;refine Aj ?_;subst hR;exact Bd
theorem jY(hK:IsK F C k S p s)(t:Int)(o:Ja)(x y:Ch):Fn prog 224 [O7 b t o x y] (AA b p s S G) (KK F C b p k (iV (JG S x).1) (JG S x).2 G):=by
 have mr:CH b p∈AA b p s S G:=mR λ_ h=>h;obtain⟨R,hR⟩:=ξ (JG S x)
 rw[hR];unfold JG at hR;refine AO func224 ntmps224 λE=>?_;refine AR λb1=>?_;refine EO (vs:=[O7 b t o x y,Fy x,ι 9]) ?_;obtain⟨c,hc⟩:=ξ (Ep S x)
 rw[hc] at hR⊢;refine AR λb3=>?_;by_cases h1:FT S x 9
 case neg=>rw[Ad h1] at hR;subst hR;simp only[h1,If];refine Aj ?_;exact Bd
 rw[Ab (λh=>h h1)] at hR;simp only[h1,GV];refine Aj ?_;refine Gt ?_;intro S1 s1 L1 Er ED DO G6;refine Aj ?_;subst hR;exact Bd
theorem zP(hK:IsK F C (k+1) S p s)(t:Int)(o:Ja)(x y:Ch):Fn prog 225 [O7 b t o x y] (AA b p s S G) (KK F C b p k (iV (Rh S o.n0 x).1) (Rh S o.n0 x).2 G):=by
 have mr:CH b p∈AA b p s S G:=mR λ_ h=>h;obtain⟨R,hR⟩:=ξ (Rh S o.n0 x)
 rw[hR];unfold Rh gN at hR;have z0:(τ (rp b t o x y))[2+4+(0:Int).toNat*1]?=some (iV o.n0):=rfl;refine AO func225 ntmps225 λE=>?_;refine AR λb1=>?_;refine EO (vs:=[O7 b t o x y,Fy x,ι 9]) ?_;obtain⟨c,hc⟩:=ξ (Ep S x)
 rw[hc] at hR⊢;refine AR λb3=>?_;by_cases h1:FT S x 9
 case neg=>rw[Ad h1] at hR;subst hR;simp only[h1,If];refine Aj ?_;exact Bd
 rw[Ab (λh=>h h1)] at hR;simp only[h1,GV];refine Aj ?_;refine CC (Cy [9,10] 0 12) ?_;refine CG ?_;have JL:=hK.tO c.obj;obtain⟨u,hu⟩:=ξ (DJ S c.obj)
 rw[hu] at hR JL⊢;refine Is e_alloc (by rintro _ _ ⟨_,_,_,rfl⟩ c hc;exact .tail _ hc) ?_;rintro _ _ ⟨b5,_,rfl,rfl⟩;refine CG ?_;refine Aj ?_;refine CC (Cy [4] 0 5) ?_;refine CG ?_;refine Na (q:=O2 {u with pr:=o.n0} ⟨JL.out⟩) ?_;intro S1 s1 L1 Er ED DO G6;rw[show DZ S {u with pr:=o.n0}=S1 from Er.symm] at hR;refine CG ?_;refine Aj ?_;refine CC (Cy [5] 0 6) ?_;refine CG ?_;refine Na ?_;intro S2 s2 L2 hS2 Gd F4 Ig;rw[<-hS2] at hR;obtain⟨q,hq⟩:=ξ ((Qu.dropQ S1.Q u.id).1)
 rw[hq] at hR⊢;have eQ:(Qu.dropQ S1.Q u.id).2=S2.Q:=by rw[hS2]
 rw[eQ] at hR;refine CG ?_;cases q with
 |false=>rw[Ab A0] at hR;refine Aj ?_;subst hR;exact Bd
 |true=>
 rw[Ad rfl] at hR;refine Aj ?_;refine CC (Cy [7] 0 8) ?_;refine CG ?_;refine Na ?_;intro S3 s3 L3 hS3 M8 Lo Qv;refine CG ?_;refine Aj ?_;subst hR;have hS:S3={S1 with Q:=(Qu.addQ S2.Q u.id o.n0).2}:=by rw[hS3,hS2]
 exact Bd
end
section
instance{t u:Th.ThT}[ht:AD t.gv][hu:AD u.inn]:EK prog F C b p 318 [pV b,Th.thV t,Th.thV u] (k+1) S k (.bool (Re S t u).1) (Re S t u).2:=⟨λs G h=>uo h t u ht hu⟩
theorem zQ(S:KT)(t u:Th.ThT):(Re S t u).2.T=S.T:=by unfold Re;(repeat' split)<;>rfl
theorem wV{S':KT}(h:S'.T=S.T)(id:Int):DJ S' id=DJ S id:=by unfold DJ;rw[h]
abbrev wW(id:Int)(m:O5)(bd:Int)(got:Bool):NoT:=⟨id,0,0,m,bd,got,0,0,false⟩
def Ku(S:KT)(t:Th.ThT)(id:Int)(m:O5)(bd:Int):NoT×KT:=
 (wW id m bd (Re S t (DJ S id)).1,DZ (Re S t (DJ S id)).2 (wU m bd (Re S t (DJ S id)).1 (DJ S id)))
theorem pF(hK:IsK F C (k+1) S p s)(t:Th.ThT)(id:Int)(m:O5)(bd:Int)[ht:AD t.gv]:Fn prog 269 [pV b,Th.thV t,ι id,rm m,Bb bd] (AA b p s S G) (KK F C b p k (gB (Ku S t id m bd).1) (Ku S t id m bd).2 G):=by
 have mr:CH b p∈AA b p s S G:=mR λ_ h=>h;have hu:AD (DJ S id).inn:=⟨by have:=hK.tG id;omega⟩
 have JL:=hK.tO id;obtain⟨R,hR⟩:=ξ (Ku S t id m bd)
 rw[hR];unfold Ku at hR;refine AO func269 ntmps269 λE=>?_;refine AR λb6=>?_;refine AR λb8=>?_;refine AR λb9=>?_;refine AR λGW=>?_;refine EO ?_;refine Aj ?_;refine EO ?_;obtain⟨u,hu1⟩:=ξ (DJ S id)
 rw[hu1] at hR hu JL⊢;refine AR λMs=>?_;refine Gt ?_;intro S1 s1 L1 Er ED DO G6;have e1:DJ S1 id=u:=by rw[Er,wV (zQ _ _ _),hu1]
 obtain⟨q,hq⟩:=ξ (Re S t u)
 rw[hq] at hR Er⊢;rw[<-Er] at hR;obtain⟨got,hgot⟩: ∃g,q.1=g:=⟨_,rfl⟩
 rw[hgot] at hR⊢;refine AR λQs=>?_;refine VN (id:=id) (pf b8 b9 Qs m bd got) ⟨by rw[e1];exact JL.out⟩ ?_;intro S2 s2 L2 hS2 Gd F4 Ig;rw[e1] at hS2⊢;refine Aj ?_;subst hR;exact Bd (h:=B0 rfl ω (As.LSub.of_all (n:=12) (R4 (wW id m bd got)) rfl) .nil)
instance{t:Th.ThT}{id:Int}{m:O5}{bd:Int}[ht:AD t.gv]:EK prog F C b p 269 [pV b,Th.thV t,ι id,rm m,Bb bd] (k+1) S k (gB (Ku S t id m bd).1) (Ku S t id m bd).2:=⟨λs G h=>pF h t id m bd⟩
def Lb(S:KT)(u:Int):KT:=if(DJ S u).ca=0 then S else(I9 S (DJ S u).ca).2
def Ql(S:KT)(t u:Int):KT:=(O1 (DZ (Lb S u) {DJ (Lb S u) u with ca:=t}) t 4).2
theorem ux(hK:IsK F C k S p s)(t u:Int):Fn prog 271 [pV b,ι t,ι u] (AA b p s S G) (KK F C b p k (.tuple #[]) (Ql S t u) G):=by
 have mr:CH b p∈AA b p s S G:=mR λ_ h=>h;obtain⟨R,hR⟩:=ξ (Ql S t u)
 rw[hR];unfold Ql at hR;refine AO func271 ntmps271 λE=>?_;refine AR λb4=>?_;refine EO ?_;refine Aj ?_;refine EO ?_;obtain⟨x,hx⟩:=ξ (DJ S u)
 rw[hx];refine AR λb6=>?_;by_cases h0:x.ca=0
 ·rw[show Lb S u=S by unfold Lb;rw[hx,Ad h0]] at hR;refine Aj ?_;have JL:=hK.tO u;refine VN (id:=u) (WN b4 t) ⟨JL.out⟩ ?_;intro S2 s2 L2 hS2 Gd F4 Ig;rw[<-hS2] at hR;refine Aj ?_;refine Gt ?_;intro S3 s3 L3 hS3 M8 Lo Qv;refine Aj ?_;exact Bd
 ·refine Aj ?_;refine Gt ?_;intro S1 s1 L1 Er ED DO G6;rw[show Lb S u=S1 by unfold Lb;rw[hx,Ab h0,Er]] at hR;refine Aj ?_;have JL:=ED.tO u;refine VN (id:=u) (WN b4 t) ⟨JL.out⟩ ?_;intro S2 s2 L2 hS2 Gd F4 Ig;rw[<-hS2] at hR;refine Aj ?_;refine Gt ?_;intro S3 s3 L3 hS3 M8 Lo Qv;refine Aj ?_;exact Bd
instance{t u:Int}:EK prog F C b p 271 [pV b,ι t,ι u] k S k (.tuple #[]) (Ql S t u):=⟨λs G h=>ux h t u⟩
end
section
theorem O8{l:Ac}:(l++(lo++AA b p s S G)).Perm (lo++AA b p s S (l++G)):=by unfold AA;exact δ
theorem Iu{l:Ac}:(lo++AA b p s S (X++(l++G))).Perm (l++(lo++AA b p s S (X++G))):=by unfold AA;exact δ
theorem UZ{t a:Int}(h:(HX S t a).2=0):(HX S t a).1=DJ S t/\Mw S t=true/\(DJ S t).st=1/\0<=a/\a<=4096:=by
 unfold HX at h⊢
 split at h
 ·cases h
 ·rename_i h1;rw[Ab h1];simp only[not_or] at h1;exact⟨rfl,by cases hx:Mw S t;exact absurd hx h1.1;rfl,Decidable.not_not.1 h1.2.1,Af,Af⟩
def sendH(S:KT)(x:Th.ThT)(t u:Int)(m:O5)(bd:Int)(cl:Bool):List NoT×KT:=
 if cl=true then([(Ku {S with E:=(En.removeD S.E u).2} x u m bd).1],Ql (DZ (O1 (Ku {S with E:=(En.removeD S.E u).2} x u m bd).2 u 1).2 {DJ (O1 (Ku {S with E:=(En.removeD S.E u).2} x u m bd).2 u 1).2 t with cl:=true}) t u)
 else([(Ku {S with E:=(En.removeD S.E u).2} x u m bd).1,Kt t],(O1 (Ku {S with E:=(En.removeD S.E u).2} x u m bd).2 u 1).2)
theorem dB(hK:IsK F C (k+2) S p s)(B1 B2 B3 B4 B5 B6 B7:Nat)(x:Th.ThT)(hx:AD x.gv)(t u:Int)(m:O5)(c:CapT)(cl:Bool):
 Z3 prog 268 [pV B1,pV B2,pV B3,pV B4,pV B5,pV B6,pV B7] (λn:NoT=>[gB n]) ([rB B1 b,BX B2 u,Th.thC B3 x,Vu B4 m,Bw B5 c,Yt B6 cl,BX B7 t]++AA b p s S G) (λxs C'=>xs=(sendH S x t u m c.badge cl).1/\ ∃s' L,IsK F C k (sendH S x t u m c.badge cl).2 p s'/\Tail L G/\C'=[rB B1 b,BX B2 u,Th.thC B3 x,Vu B4 m,Bw B5 c,Yt B6 cl,BX B7 t]++AA b p s' (sendH S x t u m c.badge cl).2 L):=by
 refine⟨λr I hY l h0=>?_⟩;refine Fn.keep (.of_perm (O8 (lo:=[rB B1 b,BX B2 u,Th.thC B3 x,Vu B4 m,Bw B5 c,Yt B6 cl,BX B7 t]))) ?_;have mr:CH b p∈AA b p s S (l++G):=mR λ_ h=>h;obtain⟨R,hR⟩:=ξ (sendH S x t u m c.badge cl)
 rw[hR];unfold sendH at hR;simp only[Ae,Ag];refine AO func268 ntmps268 λE=>?_;refine Aj ?_;refine CC (Cy [3] 0 4) ?_;refine CG ?_;refine Na ?_;intro S1 s1 L1 Er ED DO G6;rw[<-Er] at hR;refine CG ?_;refine Aj ?_;refine Gt (vs:=[pV b,Th.thV x,ι u,rm m,Bb c.badge]) ?_;intro S2 s2 L2 hS2 Gd F4 Ig;rw[<-hS2] at hR;obtain⟨n1,Vj⟩: ∃n,(Ku S1 x u m c.badge).1=n:=⟨_,rfl⟩
 rw[Vj] at hR⊢;refine AR λc9=>?_;refine Gt ?_;intro S3 s3 L3 hS3 M8 Lo Qv;rw[<-hS3] at hR;refine Aj ?_;cases cl with
 |true=>rw[Ad rfl] at hR;refine Aj ?_;have JL:=M8.tO t;refine VN (id:=t) jM ⟨JL.out⟩ ?_;intro S4 s4 L4 hS4 hK4 kQ mr4;rw[<-hS4] at hR;refine Aj ?_;refine Gt ?_;intro S5 s5 L5 hS5 hK5 hT5 mr5;rw[<-hS5] at hR;refine Aj ?_;obtain⟨X,rfl⟩:Tail L5 (l++G):=hT5.trans (kQ.trans (Lo.trans (F4.trans DO)));refine Bt (.of_perm (Iu (lo:=[Vv c9 n1,rB B1 b,BX B2 u,Th.thC B3 x,Vu B4 m,Bw B5 c,Yt B6 true,BX B7 t]))) ?_;refine AP (C8 (vs:=[gB n1]) rfl rfl (hY [] n1 l _ (Bm _) h0)) ?_;rintro v _ ⟨l1,rfl,hI,rfl⟩;refine Bt (.of_perm O8) ?_;simp only[Ae,Ag];refine Aj ?_;subst hR;exact CY _ .refl (.drop (.of_perm (Iu (X:=[]) (lo:=[rB B1 b,BX B2 u,Th.thC B3 x,Vu B4 m,Bw B5 c,Yt B6 true,BX B7 t])))) ⟨[n1],l1,_,hI,⟨rfl,s5,X++G,hK5,⟨X,rfl⟩,rfl⟩,rfl⟩
 |false=>rw[Ab A0] at hR;refine Aj ?_;obtain⟨X,rfl⟩:Tail L3 (l++G):=Lo.trans (F4.trans DO);refine Bt (.of_perm (Iu (lo:=[Vv c9 n1,rB B1 b,BX B2 u,Th.thC B3 x,Vu B4 m,Bw B5 c,Yt B6 false,BX B7 t]))) ?_;refine AP (C8 (vs:=[gB n1]) rfl rfl (hY [] n1 l _ (Bm _) h0)) ?_;rintro v _ ⟨l1,rfl,hI,rfl⟩;refine Bt (.of_perm O8) ?_;simp only[Ae,Ag];refine Aj ?_;refine Bt (.of_perm (Iu (X:=[]) (lo:=[Vv c9 n1,rB B1 b,BX B2 u,Th.thC B3 x,Vu B4 m,Bw B5 c,Yt B6 false,BX B7 t]))) ?_;refine AP (C8 (vs:=[gB (Kt t)]) rfl rfl (hY [n1] (Kt t) l1 _ (by simp) hI)) ?_;rintro v _ ⟨l2,rfl,N7,rfl⟩;refine Bt (.of_perm O8) ?_;simp only[Ae,Ag];refine Aj ?_;subst hR;exact CY _ .refl (.drop (.of_perm (Iu (X:=[]) (lo:=[rB B1 b,BX B2 u,Th.thC B3 x,Vu B4 m,Bw B5 c,Yt B6 false,BX B7 t])))) ⟨[n1,Kt t],l2,_,N7,⟨rfl,s3,X++G,M8,⟨X,rfl⟩,rfl⟩,rfl⟩
end
theorem Tq{Y:Ac}:Keep (cs++(lo++Y)) (cs++Y):=⟨lo,AC cs lo Y⟩
def KN(F C b:Nat)(p:RP)(k:Nat)(xs:List NoT)(co:Int)(S:KT)(G:Ac):Value->Ac->Prop:=λv l'=> ∃sl cs s L,v= .tuple #[sl,iV co]/\OwnSl 69 12 sl xs.length (HY xs) cs/\IsK F C k S p s/\Tail L G/\l'=cs++AA b p s S L
section
theorem Gh{fr:Fr}{l:Ac}{fn:Func}{rs:List ResultVar}{k1:Nat}{S1:KT}{co:Int}{Γ:Ac->Ac}(hr:fn.results=rs.toArray:=by rfl)(h:ResS prog fr l rs [.slice none 0 0,iV co]:=by exact Ba)(hF:Fr1 (AA b p s S1 L) l Γ:=by exact fL)(hK:IsK F C k1 S1 p s:=by infer_instance)(ht:Tail L G:=by exact zTl)(hk:k<=k1:=by omega)(hS:S1=S:=by exact zSt):C3 N E (bodyPostM Fence.wide 0 prog fn (RK E (KN F C b p k [] co S G))) .ret fr [] l:=by subst hS;obtain⟨A,rfl,_⟩:=hF.eq;exact AU [] _ hr .refl h (Keep.dropL' A .refl) ⟨_,[],s,L,rfl,OwnSl.nil _ _,hK.mono hk,ht,rfl⟩
def JH(S:KT)(t:Int)(x:Ch)(m:O5)(gv:Int)(cl:Bool):(List NoT×Int)×KT:=
 if ¬(HX S t gv).2=0 then(([],(HX S t gv).2),S)
 else if ¬(getD' S.H.1 x).2=0\/¬(Ep S x).kind=8 then(([],8),S)
 else if Mn (Ep S x).rights 2=0\/(¬gv=4096/\Mn (Ep S x).rights 4=0) then(([],9),S)
 else if(En.firstD S.E (Ep S x).obj).2.2=false\/(En.firstD S.E (Ep S x).obj).2.1=true then
  (([],0),(O1 (DZ {S with E:=(En.waitD S.E (Ep S x).obj t true).2} (gC m (Ep S x) gv cl (DJ S t))) t 2).2)
 else(((sendH S {DJ S t with gv:=gv} t (En.firstD S.E (Ep S x).obj).1 m (Ep S x).badge cl).1,0),(sendH S {DJ S t with gv:=gv} t (En.firstD S.E (Ep S x).obj).1 m (Ep S x).badge cl).2)
theorem dC(hK:IsK F C (k+2) S p s)(t:Int)(x:Ch)(m:O5)(gv:Int)(cl:Bool):Fn prog 204 [pV b,ι t,Fy x,rm m,ι gv,.bool cl] (AA b p s S G) (KN F C b p k (JH S t x m gv cl).1.1 (JH S t x m gv cl).1.2 (JH S t x m gv cl).2 G):=by
 have mr:CH b p∈AA b p s S G:=mR λ_ h=>h;have JL:=hK.tO t;obtain⟨R,hR⟩:=ξ (JH S t x m gv cl)
 rw[hR];unfold JH at hR;refine AO func204 ntmps204 λE=>?_;refine AR λb6=>?_;refine AR λb7=>?_;refine AR λb8=>?_;refine AR λb9=>?_;refine AR λGW=>?_;refine AR λMs=>?_;refine EO ?_;have qP:=UZ (S:=S) (t:=t) (a:=gv);obtain⟨r,hr⟩:=ξ (HX S t gv)
 rw[hr] at hR qP⊢;refine AR λaT=>?_;by_cases h0:r.2=0
 case neg=>rw[Ad h0] at hR;subst hR;refine Aj ?_;exact Gh
 rw[Ab (λh=>h h0)] at hR;obtain⟨e1,e2,e3,e4,e5⟩:=qP h0;obtain⟨y,hy⟩:=ξ (DJ S t)
 rw[hy] at e1 e3 hR JL;rw[e1];refine Aj ?_;refine CC (Cy [7,8] 0 10) ?_;refine CG ?_;obtain⟨c,hc⟩:=ξ ((getD' S.H.1 x).1)
 obtain⟨e,he⟩:=ξ ((getD' S.H.1 x).2)
 rw[show Ep S x=c from hc,he] at hR;rw[hc,he];refine Is e_alloc (by rintro _ _ ⟨_,_,_,rfl⟩ c hc;exact .tail _ hc) ?_;rintro _ _ ⟨Qt,_,rfl,rfl⟩;refine CG ?_;by_cases h1:¬e=0\/¬c.kind=8
 ·rw[Ad h1] at hR;subst hR;by_cases h2:e=0<;>by_cases h3:c.kind=8;all_goals first
   |(exfalso;omega)
   |(refine Aj ?_
     exact Gh)
 rw[Ab h1] at hR;obtain⟨h2,h3⟩:e=0/\c.kind=8:=by omega
 refine Aj ?_;refine Be (K7 rfl rfl) ?_;obtain⟨w2,lk⟩: ∃w,Mn c.rights 2=w:=⟨_,rfl⟩
 obtain⟨w4,hw4⟩: ∃w,Mn c.rights 4=w:=⟨_,rfl⟩
 rw[lk,hw4] at hR;rw[lk];by_cases h4:w2=0\/(¬gv=4096/\w4=0)
 ·rw[Ad h4] at hR;subst hR;by_cases h5:w2=0
  ·refine Aj ?_;exact Gh
  obtain⟨h6,h7⟩:¬gv=4096/\w4=0:=by omega
  refine Aj ?_;refine YQ (K7 rfl rfl) rfl rfl rfl rfl rfl rfl ?_;rw[hw4];refine Aj ?_;exact Gh
 rw[Ab h4] at hR;have h5:¬w2=0:=by omega
 by_cases h6:gv=4096
 case' pos=>refine Aj ?_
 case' neg=>
  have h7:¬w4=0:=by omega
  refine Aj ?_;refine YQ (K7 rfl rfl) rfl rfl rfl rfl rfl rfl ?_;rw[hw4];refine Aj ?_
 all_goals
  obtain⟨f,hf⟩:=ξ (En.firstD S.E c.obj)
  rw[hf] at hR;refine L7 [(0,true),(1,true),(2,true),(3,true),(4,false),(5,true),(6,true),(7,true),(8,true),(9,false),(10,false),(11,true),(12,true)] [[],[0],[],[2],[0,1,2,3],[0,1,2,3,4],[0,1,2,3,4,5],[0,1,2,3,4,5],[0,1,2,3,4,5],[],[0,1,2,3,4,5,6,9],[0,1,2,3,4,5,6,7,9,10],[0,1,2,3,4,5,6,7,8,9,10,11]] 4 9 ([rB b6 b,Bw Qt c,CH b p]) Bu Bu GO ((WM Ca Ca Ca)) ?_;refine BJ ?_;refine Wb ?_;refine BJ ?_;refine Oz [(9,false),(4,false),(5,true),(6,true),(7,true),(8,true),(10,false),(11,true),(12,true)] GO (AJ (l₁:=[_,_,_,_,_])).symm Bu ?_ ?_
  case' refine_1=>
   refine pek ?_ ?_
   ·intro S2 s2 L2;have Ig:CH b p∈AA b p s2 S2 L2:=mR λ_ h=>h;exact WM Ca Ca Ca
   intro S1 s1 L1 Er ED DO G6;iterate 4 refine YY ?_
   refine CX e_alloc rfl rfl rfl ?_ ?_
   ·rintro _ _ ⟨_,_,_,rfl⟩ c hc;exact .tail _ (WM Ca Ca Ca c hc)
   rintro _ _ ⟨b17,_,rfl,rfl⟩
  case' refine_2=>
   refine CX e_alloc rfl rfl rfl ?_ ?_
   ·rintro _ _ ⟨_,_,_,rfl⟩ c hc;exact .tail _ (WM Ca Ca Ca c hc)
   rintro _ _ ⟨b17,_,rfl,rfl⟩;refine pek ?_ ?_
   ·intro S2 s2 L2;have Ig:CH b p∈AA b p s2 S2 L2:=mR λ_ h=>h;exact WM Ca Ca Ca
   intro S1 s1 L1 Er ED DO G6;iterate 4 refine YY ?_
  all_goals
   subst Er;rw[hf];refine wt ?_ (hR:=WM Ca Ca Ca);refine BJ ?_;refine Aj ?_;by_cases h8:f.2.2=false\/f.2.1=true
   ·rw[Ad h8] at hR;cases h9:f.2.2<;>cases VA:f.2.1;all_goals first
     |(exfalso;simp[h9,VA] at h8;done)
     |(refine Aj ?_
       refine CC (Cy [5] 0 6) ?_;refine CG ?_;refine Na ?_;intro S2 s2 L2 hS2 Gd F4 Ig;refine CG ?_;refine Aj ?_;have e6:DJ S2 t=y:=by rw[hS2];exact hy
       refine VN (id:=t) (ph b9 Qt GW Ms m c gv cl) ⟨by rw[e6];exact JL.out⟩ ?_;intro S3 s3 L3 hS3 M8 Lo Qv;rw[e6] at hS3;rw[<-hS2,show DZ S2 (gC m c gv cl y)=S3 from hS3.symm] at hR;refine Aj ?_;refine Gt ?_;intro S4 s4 L4 hS4 hK4 kQ mr4;refine Aj ?_;rw[<-hS4] at hR;subst hR;exact Gh)
   rw[Ab h8] at hR;obtain⟨h9,VA⟩:f.2.2=true/\f.2.1=false:=by simpa using h8
   rw[h9,VA];obtain⟨u,hu⟩:=ξ f.1
   rw[hu] at hR⊢;refine Aj ?_;have hx:AD ({y with gv:=gv}:Th.ThT).gv:=⟨by show gv<_;omega⟩
   refine AP (Az rfl rfl (Fn.keep ?_ (R5 (dB (b:=b) (G:=L1) ED b6 b17 aT b9 Qt Ms b7 {y with gv:=gv} hx t u m c cl)))) ?_
   ·exact AY
   rintro sl _ ⟨xs,cs,C',ho,⟨rfl,s',L',hK',hT',rfl⟩,rfl⟩;refine Aj ?_;subst hR;exact CY _ .refl Tq ⟨sl,cs,s',L',rfl,ho,hK',hT'.trans DO,rfl⟩
end
end Go.Proofs.YtlifcingifodfaaGreat
