/- Laws that the statement's proof leans on (joined out of several texts). -/
import Derived.Test.YtlifcingifodfaaGreatGg17
set_option maxHeartbeats 4000000
set_option linter.unusedVariables false
set_option linter.unusedSimpArgs false
namespace Go.Proofs.YtlifcingifodfaaGreat
open Tryz
open List(toArray)
open Go.RowKit
set_option maxRecDepth 20000
variable{S:KT}{k F C b n i N t:Nat}{p:RP}{s:RL}{G lo L A T B X Z:Ac}{lp c c10 c8 cB cv c5 c6 c7 c2:Bd}{P:Program}{ro:Option Nat}{E:World}
abbrev fF(B bl b5 b6 b7 b2 b:Nat)(vl ve:Value)(n:Nat):Ac:=[lpB B bl,qi bl vl,lpB b5 bl,NJ b6 ve,BS b7 n,rB b2 b]
section
def DrI(F C k b:Nat)(p:RP)(G:Ac)(R:KT×A4×Nat)(M B bl b5 b6 b7 b2 m:Nat)(pre:List Cs)(o:Option Cs)(l:Ac):Prop:=
 ∃(S':KT) (s':RL) (L:Ac) (ys:List Cs) (vl ve:Value) (cl ce:Ac) (es:A4) (n:Nat),IsK F C k S' p s'/\Tail L G/\1<=ys.length/\o=ys[pre.length]?/\17*MS S'+(ys.drop pre.length).length<=m/\17*MS S'+ys.length<=M/\es.length<=pre.length/\n<=pre.length/\pre.length<=ys.length/\dropR m S' (ys.drop pre.length) es n=R/\
  OwnSl 61 2 vl ys.length (Tr.scs ys) cl/\OwnSl 3 1 ve es.length (es.map CU) ce/\l=fF B bl b5 b6 b7 b2 b vl ve n++(cl++(ce++Ax b p s' S' L))
theorem Ach{r:Nat}{o:Obj}:(lo++(r,o)::Ax b p s S L).Perm (lo++Ax b p s S ((r,o)::L)):=by unfold Ax;exact BX
theorem Aci:(lo++(A++(B++Ax b p s S L))).Perm (lo++Ax b p s S (A++(B++L))):=by unfold Ax;exact BX
theorem fG{L9:Ac}(h:Tail L9 (lp::(A++(B++(L++T))))): ∃L',Tail L' L/\ ∀lo,(lo++Ax b p s S L9).Perm ((lo++(A++(B++Ax b p s S L')))++lp::T):=by obtain⟨X,rfl⟩:=h;exact⟨X++L,⟨X,rfl⟩,λlo=>by unfold Ax;exact BX⟩
theorem yK:([c10,c8,cB,cv,c5,c6,c7,c2]++Ax b p s S (X++lp::(A++(B++(L++T))))).Perm (cv::(A++Ax b p s S ([c10,c8,cB,c5,c6,c7,c2]++(B++(X++lp::(L++T)))))):=by unfold Ax;exact BX
theorem tf:(cv::(A++Ax b p s S (Z++([c10,c8,cB,c5,c6,c7,c2]++(B++(X++lp::(L++T))))))).Perm ([c10,c8,cB,cv,c5,c6,c7,c2]++(B++(A++Ax b p s S (Z++(X++lp::(L++T)))))):=by unfold Ax;exact BX
theorem tg:(lo++(B++(A++Ax b p s S (Z++(X++lp::(L++T)))))).Perm ((lo++(A++(B++Ax b p s S (Z++(X++L)))))++lp::T):=by unfold Ax;exact BX
theorem yL(hK:IsK F C k S p s)(x:Cs):Fn prog 289 [pV b,F6 x] (Ax b p s S G) (KK F C b p k (iV (QL S x).1) (QL S x).2 G):=by
 have mr:CF b p∈Ax b p s S G:=mR λ_ h=>h;obtain⟨m9,h91,h92,_,h93⟩:=hK.small;have t93:MS S<=1000:=h93;obtain⟨R,hR⟩: ∃R,dropR (17*MS S+1) S [x] [] 0=R:=⟨_,rfl⟩
 unfold QL;rw[hR];refine AN func289 ntmps289 λE=>?_;refine AQ λb2=>?_;refine AQ λb3=>?_;refine AS (FE (ws:=Cw x) (k:=2) rfl rfl rfl AX AX) ?_;rintro _ _ ⟨gs,_,rfl,rfl⟩;refine AQ λbl=>?_;refine AQ λb5=>?_;refine AQ λb6=>?_;refine AQ λb7=>?_;refine AS (Az rfl rfl (ov bl _)) ?_;rintro _ _ ⟨B,rfl,rfl⟩;refine Aj ?_;refine n9 (α:=Cs) (ps:=[20]) (lb:=[pV B]) rfl (i8 B bl) (λ_=>rfl) rfl
  (DrI F C k b p G R (17*MS S+1) B bl b5 b6 b7 b2) (λ_ _ _=>False) (fF B bl b5 b6 b7 b2 b (.slice (some ⟨gs,0,none⟩) 1 1) (.slice none 0 0) 0++([lsC gs [x] []]++([]++Ax b p s S G))) (m0:=17*MS S+1) (o0:=some x) ?_ (by exact AW) ⟨S,s,G,[x],_,_,_,_,[],0,hK,.nil,Bf _,rfl,Bf _,Bf _,Bf _,Bf _,Bp _,hR,⟨rfl,.inr ⟨gs,1,[],rfl,rfl,Bf _,by unfold maxLen;omega,rfl⟩⟩,OwnSl.nil _ _,rfl⟩ ?_ ?_ ?_
 ·rintro m pre o l X ⟨S1,s1,L1,ys,vl,ve,cl,ce,es,n,EC,DO,pR,ho,hm,hM,uo,hn,hp,hR1,pW,hoe,rfl⟩;obtain⟨gb,cap,sp,rfl,rfl⟩:=MR pW pR;exact⟨gb,cap,sp,ys,by simp,by simp,by simp,Af,ho⟩
 ·rintro E r0 FU m pre x1 l T ⟨fn,tmps,D,hrec⟩ ⟨S1,s1,L1,ys,vl,ve,cl,ce,es,n,EC,DO,pR,ho,hm,hM,uo,hn,hp,hR1,pW,hoe,rfl⟩;obtain⟨m8,h81,h82,_⟩:=EC.small;have C9:=(Ay.1 ho.symm).1;have hd:ys.drop pre.length=x1::ys.drop (pre.length+1):=by rw[Di C9,(Ay.1 ho.symm).2]
  rw[hd] at hm hR1;rw[Bu] at hm;obtain⟨m,rfl⟩: ∃q,m=q+1:=⟨m-1,Af⟩
  unfold dropR at hR1;have hln:(ys.drop (pre.length+1)).length=ys.length-(pre.length+1):=DN;have kc:(pre++[x1]).length=pre.length+1:=by simp
  refine Em (.of_perm (yJ (lo:=fF B bl b5 b6 b7 b2 b vl ve n))) ?_;rw[hrec];simp only[DX,fF,Ae,Ag];refine AQ λb8=>?_;refine CK (by exact DY) ?_;rw[<-hrec];refine Em (.of_perm (Ach (lo:=Wg b8 x1::fF B bl b5 b6 b7 b2 b vl ve n))) ?_;obtain⟨lp,kH⟩: ∃lp:Bd,(r0,Obj.loop (FU .busy none))=lp:=⟨_,rfl⟩
  rw[kH];have GQ:CF b p∈Ax b p s1 S1 (lp::(cl++(ce++(L1++T)))):=mR λ_ h=>h;simp only[fF,Ae,Ag];refine Aj ?_;refine CA (Cu [] 0 5) ?_;refine CE ?_;obtain⟨fin,X5⟩: ∃q,Ml S1.H x1=q:=⟨_,rfl⟩
  rw[X5] at hR1⊢;refine Aj ?_;obtain⟨q,hq⟩: ∃q,Eb S1.H x1=q:=⟨_,rfl⟩
  have uI:q.1.2=0->q.2.2.length+1=MS S1:=λh=>by rw[<-hq] at h⊢;exact cH h82 h
  have uJ:¬q.1.2=0->q.2=S1.H:=λh=>by rw[<-hq] at h⊢;exact cI h
  unfold dropX at hR1;rw[hq] at hR1;refine KP [(0,true),(1,true),(2,true),(3,false),(4,true),(5,true),(6,true),(7,false),(8,false),(9,true)] [[],[0],[],[0,1,2],[0,1,2,3],[0,1,2,3,4],[0,1,2,3,4],[],[0,1,2,3,4,5,7],[0,1,2,3,4,5,6,7,8]] 3 7 ([rB b2 b,Wg b8 x1,CF b p]) BA BA GH ((Wk BW BW BW)) ?_;refine BM ?_;refine VI ?_;refine BM ?_;refine Nd [(7,false),(3,false),(4,true),(5,true),(6,true),(8,false),(9,true)] GH (AI (l₁:=[_,_,_,_])).symm BA ?_ ?_
  case' refine_1=>
   refine pek ?_ ?_
   ·intro S2 s2 L2;have HV:CF b p∈Ax b p s2 S2 L2:=mR λ_ h=>h;exact Wk BW BW BW
   intro S2 s2 L2 hS2 FW FN HV;iterate 3 refine Yq ?_
   refine CM e_alloc rfl rfl rfl ?_ ?_
   ·rintro _ _ ⟨_,_,_,rfl⟩ c hc;exact .tail _ (Wk BW BW BW c hc)
   rintro _ _ ⟨Gd,_,rfl,rfl⟩
  case' refine_2=>
   refine CM e_alloc rfl rfl rfl ?_ ?_
   ·rintro _ _ ⟨_,_,_,rfl⟩ c hc;exact .tail _ (Wk BW BW BW c hc)
   rintro _ _ ⟨Gd,_,rfl,rfl⟩;refine pek ?_ ?_
   ·intro S2 s2 L2;have HV:CF b p∈Ax b p s2 S2 L2:=mR λ_ h=>h;exact Wk BW BW BW
   intro S2 s2 L2 hS2 FW FN HV;iterate 3 refine Yq ?_
  all_goals
   rw[hq] at hS2⊢;obtain⟨c,hc⟩: ∃c,q.1.1=c:=⟨_,rfl⟩
   obtain⟨er,her⟩: ∃e,q.1.2=e:=⟨_,rfl⟩
   rw[hc,her] at hR1⊢;rw[her] at uI uJ;refine pZ ?_ (hR:=Wk BW BW BW);refine BM ?_;refine Aj ?_;by_cases h0:er=0
   case neg=>
    rw[Ad h0] at hR1;have e2:MS S2=MS S1:=by rw[hS2];show q.2.2.length=_;rw[uJ h0]
    rw[<-hS2] at hR1;refine Aj ?_;subst kH hrec;obtain⟨L9,hL9,hp9⟩:=fG (b:=b) (p:=p) (s:=s2) (S:=S2) FN;exact Ci (fF B bl b5 b6 b7 b2 b vl ve n++(cl++(ce++Ax b p s2 S2 L9))) (Keep.trans (.drop (.drop .refl)) (.of_perm (hp9 (fF B bl b5 b6 b7 b2 b vl ve n)))) ⟨m,ys[pre.length+1]?,HR _,by unfold DrI;simp only[kc];exact⟨S2,s2,L9,ys,vl,ve,cl,ce,es,n,FW,hL9.trans DO,pR,rfl,Af,Af,Af,Af,Af,hR1,pW,hoe,rfl⟩⟩
   rw[Ab (λh=>h h0)] at hR1;have e2:MS S2+1=MS S1:=by rw[hS2];exact uI h0
   have hn9:n<=18000:=by omega
   refine Aj ?_;by_cases h3:c.kind=3
   case' pos=>
    rw[Ad h3] at hR1;refine Aj ?_;refine Gi ?_;intro S3 s3 L3 hS3 MW hT3' Pu;have Lg:=hT3'.trans FN;have e3:MS S3=MS S2:=by rw[hS3];exact BI (λH:HS=>H.2.length) (tc S2 c)
    rw[show NK {S1 with H:=q.2} c=S3 by rw[hS3,<-hS2];rfl] at hR1;refine Aj ?_
   case' neg=>
    rw[Ab h3] at hR1;obtain⟨S3,hS3⟩: ∃S3,S2=S3:=⟨_,rfl⟩
    obtain⟨s3,RA⟩: ∃s3,s2=s3:=⟨_,rfl⟩
    obtain⟨L3,hL3⟩: ∃L3,L2=L3:=⟨_,rfl⟩
    have MW:=FW;have Lg:=FN;have Pu:=HV;rw[hS3,RA] at MW;rw[hS3,RA,hL3] at Pu;rw[hL3] at Lg;have e3:MS S3=MS S2:=by rw[hS3]
    rw[show({S1 with H:=q.2}:KT)=S3 by rw[<-hS3,hS2]] at hR1;refine Aj ?_;rw[hS3,RA,hL3]
   all_goals
    by_cases h4:fin=false\/c.obj=0
    ·rw[Ad h4] at hR1;cases fin<;>by_cases h5:c.obj=0;all_goals first
      |(exfalso;simp[h5] at h4;done)
      |(refine Aj ?_
        subst kH hrec;obtain⟨L9,hL9,hp9⟩:=fG (b:=b) (p:=p) (s:=s3) (S:=S3) Lg;exact Ci (fF B bl b5 b6 b7 b2 b vl ve (n+1)++(cl++(ce++Ax b p s3 S3 L9))) (Keep.trans (.drop (.drop .refl)) (.of_perm (hp9 (fF B bl b5 b6 b7 b2 b vl ve (n+1))))) ⟨m,ys[pre.length+1]?,HR _,by unfold DrI;simp only[kc];exact⟨S3,s3,L9,ys,vl,ve,cl,ce,es,n+1,MW,hL9.trans DO,pR,rfl,Af,Af,Af,Af,Af,hR1,pW,hoe,rfl⟩⟩)
    rw[Ab h4] at hR1;obtain⟨h5,h6⟩:fin=true/\¬c.obj=0:=by simpa using h4
    subst h5;refine Aj ?_;obtain⟨X,rfl⟩:=Lg;refine AS (Az rfl rfl (Fn.keep (.of_perm yK) (Ace MW c bl vl ys cl Af pW))) ?_;rintro _ _ ⟨rfl,v2,NX,s4,L4,ho4,hK4,⟨Z,rfl⟩,rfl⟩;refine Bs (.of_perm tf) ?_;simp only[Ae,Ag];refine Aj ?_;refine AS (Lj (v:=iV c.obj) rfl rfl) ?_;rintro _ _ ⟨bz,_,rfl,rfl⟩;refine Aj ?_;refine AS (Hz (k:=1) (X:=[Bz Gd c,Wg b8 x1,lpB B bl,qi bl v2,lpB b5 bl,NJ b6 ve,BS b7 ((n:Int)+1),rB b2 b]) (cs:=ce) (xs:=es.map CU) (n:=es.length) (zs:=[iV 0]) (ws:=[iV c.obj]) rfl rfl rfl hoe rfl (by simp[Value.oneCell']) Af AX) ?_;rintro ve2 _ ⟨ce2,hoe2,rfl⟩;have o2:=SU hoe2;simp only[Ae,Ag];refine Aj ?_;have hz:(Mo (KW S3 c) c).length<=16:=by have h1:=Wm (KW S3 c) c (Ar.slotsD c.kind (Ar.getD' (KW S3 c).A c.obj).1.sz).toNat;have h2:=fC c.kind (Ar.getD' (KW S3 c).A c.obj).1.sz;unfold Mo;omega
    have e4:MS (KW S3 c)=MS S3:=by show(KW S3 c).H.2.length=_;rw[yI]
    have e5:(ys++Mo (KW S3 c) c).drop (pre.length+1)=ys.drop (pre.length+1)++Mo (KW S3 c) c:=List.drop_append_of_le_length Af;subst kH hrec;exact Ci (fF B bl b5 b6 b7 b2 b v2 ve2 (n+1)++(NX++(ce2++Ax b p s4 (KW S3 c) (Z++(X++L1))))) (Keep.trans (.drop (.drop .refl)) (.of_perm (tg (lo:=fF B bl b5 b6 b7 b2 b v2 ve2 (n+1))))) ⟨m,(ys++Mo (KW S3 c) c)[pre.length+1]?,HR _,by unfold DrI;simp only[kc];exact⟨KW S3 c,s4,Z++(X++L1),ys++Mo (KW S3 c) c,v2,ve2,NX,ce2,es++[c.obj],n+1,hK4,Tail.trans ⟨Z++X,by simp⟩ DO,by rw[Ah];omega,rfl,by rw[e5,Ah];omega,by rw[Ah];omega,by rw[Ah,Bl];omega,Af,by rw[Ah];omega,by rw[e5];exact hR1,ho4,by rw[Ah,Aq];exact hoe2,rfl⟩⟩
 ·rintro D m xs l ⟨S1,s1,L1,ys,vl,ve,cl,ce,es,n,EC,DO,pR,ho,hm,hM,uo,hn,hp,hR1,pW,hoe,rfl⟩;rw[List.drop_eq_nil_of_le (List.getElem?_eq_none_iff.1 ho.symm),ja] at hR1;subst hR1;refine Ky (.of_perm (.cons _ (Aci (lo:=fF B bl b5 b6 b7 b2 b vl ve n)))) ?_;have GQ:CF b p∈Ax b p s1 S1 (cl++(ce++L1)):=mR λ_ h=>h;simp only[fF,Ae,Ag];by_cases he:es.length=0
  ·obtain⟨pp,cap,dA⟩:=hoe.shape;rw[he] at dA;rw[dA,Gz.1 he];refine Aj ?_;refine Ie 0 ?_;refine Aj ?_;refine Gi ?_;intro S2 s2 L2 hS2 FW FN HV;refine Aj ?_;exact AU [D] _ rfl .refl (by exact Ba) (.drop (.drop (.drop (.drop (.drop (.drop .refl)))))) ⟨rfl,s2,L2,by rw[show Js (oy S1 [])=S2 from hS2.symm];exact FW,FN.trans (Tail.trans ⟨cl++ce,by simp⟩ DO),by rw[show Js (oy S1 [])=S2 from hS2.symm]⟩
  have ue:=fD hoe;obtain⟨gw,cap,sw,rfl,rfl⟩:=MR hoe Af;refine Aj ?_;refine CN (α:=Nat×KT×RL×Ac) (λx=>[(2,pV b2),(7,pV b7),(58,.slice (some ⟨gw,0,none⟩) es.length cap),(59,.int .i64 (es.length:Nat)),(60,.int .i64 x.1)]) (λx=>Cr D::BS b7 n::rB b2 b::Ax b p x.2.2.1 x.2.1 x.2.2.2) (λx=>x.1<=es.length/\x.2.1=oy S1 (es.take x.1)/\IsK F C k x.2.1 p x.2.2.1/\Tail x.2.2.2 (cl++([NU gw es sw]++L1))) (λx=>es.length-x.1) (0,S1,s1,_) ⟨Bp _,rfl,EC,.nil⟩ ⟨rfl,rfl,rfl,rfl,rfl,trivial⟩ (by exact AW) ?_;rintro⟨i,S2,s2,L2⟩ ⟨hi,hS2,FW,FN⟩;simp only at hi hS2 FW FN⊢;have HV:CF b p∈Ax b p s2 S2 L2:=mR λ_ h=>h;have mw:NU gw es sw∈Ax b p s2 S2 L2:=mG (λ_ h=>h) _ (by obtain⟨X,rfl⟩:=FN;simp);by_cases C9:i<es.length
  ·obtain⟨t,ht⟩: ∃t,es.getD i 0=t:=⟨_,rfl⟩
   have c0:(toArray (es.map CU++sw))[i*1]?=some (.int .i64 t):=by rw[Dr,<-ht];exact RR C9
   refine Aj ?_;refine Gi ?_;intro S3 s3 L3 hS3 MW Lg Pu;refine Aj ?_;exact BO (i+1,S3,s3,L3) ⟨by simp only;omega,by simp only;unfold oy;rw[Wn C9,Fd,ht];exact hS3.trans (by rw[hS2];rfl),MW,Lg.trans FN⟩ (by simp only;omega) ⟨rfl,rfl,rfl,rfl,rfl,trivial⟩ .refl
  ·rw[BD Af] at hS2;refine Aj ?_;refine Gi ?_;intro S3 s3 L3 hS3 MW Lg Pu;refine Aj ?_;rw[hS2] at hS3;exact AU [D] _ rfl .refl (by exact Ba) (.drop (.drop .refl)) ⟨rfl,s3,L3,by rw[<-hS3];exact MW,Lg.trans (FN.trans (Tail.trans ⟨cl++[NU gw es sw],by simp⟩ DO)),by rw[<-hS3]⟩
 ·rintro D c pre l h;exact h.elim
instance{x:Cs}:EK prog F C b p 289 [pV b,F6 x] k S k (iV (QL S x).1) (QL S x).2:=⟨λs G h=>yL h x⟩
end
section
def QM(S:KT)(x:Cs):(Int×Int)×KT:=if ¬UA S x=0 then((0,UA S x),S) else((((QL S x).1:Nat),0),(QL S x).2)
theorem Acj(hK:IsK F C k S p s)(x:Cs):Fn prog 212 [pV b,F6 x] (Ax b p s S G) (KK F C b p k (.tuple #[iV (QM S x).1.1,iV (QM S x).1.2]) (QM S x).2 G):=by
 have mr:CF b p∈Ax b p s S G:=mR λ_ h=>h;obtain⟨R,hR⟩: ∃R,QM S x=R:=⟨_,rfl⟩
 rw[hR];unfold QM at hR;refine AN func212 ntmps212 λE=>?_;refine AQ λb3=>?_;refine EM ?_;obtain⟨e,he⟩: ∃e,UA S x=e:=⟨_,rfl⟩
 rw[he] at hR⊢;by_cases h0:e=0
 case neg=>rw[Ad h0] at hR;subst hR;refine Aj ?_;exact A9
 rw[Ab (λh=>h h0)] at hR;subst hR;refine Aj ?_;refine Gi ?_;intro S1 s1 L1 EG EC DO GQ;refine Aj ?_;exact A9
instance{x:Cs}:EK prog F C b p 212 [pV b,F6 x] k S k (.tuple #[iV (QM S x).1.1,iV (QM S x).1.2]) (QM S x).2:=⟨λs G h=>Acj h x⟩
def revR:Nat->KT->Cs->Nat->Nat->(Int×Int)×KT
 |0,S,_,_,n=>((n,0),S)
 |m+1,S,x,bu,n=>
  if ¬UA S x=0 then((n,0),S) else match Tr.belowD S.H.2 x with
  |[]=>((n,0),S)
  |y::_=>if n=bu then((n,17),S) else revR m (QL S y).2 x bu (n+1)
def Sj(S:KT)(x:Cs)(bu:Int):(Int×Int)×KT:=
 if ¬UA S x=0 then((0,UA S x),S) else if bu<1\/64<bu then((0,2),S) else revR (bu.toNat+1) S x bu.toNat 0
theorem yM:(A++(c::Ax b p s S G)).Perm (c::Ax b p s S (A++G)):=by unfold Ax;exact BX
theorem Ack(hK:IsK F C k S p s)(x:Cs)(bu:Int):Fn prog 213 [pV b,F6 x,.int .i64 bu] (Ax b p s S G) (KK F C b p k (.tuple #[iV (Sj S x bu).1.1,iV (Sj S x bu).1.2]) (Sj S x bu).2 G):=by
 have mr:CF b p∈Ax b p s S G:=mR λ_ h=>h;obtain⟨R,hR⟩: ∃R,Sj S x bu=R:=⟨_,rfl⟩
 rw[hR];unfold Sj at hR;refine AN func213 ntmps213 λE=>?_;refine AQ λb4=>?_;refine EM ?_;obtain⟨e,he⟩: ∃e,UA S x=e:=⟨_,rfl⟩
 rw[he] at hR⊢;by_cases h0:e=0
 case neg=>rw[Ad h0] at hR;subst hR;refine Aj ?_;exact A9
 rw[Ab (λh=>h h0)] at hR;by_cases h1:bu<1\/64<bu
 ·rw[Ad h1] at hR;subst hR;by_cases h2:bu<1<;>by_cases h3:64<bu;all_goals first
   |(exfalso;omega)
   |(refine Aj ?_
     exact A9)
 rw[Ab h1] at hR;obtain⟨h2,h3⟩:¬bu<1/\¬64<bu:=by omega
 obtain⟨w,rfl⟩: ∃w:Nat,bu=w:=⟨bu.toNat,Af⟩
 rw[A0] at hR;refine Aj ?_;refine CN (α:=Nat×KT×RL×Ac) (λy=>[(0,pV b),(2,.int .i64 (w:Nat)),(4,pV b4),(9,.int .i64 y.1)]) (λy=>Wg b4 x::Ax b p y.2.2.1 y.2.1 y.2.2.2) (λy=>y.1<=w/\revR (w-y.1+1) y.2.1 x w y.1=R/\IsK F C k y.2.1 p y.2.2.1/\Tail y.2.2.2 G) (λy=>w-y.1) (0,S,s,G) ⟨Bp _,hR,hK,.nil⟩ ⟨rfl,rfl,rfl,rfl,trivial⟩ .refl ?_;rintro⟨n,S1,s1,L1⟩ ⟨hn,hR1,EC,DO⟩;simp only at hn hR1 EC DO⊢;have GQ:CF b p∈Ax b p s1 S1 L1:=mR λ_ h=>h;obtain⟨m8,h81,h82,_,h83⟩:=EC.small;unfold revR at hR1;refine Aj ?_;refine EM ?_;obtain⟨e1,he1⟩: ∃e,UA S1 x=e:=⟨_,rfl⟩
 rw[he1] at hR1⊢;by_cases h4:e1=0
 case neg=>rw[Ad h4] at hR1;subst hR1;refine Aj ?_;exact A9
 rw[Ab (λh=>h h4)] at hR1;refine Aj ?_;refine CA (Cu [3] 0 5) ?_;refine CE ?_;refine LJ (Az rfl rfl (Ub p.h S1.H s1.H EC.ho Af x _ λy hy=> .tail _ (mH (λ_ h=>h) y hy))) ?_ rfl rfl;rintro sl _ ⟨cs,ho,rfl⟩;refine CE ?_;refine Ky (.of_perm yM) ?_;have HV:CF b p∈Ax b p s1 S1 (cs++L1):=mR λ_ h=>h;have FN:Tail (cs++L1) G:=DO.step cs;cases hD:Tr.belowD S1.H.2 x with
 |nil=>rw[hD] at hR1 ho;simp only at hR1;subst hR1;obtain⟨pp,cap,dA⟩:=ho.shape;rw[Fe] at dA;rw[dA];refine Aj ?_;exact A9
 |cons y r=>
 rw[hD] at hR1 ho;simp only at hR1;obtain⟨gb,cap,sp,rfl,rfl⟩:=MR ho (by simp);have hl:0<(y::r).length:=by simp
 obtain⟨z1,z2⟩:=fB (ys:=y::r) (i:=0) (x:=y) rfl sp;have mw:lsC gb (y::r) sp∈Ax b p s1 S1 ([lsC gb (y::r) sp]++L1):=mG (λ_ h=>h) _ (by simp);obtain⟨ln,hln⟩: ∃ln:Nat,(y::r).length=ln:=⟨_,rfl⟩
 rw[hln] at hl⊢;by_cases h5:n=w
 ·rw[Ad h5] at hR1;subst hR1;refine Aj ?_;exact A9
 rw[Ab h5] at hR1;have h6:¬(n:Int)=(w:Int):=by omega
 refine Aj ?_;refine Bh (Dt rfl (.tail _ mw) z1 z2) ?_;refine Aj ?_;refine Gi ?_;intro S2 s2 L2 hS2 FW Lg Pu;refine Aj ?_;exact BO (n+1,S2,s2,L2) ⟨by simp only;omega,by simp only;rw[hS2,show w-(n+1)+1=w-n by omega];exact hR1,FW,Lg.trans FN⟩ (by simp only;omega) ⟨rfl,rfl,rfl,rfl,trivial⟩ .refl
instance{x:Cs}{bu:Int}:EK prog F C b p 213 [pV b,F6 x,.int .i64 bu] k S k (.tuple #[iV (Sj S x bu).1.1,iV (Sj S x bu).1.2]) (Sj S x bu).2:=⟨λs G h=>Ack h x bu⟩
end
section
variable{fr:Fr}{R:Ac}{d:Option Nat}{ty:TypeId}{pos:String}{aft:Array Edge}{g:Option (Nat×Bool)}{x y:Operand}{v:Value}
theorem jc{Q:Value->Ac->Prop}{off:Nat}{l:Ac}{cs:Array Value}(hc:qR P t=true)(hv:cs[off]?=some v)(h:Q v l):sl P (part t cs off) l Q:=by have h2:=Yh (P:=P) (f:=λv=>(pure v:Sem Value)) (Q:=Q) hc hv (by simpa only[Bn] using h);simpa using h2
theorem Xs{e m:Nat}{ki:IntKind}{cs:Array Value}(hx:ev fr x=some (.agg cs))(hy:ev fr y=some (.int ki (m:Nat)))[c:AT P t n e k][co:OC P e](hk:k=1)(hi:m<n)(hv:cs[m]?=some v):OpQ P ro N fr R ⟨d,.index t x y,ty,pos,aft,g⟩ v:=BN rfl λρ l hρ _=>by
 obtain⟨Hv,k1,k2,k3⟩:=MD c.out;simp only[execOp,hρ x _ hx,hρ y _ hy];unfold Instr.index;simp only[asIntOf,AB,Bn];rw[E1 k1];have h0:(0:Int)<=(m:Nat)/\((m:Nat):Int)<(n:Nat):=by omega
 simp only[Ad h0,AB,A0];rw[Hx k2,k3,hk,Dr];exact jc co.out hv ⟨rfl,rfl⟩
end
structure Jt where
 op:Int
 a:Int
 b:Int
 c:Int
 n0:Int
 n1:Int
 n2:Int
 w:Int
 ms:OP
deriving DecidableEq
abbrev Sk(o:Jt):Ap:=[iV o.op,iV o.a,iV o.b,iV o.c,iV o.n0,iV o.n1,iV o.n2,Be o.w,Be o.ms.a,Be o.ms.b,Be o.ms.c,Be o.ms.d]
abbrev orV(o:Jt):Value:= .agg (toArray (Sk o))
abbrev qj(b:Nat)(t:Int)(o:Jt)(x y:Cs):Ap:=[pV b,iV t,iV o.op,iV o.a,iV o.b,iV o.c,iV o.n0,iV o.n1,iV o.n2,Be o.w,Be o.ms.a,Be o.ms.b,Be o.ms.c,Be o.ms.d,iV x.1,iV x.2,iV y.1,iV y.2]
abbrev OR(b:Nat)(t:Int)(o:Jt)(x y:Cs):Value:= .agg (toArray (qj b t o x y))
abbrev XR(B b:Nat)(t:Int)(o:Jt)(x y:Cs):Bd:=(B,.cells (toArray (qj b t o x y)) 292 (0,0))
section
theorem Acl(hK:IsK F C k S p s)(t:Int)(o:Jt)(x y z:Cs)(kd:Int)(l:Ac)(hl: ∀c,c∈Ax b p s S G->c∈l):Fn prog 281 [OR b t o x y,F6 z,.int .i64 kd] l λv l'=>v= .tuple #[Xb (Ei S z),.bool (decide (FH S z kd))]/\l'=l:=by
 have mr:CF b p∈l:=mR hl;have I: ∀{f:Nat} {vs:Ap} {v:Value} [QF prog f vs (Ax b p s S G) v],QF prog f vs l v:=Z3 hl;refine AN func281 ntmps281 λE=>?_;refine AQ λb3=>?_;refine AQ λb4=>?_;refine AQ λb6=>?_;refine CA (Cu [8,9] 0 11) ?_;refine CE ?_;obtain⟨c,hc⟩: ∃c,(getD' S.H.1 z).1=c:=⟨_,rfl⟩
 obtain⟨e,he⟩: ∃e,(getD' S.H.1 z).2=e:=⟨_,rfl⟩
 have hd:decide (FH S z kd)=(decide (e=0)&&decide (c.kind=kd)):=by rw[Kt,AV,IG,IG,IG];show(_=0/\(Ei S z).kind=kd)<->_;rw[he,show Ei S z=c from hc]
 rw[show Ei S z=c from hc,hd,hc,he];refine Ij e_alloc (by rintro _ _ ⟨_,_,_,rfl⟩ c hc;exact .tail _ hc) ?_;rintro _ _ ⟨b8,_,rfl,rfl⟩;refine CE ?_;refine Aj ?_;by_cases h1:e=0<;>by_cases h2:c.kind=kd;all_goals
  refine Cm [9] 11 ([Bz b8 c]) ?_ (hR:=(UC BW));refine BM ?_;refine Aj ?_
  first|rw[Au h1]|rw[Aw h1]
  first|rw[Au h2]|rw[Aw h2]|skip
  simp only[Bool.and_true,Bw,Jf,Bi];exact AU [] _ rfl .refl (Cq rfl (.tail _ (.head _)) (As.LSub.of_all (n:=8) (B0 c) rfl) (by exact Ba)) (.drop (.drop (.drop (.drop .refl)))) ⟨rfl,rfl⟩
instance[h:IsK F C k S p s]{t:Int}{o:Jt}{x y z:Cs}{kd:Int}:QF prog 281 [OR b t o x y,F6 z,.int .i64 kd] (Ax b p s S G) (.tuple #[Xb (Ei S z),.bool (decide (FH S z kd))]):=⟨λl hl=>Acl h t o x y z kd l hl⟩
def cJ(S:KT)(t:Int)(j:Nat):KT:=if Ee S.U j=t then(Mm S j 0).2 else S
def ti(S:KT)(t:Int):KT:=(List.range S.K.length).foldl (λS j=>cJ S t j) S
theorem jd(hK:IsK F C k S p s)(t:Int):Fn prog 303 [pV b,.int .i64 t] (Ax b p s S G) (KK F C b p k (.tuple #[]) (ti S t) G):=by
 have mr:CF b p∈Ax b p s S G:=mR λ_ h=>h;have jH:=hK.c1;have ZT:=hK.kl;refine AN func303 ntmps303 λE=>?_;refine Aj ?_;refine EM ?_;refine Aj ?_;refine EM ?_;refine Aj ?_;refine CN (α:=Nat×KT×RL×Ac) (λx=>[(0,pV b),(1,.int .i64 t),(7,.int .i64 (S.K.length:Nat)),(8,.int .i64 x.1)]) (λx=>Ax b p x.2.2.1 x.2.1 x.2.2.2) (λx=>x.1<=S.K.length/\x.2.1=(List.range x.1).foldl (λS j=>cJ S t j) S/\IsK F C k x.2.1 p x.2.2.1/\Tail x.2.2.2 G) (λx=>S.K.length-x.1) (0,S,s,G) ⟨Bp _,rfl,hK,.nil⟩ ⟨rfl,rfl,rfl,rfl,trivial⟩ .refl ?_;rintro⟨j,S1,s1,L1⟩ ⟨hj,EG,EC,DO⟩;simp only at hj EG EC DO⊢;have GQ:CF b p∈Ax b p s1 S1 L1:=mR λ_ h=>h;have hs:(List.range (j+1)).foldl (λS j=>cJ S t j) S=cJ S1 t j:=by rw[CC,Fd,<-EG];rfl
 by_cases C9:j<S.K.length
 ·refine Aj ?_;refine EM ?_;unfold cJ at hs;obtain⟨u,hu⟩: ∃u,Ee S1.U j=u:=⟨_,rfl⟩
  rw[hu] at hs⊢;by_cases h0:u=t
  ·rw[Ad h0] at hs;refine Aj ?_;refine Gi ?_;intro S2 s2 L2 hS2 FW FN HV;refine Aj ?_;exact BO (j+1,S2,s2,L2) ⟨by simp only;omega,by simp only;exact hS2.trans hs.symm,FW,FN.trans DO⟩ (by simp only;omega) ⟨rfl,rfl,rfl,rfl,trivial⟩ .refl
  ·rw[Ab h0] at hs;refine Aj ?_;exact BO (j+1,S1,s1,L1) ⟨by simp only;omega,by simp only;exact hs.symm,EC,DO⟩ (by simp only;omega) ⟨rfl,rfl,rfl,rfl,trivial⟩ .refl
 ·obtain rfl:j=S.K.length:=by omega
  refine Aj ?_;exact A9
instance{t:Int}:EK prog F C b p 303 [pV b,.int .i64 t] k S k (.tuple #[]) (ti S t):=⟨λs G h=>jd h t⟩
def Xt(S:KT)(t:Int):KT:=ti {S with Q:=(Qu.backQ S.Q t).2} t
theorem oz(hK:IsK F C k S p s)(t:Int)(o:Jt)(x y:Cs):Fn prog 220 [OR b t o x y] (Ax b p s S G) (KK F C b p k (iV 0) (Xt S t) G):=by have mr:CF b p∈Ax b p s S G:=mR λ_ h=>h;unfold Xt;refine AN func220 ntmps220 λE=>?_;refine AQ λb1=>?_;refine CA (Cu [5] 0 6) ?_;refine CE ?_;refine MX ?_;intro S1 s1 L1 EG EC DO GQ;rw[<-EG];refine CE ?_;refine Aj ?_;refine Gi ?_;intro S2 s2 L2 hS2 FW FN HV;refine Aj ?_;exact A9
def fH(n:Int):Int:=if n=0 then 2 else if n=1 then 5 else 8
def QN(S:KT)(n:Int)(x y:Cs):Int×KT:=
 if ¬FH S x 9\/¬FH S y (fH n) then(8,S)
 else((Gv S.H y ((Ei S x).obj,n) (Er (D5 S.H.1 y) 7)).1,{S with H:=(Gv S.H y ((Ei S x).obj,n) (Er (D5 S.H.1 y) 7)).2})
theorem yN(hK:IsK F C (k+1) S p s)(t:Int)(o:Jt)(x y:Cs)(hn:0<=o.n0/\o.n0<=2):Fn prog 221 [OR b t o x y] (Ax b p s S G) (KK F C b p k (iV (QN S o.n0 x y).1) (QN S o.n0 x y).2 G):=by
 have mr:CF b p∈Ax b p s S G:=mR λ_ h=>h;obtain⟨R,hR⟩: ∃R,QN S o.n0 x y=R:=⟨_,rfl⟩
 rw[hR];unfold QN at hR;obtain⟨n,P2⟩: ∃n:Nat,o.n0=n:=⟨o.n0.toNat,Af⟩
 have hn3:n<3:=by omega
 have z0:(toArray (qj b t o x y))[2+4+(0:Int).toNat*1]?=some (iV o.n0):=rfl;have hv:(toArray [iV 2,iV 5,iV 8])[n]?=some (iV (fH o.n0)):=by
  rw[P2];have:n=0\/n=1\/n=2:=by omega
  rcases this with rfl|rfl|rfl<;>rfl
 refine AN func221 ntmps221 λE=>?_;refine AQ λb1=>?_;refine EM (vs:=[OR b t o x y,F6 x,.int .i64 9]) ?_;obtain⟨c,hc⟩: ∃c,Ei S x=c:=⟨_,rfl⟩
 rw[hc] at hR⊢;refine AQ λb3=>?_;refine CA (Cu [13,14] 0 16) ?_;refine CE ?_;refine Yu ?_ (GT (zs:=[iV 0,iV 0,iV 0]) (cs:=[iV 2,iV 5,iV 8]) rfl rfl);refine CE ?_;refine Yu (v:=iV (fH o.n0)) ?_ (by refine Xs (m:=n) rfl (by rw[<-P2];rfl) rfl hn3 hv);obtain⟨w,hw⟩: ∃w,fH o.n0=w:=⟨_,rfl⟩
 rw[hw] at hR⊢;refine mqa (vs:=[OR b t o x y,F6 y,.int .i64 w]) ?_;obtain⟨d,hd⟩: ∃d,Ei S y=d:=⟨_,rfl⟩
 rw[hd];refine CE ?_;refine Ij e_alloc (by rintro _ _ ⟨_,_,_,rfl⟩ c hc;exact .tail _ hc) ?_;rintro _ _ ⟨b5,_,rfl,rfl⟩;refine CE ?_;by_cases h0:¬FH S x 9\/¬FH S y w
 ·rw[Ad h0] at hR;subst hR;by_cases h1:FH S x 9<;>by_cases h2:FH S y w;all_goals first
   |(exfalso;simp[h1,h2] at h0;done)
   |(simp only[h1,h2,GK,HU]
     refine Aj ?_;exact A9)
 rw[Ab h0] at hR;subst hR;obtain⟨h1,h2⟩:FH S x 9/\FH S y w:=by simpa using h0
 simp only[h1,h2,GK];refine Aj ?_;refine CA (Cu [12] 0 14) ?_;refine CE ?_;obtain⟨z,hz⟩: ∃z:Cs,(c.obj,o.n0)=z:=⟨_,rfl⟩
 try rw[hz] at hR
 try rw[hz]
 refine MX (vs:=[pV p.h,F6 y,F6 z,.int .i64 7]) ?_ (hy:=by subst hz;rfl);intro S1 s1 L1 EG EC DO GQ;refine CE ?_;refine Aj ?_;exact A9
end
def U1(m e:Int)(n:Nat):List (Int×Int):=(List.range n).map λi:Nat=>(m+(i:Int)*e,m+(i:Int)*e+e)
theorem Zw(m e:Int)(h:i<=n):(U1 m e n).take i=U1 m e i:=by unfold U1;rw[<-Hd,G7,EW h]
theorem UD(m e:Int)(n:Nat):U1 m e (n+1)=U1 m e n++[(m+(n:Int)*e,m+(n:Int)*e+e)]:=by unfold U1;rw[CC,Aq];rfl
theorem fI(m e:Int)(h:i<n):U1 m e i++[(m+(i:Int)*e,m+(i:Int)*e+e)]<+:U1 m e n:=by rw[<-UD,<-Zw m e (show i+1<=n by omega)];exact BK _ _
abbrev pcV(x:Int×Int):Ap:=[iV x.1,iV x.2]
theorem cK(m e n:Int)(l:Ac):Fn prog 323 [.int .i64 m,.int .i64 e,.int .i64 n] l λv l'=> ∃B3 B4 B5,v= .func (.func 360) #[] #[pV B5,pV B3,pV B4]/\l'=BS B5 n::BS B4 e::BS B3 m::l:=by refine AN func323 ntmps323 λE=>?_;refine AQ λb3=>?_;refine AQ λb4=>?_;refine AQ λb5=>?_;exact Bb .refl ⟨_,_,_,rfl,rfl⟩
theorem Zx(B3 B4 B5:Nat)(m e:Int)(n:Nat)(hm:0<=m/\m<=64)(he:1<=e/\e<=64)(hn:n<=4):
 FC prog 360 [pV B5,pV B3,pV B4] pcV (λxs=>xs=U1 m e n) (λpre=>pre<+:U1 m e n) (λ_ l=>BS B5 n∈l/\BS B4 e∈l/\BS B3 m∈l):=by
 refine⟨λr I Ix G0 Cb hY l G hG h0=>?_⟩;obtain⟨n1,n2,n3⟩:=Cb _ _ G hG h0;refine AN func360 ntmps360 λE=>?_;refine Aj ?_;refine CN (α:=Nat×Ac) (λx=>[(0,.func (.yield r) #[] #[]),(1,pV B5),(2,pV B3),(3,pV B4),(6,.int .i64 n),(7,.int .i64 x.1)]) (λx=>x.2++G) (λx=>x.1<=n/\I (U1 m e x.1) x.2) (λx=>n-x.1) (0,l) ⟨Bp _,h0⟩ ⟨rfl,rfl,rfl,rfl,rfl,rfl,trivial⟩ .refl ?_;clear n1 n2 n3;rintro⟨k,l⟩ ⟨hk,hI⟩;simp only at hk hI⊢;obtain⟨n1,n2,n3⟩:=Cb _ _ G hG hI;by_cases C9:k<n
 ·have hke:(k:Int)*e<=4*64:=Int.mul_le_mul Af Af Af Af;have hk0:0<=(k:Int)*e:=Int.mul_nonneg Af Af;have hy:=hY (U1 m e k) (m+(k:Int)*e,m+(k:Int)*e+e) l G hG hI (fI m e C9);refine Aj ?_;refine AS (C5 rfl rfl hy) ?_;rintro v l' ⟨l1,rfl,⟨rfl,LB⟩|⟨rfl,hx⟩⟩
  ·rw[<-UD] at LB;refine Aj ?_;exact BO (k+1,l1) ⟨by simp only;omega,LB⟩ (by simp only;omega) ⟨rfl,rfl,rfl,rfl,rfl,rfl,trivial⟩ .refl
  ·refine Aj ?_;exact Bb .refl ⟨l1,rfl,.inr ⟨_,fI m e C9,hx⟩⟩
 ·obtain rfl:k=n:=by omega
  refine Aj ?_;exact Bb .refl ⟨l,rfl,.inl ⟨_,rfl,hI⟩⟩
def IO(t m e n:Int):(A4×Int)×Int:=
 if t<0\/64<t\/m<0\/t<m\/e<1\/64<e\/n<1\/4<n then(([],0),2)
 else if e*n>t-m then(([],0),7)
 else(((U1 m e n.toNat).map Prod.fst,m+n*e),0)
theorem yO{m e:Int}{pre:List (Int×Int)}{x:Int×Int}(h:pre++[x]<+:U1 m e n):x=(m+(pre.length:Int)*e,m+(pre.length:Int)*e+e)/\pre.length<n/\pre=U1 m e pre.length:=by
 have hl:=h.length_le;have hn:(U1 m e n).length=n:=by unfold U1;simp
 rw[hn,Ah,Bl] at hl;have h2:=IS.1 h;rw[Zw m e (by simp;omega),Ah,Bl,UD] at h2;obtain⟨h3,h4⟩:=JP h2 rfl;exact⟨by simpa using h4,Af,h3⟩
theorem Afm{cs:Ac}:((lo++cs)++c::T).Perm (lo++c::(cs++T)):=BX
theorem Acm{cs:Ac}:(lo++c::(cs++T)).Perm (lo++(cs++c::T)):=BX
theorem je(t m e n:Int)(l:Ac):Fn prog 283 [.int .i64 t,.int .i64 m,.int .i64 e,.int .i64 n] l λv l'=> ∃sl cs,v= .tuple #[sl,iV (IO t m e n).1.2,iV (IO t m e n).2]/\OwnSl 3 1 sl (IO t m e n).1.1.length ((IO t m e n).1.1.map CU) cs/\l'=cs++l:=by
 obtain⟨R,hR⟩: ∃R,IO t m e n=R:=⟨_,rfl⟩
 rw[hR];unfold IO at hR;refine AN func283 ntmps283 λE=>?_;refine Aj ?_;by_cases h1:t<0
 ·rw[Ad Af] at hR;subst hR;refine Aj ?_;exact CT _ .refl .refl ⟨_,[],rfl,OwnSl.nil _ _,rfl⟩
 by_cases h2:64<t
 ·rw[Ad Af] at hR;subst hR;refine Aj ?_;exact CT _ .refl .refl ⟨_,[],rfl,OwnSl.nil _ _,rfl⟩
 by_cases h3:m<0
 ·rw[Ad Af] at hR;subst hR;refine Aj ?_;exact CT _ .refl .refl ⟨_,[],rfl,OwnSl.nil _ _,rfl⟩
 by_cases h4:t<m
 ·rw[Ad Af] at hR;subst hR;refine Aj ?_;exact CT _ .refl .refl ⟨_,[],rfl,OwnSl.nil _ _,rfl⟩
 by_cases h5:e<1
 ·rw[Ad Af] at hR;subst hR;refine Aj ?_;exact CT _ .refl .refl ⟨_,[],rfl,OwnSl.nil _ _,rfl⟩
 by_cases h6:64<e
 ·rw[Ad Af] at hR;subst hR;refine Aj ?_;exact CT _ .refl .refl ⟨_,[],rfl,OwnSl.nil _ _,rfl⟩
 by_cases h7:n<1
 ·rw[Ad Af] at hR;subst hR;refine Aj ?_;exact CT _ .refl .refl ⟨_,[],rfl,OwnSl.nil _ _,rfl⟩
 by_cases h8:4<n
 ·rw[Ad Af] at hR;subst hR;refine Aj ?_;exact CT _ .refl .refl ⟨_,[],rfl,OwnSl.nil _ _,rfl⟩
 rw[Ab Af] at hR;obtain⟨n,rfl⟩: ∃k:Nat,n=k:=⟨n.toNat,Af⟩
 rw[A0] at hR;have hke:e*(n:Int)<=64*4:=Int.mul_le_mul Af Af Af Af;have hk0:0<=e*(n:Int):=Int.mul_nonneg Af Af;refine Aj ?_;by_cases h9:e*(n:Int)>t-m
 ·rw[Ad h9] at hR;subst hR;refine Aj ?_;exact CT _ .refl .refl ⟨_,[],rfl,OwnSl.nil _ _,rfl⟩
 rw[Ab h9] at hR;subst hR;refine AQ λM4=>?_;refine AQ λTb=>?_;refine AS (Az rfl rfl (cK m e n _)) ?_;rintro _ _ ⟨B3,B4,B5,rfl,rfl⟩;refine Aj ?_;refine Dg (α:=Int×Int) (ps:=[60,61]) (lb:=[pV B5,pV B3,pV B4]) rfl (Zx B3 B4 B5 m e n Af Af Af) (λ_=>rfl) rfl
  (λpre l1=> ∃v cs,OwnSl 3 1 v pre.length ((pre.map Prod.fst).map CU) cs/\l1=[BS B5 n,BS B4 e,BS B3 m,BS Tb (m+(pre.length:Int)*e),NJ M4 v]++cs) (λ_ _ _=>False)
  [BS B5 n,BS B4 e,BS B3 m,BS Tb m,NJ M4 (.slice none 0 0)] l (λpre l1 X hX h=>by obtain⟨v,cs,ho,rfl⟩:=h;exact⟨by simp,by simp,by simp⟩) (by exact AW) ⟨_,[],OwnSl.nil _ _,by simp⟩ ?_ ?_ λ_ _ _ _ _ h=>h.elim
 ·rintro E r0 FU pre x l1 T ⟨fn,tmps,D,rfl⟩ hX ⟨v,cs,ho,rfl⟩ Dw;obtain⟨rfl,C9,_⟩:=yO Dw;refine Em (.of_perm Afm) ?_;simp only[DX,Ae,Ag];refine Aj ?_;refine CK (by exact DY) ?_;refine Em (.of_perm (Acm (lo:=[BS B5 n,BS B4 e,BS B3 m,BS Tb (m+(pre.length:Int)*e),NJ M4 v]))) ?_;simp only[Ae,Ag];obtain⟨w,hw⟩: ∃w,m+(pre.length:Int)*e=w:=⟨_,rfl⟩
  rw[hw];refine Aj ?_;refine AS (Lj (v:=iV w) rfl rfl) ?_;rintro _ _ ⟨bz,_,rfl,rfl⟩;refine Aj ?_;refine AS (Hz (k:=1) (X:=[BS B5 n,BS B4 e,BS B3 m,BS Tb w,NJ M4 v]) (cs:=cs) (xs:=(pre.map Prod.fst).map CU) (n:=pre.length) (zs:=[iV 0]) (ws:=[iV w]) rfl rfl rfl ho rfl (by simp[Value.oneCell']) Af AX) ?_;rintro v2 _ ⟨NX,Fg,rfl⟩;simp only[Ae,Ag];have o2:=SU Fg;refine Aj ?_;refine Ci ([BS B5 n,BS B4 e,BS B3 m,BS Tb (w+e),NJ M4 v2]++NX) (by exact .refl) ?_;exact⟨v2,NX,by rw[Ah,Aq,Aq];exact Fg,by
   have:m+((pre.length+1:Nat):Int)*e=m+(pre.length:Int)*e+e:=by rw[Int.natCast_add,Int.add_mul];omega
   rw[Ah,Bl,this,hw];rfl⟩
 ·rintro D xs l1 rfl ⟨v,cs,ho,rfl⟩;have Eh:(U1 m e n).length=n:=by unfold U1;simp
  rw[Eh] at ho⊢;simp only[Ae,Ag];refine Aj ?_;refine CA (Cu [] 0 5) ?_;refine CE ?_;refine Aj ?_;have zJ:m+(n:Int)*e=m+(n:Int)*e:=rfl;exact AU [D] _ rfl .refl (by exact Ba) (by exact AW) ⟨v,cs,rfl,by rw[A7,Eh];exact ho,rfl⟩
def Zy(P:A4)(nd ix:Int)(n:Nat):List (Int×Cs):=(List.range n).map λi:Nat=>(P.getD i 0,(nd,ix+(i:Int)))
theorem Zz(P:A4)(nd ix:Int)(h:i<=n):(Zy P nd ix n).take i=Zy P nd ix i:=by unfold Zy;rw[<-Hd,G7,EW h]
theorem UE(P:A4)(nd ix:Int)(n:Nat):Zy P nd ix (n+1)=Zy P nd ix n++[(P.getD n 0,(nd,ix+(n:Int)))]:=by unfold Zy;rw[CC,Aq];rfl
theorem fJ(P:A4)(nd ix:Int)(h:i<n):Zy P nd ix i++[(P.getD i 0,(nd,ix+(i:Int)))]<+:Zy P nd ix n:=by rw[<-UE,<-Zz P nd ix (show i+1<=n by omega)];exact BK _ _
theorem fL(P:A4)(nd ix:Int)(n:Nat):(Zy P nd ix n).length=n:=by unfold Zy;simp
theorem oC{P:A4}{nd ix:Int}{pre:List (Int×Cs)}{x:Int×Cs}(h:pre++[x]<+:Zy P nd ix n):x=(P.getD pre.length 0,(nd,ix+(pre.length:Int)))/\pre.length<n/\pre=Zy P nd ix pre.length:=by have hl:=h.length_le;rw[fL,Ah,Bl] at hl;have h2:=IS.1 h;rw[Zz P nd ix (by simp;omega),Ah,Bl,UE] at h2;obtain⟨h3,h4⟩:=JP h2 rfl;exact⟨by simpa using h4,Af,h3⟩
abbrev kpV(x:Int×Cs):Ap:=[iV x.1,F6 x.2]
theorem RZ(v:Value)(hv:v.oneCell'=true)(nd ix:Int)(l:Ac):Fn prog 284 [v,.int .i64 nd,.int .i64 ix] l λv' l'=> ∃B3 B4 B5,v'= .func (.func 324) #[] #[pV B3,pV B4,pV B5]/\l'=BS B5 ix::BS B4 nd::NJ B3 v::l:=by refine AN func284 ntmps284 λE=>?_;refine Aj ?_;refine AS (Ez rfl hv) ?_;rintro _ _ ⟨b3,_,rfl,rfl⟩;refine AQ λb4=>?_;refine AQ λb5=>?_;exact Bb .refl ⟨_,_,_,rfl,rfl⟩
theorem QO(B3 B4 B5 gb cap:Nat)(P:A4)(sp:Ap)(nd ix:Int)(hP:P.length<=4)(hx:0<=ix/\ix<=100):
 FC prog 324 [pV B3,pV B4,pV B5] kpV (λxs=>xs=Zy P nd ix P.length) (λpre=>pre<+:Zy P nd ix P.length) (λ_ l=>NJ B3 (.slice (some ⟨gb,0,none⟩) P.length cap)∈l/\BS B4 nd∈l/\BS B5 ix∈l/\NU gb P sp∈l):=by
 refine⟨λr I Ix G0 Cb hY l G hG h0=>?_⟩;obtain⟨n1,n2,n3,n4⟩:=Cb _ _ G hG h0;refine AN func324 ntmps324 λE=>?_;refine Aj ?_;refine CN (α:=Nat×Ac) (λx=>[(0,.func (.yield r) #[] #[]),(2,pV B4),(3,pV B5),(7,.slice (some ⟨gb,0,none⟩) P.length cap),(8,.int .i64 (P.length:Nat)),(9,.int .i64 x.1)]) (λx=>x.2++G) (λx=>x.1<=P.length/\I (Zy P nd ix x.1) x.2) (λx=>P.length-x.1) (0,l) ⟨Bp _,h0⟩ ⟨rfl,rfl,rfl,rfl,rfl,rfl,trivial⟩ .refl ?_;clear n1 n2 n3 n4;rintro⟨k,l⟩ ⟨hk,hI⟩;simp only at hk hI⊢;obtain⟨n1,n2,n3,n4⟩:=Cb _ _ G hG hI;by_cases C9:k<P.length
 ·have hy:=hY (Zy P nd ix k) (P.getD k 0,(nd,ix+(k:Int))) l G hG hI (fJ P nd ix C9);obtain⟨t,ht⟩: ∃t,P.getD k 0=t:=⟨_,rfl⟩
  have c0:(toArray (P.map CU++sp))[k*1]?=some (.int .i64 t):=by rw[Dr,<-ht];exact RR C9
  rw[ht] at hy;refine Aj ?_;refine AS (C5 (vs:=[iV t,F6 (nd,ix+(k:Int))]) rfl rfl hy) ?_;rintro v l' ⟨l1,rfl,⟨rfl,LB⟩|⟨rfl,hx⟩⟩
  ·rw[<-ht,<-UE] at LB;refine Aj ?_;exact BO (k+1,l1) ⟨by simp only;omega,LB⟩ (by simp only;omega) ⟨rfl,rfl,rfl,rfl,rfl,rfl,trivial⟩ .refl
  ·rw[<-ht] at hx;refine Aj ?_;exact Bb .refl ⟨l1,rfl,.inr ⟨_,fJ P nd ix C9,hx⟩⟩
 ·obtain rfl:k=P.length:=by omega
  refine Aj ?_;exact Bb .refl ⟨l,rfl,.inl ⟨_,rfl,hI⟩⟩
def Pj(kind:Int):Int:=if kind=3 then 3 else if kind=8 then 7 else 0
theorem oD(kind:Int):0<=Pj kind/\Pj kind<=7:=by unfold Pj;repeat' split<;>constructor<;>omega
def R2(x:Cs)(kind size first:Int)(S:KT)(q:Int×Cs):KT:=
 {(KL S kind size (first+q.1)).2 with H:=(IK (KL S kind size (first+q.1)).2.H x q.2 ⟨kind,(KL S kind size (first+q.1)).1.1,Pj kind,0,0,0,0,0⟩).2}
def Mp(S:KT)(first:Int):List (Int×Cs)->Int->Option Int
 |[],c=>some c
 |q::r,c=>if ¬(getD' S.H.1 q.2).2=0 then none else Mp S first r (if ¬(Ei S q.2).kind=0\/Ar.nextD S.A (first+q.1)=0 then 11 else c)
def cL(S:KT)(x:Cs):Int:=if(Tr.belowD S.H.2 x).length=0 then 0 else(Ar.getD' S.A (Ei S x).obj).1.ma
def NB(S:KT)(o:Jt)(x:Cs):(A4×Int)×Int:=IO (Ar.getD' S.A (Ei S x).obj).1.fr (cL S x) (Ar.framesD o.n0 o.n1) (o.n2/16)
def cM(S:KT)(o:Jt)(x y:Cs):List (Int×Cs):=Zy (NB S o x).1.1 (Ei S y).obj (o.n2%16) (NB S o x).1.1.length
def oE(S:KT)(id m:Int):Int×KT:=((Ar.markD' S.A id m).1,{S with A:=(Ar.markD' S.A id m).2})
def Gy(S:KT)(o:Jt)(x y:Cs):Int×KT:=
 if ¬FH S x 1\/¬FH S y 2 then(8,S)
 else if ¬(NB S o x).2=0 then((NB S o x).2,S)
 else match Mp S (Ar.getD' S.A (Ei S x).obj).1.fi (cM S o x y) 0 with
 |none=>(3,S)
 |some code=>if ¬code=0 then(code,S) else oE ((cM S o x y).foldl (R2 x o.n0 o.n1 (Ar.getD' S.A (Ei S x).obj).1.fi) S) (Ei S x).obj (NB S o x).1.2
theorem jf(t m e n:Int)(h:(IO t m e n).2=0):1<=(IO t m e n).1.1.length:=by
 unfold IO U1 at h⊢
 split at h
 ·simp at h
 ·split at h
  ·simp at h
  ·rename_i h1 h2;rw[Ab h1,Ab h2];simp;omega
theorem ZA(S:KT)(fi c:Int)(q:Int×Cs)(r:List (Int×Cs)):Mp S fi (q::r) c=if ¬(getD' S.H.1 q.2).2=0 then none else Mp S fi r (if ¬(Ei S q.2).kind=0\/Ar.nextD S.A (fi+q.1)=0 then 11 else c):=rfl
theorem jg(t m e n:Int): ∀u,u∈(IO t m e n).1.1->0<=u/\u<=64:=by
 unfold IO U1
 split
 ·simp
 split
 ·simp
 rename_i h1 h2;intro u hu;simp only[CY,Av,Dz] at hu;obtain⟨i,hi,rfl⟩:=hu;simp only[Function.comp];have h3:(i:Int)*e<=n*e:=Int.mul_le_mul_of_nonneg_right Af Af;have h4:0<=(i:Int)*e:=Int.mul_nonneg Af Af;have h5:n*e=e*n:=Int.mul_comm _ _;omega
theorem IsK.obfi(h:IsK F C k S p s)(id:Int):0<=(Ar.getD' S.A id).1.fi/\(Ar.getD' S.A id).1.fi<=64:=by
 have h2:=h.ar.ok.n2;unfold Ar.getD'
 split
 ·rename_i k hk;obtain⟨h3,h4,_⟩:=h.ar.ok.num _ (Xe hk);exact⟨h3,by dsimp only;omega⟩
 ·exact⟨by decide,by decide⟩
theorem jh(t m e n:Int):(IO t m e n).1.1.length<=4:=by
 unfold IO U1
 repeat' split
 all_goals simp
 omega
section
variable{Q1:Act->World->Prop}{Q2:Exit->Act->World->Prop}{c:Code}{fr:Fr}{ds:List Deferred}{l:Ac}
theorem QP{α:Type}(fx:α->Fr)(lx:α->Ac)(pre:α->Prop)(h1:BR P ro N E c (Exit.then (dN N E fx ds lx pre) Q2) fr ds l)(h2: ∀x,pre x->C0 N E (Exit.then Q1 Q2) .normal (fx x) ds (lx x)):BR P ro N E c (Exit.then Q1 Q2) fr ds l:=
 ⟨λa W hf hds hs=>wpIn_mono (h1.run a W hf hds hs) λe a' W' h=>by
   cases e with
   |normal=>obtain⟨y,h3,h4,h5,h6⟩:=h;exact(h2 y h3).run a' W' h4 h5 h6
   |_=>exact h⟩
end
abbrev UF(B:Nat)(x:Int):Bd:=(B,.cells (toArray [iV x]) 29 (0,0))
abbrev fM(B:Nat)(o:Ar.ObT):Bd:=(B,.cells (toArray (Ar.obC o)) 100 (0,0))
section
instance tj{x y:Cs}{c:CapT}[hc:CW c]:EK prog F C b p 250 [pV p.h,F6 x,F6 y,Xb c] (k+1) S k (iV (IK S.H x y c).1) {S with H:=(IK S.H x y c).2}:=⟨λs G h=>r7 h Af (λn hn=>(hn.child x y c hc.out).mono Af) λn G hn h9=>T7 p.h S.H n hn h9 s.H h.ho x y c G⟩
theorem oF(hK:IsK F C (k+8) S p s)(t:Int)(o:Jt)(x y:Cs)(hn:0<=o.n2/\o.n2<=1000):Fn prog 209 [OR b t o x y] (Ax b p s S G) (KK F C b p k (iV (Gy S o x y).1) (Gy S o x y).2 G):=by
 have mr:CF b p∈Ax b p s S G:=mR λ_ h=>h;obtain⟨m9,h91,h92,_,h93⟩:=hK.small;obtain⟨R,hR⟩: ∃R,Gy S o x y=R:=⟨_,rfl⟩
 rw[hR];unfold Gy at hR;have z0:(toArray (qj b t o x y))[2+4+(0:Int).toNat*1]?=some (iV o.n0):=rfl;have z1:(toArray (qj b t o x y))[2+4+(1:Int).toNat*1]?=some (iV o.n1):=rfl;have z2:(toArray (qj b t o x y))[2+4+(2:Int).toNat*1]?=some (iV o.n2):=rfl;refine AN func209 ntmps209 λE=>?_;refine AQ λb1=>?_;refine AQ λb2=>?_;refine EM (vs:=[OR b t o x y,F6 x,.int .i64 1]) ?_;obtain⟨c,hc⟩: ∃c,Ei S x=c:=⟨_,rfl⟩
 rw[hc] at hR⊢;refine AQ λb3=>?_;refine EM (vs:=[OR b t o x y,F6 y,.int .i64 2]) ?_;obtain⟨d,hd⟩: ∃d,Ei S y=d:=⟨_,rfl⟩
 rw[hd];refine AQ λb5=>?_;by_cases h0:¬FH S x 1\/¬FH S y 2
 ·rw[Ad h0] at hR;subst hR;by_cases h1:FH S x 1<;>by_cases h2:FH S y 2;all_goals first
   |(exfalso;simp[h1,h2] at h0;done)
   |(simp only[h1,h2,GK,HU]
     refine Aj ?_;exact A9)
 rw[Ab h0] at hR;obtain⟨h1,h2⟩:FH S x 1/\FH S y 2:=by simpa using h0
 simp only[h1,h2,GK];refine Aj ?_;refine CA (Cu [9,10] 0 12) ?_;refine CE ?_;obtain⟨ob,gk⟩: ∃ob,(Ar.getD' S.A c.obj).1=ob:=⟨_,rfl⟩
 obtain⟨okb,hokb⟩: ∃k,(Ar.getD' S.A c.obj).2=k:=⟨_,rfl⟩
 rw[gk] at hR;rw[gk,hokb];refine Ij e_alloc (by rintro _ _ ⟨_,_,_,rfl⟩ c hc;exact .tail _ hc) ?_;rintro _ _ ⟨b7,_,rfl,rfl⟩;refine CE ?_;refine Aj ?_;refine CA (Cu [5] 0 8) ?_;refine CE ?_;refine LJ (Az rfl rfl (Ub p.h S.H s.H hK.ho Af x _ λy hy=> .tail _ (.tail _ (.tail _ (.tail _ (.tail _ (mH (λ_ h=>h) y hy))))))) ?_ rfl rfl;rintro sl _ ⟨cb,hob2,rfl⟩;obtain⟨pp,cap,rfl⟩:=hob2.shape;refine CE ?_;refine Aj ?_;obtain⟨mk,jO⟩: ∃m,cL S x=m:=⟨_,rfl⟩
 have Ael:=jO;unfold cL at jO;rw[hc,gk] at jO;refine QP (α:=Unit) (λ_=>[(1,pV b1),(2,pV b2),(3,pV b3),(5,pV b5),(7,pV b7),(9,iV mk)]) (λ_=>[fM b7 ob,Bz b5 d,Bz b3 c,UF b2 0,XR b1 b t o x y]++Ax b p s S G) (λ_=>True) ?_ ?_
 ·by_cases hl:(Tr.belowD S.H.2 x).length=0
  ·rw[Ad hl] at jO;subst jO;refine Aj ?_;exact Ep () trivial ⟨rfl,rfl,rfl,rfl,rfl,rfl,trivial⟩ (Keep.dropL' cb .refl)
  ·rw[Ab hl] at jO;subst jO;refine Aj ?_;exact Ep () trivial ⟨rfl,rfl,rfl,rfl,rfl,rfl,trivial⟩ (Keep.dropL' cb .refl)
 rintro- -;simp only[Ae,Ag];refine Aj ?_;refine QP (α:=Nat×Nat) (λz=>[(1,pV b1),(2,pV b2),(3,pV b3),(5,pV b5),(7,pV b7),(9,iV mk),(10,pV z.1),(11,pV z.2),(12,iV (o.n2%16))]) (λz=>[BS z.1 o.n0,BS z.2 o.n1,fM b7 ob,Bz b5 d,Bz b3 c,UF b2 0,XR b1 b t o x y]++Ax b p s S G) (λ_=>True) ?_ ?_
 ·refine KP [(0,true),(1,true),(2,true),(3,true),(4,true),(5,true),(6,true),(7,true),(8,true),(9,true),(10,true),(11,true),(12,true),(13,false),(14,false),(15,false),(16,false),(17,true)] [[],[0],[0,1],[0,1,2],[],[4],[4,5],[4,5,6],[],[8],[8,9],[8,9,10],[8,9,10,11],[],[],[0,1,2,3,13,14],[0,1,2,3,4,5,6,7,13,14,15],[0,1,2,3,4,5,6,7,8,9,10,11,12,13,14,15,16]] 13 14 ([XR b1 b t o x y]) BA BA GH ((UC BW)) ?_;refine BM ?_;refine Nd [(14,false),(13,false),(15,false),(16,false),(17,true)] GH (List.Perm.swap _ _ _) BA ?_ ?_;all_goals
   refine CM e_alloc rfl rfl rfl ?_ ?_
   ·rintro _ _ ⟨_,_,_,rfl⟩ c hc;exact .tail _ (UC BW c hc)
   rintro _ _ ⟨u,_,rfl,rfl⟩;refine CM e_alloc rfl rfl rfl ?_ ?_
   ·rintro _ _ ⟨_,_,_,rfl⟩ c hc;exact .tail _ (UC BW c hc)
   rintro _ _ ⟨v,_,rfl,rfl⟩;refine BM ?_
   first
    |exact Ep (u,v) trivial ⟨rfl,rfl,rfl,rfl,rfl,rfl,rfl,rfl,rfl,trivial⟩ (.of_perm (.swap _ _ _))
    |exact Ep (v,u) trivial ⟨rfl,rfl,rfl,rfl,rfl,rfl,rfl,rfl,rfl,trivial⟩ .refl
 rintro⟨Gd,M4⟩-;simp only[Ae,Ag];refine Aj ?_;refine CA (Cu [11] 0 19) ?_;refine CE ?_;refine LJ (Az rfl rfl (je ob.fr mk (Ar.framesD o.n0 o.n1) (o.n2/16) _)) ?_ rfl rfl;rintro _ _ ⟨sl,cs,rfl,Oz,rfl⟩;obtain⟨cv,hcv⟩: ∃cv,IO ob.fr mk (Ar.framesD o.n0 o.n1) (o.n2/16)=cv:=⟨_,rfl⟩
 have hcr:NB S o x=cv:=by unfold NB;rw[hc,gk,Ael];exact hcv
 have hcp:=jf ob.fr mk (Ar.framesD o.n0 o.n1) (o.n2/16);have NP:=jh ob.fr mk (Ar.framesD o.n0 o.n1) (o.n2/16);rw[hcv] at Oz hcp NP⊢;unfold cM at hR;rw[hcr] at hR;refine CE ?_;refine Aj ?_;by_cases h3:cv.2=0
 case neg=>rw[Ad h3] at hR;subst hR;refine Em (Keep.dropL' cs .refl) ?_;refine Aj ?_;exact A9
 rw[Ab (λh=>h h3),hd] at hR;have AaT:=hcp h3;obtain⟨P,hP⟩: ∃P,cv.1.1=P:=⟨_,rfl⟩
 obtain⟨en,hen⟩: ∃e,cv.1.2=e:=⟨_,rfl⟩
 rw[hP] at Oz NP AaT hR;rw[hen] at hR;try rw[hen]
 obtain⟨gb,cap2,sp,rfl,rfl⟩:=MR Oz AaT;simp only[Ae,Ag];refine AQ λP4=>?_;refine AS (Az rfl rfl (RZ _ rfl d.obj (o.n2%16) _)) ?_;rintro _ _ ⟨B3,B4,B5,rfl,rfl⟩;refine Aj ?_;have hfi:=hK.obfi c.obj;rw[gk] at hfi;have hPr: ∀u,u∈P->0<=u/\u<=64:=by rw[<-hP,<-hcv];exact jg _ _ _ _
 refine Uy (F:=F) (C:=C) (b:=b) (p:=p) (G:=G) (α:=Int×Cs) (ps:=[102,103]) (lb:=[pV B3,pV B4,pV B5]) rfl (QO B3 B4 B5 gb cap2 P sp d.obj (o.n2%16) NP ⟨Af,Af⟩) (λ_=>rfl) rfl
  (λpre k' S' lo=>k'=k+8/\S=S'/\ ∃ca,(∀r,Mp S ob.fi (pre++r) 0=Mp S ob.fi r ca)/\lo=[BS B5 (o.n2%16),BS B4 d.obj,NJ B3 (.slice (some ⟨gb,0,none⟩) P.length cap2),UF P4 ca,NU gb P sp,BS Gd o.n0,BS M4 o.n1,fM b7 ob,Bz b5 d,Bz b3 c,UF b2 0,XR b1 b t o x y])
  (λc' pre k' S' lo=>c'= .ret/\k'=k+8/\S=S'/\(∀r,Mp S ob.fi (pre++r) 0=none)/\ ∃ca:Int,lo=[BS B5 (o.n2%16),BS B4 d.obj,NJ B3 (.slice (some ⟨gb,0,none⟩) P.length cap2),UF P4 ca,NU gb P sp,BS Gd o.n0,BS M4 o.n1,fM b7 ob,Bz b5 d,Bz b3 c,UF b2 3,XR b1 b t o x y])
  (λpre lo k S s L X h hK=>by obtain⟨_,_,_,_,rfl⟩:=h;exact⟨by simp,by simp,by simp,by simp⟩)
  (.refl:Keep _ ([BS B5 (o.n2%16),BS B4 d.obj,NJ B3 (.slice (some ⟨gb,0,none⟩) P.length cap2),UF P4 0,NU gb P sp,BS Gd o.n0,BS M4 o.n1,fM b7 ob,Bz b5 d,Bz b3 c,UF b2 0,XR b1 b t o x y]++Ax b p s S G)) ⟨rfl,rfl,0,λ_=>rfl,rfl⟩ hK ?_ ?_ ?_
 ·rintro E r0 FU pre ⟨fp,si,sj⟩ lo k' S' s' L T ⟨fn,tmps,D,rfl⟩ hT ⟨rfl,rfl,ca,hca,rfl⟩ hK' Dw mr';obtain⟨hq,C9,Gn⟩:=oC Dw;have zH:0<=fp/\fp<=64:=by
   have e1:fp=P.getD pre.length 0:=BI Prod.fst hq;rw[e1];exact hPr _ (by rw[List.getD,Al C9];exact GB C9)
  have K3: ∀r,Mp S ob.fi ((pre++[(fp,(si,sj))])++r) 0=if ¬(getD' S.H.1 (si,sj)).2=0 then none else Mp S ob.fi r (if ¬(Ei S (si,sj)).kind=0\/Ar.nextD S.A (ob.fi+fp)=0 then 11 else ca):=λr=>by rw[Am,Cn,hca,ZA]
  obtain⟨hh,hhh⟩: ∃c,(getD' S.H.1 (si,sj)).1=c:=⟨_,rfl⟩
  obtain⟨e,he⟩: ∃e,(getD' S.H.1 (si,sj)).2=e:=⟨_,rfl⟩
  rw[he,show Ei S (si,sj)=hh from hhh] at K3;simp only[DX,Ae,Ag];refine AQ λkJ=>?_;refine CK (by exact DY) ?_;refine Aj ?_;refine CA (Cu [8,9] 0 11) ?_;refine CE ?_;rw[hhh,he];refine Ij e_alloc (by rintro _ _ ⟨_,_,_,rfl⟩ c hc;exact .tail _ hc) ?_;rintro _ _ ⟨uG,_,rfl,rfl⟩;refine CE ?_;refine Aj ?_;by_cases h5:e=0
  case neg=>refine Aj ?_;exact sL ([BS B5 (o.n2%16),BS B4 d.obj,NJ B3 (.slice (some ⟨gb,0,none⟩) P.length cap2),UF P4 ca,NU gb P sp,BS Gd o.n0,BS M4 o.n1,fM b7 ob,Bz b5 d,Bz b3 c,UF b2 3,XR b1 b t o x y]) (by exact AW) ⟨rfl,rfl,rfl,λr=>by rw[K3,Ad h5],ca,rfl⟩
  refine Aj ?_;obtain⟨nx,Wx⟩: ∃v,Ar.nextD S.A (ob.fi+fp)=v:=⟨_,rfl⟩
  rw[Wx] at K3;by_cases h6:hh.kind=0
  case' pos=>
   refine Cm [] 15 _ ?_ (hR:=(λ_ h=>h));refine BM ?_;refine VI ?_;refine BM ?_;refine VI ?_;rw[Wx];refine BM ?_;refine Aj ?_;by_cases h7:nx=0
   case' pos=>
    refine Aj ?_;exact iU ([BS B5 (o.n2%16),BS B4 d.obj,NJ B3 (.slice (some ⟨gb,0,none⟩) P.length cap2),UF P4 11,NU gb P sp,BS Gd o.n0,BS M4 o.n1,fM b7 ob,Bz b5 d,Bz b3 c,UF b2 0,XR b1 b t o x y]) (by exact AW) ⟨rfl,rfl,11,λr=>by rw[K3,Ab (λh=>h h5),Ad (.inr h7)],rfl⟩
   case' neg=>
    refine Aj ?_;exact iU ([BS B5 (o.n2%16),BS B4 d.obj,NJ B3 (.slice (some ⟨gb,0,none⟩) P.length cap2),UF P4 ca,NU gb P sp,BS Gd o.n0,BS M4 o.n1,fM b7 ob,Bz b5 d,Bz b3 c,UF b2 0,XR b1 b t o x y]) (by exact AW) ⟨rfl,rfl,ca,λr=>by rw[K3,Ab (λh=>h h5),Ab (by rintro(h|h);exact h h6;exact h7 h)],rfl⟩
  case' neg=>
   refine Cm [] 15 _ ?_ (hR:=(λ_ h=>h));refine BM ?_;refine Aj ?_;exact iU ([BS B5 (o.n2%16),BS B4 d.obj,NJ B3 (.slice (some ⟨gb,0,none⟩) P.length cap2),UF P4 11,NU gb P sp,BS Gd o.n0,BS M4 o.n1,fM b7 ob,Bz b5 d,Bz b3 c,UF b2 0,XR b1 b t o x y]) (by exact AW) ⟨rfl,rfl,11,λr=>by rw[K3,Ab (λh=>h h5),Ad (.inl h6)],rfl⟩
 case' refine_3=>
  rintro D c' pre lo k' S' s' L ⟨r,hr⟩ ⟨rfl,rfl,rfl,hcn,ca,rfl⟩ EC DO GQ;have hrc:=hcn r;rw[hr] at hrc;rw[hrc] at hR;dsimp only at hR;subst hR;simp only[Ae,Ag];refine Aj ?_;exact AU [D] _ rfl .refl (by exact Ba) (Keep.dropL' [BS B5 (o.n2%16),BS B4 d.obj,NJ B3 (.slice (some ⟨gb,0,none⟩) P.length cap2),UF P4 ca,NU gb P sp,BS Gd o.n0,BS M4 o.n1,fM b7 ob,Bz b5 d,Bz b3 c,UF b2 3,XR b1 b t o x y] .refl) ⟨rfl,s',L,EC.mono Af,DO,rfl⟩
 rintro D xs lo k' S' s' L rfl ⟨rfl,rfl,ca,hca,rfl⟩ EC DO GQ;have hrc:=hca [];rw[Bj] at hrc;rw[hrc] at hR;unfold Mp at hR;dsimp only at hR;simp only[Ae,Ag];refine Aj ?_;by_cases h8:ca=0
 case neg=>rw[Ad h8] at hR;subst hR;refine Aj ?_;exact AU [D] _ rfl .refl (by exact Ba) (Keep.dropL' [BS B5 (o.n2%16),BS B4 d.obj,NJ B3 (.slice (some ⟨gb,0,none⟩) P.length cap2),UF P4 ca,NU gb P sp,BS Gd o.n0,BS M4 o.n1,fM b7 ob,Bz b5 d,Bz b3 c,UF b2 ca,XR b1 b t o x y] .refl) ⟨rfl,s',L,EC.mono Af,DO,rfl⟩
 rw[Ab (λh=>h h8)] at hR;refine Aj ?_;refine AS (Az rfl rfl (RZ _ rfl d.obj (o.n2%16) _)) ?_;rintro _ _ ⟨B6,B7,B8,rfl,rfl⟩;refine Aj ?_;refine Uy (F:=F) (C:=C) (b:=b) (p:=p) (G:=L) (α:=Int×Cs) (ps:=[138,139]) (lb:=[pV B6,pV B7,pV B8]) (lo:=[BS B8 (o.n2%16),BS B7 d.obj,NJ B6 (.slice (some ⟨gb,0,none⟩) P.length cap2),NU gb P sp,Cr D,BS Gd o.n0,BS M4 o.n1,fM b7 ob,Bz b3 c,Bz b5 d,UF b2 0,XR b1 b t o x y]) (s:=s') (S:=S) rfl (QO B6 B7 B8 gb cap2 P sp d.obj (o.n2%16) NP ⟨Af,Af⟩) (λ_=>rfl) rfl
  (λpre k' S' lo=>k'+2*pre.length=k+8/\S'=pre.foldl (R2 x o.n0 o.n1 ob.fi) S/\lo=[BS B8 (o.n2%16),BS B7 d.obj,NJ B6 (.slice (some ⟨gb,0,none⟩) P.length cap2),NU gb P sp,Cr D,BS Gd o.n0,BS M4 o.n1,fM b7 ob,Bz b3 c,Bz b5 d,UF b2 0,XR b1 b t o x y])
  (λ_ _ _ _ _=>False)
  (λpre lo k S s L X h hK=>by obtain⟨_,_,rfl⟩:=h;exact⟨by simp,by simp,by simp,by simp⟩)
  (by exact AW) ⟨rfl,rfl,rfl⟩ EC ?_ ?_ (λ_ _ _ _ _ _ _ _ _ h=>h.elim)
 ·rintro E r0 FU pre ⟨fp,si,sj⟩ lo k' S' s2 L2 T ⟨fn,tmps,D2,rfl⟩ hT ⟨qv,kz,rfl⟩ hK' Dw mr';obtain⟨hq,C9,Gn⟩:=oC Dw;have zH:0<=fp/\fp<=64:=by
   have e1:fp=P.getD pre.length 0:=BI Prod.fst hq;rw[e1];exact hPr _ (by rw[List.getD,Al C9];exact GB C9)
  obtain⟨k2,rfl⟩: ∃j,k'=j+2:=⟨k'-2,Af⟩
  simp only[DX,Ae,Ag];refine AQ λb22=>?_;refine CK (by exact DY) ?_;refine Aj ?_;refine Gi ?_;intro S1 s1 L1 EG hK1' hT1' mr1';obtain⟨id,Vr⟩: ∃i,(KL S' o.n0 o.n1 (ob.fi+fp)).1.1=i:=⟨_,rfl⟩
  rw[Vr];refine AQ λb25=>?_;obtain⟨rg,ZZ⟩: ∃r,Pj o.n0=r:=⟨_,rfl⟩
  have Aen:=ZZ;have hrr:=oD o.n0;rw[ZZ] at hrr;have hcw:CW ⟨o.n0,id,rg,0,0,0,0,0⟩:=⟨by constructor<;>dsimp only<;>omega⟩
  unfold Pj at ZZ;by_cases h9:o.n0=3
  case' pos=>
   rw[Ad h9] at ZZ;refine Aj ?_
  case' neg=>
   rw[Ab h9] at ZZ;refine Aj ?_;by_cases U7:o.n0=8
   case' pos=>
    rw[Ad U7] at ZZ;refine Aj ?_
   case' neg=>
    rw[Ab U7] at ZZ;refine Aj ?_
  all_goals
   refine CA (Cu [7] 0 8) ?_;refine CE ?_;refine MX (vs:=[pV p.h,F6 x,F6 (si,sj),Xb ⟨o.n0,id,rg,0,0,0,0,0⟩]) ?_ (hy:=by rw[<-ZZ];rfl) (q:=tj (x:=x) (y:=(si,sj)) (c:=⟨o.n0,id,rg,0,0,0,0,0⟩));intro S2 s3 L3 hS2 FW FN HV;refine CE ?_;refine Aj ?_;exact iU (k:=k2) ([BS B8 (o.n2%16),BS B7 d.obj,NJ B6 (.slice (some ⟨gb,0,none⟩) P.length cap2),NU gb P sp,Cr D,BS Gd o.n0,BS M4 o.n1,fM b7 ob,Bz b3 c,Bz b5 d,UF b2 0,XR b1 b t o x y]) (by exact AW) ⟨by rw[Ah,Bl];omega,by rw[Fd,D6,GC,<-kz];unfold R2;rw[Vr,Aen,<-EG];exact hS2,rfl⟩
 rintro D2 xs lo k' S' s2 L2 rfl ⟨qv,kz,rfl⟩ FW FN HV;rw[fL] at qv;simp only[Ae,Ag];have gB:oE S' c.obj en=R:=by rw[kz];exact hR
 unfold oE at gB;refine Aj ?_;refine CA (Cu [6,7] 0 8) ?_;refine CE ?_;simp only[AM,AK,AR];refine MX ?_;intro S3 s3 L3 hS3 MW Lg Pu;rw[<-hS3] at gB;refine CE ?_;refine Aj ?_;subst gB;exact AU [D2,D] _ rfl (by exact AW) (by exact Ba) (.drop (.drop (.drop (.drop (.drop (.drop (.drop (.drop (.drop (.drop (.drop .refl))))))))))) ⟨rfl,s3,L3,MW.mono Af,Lg.trans (FN.trans DO),rfl⟩
end
section
def KX(S:KT)(n:Int)(x:Cs):Int×KT:=if ¬FH S x 9 then(8,S) else((QM S ((Ei S x).obj,n)).1.2,(QM S ((Ei S x).obj,n)).2)
def KY(S:KT)(x:Cs):Int×KT:=if ¬FH S x 9 then(8,S) else if ¬(Dq S (Ei S x).obj).st=0 then(16,S) else OK S (Ei S x).obj 1
def Ju(S:KT)(x:Cs):Int×KT:=if ¬FH S x 9 then(8,S) else IY S (Ei S x).obj
def fO(S:KT)(id pr:Int):KT:=if(Qu.dropQ S.Q id).1=true then{S with Q:=(Qu.addQ (Qu.dropQ S.Q id).2 id pr).2} else{S with Q:=(Qu.dropQ S.Q id).2}
def QQ(S:KT)(n:Int)(x:Cs):Int×KT:=
 if ¬FH S x 9 then(8,S) else(0,fO (DD S {Dq S (Ei S x).obj with pr:=n}) (Dq S (Ei S x).obj).id n)
theorem oG(hK:IsK F C k S p s)(t:Int)(o:Jt)(x y:Cs):Fn prog 222 [OR b t o x y] (Ax b p s S G) (KK F C b p k (iV (KX S o.n0 x).1) (KX S o.n0 x).2 G):=by
 have mr:CF b p∈Ax b p s S G:=mR λ_ h=>h;obtain⟨R,hR⟩: ∃R,KX S o.n0 x=R:=⟨_,rfl⟩
 rw[hR];unfold KX at hR;have z0:(toArray (qj b t o x y))[2+4+(0:Int).toNat*1]?=some (iV o.n0):=rfl;refine AN func222 ntmps222 λE=>?_;refine AQ λb1=>?_;refine EM (vs:=[OR b t o x y,F6 x,.int .i64 9]) ?_;obtain⟨c,hc⟩: ∃c,Ei S x=c:=⟨_,rfl⟩
 rw[hc] at hR⊢;refine AQ λb3=>?_;by_cases h1:FH S x 9
 case neg=>rw[Ad h1] at hR;subst hR;simp only[h1,HU];refine Aj ?_;exact A9
 rw[Ab (λh=>h h1)] at hR;simp only[h1,GK];refine Aj ?_;obtain⟨z,hz⟩: ∃z:Cs,(c.obj,o.n0)=z:=⟨_,rfl⟩
 rw[hz] at hR;refine Gi (vs:=[pV b,F6 z]) ?_ (hy:=by subst hz;rfl);intro S1 s1 L1 EG EC DO GQ;refine Aj ?_;subst hR;exact A9
theorem oH(hK:IsK F C (k+1) S p s)(t:Int)(o:Jt)(x y:Cs):Fn prog 223 [OR b t o x y] (Ax b p s S G) (KK F C b p k (iV (KY S x).1) (KY S x).2 G):=by
 have mr:CF b p∈Ax b p s S G:=mR λ_ h=>h;obtain⟨R,hR⟩: ∃R,KY S x=R:=⟨_,rfl⟩
 rw[hR];unfold KY at hR;refine AN func223 ntmps223 λE=>?_;refine AQ λb1=>?_;refine EM (vs:=[OR b t o x y,F6 x,.int .i64 9]) ?_;obtain⟨c,hc⟩: ∃c,Ei S x=c:=⟨_,rfl⟩
 rw[hc] at hR⊢;refine AQ λb3=>?_;by_cases h1:FH S x 9
 case neg=>rw[Ad h1] at hR;subst hR;simp only[h1,HU];refine Aj ?_;exact A9
 rw[Ab (λh=>h h1)] at hR;simp only[h1,GK];refine Aj ?_;refine CA (Cu [9,10] 0 12) ?_;refine CE ?_;obtain⟨u,hu⟩: ∃u,Dq S c.obj=u:=⟨_,rfl⟩
 rw[hu] at hR⊢;refine Ij e_alloc (by rintro _ _ ⟨_,_,_,rfl⟩ c hc;exact .tail _ hc) ?_;rintro _ _ ⟨b5,_,rfl,rfl⟩;refine CE ?_;by_cases h2:u.st=0
 case neg=>rw[Ad h2] at hR;subst hR;refine Aj ?_;exact A9
 rw[Ab (λh=>h h2)] at hR;refine Aj ?_;refine Gi ?_;intro S1 s1 L1 EG EC DO GQ;refine Aj ?_;subst hR;exact A9
theorem ji(hK:IsK F C k S p s)(t:Int)(o:Jt)(x y:Cs):Fn prog 224 [OR b t o x y] (Ax b p s S G) (KK F C b p k (iV (Ju S x).1) (Ju S x).2 G):=by
 have mr:CF b p∈Ax b p s S G:=mR λ_ h=>h;obtain⟨R,hR⟩: ∃R,Ju S x=R:=⟨_,rfl⟩
 rw[hR];unfold Ju at hR;refine AN func224 ntmps224 λE=>?_;refine AQ λb1=>?_;refine EM (vs:=[OR b t o x y,F6 x,.int .i64 9]) ?_;obtain⟨c,hc⟩: ∃c,Ei S x=c:=⟨_,rfl⟩
 rw[hc] at hR⊢;refine AQ λb3=>?_;by_cases h1:FH S x 9
 case neg=>rw[Ad h1] at hR;subst hR;simp only[h1,HU];refine Aj ?_;exact A9
 rw[Ab (λh=>h h1)] at hR;simp only[h1,GK];refine Aj ?_;refine Gi ?_;intro S1 s1 L1 EG EC DO GQ;refine Aj ?_;subst hR;exact A9
theorem yP(hK:IsK F C (k+1) S p s)(t:Int)(o:Jt)(x y:Cs):Fn prog 225 [OR b t o x y] (Ax b p s S G) (KK F C b p k (iV (QQ S o.n0 x).1) (QQ S o.n0 x).2 G):=by
 have mr:CF b p∈Ax b p s S G:=mR λ_ h=>h;obtain⟨R,hR⟩: ∃R,QQ S o.n0 x=R:=⟨_,rfl⟩
 rw[hR];unfold QQ fO at hR;have z0:(toArray (qj b t o x y))[2+4+(0:Int).toNat*1]?=some (iV o.n0):=rfl;refine AN func225 ntmps225 λE=>?_;refine AQ λb1=>?_;refine EM (vs:=[OR b t o x y,F6 x,.int .i64 9]) ?_;obtain⟨c,hc⟩: ∃c,Ei S x=c:=⟨_,rfl⟩
 rw[hc] at hR⊢;refine AQ λb3=>?_;by_cases h1:FH S x 9
 case neg=>rw[Ad h1] at hR;subst hR;simp only[h1,HU];refine Aj ?_;exact A9
 rw[Ab (λh=>h h1)] at hR;simp only[h1,GK];refine Aj ?_;refine CA (Cu [9,10] 0 12) ?_;refine CE ?_;have JA:=hK.tO c.obj;obtain⟨u,hu⟩: ∃u,Dq S c.obj=u:=⟨_,rfl⟩
 rw[hu] at hR JA⊢;refine Ij e_alloc (by rintro _ _ ⟨_,_,_,rfl⟩ c hc;exact .tail _ hc) ?_;rintro _ _ ⟨b5,_,rfl,rfl⟩;refine CE ?_;refine Aj ?_;refine CA (Cu [4] 0 5) ?_;refine CE ?_;refine MX (q:=OM {u with pr:=o.n0} ⟨JA.out⟩) ?_;intro S1 s1 L1 EG EC DO GQ;rw[show DD S {u with pr:=o.n0}=S1 from EG.symm] at hR;refine CE ?_;refine Aj ?_;refine CA (Cu [5] 0 6) ?_;refine CE ?_;refine MX ?_;intro S2 s2 L2 hS2 FW FN HV;rw[<-hS2] at hR;obtain⟨q,hq⟩: ∃q,(Qu.dropQ S1.Q u.id).1=q:=⟨_,rfl⟩
 rw[hq] at hR⊢;have eQ:(Qu.dropQ S1.Q u.id).2=S2.Q:=by rw[hS2]
 rw[eQ] at hR;refine CE ?_;cases q with
 |false=>rw[Ab AX] at hR;refine Aj ?_;subst hR;exact A9
 |true=>
 rw[Ad rfl] at hR;refine Aj ?_;refine CA (Cu [7] 0 8) ?_;refine CE ?_;refine MX ?_;intro S3 s3 L3 hS3 MW Lg Pu;refine CE ?_;refine Aj ?_;subst hR;have hS:S3={S1 with Q:=(Qu.addQ S2.Q u.id o.n0).2}:=by rw[hS3,hS2]
 exact A9
end
section
instance{t u:Th.ThT}[ht:AD t.gv][hu:AD u.inn]:EK prog F C b p 318 [pV b,Th.thV t,Th.thV u] (k+1) S k (.bool (QJ S t u).1) (QJ S t u).2:=⟨λs G h=>s9 h t u ht hu⟩
theorem yQ(S:KT)(t u:Th.ThT):(QJ S t u).2.T=S.T:=by unfold QJ;(repeat' split)<;>rfl
theorem vH{S':KT}(h:S'.T=S.T)(id:Int):Dq S' id=Dq S id:=by unfold Dq;rw[h]
abbrev vJ(id:Int)(m:OP)(bd:Int)(got:Bool):Ia:=⟨id,0,0,m,bd,got,0,0,false⟩
def Ko(S:KT)(t:Th.ThT)(id:Int)(m:OP)(bd:Int):Ia×KT:=
 (vJ id m bd (QJ S t (Dq S id)).1,DD (QJ S t (Dq S id)).2 (vG m bd (QJ S t (Dq S id)).1 (Dq S id)))
theorem oI(hK:IsK F C (k+1) S p s)(t:Th.ThT)(id:Int)(m:OP)(bd:Int)[ht:AD t.gv]:Fn prog 269 [pV b,Th.thV t,.int .i64 id,qh m,Be bd] (Ax b p s S G) (KK F C b p k (fy (Ko S t id m bd).1) (Ko S t id m bd).2 G):=by
 have mr:CF b p∈Ax b p s S G:=mR λ_ h=>h;have hu:AD (Dq S id).inn:=⟨by have:=hK.tG id;omega⟩
 have JA:=hK.tO id;obtain⟨R,hR⟩: ∃R,Ko S t id m bd=R:=⟨_,rfl⟩
 rw[hR];unfold Ko at hR;refine AN func269 ntmps269 λE=>?_;refine AQ λb6=>?_;refine AQ λb8=>?_;refine AQ λb9=>?_;refine AQ λGd=>?_;refine EM ?_;refine Aj ?_;refine EM ?_;obtain⟨u,hu1⟩: ∃u,Dq S id=u:=⟨_,rfl⟩
 rw[hu1] at hR hu JA⊢;refine AQ λM4=>?_;refine Gi ?_;intro S1 s1 L1 EG EC DO GQ;have e1:Dq S1 id=u:=by rw[EG,vH (yQ _ _ _),hu1]
 obtain⟨q,hq⟩: ∃q,QJ S t u=q:=⟨_,rfl⟩
 rw[hq] at hR EG⊢;rw[<-EG] at hR;obtain⟨got,hgot⟩: ∃g,q.1=g:=⟨_,rfl⟩
 rw[hgot] at hR⊢;refine AQ λWA=>?_;refine Vi (id:=id) (ol b8 b9 WA m bd got) ⟨by rw[e1];exact JA.out⟩ ?_;intro S2 s2 L2 hS2 FW FN HV;rw[e1] at hS2⊢;refine Aj ?_;subst hR;exact A9 (h:=Cq rfl (.tail _ (.tail _ (.head _))) (As.LSub.of_all (n:=12) (Si (vJ id m bd got)) rfl) .nil)
instance{t:Th.ThT}{id:Int}{m:OP}{bd:Int}[ht:AD t.gv]:EK prog F C b p 269 [pV b,Th.thV t,.int .i64 id,qh m,Be bd] (k+1) S k (fy (Ko S t id m bd).1) (Ko S t id m bd).2:=⟨λs G h=>oI h t id m bd⟩
def KZ(S:KT)(u:Int):KT:=if(Dq S u).ca=0 then S else(IY S (Dq S u).ca).2
def PY(S:KT)(t u:Int):KT:=(OK (DD (KZ S u) {Dq (KZ S u) u with ca:=t}) t 4).2
theorem tk(hK:IsK F C k S p s)(t u:Int):Fn prog 271 [pV b,.int .i64 t,.int .i64 u] (Ax b p s S G) (KK F C b p k (.tuple #[]) (PY S t u) G):=by
 have mr:CF b p∈Ax b p s S G:=mR λ_ h=>h;obtain⟨R,hR⟩: ∃R,PY S t u=R:=⟨_,rfl⟩
 rw[hR];unfold PY at hR;refine AN func271 ntmps271 λE=>?_;refine AQ λb4=>?_;refine EM ?_;refine Aj ?_;refine EM ?_;obtain⟨x,hx⟩: ∃x,Dq S u=x:=⟨_,rfl⟩
 rw[hx];refine AQ λb6=>?_;by_cases h0:x.ca=0
 ·rw[show KZ S u=S by unfold KZ;rw[hx,Ad h0]] at hR;refine Aj ?_;have JA:=hK.tO u;refine Vi (id:=u) (Wl b4 t) ⟨JA.out⟩ ?_;intro S2 s2 L2 hS2 FW FN HV;rw[<-hS2] at hR;refine Aj ?_;refine Gi ?_;intro S3 s3 L3 hS3 MW Lg Pu;refine Aj ?_;exact A9
 ·refine Aj ?_;refine Gi ?_;intro S1 s1 L1 EG EC DO GQ;rw[show KZ S u=S1 by unfold KZ;rw[hx,Ab h0,EG]] at hR;refine Aj ?_;have JA:=EC.tO u;refine Vi (id:=u) (Wl b4 t) ⟨JA.out⟩ ?_;intro S2 s2 L2 hS2 FW FN HV;rw[<-hS2] at hR;refine Aj ?_;refine Gi ?_;intro S3 s3 L3 hS3 MW Lg Pu;refine Aj ?_;exact A9
instance{t u:Int}:EK prog F C b p 271 [pV b,.int .i64 t,.int .i64 u] k S k (.tuple #[]) (PY S t u):=⟨λs G h=>tk h t u⟩
end
section
theorem OS{l:Ac}:(l++(lo++Ax b p s S G)).Perm (lo++Ax b p s S (l++G)):=by unfold Ax;exact BX
theorem Ik{l:Ac}:(lo++Ax b p s S (X++(l++G))).Perm (l++(lo++Ax b p s S (X++G))):=by unfold Ax;exact BX
theorem UG{t a:Int}(h:(HM S t a).2=0):(HM S t a).1=Dq S t/\MY S t=true/\(Dq S t).st=1/\0<=a/\a<=4096:=by
 unfold HM at h⊢
 split at h
 ·cases h
 ·rename_i h1;rw[Ab h1];simp only[not_or] at h1;exact⟨rfl,by cases hx:MY S t;exact absurd hx h1.1;rfl,Decidable.not_not.1 h1.2.1,Af,Af⟩
def sendH(S:KT)(x:Th.ThT)(t u:Int)(m:OP)(bd:Int)(cl:Bool):List Ia×KT:=
 if cl=true then([(Ko {S with E:=(En.removeD S.E u).2} x u m bd).1],PY (DD (OK (Ko {S with E:=(En.removeD S.E u).2} x u m bd).2 u 1).2 {Dq (OK (Ko {S with E:=(En.removeD S.E u).2} x u m bd).2 u 1).2 t with cl:=true}) t u)
 else([(Ko {S with E:=(En.removeD S.E u).2} x u m bd).1,NL t],(OK (Ko {S with E:=(En.removeD S.E u).2} x u m bd).2 u 1).2)
theorem cO(hK:IsK F C (k+2) S p s)(B1 B2 B3 B4 B5 B6 B7:Nat)(x:Th.ThT)(hx:AD x.gv)(t u:Int)(m:OP)(c:CapT)(cl:Bool):
 Zu prog 268 [pV B1,pV B2,pV B3,pV B4,pV B5,pV B6,pV B7] (λn:Ia=>[fy n]) ([rB B1 b,BS B2 u,Th.thC B3 x,U0 B4 m,Bz B5 c,XO B6 cl,BS B7 t]++Ax b p s S G) (λxs C'=>xs=(sendH S x t u m c.badge cl).1/\ ∃s' L,IsK F C k (sendH S x t u m c.badge cl).2 p s'/\Tail L G/\C'=[rB B1 b,BS B2 u,Th.thC B3 x,U0 B4 m,Bz B5 c,XO B6 cl,BS B7 t]++Ax b p s' (sendH S x t u m c.badge cl).2 L):=by
 refine⟨λr I hY l h0=>?_⟩;refine Fn.keep (.of_perm (OS (lo:=[rB B1 b,BS B2 u,Th.thC B3 x,U0 B4 m,Bz B5 c,XO B6 cl,BS B7 t]))) ?_;have mr:CF b p∈Ax b p s S (l++G):=mR λ_ h=>h;obtain⟨R,hR⟩: ∃R,sendH S x t u m c.badge cl=R:=⟨_,rfl⟩
 rw[hR];unfold sendH at hR;simp only[Ae,Ag];refine AN func268 ntmps268 λE=>?_;refine Aj ?_;refine CA (Cu [3] 0 4) ?_;refine CE ?_;refine MX ?_;intro S1 s1 L1 EG EC DO GQ;rw[<-EG] at hR;refine CE ?_;refine Aj ?_;refine Gi (vs:=[pV b,Th.thV x,.int .i64 u,qh m,Be c.badge]) ?_;intro S2 s2 L2 hS2 FW FN HV;rw[<-hS2] at hR;obtain⟨n1,Z7⟩: ∃n,(Ko S1 x u m c.badge).1=n:=⟨_,rfl⟩
 rw[Z7] at hR⊢;refine AQ λc9=>?_;refine Gi ?_;intro S3 s3 L3 hS3 MW Lg Pu;rw[<-hS3] at hR;refine Aj ?_;cases cl with
 |true=>rw[Ad rfl] at hR;refine Aj ?_;have JA:=MW.tO t;refine Vi (id:=t) i4 ⟨JA.out⟩ ?_;intro S4 s4 L4 hS4 hK4 jP mr4;rw[<-hS4] at hR;refine Aj ?_;refine Gi ?_;intro S5 s5 L5 hS5 hK5 hT5 mr5;rw[<-hS5] at hR;refine Aj ?_;obtain⟨X,rfl⟩:Tail L5 (l++G):=hT5.trans (jP.trans (Lg.trans (FN.trans DO)));refine Bs (.of_perm (Ik (lo:=[Vj c9 n1,rB B1 b,BS B2 u,Th.thC B3 x,U0 B4 m,Bz B5 c,XO B6 true,BS B7 t]))) ?_;refine AS (C5 (vs:=[fy n1]) rfl rfl (hY [] n1 l _ (Bp _) h0)) ?_;rintro v _ ⟨l1,rfl,hI,rfl⟩;refine Bs (.of_perm OS) ?_;simp only[Ae,Ag];refine Aj ?_;subst hR;exact CT _ .refl (.drop (.of_perm (Ik (X:=[]) (lo:=[rB B1 b,BS B2 u,Th.thC B3 x,U0 B4 m,Bz B5 c,XO B6 true,BS B7 t])))) ⟨[n1],l1,_,hI,⟨rfl,s5,X++G,hK5,⟨X,rfl⟩,rfl⟩,rfl⟩
 |false=>rw[Ab AX] at hR;refine Aj ?_;obtain⟨X,rfl⟩:Tail L3 (l++G):=Lg.trans (FN.trans DO);refine Bs (.of_perm (Ik (lo:=[Vj c9 n1,rB B1 b,BS B2 u,Th.thC B3 x,U0 B4 m,Bz B5 c,XO B6 false,BS B7 t]))) ?_;refine AS (C5 (vs:=[fy n1]) rfl rfl (hY [] n1 l _ (Bp _) h0)) ?_;rintro v _ ⟨l1,rfl,hI,rfl⟩;refine Bs (.of_perm OS) ?_;simp only[Ae,Ag];refine Aj ?_;refine Bs (.of_perm (Ik (X:=[]) (lo:=[Vj c9 n1,rB B1 b,BS B2 u,Th.thC B3 x,U0 B4 m,Bz B5 c,XO B6 false,BS B7 t]))) ?_;refine AS (C5 (vs:=[fy (NL t)]) rfl rfl (hY [n1] (NL t) l1 _ (by simp) hI)) ?_;rintro v _ ⟨l2,rfl,N6,rfl⟩;refine Bs (.of_perm OS) ?_;simp only[Ae,Ag];refine Aj ?_;subst hR;exact CT _ .refl (.drop (.of_perm (Ik (X:=[]) (lo:=[rB B1 b,BS B2 u,Th.thC B3 x,U0 B4 m,Bz B5 c,XO B6 false,BS B7 t])))) ⟨[n1,NL t],l2,_,N6,⟨rfl,s3,X++G,MW,⟨X,rfl⟩,rfl⟩,rfl⟩
end
theorem SX{cs Y:Ac}:Keep (cs++(lo++Y)) (cs++Y):=⟨lo,AA cs lo Y⟩
def KN(F C b:Nat)(p:RP)(k:Nat)(xs:List Ia)(co:Int)(S:KT)(G:Ac):Value->Ac->Prop:=λv l'=> ∃sl cs s L,v= .tuple #[sl,iV co]/\OwnSl 69 12 sl xs.length (Fx xs) cs/\IsK F C k S p s/\Tail L G/\l'=cs++Ax b p s S L
section
theorem F4{fr:Fr}{l:Ac}{fn:Func}{rs:List ResultVar}{k1:Nat}{S1:KT}{co:Int}{Γ:Ac->Ac}(hr:fn.results=rs.toArray:=by rfl)(h:ResS prog fr l rs [.slice none 0 0,iV co]:=by exact Ba)(hF:Fr1 (Ax b p s S1 L) l Γ:=by exact eJ)(hK:IsK F C k1 S1 p s:=by infer_instance)(ht:Tail L G:=by exact zTl)(hk:k<=k1:=by omega)(hS:S1=S:=by exact zSt):C0 N E (bodyPostM Fence.wide 0 prog fn (RK E (KN F C b p k [] co S G))) .ret fr [] l:=by subst hS;obtain⟨A,rfl,_⟩:=hF.eq;exact AU [] _ hr .refl h (Keep.dropL' A .refl) ⟨_,[],s,L,rfl,OwnSl.nil _ _,hK.mono hk,ht,rfl⟩
def Jv(S:KT)(t:Int)(x:Cs)(m:OP)(gv:Int)(cl:Bool):(List Ia×Int)×KT:=
 if ¬(HM S t gv).2=0 then(([],(HM S t gv).2),S)
 else if ¬(getD' S.H.1 x).2=0\/¬(Ei S x).kind=8 then(([],8),S)
 else if Mf (Ei S x).rights 2=0\/(¬gv=4096/\Mf (Ei S x).rights 4=0) then(([],9),S)
 else if(En.firstD S.E (Ei S x).obj).2.2=false\/(En.firstD S.E (Ei S x).obj).2.1=true then
  (([],0),(OK (DD {S with E:=(En.waitD S.E (Ei S x).obj t true).2} (fA m (Ei S x) gv cl (Dq S t))) t 2).2)
 else(((sendH S {Dq S t with gv:=gv} t (En.firstD S.E (Ei S x).obj).1 m (Ei S x).badge cl).1,0),(sendH S {Dq S t with gv:=gv} t (En.firstD S.E (Ei S x).obj).1 m (Ei S x).badge cl).2)
theorem cP(hK:IsK F C (k+2) S p s)(t:Int)(x:Cs)(m:OP)(gv:Int)(cl:Bool):Fn prog 204 [pV b,.int .i64 t,F6 x,qh m,.int .i64 gv,.bool cl] (Ax b p s S G) (KN F C b p k (Jv S t x m gv cl).1.1 (Jv S t x m gv cl).1.2 (Jv S t x m gv cl).2 G):=by
 have mr:CF b p∈Ax b p s S G:=mR λ_ h=>h;have JA:=hK.tO t;obtain⟨R,hR⟩: ∃R,Jv S t x m gv cl=R:=⟨_,rfl⟩
 rw[hR];unfold Jv at hR;refine AN func204 ntmps204 λE=>?_;refine AQ λb6=>?_;refine AQ λb7=>?_;refine AQ λb8=>?_;refine AQ λb9=>?_;refine AQ λGd=>?_;refine AQ λM4=>?_;refine EM ?_;have pO:=UG (S:=S) (t:=t) (a:=gv);obtain⟨r,hr⟩: ∃r,HM S t gv=r:=⟨_,rfl⟩
 rw[hr] at hR pO⊢;refine AQ λU5=>?_;by_cases h0:r.2=0
 case neg=>rw[Ad h0] at hR;subst hR;refine Aj ?_;exact F4
 rw[Ab (λh=>h h0)] at hR;obtain⟨e1,e2,e3,e4,e5⟩:=pO h0;obtain⟨y,hy⟩: ∃y,Dq S t=y:=⟨_,rfl⟩
 rw[hy] at e1 e3 hR JA;rw[e1];refine Aj ?_;refine CA (Cu [7,8] 0 10) ?_;refine CE ?_;obtain⟨c,hc⟩: ∃c,(getD' S.H.1 x).1=c:=⟨_,rfl⟩
 obtain⟨e,he⟩: ∃e,(getD' S.H.1 x).2=e:=⟨_,rfl⟩
 rw[show Ei S x=c from hc,he] at hR;rw[hc,he];refine Ij e_alloc (by rintro _ _ ⟨_,_,_,rfl⟩ c hc;exact .tail _ hc) ?_;rintro _ _ ⟨P4,_,rfl,rfl⟩;refine CE ?_;by_cases h1:¬e=0\/¬c.kind=8
 ·rw[Ad h1] at hR;subst hR;by_cases h2:e=0<;>by_cases h3:c.kind=8;all_goals first
   |(exfalso;omega)
   |(refine Aj ?_
     exact F4)
 rw[Ab h1] at hR;obtain⟨h2,h3⟩:e=0/\c.kind=8:=by omega
 refine Aj ?_;refine Bh (KV rfl rfl) ?_;obtain⟨w2,ko⟩: ∃w,Mf c.rights 2=w:=⟨_,rfl⟩
 obtain⟨w4,hw4⟩: ∃w,Mf c.rights 4=w:=⟨_,rfl⟩
 rw[ko,hw4] at hR;rw[ko];by_cases h4:w2=0\/(¬gv=4096/\w4=0)
 ·rw[Ad h4] at hR;subst hR;by_cases h5:w2=0
  ·refine Aj ?_;exact F4
  obtain⟨h6,h7⟩:¬gv=4096/\w4=0:=by omega
  refine Aj ?_;refine Yi (KV rfl rfl) rfl rfl rfl rfl rfl rfl ?_;rw[hw4];refine Aj ?_;exact F4
 rw[Ab h4] at hR;have h5:¬w2=0:=by omega
 by_cases h6:gv=4096
 case' pos=>refine Aj ?_
 case' neg=>
  have h7:¬w4=0:=by omega
  refine Aj ?_;refine Yi (KV rfl rfl) rfl rfl rfl rfl rfl rfl ?_;rw[hw4];refine Aj ?_
 all_goals
  obtain⟨f,hf⟩: ∃f,En.firstD S.E c.obj=f:=⟨_,rfl⟩
  rw[hf] at hR;refine KP [(0,true),(1,true),(2,true),(3,true),(4,false),(5,true),(6,true),(7,true),(8,true),(9,false),(10,false),(11,true),(12,true)] [[],[0],[],[2],[0,1,2,3],[0,1,2,3,4],[0,1,2,3,4,5],[0,1,2,3,4,5],[0,1,2,3,4,5],[],[0,1,2,3,4,5,6,9],[0,1,2,3,4,5,6,7,9,10],[0,1,2,3,4,5,6,7,8,9,10,11]] 4 9 ([rB b6 b,Bz P4 c,CF b p]) BA BA GH ((Wk BW BW BW)) ?_;refine BM ?_;refine VI ?_;refine BM ?_;refine Nd [(9,false),(4,false),(5,true),(6,true),(7,true),(8,true),(10,false),(11,true),(12,true)] GH (AI (l₁:=[_,_,_,_,_])).symm BA ?_ ?_
  case' refine_1=>
   refine pek ?_ ?_
   ·intro S2 s2 L2;have HV:CF b p∈Ax b p s2 S2 L2:=mR λ_ h=>h;exact Wk BW BW BW
   intro S1 s1 L1 EG EC DO GQ;iterate 4 refine Yq ?_
   refine CM e_alloc rfl rfl rfl ?_ ?_
   ·rintro _ _ ⟨_,_,_,rfl⟩ c hc;exact .tail _ (Wk BW BW BW c hc)
   rintro _ _ ⟨b17,_,rfl,rfl⟩
  case' refine_2=>
   refine CM e_alloc rfl rfl rfl ?_ ?_
   ·rintro _ _ ⟨_,_,_,rfl⟩ c hc;exact .tail _ (Wk BW BW BW c hc)
   rintro _ _ ⟨b17,_,rfl,rfl⟩;refine pek ?_ ?_
   ·intro S2 s2 L2;have HV:CF b p∈Ax b p s2 S2 L2:=mR λ_ h=>h;exact Wk BW BW BW
   intro S1 s1 L1 EG EC DO GQ;iterate 4 refine Yq ?_
  all_goals
   subst EG;rw[hf];refine pZ ?_ (hR:=Wk BW BW BW);refine BM ?_;refine Aj ?_;by_cases h8:f.2.2=false\/f.2.1=true
   ·rw[Ad h8] at hR;cases h9:f.2.2<;>cases U7:f.2.1;all_goals first
     |(exfalso;simp[h9,U7] at h8;done)
     |(refine Aj ?_
       refine CA (Cu [5] 0 6) ?_;refine CE ?_;refine MX ?_;intro S2 s2 L2 hS2 FW FN HV;refine CE ?_;refine Aj ?_;have e6:Dq S2 t=y:=by rw[hS2];exact hy
       refine Vi (id:=t) (om b9 P4 Gd M4 m c gv cl) ⟨by rw[e6];exact JA.out⟩ ?_;intro S3 s3 L3 hS3 MW Lg Pu;rw[e6] at hS3;rw[<-hS2,show DD S2 (fA m c gv cl y)=S3 from hS3.symm] at hR;refine Aj ?_;refine Gi ?_;intro S4 s4 L4 hS4 hK4 jP mr4;refine Aj ?_;rw[<-hS4] at hR;subst hR;exact F4)
   rw[Ab h8] at hR;obtain⟨h9,U7⟩:f.2.2=true/\f.2.1=false:=by simpa using h8
   rw[h9,U7];obtain⟨u,hu⟩: ∃u,f.1=u:=⟨_,rfl⟩
   rw[hu] at hR⊢;refine Aj ?_;have hx:AD ({y with gv:=gv}:Th.ThT).gv:=⟨by show gv<_;omega⟩
   refine AS (Az rfl rfl (Fn.keep ?_ (Rw (cO (b:=b) (G:=L1) EC b6 b17 U5 b9 P4 M4 b7 {y with gv:=gv} hx t u m c cl)))) ?_
   ·exact AW
   rintro sl _ ⟨xs,cs,C',ho,⟨rfl,s',L',hK',hT',rfl⟩,rfl⟩;refine Aj ?_;subst hR;exact CT _ .refl SX ⟨sl,cs,s',L',rfl,ho,hK',hT'.trans DO,rfl⟩
end
end Go.Proofs.YtlifcingifodfaaGreat
