/- Laws that the statement's proof leans on (joined out of several texts). -/
import Derived.Test.YtlifcingifodfaaGreatGc43
set_option maxHeartbeats 4000000
set_option linter.unusedVariables false
set_option linter.unusedSimpArgs false
namespace Go.Proofs.YtlifcingifodfaaGreat
open Tryz
open Go.RowKit
set_option maxRecDepth 20000
variable{F C k b N:Nat}{S:KT}{p:RP}{s:RL}{G Y cs l:Ad}{E:World}{co:Int}{Γ:Ad->Ad}
theorem SG{lo:Ad}:Keep (cs++(lo++Y)) (cs++Y):=⟨lo,Az cs lo Y⟩
def KN(F C b:Nat)(p:RP)(k:Nat)(xs:List Ii)(co:Int)(S:KT)(G:Ad):Value->Ad->Prop:=λv l'=> ∃sl cs s L,v= .tuple #[sl,iV co]/\OwnSl 69 12 sl xs.length (HW xs) cs/\IsK F C k S p s/\Tail L G/\l'=cs++Aw b p s S L
section
theorem FZ{fr:Fr}{fn:Func}{rs:List ResultVar}{k1:Nat}{S1:KT}{L:Ad}(hr:fn.results=rs.toArray:=by rfl)(h:ResS prog fr l rs [.slice none 0 0,iV co]:=by exact Ba)(hF:Fr1 (Aw b p s S1 L) l Γ:=by exact dI)(hK:IsK F C k1 S1 p s:=by infer_instance)(ht:Tail L G:=by exact zTl)(hk:k<=k1:=by omega)(hS:S1=S:=by exact zSt):CU N E (bodyPostM Fence.wide 0 prog fn (RK E (KN F C b p k [] co S G))) .ret fr [] l:=by subst hS;obtain⟨A,rfl,_⟩:=hF.eq;exact AV [] _ hr .refl h (Keep.dropL' A .refl) ⟨_,[],s,L,rfl,OwnSl.nil _ _,hK.mono hk,ht,rfl⟩
def Jn(S:KT)(t:Int)(x:Ck)(m:Oz)(gv:Int)(cl:Bool):(List Ii×Int)×KT:=
 if ¬(HH S t gv).2=0 then(([],(HH S t gv).2),S)
 else if ¬(getD' S.H.1 x).2=0\/¬(Ec S x).kind=8 then(([],8),S)
 else if LN (Ec S x).rights 2=0\/(¬gv=4096/\LN (Ec S x).rights 4=0) then(([],9),S)
 else if(En.firstD S.E (Ec S x).obj).2.2=false\/(En.firstD S.E (Ec S x).obj).2.1=true then
  (([],0),(Ov (DV {S with E:=(En.waitD S.E (Ec S x).obj t true).2} (ey m (Ec S x) gv cl (DW S t))) t 2).2)
 else(((sendH S {DW S t with gv:=gv} t (En.firstD S.E (Ec S x).obj).1 m (Ec S x).badge cl).1,0),(sendH S {DW S t with gv:=gv} t (En.firstD S.E (Ec S x).obj).1 m (Ec S x).badge cl).2)
theorem bO(hK:IsK F C (k+2) S p s)(t:Int)(x:Ck)(m:Oz)(gv:Int)(cl:Bool):Fn prog 204 [pV b,.int .i64 t,F4 x,pu m,.int .i64 gv,.bool cl] (Aw b p s S G) (KN F C b p k (Jn S t x m gv cl).1.1 (Jn S t x m gv cl).1.2 (Jn S t x m gv cl).2 G):=by
 have mr:CD b p∈Aw b p s S G:=mR λ_ h=>h;have Jq:=hK.tO t;obtain⟨R,hR⟩: ∃R,Jn S t x m gv cl=R:=⟨_,rfl⟩
 rw[hR];unfold Jn at hR;refine AO func204 ntmps204 λE=>?_;refine AQ λb6=>?_;refine AQ λb7=>?_;refine AQ λb8=>?_;refine AQ λb9=>?_;refine AQ λGX=>?_;refine AQ λLT=>?_;refine EI ?_;have jd:=Uw (S:=S) (t:=t) (a:=gv);obtain⟨r,hr⟩: ∃r,HH S t gv=r:=⟨_,rfl⟩
 rw[hr] at hR jd⊢;refine AQ λZN=>?_;by_cases h0:r.2=0
 case neg=>rw[Ac h0] at hR;subst hR;refine Aj ?_;exact FZ
 rw[Ab (λh=>h h0)] at hR;obtain⟨e1,e2,e3,e4,e5⟩:=jd h0;obtain⟨y,hy⟩: ∃y,DW S t=y:=⟨_,rfl⟩
 rw[hy] at e1 e3 hR Jq;rw[e1];refine Aj ?_;refine Cx (Cr [7,8] 0 10) ?_;refine CC ?_;obtain⟨c,hc⟩: ∃c,(getD' S.H.1 x).1=c:=⟨_,rfl⟩
 obtain⟨e,he⟩: ∃e,(getD' S.H.1 x).2=e:=⟨_,rfl⟩
 rw[show Ec S x=c from hc,he] at hR;rw[hc,he];refine Id e_alloc (by rintro _ _ ⟨_,_,_,rfl⟩ c hc;exact .tail _ hc) ?_;rintro _ _ ⟨PS,_,rfl,rfl⟩;refine CC ?_;by_cases h1:¬e=0\/¬c.kind=8
 ·rw[Ac h1] at hR;subst hR;by_cases h2:e=0<;>by_cases h3:c.kind=8;all_goals first
   |(exfalso;omega)
   |(refine Aj ?_
     exact FZ)
 rw[Ab h1] at hR;obtain⟨h2,h3⟩:e=0/\c.kind=8:=by omega
 refine Aj ?_;refine Be (Kz rfl rfl) ?_;obtain⟨w2,jC⟩: ∃w,LN c.rights 2=w:=⟨_,rfl⟩
 obtain⟨w4,hw4⟩: ∃w,LN c.rights 4=w:=⟨_,rfl⟩
 rw[jC,hw4] at hR;rw[jC];by_cases h4:w2=0\/(¬gv=4096/\w4=0)
 ·rw[Ac h4] at hR;subst hR;by_cases h5:w2=0
  ·refine Aj ?_;exact FZ
  obtain⟨h6,h7⟩:¬gv=4096/\w4=0:=by omega
  refine Aj ?_;refine XT (Kz rfl rfl) rfl rfl rfl rfl rfl rfl ?_;rw[hw4];refine Aj ?_;exact FZ
 rw[Ab h4] at hR;have h5:¬w2=0:=by omega
 by_cases h6:gv=4096
 case' pos=>refine Aj ?_
 case' neg=>
  have h7:¬w4=0:=by omega
  refine Aj ?_;refine XT (Kz rfl rfl) rfl rfl rfl rfl rfl rfl ?_;rw[hw4];refine Aj ?_
 all_goals
  obtain⟨f,hf⟩: ∃f,En.firstD S.E c.obj=f:=⟨_,rfl⟩
  rw[hf] at hR;refine Lw [(0,true),(1,true),(2,true),(3,true),(4,false),(5,true),(6,true),(7,true),(8,true),(9,false),(10,false),(11,true),(12,true)] [[],[0],[],[2],[0,1,2,3],[0,1,2,3,4],[0,1,2,3,4,5],[0,1,2,3,4,5],[0,1,2,3,4,5],[],[0,1,2,3,4,5,6,9],[0,1,2,3,4,5,6,7,9,10],[0,1,2,3,4,5,6,7,8,9,10,11]] 4 9 ([rB b6 b,Bv PS c,CD b p]) BB BB GZ ((V4 BW BW BW)) ?_;refine BS ?_;refine Vs ?_;refine BS ?_;refine N0 [(9,false),(4,false),(5,true),(6,true),(7,true),(8,true),(10,false),(11,true),(12,true)] GZ (AI (l₁:=[_,_,_,_,_])).symm BB ?_ ?_
  case' refine_1=>
   refine yR ?_ ?_
   ·intro S2 s2 L2;have HP:CD b p∈Aw b p s2 S2 L2:=mR λ_ h=>h;exact V4 BW BW BW
   intro S1 s1 L1 EA Ey DL GI;iterate 4 refine X6 ?_
   refine CS e_alloc rfl rfl rfl ?_ ?_
   ·rintro _ _ ⟨_,_,_,rfl⟩ c hc;exact .tail _ (V4 BW BW BW c hc)
   rintro _ _ ⟨b17,_,rfl,rfl⟩
  case' refine_2=>
   refine CS e_alloc rfl rfl rfl ?_ ?_
   ·rintro _ _ ⟨_,_,_,rfl⟩ c hc;exact .tail _ (V4 BW BW BW c hc)
   rintro _ _ ⟨b17,_,rfl,rfl⟩;refine yR ?_ ?_
   ·intro S2 s2 L2;have HP:CD b p∈Aw b p s2 S2 L2:=mR λ_ h=>h;exact V4 BW BW BW
   intro S1 s1 L1 EA Ey DL GI;iterate 4 refine X6 ?_
  all_goals
   subst EA;rw[hf];refine tP ?_ (hR:=V4 BW BW BW);refine BS ?_;refine Aj ?_;by_cases h8:f.2.2=false\/f.2.1=true
   ·rw[Ac h8] at hR;cases h9:f.2.2<;>cases Sa:f.2.1;all_goals first
     |(exfalso;simp[h9,Sa] at h8;done)
     |(refine Aj ?_
       refine Cx (Cr [5] 0 6) ?_;refine CC ?_;refine MG ?_;intro S2 s2 L2 hS2 FT FL HP;refine CC ?_;refine Aj ?_;have e6:DW S2 t=y:=by rw[hS2];exact hy
       refine U3 (id:=t) (nB b9 PS GX LT m c gv cl) ⟨by rw[e6];exact Jq.out⟩ ?_;intro S3 s3 L3 hS3 MD KQ PV;rw[e6] at hS3;rw[<-hS2,show DV S2 (ey m c gv cl y)=S3 from hS3.symm] at hR;refine Aj ?_;refine Gc ?_;intro S4 s4 L4 hS4 hK4 jm mr4;refine Aj ?_;rw[<-hS4] at hR;subst hR;exact FZ)
   rw[Ab h8] at hR;obtain⟨h9,Sa⟩:f.2.2=true/\f.2.1=false:=by simpa using h8
   rw[h9,Sa];obtain⟨u,hu⟩: ∃u,f.1=u:=⟨_,rfl⟩
   rw[hu] at hR⊢;refine Aj ?_;have hx:AD ({y with gv:=gv}:Th.ThT).gv:=⟨by show gv<_;omega⟩
   refine AR (AA rfl rfl (Fn.keep ?_ (Rl (bN (b:=b) (G:=L1) Ey b6 b17 ZN b9 PS LT b7 {y with gv:=gv} hx t u m c cl)))) ?_
   ·exact AU
   rintro sl _ ⟨xs,cs,C',ho,⟨rfl,s',L',hK',hT',rfl⟩,rfl⟩;refine Aj ?_;subst hR;exact CM _ .refl SG ⟨sl,cs,s',L',rfl,ho,hK',hT'.trans DL,rfl⟩
end
section
abbrev iQ(t:Th.ThT):Oz:=⟨t.o0,t.o1,t.o2,t.o3⟩
abbrev nS(t:Th.ThT):Th.ThT:={t with wa:=0,o0:=0,o1:=0,o2:=0,o3:=0,ob:=0,gv:=4096}
def recvW(S:KT)(w:Bool)(id t:Int):KT:=if w=true then PL S id t else(Ov S id 1).2
def recvH(S:KT)(t id:Int):List Ii×KT:=
 let x:=DW S id
 let h:=J8 {S with E:=(En.removeD S.E id).2} x t (iQ x) x.ob
 let w:=x.cl||x.fa
 let S2:=recvW h.2 w id t
 (if w=true then[h.1] else[h.1,Np id],DV S2 (nS (DW S2 id)))
theorem bP(hK:IsK F C (k+2) S p s)(B1 B2 B3:Nat)(t id:Int):
 Y8 prog 276 [pV B1,pV B2,pV B3] (λn:Ii=>[eu n]) ([rB B1 b,BP B2 id,BP B3 t]++Aw b p s S G) (λxs C'=>xs=(recvH S t id).1/\ ∃s' L,IsK F C k (recvH S t id).2 p s'/\Tail L G/\C'=[rB B1 b,BP B2 id,BP B3 t]++Aw b p s' (recvH S t id).2 L):=by
 refine⟨λr I hY l h0=>?_⟩;refine Fn.keep (.of_perm (OE (lo:=[rB B1 b,BP B2 id,BP B3 t]))) ?_;have mr:CD b p∈Aw b p s S (l++G):=mR λ_ h=>h;have Ada:=hK.tO id;have hgv:AD (DW S id).gv:=⟨by have:=hK.tG id;omega⟩
 obtain⟨R,hR⟩: ∃R,recvH S t id=R:=⟨_,rfl⟩
 rw[hR];unfold recvH at hR;simp only[Ae,Ag];refine AO func276 ntmps276 λE=>?_;refine Aj ?_;refine Cx (Cr [3] 0 4) ?_;refine CC ?_;refine MG ?_;intro S1 s1 L1 EA Ey DL GI;rw[<-EA] at hR;refine CC ?_;refine Aj ?_;refine Cx (Cr [7,8] 0 10) ?_;refine CC ?_;have e1:DW S1 id=DW S id:=ut (by rw[EA]) id;rw[e1];obtain⟨x,hx⟩: ∃x,DW S id=x:=⟨_,rfl⟩
 rw[hx] at hR Ada hgv e1⊢;refine Id e_alloc (by rintro _ _ ⟨_,_,_,rfl⟩ c hc;exact .tail _ hc) ?_;rintro _ _ ⟨c5,_,rfl,rfl⟩;refine CC ?_;refine Aj ?_;refine Gc (q:=(⟨λs G h=>nR h x t (iQ x) x.ob⟩:EK prog F C b p 269 [pV b,Th.thV x,.int .i64 t,pu (iQ x),Bc x.ob] (k+2) S1 (k+1) _ _)) ?_;intro S2 s2 L2 hS2 FT FL HP;dsimp only at hR;rw[<-hS2] at hR;obtain⟨n1,ZC⟩: ∃n,(J8 S1 x t (iQ x) x.ob).1=n:=⟨_,rfl⟩
 rw[ZC] at hR⊢;refine AQ λc7=>?_;obtain⟨w,hw⟩: ∃w,(x.cl||x.fa)=w:=⟨_,rfl⟩
 rw[hw] at hR;unfold recvW at hR;have hcf:(x.cl=true/\w=true)\/(x.cl=false/\x.fa=w):=by
  cases h1:x.cl<;>rw[h1] at hw<;>simp at hw
  ·exact .inr ⟨rfl,hw⟩
  ·exact .inl ⟨rfl,hw⟩
 rcases hcf with⟨h1,rfl⟩|⟨h1,h2⟩
 case' inr=>cases w
 case' inl=>
  rw[Ac rfl,Ac rfl] at hR;rw[h1];refine Aj ?_;refine Gc ?_;intro S3 s3 L3 hS3 MD KQ PV;refine Aj ?_
 case' inr.true=>
  rw[Ac rfl,Ac rfl] at hR;rw[h1,h2];refine Aj ?_;refine Gc ?_;intro S3 s3 L3 hS3 MD KQ PV;refine Aj ?_
 case' inr.false=>
  rw[Ab AZ,Ab AZ] at hR;rw[h1,h2];refine Aj ?_;refine Gc ?_;intro S3 s3 L3 hS3 MD KQ PV;refine Aj ?_
 all_goals
  rw[<-hS3] at hR;have Jq:=MD.tO id;refine U3 (id:=id) iD ⟨Jq.out⟩ ?_;intro S4 s4 L4 hS4 hK4 jm mr4;rw[show DV S3 (nS (DW S3 id))=S4 from hS4.symm] at hR;refine Aj ?_;obtain⟨X,rfl⟩:Tail L4 (l++G):=jm.trans (KQ.trans (FL.trans DL))
  first
   |refine Bq (.of_perm (Ie (lo:=[U4 c7 n1,Th.thC c5 {x with cl:=true},rB B1 b,BP B2 id,BP B3 t]))) ?_
   |refine Bq (.of_perm (Ie (lo:=[U4 c7 n1,Th.thC c5 {x with cl:=false,fa:=true},rB B1 b,BP B2 id,BP B3 t]))) ?_
   |refine Bq (.of_perm (Ie (lo:=[U4 c7 n1,Th.thC c5 {x with cl:=false,fa:=false},rB B1 b,BP B2 id,BP B3 t]))) ?_
  refine AR (C0 (vs:=[eu n1]) rfl rfl (hY [] n1 l _ (Bm _) h0)) ?_;rintro v _ ⟨l1,rfl,hI,rfl⟩;refine Bq (.of_perm OE) ?_;simp only[Ae,Ag]
  first
   |(have hgo:R.1=[n1]:=by rw[<-hR]
     refine Aj ?_;subst hR;exact AV [] _ rfl .refl (by exact Ba) (.drop (.drop (.of_perm (Ie (X:=[]) (lo:=[rB B1 b,BP B2 id,BP B3 t]))))) ⟨[n1],l1,_,hI,⟨rfl,s4,X++G,hK4.mono Af,⟨X,rfl⟩,rfl⟩,rfl⟩)
   |(have hgo:R.1=[n1,Np id]:=by rw[<-hR]
     refine Aj ?_;refine Bq (.of_perm (Ie (X:=[]) (lo:=[U4 c7 n1,Th.thC c5 {x with cl:=false,fa:=false},rB B1 b,BP B2 id,BP B3 t]))) ?_;refine AR (C0 (vs:=[eu (Np id)]) rfl rfl (hY [n1] (Np id) l1 _ (by simp) hI)) ?_;rintro v _ ⟨l2,rfl,NP,rfl⟩;refine Bq (.of_perm OE) ?_;simp only[Ae,Ag];refine Aj ?_;subst hR;exact AV [] _ rfl .refl (by exact Ba) (.drop (.drop (.of_perm (Ie (X:=[]) (lo:=[rB B1 b,BP B2 id,BP B3 t]))))) ⟨[n1,Np id],l2,_,NP,⟨rfl,s4,X++G,hK4.mono Af,⟨X,rfl⟩,rfl⟩,rfl⟩)
def replyH(S:KT)(ca:Int)(m:Oz)(t:Int):List Ii×KT:=
 let c:=DW S ca
 (if c.fa=true then[Np t] else[⟨c.id,0,0,m,0,false,0,0,false⟩,Np t],(Ov (DV S (OA m (DW S c.id))) c.id 1).2)
theorem iR{m:Oz}{t:Th.ThT}(h:TW t):TW (OA m t):=by
 unfold OA
 split<;>exact⟨h.out⟩
theorem Zf(hK:IsK F C (k+1) S p s)(B1 B2 B3 B4:Nat)(x:Th.ThT)(m:Oz)(t:Int):
 Y8 prog 279 [pV B1,pV B2,pV B3,pV B4] (λn:Ii=>[eu n]) ([rB B1 b,Th.thC B2 x,UO B3 m,BP B4 t]++Aw b p s S G) (λxs C'=>xs=(replyH S x.ca m t).1/\ ∃s' L,IsK F C k (replyH S x.ca m t).2 p s'/\Tail L G/\C'=[rB B1 b,Th.thC B2 x,UO B3 m,BP B4 t]++Aw b p s' (replyH S x.ca m t).2 L):=by
 refine⟨λr I hY l h0=>?_⟩;refine Fn.keep (.of_perm (OE (lo:=[rB B1 b,Th.thC B2 x,UO B3 m,BP B4 t]))) ?_;have mr:CD b p∈Aw b p s S (l++G):=mR λ_ h=>h;obtain⟨R,hR⟩: ∃R,replyH S x.ca m t=R:=⟨_,rfl⟩
 rw[hR];unfold replyH at hR;simp only[Ae,Ag];refine AO func279 ntmps279 λE=>?_;refine Aj ?_;refine Cx (Cr [8,9] 0 11) ?_;refine CC ?_;obtain⟨c,hc⟩: ∃c,DW S x.ca=c:=⟨_,rfl⟩
 rw[hc] at hR⊢;dsimp only at hR;refine Id e_alloc (by rintro _ _ ⟨_,_,_,rfl⟩ c hc;exact .tail _ hc) ?_;rintro _ _ ⟨c6,_,rfl,rfl⟩;refine CC ?_;refine Aj ?_;have Jq:=hK.tO c.id;refine U3 (id:=c.id) (bH B3 m) (iR Jq) ?_;intro S1 s1 L1 EA Ey DL GI;rw[show DV S (OA m (DW S c.id))=S1 from EA.symm] at hR;refine Aj ?_;refine Gc ?_;intro S2 s2 L2 hS2 FT FL HP;rw[<-hS2] at hR;refine Aj ?_;obtain⟨X,rfl⟩:Tail L2 (l++G):=FL.trans DL;cases hf:c.fa with
 |true=>rw[Ac hf] at hR;refine Aj ?_;refine Bq (.of_perm (Ie (lo:=[Th.thC c6 {c with fa:=true},rB B1 b,Th.thC B2 x,UO B3 m,BP B4 t]))) ?_;refine AR (C0 (vs:=[eu (Np t)]) rfl rfl (hY [] (Np t) l _ (Bm _) h0)) ?_;rintro v _ ⟨l1,rfl,hI,rfl⟩;refine Aj ?_;subst hR;exact CM _ .refl (Keep.trans (.of_perm OE) (.drop (.of_perm (Ie (X:=[]) (lo:=[rB B1 b,Th.thC B2 x,UO B3 m,BP B4 t]))))) ⟨[Np t],l1,_,hI,⟨rfl,s2,X++G,FT,⟨X,rfl⟩,rfl⟩,rfl⟩
 |false=>
  rw[Ab (by rw[hf];decide)] at hR;refine Aj ?_;obtain⟨n1,ZC⟩: ∃n:Ii,n=⟨c.id,0,0,m,0,false,0,0,false⟩:=⟨_,rfl⟩
  refine Bq (.of_perm (Ie (lo:=[Th.thC c6 {c with fa:=false},rB B1 b,Th.thC B2 x,UO B3 m,BP B4 t]))) ?_;refine Jr (C0 (vs:=[eu n1]) rfl (by rw[ZC];rfl) (hY [] n1 l _ (Bm _) h0)) rfl rfl rfl ?_;rintro v _ ⟨l1,rfl,hI,rfl⟩;refine Bq (.of_perm OE) ?_;simp only[Ae,Ag];refine Aj ?_;refine Bq (.of_perm (Ie (X:=[]) (lo:=[Th.thC c6 {c with fa:=false},rB B1 b,Th.thC B2 x,UO B3 m,BP B4 t]))) ?_;refine AR (C0 (vs:=[eu (Np t)]) rfl rfl (hY [n1] (Np t) l1 _ (by simp) hI)) ?_;rintro v _ ⟨l2,rfl,NP,rfl⟩;refine Aj ?_;subst hR;subst ZC;exact CM _ .refl (Keep.trans (.of_perm OE) (.drop (.of_perm (Ie (X:=[]) (lo:=[rB B1 b,Th.thC B2 x,UO B3 m,BP B4 t]))))) ⟨_,l2,_,NP,⟨rfl,s2,X++G,FT,⟨X,rfl⟩,rfl⟩,rfl⟩
end
section
def OF(S:KT)(t:Int)(x:Ck)(inn:Int):(List Ii×Int)×KT:=
 if ¬(HH S t inn).2=0 then(([],(HH S t inn).2),S)
 else if ¬(getD' S.H.1 x).2=0\/¬(Ec S x).kind=8 then(([],8),S)
 else if LN (Ec S x).rights 1=0 then(([],9),S)
 else if(En.firstD S.E (Ec S x).obj).2.2=false\/(En.firstD S.E (Ec S x).obj).2.1=false then
  (([],0),(Ov (DV {DV S {DW S t with inn:=inn} with E:=(En.waitD S.E (Ec S x).obj t false).2} {DW (DV S {DW S t with inn:=inn}) t with wa:=(Ec S x).obj}) t 3).2)
 else(((recvH (DV S {DW S t with inn:=inn}) t (En.firstD S.E (Ec S x).obj).1).1,0),(recvH (DV S {DW S t with inn:=inn}) t (En.firstD S.E (Ec S x).obj).1).2)
theorem xD(hK:IsK F C (k+2) S p s)(t:Int)(x:Ck)(inn:Int):Fn prog 207 [pV b,.int .i64 t,F4 x,.int .i64 inn] (Aw b p s S G) (KN F C b p k (OF S t x inn).1.1 (OF S t x inn).1.2 (OF S t x inn).2 G):=by
 have mr:CD b p∈Aw b p s S G:=mR λ_ h=>h;have Jq:=hK.tO t;obtain⟨R,hR⟩: ∃R,OF S t x inn=R:=⟨_,rfl⟩
 rw[hR];unfold OF at hR;refine AO func207 ntmps207 λE=>?_;refine AQ λb4=>?_;refine AQ λb5=>?_;refine AQ λb6=>?_;refine AQ λb7=>?_;refine EI ?_;have jd:=Uw (S:=S) (t:=t) (a:=inn);obtain⟨r,hr⟩: ∃r,HH S t inn=r:=⟨_,rfl⟩
 rw[hr] at hR jd⊢;refine AQ λGX=>?_;by_cases h0:r.2=0
 case neg=>rw[Ac h0] at hR;subst hR;refine Aj ?_;exact FZ
 rw[Ab (λh=>h h0)] at hR;obtain⟨e1,e2,e3,e4,e5⟩:=jd h0;refine Aj ?_;refine Cx (Cr [7,8] 0 10) ?_;refine CC ?_;obtain⟨c,hc⟩: ∃c,(getD' S.H.1 x).1=c:=⟨_,rfl⟩
 obtain⟨e,he⟩: ∃e,(getD' S.H.1 x).2=e:=⟨_,rfl⟩
 rw[show Ec S x=c from hc,he] at hR;rw[hc,he];refine Id e_alloc (by rintro _ _ ⟨_,_,_,rfl⟩ c hc;exact .tail _ hc) ?_;rintro _ _ ⟨SP,_,rfl,rfl⟩;refine CC ?_;by_cases h1:¬e=0\/¬c.kind=8
 ·rw[Ac h1] at hR;subst hR;by_cases h2:e=0<;>by_cases h3:c.kind=8;all_goals first
   |(exfalso;omega)
   |(refine Aj ?_
     exact FZ)
 rw[Ab h1] at hR;obtain⟨h2,h3⟩:e=0/\c.kind=8:=by omega
 refine Aj ?_;refine Be (Kz rfl rfl) ?_;obtain⟨w,hw⟩: ∃w,LN c.rights 1=w:=⟨_,rfl⟩
 rw[hw] at hR⊢;by_cases h4:w=0
 ·rw[Ac h4] at hR;subst hR;refine Aj ?_;exact FZ
 rw[Ab h4] at hR;refine Aj ?_;refine U3 (id:=t) (nD b7 inn) ⟨Jq.out⟩ ?_;intro S0 s0 L0 hS0 hK0 QY mr0;rw[show DV S {DW S t with inn:=inn}=S0 from hS0.symm] at hR;have eE:S0.E=S.E:=by rw[hS0]
 rw[<-eE] at hR;refine Aj ?_;obtain⟨f,hf⟩: ∃f,En.firstD S0.E c.obj=f:=⟨_,rfl⟩
 rw[hf] at hR;refine Lw [(0,true),(1,true),(2,true),(3,true),(4,false),(5,true),(6,true),(7,true),(8,true),(9,false),(10,false),(11,true),(12,true)] [[],[0],[],[2],[0,1,2,3],[0,1,2,3,4],[0,1,2,3,4,5],[0,1,2,3,4,5],[0,1,2,3,4,5],[],[0,1,2,3,4,5,6,9],[0,1,2,3,4,5,6,7,9,10],[0,1,2,3,4,5,6,7,8,9,10,11]] 4 9 ([rB b4 b,Bv SP c,CD b p]) BB BB GZ ((V4 BW BW BW)) ?_;refine BS ?_;refine Vs ?_;refine BS ?_;refine N0 [(9,false),(4,false),(5,true),(6,true),(7,true),(8,true),(10,false),(11,true),(12,true)] GZ (AI (l₁:=[_,_,_,_,_])).symm BB ?_ ?_
 case' refine_1=>
  refine yR ?_ ?_
  ·intro S2 s2 L2;have HP:CD b p∈Aw b p s2 S2 L2:=mR λ_ h=>h;exact V4 BW BW BW
  intro S1 s1 L1 EA Ey DL GI;iterate 4 refine X6 ?_
  refine CS e_alloc rfl rfl rfl ?_ ?_
  ·rintro _ _ ⟨_,_,_,rfl⟩ c hc;exact .tail _ (V4 BW BW BW c hc)
  rintro _ _ ⟨ZP,_,rfl,rfl⟩
 case' refine_2=>
  refine CS e_alloc rfl rfl rfl ?_ ?_
  ·rintro _ _ ⟨_,_,_,rfl⟩ c hc;exact .tail _ (V4 BW BW BW c hc)
  rintro _ _ ⟨ZP,_,rfl,rfl⟩;refine yR ?_ ?_
  ·intro S2 s2 L2;have HP:CD b p∈Aw b p s2 S2 L2:=mR λ_ h=>h;exact V4 BW BW BW
  intro S1 s1 L1 EA Ey DL GI;iterate 4 refine X6 ?_
 all_goals
  rw[hf];rw[<-EA] at hR;refine tP ?_ (hR:=V4 BW BW BW);refine BS ?_;refine Aj ?_;by_cases h8:f.2.2=false\/f.2.1=false
  ·rw[Ac h8] at hR;cases h9:f.2.2<;>cases Sa:f.2.1;all_goals first
    |(exfalso;simp[h9,Sa] at h8;done)
    |(refine Aj ?_
      refine Cx (Cr [5] 0 6) ?_;refine CC ?_;refine MG ?_;intro S2 s2 L2 hS2 FT FL HP;refine CC ?_;refine Aj ?_;have Adb:=FT.tO t;refine U3 (id:=t) (nE SP c) ⟨Adb.out⟩ ?_;intro S3 s3 L3 hS3 MD KQ PV;rw[<-hS2,show DW S1 t=DW S2 t from by rw[hS2],show DV S2 {DW S2 t with wa:=c.obj}=S3 from hS3.symm] at hR;refine Aj ?_;refine Gc ?_;intro S4 s4 L4 hS4 hK4 jm mr4;refine Aj ?_;rw[<-hS4] at hR;subst hR;exact FZ)
  rw[Ab h8] at hR;obtain⟨h9,Sa⟩:f.2.2=true/\f.2.1=true:=by simpa using h8
  rw[h9,Sa];obtain⟨u,hu⟩: ∃u,f.1=u:=⟨_,rfl⟩
  rw[hu] at hR⊢;refine Aj ?_;refine AR (AA rfl rfl (Fn.keep ?_ (Rl (bP (b:=b) (G:=L1) Ey b4 ZP b5 t u)))) ?_
  ·exact AU
  rintro sl _ ⟨xs,cs,C',ho,⟨rfl,s',L',hK',hT',rfl⟩,rfl⟩;refine Aj ?_;subst hR;exact CM _ .refl SG ⟨sl,cs,s',L',rfl,ho,hK',hT'.trans (DL.trans QY),rfl⟩
def Lb(S:KT)(t:Int)(m:Oz):(List Ii×Int)×KT:=
 if ¬(HH S t 0).2=0 then(([],(HH S t 0).2),S)
 else if(DW S t).ca=0 then(([],18),S)
 else(((replyH (DV S {DW S t with ca:=0}) (DW S t).ca m t).1,0),(replyH (DV S {DW S t with ca:=0}) (DW S t).ca m t).2)
theorem ss(hK:IsK F C (k+1) S p s)(t:Int)(m:Oz):Fn prog 208 [pV b,.int .i64 t,pu m] (Aw b p s S G) (KN F C b p k (Lb S t m).1.1 (Lb S t m).1.2 (Lb S t m).2 G):=by
 have mr:CD b p∈Aw b p s S G:=mR λ_ h=>h;have Jq:=hK.tO t;obtain⟨R,hR⟩: ∃R,Lb S t m=R:=⟨_,rfl⟩
 rw[hR];unfold Lb at hR;refine AO func208 ntmps208 λE=>?_;refine AQ λb3=>?_;refine AQ λb4=>?_;refine AQ λb5=>?_;refine EI ?_;have jd:=Uw (S:=S) (t:=t) (a:=0);obtain⟨r,hr⟩: ∃r,HH S t 0=r:=⟨_,rfl⟩
 rw[hr] at hR jd⊢;refine AQ λb8=>?_;by_cases h0:r.2=0
 case neg=>rw[Ac h0] at hR;subst hR;refine Aj ?_;exact FZ
 rw[Ab (λh=>h h0)] at hR;obtain⟨e1,e2,e3,e4,e5⟩:=jd h0;obtain⟨y,hy⟩: ∃y,DW S t=y:=⟨_,rfl⟩
 rw[hy] at e1 e3 hR Jq;rw[e1];by_cases h1:y.ca=0
 ·rw[Ac h1] at hR;subst hR;refine Aj ?_;exact FZ
 rw[Ab h1] at hR;refine Aj ?_;refine U3 (id:=t) iE ⟨by rw[hy];exact Jq.out⟩ ?_;intro S0 s0 L0 hS0 hK0 QY mr0;rw[hy] at hS0;rw[show DV S {y with ca:=0}=S0 from hS0.symm] at hR;refine Aj ?_;refine AR (AA rfl rfl (Fn.keep ?_ (Rl (Zf (b:=b) (G:=L0) hK0 b3 b8 b5 b4 y m t)))) ?_
 ·exact AU
 rintro sl _ ⟨xs,cs,C',ho,⟨rfl,s',L',hK',hT',rfl⟩,rfl⟩;refine Aj ?_;subst hR;exact CM _ .refl SG ⟨sl,cs,s',L',rfl,ho,hK',hT'.trans QY,rfl⟩
end
structure Ux where
 hs:Bool
 wr:Bool
 va:Int
 vl:Int
deriving DecidableEq
abbrev acC(x:Ux):Ap:=[.bool x.hs,.bool x.wr,Bc x.va,Bc x.vl]
abbrev xE(x:Ux):Value:= .agg (List.toArray (acC x))
structure uw where
 kd:Int
 va:Int
 wr:Bool
deriving DecidableEq
abbrev ftC(x:uw):Ap:=[iV x.kd,Bc x.va,.bool x.wr]
abbrev ftV(x:uw):Value:= .agg (List.toArray (ftC x))
def KNl(F C b:Nat)(p:RP)(k:Nat)(xs:List Ii)(S:KT)(G:Ad):Value->Ad->Prop:=λv l'=> ∃cs s L,OwnSl 69 12 v xs.length (HW xs) cs/\IsK F C k S p s/\Tail L G/\l'=cs++Aw b p s S L
theorem iS(S:KT)(t:Int)(x:Ck)(m:Oz)(gv:Int)(cl:Bool):(Jn S t x m gv cl).1.1.length<=2:=by
 unfold Jn sendH
 repeat' split
 all_goals simp
theorem Zg(xs:List Ii): ∀u,u∈HW xs->u.oneCell'=true:=by intro u hu;obtain⟨n,_,h⟩:=JB.1 hu;simp only[R2,At,BL,Ez] at h;rcases h with rfl|rfl|rfl|rfl|rfl|rfl|rfl|rfl|rfl|rfl|rfl|rfl<;>rfl
theorem sv{a1 a2 a3 n a4 a5 a6:Bg}{Z:Ad}(h:Y.Perm (cs++Z)):(a1::a2::a3::n::a4::a5::a6::Y).Perm ([n]++(cs++([a1,a2,a3,a4,a5,a6]++Z))):=by refine(EX [a1,a2,a3,n,a4,a5,a6] h).trans ?_;exact B0
theorem nT{c A B:Ad}:Keep (c++(A++(B++Y))) (c++Y):=⟨A++B,B0⟩
section
section
variable{P:Program}{ro:Option Nat}{ops:Array Oper}{Q:Exit->Act->World->Prop}{A0:List Oper}{fr:Fr}{ds:List Deferred}{d f k':Nat}{x:Operand}{xs:List Operand}{vs:Ap}{at_:Array TypeId}{ty:TypeId}{pos:String}{aft:Array Edge}{g:Option (Nat×Bool)}{S':KT}{ns:List Ii}
theorem yU(h: ∀G,Fn P f vs (Aw b p s S G) (KN F C b p k' ns co S' G))(hk: ∀sl cs S1 s' L,S1=S'->OwnSl 69 12 sl ns.length (HW ns) cs->IsK F C k' S1 p s'->Tail L (cs++G)->CD b p∈Aw b p s' S1 L->Dz P ro N E ops Q A0 ((d,.tuple #[sl,iV co])::fr) ds (Γ (Aw b p s' S1 L)))(hx:ev fr x=some (.func (.func f) #[] #[]):=by rfl)(hy:RS fr xs=some vs:=by rfl)(hF:Fr1 (Aw b p s S G) l Γ:=by exact dI)(c:EN P f:=by infer_instance)(hw:Rr ops fr g=some true:=by rfl)(hb:Nat.blt d N=true:=by rfl):Dz P ro N E ops Q (⟨some d,.call {callee:= .value x,args:=xs.toArray,argTypes:=at_},ty,pos,aft,g⟩::A0) fr ds l:=by
 obtain⟨A,rfl,hA⟩:=hF.eq;refine Jr (AA hx hy (Fn.re (.of_perm (Fi b p s S A G)) (h (A++G)) (K':=λv l'=> ∃sl cs s' L,v= .tuple #[sl,iV co]/\OwnSl 69 12 sl ns.length (HW ns) cs/\IsK F C k' S' p s'/\Tail L (cs++G)/\l'=Γ (Aw b p s' S' L)) λv l' ⟨sl,cs,s',L,h1,h2,h3,⟨X,h4⟩,h5⟩=>⟨Γ (Aw b p s' S' (X++(cs++G))),?_,sl,cs,s',_,h1,h2,h3,⟨X,rfl⟩,rfl⟩)) hw rfl hb λv l' ⟨sl,cs,s',L,h1,h2,h3,h4,h5⟩=>by rw[h1,h5];exact hk sl cs S' s' L rfl h2 h3 h4 (mR λ_ h=>h)
 rw[h5,h4,hA];refine .of_perm ?_;unfold Aw;exact B0
end
abbrev NE(t:Th.ThT)(x:Ux):Th.ThT:={t with hs:=x.hs,wr:=x.wr,va:=x.va,vl:=x.vl}
abbrev Xc(id:Int)(f:uw):Ii:=⟨id,6,0,yS,0,false,f.kd,f.va,f.wr⟩
abbrev bQ(f:uw):Oz:=⟨f.kd,f.va,if f.wr=true then 1 else 0,0⟩
def Nf(S:KT)(t:Th.ThT)(x:Ux)(f:uw):List Ii×KT:=
 if ¬(getD' S.H.1 (t.id,2)).2=0\/¬(Ec S (t.id,2)).kind=8\/LN (Ec S (t.id,2)).rights 2=0 then([Xc t.id f],(IN (DV S (NE t x)) t.id).2)
 else(Xc t.id f::(Jn (DV S (NE t x)) t.id (t.id,2) (bQ f) 4096 true).1.1,DV (Jn (DV S (NE t x)) t.id (t.id,2) (bQ f) 4096 true).2 {DW (Jn (DV S (NE t x)) t.id (t.id,2) (bQ f) 4096 true).2 t.id with fa:=true,cl:=t.cl})
theorem eU(hK:IsK F C (k+2) S p s)(t:Th.ThT)(x:Ux)(f:uw)(hw:TW (NE t x))(hf:0<=f.kd/\f.kd<=100):Fn prog 156 [pV b,Th.thV t,xE x,ftV f] (Aw b p s S G) (KNl F C b p k (Nf S t x f).1 (Nf S t x f).2 G):=by
 have mr:CD b p∈Aw b p s S G:=mR λ_ h=>h;obtain⟨zH,yw⟩:=hf;obtain⟨R,hR⟩: ∃R,Nf S t x f=R:=⟨_,rfl⟩
 rw[hR];unfold Nf at hR;refine AO func156 ntmps156 λE=>?_;refine AQ λb5=>?_;refine AQ λb6=>?_;refine AQ λb7=>?_;refine Cx (Cr [3] 0 4) ?_;refine CC ?_;refine MG (q:=Ow (NE t x) hw) ?_;intro S1 s1 L1 EA Ey DL GI;rw[show DV S (NE t x)=S1 from EA.symm] at hR;have eH:S1.H=S.H:=by rw[EA]
 rw[<-eH,show Ec S (t.id,2)=Ec S1 (t.id,2) by unfold Ec;rw[eH]] at hR;refine CC ?_;refine Aj ?_;refine AR (FB (ws:=R2 (Xc t.id f)) (k:=12) rfl rfl rfl AZ AZ) ?_;rintro _ _ ⟨bn,_,rfl,rfl⟩;refine Aj ?_;refine H9 1 ?_;refine AQ λGX=>?_;refine Cx (Cr [7,8] 0 10) ?_;refine CC ?_;obtain⟨c,hc⟩: ∃c,(getD' S1.H.1 (t.id,2)).1=c:=⟨_,rfl⟩
 obtain⟨e,he⟩: ∃e,(getD' S1.H.1 (t.id,2)).2=e:=⟨_,rfl⟩
 rw[show Ec S1 (t.id,2)=c from hc,he] at hR;rw[hc,he];refine Id e_alloc (by rintro _ _ ⟨_,_,_,rfl⟩ c hc;exact .tail _ hc) ?_;rintro _ _ ⟨LT,_,rfl,rfl⟩;refine CC ?_;obtain⟨w,jC⟩: ∃w,LN c.rights 2=w:=⟨_,rfl⟩
 rw[jC] at hR;have o4:OwnSl 69 12 (.slice (some ⟨bn,0,none⟩) 1 1) 1 (R2 (Xc t.id f)) [U4 bn (Xc t.id f)]:=⟨rfl,.inr ⟨bn,1,[],rfl,rfl,Bd _,by unfold maxLen;omega,rfl⟩⟩
 by_cases h1:¬e=0\/¬c.kind=8
 ·rw[Ac Af] at hR;subst hR;by_cases h2:e=0<;>by_cases h3:c.kind=8;all_goals first
   |(exfalso;omega)
   |(refine Aj ?_
     refine Gc ?_;intro S2 s2 L2 hS2 FT FL HP;refine Aj ?_;exact AV (vs:=[.slice (some ⟨bn,0,none⟩) 1 1]) [] _ rfl .refl (by exact Ba) (l':=[U4 bn (Xc t.id f)]++Aw b p s2 S2 L2) (by exact AU) ⟨_,s2,L2,o4,by rw[<-hS2];exact FT.mono Af,FL.trans DL,by rw[<-hS2]⟩)
 obtain⟨h2,h3⟩:e=0/\c.kind=8:=by omega
 refine Aj ?_;refine XT (Kz rfl rfl) rfl rfl rfl rfl rfl rfl ?_;rw[jC];by_cases h4:w=0
 ·rw[Ac Af] at hR;subst hR;refine Aj ?_;refine Gc ?_;intro S2 s2 L2 hS2 FT FL HP;refine Aj ?_;exact AV (vs:=[.slice (some ⟨bn,0,none⟩) 1 1]) [] _ rfl .refl (by exact Ba) (l':=[U4 bn (Xc t.id f)]++Aw b p s2 S2 L2) (by exact AU) ⟨_,s2,L2,o4,by rw[<-hS2];exact FT.mono Af,FL.trans DL,by rw[<-hS2]⟩
 rw[Ab Af] at hR;obtain⟨st,Mi⟩: ∃st:Int,(if f.wr=true then(1:Int) else 0)=st:=⟨_,rfl⟩
 have y4:bQ f=⟨f.kd,f.va,st,0⟩:=by rw[<-Mi]
 rw[y4] at hR;cases hwr:f.wr
 case' true=>rw[hwr,Ac rfl] at Mi
 case' false=>rw[hwr,Ab AZ] at Mi
 all_goals
  refine Aj ?_;rw[hwr];refine Aj ?_;refine tJ (v:= .agg (List.toArray [Bc f.kd,Bc f.va,Bc st,.int .u64 0])) (by apply GL (zs:=[.int .u64 0,.int .u64 0,.int .u64 0,.int .u64 0]) (cs:=[Bc f.kd,Bc f.va,Bc st,.int .u64 0]);(·subst Mi;rfl);(·subst Mi;rfl)) rfl rfl rfl ?_;refine Aj ?_;have Ei:=iS S1 t.id (t.id,2) ⟨f.kd,f.va,st,0⟩ 4096 true;refine yU (vs:=[pV b,.int .i64 t.id,F4 (t.id,2),pu ⟨f.kd,f.va,st,0⟩,.int .i64 4096,.bool true]) (λG=>bO Ey t.id (t.id,2) ⟨f.kd,f.va,st,0⟩ 4096 true) ?_;intro sl cs S2 s2 L2 hS2 FK FT FL HP;rw[<-hS2] at hR;obtain⟨ns,uX⟩: ∃ns,(Jn S1 t.id (t.id,2) ⟨f.kd,f.va,st,0⟩ 4096 true).1.1=ns:=⟨_,rfl⟩
  rw[uX] at hR FK Ei;refine Aj ?_;refine Cx (Cr [8,9] 0 11) ?_;refine CC ?_;have Jq:=FT.tO t.id;obtain⟨u,hu⟩: ∃u,DW S2 t.id=u:=⟨_,rfl⟩
  rw[hu] at hR Jq⊢;refine Id e_alloc (by rintro _ _ ⟨_,_,_,rfl⟩ c hc;exact .tail _ hc) ?_;rintro _ _ ⟨PS,_,rfl,rfl⟩;refine CC ?_;refine Aj ?_;refine Cn [3,5] 6 ([Th.thC b5 (NE t x)]) ?_ (hR:=(U2 BW));iterate 3 refine X6 ?_
  refine tP ?_ (hR:=U2 BW);refine X6 ?_;refine tP ?_ (hR:=U2 BW);refine BS ?_;refine Aj ?_;refine Cx (Cr [3] 0 4) ?_;refine CC ?_;refine MG (q:=Ow {u with fa:=true,cl:=t.cl} ⟨Jq.out⟩) ?_;intro S3 s3 L3 hS3 MD KQ PV;rw[show DV S2 {u with fa:=true,cl:=t.cl}=S3 from hS3.symm] at hR;refine CC ?_;refine Aj ?_;obtain⟨L4,hL4,hp4⟩:=Hc (b:=b) (p:=p) (s:=s3) (S:=S3) (KQ.trans FL);refine Bq (.of_perm (sv hp4)) ?_;refine Aj ?_;refine AR (Rk (k:=12) (n:=1) (m:=ns.length) (xs:=R2 (Xc t.id f)) (ys:=HW ns) (zs:=R2 (Np 0)) (cs:=[U4 bn (Xc t.id f)]) (cw:=cs) rfl rfl rfl o4 FK (Zg ns) Af Af AZ) ?_;rintro v2 _ ⟨c2,ho3,rfl⟩;refine Aj ?_;refine E8 ?_;refine Aj ?_;subst hR;exact AV [] _ rfl .refl (by exact Ba) nT ⟨c2,s3,L4,by rw[BC,Kr];exact ho3,MD,hL4.trans DL,rfl⟩
end
end Go.Proofs.YtlifcingifodfaaGreat
