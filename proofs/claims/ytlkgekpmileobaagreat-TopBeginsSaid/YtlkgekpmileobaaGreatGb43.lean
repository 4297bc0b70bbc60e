/- Laws that the statement's proof leans on (joined out of several texts). -/
import Derived.Test.YtlkgekpmileobaaGreatGb8
import Derived.Test.YtlkgekpmileobaaGreatGb42
import Derived.Test.YtlkgekpmileobaaGreatGb37
import Derived.Test.YtlkgekpmileobaaGreatGb10
import Derived.Test.YtlkgekpmileobaaGreatGb41
set_option linter.unusedVariables false
set_option linter.unusedSimpArgs false
namespace Go.Proofs.YtlkgekpmileobaaGreat
open Tryz
open List(toArray)
open Go.RowKit
set_option maxRecDepth 20000
variable{S:KT}{F C k b:Nat}{p:RP}{s:RL}{G l lo:List Ab}
def Nw(kind:Int):Int:=if kind=3 then 3 else if kind=8 then 7 else 0
theorem gS(kind:Int):0<=Nw kind/\Nw kind<=7:=by unfold Nw;repeat' split<;>constructor<;>omega
def gT(x:CB)(kind size first:Int)(S:KT)(q:Int×CB):KT:=
 {(L7 S kind size (first+q.1)).2 with H:=(IM (L7 S kind size (first+q.1)).2.H x q.2 ⟨kind,(L7 S kind size (first+q.1)).1.1,Nw kind,0,0,0,0,0⟩).2}
def KQ(S:KT)(first:Int):List (Int×CB)->Int->Option Int
 |[],c=>some c
 |q::r,c=>if ¬(getD' S.H.1 q.2).2=0 then none else KQ S first r (if ¬(D5 S q.2).kind=0\/Ar.nextD S.A (first+q.1)=0 then 11 else c)
def Ys(S:KT)(x:CB):Int:=if(Tr.belowD S.H.2 x).length=0 then 0 else(Ar.getD' S.A (D5 S x).obj).1.ma
def LN(S:KT)(o:IO)(x:CB):(List Int×Int)×Int:=HH (Ar.getD' S.A (D5 S x).obj).1.fr (Ys S x) (Ar.framesD o.n0 o.n1) (o.n2/16)
def Yt(S:KT)(o:IO)(x y:CB):List (Int×CB):=WF (LN S o x).1.1 (D5 S y).obj (o.n2%16) (LN S o x).1.1.length
def gU(S:KT)(id m:Int):Int×KT:=((Ar.markD' S.A id m).1,{S with A:=(Ar.markD' S.A id m).2})
def LP(S:KT)(o:IO)(x y:CB):Int×KT:=
 if ¬E7 S x 1\/¬E7 S y 2 then(8,S)
 else if ¬(LN S o x).2=0 then((LN S o x).2,S)
 else match KQ S (Ar.getD' S.A (D5 S x).obj).1.fi (Yt S o x y) 0 with
 |none=>(3,S)
 |some code=>if ¬code=0 then(code,S) else gU ((Yt S o x y).foldl (gT x o.n0 o.n1 (Ar.getD' S.A (D5 S x).obj).1.fi) S) (D5 S x).obj (LN S o x).1.2
theorem cG(t m e n:Int)(h:(HH t m e n).2=0):1<=(HH t m e n).1.1.length:=by
 unfold HH Ss at h⊢
 split at h
 ·simp at h
 ·split at h
  ·simp at h
  ·rename_i h1 h2;rw[Ac h1,Ac h2];simp;omega
theorem WH(S:KT)(fi c:Int)(q:Int×CB)(r:List (Int×CB)):KQ S fi (q::r) c=if ¬(getD' S.H.1 q.2).2=0 then none else KQ S fi r (if ¬(D5 S q.2).kind=0\/Ar.nextD S.A (fi+q.1)=0 then 11 else c):=rfl
theorem cH(t m e n:Int): ∀u,u∈(HH t m e n).1.1->0<=u/\u<=64:=by
 unfold HH Ss
 split
 ·simp
 split
 ·simp
 rename_i h1 h2;intro u hu;simp only[CD,Au,FN] at hu;obtain⟨i,hi,rfl⟩:=hu;simp only[Function.comp];have h3:(i:Int)*e<=n*e:=Int.mul_le_mul_of_nonneg_right Af Af;have h4:0<=(i:Int)*e:=Int.mul_nonneg Af Af;have h5:n*e=e*n:=Int.mul_comm _ _;omega
theorem IsK.obfi(h:IsK F C k S p s)(id:Int):0<=(Ar.getD' S.A id).1.fi/\(Ar.getD' S.A id).1.fi<=64:=by
 have h2:=h.ar.ok.n2;unfold Ar.getD'
 split
 ·rename_i k hk;obtain⟨h3,h4,_⟩:=h.ar.ok.num _ (UK hk);exact⟨h3,by dsimp only;omega⟩
 ·exact⟨by decide,by decide⟩
theorem cI(t m e n:Int):(HH t m e n).1.1.length<=4:=by
 unfold HH Ss
 repeat' split
 all_goals simp
 omega
section
variable{P:Program}{ro:Option Nat}{N:Nat}{E:World}{Q1:Act->World->Prop}{Q2:Exit->Act->World->Prop}{c:Code}{fr:Fr}{ds:List Deferred}
theorem PR{α:Type}(fx:α->Fr)(lx:α->List Ab)(pre:α->Prop)(h1:BF P ro N E c (Exit.then (YX N E fx ds lx pre) Q2) fr ds l)(h2: ∀x,pre x->CH N E (Exit.then Q1 Q2) .normal (fx x) ds (lx x)):BF P ro N E c (Exit.then Q1 Q2) fr ds l:=
 ⟨λa W hf hds hs=>wpIn_mono (h1.run a W hf hds hs) λe a' W' h=>by
   cases e with
   |normal=>obtain⟨y,h3,h4,h5,h6⟩:=h;exact(h2 y h3).run a' W' h4 h5 h6
   |_=>exact h⟩
end
abbrev Se(B:Nat)(x:Int):Ab:=(B,.cells (toArray [iV x]) 29 (0,0))
abbrev Z2(B:Nat)(o:Ar.ObT):Ab:=(B,.cells (toArray (Ar.obC o)) 100 (0,0))
section
instance lj{x y:CB}{c:CapT}[hc:CW c]:EK prog F C b p 251 [pV p.h,Fp x,Fp y,UH c] (k+1) S k (iV (IM S.H x y c).1) {S with H:=(IM S.H x y c).2}:=⟨λs G h=>jZ h Af (λn hn=>(hn.child x y c hc.out).mono Af) λn G hn h9=>Rz p.h S.H n hn h9 s.H h.ho x y c G⟩
set_option maxHeartbeats 4000000 in
theorem gV(hK:IsK F C (k+8) S p s)(t:Int)(o:IO)(x y:CB)(hn:0<=o.n2/\o.n2<=1000):Fn prog 210 [M4 b t o x y] (Av b p s S G) (KK F C b p k (iV (LP S o x y).1) (LP S o x y).2 G):=by
 have mr:Co b p∈Av b p s S G:=mR λ_ h=>h;obtain⟨m9,h91,h92,_,h93⟩:=hK.small;obtain⟨R,hR⟩: ∃R,LP S o x y=R:=⟨_,rfl⟩
 rw[hR];unfold LP at hR;have z0:(toArray (iW b t o x y))[2+4+(0:Int).toNat*1]?=some (iV o.n0):=rfl;have z1:(toArray (iW b t o x y))[2+4+(1:Int).toNat*1]?=some (iV o.n1):=rfl;have z2:(toArray (iW b t o x y))[2+4+(2:Int).toNat*1]?=some (iV o.n2):=rfl;refine AO func210 ntmps210 λE=>?_;refine AQ λb1=>?_;refine AQ λb2=>?_;refine Ea (vs:=[M4 b t o x y,Fp x,.int .i64 1]) ?_;obtain⟨c,hc⟩: ∃c,D5 S x=c:=⟨_,rfl⟩
 rw[hc] at hR⊢;refine AQ λb3=>?_;refine Ea (vs:=[M4 b t o x y,Fp y,.int .i64 2]) ?_;obtain⟨d,hd⟩: ∃d,D5 S y=d:=⟨_,rfl⟩
 rw[hd];refine AQ λb5=>?_;by_cases h0:¬E7 S x 1\/¬E7 S y 2
 ·rw[Ae h0] at hR;subst hR;by_cases h1:E7 S x 1<;>by_cases h2:E7 S y 2;all_goals first
   |(exfalso;simp[h1,h2] at h0;done)
   |(simp only[h1,h2,FT,GY]
     refine Aj ?_;exact A4)
 rw[Ac h0] at hR;obtain⟨h1,h2⟩:E7 S x 1/\E7 S y 2:=by simpa using h0
 simp only[h1,h2,FT];refine Aj ?_;refine Ch (Cf [9,10] 0 12) ?_;refine Ci ?_;obtain⟨ob,hob⟩: ∃ob,(Ar.getD' S.A c.obj).1=ob:=⟨_,rfl⟩
 obtain⟨okb,hokb⟩: ∃k,(Ar.getD' S.A c.obj).2=k:=⟨_,rfl⟩
 rw[hob] at hR;rw[hob,hokb];refine Hf e_alloc (by rintro _ _ ⟨_,_,_,rfl⟩ c hc;exact .tail _ hc) ?_;rintro _ _ ⟨b7,_,rfl,rfl⟩;refine Ci ?_;refine Aj ?_;refine Ch (Cf [5] 0 8) ?_;refine Ci ?_;refine Ju (Az rfl rfl (RD p.h S.H s.H hK.ho Af x _ λy hy=> .tail _ (.tail _ (.tail _ (.tail _ (.tail _ (mH (λ_ h=>h) y hy))))))) ?_ rfl rfl;rintro sl _ ⟨cb,hob2,rfl⟩;obtain⟨pp,cap,rfl⟩:=hob2.shape;refine Ci ?_;refine Aj ?_;obtain⟨mk,hmk⟩: ∃m,Ys S x=m:=⟨_,rfl⟩
 have hmk0:=hmk;unfold Ys at hmk;rw[hc,hob] at hmk;refine PR (α:=Unit) (λ_=>[(1,pV b1),(2,pV b2),(3,pV b3),(5,pV b5),(7,pV b7),(9,iV mk)]) (λ_=>[Z2 b7 ob,Bp b5 d,Bp b3 c,Se b2 0,Vi b1 b t o x y]++Av b p s S G) (λ_=>True) ?_ ?_
 ·by_cases hl:(Tr.belowD S.H.2 x).length=0
  ·rw[Ae hl] at hmk;subst hmk;refine Aj ?_;exact D8 () trivial ⟨rfl,rfl,rfl,rfl,rfl,rfl,trivial⟩ (Keep.dropL' cb .refl)
  ·rw[Ac hl] at hmk;subst hmk;refine Aj ?_;exact D8 () trivial ⟨rfl,rfl,rfl,rfl,rfl,rfl,trivial⟩ (Keep.dropL' cb .refl)
 rintro- -;simp only[Ad,Ag];refine Aj ?_;refine PR (α:=Nat×Nat) (λz=>[(1,pV b1),(2,pV b2),(3,pV b3),(5,pV b5),(7,pV b7),(9,iV mk),(10,pV z.1),(11,pV z.2),(12,iV (o.n2%16))]) (λz=>[BG z.1 o.n0,BG z.2 o.n1,Z2 b7 ob,Bp b5 d,Bp b3 c,Se b2 0,Vi b1 b t o x y]++Av b p s S G) (λ_=>True) ?_ ?_
 ·refine Kk [(0,true),(1,true),(2,true),(3,true),(4,true),(5,true),(6,true),(7,true),(8,true),(9,true),(10,true),(11,true),(12,true),(13,false),(14,false),(15,false),(16,false),(17,true)] [[],[0],[0,1],[0,1,2],[],[4],[4,5],[4,5,6],[],[8],[8,9],[8,9,10],[8,9,10,11],[],[],[0,1,2,3,13,14],[0,1,2,3,4,5,6,7,13,14,15],[0,1,2,3,4,5,6,7,8,9,10,11,12,13,14,15,16]] 13 14 ([Vi b1 b t o x y]) Bv Bv Gh ((SJ BO)) ?_;refine BI ?_;refine Mv [(14,false),(13,false),(15,false),(16,false),(17,true)] Gh (List.Perm.swap _ _ _) Bv ?_ ?_;all_goals
   refine CE e_alloc rfl rfl rfl ?_ ?_
   ·rintro _ _ ⟨_,_,_,rfl⟩ c hc;exact .tail _ (SJ BO c hc)
   rintro _ _ ⟨u,_,rfl,rfl⟩;refine CE e_alloc rfl rfl rfl ?_ ?_
   ·rintro _ _ ⟨_,_,_,rfl⟩ c hc;exact .tail _ (SJ BO c hc)
   rintro _ _ ⟨v,_,rfl,rfl⟩;refine BI ?_
   first
    |exact D8 (u,v) trivial ⟨rfl,rfl,rfl,rfl,rfl,rfl,rfl,rfl,rfl,trivial⟩ (.of_perm (.swap _ _ _))
    |exact D8 (v,u) trivial ⟨rfl,rfl,rfl,rfl,rfl,rfl,rfl,rfl,rfl,trivial⟩ .refl
 rintro⟨b10,b11⟩-;simp only[Ad,Ag];refine Aj ?_;refine Ch (Cf [11] 0 19) ?_;refine Ci ?_;refine Ju (Az rfl rfl (cF ob.fr mk (Ar.framesD o.n0 o.n1) (o.n2/16) _)) ?_ rfl rfl;rintro _ _ ⟨sl,cs,rfl,MM,rfl⟩;obtain⟨cv,hcv⟩: ∃cv,HH ob.fr mk (Ar.framesD o.n0 o.n1) (o.n2/16)=cv:=⟨_,rfl⟩
 have hcr:LN S o x=cv:=by unfold LN;rw[hc,hob,hmk0];exact hcv
 have hcp:=cG ob.fr mk (Ar.framesD o.n0 o.n1) (o.n2/16);have hcl:=cI ob.fr mk (Ar.framesD o.n0 o.n1) (o.n2/16);rw[hcv] at MM hcp hcl⊢;unfold Yt at hR;rw[hcr] at hR;refine Ci ?_;refine Aj ?_;by_cases h3:cv.2=0
 case neg=>rw[Ae h3] at hR;subst hR;refine DQ (Keep.dropL' cs .refl) ?_;refine Aj ?_;exact A4
 rw[Ac (λh=>h h3),hd] at hR;have hcp1:=hcp h3;obtain⟨P,hP⟩: ∃P,cv.1.1=P:=⟨_,rfl⟩
 obtain⟨en,hen⟩: ∃e,cv.1.2=e:=⟨_,rfl⟩
 rw[hP] at MM hcl hcp1 hR;rw[hen] at hR;try rw[hen]
 obtain⟨gb,cap2,sp,rfl,rfl⟩:=Mg MM hcp1;simp only[Ad,Ag];refine AQ λb16=>?_;refine AS (Az rfl rfl (PQ _ rfl d.obj (o.n2%16) _)) ?_;rintro _ _ ⟨B3,B4,B5,rfl,rfl⟩;refine Aj ?_;have hfi:=hK.obfi c.obj;rw[hob] at hfi;have hPr: ∀u,u∈P->0<=u/\u<=64:=by rw[<-hP,<-hcv];exact cH _ _ _ _
 refine R6 (F:=F) (C:=C) (b:=b) (p:=p) (G:=G) (α:=Int×CB) (ps:=[102,103]) (lb:=[pV B3,pV B4,pV B5]) rfl (OT B3 B4 B5 gb cap2 P sp d.obj (o.n2%16) hcl ⟨Af,Af⟩) (λ_=>rfl) rfl
  (λpre k' S' lo=>k'=k+8/\S=S'/\ ∃ca,(∀r,KQ S ob.fi (pre++r) 0=KQ S ob.fi r ca)/\lo=[BG B5 (o.n2%16),BG B4 d.obj,L6 B3 (.slice (some ⟨gb,0,none⟩) P.length cap2),Se b16 ca,Me gb P sp,BG b10 o.n0,BG b11 o.n1,Z2 b7 ob,Bp b5 d,Bp b3 c,Se b2 0,Vi b1 b t o x y])
  (λc' pre k' S' lo=>c'= .ret/\k'=k+8/\S=S'/\(∀r,KQ S ob.fi (pre++r) 0=none)/\ ∃ca:Int,lo=[BG B5 (o.n2%16),BG B4 d.obj,L6 B3 (.slice (some ⟨gb,0,none⟩) P.length cap2),Se b16 ca,Me gb P sp,BG b10 o.n0,BG b11 o.n1,Z2 b7 ob,Bp b5 d,Bp b3 c,Se b2 3,Vi b1 b t o x y])
  (λpre lo k S s L X h hK=>by obtain⟨_,_,_,_,rfl⟩:=h;exact⟨by simp,by simp,by simp,by simp⟩)
  (.refl:Keep _ ([BG B5 (o.n2%16),BG B4 d.obj,L6 B3 (.slice (some ⟨gb,0,none⟩) P.length cap2),Se b16 0,Me gb P sp,BG b10 o.n0,BG b11 o.n1,Z2 b7 ob,Bp b5 d,Bp b3 c,Se b2 0,Vi b1 b t o x y]++Av b p s S G)) ⟨rfl,rfl,0,λ_=>rfl,rfl⟩ hK ?_ ?_ ?_
 ·rintro E r0 rec pre ⟨fp,si,sj⟩ lo k' S' s' L T ⟨fn,tmps,D,rfl⟩ hT ⟨rfl,rfl,ca,hca,rfl⟩ hK' hsp mr';obtain⟨hq,hlt,hpre⟩:=gR hsp;have hfp:0<=fp/\fp<=64:=by
   have e1:fp=P.getD pre.length 0:=BM Prod.fst hq;rw[e1];exact hPr _ (by rw[List.getD,Am hlt];exact IB hlt)
  have hst: ∀r,KQ S ob.fi ((pre++[(fp,(si,sj))])++r) 0=if ¬(getD' S.H.1 (si,sj)).2=0 then none else KQ S ob.fi r (if ¬(D5 S (si,sj)).kind=0\/Ar.nextD S.A (ob.fi+fp)=0 then 11 else ca):=λr=>by rw[Al,Ca,hca,WH]
  obtain⟨hh,hhh⟩: ∃c,(getD' S.H.1 (si,sj)).1=c:=⟨_,rfl⟩
  obtain⟨e,he⟩: ∃e,(getD' S.H.1 (si,sj)).2=e:=⟨_,rfl⟩
  rw[he,show D5 S (si,sj)=hh from hhh] at hst;simp only[Du,Ad,Ag];refine AQ λb18=>?_;refine Cp (by exact Dw) ?_;refine Aj ?_;refine Ch (Cf [8,9] 0 11) ?_;refine Ci ?_;rw[hhh,he];refine Hf e_alloc (by rintro _ _ ⟨_,_,_,rfl⟩ c hc;exact .tail _ hc) ?_;rintro _ _ ⟨b19,_,rfl,rfl⟩;refine Ci ?_;refine Aj ?_;by_cases h5:e=0
  case neg=>refine Aj ?_;exact kJ ([BG B5 (o.n2%16),BG B4 d.obj,L6 B3 (.slice (some ⟨gb,0,none⟩) P.length cap2),Se b16 ca,Me gb P sp,BG b10 o.n0,BG b11 o.n1,Z2 b7 ob,Bp b5 d,Bp b3 c,Se b2 3,Vi b1 b t o x y]) (by exact AR) ⟨rfl,rfl,rfl,λr=>by rw[hst,Ae h5],ca,rfl⟩
  refine Aj ?_;obtain⟨nx,hnx⟩: ∃v,Ar.nextD S.A (ob.fi+fp)=v:=⟨_,rfl⟩
  rw[hnx] at hst;by_cases h6:hh.kind=0
  case' pos=>
   refine Ce [] 15 _ ?_ (hR:=(λ_ h=>h));refine BI ?_;refine Tf ?_;refine BI ?_;refine Tf ?_;rw[hnx];refine BI ?_;refine Aj ?_;by_cases h7:nx=0
   case' pos=>
    refine Aj ?_;exact bV ([BG B5 (o.n2%16),BG B4 d.obj,L6 B3 (.slice (some ⟨gb,0,none⟩) P.length cap2),Se b16 11,Me gb P sp,BG b10 o.n0,BG b11 o.n1,Z2 b7 ob,Bp b5 d,Bp b3 c,Se b2 0,Vi b1 b t o x y]) (by exact AR) ⟨rfl,rfl,11,λr=>by rw[hst,Ac (λh=>h h5),Ae (.inr h7)],rfl⟩
   case' neg=>
    refine Aj ?_;exact bV ([BG B5 (o.n2%16),BG B4 d.obj,L6 B3 (.slice (some ⟨gb,0,none⟩) P.length cap2),Se b16 ca,Me gb P sp,BG b10 o.n0,BG b11 o.n1,Z2 b7 ob,Bp b5 d,Bp b3 c,Se b2 0,Vi b1 b t o x y]) (by exact AR) ⟨rfl,rfl,ca,λr=>by rw[hst,Ac (λh=>h h5),Ac (by rintro(h|h);exact h h6;exact h7 h)],rfl⟩
  case' neg=>
   refine Ce [] 15 _ ?_ (hR:=(λ_ h=>h));refine BI ?_;refine Aj ?_;exact bV ([BG B5 (o.n2%16),BG B4 d.obj,L6 B3 (.slice (some ⟨gb,0,none⟩) P.length cap2),Se b16 11,Me gb P sp,BG b10 o.n0,BG b11 o.n1,Z2 b7 ob,Bp b5 d,Bp b3 c,Se b2 0,Vi b1 b t o x y]) (by exact AR) ⟨rfl,rfl,11,λr=>by rw[hst,Ac (λh=>h h5),Ae (.inl h6)],rfl⟩
 case' refine_3=>
  rintro D c' pre lo k' S' s' L ⟨r,hr⟩ ⟨rfl,rfl,rfl,hcn,ca,rfl⟩ hK1 hT1 mr1;have hrc:=hcn r;rw[hr] at hrc;rw[hrc] at hR;dsimp only at hR;subst hR;simp only[Ad,Ag];refine Aj ?_;exact AU [D] _ rfl .refl (by exact A7) (Keep.dropL' [BG B5 (o.n2%16),BG B4 d.obj,L6 B3 (.slice (some ⟨gb,0,none⟩) P.length cap2),Se b16 ca,Me gb P sp,BG b10 o.n0,BG b11 o.n1,Z2 b7 ob,Bp b5 d,Bp b3 c,Se b2 3,Vi b1 b t o x y] .refl) ⟨rfl,s',L,hK1.mono Af,hT1,rfl⟩
 rintro D xs lo k' S' s' L rfl ⟨rfl,rfl,ca,hca,rfl⟩ hK1 hT1 mr1;have hrc:=hca [];rw[Be] at hrc;rw[hrc] at hR;unfold KQ at hR;dsimp only at hR;simp only[Ad,Ag];refine Aj ?_;by_cases h8:ca=0
 case neg=>rw[Ae h8] at hR;subst hR;refine Aj ?_;exact AU [D] _ rfl .refl (by exact A7) (Keep.dropL' [BG B5 (o.n2%16),BG B4 d.obj,L6 B3 (.slice (some ⟨gb,0,none⟩) P.length cap2),Se b16 ca,Me gb P sp,BG b10 o.n0,BG b11 o.n1,Z2 b7 ob,Bp b5 d,Bp b3 c,Se b2 ca,Vi b1 b t o x y] .refl) ⟨rfl,s',L,hK1.mono Af,hT1,rfl⟩
 rw[Ac (λh=>h h8)] at hR;refine Aj ?_;refine AS (Az rfl rfl (PQ _ rfl d.obj (o.n2%16) _)) ?_;rintro _ _ ⟨B6,B7,B8,rfl,rfl⟩;refine Aj ?_;refine R6 (F:=F) (C:=C) (b:=b) (p:=p) (G:=L) (α:=Int×CB) (ps:=[138,139]) (lb:=[pV B6,pV B7,pV B8]) (lo:=[BG B8 (o.n2%16),BG B7 d.obj,L6 B6 (.slice (some ⟨gb,0,none⟩) P.length cap2),Me gb P sp,Cd D,BG b10 o.n0,BG b11 o.n1,Z2 b7 ob,Bp b3 c,Bp b5 d,Se b2 0,Vi b1 b t o x y]) (s:=s') (S:=S) rfl (OT B6 B7 B8 gb cap2 P sp d.obj (o.n2%16) hcl ⟨Af,Af⟩) (λ_=>rfl) rfl
  (λpre k' S' lo=>k'+2*pre.length=k+8/\S'=pre.foldl (gT x o.n0 o.n1 ob.fi) S/\lo=[BG B8 (o.n2%16),BG B7 d.obj,L6 B6 (.slice (some ⟨gb,0,none⟩) P.length cap2),Me gb P sp,Cd D,BG b10 o.n0,BG b11 o.n1,Z2 b7 ob,Bp b3 c,Bp b5 d,Se b2 0,Vi b1 b t o x y])
  (λ_ _ _ _ _=>False)
  (λpre lo k S s L X h hK=>by obtain⟨_,_,rfl⟩:=h;exact⟨by simp,by simp,by simp,by simp⟩)
  (by exact AR) ⟨rfl,rfl,rfl⟩ hK1 ?_ ?_ (λ_ _ _ _ _ _ _ _ _ h=>h.elim)
 ·rintro E r0 rec pre ⟨fp,si,sj⟩ lo k' S' s2 L2 T ⟨fn,tmps,D2,rfl⟩ hT ⟨hk',hS',rfl⟩ hK' hsp mr';obtain⟨hq,hlt,hpre⟩:=gR hsp;have hfp:0<=fp/\fp<=64:=by
   have e1:fp=P.getD pre.length 0:=BM Prod.fst hq;rw[e1];exact hPr _ (by rw[List.getD,Am hlt];exact IB hlt)
  obtain⟨k2,rfl⟩: ∃j,k'=j+2:=⟨k'-2,Af⟩
  simp only[Du,Ad,Ag];refine AQ λb22=>?_;refine Cp (by exact Dw) ?_;refine Aj ?_;refine Fy ?_;intro S1 s1 L1 hS1 hK1' hT1' mr1';obtain⟨id,hid⟩: ∃i,(L7 S' o.n0 o.n1 (ob.fi+fp)).1.1=i:=⟨_,rfl⟩
  rw[hid];refine AQ λb25=>?_;obtain⟨rg,hrg⟩: ∃r,Nw o.n0=r:=⟨_,rfl⟩
  have hrg0:=hrg;have hrr:=gS o.n0;rw[hrg] at hrr;have hcw:CW ⟨o.n0,id,rg,0,0,0,0,0⟩:=⟨by constructor<;>dsimp only<;>omega⟩
  unfold Nw at hrg;by_cases h9:o.n0=3
  case' pos=>
   rw[Ae h9] at hrg;refine Aj ?_
  case' neg=>
   rw[Ac h9] at hrg;refine Aj ?_;by_cases h10:o.n0=8
   case' pos=>
    rw[Ae h10] at hrg;refine Aj ?_
   case' neg=>
    rw[Ac h10] at hrg;refine Aj ?_
  all_goals
   refine Ch (Cf [7] 0 8) ?_;refine Ci ?_;refine Lj (vs:=[pV p.h,Fp x,Fp (si,sj),UH ⟨o.n0,id,rg,0,0,0,0,0⟩]) ?_ (hy:=by rw[<-hrg];rfl) (q:=lj (x:=x) (y:=(si,sj)) (c:=⟨o.n0,id,rg,0,0,0,0,0⟩));intro S2 s3 L3 hS2 hK2 hT2 mr2;refine Ci ?_;refine Aj ?_;exact bV (k:=k2) ([BG B8 (o.n2%16),BG B7 d.obj,L6 B6 (.slice (some ⟨gb,0,none⟩) P.length cap2),Me gb P sp,Cd D,BG b10 o.n0,BG b11 o.n1,Z2 b7 ob,Bp b3 c,Bp b5 d,Se b2 0,Vi b1 b t o x y]) (by exact AR) ⟨by rw[Ah,Bl];omega,by rw[ED,Eg,FM,<-hS'];unfold gT;rw[hid,hrg0,<-hS1];exact hS2,rfl⟩
 rintro D2 xs lo k' S' s2 L2 rfl ⟨hk',hS',rfl⟩ hK2 hT2 mr2;rw[Z1] at hk';simp only[Ad,Ag];have hR2:gU S' c.obj en=R:=by rw[hS'];exact hR
 unfold gU at hR2;refine Aj ?_;refine Ch (Cf [6,7] 0 8) ?_;refine Ci ?_;simp only[AL,AI,AN];refine Lj ?_;intro S3 s3 L3 hS3 hK3 hT3 mr3;rw[<-hS3] at hR2;refine Ci ?_;refine Aj ?_;subst hR2;exact AU [D2,D] _ rfl (by exact AR) (by exact A7) (.drop (.drop (.drop (.drop (.drop (.drop (.drop (.drop (.drop (.drop (.drop .refl))))))))))) ⟨rfl,s3,L3,hK3.mono Af,hT3.trans (hT2.trans hT1),rfl⟩
end
section
def LQ(S:KT)(n:Int)(x:CB):Int×KT:=if ¬E7 S x 9 then(8,S) else((P6 S ((D5 S x).obj,n)).1.2,(P6 S ((D5 S x).obj,n)).2)
def LR(S:KT)(x:CB):Int×KT:=if ¬E7 S x 9 then(8,S) else if ¬(Er S (D5 S x).obj).st=0 then(16,S) else NO S (D5 S x).obj 1
def J3(S:KT)(x:CB):Int×KT:=if ¬E7 S x 9 then(8,S) else Jq S (D5 S x).obj
def nf(S:KT)(id pr:Int):KT:=if(Qu.dropQ S.Q id).1=true then{S with Q:=(Qu.addQ (Qu.dropQ S.Q id).2 id pr).2} else{S with Q:=(Qu.dropQ S.Q id).2}
def Sf(S:KT)(n:Int)(x:CB):Int×KT:=
 if ¬E7 S x 9 then(8,S) else(0,nf (DS S {Er S (D5 S x).obj with pr:=n}) (Er S (D5 S x).obj).id n)
theorem gW(hK:IsK F C k S p s)(t:Int)(o:IO)(x y:CB):Fn prog 223 [M4 b t o x y] (Av b p s S G) (KK F C b p k (iV (LQ S o.n0 x).1) (LQ S o.n0 x).2 G):=by
 have mr:Co b p∈Av b p s S G:=mR λ_ h=>h;obtain⟨R,hR⟩: ∃R,LQ S o.n0 x=R:=⟨_,rfl⟩
 rw[hR];unfold LQ at hR;have z0:(toArray (iW b t o x y))[2+4+(0:Int).toNat*1]?=some (iV o.n0):=rfl;refine AO func223 ntmps223 λE=>?_;refine AQ λb1=>?_;refine Ea (vs:=[M4 b t o x y,Fp x,.int .i64 9]) ?_;obtain⟨c,hc⟩: ∃c,D5 S x=c:=⟨_,rfl⟩
 rw[hc] at hR⊢;refine AQ λb3=>?_;by_cases h1:E7 S x 9
 case neg=>rw[Ae h1] at hR;subst hR;simp only[h1,GY];refine Aj ?_;exact A4
 rw[Ac (λh=>h h1)] at hR;simp only[h1,FT];refine Aj ?_;obtain⟨z,hz⟩: ∃z:CB,(c.obj,o.n0)=z:=⟨_,rfl⟩
 rw[hz] at hR;refine Fy (vs:=[pV b,Fp z]) ?_ (hy:=by subst hz;rfl);intro S1 s1 L1 hS1 hK1 hT1 mr1;refine Aj ?_;subst hR;exact A4
theorem gX(hK:IsK F C (k+1) S p s)(t:Int)(o:IO)(x y:CB):Fn prog 224 [M4 b t o x y] (Av b p s S G) (KK F C b p k (iV (LR S x).1) (LR S x).2 G):=by
 have mr:Co b p∈Av b p s S G:=mR λ_ h=>h;obtain⟨R,hR⟩: ∃R,LR S x=R:=⟨_,rfl⟩
 rw[hR];unfold LR at hR;refine AO func224 ntmps224 λE=>?_;refine AQ λb1=>?_;refine Ea (vs:=[M4 b t o x y,Fp x,.int .i64 9]) ?_;obtain⟨c,hc⟩: ∃c,D5 S x=c:=⟨_,rfl⟩
 rw[hc] at hR⊢;refine AQ λb3=>?_;by_cases h1:E7 S x 9
 case neg=>rw[Ae h1] at hR;subst hR;simp only[h1,GY];refine Aj ?_;exact A4
 rw[Ac (λh=>h h1)] at hR;simp only[h1,FT];refine Aj ?_;refine Ch (Cf [9,10] 0 12) ?_;refine Ci ?_;obtain⟨u,hu⟩: ∃u,Er S c.obj=u:=⟨_,rfl⟩
 rw[hu] at hR⊢;refine Hf e_alloc (by rintro _ _ ⟨_,_,_,rfl⟩ c hc;exact .tail _ hc) ?_;rintro _ _ ⟨b5,_,rfl,rfl⟩;refine Ci ?_;by_cases h2:u.st=0
 case neg=>rw[Ae h2] at hR;subst hR;refine Aj ?_;exact A4
 rw[Ac (λh=>h h2)] at hR;refine Aj ?_;refine Fy ?_;intro S1 s1 L1 hS1 hK1 hT1 mr1;refine Aj ?_;subst hR;exact A4
theorem cJ(hK:IsK F C k S p s)(t:Int)(o:IO)(x y:CB):Fn prog 225 [M4 b t o x y] (Av b p s S G) (KK F C b p k (iV (J3 S x).1) (J3 S x).2 G):=by
 have mr:Co b p∈Av b p s S G:=mR λ_ h=>h;obtain⟨R,hR⟩: ∃R,J3 S x=R:=⟨_,rfl⟩
 rw[hR];unfold J3 at hR;refine AO func225 ntmps225 λE=>?_;refine AQ λb1=>?_;refine Ea (vs:=[M4 b t o x y,Fp x,.int .i64 9]) ?_;obtain⟨c,hc⟩: ∃c,D5 S x=c:=⟨_,rfl⟩
 rw[hc] at hR⊢;refine AQ λb3=>?_;by_cases h1:E7 S x 9
 case neg=>rw[Ae h1] at hR;subst hR;simp only[h1,GY];refine Aj ?_;exact A4
 rw[Ac (λh=>h h1)] at hR;simp only[h1,FT];refine Aj ?_;refine Fy ?_;intro S1 s1 L1 hS1 hK1 hT1 mr1;refine Aj ?_;subst hR;exact A4
set_option maxHeartbeats 1000000 in
theorem pj(hK:IsK F C (k+1) S p s)(t:Int)(o:IO)(x y:CB):Fn prog 226 [M4 b t o x y] (Av b p s S G) (KK F C b p k (iV (Sf S o.n0 x).1) (Sf S o.n0 x).2 G):=by
 have mr:Co b p∈Av b p s S G:=mR λ_ h=>h;obtain⟨R,hR⟩: ∃R,Sf S o.n0 x=R:=⟨_,rfl⟩
 rw[hR];unfold Sf nf at hR;have z0:(toArray (iW b t o x y))[2+4+(0:Int).toNat*1]?=some (iV o.n0):=rfl;refine AO func226 ntmps226 λE=>?_;refine AQ λb1=>?_;refine Ea (vs:=[M4 b t o x y,Fp x,.int .i64 9]) ?_;obtain⟨c,hc⟩: ∃c,D5 S x=c:=⟨_,rfl⟩
 rw[hc] at hR⊢;refine AQ λb3=>?_;by_cases h1:E7 S x 9
 case neg=>rw[Ae h1] at hR;subst hR;simp only[h1,GY];refine Aj ?_;exact A4
 rw[Ac (λh=>h h1)] at hR;simp only[h1,FT];refine Aj ?_;refine Ch (Cf [9,10] 0 12) ?_;refine Ci ?_;have htw:=hK.tO c.obj;obtain⟨u,hu⟩: ∃u,Er S c.obj=u:=⟨_,rfl⟩
 rw[hu] at hR htw⊢;refine Hf e_alloc (by rintro _ _ ⟨_,_,_,rfl⟩ c hc;exact .tail _ hc) ?_;rintro _ _ ⟨b5,_,rfl,rfl⟩;refine Ci ?_;refine Aj ?_;refine Ch (Cf [4] 0 5) ?_;refine Ci ?_;refine Lj (q:=M0 {u with pr:=o.n0} ⟨htw.out⟩) ?_;intro S1 s1 L1 hS1 hK1 hT1 mr1;rw[show DS S {u with pr:=o.n0}=S1 from hS1.symm] at hR;refine Ci ?_;refine Aj ?_;refine Ch (Cf [5] 0 6) ?_;refine Ci ?_;refine Lj ?_;intro S2 s2 L2 hS2 hK2 hT2 mr2;rw[<-hS2] at hR;obtain⟨q,hq⟩: ∃q,(Qu.dropQ S1.Q u.id).1=q:=⟨_,rfl⟩
 rw[hq] at hR⊢;have eQ:(Qu.dropQ S1.Q u.id).2=S2.Q:=by rw[hS2]
 rw[eQ] at hR;refine Ci ?_;cases q with
 |false=>rw[Ac AW] at hR;refine Aj ?_;subst hR;exact A4
 |true=>
 rw[Ae rfl] at hR;refine Aj ?_;refine Ch (Cf [7] 0 8) ?_;refine Ci ?_;refine Lj ?_;intro S3 s3 L3 hS3 hK3 hT3 mr3;refine Ci ?_;refine Aj ?_;subst hR;have hS:S3={S1 with Q:=(Qu.addQ S2.Q u.id o.n0).2}:=by rw[hS3,hS2]
 exact A4
end
section
instance{t u:Th.ThT}[ht:AD t.gv][hu:AD u.inn]:EK prog F C b p 319 [pV b,Th.thV t,Th.thV u] (k+1) S k (.bool (P5 S t u).1) (P5 S t u).2:=⟨λs G h=>kZ h t u ht hu⟩
theorem pk(S:KT)(t u:Th.ThT):(P5 S t u).2.T=S.T:=by unfold P5;(repeat' split)<;>rfl
theorem ng{S':KT}(h:S'.T=S.T)(id:Int):Er S' id=Er S id:=by unfold Er;rw[h]
abbrev nh(id:Int)(m:Ob)(bd:Int)(got:Bool):Hs:=⟨id,0,0,m,bd,got,0,0,false⟩
def KC(S:KT)(t:Th.ThT)(id:Int)(m:Ob)(bd:Int):Hs×KT:=
 (nh id m bd (P5 S t (Er S id)).1,DS (P5 S t (Er S id)).2 (nc m bd (P5 S t (Er S id)).1 (Er S id)))
set_option maxHeartbeats 1000000 in
theorem gY(hK:IsK F C (k+1) S p s)(t:Th.ThT)(id:Int)(m:Ob)(bd:Int)[ht:AD t.gv]:Fn prog 270 [pV b,Th.thV t,.int .i64 id,iT m,Ba bd] (Av b p s S G) (KK F C b p k (ZQ (KC S t id m bd).1) (KC S t id m bd).2 G):=by
 have mr:Co b p∈Av b p s S G:=mR λ_ h=>h;have hu:AD (Er S id).inn:=⟨by have:=hK.tG id;omega⟩
 have htw:=hK.tO id;obtain⟨R,hR⟩: ∃R,KC S t id m bd=R:=⟨_,rfl⟩
 rw[hR];unfold KC at hR;refine AO func270 ntmps270 λE=>?_;refine AQ λb6=>?_;refine AQ λb8=>?_;refine AQ λb9=>?_;refine AQ λb10=>?_;refine Ea ?_;refine Aj ?_;refine Ea ?_;obtain⟨u,hu1⟩: ∃u,Er S id=u:=⟨_,rfl⟩
 rw[hu1] at hR hu htw⊢;refine AQ λb11=>?_;refine Fy ?_;intro S1 s1 L1 hS1 hK1 hT1 mr1;have e1:Er S1 id=u:=by rw[hS1,ng (pk _ _ _),hu1]
 obtain⟨q,hq⟩: ∃q,P5 S t u=q:=⟨_,rfl⟩
 rw[hq] at hR hS1⊢;rw[<-hS1] at hR;obtain⟨got,hgot⟩: ∃g,q.1=g:=⟨_,rfl⟩
 rw[hgot] at hR⊢;refine AQ λb13=>?_;refine SK (id:=id) (gF b8 b9 b13 m bd got) ⟨by rw[e1];exact htw.out⟩ ?_;intro S2 s2 L2 hS2 hK2 hT2 mr2;rw[e1] at hS2⊢;refine Aj ?_;subst hR;exact A4 (h:=Cq rfl (.tail _ (.tail _ (.head _))) (As.LSub.of_all (n:=12) (Ps (nh id m bd got)) rfl) .nil)
instance{t:Th.ThT}{id:Int}{m:Ob}{bd:Int}[ht:AD t.gv]:EK prog F C b p 270 [pV b,Th.thV t,.int .i64 id,iT m,Ba bd] (k+1) S k (ZQ (KC S t id m bd).1) (KC S t id m bd).2:=⟨λs G h=>gY h t id m bd⟩
def Ny(S:KT)(u:Int):KT:=if(Er S u).ca=0 then S else(Jq S (Er S u).ca).2
def Pv(S:KT)(t u:Int):KT:=(NO (DS (Ny S u) {Er (Ny S u) u with ca:=t}) t 4).2
theorem lk(hK:IsK F C k S p s)(t u:Int):Fn prog 272 [pV b,.int .i64 t,.int .i64 u] (Av b p s S G) (KK F C b p k (.tuple #[]) (Pv S t u) G):=by
 have mr:Co b p∈Av b p s S G:=mR λ_ h=>h;obtain⟨R,hR⟩: ∃R,Pv S t u=R:=⟨_,rfl⟩
 rw[hR];unfold Pv at hR;refine AO func272 ntmps272 λE=>?_;refine AQ λb4=>?_;refine Ea ?_;refine Aj ?_;refine Ea ?_;obtain⟨x,hx⟩: ∃x,Er S u=x:=⟨_,rfl⟩
 rw[hx];refine AQ λb6=>?_;by_cases h0:x.ca=0
 ·rw[show Ny S u=S by unfold Ny;rw[hx,Ae h0]] at hR;refine Aj ?_;have htw:=hK.tO u;refine SK (id:=u) (T4 b4 t) ⟨htw.out⟩ ?_;intro S2 s2 L2 hS2 hK2 hT2 mr2;rw[<-hS2] at hR;refine Aj ?_;refine Fy ?_;intro S3 s3 L3 hS3 hK3 hT3 mr3;refine Aj ?_;exact A4
 ·refine Aj ?_;refine Fy ?_;intro S1 s1 L1 hS1 hK1 hT1 mr1;rw[show Ny S u=S1 by unfold Ny;rw[hx,Ac h0,hS1]] at hR;refine Aj ?_;have htw:=hK1.tO u;refine SK (id:=u) (T4 b4 t) ⟨htw.out⟩ ?_;intro S2 s2 L2 hS2 hK2 hT2 mr2;rw[<-hS2] at hR;refine Aj ?_;refine Fy ?_;intro S3 s3 L3 hS3 hK3 hT3 mr3;refine Aj ?_;exact A4
instance{t u:Int}:EK prog F C b p 272 [pV b,.int .i64 t,.int .i64 u] k S k (.tuple #[]) (Pv S t u):=⟨λs G h=>lk h t u⟩
end
section
theorem M5:(l++(lo++Av b p s S G)).Perm (lo++Av b p s S (l++G)):=by unfold Av;exact Cc
theorem Hg{X:List Ab}:(lo++Av b p s S (X++(l++G))).Perm (l++(lo++Av b p s S (X++G))):=by unfold Av;exact Cc
theorem Sg{t a:Int}(h:(GR S t a).2=0):(GR S t a).1=Er S t/\Oa S t=true/\(Er S t).st=1/\0<=a/\a<=4096:=by
 unfold GR at h⊢
 split at h
 ·cases h
 ·rename_i h1;rw[Ac h1];simp only[not_or] at h1;exact⟨rfl,by cases hx:Oa S t;exact absurd hx h1.1;rfl,Decidable.not_not.1 h1.2.1,Af,Af⟩
def OU(S:KT)(x:Th.ThT)(t u:Int)(m:Ob)(bd:Int)(cl:Bool):List Hs×KT:=
 if cl=true then([(KC {S with E:=(En.removeD S.E u).2} x u m bd).1],Pv (DS (NO (KC {S with E:=(En.removeD S.E u).2} x u m bd).2 u 1).2 {Er (NO (KC {S with E:=(En.removeD S.E u).2} x u m bd).2 u 1).2 t with cl:=true}) t u)
 else([(KC {S with E:=(En.removeD S.E u).2} x u m bd).1,L8 t],(NO (KC {S with E:=(En.removeD S.E u).2} x u m bd).2 u 1).2)
set_option maxHeartbeats 2000000 in
theorem Yu(hK:IsK F C (k+2) S p s)(B1 B2 B3 B4 B5 B6 B7:Nat)(x:Th.ThT)(hx:AD x.gv)(t u:Int)(m:Ob)(c:CapT)(cl:Bool):
 WB prog 269 [pV B1,pV B2,pV B3,pV B4,pV B5,pV B6,pV B7] (λn:Hs=>[ZQ n]) ([rB B1 b,BG B2 u,Th.thC B3 x,Sr B4 m,Bp B5 c,Vf B6 cl,BG B7 t]++Av b p s S G) (λxs C'=>xs=(OU S x t u m c.badge cl).1/\ ∃s' L,IsK F C k (OU S x t u m c.badge cl).2 p s'/\Tail L G/\C'=[rB B1 b,BG B2 u,Th.thC B3 x,Sr B4 m,Bp B5 c,Vf B6 cl,BG B7 t]++Av b p s' (OU S x t u m c.badge cl).2 L):=by
 refine⟨λr I hY l h0=>?_⟩;refine Fn.keep (.of_perm (M5 (lo:=[rB B1 b,BG B2 u,Th.thC B3 x,Sr B4 m,Bp B5 c,Vf B6 cl,BG B7 t]))) ?_;have mr:Co b p∈Av b p s S (l++G):=mR λ_ h=>h;obtain⟨R,hR⟩: ∃R,OU S x t u m c.badge cl=R:=⟨_,rfl⟩
 rw[hR];unfold OU at hR;simp only[Ad,Ag];refine AO func269 ntmps269 λE=>?_;refine Aj ?_;refine Ch (Cf [3] 0 4) ?_;refine Ci ?_;refine Lj ?_;intro S1 s1 L1 hS1 hK1 hT1 mr1;rw[<-hS1] at hR;refine Ci ?_;refine Aj ?_;refine Fy (vs:=[pV b,Th.thV x,.int .i64 u,iT m,Ba c.badge]) ?_;intro S2 s2 L2 hS2 hK2 hT2 mr2;rw[<-hS2] at hR;obtain⟨n1,hn1⟩: ∃n,(KC S1 x u m c.badge).1=n:=⟨_,rfl⟩
 rw[hn1] at hR⊢;refine AQ λc9=>?_;refine Fy ?_;intro S3 s3 L3 hS3 hK3 hT3 mr3;rw[<-hS3] at hR;refine Aj ?_;cases cl with
 |true=>rw[Ae rfl] at hR;refine Aj ?_;have htw:=hK3.tO t;refine SK (id:=t) cf ⟨htw.out⟩ ?_;intro S4 s4 L4 hS4 hK4 hT4 mr4;rw[<-hS4] at hR;refine Aj ?_;refine Fy ?_;intro S5 s5 L5 hS5 hK5 hT5 mr5;rw[<-hS5] at hR;refine Aj ?_;obtain⟨X,rfl⟩:Tail L5 (l++G):=hT5.trans (hT4.trans (hT3.trans (hT2.trans hT1)));refine Bk (.of_perm (Hg (lo:=[SL c9 n1,rB B1 b,BG B2 u,Th.thC B3 x,Sr B4 m,Bp B5 c,Vf B6 true,BG B7 t]))) ?_;refine AS (CK (vs:=[ZQ n1]) rfl rfl (hY [] n1 l _ (Bf _) h0)) ?_;rintro v _ ⟨l1,rfl,hI,rfl⟩;refine Bk (.of_perm M5) ?_;simp only[Ad,Ag];refine Aj ?_;subst hR;exact Cy _ .refl (.drop (.of_perm (Hg (X:=[]) (lo:=[rB B1 b,BG B2 u,Th.thC B3 x,Sr B4 m,Bp B5 c,Vf B6 true,BG B7 t])))) ⟨[n1],l1,_,hI,⟨rfl,s5,X++G,hK5,⟨X,rfl⟩,rfl⟩,rfl⟩
 |false=>rw[Ac AW] at hR;refine Aj ?_;obtain⟨X,rfl⟩:Tail L3 (l++G):=hT3.trans (hT2.trans hT1);refine Bk (.of_perm (Hg (lo:=[SL c9 n1,rB B1 b,BG B2 u,Th.thC B3 x,Sr B4 m,Bp B5 c,Vf B6 false,BG B7 t]))) ?_;refine AS (CK (vs:=[ZQ n1]) rfl rfl (hY [] n1 l _ (Bf _) h0)) ?_;rintro v _ ⟨l1,rfl,hI,rfl⟩;refine Bk (.of_perm M5) ?_;simp only[Ad,Ag];refine Aj ?_;refine Bk (.of_perm (Hg (X:=[]) (lo:=[SL c9 n1,rB B1 b,BG B2 u,Th.thC B3 x,Sr B4 m,Bp B5 c,Vf B6 false,BG B7 t]))) ?_;refine AS (CK (vs:=[ZQ (L8 t)]) rfl rfl (hY [n1] (L8 t) l1 _ (by simp) hI)) ?_;rintro v _ ⟨l2,rfl,hI2,rfl⟩;refine Bk (.of_perm M5) ?_;simp only[Ad,Ag];refine Aj ?_;subst hR;exact Cy _ .refl (.drop (.of_perm (Hg (X:=[]) (lo:=[rB B1 b,BG B2 u,Th.thC B3 x,Sr B4 m,Bp B5 c,Vf B6 false,BG B7 t])))) ⟨[n1,L8 t],l2,_,hI2,⟨rfl,s3,X++G,hK3,⟨X,rfl⟩,rfl⟩,rfl⟩
end
end Go.Proofs.YtlkgekpmileobaaGreat
