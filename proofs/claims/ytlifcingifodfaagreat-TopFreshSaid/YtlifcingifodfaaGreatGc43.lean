/- Laws that the statement's proof leans on (joined out of several texts). -/
import Derived.Test.YtlifcingifodfaaGreatGc42
set_option maxHeartbeats 4000000
set_option linter.unusedVariables false
set_option linter.unusedSimpArgs false
namespace Go.Proofs.YtlifcingifodfaaGreat
open Tryz
open List(toArray)
open Go.RowKit
set_option maxRecDepth 20000
variable{S:KT}{F C k b:Nat}{p:RP}{s:RL}{G l lo:Ad}
def O8(kind:Int):Int:=if kind=3 then 3 else if kind=8 then 7 else 0
theorem nM(kind:Int):0<=O8 kind/\O8 kind<=7:=by unfold O8;repeat' split<;>constructor<;>omega
def LP(x:Ck)(kind size first:Int)(S:KT)(q:Int×Ck):KT:=
 {(Jl S kind size (first+q.1)).2 with H:=(ID (Jl S kind size (first+q.1)).2.H x q.2 ⟨kind,(Jl S kind size (first+q.1)).1.1,O8 kind,0,0,0,0,0⟩).2}
def L8(S:KT)(first:Int):List (Int×Ck)->Int->Option Int
 |[],c=>some c
 |q::r,c=>if ¬(getD' S.H.1 q.2).2=0 then none else L8 S first r (if ¬(Ec S q.2).kind=0\/Ar.nextD S.A (first+q.1)=0 then 11 else c)
def bM(S:KT)(x:Ck):Int:=if(Tr.belowD S.H.2 x).length=0 then 0 else(Ar.getD' S.A (Ec S x).obj).1.ma
def LQ(S:KT)(o:IY)(x:Ck):(A4×Int)×Int:=IF (Ar.getD' S.A (Ec S x).obj).1.fr (bM S x) (Ar.framesD o.n0 o.n1) (o.n2/16)
def Uu(S:KT)(o:IY)(x y:Ck):List (Int×Ck):=Zc (LQ S o x).1.1 (Ec S y).obj (o.n2%16) (LQ S o x).1.1.length
def nN(S:KT)(id m:Int):Int×KT:=((Ar.markD' S.A id m).1,{S with A:=(Ar.markD' S.A id m).2})
def EW(S:KT)(o:IY)(x y:Ck):Int×KT:=
 if ¬FE S x 1\/¬FE S y 2 then(8,S)
 else if ¬(LQ S o x).2=0 then((LQ S o x).2,S)
 else match L8 S (Ar.getD' S.A (Ec S x).obj).1.fi (Uu S o x y) 0 with
 |none=>(3,S)
 |some code=>if ¬code=0 then(code,S) else nN ((Uu S o x y).foldl (LP x o.n0 o.n1 (Ar.getD' S.A (Ec S x).obj).1.fi) S) (Ec S x).obj (LQ S o x).1.2
theorem iM(t m e n:Int)(h:(IF t m e n).2=0):1<=(IF t m e n).1.1.length:=by
 unfold IF UP at h⊢
 split at h
 ·simp at h
 ·split at h
  ·simp at h
  ·rename_i h1 h2;rw[Ab h1,Ab h2];simp;omega
theorem Ze(S:KT)(fi c:Int)(q:Int×Ck)(r:List (Int×Ck)):L8 S fi (q::r) c=if ¬(getD' S.H.1 q.2).2=0 then none else L8 S fi r (if ¬(Ec S q.2).kind=0\/Ar.nextD S.A (fi+q.1)=0 then 11 else c):=rfl
theorem iN(t m e n:Int): ∀u,u∈(IF t m e n).1.1->0<=u/\u<=64:=by
 unfold IF UP
 split
 ·simp
 split
 ·simp
 rename_i h1 h2;intro u hu;simp only[CR,Au,E6] at hu;obtain⟨i,hi,rfl⟩:=hu;simp only[Function.comp];have h3:(i:Int)*e<=n*e:=Int.mul_le_mul_of_nonneg_right Af Af;have h4:0<=(i:Int)*e:=Int.mul_nonneg Af Af;have h5:n*e=e*n:=Int.mul_comm _ _;omega
theorem IsK.obfi(h:IsK F C k S p s)(id:Int):0<=(Ar.getD' S.A id).1.fi/\(Ar.getD' S.A id).1.fi<=64:=by
 have h2:=h.ar.ok.n2;unfold Ar.getD'
 split
 ·rename_i k hk;obtain⟨h3,h4,_⟩:=h.ar.ok.num _ (WT hk);exact⟨h3,by dsimp only;omega⟩
 ·exact⟨by decide,by decide⟩
theorem iO(t m e n:Int):(IF t m e n).1.1.length<=4:=by
 unfold IF UP
 repeat' split
 all_goals simp
 omega
section
variable{P:Program}{ro:Option Nat}{N:Nat}{E:World}{Q1:Act->World->Prop}{Q2:Exit->Act->World->Prop}{c:Code}{fr:Fr}{ds:List Deferred}
theorem RJ{α:Type}(fx:α->Fr)(lx:α->Ad)(pre:α->Prop)(h1:BN P ro N E c (Exit.then (db N E fx ds lx pre) Q2) fr ds l)(h2: ∀x,pre x->CU N E (Exit.then Q1 Q2) .normal (fx x) ds (lx x)):BN P ro N E c (Exit.then Q1 Q2) fr ds l:=
 ⟨λa W hf hds hs=>wpIn_mono (h1.run a W hf hds hs) λe a' W' h=>by
   cases e with
   |normal=>obtain⟨y,h3,h4,h5,h6⟩:=h;exact(h2 y h3).run a' W' h4 h5 h6
   |_=>exact h⟩
end
abbrev Uv(B:Nat)(x:Int):Bg:=(B,.cells (toArray [iV x]) 29 (0,0))
abbrev Xz(B:Nat)(o:Ar.ObT):Bg:=(B,.cells (toArray (Ar.obC o)) 100 (0,0))
section
instance sn{x y:Ck}{c:CapT}[hc:CW c]:EK prog F C b p 250 [pV p.h,F4 x,F4 y,WQ c] (k+1) S k (iV (ID S.H x y c).1) {S with H:=(ID S.H x y c).2}:=⟨λs G h=>rk h Af (λn hn=>(hn.child x y c hc.out).mono Af) λn G hn h9=>TS p.h S.H n hn h9 s.H h.ho x y c G⟩
theorem nO(hK:IsK F C (k+8) S p s)(t:Int)(o:IY)(x y:Ck)(hn:0<=o.n2/\o.n2<=1000):Fn prog 209 [OD b t o x y] (Aw b p s S G) (KK F C b p k (iV (EW S o x y).1) (EW S o x y).2 G):=by
 have mr:CD b p∈Aw b p s S G:=mR λ_ h=>h;obtain⟨m9,h91,h92,_,h93⟩:=hK.small;obtain⟨R,hR⟩: ∃R,EW S o x y=R:=⟨_,rfl⟩
 rw[hR];unfold EW at hR;have z0:(toArray (px b t o x y))[2+4+(0:Int).toNat*1]?=some (iV o.n0):=rfl;have z1:(toArray (px b t o x y))[2+4+(1:Int).toNat*1]?=some (iV o.n1):=rfl;have z2:(toArray (px b t o x y))[2+4+(2:Int).toNat*1]?=some (iV o.n2):=rfl;refine AO func209 ntmps209 λE=>?_;refine AQ λb1=>?_;refine AQ λb2=>?_;refine EI (vs:=[OD b t o x y,F4 x,.int .i64 1]) ?_;obtain⟨c,hc⟩: ∃c,Ec S x=c:=⟨_,rfl⟩
 rw[hc] at hR⊢;refine AQ λb3=>?_;refine EI (vs:=[OD b t o x y,F4 y,.int .i64 2]) ?_;obtain⟨d,hd⟩: ∃d,Ec S y=d:=⟨_,rfl⟩
 rw[hd];refine AQ λb5=>?_;by_cases h0:¬FE S x 1\/¬FE S y 2
 ·rw[Ac h0] at hR;subst hR;by_cases h1:FE S x 1<;>by_cases h2:FE S y 2;all_goals first
   |(exfalso;simp[h1,h2] at h0;done)
   |(simp only[h1,h2,GB,HO]
     refine Aj ?_;exact A9)
 rw[Ab h0] at hR;obtain⟨h1,h2⟩:FE S x 1/\FE S y 2:=by simpa using h0
 simp only[h1,h2,GB];refine Aj ?_;refine Cx (Cr [9,10] 0 12) ?_;refine CC ?_;obtain⟨ob,fG⟩: ∃ob,(Ar.getD' S.A c.obj).1=ob:=⟨_,rfl⟩
 obtain⟨okb,hokb⟩: ∃k,(Ar.getD' S.A c.obj).2=k:=⟨_,rfl⟩
 rw[fG] at hR;rw[fG,hokb];refine Id e_alloc (by rintro _ _ ⟨_,_,_,rfl⟩ c hc;exact .tail _ hc) ?_;rintro _ _ ⟨b7,_,rfl,rfl⟩;refine CC ?_;refine Aj ?_;refine Cx (Cr [5] 0 8) ?_;refine CC ?_;refine Ll (AA rfl rfl (TX p.h S.H s.H hK.ho Af x _ λy hy=> .tail _ (.tail _ (.tail _ (.tail _ (.tail _ (mH (λ_ h=>h) y hy))))))) ?_ rfl rfl;rintro sl _ ⟨cb,hob2,rfl⟩;obtain⟨pp,cap,rfl⟩:=hob2.shape;refine CC ?_;refine Aj ?_;obtain⟨mk,jl⟩: ∃m,bM S x=m:=⟨_,rfl⟩
 have Ac7:=jl;unfold bM at jl;rw[hc,fG] at jl;refine RJ (α:=Unit) (λ_=>[(1,pV b1),(2,pV b2),(3,pV b3),(5,pV b5),(7,pV b7),(9,iV mk)]) (λ_=>[Xz b7 ob,Bv b5 d,Bv b3 c,Uv b2 0,Xy b1 b t o x y]++Aw b p s S G) (λ_=>True) ?_ ?_
 ·by_cases hl:(Tr.belowD S.H.2 x).length=0
  ·rw[Ac hl] at jl;subst jl;refine Aj ?_;exact EG () trivial ⟨rfl,rfl,rfl,rfl,rfl,rfl,trivial⟩ (Keep.dropL' cb .refl)
  ·rw[Ab hl] at jl;subst jl;refine Aj ?_;exact EG () trivial ⟨rfl,rfl,rfl,rfl,rfl,rfl,trivial⟩ (Keep.dropL' cb .refl)
 rintro- -;simp only[Ae,Ag];refine Aj ?_;refine RJ (α:=Nat×Nat) (λz=>[(1,pV b1),(2,pV b2),(3,pV b3),(5,pV b5),(7,pV b7),(9,iV mk),(10,pV z.1),(11,pV z.2),(12,iV (o.n2%16))]) (λz=>[BP z.1 o.n0,BP z.2 o.n1,Xz b7 ob,Bv b5 d,Bv b3 c,Uv b2 0,Xy b1 b t o x y]++Aw b p s S G) (λ_=>True) ?_ ?_
 ·refine Lw [(0,true),(1,true),(2,true),(3,true),(4,true),(5,true),(6,true),(7,true),(8,true),(9,true),(10,true),(11,true),(12,true),(13,false),(14,false),(15,false),(16,false),(17,true)] [[],[0],[0,1],[0,1,2],[],[4],[4,5],[4,5,6],[],[8],[8,9],[8,9,10],[8,9,10,11],[],[],[0,1,2,3,13,14],[0,1,2,3,4,5,6,7,13,14,15],[0,1,2,3,4,5,6,7,8,9,10,11,12,13,14,15,16]] 13 14 ([Xy b1 b t o x y]) BB BB GZ ((U2 BW)) ?_;refine BS ?_;refine N0 [(14,false),(13,false),(15,false),(16,false),(17,true)] GZ (List.Perm.swap _ _ _) BB ?_ ?_;all_goals
   refine CS e_alloc rfl rfl rfl ?_ ?_
   ·rintro _ _ ⟨_,_,_,rfl⟩ c hc;exact .tail _ (U2 BW c hc)
   rintro _ _ ⟨u,_,rfl,rfl⟩;refine CS e_alloc rfl rfl rfl ?_ ?_
   ·rintro _ _ ⟨_,_,_,rfl⟩ c hc;exact .tail _ (U2 BW c hc)
   rintro _ _ ⟨v,_,rfl,rfl⟩;refine BS ?_
   first
    |exact EG (u,v) trivial ⟨rfl,rfl,rfl,rfl,rfl,rfl,rfl,rfl,rfl,trivial⟩ (.of_perm (.swap _ _ _))
    |exact EG (v,u) trivial ⟨rfl,rfl,rfl,rfl,rfl,rfl,rfl,rfl,rfl,trivial⟩ .refl
 rintro⟨GX,LT⟩-;simp only[Ae,Ag];refine Aj ?_;refine Cx (Cr [11] 0 19) ?_;refine CC ?_;refine Ll (AA rfl rfl (iL ob.fr mk (Ar.framesD o.n0 o.n1) (o.n2/16) _)) ?_ rfl rfl;rintro _ _ ⟨sl,cs,rfl,Og,rfl⟩;obtain⟨cv,hcv⟩: ∃cv,IF ob.fr mk (Ar.framesD o.n0 o.n1) (o.n2/16)=cv:=⟨_,rfl⟩
 have hcr:LQ S o x=cv:=by unfold LQ;rw[hc,fG,Ac7];exact hcv
 have hcp:=iM ob.fr mk (Ar.framesD o.n0 o.n1) (o.n2/16);have Nu:=iO ob.fr mk (Ar.framesD o.n0 o.n1) (o.n2/16);rw[hcv] at Og hcp Nu⊢;unfold Uu at hR;rw[hcr] at hR;refine CC ?_;refine Aj ?_;by_cases h3:cv.2=0
 case neg=>rw[Ac h3] at hR;subst hR;refine Em (Keep.dropL' cs .refl) ?_;refine Aj ?_;exact A9
 rw[Ab (λh=>h h3),hd] at hR;have zE:=hcp h3;obtain⟨P,hP⟩: ∃P,cv.1.1=P:=⟨_,rfl⟩
 obtain⟨en,hen⟩: ∃e,cv.1.2=e:=⟨_,rfl⟩
 rw[hP] at Og Nu zE hR;rw[hen] at hR;try rw[hen]
 obtain⟨gb,cap2,sp,rfl,rfl⟩:=ND Og zE;simp only[Ae,Ag];refine AQ λPS=>?_;refine AR (AA rfl rfl (RI _ rfl d.obj (o.n2%16) _)) ?_;rintro _ _ ⟨B3,B4,B5,rfl,rfl⟩;refine Aj ?_;have hfi:=hK.obfi c.obj;rw[fG] at hfi;have hPr: ∀u,u∈P->0<=u/\u<=64:=by rw[<-hP,<-hcv];exact iN _ _ _ _
 refine Uo (F:=F) (C:=C) (b:=b) (p:=p) (G:=G) (α:=Int×Ck) (ps:=[102,103]) (lb:=[pV B3,pV B4,pV B5]) rfl (Qz B3 B4 B5 gb cap2 P sp d.obj (o.n2%16) Nu ⟨Af,Af⟩) (λ_=>rfl) rfl
  (λpre k' S' lo=>k'=k+8/\S=S'/\ ∃ca,(∀r,L8 S ob.fi (pre++r) 0=L8 S ob.fi r ca)/\lo=[BP B5 (o.n2%16),BP B4 d.obj,Nm B3 (.slice (some ⟨gb,0,none⟩) P.length cap2),Uv PS ca,NA gb P sp,BP GX o.n0,BP LT o.n1,Xz b7 ob,Bv b5 d,Bv b3 c,Uv b2 0,Xy b1 b t o x y])
  (λc' pre k' S' lo=>c'= .ret/\k'=k+8/\S=S'/\(∀r,L8 S ob.fi (pre++r) 0=none)/\ ∃ca:Int,lo=[BP B5 (o.n2%16),BP B4 d.obj,Nm B3 (.slice (some ⟨gb,0,none⟩) P.length cap2),Uv PS ca,NA gb P sp,BP GX o.n0,BP LT o.n1,Xz b7 ob,Bv b5 d,Bv b3 c,Uv b2 3,Xy b1 b t o x y])
  (λpre lo k S s L X h hK=>by obtain⟨_,_,_,_,rfl⟩:=h;exact⟨by simp,by simp,by simp,by simp⟩)
  (.refl:Keep _ ([BP B5 (o.n2%16),BP B4 d.obj,Nm B3 (.slice (some ⟨gb,0,none⟩) P.length cap2),Uv PS 0,NA gb P sp,BP GX o.n0,BP LT o.n1,Xz b7 ob,Bv b5 d,Bv b3 c,Uv b2 0,Xy b1 b t o x y]++Aw b p s S G)) ⟨rfl,rfl,0,λ_=>rfl,rfl⟩ hK ?_ ?_ ?_
 ·rintro E r0 FS pre ⟨fp,si,sj⟩ lo k' S' s' L T ⟨fn,tmps,D,rfl⟩ hT ⟨rfl,rfl,ca,zF,rfl⟩ hK' DB mr';obtain⟨hq,Dc,Gg⟩:=nL DB;have yq:0<=fp/\fp<=64:=by
   have e1:fp=P.getD pre.length 0:=BO Prod.fst hq;rw[e1];exact hPr _ (by rw[List.getD,Al Dc];exact HK Dc)
  have Mi: ∀r,L8 S ob.fi ((pre++[(fp,(si,sj))])++r) 0=if ¬(getD' S.H.1 (si,sj)).2=0 then none else L8 S ob.fi r (if ¬(Ec S (si,sj)).kind=0\/Ar.nextD S.A (ob.fi+fp)=0 then 11 else ca):=λr=>by rw[Am,Ci,zF,Ze]
  obtain⟨hh,hhh⟩: ∃c,(getD' S.H.1 (si,sj)).1=c:=⟨_,rfl⟩
  obtain⟨e,he⟩: ∃e,(getD' S.H.1 (si,sj)).2=e:=⟨_,rfl⟩
  rw[he,show Ec S (si,sj)=hh from hhh] at Mi;simp only[DU,Ae,Ag];refine AQ λjQ=>?_;refine CH (by exact DX) ?_;refine Aj ?_;refine Cx (Cr [8,9] 0 11) ?_;refine CC ?_;rw[hhh,he];refine Id e_alloc (by rintro _ _ ⟨_,_,_,rfl⟩ c hc;exact .tail _ hc) ?_;rintro _ _ ⟨tz,_,rfl,rfl⟩;refine CC ?_;refine Aj ?_;by_cases h5:e=0
  case neg=>refine Aj ?_;exact rO ([BP B5 (o.n2%16),BP B4 d.obj,Nm B3 (.slice (some ⟨gb,0,none⟩) P.length cap2),Uv PS ca,NA gb P sp,BP GX o.n0,BP LT o.n1,Xz b7 ob,Bv b5 d,Bv b3 c,Uv b2 3,Xy b1 b t o x y]) (by exact AU) ⟨rfl,rfl,rfl,λr=>by rw[Mi,Ac h5],ca,rfl⟩
  refine Aj ?_;obtain⟨nx,Wg⟩: ∃v,Ar.nextD S.A (ob.fi+fp)=v:=⟨_,rfl⟩
  rw[Wg] at Mi;by_cases h6:hh.kind=0
  case' pos=>
   refine Cn [] 15 _ ?_ (hR:=(λ_ h=>h));refine BS ?_;refine Vs ?_;refine BS ?_;refine Vs ?_;rw[Wg];refine BS ?_;refine Aj ?_;by_cases h7:nx=0
   case' pos=>
    refine Aj ?_;exact iv ([BP B5 (o.n2%16),BP B4 d.obj,Nm B3 (.slice (some ⟨gb,0,none⟩) P.length cap2),Uv PS 11,NA gb P sp,BP GX o.n0,BP LT o.n1,Xz b7 ob,Bv b5 d,Bv b3 c,Uv b2 0,Xy b1 b t o x y]) (by exact AU) ⟨rfl,rfl,11,λr=>by rw[Mi,Ab (λh=>h h5),Ac (.inr h7)],rfl⟩
   case' neg=>
    refine Aj ?_;exact iv ([BP B5 (o.n2%16),BP B4 d.obj,Nm B3 (.slice (some ⟨gb,0,none⟩) P.length cap2),Uv PS ca,NA gb P sp,BP GX o.n0,BP LT o.n1,Xz b7 ob,Bv b5 d,Bv b3 c,Uv b2 0,Xy b1 b t o x y]) (by exact AU) ⟨rfl,rfl,ca,λr=>by rw[Mi,Ab (λh=>h h5),Ab (by rintro(h|h);exact h h6;exact h7 h)],rfl⟩
  case' neg=>
   refine Cn [] 15 _ ?_ (hR:=(λ_ h=>h));refine BS ?_;refine Aj ?_;exact iv ([BP B5 (o.n2%16),BP B4 d.obj,Nm B3 (.slice (some ⟨gb,0,none⟩) P.length cap2),Uv PS 11,NA gb P sp,BP GX o.n0,BP LT o.n1,Xz b7 ob,Bv b5 d,Bv b3 c,Uv b2 0,Xy b1 b t o x y]) (by exact AU) ⟨rfl,rfl,11,λr=>by rw[Mi,Ab (λh=>h h5),Ac (.inl h6)],rfl⟩
 case' refine_3=>
  rintro D c' pre lo k' S' s' L ⟨r,hr⟩ ⟨rfl,rfl,rfl,hcn,ca,rfl⟩ Ey DL GI;have zG:=hcn r;rw[hr] at zG;rw[zG] at hR;dsimp only at hR;subst hR;simp only[Ae,Ag];refine Aj ?_;exact AV [D] _ rfl .refl (by exact Ba) (Keep.dropL' [BP B5 (o.n2%16),BP B4 d.obj,Nm B3 (.slice (some ⟨gb,0,none⟩) P.length cap2),Uv PS ca,NA gb P sp,BP GX o.n0,BP LT o.n1,Xz b7 ob,Bv b5 d,Bv b3 c,Uv b2 3,Xy b1 b t o x y] .refl) ⟨rfl,s',L,Ey.mono Af,DL,rfl⟩
 rintro D xs lo k' S' s' L rfl ⟨rfl,rfl,ca,zF,rfl⟩ Ey DL GI;have zG:=zF [];rw[Bi] at zG;rw[zG] at hR;unfold L8 at hR;dsimp only at hR;simp only[Ae,Ag];refine Aj ?_;by_cases h8:ca=0
 case neg=>rw[Ac h8] at hR;subst hR;refine Aj ?_;exact AV [D] _ rfl .refl (by exact Ba) (Keep.dropL' [BP B5 (o.n2%16),BP B4 d.obj,Nm B3 (.slice (some ⟨gb,0,none⟩) P.length cap2),Uv PS ca,NA gb P sp,BP GX o.n0,BP LT o.n1,Xz b7 ob,Bv b5 d,Bv b3 c,Uv b2 ca,Xy b1 b t o x y] .refl) ⟨rfl,s',L,Ey.mono Af,DL,rfl⟩
 rw[Ab (λh=>h h8)] at hR;refine Aj ?_;refine AR (AA rfl rfl (RI _ rfl d.obj (o.n2%16) _)) ?_;rintro _ _ ⟨B6,B7,B8,rfl,rfl⟩;refine Aj ?_;refine Uo (F:=F) (C:=C) (b:=b) (p:=p) (G:=L) (α:=Int×Ck) (ps:=[138,139]) (lb:=[pV B6,pV B7,pV B8]) (lo:=[BP B8 (o.n2%16),BP B7 d.obj,Nm B6 (.slice (some ⟨gb,0,none⟩) P.length cap2),NA gb P sp,Cm D,BP GX o.n0,BP LT o.n1,Xz b7 ob,Bv b3 c,Bv b5 d,Uv b2 0,Xy b1 b t o x y]) (s:=s') (S:=S) rfl (Qz B6 B7 B8 gb cap2 P sp d.obj (o.n2%16) Nu ⟨Af,Af⟩) (λ_=>rfl) rfl
  (λpre k' S' lo=>k'+2*pre.length=k+8/\S'=pre.foldl (LP x o.n0 o.n1 ob.fi) S/\lo=[BP B8 (o.n2%16),BP B7 d.obj,Nm B6 (.slice (some ⟨gb,0,none⟩) P.length cap2),NA gb P sp,Cm D,BP GX o.n0,BP LT o.n1,Xz b7 ob,Bv b3 c,Bv b5 d,Uv b2 0,Xy b1 b t o x y])
  (λ_ _ _ _ _=>False)
  (λpre lo k S s L X h hK=>by obtain⟨_,_,rfl⟩:=h;exact⟨by simp,by simp,by simp,by simp⟩)
  (by exact AU) ⟨rfl,rfl,rfl⟩ Ey ?_ ?_ (λ_ _ _ _ _ _ _ _ _ h=>h.elim)
 ·rintro E r0 FS pre ⟨fp,si,sj⟩ lo k' S' s2 L2 T ⟨fn,tmps,D2,rfl⟩ hT ⟨uU,jG,rfl⟩ hK' DB mr';obtain⟨hq,Dc,Gg⟩:=nL DB;have yq:0<=fp/\fp<=64:=by
   have e1:fp=P.getD pre.length 0:=BO Prod.fst hq;rw[e1];exact hPr _ (by rw[List.getD,Al Dc];exact HK Dc)
  obtain⟨k2,rfl⟩: ∃j,k'=j+2:=⟨k'-2,Af⟩
  simp only[DU,Ae,Ag];refine AQ λb22=>?_;refine CH (by exact DX) ?_;refine Aj ?_;refine Gc ?_;intro S1 s1 L1 EA hK1' hT1' mr1';obtain⟨id,Va⟩: ∃i,(Jl S' o.n0 o.n1 (ob.fi+fp)).1.1=i:=⟨_,rfl⟩
  rw[Va];refine AQ λb25=>?_;obtain⟨rg,hrg⟩: ∃r,O8 o.n0=r:=⟨_,rfl⟩
  have Ac9:=hrg;have hrr:=nM o.n0;rw[hrg] at hrr;have hcw:CW ⟨o.n0,id,rg,0,0,0,0,0⟩:=⟨by constructor<;>dsimp only<;>omega⟩
  unfold O8 at hrg;by_cases h9:o.n0=3
  case' pos=>
   rw[Ac h9] at hrg;refine Aj ?_
  case' neg=>
   rw[Ab h9] at hrg;refine Aj ?_;by_cases Sa:o.n0=8
   case' pos=>
    rw[Ac Sa] at hrg;refine Aj ?_
   case' neg=>
    rw[Ab Sa] at hrg;refine Aj ?_
  all_goals
   refine Cx (Cr [7] 0 8) ?_;refine CC ?_;refine MG (vs:=[pV p.h,F4 x,F4 (si,sj),WQ ⟨o.n0,id,rg,0,0,0,0,0⟩]) ?_ (hy:=by rw[<-hrg];rfl) (q:=sn (x:=x) (y:=(si,sj)) (c:=⟨o.n0,id,rg,0,0,0,0,0⟩));intro S2 s3 L3 hS2 FT FL HP;refine CC ?_;refine Aj ?_;exact iv (k:=k2) ([BP B8 (o.n2%16),BP B7 d.obj,Nm B6 (.slice (some ⟨gb,0,none⟩) P.length cap2),NA gb P sp,Cm D,BP GX o.n0,BP LT o.n1,Xz b7 ob,Bv b3 c,Bv b5 d,Uv b2 0,Xy b1 b t o x y]) (by exact AU) ⟨by rw[Ah,Bs];omega,by rw[Fd,ER,Gu,<-jG];unfold LP;rw[Va,Ac9,<-EA];exact hS2,rfl⟩
 rintro D2 xs lo k' S' s2 L2 rfl ⟨uU,jG,rfl⟩ FT FL HP;rw[eP] at uU;simp only[Ae,Ag];have o9:nN S' c.obj en=R:=by rw[jG];exact hR
 unfold nN at o9;refine Aj ?_;refine Cx (Cr [6,7] 0 8) ?_;refine CC ?_;simp only[AM,AK,AS];refine MG ?_;intro S3 s3 L3 hS3 MD KQ PV;rw[<-hS3] at o9;refine CC ?_;refine Aj ?_;subst o9;exact AV [D2,D] _ rfl (by exact AU) (by exact Ba) (.drop (.drop (.drop (.drop (.drop (.drop (.drop (.drop (.drop (.drop (.drop .refl))))))))))) ⟨rfl,s3,L3,MD.mono Af,KQ.trans (FL.trans DL),rfl⟩
end
section
def KB(S:KT)(n:Int)(x:Ck):Int×KT:=if ¬FE S x 9 then(8,S) else((Qw S ((Ec S x).obj,n)).1.2,(Qw S ((Ec S x).obj,n)).2)
def KC(S:KT)(x:Ck):Int×KT:=if ¬FE S x 9 then(8,S) else if ¬(DW S (Ec S x).obj).st=0 then(16,S) else Ov S (Ec S x).obj 1
def Jm(S:KT)(x:Ck):Int×KT:=if ¬FE S x 9 then(8,S) else IN S (Ec S x).obj
def eR(S:KT)(id pr:Int):KT:=if(Qu.dropQ S.Q id).1=true then{S with Q:=(Qu.addQ (Qu.dropQ S.Q id).2 id pr).2} else{S with Q:=(Qu.dropQ S.Q id).2}
def QA(S:KT)(n:Int)(x:Ck):Int×KT:=
 if ¬FE S x 9 then(8,S) else(0,eR (DV S {DW S (Ec S x).obj with pr:=n}) (DW S (Ec S x).obj).id n)
theorem nP(hK:IsK F C k S p s)(t:Int)(o:IY)(x y:Ck):Fn prog 222 [OD b t o x y] (Aw b p s S G) (KK F C b p k (iV (KB S o.n0 x).1) (KB S o.n0 x).2 G):=by
 have mr:CD b p∈Aw b p s S G:=mR λ_ h=>h;obtain⟨R,hR⟩: ∃R,KB S o.n0 x=R:=⟨_,rfl⟩
 rw[hR];unfold KB at hR;have z0:(toArray (px b t o x y))[2+4+(0:Int).toNat*1]?=some (iV o.n0):=rfl;refine AO func222 ntmps222 λE=>?_;refine AQ λb1=>?_;refine EI (vs:=[OD b t o x y,F4 x,.int .i64 9]) ?_;obtain⟨c,hc⟩: ∃c,Ec S x=c:=⟨_,rfl⟩
 rw[hc] at hR⊢;refine AQ λb3=>?_;by_cases h1:FE S x 9
 case neg=>rw[Ac h1] at hR;subst hR;simp only[h1,HO];refine Aj ?_;exact A9
 rw[Ab (λh=>h h1)] at hR;simp only[h1,GB];refine Aj ?_;obtain⟨z,hz⟩: ∃z:Ck,(c.obj,o.n0)=z:=⟨_,rfl⟩
 rw[hz] at hR;refine Gc (vs:=[pV b,F4 z]) ?_ (hy:=by subst hz;rfl);intro S1 s1 L1 EA Ey DL GI;refine Aj ?_;subst hR;exact A9
theorem nQ(hK:IsK F C (k+1) S p s)(t:Int)(o:IY)(x y:Ck):Fn prog 223 [OD b t o x y] (Aw b p s S G) (KK F C b p k (iV (KC S x).1) (KC S x).2 G):=by
 have mr:CD b p∈Aw b p s S G:=mR λ_ h=>h;obtain⟨R,hR⟩: ∃R,KC S x=R:=⟨_,rfl⟩
 rw[hR];unfold KC at hR;refine AO func223 ntmps223 λE=>?_;refine AQ λb1=>?_;refine EI (vs:=[OD b t o x y,F4 x,.int .i64 9]) ?_;obtain⟨c,hc⟩: ∃c,Ec S x=c:=⟨_,rfl⟩
 rw[hc] at hR⊢;refine AQ λb3=>?_;by_cases h1:FE S x 9
 case neg=>rw[Ac h1] at hR;subst hR;simp only[h1,HO];refine Aj ?_;exact A9
 rw[Ab (λh=>h h1)] at hR;simp only[h1,GB];refine Aj ?_;refine Cx (Cr [9,10] 0 12) ?_;refine CC ?_;obtain⟨u,hu⟩: ∃u,DW S c.obj=u:=⟨_,rfl⟩
 rw[hu] at hR⊢;refine Id e_alloc (by rintro _ _ ⟨_,_,_,rfl⟩ c hc;exact .tail _ hc) ?_;rintro _ _ ⟨b5,_,rfl,rfl⟩;refine CC ?_;by_cases h2:u.st=0
 case neg=>rw[Ac h2] at hR;subst hR;refine Aj ?_;exact A9
 rw[Ab (λh=>h h2)] at hR;refine Aj ?_;refine Gc ?_;intro S1 s1 L1 EA Ey DL GI;refine Aj ?_;subst hR;exact A9
theorem iP(hK:IsK F C k S p s)(t:Int)(o:IY)(x y:Ck):Fn prog 224 [OD b t o x y] (Aw b p s S G) (KK F C b p k (iV (Jm S x).1) (Jm S x).2 G):=by
 have mr:CD b p∈Aw b p s S G:=mR λ_ h=>h;obtain⟨R,hR⟩: ∃R,Jm S x=R:=⟨_,rfl⟩
 rw[hR];unfold Jm at hR;refine AO func224 ntmps224 λE=>?_;refine AQ λb1=>?_;refine EI (vs:=[OD b t o x y,F4 x,.int .i64 9]) ?_;obtain⟨c,hc⟩: ∃c,Ec S x=c:=⟨_,rfl⟩
 rw[hc] at hR⊢;refine AQ λb3=>?_;by_cases h1:FE S x 9
 case neg=>rw[Ac h1] at hR;subst hR;simp only[h1,HO];refine Aj ?_;exact A9
 rw[Ab (λh=>h h1)] at hR;simp only[h1,GB];refine Aj ?_;refine Gc ?_;intro S1 s1 L1 EA Ey DL GI;refine Aj ?_;subst hR;exact A9
theorem xz(hK:IsK F C (k+1) S p s)(t:Int)(o:IY)(x y:Ck):Fn prog 225 [OD b t o x y] (Aw b p s S G) (KK F C b p k (iV (QA S o.n0 x).1) (QA S o.n0 x).2 G):=by
 have mr:CD b p∈Aw b p s S G:=mR λ_ h=>h;obtain⟨R,hR⟩: ∃R,QA S o.n0 x=R:=⟨_,rfl⟩
 rw[hR];unfold QA eR at hR;have z0:(toArray (px b t o x y))[2+4+(0:Int).toNat*1]?=some (iV o.n0):=rfl;refine AO func225 ntmps225 λE=>?_;refine AQ λb1=>?_;refine EI (vs:=[OD b t o x y,F4 x,.int .i64 9]) ?_;obtain⟨c,hc⟩: ∃c,Ec S x=c:=⟨_,rfl⟩
 rw[hc] at hR⊢;refine AQ λb3=>?_;by_cases h1:FE S x 9
 case neg=>rw[Ac h1] at hR;subst hR;simp only[h1,HO];refine Aj ?_;exact A9
 rw[Ab (λh=>h h1)] at hR;simp only[h1,GB];refine Aj ?_;refine Cx (Cr [9,10] 0 12) ?_;refine CC ?_;have Jq:=hK.tO c.obj;obtain⟨u,hu⟩: ∃u,DW S c.obj=u:=⟨_,rfl⟩
 rw[hu] at hR Jq⊢;refine Id e_alloc (by rintro _ _ ⟨_,_,_,rfl⟩ c hc;exact .tail _ hc) ?_;rintro _ _ ⟨b5,_,rfl,rfl⟩;refine CC ?_;refine Aj ?_;refine Cx (Cr [4] 0 5) ?_;refine CC ?_;refine MG (q:=Ow {u with pr:=o.n0} ⟨Jq.out⟩) ?_;intro S1 s1 L1 EA Ey DL GI;rw[show DV S {u with pr:=o.n0}=S1 from EA.symm] at hR;refine CC ?_;refine Aj ?_;refine Cx (Cr [5] 0 6) ?_;refine CC ?_;refine MG ?_;intro S2 s2 L2 hS2 FT FL HP;rw[<-hS2] at hR;obtain⟨q,hq⟩: ∃q,(Qu.dropQ S1.Q u.id).1=q:=⟨_,rfl⟩
 rw[hq] at hR⊢;have eQ:(Qu.dropQ S1.Q u.id).2=S2.Q:=by rw[hS2]
 rw[eQ] at hR;refine CC ?_;cases q with
 |false=>rw[Ab AZ] at hR;refine Aj ?_;subst hR;exact A9
 |true=>
 rw[Ac rfl] at hR;refine Aj ?_;refine Cx (Cr [7] 0 8) ?_;refine CC ?_;refine MG ?_;intro S3 s3 L3 hS3 MD KQ PV;refine CC ?_;refine Aj ?_;subst hR;have hS:S3={S1 with Q:=(Qu.addQ S2.Q u.id o.n0).2}:=by rw[hS3,hS2]
 exact A9
end
section
instance{t u:Th.ThT}[ht:AD t.gv][hu:AD u.inn]:EK prog F C b p 318 [pV b,Th.thV t,Th.thV u] (k+1) S k (.bool (Qt S t u).1) (Qt S t u).2:=⟨λs G h=>r8 h t u ht hu⟩
theorem xA(S:KT)(t u:Th.ThT):(Qt S t u).2.T=S.T:=by unfold Qt;(repeat' split)<;>rfl
theorem ut{S':KT}(h:S'.T=S.T)(id:Int):DW S' id=DW S id:=by unfold DW;rw[h]
abbrev uv(id:Int)(m:Oz)(bd:Int)(got:Bool):Ii:=⟨id,0,0,m,bd,got,0,0,false⟩
def J8(S:KT)(t:Th.ThT)(id:Int)(m:Oz)(bd:Int):Ii×KT:=
 (uv id m bd (Qt S t (DW S id)).1,DV (Qt S t (DW S id)).2 (ur m bd (Qt S t (DW S id)).1 (DW S id)))
theorem nR(hK:IsK F C (k+1) S p s)(t:Th.ThT)(id:Int)(m:Oz)(bd:Int)[ht:AD t.gv]:Fn prog 269 [pV b,Th.thV t,.int .i64 id,pu m,Bc bd] (Aw b p s S G) (KK F C b p k (eu (J8 S t id m bd).1) (J8 S t id m bd).2 G):=by
 have mr:CD b p∈Aw b p s S G:=mR λ_ h=>h;have hu:AD (DW S id).inn:=⟨by have:=hK.tG id;omega⟩
 have Jq:=hK.tO id;obtain⟨R,hR⟩: ∃R,J8 S t id m bd=R:=⟨_,rfl⟩
 rw[hR];unfold J8 at hR;refine AO func269 ntmps269 λE=>?_;refine AQ λb6=>?_;refine AQ λb8=>?_;refine AQ λb9=>?_;refine AQ λGX=>?_;refine EI ?_;refine Aj ?_;refine EI ?_;obtain⟨u,hu1⟩: ∃u,DW S id=u:=⟨_,rfl⟩
 rw[hu1] at hR hu Jq⊢;refine AQ λLT=>?_;refine Gc ?_;intro S1 s1 L1 EA Ey DL GI;have e1:DW S1 id=u:=by rw[EA,ut (xA _ _ _),hu1]
 obtain⟨q,hq⟩: ∃q,Qt S t u=q:=⟨_,rfl⟩
 rw[hq] at hR EA⊢;rw[<-EA] at hR;obtain⟨got,hgot⟩: ∃g,q.1=g:=⟨_,rfl⟩
 rw[hgot] at hR⊢;refine AQ λZP=>?_;refine U3 (id:=id) (nA b8 b9 ZP m bd got) ⟨by rw[e1];exact Jq.out⟩ ?_;intro S2 s2 L2 hS2 FT FL HP;rw[e1] at hS2⊢;refine Aj ?_;subst hR;exact A9 (h:=Cz rfl (.tail _ (.tail _ (.head _))) (As.LSub.of_all (n:=12) (R2 (uv id m bd got)) rfl) .nil)
instance{t:Th.ThT}{id:Int}{m:Oz}{bd:Int}[ht:AD t.gv]:EK prog F C b p 269 [pV b,Th.thV t,.int .i64 id,pu m,Bc bd] (k+1) S k (eu (J8 S t id m bd).1) (J8 S t id m bd).2:=⟨λs G h=>nR h t id m bd⟩
def KD(S:KT)(u:Int):KT:=if(DW S u).ca=0 then S else(IN S (DW S u).ca).2
def PL(S:KT)(t u:Int):KT:=(Ov (DV (KD S u) {DW (KD S u) u with ca:=t}) t 4).2
theorem sr(hK:IsK F C k S p s)(t u:Int):Fn prog 271 [pV b,.int .i64 t,.int .i64 u] (Aw b p s S G) (KK F C b p k (.tuple #[]) (PL S t u) G):=by
 have mr:CD b p∈Aw b p s S G:=mR λ_ h=>h;obtain⟨R,hR⟩: ∃R,PL S t u=R:=⟨_,rfl⟩
 rw[hR];unfold PL at hR;refine AO func271 ntmps271 λE=>?_;refine AQ λb4=>?_;refine EI ?_;refine Aj ?_;refine EI ?_;obtain⟨x,hx⟩: ∃x,DW S u=x:=⟨_,rfl⟩
 rw[hx];refine AQ λb6=>?_;by_cases h0:x.ca=0
 ·rw[show KD S u=S by unfold KD;rw[hx,Ac h0]] at hR;refine Aj ?_;have Jq:=hK.tO u;refine U3 (id:=u) (V5 b4 t) ⟨Jq.out⟩ ?_;intro S2 s2 L2 hS2 FT FL HP;rw[<-hS2] at hR;refine Aj ?_;refine Gc ?_;intro S3 s3 L3 hS3 MD KQ PV;refine Aj ?_;exact A9
 ·refine Aj ?_;refine Gc ?_;intro S1 s1 L1 EA Ey DL GI;rw[show KD S u=S1 by unfold KD;rw[hx,Ab h0,EA]] at hR;refine Aj ?_;have Jq:=Ey.tO u;refine U3 (id:=u) (V5 b4 t) ⟨Jq.out⟩ ?_;intro S2 s2 L2 hS2 FT FL HP;rw[<-hS2] at hR;refine Aj ?_;refine Gc ?_;intro S3 s3 L3 hS3 MD KQ PV;refine Aj ?_;exact A9
instance{t u:Int}:EK prog F C b p 271 [pV b,.int .i64 t,.int .i64 u] k S k (.tuple #[]) (PL S t u):=⟨λs G h=>sr h t u⟩
end
section
theorem OE:(l++(lo++Aw b p s S G)).Perm (lo++Aw b p s S (l++G)):=by unfold Aw;exact B0
theorem Ie{X:Ad}:(lo++Aw b p s S (X++(l++G))).Perm (l++(lo++Aw b p s S (X++G))):=by unfold Aw;exact B0
theorem Uw{t a:Int}(h:(HH S t a).2=0):(HH S t a).1=DW S t/\Ps S t=true/\(DW S t).st=1/\0<=a/\a<=4096:=by
 unfold HH at h⊢
 split at h
 ·cases h
 ·rename_i h1;rw[Ab h1];simp only[not_or] at h1;exact⟨rfl,by cases hx:Ps S t;exact absurd hx h1.1;rfl,Decidable.not_not.1 h1.2.1,Af,Af⟩
def sendH(S:KT)(x:Th.ThT)(t u:Int)(m:Oz)(bd:Int)(cl:Bool):List Ii×KT:=
 if cl=true then([(J8 {S with E:=(En.removeD S.E u).2} x u m bd).1],PL (DV (Ov (J8 {S with E:=(En.removeD S.E u).2} x u m bd).2 u 1).2 {DW (Ov (J8 {S with E:=(En.removeD S.E u).2} x u m bd).2 u 1).2 t with cl:=true}) t u)
 else([(J8 {S with E:=(En.removeD S.E u).2} x u m bd).1,Np t],(Ov (J8 {S with E:=(En.removeD S.E u).2} x u m bd).2 u 1).2)
theorem bN(hK:IsK F C (k+2) S p s)(B1 B2 B3 B4 B5 B6 B7:Nat)(x:Th.ThT)(hx:AD x.gv)(t u:Int)(m:Oz)(c:CapT)(cl:Bool):
 Y8 prog 268 [pV B1,pV B2,pV B3,pV B4,pV B5,pV B6,pV B7] (λn:Ii=>[eu n]) ([rB B1 b,BP B2 u,Th.thC B3 x,UO B4 m,Bv B5 c,Xv B6 cl,BP B7 t]++Aw b p s S G) (λxs C'=>xs=(sendH S x t u m c.badge cl).1/\ ∃s' L,IsK F C k (sendH S x t u m c.badge cl).2 p s'/\Tail L G/\C'=[rB B1 b,BP B2 u,Th.thC B3 x,UO B4 m,Bv B5 c,Xv B6 cl,BP B7 t]++Aw b p s' (sendH S x t u m c.badge cl).2 L):=by
 refine⟨λr I hY l h0=>?_⟩;refine Fn.keep (.of_perm (OE (lo:=[rB B1 b,BP B2 u,Th.thC B3 x,UO B4 m,Bv B5 c,Xv B6 cl,BP B7 t]))) ?_;have mr:CD b p∈Aw b p s S (l++G):=mR λ_ h=>h;obtain⟨R,hR⟩: ∃R,sendH S x t u m c.badge cl=R:=⟨_,rfl⟩
 rw[hR];unfold sendH at hR;simp only[Ae,Ag];refine AO func268 ntmps268 λE=>?_;refine Aj ?_;refine Cx (Cr [3] 0 4) ?_;refine CC ?_;refine MG ?_;intro S1 s1 L1 EA Ey DL GI;rw[<-EA] at hR;refine CC ?_;refine Aj ?_;refine Gc (vs:=[pV b,Th.thV x,.int .i64 u,pu m,Bc c.badge]) ?_;intro S2 s2 L2 hS2 FT FL HP;rw[<-hS2] at hR;obtain⟨n1,ZC⟩: ∃n,(J8 S1 x u m c.badge).1=n:=⟨_,rfl⟩
 rw[ZC] at hR⊢;refine AQ λc9=>?_;refine Gc ?_;intro S3 s3 L3 hS3 MD KQ PV;rw[<-hS3] at hR;refine Aj ?_;cases cl with
 |true=>rw[Ac rfl] at hR;refine Aj ?_;have Jq:=MD.tO t;refine U3 (id:=t) iC ⟨Jq.out⟩ ?_;intro S4 s4 L4 hS4 hK4 jm mr4;rw[<-hS4] at hR;refine Aj ?_;refine Gc ?_;intro S5 s5 L5 hS5 hK5 hT5 mr5;rw[<-hS5] at hR;refine Aj ?_;obtain⟨X,rfl⟩:Tail L5 (l++G):=hT5.trans (jm.trans (KQ.trans (FL.trans DL)));refine Bq (.of_perm (Ie (lo:=[U4 c9 n1,rB B1 b,BP B2 u,Th.thC B3 x,UO B4 m,Bv B5 c,Xv B6 true,BP B7 t]))) ?_;refine AR (C0 (vs:=[eu n1]) rfl rfl (hY [] n1 l _ (Bm _) h0)) ?_;rintro v _ ⟨l1,rfl,hI,rfl⟩;refine Bq (.of_perm OE) ?_;simp only[Ae,Ag];refine Aj ?_;subst hR;exact CM _ .refl (.drop (.of_perm (Ie (X:=[]) (lo:=[rB B1 b,BP B2 u,Th.thC B3 x,UO B4 m,Bv B5 c,Xv B6 true,BP B7 t])))) ⟨[n1],l1,_,hI,⟨rfl,s5,X++G,hK5,⟨X,rfl⟩,rfl⟩,rfl⟩
 |false=>rw[Ab AZ] at hR;refine Aj ?_;obtain⟨X,rfl⟩:Tail L3 (l++G):=KQ.trans (FL.trans DL);refine Bq (.of_perm (Ie (lo:=[U4 c9 n1,rB B1 b,BP B2 u,Th.thC B3 x,UO B4 m,Bv B5 c,Xv B6 false,BP B7 t]))) ?_;refine AR (C0 (vs:=[eu n1]) rfl rfl (hY [] n1 l _ (Bm _) h0)) ?_;rintro v _ ⟨l1,rfl,hI,rfl⟩;refine Bq (.of_perm OE) ?_;simp only[Ae,Ag];refine Aj ?_;refine Bq (.of_perm (Ie (X:=[]) (lo:=[U4 c9 n1,rB B1 b,BP B2 u,Th.thC B3 x,UO B4 m,Bv B5 c,Xv B6 false,BP B7 t]))) ?_;refine AR (C0 (vs:=[eu (Np t)]) rfl rfl (hY [n1] (Np t) l1 _ (by simp) hI)) ?_;rintro v _ ⟨l2,rfl,NP,rfl⟩;refine Bq (.of_perm OE) ?_;simp only[Ae,Ag];refine Aj ?_;subst hR;exact CM _ .refl (.drop (.of_perm (Ie (X:=[]) (lo:=[rB B1 b,BP B2 u,Th.thC B3 x,UO B4 m,Bv B5 c,Xv B6 false,BP B7 t])))) ⟨[n1,Np t],l2,_,NP,⟨rfl,s3,X++G,MD,⟨X,rfl⟩,rfl⟩,rfl⟩
end
end Go.Proofs.YtlifcingifodfaaGreat
