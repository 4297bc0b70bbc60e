/- Laws that the statement's proof leans on (joined out of several texts). -/
import Derived.Test.YtlkgekpmileobaaGreatGb8
import Derived.Test.YtlkgekpmileobaaGreatGb49
import Derived.Test.YtlkgekpmileobaaGreatGb50
import Derived.Test.YtlkgekpmileobaaGreatGb30
import Derived.Test.YtlkgekpmileobaaGreatGb23
import Derived.Test.YtlkgekpmileobaaGreatGb10
import Derived.Test.YtlkgekpmileobaaGreatGb18
import Derived.Test.YtlkgekpmileobaaGreatGb13
import Derived.Test.YtlkgekpmileobaaGreatGb16
import Derived.Test.YtlkgekpmileobaaGreatGb1
import Derived.Test.YtlkgekpmileobaaGreatGb11
set_option linter.unusedVariables false
set_option linter.unusedSimpArgs false
namespace Go.Proofs.YtlkgekpmileobaaGreat
open Tryz
open List(toArray)
open Go.RowKit
set_option maxRecDepth 20000
def VwL.all(x:VwL):List Ab:=x.co++(x.cc++(x.ct++(x.ch++(x.cr++x.cq))))
theorem YL(kb b:Nat)(l:List Ab)(hm:Oc kb b∈l):Fn prog 55 [pV kb] l λv l'=>v=pV b/\l'=l:=by refine AO func55 ntmps55 λE=>?_;exact Es
theorem uz(b:Nat)(p:RP)(s:RL)(S:KT)(x:VwL)(A G:List Ab):Keep (x.co++(x.cc++(x.ct++(x.ch++(x.cr++(x.cq++Av b p s S (A++G))))))) (x.all++(A++(Av b p s S []++G))):=by unfold Av VwL.all;exact AY []
section
variable{F C k:Nat}{S:KT}{th:List Int}{st:List (Int×List Hs)}{wb:Nat}{l:List Ab}
theorem ah{p:RP}{s:RL}{b:Nat}(hK:IsK F C k S p s)(A G:List Ab):Fn prog 56 [pV b] (A++(Av b p s S []++G)) λv l'=> ∃x:VwL,v= .agg (toArray (WY x.vo x.vc x.vt x.vh S.N x.vr x.vq))/\iE C S x/\l'=x.all++(A++(Av b p s S []++G)):=
 Fn.re (.of_perm (ss ..)) (pT hK (A++G)) λv l' ⟨x,h1,h2,h3⟩=>⟨_,by rw[h3];exact uz ..,x,h1,h2,rfl⟩
theorem uC(w k:Ab)(ct cs cn A G:List Ab):(w::k::(ct++(cs++(cn++A))))++G=[w,k]++ct++cs++cn++(A++G):=by simp
set_option maxHeartbeats 1000000 in
theorem cX(hW:U9 F C k S th st wb l)(G:List Ab):Fn prog 22 [pV wb] (l++G) λv l'=> ∃x:VwL,v= .agg (toArray (WY x.vo x.vc x.vt x.vh S.N x.vr x.vq))/\iE C S x/\l'=x.all++(l++G):=by
 obtain⟨b,kb,p,s,vt,vs,ct,cs,rows,cn,hK,ht,hs,hst,hsl,hl⟩:=hW.ex;obtain⟨A,hA⟩: ∃A,[cR wb kb vt vs,Oc kb b]++ct++cs++cn=A:=⟨_,rfl⟩
 have mw:cR wb kb vt vs∈A:=by rw[<-hA];simp
 have mk:Oc kb b∈A:=by rw[<-hA];simp
 have hv:=λG=>ah hK (b:=b) A G;have el: ∀G,l++G=A++(Av b p s S []++G):=λG=>by rw[hl,uC,hA]
 rw[el];have mw':cR wb kb vt vs∈A++(Av b p s S []++G):=Ai _ mw;have mk':Oc kb b∈A++(Av b p s S []++G):=Ai _ mk;refine AO func22 ntmps22 λE=>?_;refine AQ λb2=>?_;refine Bc (AK rfl rfl λl2 hl=>YL kb b l2 (hl _ (.tail _ mk'))) ?_;refine AS (Az rfl rfl (ah (b:=b) hK ((b2,Obj.cells (toArray (C5::C5::C5::C5::(O3++[C5,C5]))) 52 (0,0))::A) G)) ?_;rintro _ _ ⟨x,rfl,hx,rfl⟩;obtain⟨vo,vc,vt,vh,vr,vq,co,cc,ct',ch,cr,cq⟩:=x;obtain⟨ho,hc,ht',hh,hr,hq⟩:=hx;simp only at ho hc ht' hh hr hq;obtain⟨Y,hY⟩: ∃Y,VwL.all ⟨vo,vc,vt,vh,vr,vq,co,cc,ct',ch,cr,cq⟩=Y:=⟨_,rfl⟩
 rw[hY];refine Bk (l':=(b2,Obj.cells (toArray (C5::C5::C5::C5::(O3++[C5,C5]))) 52 (0,0))::(Y++(A++(Av b p s S []++G)))) (.of_perm AH) ?_;have hlv:(WY vo vc vt vh S.N vr vq).length=86:=by simp[G8]
 refine Aj ?_;apply LV
 ·refine Ee (cs:=toArray (C5::C5::C5::C5::(O3++[C5,C5]))) (T:=52) (l':=iY b2 vo vc vt vh S.N vr vq::(Y++(A++(Av b p s S []++G)))) rfl rfl hlv ?_ ?_ ?_
  ·intro v hv;simp only[DM,Aq,AF,BK,Ec] at hv;rcases hv with rfl|rfl|rfl|rfl|hv|rfl|rfl
   ·exact ho.one
   ·exact hc.one
   ·exact ht'.one
   ·exact hh.one
   ·exact QD _ v hv
   ·exact hr.one
   ·exact hq.one
  ·rw[DM,As.setFrom_all _ _ (by simp[G8];rfl)];exact .here
  ·show 0+86<=(C5::C5::C5::C5::(O3++[C5,C5])).length;decide
 ·rfl
 ·rfl
 rintro _ _ ⟨rfl,rfl⟩;refine Aj ?_;exact AU [] (iY b2 vo vc vt vh S.N vr vq::(Y++(A++(Av b p s S []++G)))) rfl .refl (Cq rfl (.head _) (As.LSub.of_all (n:=86) _ hlv) .nil) (.drop .refl) ⟨⟨vo,vc,vt,vh,vr,vq,co,cc,ct',ch,cr,cq⟩,rfl,⟨ho,hc,ht',hh,hr,hq⟩,by rw[hY]⟩
set_option maxHeartbeats 1000000 in
theorem iG(hW:U9 F C k S th st wb l)(hth:th.length<=1000000)(G:List Ab):Fn prog 20 [pV wb] (l++G) λv l'=> ∃c2,OwnSl 3 1 v th.length (th.map CA) c2/\l'=c2++(l++G):=by
 obtain⟨b,kb,p,s,vt,vs,ct,cs,rows,cn,hK,ht,hs,hst,hsl,hl⟩:=hW.ex;have mw:cR wb kb vt vs∈l++G:=by rw[hl];simp
 have hvt:=ht.one;have MM: ∀c,c∈ct->c∈l++G:=λc hc=>by rw[hl];simp[hc]
 refine AO func20 ntmps20 λE=>?_;refine Aj ?_;refine AS (Az (vs:=[vt]) rfl rfl (En.clone_any vt th ct _ ht MM hth)) ?_;rintro v' _ ⟨c2,ho2,rfl⟩;have hv1:v'.oneCell'=true:=ho2.one;refine Aj ?_;refine A8 .refl ?_;exact⟨c2,ho2,rfl⟩
end
def Mc(hs:List P0)(s:CB):CapT×Bool:=match hs.find? (λh=>decide (h.1=s)) with
 |some h=>(h.2,true)
 |none=>(Cv,false)
abbrev uD(B:Nat)(c:List Value):Ab:=(B,.cells (toArray c) 52 (0,0))
abbrev vb(B:Nat)(h:P0):Ab:=(B,.cells (toArray (P1 h)) 132 (0,0))
set_option maxHeartbeats 1000000 in
theorem lV(c:List Value)(vc:Value)(hs:List P0)(s:CB)(l:List Ab)(hc:(toArray c)[1]?=some vc)(hv:RowSl l vc 10 P1 hs)(hn:hs.length<=1000000):Fn prog 68 [.agg (toArray c),Fp s] l λv l'=>v= .tuple #[UH (Mc hs s).1,.bool (Mc hs s).2]/\l'=l:=by
 obtain⟨a,cap,rfl,hr⟩:=hv;refine AO func68 ntmps68 λE=>?_;refine Aj ?_;refine AS (CR rfl) ?_;rintro _ _ ⟨b2,_,rfl,rfl⟩;refine AS (CR rfl) ?_;rintro _ _ ⟨b3,_,rfl,rfl⟩;refine AQ λb4=>?_;refine Cu (α:=Nat) (λk=>[(2,pV b2),(3,pV b3),(4,pV b4),(9,.slice a hs.length cap),(10,.int .i64 (hs.length:Nat)),(11,.int .i64 k)]) (λk=>Bp b4 Cv::(b3,.cells (toArray (Cj s)) 61 (0,0))::uD b2 c::l) (λk=>k<=hs.length/\ ∀h,h∈hs.take k->¬h.1=s) (λk=>hs.length-k) 0 ⟨Bf _,by simp⟩ ⟨rfl,rfl,rfl,rfl,rfl,rfl,trivial⟩ .refl ?_;rintro k ⟨hk,hno⟩;by_cases hlt:k<hs.length
 ·obtain⟨h,e1⟩: ∃h,hs[k]?=some h:=⟨_,Am hlt⟩
  obtain⟨b,off,cs,t,fz,rfl,hm,hrow⟩:=hr Af;obtain⟨g1,g2⟩:=hrow k h e1;refine Aj ?_;refine Bc (Dm rfl (.tail _ (.tail _ (.tail _ hm))) g1 g2) ?_;refine AQ λb7=>?_;refine Bc (FJ (ks:=[some .i64,some .i64]) (xs:=Cj h.1) (ys:=Cj s) rfl rfl (IW (by rfl)) (IW (by rfl))) ?_;by_cases he:h.1=s
  ·rw[show BQ (Cj h.1) (Cj s)=true by rw[he];exact F4 (ks:=[some .i64,some .i64]) (IW (by rfl))];have hf:Mc hs s=(h.2,true):=by
    have h3:hs.find? (λh=>decide (h.1=s))=some h:=by obtain⟨hl,hx⟩:=Ax.1 e1;refine List.find?_eq_some_iff_getElem.2 ⟨by simpa using he,k,hl,hx,λj hj=>?_⟩;have:=hno hs[j] (List.mem_take_iff_getElem.2 ⟨j,Af,rfl⟩);simpa using this
    unfold Mc;rw[h3]
   rw[hf];refine Aj ?_;exact AU (vs:=[UH h.2,.bool true]) [] _ rfl .refl (Cq rfl (.tail _ (.head _)) (As.LSub.of_all (n:=8) (BR h.2) rfl) (by exact A7)) (.drop (.drop (.drop (.drop .refl)))) ⟨rfl,rfl⟩
  ·rw[show BQ (Cj h.1) (Cj s)=false by
    cases hq:BQ (Cj h.1) (Cj s) with
    |false=>rfl
    |true=>have:=(FW (ks:=[some .i64,some .i64]) (IW (by rfl)) (IW (by rfl))).1 hq;simp only[Cj,CJ,Value.int.injEq,KU,Ml] at this;exact absurd (I0 this.1 this.2) he]
   refine Aj ?_;exact BS (k+1) ⟨Af,λx hx=>by
    rw[B0,e1,AF] at hx;rcases hx with hx|hx
    ·exact hno x hx
    ·simp at hx;rw[hx];exact he⟩ Af ⟨rfl,rfl,rfl,rfl,rfl,rfl,trivial⟩ (.drop .refl)
 ·obtain rfl:k=hs.length:=by omega
  have hf:Mc hs s=(Cv,false):=by unfold Mc;rw[Bu.2 λx hx=>by simpa using hno x (by rw[D1];exact hx)]
  rw[hf];refine Aj ?_;exact AU (vs:=[UH Cv,.bool false]) [] _ rfl .refl (Cq rfl (.head _) (As.LSub.of_all (n:=8) (BR Cv) rfl) (by exact A7)) (.drop (.drop (.drop .refl))) ⟨rfl,rfl⟩
theorem LSub.front: ∀(A B:List Value),LSub (A++B) 0 A.length A
 |[],B=> .done
 |a::A,B=> .take (LSub.front A B)
theorem iH(vo vc vt vh:Value)(N:As.ASt)(vr vq:Value):LSub (WY vo vc vt vh N vr vq) 4 80 (WX N):=by refine .drop (.drop (.drop (.drop ?_)));have:=LSub.front (WX N) [vr,vq];rwa [G8] at this
abbrev we(o:Int)(d:Bool)(r0 r1 r2 r3 s0 s1 s2 s3:Int):List Value:=[iV o,.bool d,iV r0,iV r1,iV r2,iV r3,iV s0,iV s1,iV s2,iV s3]
set_option maxHeartbeats 1000000 in
theorem lW(vo vc vt vh vr vq:Value)(N:As.ASt)(hs:List P0)(id:Int)(cp:CapT)(l:List Ab)(hv:RowSl l vc 10 P1 hs)(hn:hs.length<=1000000)(h1:Mc hs (id,1)=(cp,true))(h2:cp.kind=5)(h3:N.root 0=0)(h4:N.root 1=cp.obj)(h5:¬cp.obj=0):
 Fn prog 50 [.agg (toArray (WY vo vc vt vh N vr vq)),.int .i64 id] l λv l'=>v= .tuple #[iV (N.ser 1),.bool true]/\l'=l:=by
 have u1:(toArray (WY vo vc vt vh N vr vq))[1]?=some vc:=rfl;have u4:=iH vo vc vt vh N vr vq;have u86:(WY vo vc vt vh N vr vq).length=86:=by simp[G8]
 have hp:((WX N).drop (0*10)).take 10=we (N.obj 0) (N.dead 0) (N.root 0) (N.root 1) (N.root 2) (N.root 3) (N.ser 0) (N.ser 1) (N.ser 2) (N.ser 3):=rfl;obtain⟨c,hc⟩: ∃c,WY vo vc vt vh N vr vq=c:=⟨_,rfl⟩
 rw[hc] at u1 u4 u86⊢;have hj:=λl2 hl=>lV c vc hs (id,1) l2 u1 (hv.mono hl) hn;rw[h1] at hj;dsimp only at hj;refine AO func50 ntmps50 λE=>?_;refine Aj ?_;refine AS (CR rfl) ?_;rintro _ _ ⟨b2,_,rfl,rfl⟩;refine Aj ?_;refine Bc (IR rfl (.head _) (As.LSub.of_all (n:=86) c u86)) ?_;refine Aj ?_;refine Bc (AK (vs:=[.agg (toArray c),Fp (id,1)]) rfl rfl λl2 hl=>hj l2 λx hx=>hl x (.tail _ hx)) ?_;refine AQ λb6=>?_;refine Bc (IR rfl (.tail _ (.head _)) u4) ?_;refine Aj ?_;refine Hb 0 ?_;refine Aj ?_;refine Bc (X6 (i:=0) rfl rfl AW hp) ?_;rw[h3,h4];refine AQ λb9=>?_;refine Hb 1 ?_;refine Aj ?_;refine l6 (v:=iV 0) (by refine UY (m:=0) rfl rfl rfl AW rfl) rfl rfl rfl ?_;refine Aj ?_;refine Ew ?_;refine Aj ?_;refine l6 (v:=iV cp.obj) (by refine UY (m:=1) rfl rfl rfl AW rfl) rfl rfl rfl ?_;refine Aj ?_;refine Bc (Dv (v:=iV (N.ser 1)) rfl (.head _) rfl) ?_;refine Aj ?_;exact Cy (vs:=[iV (N.ser 1),.bool true]) _ .refl (.drop (.drop (.drop .refl))) ⟨rfl,rfl⟩
set_option maxRecDepth 100000
abbrev sx:Nz:=⟨0,0,0,0,0,0,0⟩
abbrev Vc:LT:=⟨1,0,1,sx,0,0,0,0,0⟩
abbrev WZ:LT:=⟨2,0,0,⟨1,3,3,0,1,8,1⟩,0,0,0,0,0⟩
abbrev YM:LT:=⟨3,0,0,sx,8,0,0,0,0⟩
def qm:KT:=KD 22 1 2 false
abbrev iI:Hs:=⟨1,6,0,qf,0,false,4,8,false⟩
theorem lX:Iq qm [Vc,WZ,YM]=[(0,[]),(0,[L8 1]),(0,[iI])]:=by decide+kernel
theorem pU:cT 22 2 false=[1,8]:=by decide+kernel
def awT:KT:=WV qm [Vc,WZ,YM]
abbrev cY(B:Nat)(cs:List Value):Ab:=(B,.cells (toArray cs) 69 (0,0))
instance:EQ prog 67 [some .i64,some .u64,none]:=⟨Bv⟩
abbrev vf(sp:List Value):List Value:=iV 1::iV 6::Ba 0::Ba 0::Ba 0::Ba 0::Ba 0::Ba 0:: .bool false::iV 4::Ba 8:: .bool false::sp
def sy:Bool:=decide ((Mc (DC awT.H.1) (1,1)).2=true)&&decide ((Mc (DC awT.H.1) (1,1)).1.kind=5)&&decide (awT.N.root 0=0)&&decide (awT.N.root 1=(Mc (DC awT.H.1) (1,1)).1.obj)&&!decide ((Mc (DC awT.H.1) (1,1)).1.obj=0)&&decide (awT.N.ser 1=1)&&decide ((DC awT.H.1).length<=1000)
theorem sA:sy=true:=by decide+kernel
theorem sB:cQ Vc/\cQ WZ/\cQ YM:=⟨⟨⟨by decide,by decide,by decide,by decide,by decide,by decide,by decide⟩,by decide,by decide⟩,⟨⟨by decide,by decide,by decide,by decide,by decide,by decide,by decide⟩,by decide,by decide⟩,⟨⟨by decide,by decide,by decide,by decide,by decide,by decide,by decide⟩,by decide,by decide⟩⟩
set_option maxHeartbeats 4000000 in
theorem Px(l:List Ab):Fn prog 17 [] l λv l'=>v= .bool true/\ ∃X,l'=X++l:=by
 obtain⟨he1,he2,he3⟩:=sB;refine AO func17 ntmps17 λE=>?_;refine Aj ?_;refine AS (Az (vs:=[nt 22 1 2 false]) rfl rfl (WT 22 1 2 false l)) ?_;rintro _ _ (⟨hmay,rfl,rfl⟩|⟨hmay,wb,lw,rfl,hW,rfl⟩)
 ·exact absurd hmay AW
 have hth:cT (22:Int).toNat (2:Int).toNat false=[1,8]:=pU;rw[hth] at hW;refine Aj ?_;try simp only[AL,AI,AN]
 have hW:U9 22 1 (832+WS Vc) qm [1,8] [] wb lw:=hW;have hpl:=lX;simp only[Iq,CJ,Prod.mk.injEq,Ml] at hpl;obtain⟨⟨hp1,hp2⟩,⟨hp3,hp4⟩,hp5,hp6⟩:=hpl;refine It (Az (vs:=[pV wb]) rfl rfl (iG hW AW l)) rfl rfl rfl ?_;rintro v1 _ ⟨ct,hoT,rfl⟩;have hv1:=hoT.one;refine It (Xk (z0:= .int .i64 0) (cs:=[.int .i64 1,.int .i64 8]) rfl AW AW rfl) rfl rfl rfl ?_;rintro _ _ ⟨bl,_,rfl,rfl⟩;refine N9 (AK rfl rfl λl2 hl=>Us v1 _ [1,8] [1,8] l2 (hoT.intsQ λc hc=>hl c (.tail _ (Ai _ hc))) ((OwnSl.lit (e:=3) (n:=2) AW rfl AW).intsQ λc hc=>hl c (by rw[AA.1 hc];exact .head _)) AW) rfl rfl rfl ?_;rw[At rfl];refine Aj ?_;refine Bk (l':=lw++l) (.drop (Keep.dropL' ct .refl)) ?_;refine AS (Az (vs:=[pV wb,OX Vc]) rfl rfl (QC Vc he1 hW AW l (BW (WU _ _) AW))) ?_;rintro _ _ ⟨sl1,c1,lw1,rfl,ho1,hW1,rfl⟩;have hW1:U9 22 1 (824+WS WZ) (Mh qm Vc).2 [1,8] _ wb lw1:=hW1;refine Aj ?_;refine Bk (l':=lw1++l) (Keep.dropL' c1 .refl) ?_;refine Bc (F5 (zs:=[Ba 0,Ba 0,Ba 0,Ba 0,Ba 0,Ba 0]) (cs:=[Ba 3,Ba 3,Ba 0,Ba 1,Ba 8,Ba 1]) rfl rfl) ?_;refine Aj ?_;refine AS (Az (vs:=[pV wb,OX WZ]) rfl rfl (QC WZ he2 hW1 AW l (BW (WU _ _) AW))) ?_;rintro _ _ ⟨sl2,c2,lw2,rfl,ho2,hW2,rfl⟩;have hW2:U9 22 1 (822+WS YM) (Mh (Mh qm Vc).2 WZ).2 [1,8] _ wb lw2:=hW2;rw[hp4] at ho2;rw[hp3];obtain⟨q2,k2,rfl⟩:=ho2.shape;refine AQ λb3=>?_;refine Bk (l':=lw2++(Hi b3 0 (.slice q2 [L8 1].length k2)::(c2++l))) (show Keep (Hi b3 0 (.slice q2 [L8 1].length k2)::(c2++(lw2++l))) _ from AY []) ?_;refine AS (Az (vs:=[pV wb,OX YM]) rfl rfl (QC YM he3 hW2 AW _ (BW (WU _ _) AW))) ?_;rintro _ _ ⟨sl3,c3,lw3,rfl,ho3,hW3,rfl⟩;rw[hp6] at ho3;rw[hp5];obtain⟨g3,k3,sp3,rfl,rfl⟩:=Mg ho3 AW;refine AQ λb4=>?_;refine Bk (l':=lw3++(Hi b4 0 (.slice (some ⟨g3,0,none⟩) [iI].length k3)::([cY g3 (GS [iI]++sp3)]++(Hi b3 0 (.slice q2 [L8 1].length k2)::(c2++l))))) (show Keep (Hi b4 0 (.slice (some ⟨g3,0,none⟩) [iI].length k3)::([cY g3 (GS [iI]++sp3)]++(lw3++(Hi b3 0 (.slice q2 [L8 1].length k2)::(c2++l))))) _ from AY []) ?_;refine AS (Az (vs:=[pV wb]) rfl rfl (cX hW3 _)) ?_;rintro _ _ ⟨x,rfl,hx,rfl⟩;have hS:(Mh (Mh (Mh qm Vc).2 WZ).2 YM).2=awT:=rfl;rw[hS] at hx;rw[hS];have hok:=sA;unfold sy at hok;simp only[AX,Br,Ex,HL] at hok;obtain⟨⟨⟨⟨⟨⟨j1,j2⟩,j3⟩,j4⟩,j5⟩,j6⟩,j7⟩:=hok;obtain⟨L,hL⟩: ∃L,x.all++(lw3++(Hi b4 0 (.slice (some ⟨g3,0,none⟩) [iI].length k3)::([cY g3 (GS [iI]++sp3)]++(Hi b3 0 (.slice q2 [L8 1].length k2)::(c2++l)))))=L:=⟨_,rfl⟩
 have m3:Hi b3 0 (.slice q2 [L8 1].length k2)∈L:=by rw[<-hL];simp
 have m4:Hi b4 0 (.slice (some ⟨g3,0,none⟩) [iI].length k3)∈L:=by rw[<-hL];simp
 have mc: ∀c,c∈x.cc->c∈L:=λc hc=>by rw[<-hL];exact Ai _ (by unfold VwL.all;simp[hc])
 have m2: ∀c,c∈c2->c∈L:=λc hc=>by rw[<-hL];simp[hc]
 have mn3:cY g3 (GS [iI]++sp3)∈L:=by rw[<-hL];simp
 rw[hL];refine Aj ?_;refine Bc (AK (vs:=[.agg (toArray (WY x.vo x.vc x.vt x.vh awT.N x.vr x.vq)),.int .i64 1]) rfl rfl λl2 hl=>lW x.vo x.vc x.vt x.vh x.vr x.vq awT.N (DC awT.H.1) 1 (Mc (DC awT.H.1) (1,1)).1 l2 (OwnSl.hds hx.c λc hc=>hl c (mc c hc)) Af (I0 rfl j1) j2 j3 j4 j5) ?_;rw[j6];refine Aj ?_;refine AS (E3 (ws:=Ps (L8 1)) (k:=12) rfl rfl rfl AW AW) ?_;rintro _ _ ⟨bn,_,rfl,rfl⟩;refine l6 (v:= .bool (decide ([L8 1]=[L8 1]))) (by refine AK (vs:=[.slice q2 [L8 1].length k2,.slice (some ⟨bn,0,none⟩) 1 1]) rfl rfl λl2 hl=>NQ Ps ad nr _ _ [L8 1] [L8 1] l2 (OwnSl.rowSl ho2 (λ_=>rfl) λc hc=>hl c (.tail _ (m2 c hc))) (OwnSl.rowSl (e:=69) (xs:=[L8 1]) (cs:=[SL bn (L8 1)]) ⟨rfl,.inr ⟨bn,1,[],rfl,rfl,A5 _,by unfold maxLen;omega,rfl⟩⟩ (λ_=>rfl) (λc hc=>hl c (by rw[AA.1 hc];exact .head _))) AW) rfl rfl rfl ?_;rw[At rfl];refine Aj ?_;rw[show([iI]:List Hs).length=1 from rfl];refine Aj ?_;have mn4:cY g3 (vf sp3)∈L:=mn3;refine N9 (v:= .agg (toArray [iV 4,Ba 8,.bool false])) (IR (cs:=vf sp3) rfl (.tail _ mn4) (by exact .drop (.drop (.drop (.drop (.drop (.drop (.drop (.drop (.drop (.take (.take (.take .done))))))))))))) rfl rfl rfl ?_;refine Aj ?_;refine N9 (dH (ks:=[some .i64,some .u64,none]) (xs:=[iV 4,Ba 8,.bool false]) rfl rfl (IW (by rfl))) rfl rfl rfl ?_;refine Aj ?_;refine N9 (AK (vs:=[.int .i64 2,.int .i64 4]) rfl rfl λl2 _=>Ar.frames_any 2 4 l2) rfl rfl rfl ?_;rw[show Ar.framesD 2 4=4 by decide];refine Aj ?_;refine A8 (l':=(SL bn (L8 1)::(x.all++(lw3++(Hi b4 0 (.slice (some ⟨g3,0,none⟩) 1 k3)::([cY g3 (GS [iI]++sp3)]++(Hi b3 0 (.slice q2 [L8 1].length k2)::c2))))))++l) (by rw[<-hL];simp only[Al,Ad,Ag];exact .refl) ⟨rfl,_,rfl⟩
set_option maxRecDepth 20000
theorem cZ(a:Option Addr)(n cap:Nat)(m:Int)(l:List Ab):Fn prog 16 [.slice a n cap,.int .i64 m] l λv l'=>v= .bool (decide (m<(n:Int)))/\l'=l:=by refine AO func16 ntmps16 λE=>?_;exact Es
theorem ai: ∀(es:List LT) (S:KT) (x:Int×List Hs),x∈Iq S es->x.2.length<=3
 |[],_,_,h=>by cases h
 |e::r,S,x,h=>by
  rcases Aq.1 h with rfl|h
  ·exact WU S e
  ·exact ai r _ x h
abbrev iJ(B:Nat)(F C T:Int)(sh:Bool):Ab:=(B,.cells (toArray [.int .i64 F,.int .i64 C,.int .i64 T,.bool sh]) 23 (0,0))
theorem uE(c:Ab)(cs cn cs1 cn1 l:List Ab):Keep (cs1++(cn1++(c::(cs++(cn++l))))) (c::(cs++(cn++l))):=AY (cs1++cn1)
set_option maxHeartbeats 4000000 in
theorem SQ(F C T:Int)(sh:Bool)(a:Option Addr)(n cap:Nat)(es:List LT)(l:List Ab)(hin:MO l a n 15 (es.map WM))(hlen:es.length=n)(hcap:n<=cap)(he: ∀e,e∈es->cQ e):
 Fn prog 5 [nt F C T sh,.slice a n cap] l λv l'=>v= .bool true/\ ∃X,l'=X++l:=by
 refine AO func5 ntmps5 λE=>?_;refine Aj ?_;refine AS (CR rfl) ?_;rintro _ _ ⟨b2,_,rfl,rfl⟩;refine Aj ?_;refine Bc (AK rfl rfl λl2 _=>cZ a n cap 50 l2) ?_;by_cases h50:(50:Int)<n
 ·refine Aj ?_;refine AS (Az rfl rfl (Px _)) ?_;rintro _ _ ⟨rfl,X,rfl⟩;refine Aj ?_;exact A8 (l':=X++l) (.trans (.of_perm AH) (.drop .refl)) ⟨rfl,X,rfl⟩
 subst hlen;refine Aj ?_;refine AS (Az (vs:=[nt F C T sh,.slice a es.length cap]) rfl rfl (Vb F C T sh es a es.length cap _ (Va hin λc hc=> .tail _ hc) rfl Af he)) ?_;rintro _ _ (⟨hmay,rfl,rfl⟩|⟨hmay,vs,rows,cs,cn,rfl,hs,hst,rfl⟩)
 ·refine Aj ?_;refine Cu (α:=Nat) (λi=>[(1,.slice a es.length cap),(2,pV b2),(5,.slice none 0 0),(6,iV 3),(7,.int .i64 i)]) (λ_=>(b2,.cells (toArray [.int .i64 F,.int .i64 C,.int .i64 T,.bool sh]) 23 (0,0))::l) (λi=>i<=es.length+1) (λi=>es.length+1-i) 0 (Bf _) ⟨rfl,rfl,rfl,rfl,rfl,trivial⟩ .refl ?_;rintro i hi;by_cases hlt:i<=es.length
  ·refine Aj ?_;refine Ch (Cf [4] 0 10) ?_;refine Ci ?_;refine Un ?_ (YK (h0:=i) rfl (.some rfl Af (by simp)) Af);refine Ci ?_;refine Ju (Az (vs:=[nt F C T sh,.slice a i cap]) rfl rfl (Vb F C T sh (es.take i) a i cap _ (Va (by rw[FA];exact ag hin hlt) λc hc=> .tail _ hc) (by rw[BU];omega) Af (λe h=>he e (GE h)))) ?_;rintro _ _ (⟨_,rfl,rfl⟩|⟨hmay2,_⟩)
   case inr=>rw[hmay] at hmay2;cases hmay2
   refine Ci ?_;try simp only[AL,AI,AN]
   refine Aj ?_;exact BS (i+1) Af Af ⟨rfl,rfl,rfl,rfl,rfl,trivial⟩ .refl
  ·refine Aj ?_;refine AS (Az rfl rfl (Px _)) ?_;rintro _ _ ⟨rfl,X,rfl⟩;refine Aj ?_;exact A8 (l':=X++l) (.trans (.of_perm AH) (.drop .refl)) ⟨rfl,X,rfl⟩
 obtain⟨p5,k5,rfl⟩:=hs.shape;have hpl:(Iq (KD F.toNat C.toNat T.toNat sh) es).length=es.length:=Pw _ _;refine Bk (l':=iJ b2 F C T sh::(cs++(cn++l))) (show Keep (cs++(cn++(iJ b2 F C T sh::l))) _ from AY []) ?_;refine Aj ?_;refine Cu (α:=Nat) (λi=>[(1,.slice a es.length cap),(2,pV b2),(5,.slice p5 es.length k5),(6,iV 0),(7,.int .i64 i)]) (λ_=>iJ b2 F C T sh::(cs++(cn++l))) (λi=>i<=es.length+1) (λi=>es.length+1-i) 0 (Bf _) ⟨rfl,rfl,rfl,rfl,rfl,trivial⟩ .refl ?_;rintro i hi;by_cases hlt:i<=es.length
 ·refine Aj ?_;refine Ch (Cf [4] 0 10) ?_;refine Ci ?_;refine Un ?_ (YK (h0:=i) rfl (.some rfl Af (by simp)) Af);refine Ci ?_;refine Ju (Az (vs:=[nt F C T sh,.slice a i cap]) rfl rfl (Vb F C T sh (es.take i) a i cap _ (Va (by rw[FA];exact ag hin hlt) λc hc=>by simp[hc]) (by rw[BU];omega) Af (λe h=>he e (GE h)))) ?_;rintro _ _ (⟨hmay2,_⟩|⟨_,vs1,rows1,cs1,cn1,rfl,hs1,hst1,rfl⟩)
  case inl=>rw[hmay] at hmay2;cases hmay2
  rw[BU,DU hlt] at hs1;rw[YI] at hst1;obtain⟨p6,k6,rfl⟩:=hs1.shape;refine Ci ?_;try simp only[AL,AI,AN]
  obtain⟨L,hL⟩: ∃L,cs1++(cn1++(iJ b2 F C T sh::(cs++(cn++l))))=L:=⟨_,rfl⟩
  obtain⟨st,hst0⟩: ∃st,Iq (KD F.toNat C.toNat T.toNat sh) es=st:=⟨_,rfl⟩
  have hnn:=ai es (KD F.toNat C.toNat T.toNat sh);rw[hst0] at hpl hst hst1 hnn;have hA:StSl L (.slice p5 st.length k5) st:=by rw[hpl];exact StSl.of hs hpl hst (λc hc=>by rw[<-hL];simp[hc]) (λc hc=>by rw[<-hL];simp[hc])
  have hB:StSl L (.slice p6 i k6) (st.take i):=StSl.of hs1 (by rw[BU];omega) hst1 (λc hc=>by rw[<-hL];simp[hc]) (λc hc=>by rw[<-hL];simp[hc]);have hk5:es.length<=k5:=by obtain⟨_,_,e1,e2,_⟩:=hA;cases e1;omega
  rw[hL];refine Aj ?_;refine N9 (YK (h0:=i) rfl (.some rfl Af (by simp)) Af) rfl rfl rfl ?_;refine N9 (AK (vs:=[.slice p6 i k6,.slice p5 i k5]) rfl rfl λl2 hl=>SP _ _ (st.take i) l2 (hB.mono hl) ((hA.take Af).mono hl) (by rw[BU];omega) (λx hx=>by have:=hnn x (GE hx);omega)) rfl rfl rfl ?_;refine Aj ?_;exact BS (i+1) Af Af ⟨rfl,rfl,rfl,rfl,rfl,trivial⟩ (by rw[<-hL];exact uE ..)
 ·refine Aj ?_;refine AS (Az rfl rfl (Px _)) ?_;rintro _ _ ⟨rfl,X,rfl⟩;refine Aj ?_;exact A8 (l':=(X++(iJ b2 F C T sh::(cs++cn)))++l) (by simp only[Al,Ad];exact .refl) ⟨rfl,_,rfl⟩
theorem Sm(c0:List Value)(w0:AllIs [some .i64,some .i64,some .i64,none] c0){W:World}(a:Option Addr)(n cap:Nat)(rows:List (List Value))(h:Ua u9 W a n cap rows):
 Calls prog 5 #[.agg c0.toArray,.slice a n cap] W λe W'=>e= .returned (.bool true)/\Below W.heap.size W W':=by
 obtain⟨_,_,rfl,⟨F,rfl,_⟩,_,_,rfl,⟨C,rfl,_⟩,_,_,rfl,⟨T,rfl,_⟩,_,_,rfl,⟨sh,rfl⟩,rfl⟩:=w0;obtain⟨es,h1,h2,h3⟩:=iD h;exact dQ (SQ F C T sh a n cap es (Ot W) h2 h1 h.le h3)
end Go.Proofs.YtlkgekpmileobaaGreat
