/- Laws that the statement's proof leans on (joined out of several texts). -/
import Derived.Test.YtlifcingifodfaaGreatGc50
set_option maxHeartbeats 4000000
set_option linter.unusedVariables false
set_option linter.unusedSimpArgs false
namespace Go.Proofs.YtlifcingifodfaaGreat
open Tryz
open List(toArray)
open Go.RowKit
set_option maxRecDepth 100000
variable{k:Nat}
abbrev Abq:OG:=⟨0,0,0,0,0,0,0⟩
abbrev Xj:Pf:=⟨1,0,1,Abq,0,0,0,0,0⟩
abbrev Zq:Pf:=⟨2,0,0,⟨1,3,3,0,1,8,1⟩,0,0,0,0,0⟩
abbrev cA:Pf:=⟨3,0,0,Abq,8,0,0,0,0⟩
def y0:KT:=IR 22 1 2 false
abbrev oF:Ii:=⟨1,6,0,yS,0,false,4,8,false⟩
theorem sS:ox y0 [Xj,Zq,cA]=[(0,[]),(0,[Np 1]),(0,[oF])]:=by decide+kernel
theorem x7:cm 22 2 false=[1,8]:=by decide+kernel
def awT:KT:=Aei y0 [Xj,Zq,cA]
abbrev iZ(B:Nat)(cs:Ap):Bg:=(B,.cells (toArray cs) 69 (0,0))
instance:EQ prog 67 [some .i64,some .u64,none]:=⟨BB⟩
abbrev awC(sp:Ap):Ap:=iV 1::iV 6::Bc 0::Bc 0::Bc 0::Bc 0::Bc 0::Bc 0:: .bool false::iV 4::Bc 8:: .bool false::sp
def Abr:Bool:=decide ((Ns (DY awT.H.1) (1,1)).2=true)&&decide ((Ns (DY awT.H.1) (1,1)).1.kind=5)&&decide (awT.N.root 0=0)&&decide (awT.N.root 1=(Ns (DY awT.H.1) (1,1)).1.obj)&&!decide ((Ns (DY awT.H.1) (1,1)).1.obj=0)&&decide (awT.N.ser 1=1)&&decide ((DY awT.H.1).length<=1000)
theorem Abs:Abr=true:=by decide+kernel
theorem Abt:jw Xj/\jw Zq/\jw cA:=⟨⟨⟨by decide,by decide,by decide,by decide,by decide,by decide,by decide⟩,by decide,by decide⟩,⟨⟨by decide,by decide,by decide,by decide,by decide,by decide,by decide⟩,by decide,by decide⟩,⟨⟨by decide,by decide,by decide,by decide,by decide,by decide,by decide⟩,by decide,by decide⟩⟩
theorem Rn(l:Ad):Fn prog 16 [] l λv l'=>v= .bool true/\ ∃X,l'=X++l:=by
 obtain⟨he1,he2,he3⟩:=Abt;refine AO func16 ntmps16 λE=>?_;refine Aj ?_;refine AR (AA (vs:=[yY 22 1 2 false]) rfl rfl (Zn 22 1 2 false l)) ?_;rintro _ _ (⟨NR,rfl,rfl⟩|⟨NR,wb,lw,rfl,hW,rfl⟩)
 ·exact absurd NR AZ
 have pP:cm (22:Int).toNat (2:Int).toNat false=[1,8]:=x7;rw[pP] at hW;refine Aj ?_;try simp only[AM,AK,AS]
 have hW:IsWo 22 1 (832+iX Xj) y0 [1,8] [] wb lw:=hW;have Xo:=sS;simp only[ox,CZ,Prod.mk.injEq,NK] at Xo;obtain⟨⟨jN,QN⟩,⟨XH,hp4⟩,hp5,hp6⟩:=Xo;refine Jr (AA (vs:=[pV wb]) rfl rfl (oD hW AZ l)) rfl rfl rfl ?_;rintro v1 _ ⟨ct,hoT,rfl⟩;have Ju:=hoT.one;refine Jr (Z7 (z0:= .int .i64 0) (cs:=[.int .i64 1,.int .i64 8]) rfl AZ AZ rfl) rfl rfl rfl ?_;rintro _ _ ⟨bl,_,rfl,rfl⟩;refine QO (AL rfl rfl λl2 hl=>WB v1 _ [1,8] [1,8] l2 (hoT.intsQ λc hc=>hl c (.tail _ (Ai _ hc))) ((OwnSl.lit (e:=3) (n:=2) AZ rfl AZ).intsQ λc hc=>hl c (by rw[AE.1 hc];exact .head _)) AZ) rfl rfl rfl ?_;rw[Av rfl];refine Aj ?_;refine Bq (l':=lw++l) (.drop (Keep.dropL' ct .refl)) ?_;refine AR (AA (vs:=[pV wb,QD Xj]) rfl rfl (SI Xj he1 hW AZ l (BY (fg _ _) AZ))) ?_;rintro _ _ ⟨sl1,c1,lw1,rfl,Gh,ZD,rfl⟩;have ZD:IsWo 22 1 (824+iX Zq) (Nh y0 Xj).2 [1,8] _ wb lw1:=ZD;refine Aj ?_;refine Bq (l':=lw1++l) (Keep.dropL' c1 .refl) ?_;refine Be (GL (zs:=[Bc 0,Bc 0,Bc 0,Bc 0,Bc 0,Bc 0]) (cs:=[Bc 3,Bc 3,Bc 0,Bc 1,Bc 8,Bc 1]) rfl rfl) ?_;refine Aj ?_;refine AR (AA (vs:=[pV wb,QD Zq]) rfl rfl (SI Zq he2 ZD AZ l (BY (fg _ _) AZ))) ?_;rintro _ _ ⟨sl2,c2,lw2,rfl,FK,hW2,rfl⟩;have hW2:IsWo 22 1 (822+iX cA) (Nh (Nh y0 Xj).2 Zq).2 [1,8] _ wb lw2:=hW2;rw[hp4] at FK;rw[XH];obtain⟨q2,k2,rfl⟩:=FK.shape;refine AQ λb3=>?_;refine Bq (l':=lw2++(Ig b3 0 (.slice q2 [Np 1].length k2)::(c2++l))) (show Keep (Ig b3 0 (.slice q2 [Np 1].length k2)::(c2++(lw2++l))) _ from A8 []) ?_;refine AR (AA (vs:=[pV wb,QD cA]) rfl rfl (SI cA he3 hW2 AZ _ (BY (fg _ _) AZ))) ?_;rintro _ _ ⟨sl3,c3,lw3,rfl,ho3,hW3,rfl⟩;rw[hp6] at ho3;rw[hp5];obtain⟨g3,k3,sp3,rfl,rfl⟩:=ND ho3 AZ;refine AQ λb4=>?_;refine Bq (l':=lw3++(Ig b4 0 (.slice (some ⟨g3,0,none⟩) [oF].length k3)::([iZ g3 (HW [oF]++sp3)]++(Ig b3 0 (.slice q2 [Np 1].length k2)::(c2++l))))) (show Keep (Ig b4 0 (.slice (some ⟨g3,0,none⟩) [oF].length k3)::([iZ g3 (HW [oF]++sp3)]++(lw3++(Ig b3 0 (.slice q2 [Np 1].length k2)::(c2++l))))) _ from A8 []) ?_;refine AR (AA (vs:=[pV wb]) rfl rfl (Rm hW3 _)) ?_;rintro _ _ ⟨x,rfl,hx,rfl⟩;have hS:(Nh (Nh (Nh y0 Xj).2 Zq).2 cA).2=awT:=rfl;rw[hS] at hx;rw[hS];have Dm:=Abs;unfold Abr at Dm;simp only[AW,Bj,Ef,Fb] at Dm;obtain⟨⟨⟨⟨⟨⟨j1,j2⟩,j3⟩,j4⟩,j5⟩,j6⟩,j7⟩:=Dm;obtain⟨L,hL⟩: ∃L,x.all++(lw3++(Ig b4 0 (.slice (some ⟨g3,0,none⟩) [oF].length k3)::([iZ g3 (HW [oF]++sp3)]++(Ig b3 0 (.slice q2 [Np 1].length k2)::(c2++l)))))=L:=⟨_,rfl⟩
 have m3:Ig b3 0 (.slice q2 [Np 1].length k2)∈L:=by rw[<-hL];simp
 have m4:Ig b4 0 (.slice (some ⟨g3,0,none⟩) [oF].length k3)∈L:=by rw[<-hL];simp
 have mc: ∀c,c∈x.cc->c∈L:=λc hc=>by rw[<-hL];exact Ai _ (by unfold VwL.all;simp[hc])
 have m2: ∀c,c∈c2->c∈L:=λc hc=>by rw[<-hL];simp[hc]
 have mn3:iZ g3 (HW [oF]++sp3)∈L:=by rw[<-hL];simp
 rw[hL];refine Aj ?_;refine Be (AL (vs:=[.agg (toArray (R7 x.vo x.vc x.vt x.vh awT.N x.vr x.vq)),.int .i64 1]) rfl rfl λl2 hl=>sR x.vo x.vc x.vt x.vh x.vr x.vq awT.N (DY awT.H.1) 1 (Ns (DY awT.H.1) (1,1)).1 l2 (OwnSl.hds hx.c λc hc=>hl c (mc c hc)) Af (JV rfl j1) j2 j3 j4 j5) ?_;rw[j6];refine Aj ?_;refine AR (FB (ws:=R2 (Np 1)) (k:=12) rfl rfl rfl AZ AZ) ?_;rintro _ _ ⟨bn,_,rfl,rfl⟩;refine tJ (v:= .bool (decide ([Np 1]=[Np 1]))) (by refine AL (vs:=[.slice q2 [Np 1].length k2,.slice (some ⟨bn,0,none⟩) 1 1]) rfl rfl λl2 hl=>U7 R2 sL Abo _ _ [Np 1] [Np 1] l2 (OwnSl.rowSl FK (λ_=>rfl) λc hc=>hl c (.tail _ (m2 c hc))) (OwnSl.rowSl (e:=69) (xs:=[Np 1]) (cs:=[U4 bn (Np 1)]) ⟨rfl,.inr ⟨bn,1,[],rfl,rfl,Bd _,by unfold maxLen;omega,rfl⟩⟩ (λ_=>rfl) (λc hc=>hl c (by rw[AE.1 hc];exact .head _))) AZ) rfl rfl rfl ?_;rw[Av rfl];refine Aj ?_;rw[show([oF]:List Ii).length=1 from rfl];refine Aj ?_;have mn4:iZ g3 (awC sp3)∈L:=mn3;refine QO (v:= .agg (toArray [iV 4,Bc 8,.bool false])) (Jb (cs:=awC sp3) rfl (.tail _ mn4) (by exact .drop (.drop (.drop (.drop (.drop (.drop (.drop (.drop (.drop (.take (.take (.take .done))))))))))))) rfl rfl rfl ?_;refine Aj ?_;refine QO (kw (ks:=[some .i64,some .u64,none]) (xs:=[iV 4,Bc 8,.bool false]) rfl rfl (JR (by rfl))) rfl rfl rfl ?_;refine Aj ?_;refine QO (AL (vs:=[.int .i64 2,.int .i64 4]) rfl rfl λl2 _=>Ar.frames_any 2 4 l2) rfl rfl rfl ?_;rw[show Ar.framesD 2 4=4 by decide];refine Aj ?_;refine Bb (l':=(U4 bn (Np 1)::(x.all++(lw3++(Ig b4 0 (.slice (some ⟨g3,0,none⟩) 1 k3)::([iZ g3 (HW [oF]++sp3)]++(Ig b3 0 (.slice q2 [Np 1].length k2)::c2))))))++l) (by rw[<-hL];simp only[Am,Ae,Ag];exact .refl) ⟨rfl,_,rfl⟩
set_option maxRecDepth 20000
theorem i4(a:Option Addr)(n cap:Nat)(m:Int)(l:Ad):Fn prog 15 [.slice a n cap,.int .i64 m] l λv l'=>v= .bool (decide (m<(n:Int)))/\l'=l:=by refine AO func15 ntmps15 λE=>?_;exact E4
abbrev cC(B:Nat)(F C T:Int)(sh:Bool):Bg:=(B,.cells (toArray [.int .i64 F,.int .i64 C,.int .i64 T,.bool sh]) 23 (0,0))
theorem Aek(b:Nat)(p:RP)(s:RL)(S:KT)(X A G:Ad):Keep (X++Aw b p s S (A++G)) (X++(A++(Aw b p s S []++G))):=by unfold Aw;exact A8 []
section
variable{F C:Nat}{S:KT}{th:A4}{st:List (Int×List Ii)}{wb:Nat}{l:Ad}
theorem oG{p:RP}{s:RL}{b:Nat}(hK:IsK F C k S p s)(f:Int)(A G:Ad):Fn prog 87 [pV p.m,.int .i64 f] (A++(Aw b p s S []++G)) λv l'=> ∃sl X e,v= .tuple #[sl,iV e]/\IsWd S.W f sl X/\l'=X++(A++(Aw b p s S []++G)):=
 Fn.re (.of_perm (xW ..)) (aT (b:=b) (G:=A++G) hK f) λv l' ⟨sl,X,e,h1,h2,h3⟩=>⟨_,by rw[h3];exact Aek ..,sl,X,e,h1,h2,rfl⟩
theorem IsWd.one{W:A4}{f:Int}{v:Value}{X:Ad}(h:IsWd W f v X):v.oneCell'=true:=by
 unfold IsWd at h
 split at h
 ·obtain⟨B,rfl,_⟩:=h;rfl
 ·rw[h.1];rfl
theorem cD(hW:IsWo F C k S th st wb l)(f:Int)(G:Ad):Fn prog 60 [pV wb,.int .i64 f] (l++G) λv l'=> ∃X,IsWd S.W f v X/\l'=X++(l++G):=by
 obtain⟨b,kb,p,s,vt,vs,ct,cs,rows,cn,hK,ht,hs,Mi,yh,hl⟩:=hW.ex;obtain⟨A,hA⟩: ∃A,[ck wb kb vt vs,Pt kb b]++ct++cs++cn=A:=⟨_,rfl⟩
 have mw:ck wb kb vt vs∈A:=by rw[<-hA];simp
 have mk:Pt kb b∈A:=by rw[<-hA];simp
 rw[show l++G=A++(Aw b p s S []++G) by rw[hl,Abp,hA]];have mw':ck wb kb vt vs∈A++(Aw b p s S []++G):=Ai _ mw;have mk':Pt kb b∈A++(Aw b p s S []++G):=Ai _ mk;have mr':CD b p∈A++(Aw b p s S []++G):=Aa _ (Ai _ (.head _));refine AO func60 ntmps60 λE=>?_;refine Aj ?_;refine Be (AL rfl rfl λl2 hl=>UC kb b l2 (hl _ mk')) ?_;refine Be (AL rfl rfl λl2 hl=>Ua b p l2 (hl _ mr')) ?_;refine Aj ?_;refine AR (AA (vs:=[pV p.m,.int .i64 f]) rfl rfl (oG hK f A G)) ?_;rintro _ _ ⟨sl,X,e,rfl,hd,rfl⟩;have Ju:sl.oneCell'=true:=hd.one;refine Aj ?_;refine Bb .refl ?_;exact⟨X,hd,rfl⟩
theorem IsWo.w(hW:IsWo F C k S th st wb l):S.W.length=F*8/\F<=64:=by obtain⟨b,kb,p,s,vt,vs,ct,cs,rows,cn,hK,_⟩:=hW.ex;obtain⟨gb,_,h2,h3,_⟩:=hK.mem;exact⟨h3,h2⟩
theorem OwnSl.le{e n cap:Nat}{p:Option Addr}{xs:Ap}{cs:Ad}(h:OwnSl e k (.slice p n cap) n xs cs):n<=cap:=by
 rcases h.2 with⟨_,h2,_⟩|⟨b,cp,sp,h1,_,h2,_⟩
 ·omega
 ·cases h1;exact h2
theorem Ael(c X l G:Ad):(c++(X++(l++G))).Perm (l++(c++(X++G))):=B0
theorem Aem(Y c X l G:Ad):(Y++(l++(c++(X++G)))).Perm (c++((Y++X)++(l++G))):=B0
theorem cE(hW:IsWo F C k S th st wb l)(G:Ad):Fn prog 37 [pV wb] (l++G) λv l'=> ∃c X,OwnSl 34 1 v S.W.length (S.W.map Bc) c/\l'=c++(X++(l++G)):=by
 obtain⟨hw,hF⟩:=hW.w;have hnF:nF S.W=F:=by unfold nF;omega
 refine AO func37 ntmps37 λE=>?_;refine Aj ?_;refine CF (α:=Nat×Value×Ad×Ad) (λx=>[(0,pV wb),(3,x.2.1),(4,.int .i64 x.1)]) (λx=>x.2.2.1++(x.2.2.2++(l++G))) (λx=>x.1<=64/\OwnSl 34 1 x.2.1 (S.W.take (8*x.1)).length ((S.W.take (8*x.1)).map Bc) x.2.2.1) (λx=>64-x.1) (0,.slice none 0 0,[],[]) ⟨Af,.nil _ _⟩ ⟨rfl,rfl,rfl,trivial⟩ .refl ?_;rintro⟨i,v,c,X⟩ ⟨hi,ho⟩;simp only at hi ho⊢;have Ju:v.oneCell'=true:=ho.one;by_cases Dc:i<64
 ·refine Aj ?_;refine Bq (.of_perm (Ael ..)) ?_;refine AR (AA (vs:=[pV wb,.int .i64 i]) rfl rfl (cD hW i _)) ?_;rintro sl _ ⟨Y,hd,rfl⟩;have R8:sl.oneCell'=true:=hd.one;refine Bq (.of_perm (Aem ..)) ?_;have hl:(S.W.take (8*i)).length<=512:=by rw[CV];omega
  unfold IsWd at hd;by_cases hf:(i:Int)<F
  ·rw[Ac (by rw[hnF];omega)] at hd;obtain⟨B,rfl,rfl⟩:=hd;rw[AY];obtain⟨D,hD⟩: ∃D,(S.W.drop (8*i)).take 8=D:=⟨_,rfl⟩
   have hDl:D.length=8:=by rw[<-hD,CV,Dw];omega
   have pO:S.W.take (8*(i+1))=S.W.take (8*i)++D:=by rw[<-hD,<-List.take_add];rfl
   rw[hD];refine AR (Gy (e:=34) (k:=1) (n:=(S.W.take (8*i)).length) (m:=8) (news:=D.map Bc) (zs:=[Bc 0]) (cl:=toArray (D.map Bc)) rfl rfl rfl ho (Aa _ (.head _)) (λj u hj=>by rw[BE,AF];exact hj) (by simp[hDl]) (λu hu=>by obtain⟨w,_,rfl⟩:=Au.1 hu;rfl) (by unfold maxLen;omega) Af) ?_;rintro v' _ ⟨c',cJ,rfl⟩;have Ju:v'.oneCell'=true:=cJ.one;refine Aj ?_;refine BR (i+1,v',c',_) ⟨by simp only;omega,?_⟩ (by simp only;omega) ⟨rfl,rfl,rfl,trivial⟩ .refl;simp only;rw[pO,Ah,Aq,hDl];exact cJ
  ·rw[Ab (by rw[hnF];omega)] at hd;obtain⟨rfl,rfl⟩:=hd;have pO:S.W.take (8*(i+1))=S.W.take (8*i):=by rw[Bz Af,Bz Af]
   obtain⟨p,cp,rfl⟩:=ho.shape;refine Be (X5 rfl rfl ho.le) ?_;refine Aj ?_;refine BR (i+1,_,c,_) ⟨by simp only;omega,?_⟩ (by simp only;omega) ⟨rfl,rfl,rfl,trivial⟩ .refl;simp only;rw[pO];exact ho
 ·obtain rfl:i=64:=by omega
  refine Aj ?_;refine Bb .refl ⟨c,X,?_,rfl⟩;rw[Bz Af] at ho;exact ho
end
theorem oH(F C T:Int)(sh:Bool)(l:Ad):Fn prog 17 [yY F C T sh] l λv l'=>
 (Nz F C T=false/\v= .pointer none/\l'=l)\/(Nz F C T=true/\ ∃wb lw,v=pV wb/\IsWo F.toNat C.toNat 840 (IR F.toNat C.toNat T.toNat sh) (cm F.toNat T.toNat sh) [] wb lw/\l'=lw++l):=by
 refine AO func17 ntmps17 λE=>?_;refine Aj ?_;refine AR (C4 rfl) ?_;rintro _ _ ⟨b1,_,rfl,rfl⟩;refine Aj ?_;refine AR (AA (vs:=[yY F C T sh]) rfl rfl (Zn F C T sh _)) ?_;rintro _ _ (⟨NR,rfl,rfl⟩|⟨NR,wb,lw,rfl,hW,rfl⟩)
 ·refine Aj ?_;exact Bb (.drop .refl) (.inl ⟨NR,rfl,rfl⟩)
 ·refine Aj ?_;exact Bb (l':=lw++l) (.trans (.of_perm AI) (.drop .refl)) (.inr ⟨NR,wb,lw,rfl,hW,rfl⟩)
end Go.Proofs.YtlifcingifodfaaGreat
