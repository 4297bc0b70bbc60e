/- Laws that the statement's proof leans on (joined out of several texts). -/
import Derived.Test.YtlifcingifodfaaGreatGg22
set_option maxHeartbeats 4000000
set_option linter.unusedVariables false
set_option linter.unusedSimpArgs false
namespace Go.Proofs.YtlifcingifodfaaGreat
open Tryz
open List(toArray)
open Go.RowKit
set_option maxRecDepth 20000
variable{S:KT}{C:Nat}{L G:Ac}
theorem zw{x:VwL}(h:IsVwK C S x): ∀v,v∈N3 x.vo x.vc x.vt x.vh S.N x.vr x.vq->v.oneCell'=true:=by
 intro v hv;simp only[At,AF,BQ,EE] at hv;rcases hv with rfl|rfl|rfl|rfl|hv|rfl|rfl
 ·exact h.o.one
 ·exact h.c.one
 ·exact h.t.one
 ·exact h.h.one
 ·exact QZ _ v hv
 ·exact h.r.one
 ·exact h.q.one
theorem ub{e:ND}{t:Int}{ax:P5}(h:Vo S e=(t,ax,true))(hh:(Dq S t).hs=false):(e.kd=3\/e.kd=4)/\(Dq S (Ee S.U e.co)).hs=false/\ax=⟨false,decide (e.kd=4),e.va,e.vl⟩:=by
 unfold Vo at h
 split at h
 ·cases h
 rename_i h1
 split at h
 ·rename_i h2;cases h;rw[h2] at hh;cases hh
 ·rename_i h2;simp only[Prod.mk.injEq,DU,EF] at h;exact⟨Af,by simpa using h2,h.2.1.symm⟩
structure zx(F C T:Int)(sh:Bool)(wb i:Nat)(S:KT)(st:List (Int×List Ia))(lw:Ac):Prop where
 w:IsWo F.toNat C.toNat (840-10*i) S (XD F.toNat T.toNat sh) st wb lw
 g:GoodK S
 s:Stl S
 n:st.length<=2*i
theorem AfI(a b l:Ac):(a++(b++l)).Perm (b++(a++l)):=BX
theorem AfJ(x y:Bd)(c X w v l:Ac):(x::y::(c++(X++(w++(v++l))))).Perm (w++(x::y::(c++(X++(v++l))))):=BX
theorem jE(z x y:Bd)(d w c X v l:Ac):Keep (z::(d++(w++(x::y::(c++(X++(v++l))))))) (w++l):=A8 (z::x::y::(d++(c++(X++v))))
section
variable{F k:Nat}{th:A4}{st:List (Int×List Ia)}{wb:Nat}{lw:Ac}
theorem pM(hW:IsWo F C k S th st wb lw)(hP:L.Perm (lw++G)):Fn prog 21 [pV wb] L λv l'=> ∃x:VwL,v= .agg (toArray (N3 x.vo x.vc x.vt x.vh S.N x.vr x.vq))/\IsVwK C S x/\l'=x.all++L:=
 Fn.re (.of_perm hP) (Ry hW G) λv l' ⟨x,h1,h2,h3⟩=>⟨x.all++L,by rw[h3];exact .of_perm (hP.symm.append_left _),x,h1,h2,rfl⟩
theorem jF(hW:IsWo F C k S th st wb lw)(hP:L.Perm (lw++G)):Fn prog 37 [pV wb] L λv l'=> ∃c X,OwnSl 34 1 v S.W.length (S.W.map Be) c/\l'=c++(X++L):=
 Fn.re (.of_perm hP) (UN hW G) λv l' ⟨c,X,h1,h2⟩=>⟨c++(X++L),by rw[h2];exact .of_perm ((hP.symm.append_left _).append_left _),c,X,h1,rfl⟩
theorem IsWo.asc(hW:IsWo F C k S th st wb lw):S.T.Pairwise λx y=>x.id<y.id:=by obtain⟨b,kb,p,s,vt,vs,ct,cs,rows,cn,hK,_⟩:=hW.ex;obtain⟨m,es,cl,_,hB⟩:=hK.th;exact hB.asc
theorem IsWo.due(hW:IsWo F C k S th st wb lw):(∀c,c∈S.K-> ∀s,s<4->c.tb.d s=0\/c.tb.d s=1)/\0<S.W.length:=by obtain⟨b,kb,p,s,vt,vs,ct,cs,rows,cn,hK,_⟩:=hW.ex;obtain⟨v,l1,ks,h1,_,h2,_⟩:=hK.co;obtain⟨gb,h3,_,h4,_⟩:=hK.mem;refine⟨λc hc=>?_,Af⟩;rw[<-h1] at hc;obtain⟨q,hq,rfl⟩:=Av.1 hc;exact h2 q hq
end
theorem AfK(z:Bd)(d w L:Ac):(z::(d++(w++L))).Perm (w++(z::(d++L))):=BX
theorem AcI(v L w G:Ac)(h:L.Perm (w++G)):(v++L).Perm (w++(v++G)):=(h.append_left v).trans (by rw[<-Am,<-Am];exact Ej.append_right G)
theorem AfL(d Y v L:Ac)(w l:Ac)(h:Keep L (w++l)):Keep (d++(Y++(v++L))) (w++l):=Keep.dropL' d (Keep.dropL' Y (Keep.dropL' v h))
theorem AfM(z:Bd)(d w L:Ac):(d++(w++(z::L))).Perm (z::(d++(w++L))):=BX
theorem AfN(s z x y:Bd)(d w g c X v l:Ac):Keep (s::(d++(w++(z::(g++(x::y::(c++(X++(v++l))))))))) (w++l):=A8 (s::(d++(z::(g++(x::y::(c++(X++v)))))))
abbrev uc(e:ND):ND:=⟨3,e.co,0,zj,e.va,0,0,0,0⟩
abbrev vwZ:Ap:=Df::Df::Df::Df::(P1++[Df,Df])
theorem XH(F C T:Int)(sh:Bool)(a:Option Addr)(n cap:Nat)(es:List ND)(l:Ac)(M2:aY l a n 15 (es.map Xv))(Eh:es.length=n)(Aig:n<=cap)(he: ∀e,e∈es->jp e):
 Fn prog 14 [cfA F C T sh,.slice a n cap] l λv l'=>v= .bool true/\ ∃X,l'=X++l:=by
 refine AN func14 ntmps14 λE=>?_;refine Aj ?_;refine AS (CH rfl) ?_;rintro _ _ ⟨b2,_,rfl,rfl⟩;refine Aj ?_;refine Bh (AL rfl rfl λl2 _=>jt a n cap 80 l2) ?_;by_cases wt:(80:Int)<n
 ·refine Aj ?_;refine AS (Az rfl rfl (Rz _)) ?_;rintro _ _ ⟨rfl,X,rfl⟩;refine Aj ?_;exact Bb (l':=X++l) (.trans (.of_perm AI) (.drop .refl)) ⟨rfl,X,rfl⟩
 refine Aj ?_;refine AS (Az (vs:=[cfA F C T sh]) rfl rfl (pk F C T sh _)) ?_;rintro _ _ (⟨N8,rfl,rfl⟩|⟨N8,wb,lw,rfl,hW,rfl⟩)
 ·refine Aj ?_;refine AS (Az rfl rfl (Rz _)) ?_;rintro _ _ ⟨rfl,X,rfl⟩;refine Aj ?_;exact Bb (l':=X++l) (.trans (.of_perm AI) (.drop .refl)) ⟨rfl,X,rfl⟩
 refine Aj ?_;have hb:1<=T/\T<=3/\11*T<=F/\F<=64:=by unfold NT at N8;simp only[AV,Bk] at N8;omega
 obtain⟨g0,s0⟩:=jB (F:=F.toNat) (C:=C.toNat) (T:=T.toNat) sh Af Af Af Af;refine CN (α:=Nat×KT×List (Int×List Ia)×Ac) (λx=>[(1,.slice a n cap),(5,pV wb),(6,.int .i64 x.1)]) (λx=>x.2.2.2++(UM b2 F C T sh::l)) (λx=>x.1<=n/\zx F C T sh wb x.1 x.2.1 x.2.2.1 x.2.2.2) (λx=>n-x.1) (0,_,[],lw) ⟨Bp _,hW,g0,s0,Bf _⟩ ⟨rfl,rfl,rfl,trivial⟩ .refl ?_;rintro⟨i,S,st,lw⟩ ⟨hi,hW⟩;simp only at hi hW⊢;by_cases C9:i<n
 ·obtain⟨e,hie⟩: ∃e,es[i]?=some e:=⟨_,Al Af⟩
  have ue:=he e (Bc hie);have hev:=zh e;obtain⟨z1,z2,z3,z4,z5,z6⟩:=hW.w.sizes;obtain⟨y1,y2⟩:=hW.w.w;obtain⟨bB,off,cs,t,fz,rfl,uN,LD⟩:=M2 Af;obtain⟨x1,x2,_⟩:=LD i (Xv e) (by rw[A6,hie];rfl);refine Aj ?_;refine AS (Az (vs:=[pV wb]) rfl rfl (Ry hW.w _)) ?_;rintro _ _ ⟨x,rfl,hx,rfl⟩;refine Aj ?_;refine Bs (.of_perm (AfI ..)) ?_;refine AS (Az (vs:=[pV wb]) rfl rfl (UN hW.w _)) ?_;rintro v0 _ ⟨c0,X0,vW,rfl⟩;have hv0:=vW.one;refine AS e_alloc ?_;rintro _ _ ⟨b7,_,rfl,rfl⟩;have gC:=λl2 hl=>dr x hx z4 z6 e l2 hl;have Aa3:=zw hx;have X6:(N3 x.vo x.vc x.vt x.vh S.N x.vr x.vq).length=86:=by simp[Gj]
  have g3:(toArray (N3 x.vo x.vc x.vt x.vh S.N x.vr x.vq))[3]?=some x.vh:=rfl;obtain⟨c,hc⟩: ∃c,N3 x.vo x.vc x.vt x.vh S.N x.vr x.vq=c:=⟨_,rfl⟩
  rw[hc] at gC Aa3 X6 g3⊢;refine Aj ?_;apply M9
  ·refine EH (cs:=toArray vwZ) (T:=52) (l':=Vm b7 c::(c0++(X0++(lw++(x.all++(UM b2 F C T sh::l)))))) rfl rfl X6 Aa3 ?_ ?_
   ·rw[DQ,As.setFrom_all _ _ (by rw[X6];rfl)];exact .here
   ·show 0+86<=vwZ.length;decide
  ·rfl
  ·rfl
  rintro _ _ ⟨rfl,rfl⟩;refine Aj ?_;have Z8: ∀(d:Bd),(d∈x.co\/d∈x.cc\/d∈x.ct\/d∈x.ch\/d∈x.cr\/d∈x.cq)->d∈c0++(X0++(lw++(x.all++(UM b2 F C T sh::l)))):=λd hd=>Aa _ (Aa _ (Aa _ (Ai _ (dq hd))));have Aa4:(bB,Obj.cells cs t fz)∈c0++(X0++(lw++(x.all++(UM b2 F C T sh::l)))):=Aa _ (Aa _ (Aa _ (Aa _ (.tail _ uN))));obtain⟨⟨t0,ax,is⟩,hA⟩: ∃A,Vo S e=A:=⟨_,rfl⟩
  rw[hA] at gC;dsimp only at gC;refine Cm [10,12] 14 _ ?_ (hR:=(λ_ h=>h));refine BM ?_;apply Eo
  ·exact Ge rfl (.head _) (As.LSub.of_all (n:=86) c X6)
  ·rfl
  ·rfl
  ·rfl
  refine BM ?_;apply Eo
  ·exact Dt rfl (.tail _ Aa4) x1 x2
  ·rfl
  ·rfl
  ·rfl
  refine BM ?_;apply Eo
  ·exact AL (vs:=[.agg (toArray c),NW e]) rfl rfl λl2 hl=>gC l2 λd hd=>hl d (.tail _ (Z8 d hd))
  ·rfl
  ·rfl
  ·rfl
  refine BM ?_;simp only[AM,AK,AR];refine CM e_alloc rfl rfl rfl ?_ ?_
  ·rintro _ _ ⟨_,_,_,rfl⟩ d hd;exact .tail _ hd
  rintro _ _ ⟨Gd,_,rfl,rfl⟩;refine BM ?_;refine Aj ?_;refine Bh (Ge rfl (.tail _ (.head _)) (As.LSub.of_all (n:=86) c X6)) ?_;refine Aj ?_;refine Bh (AL (vs:=[.agg (toArray c),.int .i64 t0]) rfl rfl λl2 hl=>R5 c x.vh S.T t0 l2 g3 (OwnSl.rowSl hx.h (λ_=>rfl) λd hd=>hl d (.tail _ (.tail _ (Z8 d (.inr (.inr (.inr (.inl hd)))))))) Af) ?_;obtain⟨u,hu⟩: ∃u,(Th.findH S.T t0).getD Th.thZ=u:=⟨_,rfl⟩
  rw[hu];refine Aj ?_;obtain⟨⟨⟨ns,co⟩,S'⟩,hR⟩: ∃R,Jw S e=R:=⟨_,rfl⟩
  have hn3:=ZK S e;have Z7:=hW.n;have hw1:=hW.w.mono (m:=(840-10*(i+1)+2)+jq e) Af;have qL:=λG=>QY e ue hw1 Af G (BV hn3 AX);have hgd:=good_cl.ev hW.g e;have K3:=hW.s.ev e;rw[hR] at hn3 hgd K3;simp only[hR] at qL;dsimp only at hn3 hgd K3;have hnn:ns.length<=1000000:=by omega
  refine Bh (Dt rfl (.tail _ (.tail _ Aa4)) x1 x2) ?_;refine Bs (.of_perm (AfJ ..)) ?_;refine AS (Az (vs:=[pV wb,NW e]) rfl rfl (qL _)) ?_;rintro _ _ ⟨sl1,d1,lw1,rfl,Gc,ZU,rfl⟩;obtain⟨p1,k1,rfl⟩:=Gc.shape;refine AQ λWA=>?_;have hO:zx F C T sh wb (i+1) S' (st++[(co,ns)]) lw1:=⟨ZU.mono Af,hgd,K3,by rw[Ah,Bl];omega⟩
  cases is with
  |false=>refine Aj ?_;exact BO (i+1,S',_,lw1) ⟨by simp only;omega,hO⟩ (by simp only;omega) ⟨rfl,rfl,rfl,trivial⟩ (jE ..)
  |true=>
  cases hh:u.hs with
  |true=>refine Aj ?_;exact BO (i+1,S',_,lw1) ⟨by simp only;omega,hO⟩ (by simp only;omega) ⟨rfl,rfl,rfl,trivial⟩ (jE ..)
  |false=>
  by_cases hco:co=0
  case neg=>refine Aj ?_;exact BO (i+1,S',_,lw1) ⟨by simp only;omega,hO⟩ (by simp only;omega) ⟨rfl,rfl,rfl,trivial⟩ (jE ..)
  subst hco;cases ns with
  |nil=>rw[show([]:List Ia).length=0 from rfl];refine Aj ?_;exact BO (i+1,S',_,lw1) ⟨by simp only;omega,hO⟩ (by simp only;omega) ⟨rfl,rfl,rfl,trivial⟩ (jE ..)
  |cons nn r=>
  obtain⟨g,kk,sp,um,rfl⟩:=MR Gc (by simp);rw[um];have kc:¬(((nn::r).length:Nat):Int)=0:=by simp only[Bu];omega
  have z:(toArray (Fx (nn::r)++sp))[0+(0:Int).toNat*12+1]?=some (iV nn.co):=rfl;have hmg:(g,Obj.cells (toArray (Fx (nn::r)++sp)) 69 (0,0))∈[(g,Obj.cells (toArray (Fx (nn::r)++sp)) 69 (0,0))]++(lw1++(pL Gd ax::Vm b7 c::(c0++(X0++(x.all++(UM b2 F C T sh::l)))))):= .head _;by_cases ZW:nn.co=0
  case neg=>refine Aj ?_;exact BO (i+1,S',_,lw1) ⟨by simp only;omega,hO⟩ (by simp only;omega) ⟨rfl,rfl,rfl,trivial⟩ (jE ..)
  obtain⟨hk,hh2,hax⟩:=ub hA (show(Dq S t0).hs=false by rw[show Dq S t0=u from hu];exact hh);have Aa5:=hW.w.asc;have h0:(Jw S e).1.2=0:=by rw[hR]
  have pS:(Jw S e).1.1=nn::r:=by rw[hR]
  obtain⟨L3,hL3⟩: ∃L3,L3=[(g,Obj.cells (toArray (Fx (nn::r)++sp)) 69 (0,0))]++(lw1++(pL Gd ax::Vm b7 c::(c0++(X0++(x.all++(UM b2 F C T sh::l)))))):=⟨_,rfl⟩
  have m10:pL Gd ax∈L3:=by rw[hL3];simp
  have m7:Vm b7 c∈L3:=by rw[hL3];simp
  have Pu:(bB,Obj.cells cs t fz)∈L3:=by rw[hL3];simp[uN]
  have mx: ∀d,d∈x.all->d∈L3:=λd hd=>by rw[hL3];simp[hd]
  have mc: ∀d,d∈c0->d∈L3:=λd hd=>by rw[hL3];simp[hd]
  have hP: ∀z:Bd,(z::L3).Perm (lw1++(z::([(g,Obj.cells (toArray (Fx (nn::r)++sp)) 69 (0,0))]++(pL Gd ax::Vm b7 c::(c0++(X0++(x.all++(UM b2 F C T sh::l)))))))):=λz=>by rw[hL3];exact AfK ..
  have hKp: ∀z:Bd,Keep (z::L3) (lw1++(UM b2 F C T sh::l)):=λz=>by rw[hL3];exact jE ..
  rw[<-hL3] at hmg⊢;rcases hk with hk|hk
  ·have wR:ax=⟨false,false,e.va,e.vl⟩:=by rw[hax,Aw Af]
   rw[wR] at m10;obtain⟨K,hK⟩:=pJ Aa5 hW.g hW.s hk hh2 h0 pS ZW;rw[hR] at hK;dsimp only at hK;subst hK;obtain⟨B,hB⟩: ∃B,B=Hc WA 0 (.slice (some ⟨g,0,none⟩) (nn::r).length kk):=⟨_,rfl⟩
   refine Aj ?_;refine Li [(0,true),(2,true),(1,false),(3,false),(4,true),(5,true),(6,true),(8,true),(7,false),(9,false),(10,true),(11,true)] [[],[0],[],[0,1,2],[0,1,2,3],[0,1,2,3,4],[0,1,2,3,4,5],[0,1,2,3,4,5,6],[0,1,2,3,4,5],[0,1,2,3,4,5,6,7,8],[0,1,2,3,4,5,6,7,8,9],[0,1,2,3,4,5,6,7,8,9,10]] _ BA BA GH (λ_ h=>h) ?_;refine BM ?_;apply Eo
   ·exact Ge rfl (.tail _ m7) (As.LSub.of_all (n:=86) c X6)
   ·rfl
   ·rfl
   ·rfl
   refine BM ?_;apply Rc
   ·exact Az rfl rfl (pM hO.w (hP _))
   ·rfl
   ·rfl
   ·rfl
   ·rintro _ _ ⟨_,_,_,rfl⟩ q hq;exact Aa _ hq
   ·exact λ_ _ _ x hx=>by cases hx
   rintro _ _ ⟨y,rfl,hy,rfl⟩;have hy:IsVwK C.toNat S y:=⟨hy.o,hy.c,hy.t,hy.h,hy.r,hy.q⟩
   rw[show({S with K:=K}:KT).N=S.N from rfl,<-hc];refine BM ?_;apply Rc
   ·exact Az (vs:=[.agg (toArray (N3 y.vo y.vc y.vt y.vh S.N y.vr y.vq)),.agg (toArray (N3 x.vo x.vc x.vt x.vh S.N x.vr x.vq))]) rfl rfl (XF y x hy hx z6 z1 z2 z3 z4 z5 _ (λd hd=>Ai _ (dq hd)) (λd hd=>Aa _ (.tail _ (mx d (dq hd)))))
   ·rfl
   ·rfl
   ·rfl
   ·rintro _ _ ⟨_,rfl⟩ q hq;exact Aa _ hq
   ·exact λ_ _ _ x hx=>by cases hx
   rintro _ _ ⟨rfl,rfl⟩;refine BM ?_;apply Rc
   ·exact Az rfl rfl (jF hO.w (AcI _ _ _ _ (hP _)))
   ·rfl
   ·rfl
   ·rfl
   ·rintro _ _ ⟨_,_,_,rfl⟩ q hq;exact Aa _ (Aa _ (Aa _ hq))
   ·exact λ_ _ _ x hx=>by cases hx
   rintro v1 _ ⟨d0,Y0,v6,rfl⟩;have Jz:=v6.one;refine BM ?_;apply Rc
   ·exact Az (vs:=[v1,v0]) rfl rfl (Vn v1 v0 S.W _ (v6.wds λd hd=>Ai _ hd) (vW.wds λd hd=>Aa _ (Aa _ (Aa _ (.tail _ (mc d hd))))) Af)
   ·rfl
   ·rfl
   ·rfl
   ·rintro _ _ ⟨_,rfl⟩ q hq;exact Aa _ (Aa _ (Aa _ hq))
   ·exact λ_ _ _ x hx=>by cases hx
   rintro _ _ ⟨rfl,rfl⟩;refine BM ?_;refine Aj ?_;exact BO (i+1,_,_,lw1) ⟨by simp only;omega,hO⟩ (by simp only;omega) ⟨rfl,rfl,rfl,trivial⟩ (AfL _ _ _ _ _ _ (hKp _))
  ·have wR:ax=⟨false,true,e.va,e.vl⟩:=by rw[hax,Au hk]
   have wS:=hP (Hc WA 0 (.slice (some ⟨g,0,none⟩) (nn::r).length kk));obtain⟨G4,hG4⟩: ∃G4,G4=Hc WA 0 (.slice (some ⟨g,0,none⟩) (nn::r).length kk)::([(g,Obj.cells (toArray (Fx (nn::r)++sp)) 69 (0,0))]++(pL Gd ax::Vm b7 c::(c0++(X0++(x.all++(UM b2 F C T sh::l)))))):=⟨_,rfl⟩
   rw[<-hG4] at wS;have wT:pL Gd ax∈G4:=by rw[hG4];simp
   have qr3:(bB,Obj.cells cs t fz)∈G4:=by rw[hG4];simp[uN]
   have hKq: ∀(z:Bd) (d w:Ac),Keep (z::(d++(w++G4))) (w++(UM b2 F C T sh::l)):=λz d w=>by rw[hG4];exact AfN ..
   rw[wR] at m10 wT;obtain⟨n',r',UU,hor⟩:=jD Aa5 hW.g hW.s hW.w.due.1 hW.w.due.2 hk hh2 h0 pS ZW (uc e) rfl rfl rfl;rw[hR] at UU;dsimp only at UU;have AeA:jp (uc e):=⟨⟨JC,JC,JC,JC,JC,JC,JC⟩,ue.va,JC⟩
   have wU:=ZK S' (uc e);have hg2:=good_cl.ev hgd (uc e);have M1:=K3.ev (uc e);have wV:=λG=>QY (uc e) AeA (k:=840-10*(i+1)) ZU (by rw[Ah,Bl];omega) G (BV wU AX);obtain⟨⟨⟨ns2,co2⟩,S2⟩,gB⟩: ∃R,Jw S' (uc e)=R:=⟨_,rfl⟩
   rw[gB] at UU wU hg2 M1;simp only[gB] at wV;dsimp only at UU wU hg2 M1;subst UU;have AeC:=Fn.re (.of_perm wS) (wV G4) λv l' h=>⟨l',.refl,h⟩
   have AeD:=λz:Bd=>Fn.re (K':=λv l'=> ∃sl d lw2,v= .agg (toArray (NE co2 sl))/\OwnSl 69 12 sl (n'::r').length (Fx (n'::r')) d/\IsWo F.toNat C.toNat (840-10*(i+1)) S2 (XD F.toNat T.toNat sh) (st++[(0,nn::r)]++[(co2,n'::r')]) wb lw2/\l'=z::(d++(lw2++G4))) (.of_perm (AcI [z] _ _ _ wS)) (wV ([z]++G4)) λv l' ⟨sl,d,lw2,h1,h2,h3,h4⟩=>⟨_,by rw[h4];exact .of_perm (AfM ..),sl,d,lw2,h1,h2,h3,rfl⟩
   have x3:cs[off+i*15+1]?=some (iV e.co):=ZS x1 x2 rfl AX;refine Aj ?_;refine QP (α:=Value×Ac×Ac×Nat) (λz=>[(1,.slice (some ⟨bB,off,none⟩) n cap),(5,pV wb),(6,.int .i64 i),(10,pV Gd),(14,pV z.2.2.2)]) (λz=>Hc z.2.2.2 co2 z.1::(z.2.1++(z.2.2.1++G4))) (λz=>OwnSl 69 12 z.1 (n'::r').length (Fx (n'::r')) z.2.1/\IsWo F.toNat C.toNat (840-10*(i+1)) S2 (XD F.toNat T.toNat sh) (st++[(0,nn::r)]++[(co2,n'::r')]) wb z.2.2.1) ?_ ?_
   ·refine KP [(0,true),(1,true),(2,true),(3,true),(4,true),(5,true),(6,true),(7,true),(8,true),(9,false),(10,false),(11,false)] [[],[],[],[1,2],[1,2,3],[1,2,3,4],[],[6],[1,2,3,4,5,6,7],[0,1,2,3,4,5,6,7,8],[],[0,1,2,3,4,5,6,7,8,9,10]] 9 10 ([pL Gd ⟨false,true,e.va,e.vl⟩,(bB,Obj.cells cs t fz)]) BA BA GH ((jY (.tail _ m10) (.tail _ Pu))) ?_;refine BM ?_;refine Nd [(10,false),(9,false),(11,false)] GH (List.Perm.swap _ _ _) BA ?_ ?_
    ·refine CM (Az (vs:=[pV wb,NW (uc e)]) rfl rfl AeC) rfl rfl rfl ?_ ?_
     ·rintro _ _ ⟨_,_,_,rfl,_,_,rfl⟩;exact jY (Aa _ (Aa _ wT)) (Aa _ (Aa _ qr3))
     rintro _ _ ⟨sl2,d2,lw2,rfl,Fg,pX,rfl⟩;refine CM e_alloc rfl rfl rfl ?_ ?_
     ·rintro _ _ ⟨_,_,_,rfl⟩;exact jY (.tail _ (Aa _ (Aa _ wT))) (.tail _ (Aa _ (Aa _ qr3)))
     rintro _ _ ⟨U5,_,rfl,rfl⟩;obtain⟨pp,cap2,rfl⟩:=Fg.shape;have u10:pL Gd ⟨false,true,e.va,e.vl⟩∈d2++(lw2++G4):=Aa _ (Aa _ wT);have ur3:(bB,Obj.cells cs t fz)∈d2++(lw2++G4):=Aa _ (Aa _ qr3);refine pZ ?_ (hR:=jY (.tail _ u10) (.tail _ ur3));refine BM ?_;refine Aj ?_;exact Ep (_,d2,lw2,U5) ⟨Fg,pX⟩ ⟨rfl,rfl,rfl,rfl,rfl,trivial⟩ .refl
    ·refine CM e_alloc rfl rfl rfl ?_ ?_
     ·rintro _ _ ⟨_,_,_,rfl⟩;exact jY (.tail _ (.tail _ m10)) (.tail _ (.tail _ Pu))
     rintro _ _ ⟨U5,_,rfl,rfl⟩;refine CM (Az (vs:=[pV wb,NW (uc e)]) rfl rfl (AeD (Hc U5 0 Kp))) rfl rfl rfl ?_ ?_
     ·rintro _ _ ⟨_,_,_,rfl,_,_,rfl⟩;exact jY (.tail _ (Aa _ (Aa _ wT))) (.tail _ (Aa _ (Aa _ qr3)))
     rintro _ _ ⟨sl2,d2,lw2,rfl,Fg,pX,rfl⟩;obtain⟨pp,cap2,rfl⟩:=Fg.shape;have u10:pL Gd ⟨false,true,e.va,e.vl⟩∈d2++(lw2++G4):=Aa _ (Aa _ wT);have ur3:(bB,Obj.cells cs t fz)∈d2++(lw2++G4):=Aa _ (Aa _ qr3);refine pZ ?_ (hR:=jY (.tail _ u10) (.tail _ ur3));refine BM ?_;refine Aj ?_;exact Ep (_,d2,lw2,U5) ⟨Fg,pX⟩ ⟨rfl,rfl,rfl,rfl,rfl,trivial⟩ .refl
   rintro⟨sl2,d2,lw2,U5⟩ ⟨Fg,pX⟩;dsimp only at Fg pX⊢;have hO2:zx F C T sh wb (i+1) S2 (st++[(0,nn::r)]++[(co2,n'::r')]) lw2:=⟨pX,hg2,M1,by simp only[Ah,Bl];omega⟩
   obtain⟨g2,kk2,R7,rfl,rfl⟩:=MR Fg (by simp);have Lf:¬(((n'::r').length:Nat):Int)=0:=by simp only[Bu];omega
   have y1:(toArray (Fx (n'::r')++R7))[0+(0:Int).toNat*12+1]?=some (iV n'.co):=rfl;have y2:(toArray (Fx (n'::r')++R7))[0+(0:Int).toNat*12+2]?=some (Be n'.va):=rfl;have y9:(toArray (Fx (n'::r')++R7))[0+(0:Int).toNat*12+9+0]?=some (iV n'.fk):=rfl;have u2:(g2,Obj.cells (toArray (Fx (n'::r')++R7)) 69 (0,0))∈[(g2,Obj.cells (toArray (Fx (n'::r')++R7)) 69 (0,0))]++(lw2++G4):= .head _;have u10:pL Gd ⟨false,true,e.va,e.vl⟩∈[(g2,Obj.cells (toArray (Fx (n'::r')++R7)) 69 (0,0))]++(lw2++G4):=Aa _ (Aa _ wT);rcases hor with⟨jH,hc2⟩|⟨jH,hc2⟩
   ·rw[hc2] at y2;rw[jH] at y1;refine Aj ?_;refine Cm [] 39 _ ?_ (hR:=(λ_ h=>h));refine BM ?_;rw[Aw (show ¬¬(e.vl=e.vl) by simp)];refine BM ?_;refine Aj ?_;exact BO (i+1,_,_,lw2) ⟨by simp only;omega,hO2⟩ (by simp only;omega) ⟨rfl,rfl,rfl,trivial⟩ (hKq ..)
   ·rw[hc2] at y9;refine Aj ?_;refine Cm [] 39 _ ?_ (hR:=(λ_ h=>h));refine BM ?_;refine Aj ?_;exact BO (i+1,_,_,lw2) ⟨by simp only;omega,hO2⟩ (by simp only;omega) ⟨rfl,rfl,rfl,trivial⟩ (hKq ..)
 ·obtain rfl:i=n:=by omega
  refine Aj ?_;refine AS (Az rfl rfl (Rz _)) ?_;rintro _ _ ⟨rfl,X,rfl⟩;refine Aj ?_;exact BE [] rfl .refl (by exact Ba) ⟨rfl,X++(lw++[UM b2 F C T sh]),by simp⟩
theorem Vp(c0:Ap)(w0:AllIs [some .i64,some .i64,some .i64,none] c0){W:World}(a:Option Addr)(n cap:Nat)(rows:List (Ap))(h:WC evK W a n cap rows):
 Calls prog 14 #[.agg c0.toArray,.slice a n cap] W λe W'=>e= .returned (.bool true)/\Below W.heap.size W W':=by
 obtain⟨_,_,rfl,⟨F,rfl,_⟩,_,_,rfl,⟨C,rfl,_⟩,_,_,rfl,⟨T,rfl,_⟩,_,_,rfl,⟨sh,rfl⟩,rfl⟩:=w0;obtain⟨es,h1,h2,h3⟩:=pa h;exact lF (XH F C T sh a n cap es (Qk W) h2 h1 h.le h3)
end Go.Proofs.YtlifcingifodfaaGreat
