/- Laws that the statement's proof leans on (joined out of several texts). -/
import Derived.Test.YtlifcingifodfaaGreatGc52
set_option maxHeartbeats 4000000
set_option linter.unusedVariables false
set_option linter.unusedSimpArgs false
namespace Go.Proofs.YtlifcingifodfaaGreat
open Tryz
open List(toArray replicate)
open Go.RowKit
set_option maxRecDepth 20000
variable{S:KT}{C F k wb:Nat}{th:A4}{l lw L G:Ad}{v:Value}{A:Ar.ArT}{x:VwL}{os:List Ar.ObT}{f:Int}
def Abz(l:Ad)(v:Value)(xs:A4):Prop:=
 ∃a cap,v= .slice a xs.length cap/\(0<xs.length-> ∃b off cs t fz,a=some ⟨b,off,none⟩/\(b,Obj.cells cs t fz)∈l/\ ∀i x,xs[i]?=some x->cs[off+i*1]?=some (Bc x))
theorem OwnSl.wds{e:Nat}{xs:A4}{cs:Ad}(h:OwnSl e 1 v xs.length (xs.map Bc) cs)(hs: ∀c,c∈cs->c∈l):Abz l v xs:=by
 rcases h.2 with⟨rfl,h0,rfl⟩|⟨b,cap,sp,rfl,rfl,_⟩
 ·exact⟨none,0,by rw[h0],λh=>by omega⟩
 ·refine⟨_,cap,rfl,λh0=>⟨b,0,_,e,(0,0),rfl,hs _ Ak,λi x hx=>?_⟩⟩;have Dc:=(Ay.1 hx).1;rw[BE,Dq,AF,AB (by simpa using Dc),A5,hx];rfl
set_option maxRecDepth 100000
def x9(A:Ar.ArT)(id:Int):Bool:=decide ((id-1)/64<A.g ((id-1)%64).toNat)
theorem Zu{id:Int}(h:x9 A id=true):Giv A id:=⟨((id-1)%64).toNat,(id-1)/64,Af,EL h,Af⟩
def kdB(A:Ar.ArT)(c:CapT):Bool:=decide (c.kind=0)||decide (c.obj=0)||((A.os.all λo=>!decide (o.id=c.obj)||decide (o.kd=c.kind))&&x9 A c.obj)
def sW(F T:Nat)(sh:Bool):Bool:=
 let R:=La F T sh
 R.T.all (λt=>t.hs||(!t.wr&&decide (t.va=0)&&decide (t.vl=0)))&&decide (R.A.n<=64)&&R.A.os.all (λo=>!decide (o.id=0)&&x9 R.A o.id)&&R.H.1.all (λx=>x.2.all (kdB R.A))
theorem sX:((List.range 4).all λT=>(List.range 65).all λF=>T==0||decide (F<11*T)||(sW F T false&&sW F T true))=true:=by decide+kernel
theorem i9{T:Nat}(sh:Bool)(DL:1<=T)(hT:T<=3)(hF:11*T<=F)(SO:F<=64):GoodK (IR F C T sh)/\Stl (IR F C T sh):=by
 have h:=A3.1 (A3.1 sX T (E6.2 Af)) F (E6.2 Af);have h:sW F T sh=true:=by
  simp only[Ep,AW,Jz,Bj] at h;rcases h with(h|h)|⟨h1,h2⟩
  ·omega
  ·omega
  ·cases sh
   ·exact h1
   ·exact h2
 unfold sW at h;simp only[AW,Bj,A3,Ep,Ef,Fb] at h;obtain⟨⟨⟨h1,h2⟩,h3⟩,h4⟩:=h;refine⟨⟨λt ht e=>?_,h2,λc hc=>by rw[Ek hc];exact .inl ⟨rfl,rfl⟩,λo ho=>⟨(h3 o ho).1,Zu (h3 o ho).2⟩,λc ⟨x,hx,hc⟩ hk h0=>?_⟩,λj hj=>?_⟩
 ·rcases h1 t ht with h|h
  ·rw[h] at e;cases e
  ·exact⟨h.1.1,h.1.2,h.2⟩
 ·have h6:=h4 x hx c hc;unfold kdB at h6;simp only[AW,Bj,A3,Ep,Ef,Fb] at h6;rcases h6 with(h6|h6)|⟨h6,h7⟩
  ·exact absurd h6 hk
  ·exact absurd h6 h0
  ·exact⟨λo ho e=>(h6 o ho).resolve_left λe2=>e2 e,Zu h7⟩
 ·rw[Zr];have hj:j<C:=by simpa[IR] using hj
  have e1:(IR F C T sh).U.getD j 0=0:=by show(replicate C (0:Int)).getD j 0=0;rw[Bk,Dy,Ac hj];rfl
  have e2:su (IR F C T sh) 0=0:=by unfold su;split<;>rfl
  have e3:sk (IR F C T sh) 0=(-1,0):=Ac (.inl rfl);rw[e1,e2,e3];have e4:(IR F C T sh).U.set j 0=(IR F C T sh).U:=by
   show(replicate C (0:Int)).set j 0=replicate C 0;apply Dl;intro i;rw[G8];simp only[DO,Dy]
   split
   ·subst_vars;simp[hj]
   ·rfl
  have e5:cS (IR F C T sh).K j (-1,0)=(IR F C T sh).K:=by
   unfold cS
   split
   ·show(replicate C Zw).set j _=replicate C Zw;apply Dl;intro i;rw[G8];simp only[DO,Dy]
    split
    ·subst_vars;rw[Ac hj];show some {(replicate C Zw).getD _ pf with ro:= -1,sp:=0}=some Zw;rw[Bk,Dy,Ac hj];rfl
    ·rfl
   ·rfl
  rw[e4,e5]
set_option maxRecDepth 20000
theorem IsWo.mono{m:Nat}{st:List (Int×List Ii)}(h:IsWo F C k S th st wb l)(hm:m<=k):IsWo F C m S th st wb l:=by obtain⟨b,kb,p,s,vt,vs,ct,cs,rows,cn,hK,r⟩:=h.ex;exact⟨b,kb,p,s,vt,vs,ct,cs,rows,cn,hK.mono hm,r⟩
theorem IsWo.sizes{st:List (Int×List Ii)}(h:IsWo F C k S th st wb l):S.A.os.length<=900000/\(DY S.H.1).length<=900000/\S.H.2.length<=900000/\S.T.length<=900000/\(yZ S.Q).length<=900000/\S.U.length<=900000:=by
 obtain⟨b,kb,p,s,vt,vs,ct,cs,rows,cn,hK,_⟩:=h.ex;obtain⟨m,h1,h2,h3,h4⟩:=hK.small;have h5:=hK.ar.ok.len;have h6:=hK.ho.ulen h2 Af;have h7:=hK.tl;have h8:=hK.ul;have h9:=hK.c1;refine⟨Af,Af,Af,Af,?_,Af⟩;have Sa:=Qu.allX_len S.Q 900 (Qu.fallT (Qu.neX S.Q) 0) λp hp=>by have:=hK.ql p ((Qu.fallT_mem _ _ _).1 hp).2.1;omega
 have jo:(Qu.fallT (Qu.neX S.Q) 0).length<=8:=by unfold Qu.fallT;exact BY (C7 _ _) (by simp)
 have jR:=F6 900 jo;unfold yZ;omega
theorem oR{c:Bg}(h:c∈x.co\/c∈x.cc\/c∈x.ct\/c∈x.ch\/c∈x.cr\/c∈x.cq):c∈x.all:=by unfold VwL.all;rcases h with h|h|h|h|h|h<;>simp[h]
theorem oS{cs:Array Value}{a j:Nat}{xs:Ap}(h:a+k<=cs.size)(e:cs.extract a (a+k)=toArray xs)(hj:xs[j]?=some v)(hk:j<k):cs[a+j]?=some v:=by have h1:(cs.extract a (a+k))[j]?=(toArray xs)[j]?:=BO (λA:Array Value=>A[j]?) e;rw[EM,Ac Af] at h1;exact h1.trans (by simpa using hj)
theorem oT(h:Zp C S x): ∀v,v∈R7 x.vo x.vc x.vt x.vh S.N x.vr x.vq->v.oneCell'=true:=by
 intro v hv;simp only[At,AH,BL,Ez] at hv;rcases hv with rfl|rfl|rfl|rfl|hv|rfl|rfl
 ·exact h.o.one
 ·exact h.c.one
 ·exact h.t.one
 ·exact h.h.one
 ·exact QJ _ v hv
 ·exact h.r.one
 ·exact h.q.one
section
variable{st:List (Int×List Ii)}
theorem oU(hW:IsWo F C k S th st wb lw)(hP:L.Perm (lw++G)):Fn prog 21 [pV wb] L λv l'=> ∃x:VwL,v= .agg (toArray (R7 x.vo x.vc x.vt x.vh S.N x.vr x.vq))/\Zp C S x/\l'=x.all++L:=
 Fn.re (.of_perm hP) (Rm hW G) λv l' ⟨x,h1,h2,h3⟩=>⟨x.all++L,by rw[h3];exact .of_perm (hP.symm.append_left _),x,h1,h2,rfl⟩
theorem ja(hW:IsWo F C k S th st wb lw)(hP:L.Perm (lw++G)):Fn prog 37 [pV wb] L λv l'=> ∃c X,OwnSl 34 1 v S.W.length (S.W.map Bc) c/\l'=c++(X++L):=
 Fn.re (.of_perm hP) (cE hW G) λv l' ⟨c,X,h1,h2⟩=>⟨c++(X++L),by rw[h2];exact .of_perm ((hP.symm.append_left _).append_left _),c,X,h1,rfl⟩
end
abbrev vwZ:Ap:=De::De::De::De::(PO++[De,De])
def uG(W:A4)(o:Ar.ObT):Prop:=0<=o.fi/\0<=o.fr/\8*(o.fi+o.fr)<=W.length/\ ∀j:Nat,8*o.fi<=j->(j:Int)<8*(o.fi+o.fr)->W[j]?=some 0
def Old(os:List Ar.ObT)(S:KT):Prop:= ∀o,o∈S.A.os-> ∃u,u∈os/\u.id=o.id
def Ld(os:List Ar.ObT)(S:KT):Prop:= ∀o,o∈S.A.os->(∃u,u∈os/\u.id=o.id)\/o.kd=1\/uG S.W o
theorem Old.fresh(h:Old os S):Ld os S:=λo ho=> .inl (h o ho)
theorem yc(os:List Ar.ObT)(hg:KT->Prop:=λ_=>True):G7 (λS=>GoodK S/\Old os S) where
 free:=λQ E W U N hN h=>⟨good_cl.free Q E W U N hN h.1,h.2⟩
 core:=λh hK=>⟨good_cl.core h.1 hK,h.2⟩
 set:=λh ht=>⟨good_cl.set h.1 ht,h.2⟩
 rz:=λh id=>good_cl.rz h.1 id
 hold:=λh hH=>⟨good_cl.hold h.1 hH,h.2⟩
 place:=λ{S} id a b c h=>⟨good_cl.place id a b c h.1,λo ho=>by
  have ho:o∈(Ar.placeD S.A id a b c).2.os:=ho;unfold Ar.placeD at ho
  split at ho
  ·rename_i k hk
   split at ho
   ·exact h.2 o ho
   split at ho
   ·exact h.2 o ho
   ·obtain⟨u,h1,h2,_⟩:=QL hk (λo=>Ar.setPl o a b c) (λ_=>rfl) (λ_=>rfl) o ho;obtain⟨w,h3,h4⟩:=h.2 u h1;exact⟨w,h3,h4.trans h2⟩
  ·exact h.2 o ho⟩
 mark:=λ{S} id m h=>⟨good_cl.mark id m h.1,λo ho=>by
  have ho:o∈(Ar.markD' S.A id m).2.os:=ho;unfold Ar.markD' at ho
  split at ho
  ·rename_i k hk
   split at ho
   ·exact h.2 o ho
   split at ho
   ·exact h.2 o ho
   ·obtain⟨u,h1,h2,_⟩:=QL hk (λo=>Ar.setMa o m) (λ_=>rfl) (λ_=>rfl) o ho;obtain⟨w,h3,h4⟩:=h.2 u h1;exact⟨w,h3,h4.trans h2⟩
  ·exact h.2 o ho⟩
 unm:=λ{S} id h=>⟨good_cl.unm id h.1,λo ho=>by
  unfold Ui at ho
  split at ho
  ·exact h.2 o ho
  split at ho
  ·exact h.2 o ho
  ·have ho:o∈(Ar.dropD S.A id).2.os:=ho;unfold Ar.dropD at ho
   split at ho
   ·exact h.2 o (E1 ho)
   ·exact h.2 o ho⟩
theorem yd{P:KT->Prop}(h:G7 P)(hS:P S)(e:Pf):P (doA S e).2\/ ∃o x y,(doA S e).2=(EW S o x y).2:=by
 by_cases PU:(BV e.cl).1.op=1
 case neg=>exact .inl (h.doA hS e λx y h1=>absurd h1 PU)
 unfold doA
 split
 ·exact .inl (h.pick hS _ _)
 split
 ·unfold OI
  split
  ·exact .inl hS
  split
  ·exact .inl hS
  split
  ·exact .inl (h.fag hS _)
  split
  ·exact .inl (h.fdo hS _ _)
  split
  ·exact .inl (h.fdo hS _ _)
  ·have g: ∀t,P (Ng S t (BV e.cl).1).2\/ ∃o x y,(Ng S t (BV e.cl).1).2=(EW S o x y).2:=λt=>by
    have q: ∀x y,(ordE S t (BV e.cl).1 x y).2=(EW S (BV e.cl).1 x y).2:=λx y=>by
     have e1:Nq S t (BV e.cl).1 x=none:=by unfold Nq;rw[Ab Af,Ab Af,Ab Af]
     have e2:Kq S t (BV e.cl).1 x y=EW S (BV e.cl).1 x y:=by unfold Kq;rw[Ac PU]
     unfold ordE;rw[e1];dsimp only;rw[e2]
     split<;>rfl
    unfold Ng
    split
    ·exact .inl hS
    split
    ·exact .inl hS
    split
    ·exact .inl hS
    ·exact .inr ⟨_,_,_,q _ _⟩
   unfold UA
   split
   ·split
    ·exact g _
    ·exact g _
   ·exact .inl hS
 split
 ·exact .inl (h.cache hS e)
 ·exact .inl hS
theorem oV{W:A4}{n:Int}(hf:0<=f)(hn:0<=n)(hW:8*(f+n)<=W.length)(uM:f<nF W):
 (YK W f n).2.length=W.length/\(∀j:Nat,8*f<=j->(j:Int)<8*(f+n)->(YK W f n).2[j]?=some 0)/\ ∀j:Nat,W[j]?=some 0->(YK W f n).2[j]?=some 0:=by
 obtain⟨a,rfl⟩: ∃a:Nat,f=a:=⟨f.toNat,Af⟩
 obtain⟨b,rfl⟩: ∃b:Nat,n=b:=⟨n.toNat,Af⟩
 have e:(YK W a b).2=W.take (8*a)++(replicate (8*b) 0++W.drop (8*(a+b))):=by unfold YK;rw[Ab (by unfold nF at uM⊢;omega)];simp only[AY]
 rw[e];have hl:(W.take (8*a)).length=8*a:=by rw[CV];omega
 refine⟨by simp only[Ah,DO,Dw,hl];omega,λj h1 h2=>?_,λj h=>?_⟩
 ·rw[AN Af,hl,AB (by rw[DO];omega),Dy,Ac Af]
 ·by_cases h1:j<8*a
  ·rw[AB Af,GF,Ac h1];exact h
  ·rw[AN Af,hl];by_cases h2:j-8*a<8*b
   ·rw[AB (by rw[DO];omega),Dy,Ac h2]
   ·rw[AN (by rw[DO];omega),DO,Iu,show 8*(a+b)+(j-8*a-8*b)=j by omega];exact h
theorem oW{k z:Int}(h:Ar.addE A k z f=0):0<=f/\f+Ar.framesD k z<=A.n/\Ar.framesD k z≠0:=by
 unfold Ar.addE at h
 split at h
 ·exact absurd h AZ
 split at h
 ·exact absurd h AZ
 ·omega
theorem cH(k z:Int)(h:Ar.framesD k z≠0):0<Ar.framesD k z:=by
 unfold Ar.framesD at h⊢
 repeat' split at h
 all_goals(repeat' split)<;>first|omega|exact absurd rfl h|decide
theorem sY(S:KT)(k z f:Int):(Jl S k z f).2.A=(Ar.addD S.A k z f).2/\(Jl S k z f).2.W=if(Ar.addD S.A k z f).1.2=0/\¬k=1 then(YK S.W f (Ar.framesD k z)).2 else S.W:=by
 have t1: ∀(X:KT) (k id:Int),(eh X k id).W=X.W:=λX k id=>by
  unfold eh
  split
  ·rfl
  split<;>rfl
 have t2: ∀(X:KT) (n id:Int),(iz X n id).W=X.W:=λX n id=>by unfold iz;split<;>rfl
 unfold Jl;by_cases hc:(Ar.addD S.A k z f).1.2=0
 ·rw[Ac hc];dsimp only;refine⟨by rw[(oM ..).1,(oN ..).1,(fy ..).1],?_⟩;rw[t1,t2];unfold nh;by_cases hk:k=1
  ·rw[Ac hk,Ab (by simp[hk])]
  ·rw[Ab hk,Ac ⟨hc,hk⟩]
 ·rw[Ab hc,Ab λh=>hc h.1];exact⟨rfl,rfl⟩
def QM(S:KT):Prop:=(S.W.length:Int)=8*S.A.n
theorem Wb(h:Ld os S)(hm:QM S)(x:Ck)(k z f:Int)(q:Int×Ck):Ld os (LP x k z f S q)/\QM (LP x k z f S q):=by
 obtain⟨e1,e2⟩:=sY S k z (f+q.1);have e1:(LP x k z f S q).A=(Ar.addD S.A k z (f+q.1)).2:=e1;have e2:(LP x k z f S q).W=if(Ar.addD S.A k z (f+q.1)).1.2=0/\¬k=1 then(YK S.W (f+q.1) (Ar.framesD k z)).2 else S.W:=e2
 unfold Ld QM;rw[e1,e2];by_cases hc:(Ar.addD S.A k z (f+q.1)).1.2=0
 case neg=>rw[fu S k z _ hc,Ab λh=>hc h.1];exact⟨h,hm⟩
 obtain⟨h1,h2⟩:=fq S k z (f+q.1) hc;obtain⟨h3,h4,h5⟩:=oW h1;have h6:=cH k z h5;unfold QM at hm;have hz:=oV (W:=S.W) h3 (Int.le_of_lt h6) Af (by unfold nF;omega);rw[h2];dsimp only;have hW:((if(((Ar.nextD S.A (f+q.1),(0:Int)):Int×Int).2=0/\¬k=1) then(YK S.W (f+q.1) (Ar.framesD k z)).2 else S.W).length:Int)=8*S.A.n:=by
  split
  ·rw[hz.1];exact hm
  ·exact hm
 refine⟨λo ho=>?_,hW⟩;rcases Zt ho with rfl|ho
 ·by_cases hk:k=1
  ·exact .inr (.inl hk)
  ·refine .inr (.inr ?_);rw[Ac ⟨rfl,hk⟩] at hW⊢;exact⟨h3,Int.le_of_lt h6,by show 8*(f+q.1+Ar.framesD k z)<=_;omega,hz.2.1⟩
 ·rcases h o ho with h7|h7|⟨a,b,c,d⟩
  ·exact .inl h7
  ·exact .inr (.inl h7)
  ·refine .inr (.inr ⟨a,b,by have:=hW;dsimp only at this;omega,λj h8 h9=>?_⟩);have Sa:=d j h8 h9
   split
   ·exact hz.2.2 j Sa
   ·exact Sa
theorem UG{os:List Ar.ObT}(x:Ck)(k z f:Int): ∀(l:List (Int×Ck)) (S:KT),Ld os S->QM S->Ld os (l.foldl (LP x k z f) S)
 |[],_,h,_=>h
 |q::l,S,h,hm=>UG x k z f l _ (Wb h hm x k z f q).1 (Wb h hm x k z f q).2
theorem Xl(hm:QM S)(o:IY)(x y:Ck):Ld S.A.os (EW S o x y).2:=by
 have h0:Ld S.A.os S:=λo ho=> .inl ⟨o,ho,rfl⟩;unfold EW
 split
 ·exact h0
 split
 ·exact h0
 split
 ·exact h0
 split
 ·exact h0
 ·have h1:=UG (os:=S.A.os) x o.n0 o.n1 (Ar.getD' S.A (Ec S x).obj).1.fi (Uu S o x y) S h0 hm;generalize(Uu S o x y).foldl (LP x o.n0 o.n1 (Ar.getD' S.A (Ec S x).obj).1.fi) S=S1 at h1⊢;intro u hu;have hu:u∈(Ar.markD' S1.A (Ec S x).obj (LQ S o x).1.2).2.os:=hu;unfold Ar.markD' at hu
  split at hu
  ·rename_i k hk
   split at hu
   ·exact h1 u hu
   split at hu
   ·exact h1 u hu
   ·rcases Cq hu with e|e
    ·exact h1 u e
    ·subst e;exact h1 (S1.A.os.getD k Ar.obO) (oL hk).1
  ·exact h1 u hu
theorem oX(hg:GoodK S)(hm:QM S)(e:Pf):Ld S.A.os (Nh S e).2:=by
 have h0:Old S.A.os S:=λo ho=>⟨o,ho,rfl⟩
 have h1:Ld S.A.os (doA S e).2:=by
  rcases yd (yc S.A.os) ⟨hg,h0⟩ e with h|⟨o,x,y,h⟩
  ·exact h.2.fresh
  ·rw[h];exact Xl hm o x y
 show Ld S.A.os (if(doA S e).1.2=0 then Nn (doA S e).2 else(doA S e).2)
 split
 ·obtain⟨⟨U,K,_,e2⟩,_⟩:=oK (doA S e).2 (doA S e).2.U.length;unfold Nn;rw[e2];exact h1
 ·exact h1
theorem oY(c:Ap)(vo:Value)(os:List Ar.ObT)(id:Int)(l:Ad)(hc:(toArray c)[0]?=some vo)(hv:RowSl l vo 9 Ar.obC os)(hn:os.length<=1000000):Fn prog 38 [.agg (toArray c),.int .i64 id] l λv l'=>v= .agg (toArray (Ar.obC ((os.find? λo=>decide (o.id=id)).getD Ar.obO)))/\l'=l:=by
 obtain⟨a,cap,rfl,hr⟩:=hv;refine AO func38 ntmps38 λE=>?_;refine Aj ?_;refine AR (C4 rfl) ?_;rintro _ _ ⟨b2,_,rfl,rfl⟩;refine AQ λb4=>?_;refine CF (α:=Nat) (λk=>[(1,.int .i64 id),(2,pV b2),(4,pV b4),(5,.int .i64 k)]) (λk=>Xz b4 Ar.obO::UD b2 c::l) (λk=>k<=os.length/\ ∀t,t∈os.take k->¬t.id=id) (λk=>os.length-k) 0 ⟨Bm _,λt h=>by simp at h⟩ ⟨rfl,rfl,rfl,rfl,trivial⟩ .refl ?_;rintro k ⟨hk,I8⟩;by_cases Dc:k<os.length
 ·obtain⟨t,e1⟩: ∃t,os[k]?=some t:=⟨_,Al Dc⟩
  obtain⟨b,off,cs,ty,fz,rfl,hm,Mk⟩:=hr Af;obtain⟨g1,g2⟩:=Mk k t e1;have g3:cs[off+k*9+0]?=some (iV t.id):=oS g1 g2 rfl AZ;have ji:(b,Obj.cells cs ty fz)∈Xz b4 Ar.obO::UD b2 c::l:= .tail _ (.tail _ hm);refine Aj ?_;refine Be (DP (v:=iV t.id) rfl ji g3) ?_;by_cases he:t.id=id
  ·have hf:os.find? (λo=>decide (o.id=id))=some t:=by
    obtain⟨hl,hx⟩:=Ay.1 e1;refine JE.2 ⟨by simpa using he,k,hl,hx,λj hj=>?_⟩;have:=I8 os[j] (List.mem_take_iff_getElem.2 ⟨j,Af,rfl⟩);simpa using this
   rw[hf];refine Aj ?_;refine Be (Dt rfl ji g1 g2) ?_;refine Aj ?_;exact AV [] _ rfl .refl (Cz rfl (.head _) (As.LSub.of_all (n:=9) (Ar.obC t) rfl) (by exact Ba)) (.drop (.drop .refl)) ⟨rfl,rfl⟩
  ·refine Aj ?_;exact BR (k+1) ⟨Af,λx hx=>by
    rw[Cf,e1,AH] at hx;rcases hx with hx|hx
    ·exact I8 x hx
    ·simp at hx;rw[hx];exact he⟩ Af ⟨rfl,rfl,rfl,rfl,trivial⟩ .refl
 ·obtain rfl:k=os.length:=by omega
  have hf:os.find? (λo=>decide (o.id=id))=none:=Br.2 λx hx=>by simpa using I8 x (by rw[D7];exact hx)
  rw[hf];refine Aj ?_;exact AV [] _ rfl .refl (Cz rfl (.head _) (As.LSub.of_all (n:=9) (Ar.obC Ar.obO) rfl) (by exact Ba)) (.drop (.drop .refl)) ⟨rfl,rfl⟩
structure Aen(F C T:Int)(sh:Bool)(wb i:Nat)(S:KT)(st:List (Int×List Ii))(lw:Ad):Prop where
 w:IsWo F.toNat C.toNat (840-8*i) S (cm F.toNat T.toNat sh) st wb lw
 g:GoodK S
 n:st.length<=i
theorem IsWo.mok{st:List (Int×List Ii)}(hW:IsWo F C k S th st wb lw):QM S:=by obtain⟨b,kb,p,s,vt,vs,ct,cs,rows,cn,hK,_⟩:=hW.ex;obtain⟨gb,h3,_,h4,_⟩:=hK.mem;have:=hK.an;unfold QM;omega
theorem Aeo(x:Bg)(v w l:Ad):(x::(v++(w++l))).Perm (w++(x::(v++l))):=B0
theorem Aep(d w L:Ad):(d++(w++L)).Perm (w++(d++L)):=B0
theorem Aeq(y:Ad)(d w L:Ad):(y++(d++(w++L))).Perm (w++(y++(d++L))):=B0
theorem Aer(z x:Bg)(c X y d w v l:Ad):Keep (z::(c++(X++(y++(d++(w++(x::(v++l)))))))) (w++l):=A8 (z::x::(c++(X++(y++(d++v)))))
theorem Xm(F C T:Int)(sh:Bool)(a:Option Addr)(n cap:Nat)(es:List Pf)(l:Ad)(NO:aw l a n 15 (es.map bT))(Ei:es.length=n)(AgU:n<=cap)(he: ∀e,e∈es->jw e):
 Fn prog 8 [yY F C T sh,.slice a n cap] l λv l'=>v= .bool true/\ ∃X,l'=X++l:=by
 refine AO func8 ntmps8 λE=>?_;refine Aj ?_;refine AR (C4 rfl) ?_;rintro _ _ ⟨b2,_,rfl,rfl⟩;refine Aj ?_;refine Be (AL rfl rfl λl2 _=>i4 a n cap 100 l2) ?_;by_cases AgV:(100:Int)<n
 ·refine Aj ?_;refine AR (AA rfl rfl (Rn _)) ?_;rintro _ _ ⟨rfl,X,rfl⟩;refine Aj ?_;exact Bb (l':=X++l) (.trans (.of_perm AI) (.drop .refl)) ⟨rfl,X,rfl⟩
 refine Aj ?_;refine AR (AA (vs:=[yY F C T sh]) rfl rfl (oH F C T sh _)) ?_;rintro _ _ (⟨NR,rfl,rfl⟩|⟨NR,wb,lw,rfl,hW,rfl⟩)
 ·refine Aj ?_;refine AR (AA rfl rfl (Rn _)) ?_;rintro _ _ ⟨rfl,X,rfl⟩;refine Aj ?_;exact Bb (l':=X++l) (.trans (.of_perm AI) (.drop .refl)) ⟨rfl,X,rfl⟩
 refine Aj ?_;have hb:1<=T/\T<=3/\11*T<=F/\F<=64:=by unfold Nz at NR;simp only[AW,Bj] at NR;omega
 obtain⟨g0,_⟩:=i9 (F:=F.toNat) (C:=C.toNat) (T:=T.toNat) sh Af Af Af Af;refine CF (α:=Nat×KT×List (Int×List Ii)×Ad) (λx=>[(1,.slice a n cap),(5,pV wb),(6,.int .i64 x.1)]) (λx=>x.2.2.2++(cC b2 F C T sh::l)) (λx=>x.1<=n/\Aen F C T sh wb x.1 x.2.1 x.2.2.1 x.2.2.2) (λx=>n-x.1) (0,_,[],lw) ⟨Bm _,hW,g0,Bd _⟩ ⟨rfl,rfl,rfl,trivial⟩ .refl ?_;rintro⟨i,S,st,lw⟩ ⟨hi,hW⟩;simp only at hi hW⊢;by_cases Dc:i<n
 ·obtain⟨e,hie⟩: ∃e,es[i]?=some e:=⟨_,Al Af⟩
  have uH:=he e (A6 hie);have hev:=x5 e;obtain⟨z1,z2,z3,z4,z5,z6⟩:=hW.w.sizes;obtain⟨bB,off,cs,t,fz,rfl,yG,Mk⟩:=NO Af;obtain⟨x1,x2,_⟩:=Mk i (bT e) (by rw[A5,hie];rfl);obtain⟨S',hR⟩: ∃R,(Nh S e).2=R:=⟨_,rfl⟩
  have hn3:=fg S e;have ZC:=hW.n;have hw1:=hW.w.mono (m:=(840-8*(i+1))+iX e) Af;have vF:=λG=>SI e uH hw1 Af G (BY hn3 AZ);have hgd:=good_cl.ev hW.g e;have fA:=oX hW.g hW.w.mok e;rw[hR] at hgd fA;simp only[hR] at vF;refine Aj ?_;refine AR (AA (vs:=[pV wb]) rfl rfl (Rm hW.w _)) ?_;rintro _ _ ⟨x,rfl,hx,rfl⟩;refine AR e_alloc ?_;rintro _ _ ⟨b7,_,rfl,rfl⟩;have zN:=oT hx;have jS:(R7 x.vo x.vc x.vt x.vh S.N x.vr x.vq).length=86:=by simp[GO]
  have gx:(toArray (R7 x.vo x.vc x.vt x.vh S.N x.vr x.vq))[0]?=some x.vo:=rfl;obtain⟨c,hc⟩: ∃c,R7 x.vo x.vc x.vt x.vh S.N x.vr x.vq=c:=⟨_,rfl⟩
  rw[hc] at zN jS gx⊢;refine Aj ?_;apply ME
  ·refine El (cs:=toArray vwZ) (T:=52) (l':=UD b7 c::(x.all++(lw++(cC b2 F C T sh::l)))) rfl rfl jS zN ?_ ?_
   ·rw[Dr,As.setFrom_all _ _ (by rw[jS];rfl)];exact .here
   ·show 0+86<=vwZ.length;decide
  ·rfl
  ·rfl
  rintro _ _ ⟨rfl,rfl⟩;refine Aj ?_;refine Bq (.of_perm (Aeo ..)) ?_;have Adk:(bB,Obj.cells cs t fz)∈lw++(UD b7 c::(x.all++(cC b2 F C T sh::l))):=Aa _ (.tail _ (Aa _ (.tail _ yG)));refine Be (Dt rfl Adk x1 x2) ?_;refine AR (AA (vs:=[pV wb,QD e]) rfl rfl (vF _)) ?_;rintro _ _ ⟨sl1,d1,lw1,rfl,Gh,ZD,rfl⟩;refine Aj ?_;refine AR (AA (vs:=[pV wb]) rfl rfl (oU ZD (Aep ..))) ?_;rintro _ _ ⟨y,rfl,hy,rfl⟩;refine Aj ?_;refine AR (AA (vs:=[pV wb]) rfl rfl (ja ZD (Aeq ..))) ?_;rintro v0 _ ⟨c0,X0,uI,rfl⟩;have hv0:=uI.one;refine AR e_alloc ?_;rintro _ _ ⟨b8,_,rfl,rfl⟩;have tE:=oT hy;have vG:(R7 y.vo y.vc y.vt y.vh S'.N y.vr y.vq).length=86:=by simp[GO]
  have gy:(toArray (R7 y.vo y.vc y.vt y.vh S'.N y.vr y.vq))[0]?=some y.vo:=rfl;obtain⟨c',hc'⟩: ∃c,R7 y.vo y.vc y.vt y.vh S'.N y.vr y.vq=c:=⟨_,rfl⟩
  rw[hc'] at tE vG gy⊢;refine Aj ?_;apply ME
  ·refine El (cs:=toArray vwZ) (T:=52) (l':=UD b8 c'::(c0++(X0++(y.all++(d1++(lw1++(UD b7 c::(x.all++(cC b2 F C T sh::l))))))))) rfl rfl vG tE ?_ ?_
   ·rw[Dr,As.setFrom_all _ _ (by rw[vG];rfl)];exact .here
   ·show 0+86<=vwZ.length;decide
  ·rfl
  ·rfl
  rintro _ _ ⟨rfl,rfl⟩;refine Aj ?_;obtain⟨L3,hL3⟩: ∃L3,L3=UD b8 c'::(c0++(X0++(y.all++(d1++(lw1++(UD b7 c::(x.all++(cC b2 F C T sh::l)))))))):=⟨_,rfl⟩
  have m8:UD b8 c'∈L3:=by rw[hL3];exact .head _
  have m7:UD b7 c∈L3:=by rw[hL3];simp
  have mx: ∀d,d∈x.all->d∈L3:=λd hd=>by rw[hL3];simp[hd]
  have my: ∀d,d∈y.all->d∈L3:=λd hd=>by rw[hL3];simp[hd]
  have mc: ∀d,d∈c0->d∈L3:=λd hd=>by rw[hL3];simp[hd]
  have hKp:Keep L3 (lw1++(cC b2 F C T sh::l)):=by rw[hL3];exact Aer ..
  have jd:=λl2 (hl: ∀d,d∈L3->d∈l2)=>(OwnSl.rowSl (enc:=Ar.obC) hx.o (λ_=>rfl) λd hd=>hl d (mx d (oR (.inl hd))):RowSl l2 x.vo 9 Ar.obC S.A.os)
  obtain⟨a2,cap2,hyo,hr2⟩:=(OwnSl.rowSl (enc:=Ar.obC) hy.o (λ_=>rfl) λd hd=>my d (oR (.inl hd)):RowSl L3 y.vo 9 Ar.obC S'.A.os)
  obtain⟨a3,cap3,hv3,hr3⟩:=(uI.wds mc:Abz L3 v0 S'.W)
  obtain⟨q1,q2,q3,q4,q5,q6⟩:=ZD.sizes;rw[hyo] at gy;subst hv3;have hnW:S'.W.length<=512:=by have:=ZD.w;omega
  rw[<-hL3];refine CF (α:=Nat) (λk=>[(1,.slice (some ⟨bB,off,none⟩) n cap),(5,pV wb),(6,.int .i64 i),(7,pV b7),(8,pV b8),(9,.slice a3 S'.W.length cap3),(10,.int .i64 k)]) (λ_=>L3) (λk=>k<=S'.A.os.length) (λk=>S'.A.os.length-k) 0 (Bm _) ⟨rfl,rfl,rfl,rfl,rfl,rfl,rfl,trivial⟩ .refl ?_;rintro k hk;by_cases Xn:k<S'.A.os.length
  ·obtain⟨o,e1⟩: ∃o,S'.A.os[k]?=some o:=⟨_,Al Xn⟩
   obtain⟨bo,oo,co,to,fo,rfl,hmo,hrow2⟩:=hr2 Af;obtain⟨g1,g2⟩:=hrow2 k o e1;refine Aj ?_;refine Be (Dt rfl hmo g1 g2) ?_;refine AQ λLT=>?_;refine Be (Jb rfl (.tail _ m7) (As.LSub.of_all (n:=86) c jS)) ?_;refine Aj ?_;refine Be (AL (vs:=[.agg (toArray c),.int .i64 o.id]) rfl rfl λl2 hl=>oY c x.vo S.A.os o.id l2 gx (jd l2 λd hd=>hl d (.tail _ hd)) Af) ?_;obtain⟨u,hu⟩: ∃u,(S.A.os.find? λt=>decide (t.id=o.id)).getD Ar.obO=u:=⟨_,rfl⟩
   rw[hu];refine Aj ?_;by_cases hu0:u.id=0
   case neg=>refine Aj ?_;exact BR (k+1) Af Af ⟨rfl,rfl,rfl,rfl,rfl,rfl,rfl,trivial⟩ (.drop .refl)
   by_cases ZM:o.kd=1
   ·refine Aj ?_;exact BR (k+1) Af Af ⟨rfl,rfl,rfl,rfl,rfl,rfl,rfl,trivial⟩ (.drop .refl)
   have hz:uG S'.W o:=by
    rcases fA o (A6 e1) with⟨w,h1,h2⟩|h|h
    ·exfalso;cases hf:S.A.os.find? (λt=>decide (t.id=o.id)) with
     |none=>exact absurd (Br.1 hf w h1) (by simp[h2])
     |some w'=>have h3:=Er hf;rw[hf] at hu;simp only[Di] at hu;have h4:=hgd.ob o (A6 e1);simp only[Bj] at h3;rw[<-hu] at hu0;omega
    ·exact absurd h ZM
    ·exact h
   obtain⟨p1,p2,p3,p4⟩:=hz;have AgY:0<=o.fi/\o.fi<=64/\o.fr<=64:=by omega
   refine Aj ?_;refine CF (α:=Nat) (λj=>[(1,.slice (some ⟨bB,off,none⟩) n cap),(5,pV wb),(6,.int .i64 i),(7,pV b7),(8,pV b8),(9,.slice a3 S'.W.length cap3),(10,.int .i64 k),(11,pV LT),(12,.int .i64 j)]) (λ_=>Xz LT o::L3) (λj=>8*o.fi<=j/\(j:Int)<=8*(o.fi+o.fr)) (λj=>(8*(o.fi+o.fr)).toNat-j) (8*o.fi).toNat ⟨Af,Af⟩ (by rw[Int.toNat_of_nonneg Af];exact⟨rfl,rfl,rfl,rfl,rfl,rfl,rfl,rfl,rfl,trivial⟩) .refl ?_
   rintro j ⟨hj1,hj2⟩;by_cases fF:(j:Int)<8*(o.fi+o.fr)
   ·have e3:=p4 j hj1 fF;obtain⟨b3,o3,cs3,t3,f3,rfl,jL,hc3⟩:=hr3 Af;have g3:=hc3 j 0 e3;have AgZ:=List.Mem.tail (Xz LT o) jL;refine Aj ?_;exact BR (j+1) ⟨Af,Af⟩ Af ⟨rfl,rfl,rfl,rfl,rfl,rfl,rfl,rfl,rfl,trivial⟩ .refl
   ·refine Aj ?_;exact BR (k+1) Af Af ⟨rfl,rfl,rfl,rfl,rfl,rfl,rfl,trivial⟩ (.drop .refl)
  ·obtain rfl:k=S'.A.os.length:=by omega
   refine Aj ?_;exact BR (i+1,S',_,lw1) ⟨by simp only;omega,ZD,hgd,by rw[Ah,Bs];omega⟩ (by simp only;omega) ⟨rfl,rfl,rfl,trivial⟩ hKp
 ·obtain rfl:i=n:=by omega
  refine Aj ?_;refine AR (AA rfl rfl (Rn _)) ?_;rintro _ _ ⟨rfl,X,rfl⟩;refine Aj ?_;exact BD [] rfl .refl (by exact Ba) ⟨rfl,X++(lw++[cC b2 F C T sh]),by simp⟩
theorem U8(c0:Ap)(w0:AllIs [some .i64,some .i64,some .i64,none] c0){W:World}(a:Option Addr)(n cap:Nat)(rows:List (Ap))(h:Wk evK W a n cap rows):
 Calls prog 8 #[.agg c0.toArray,.slice a n cap] W λe W'=>e= .returned (.bool true)/\Below W.heap.size W W':=by
 obtain⟨_,_,rfl,⟨F,rfl,_⟩,_,_,rfl,⟨C,rfl,_⟩,_,_,rfl,⟨T,rfl,_⟩,_,_,rfl,⟨sh,rfl⟩,rfl⟩:=w0;obtain⟨es,h1,h2,h3⟩:=oz h;exact kH (Xm F C T sh a n cap es (P9 W) h2 h1 h.le h3)
end Go.Proofs.YtlifcingifodfaaGreat
