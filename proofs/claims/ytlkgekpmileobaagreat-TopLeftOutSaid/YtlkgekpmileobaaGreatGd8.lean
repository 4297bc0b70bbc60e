/- Laws that the statement's proof leans on (joined out of several texts). -/
import Derived.Test.YtlkgekpmileobaaGreatGd7
set_option maxHeartbeats 4000000
set_option linter.unusedVariables false
set_option linter.unusedSimpArgs false
namespace Go.Proofs.YtlkgekpmileobaaGreat
open Tryz
open List(toArray)
open Go.RowKit
set_option maxRecDepth 20000
variable{p:RP}{F C k addr b f m n k':Nat}{s:RL}{G L A B l0:List Ab}{id left t:Int}{c:CapT}{D:SD}{Γ:List Ab->List Ab}{vs:List Value}{u:Th.ThT}{Y:List Int×Bool}{H:HS}
abbrev vQ(B b:Nat):Ab:=(B,.cells #[.pointer (some ⟨b,0,none⟩)] 157 (0,0))
def Qb(s:Ce)(c:CapT)(x:Pe):Bool:=!decide (x.1=s)&&Ie x.2 c
def Kq(D:SD)(s:Ce)(c:CapT)(i:Nat):List Ce:=(((Dv D).take i).filter (Qb s c)).map Prod.fst
theorem Yt{D:SD}{s:Ce}{c:CapT}{i:Nat}{x:Pe}(h:(Dv D)[i]?=some x):Kq D s c (i+1)=if Qb s c x=true then Kq D s c i++[x.1] else Kq D s c i:=by
 unfold Kq;rw[Cg,h,Option.toList_some,Dr,Aq];by_cases hp:Qb s c x=true
 ·rw[Ad hp,List.filter_cons_of_pos (by exact hp)];rfl
 ·rw[Ac hp,Ih (by exact hp)];simp
theorem cQ(D:SD)(s:Ce)(c:CapT)(i:Nat):Kq D s c i<+:Kq D s c (Dv D).length:=by unfold Kq;rw[Ed];exact((BE i _).filter _).map _
theorem OwnSl.hds'{v:Value}{L:List Pe}{cs l:List Ab}(h:OwnSl 132 10 v L.length (Nl L) cs)(hs: ∀c,c∈cs->c∈l):RowSl l v 10 Nk L:=OwnSl.rowSl (enc:=Nk) h (λ_=>rfl) hs
theorem Yu(b:Nat)(s:Ce)(c:CapT)(l:List Ab):
 Fn prog 363 [.pointer (some ⟨b,0,none⟩),.agg (toArray (Co s)),.agg (toArray (BW c))] l λv l'=>
  ∃B1 B2 B3,v= .func (.func 385) #[] #[.pointer (some ⟨B1,0,none⟩),.pointer (some ⟨B2,0,none⟩),.pointer (some ⟨B3,0,none⟩)]/\l'=Bq B3 c::Dh B2 s::vQ B1 b::l:=by
 refine AM func363 ntmps363 λE=>?_;refine AO λb1=>?_;refine AO λb2=>?_;refine AO λb3=>?_;exact A9 .refl ⟨_,_,_,rfl,rfl⟩
theorem Yv(B1 B2 B3 b:Nat)(H:HS)(n:Nat)(hI:InvH H n)(hn:n<=1000)(lq:List Ab)(hq:IsH b H lq)(s:Ce)(c:CapT)(hul:(Dv H.1).length<=900000):
 Fa prog 385 [.pointer (some ⟨B1,0,none⟩),.pointer (some ⟨B2,0,none⟩),.pointer (some ⟨B3,0,none⟩)] (λy:Ce=>[.agg (toArray (Co y))]) (λxs=>xs=Kq H.1 s c (Dv H.1).length) (λpre=>pre<+:Kq H.1 s c (Dv H.1).length)
  (λ_ l=>(∀x,x∈[vQ B1 b,Dh B2 s,Bq B3 c]->x∈l)/\(∀c,c∈lq->c∈l)):=by
 refine⟨λr I Ix G0 hneed hY l G hG h0=>?_⟩;obtain⟨n1,n2⟩:=hneed _ _ G hG h0;have m1:=n1 (vQ B1 b) (by simp);refine AM func385 ntmps385 λE=>?_;refine Aj ?_;refine AP (Az rfl rfl (T6 b H lq hq (hI.small hn).1 _ n2)) ?_;rintro v _ ⟨cs,ho,rfl⟩;obtain⟨U,hU⟩: ∃U,Dv H.1=U:=⟨_,rfl⟩
 have hlk:= @Yt H.1 s c;have hlp:=cQ H.1 s c;rw[hU] at ho hul hlk hlp hY⊢;have hR:=λ(l2:List Ab) (h: ∀c,c∈cs->c∈l2)=>ho.hds' h;obtain⟨p,cap,rfl⟩:=ho.shape;refine Aj ?_;refine CE (α:=Nat×List Ab) (λx=>[(0,.func (.yield r) #[] #[]),(2,.pointer (some ⟨B2,0,none⟩)),(3,.pointer (some ⟨B3,0,none⟩)),(8,.slice p U.length cap),(9,.int .i64 U.length),(10,.int .i64 x.1)]) (λx=>x.2++(cs++G)) (λx=>x.1<=U.length/\I (Kq H.1 s c x.1) x.2) (λx=>U.length-x.1) (0,l) ⟨Bl _,h0⟩ ⟨rfl,rfl,rfl,rfl,rfl,rfl,trivial⟩ (Keep.in_mid cs l G) ?_;clear n1 n2 m1 h0;rintro⟨i,l⟩ ⟨hi,hI'⟩;simp only at hi hI'⊢;by_cases hlt:i<U.length
 case neg=>
  obtain rfl:i=U.length:=by omega
  refine Aj ?_;exact A9 (l':=l++G) (A4 cs) ⟨l,rfl,.inl ⟨_,rfl,hI'⟩⟩
 obtain⟨x,hx⟩: ∃x,U[i]?=some x:=⟨_,Al hlt⟩
 have hsn:=hlk hx;obtain⟨a0,cp,hv,hrow⟩:=hR (l++(cs++G)) (λc hc=>Aa _ (Ah _ hc));obtain⟨gb,off,xs,ty,fz,rfl,hm,hc⟩:=hrow Af;obtain⟨g1,g2⟩:=hc i x hx;cases hv;obtain⟨n1,n2⟩:=hneed (Kq H.1 s c i) l (cs++G) (λc hc=>Aa _ (hG c hc)) hI';refine Aj ?_;refine Bb (Dn rfl hm g1 g2) ?_;refine Aj ?_;refine AP e_alloc ?_;rintro _ _ ⟨b6,_,rfl,rfl⟩;have m2:Dh B2 s∈l++(cs++G):=n1 _ (by simp);have m3:Bq B3 c∈l++(cs++G):=n1 _ (by simp);refine Aj ?_;refine Bb (FU rfl rfl (RX x.1) (RX s)) ?_;by_cases hxs:x.1=s
 ·rw[hxs,Ge (RX s)];rw[Ac (by unfold Qb;rw[At hxs];simp)] at hsn;refine Aj ?_;exact BV (i+1,l) ⟨by simp only;omega,by rw[hsn];exact hI'⟩ (by simp only;omega) ⟨rfl,rfl,rfl,rfl,rfl,rfl,trivial⟩ (.drop .refl)
 rw[t6 hxs];refine Aj ?_;refine Mv (AJ rfl rfl λl2 hl=>Ua x.2 c l2) rfl rfl rfl ?_;cases ha:Ie x.2 c with
 |false=>rw[Ac (by unfold Qb;rw[ha];simp)] at hsn;refine Aj ?_;exact BV (i+1,l) ⟨by simp only;omega,by rw[hsn];exact hI'⟩ (by simp only;omega) ⟨rfl,rfl,rfl,rfl,rfl,rfl,trivial⟩ (.drop .refl)
 |true=>
 rw[Ad (by unfold Qb;rw[ha,Av hxs];rfl)] at hsn;have hp:=hlp (i+1);rw[hsn] at hp;have hy:=hY (Kq H.1 s c i) x.1 l (tZ b6 x::(cs++G)) (λc hc=> .tail _ (Aa _ (hG c hc))) hI' hp;refine Aj ?_;refine Bk (Keep.in_mid [tZ b6 x] l (cs++G)) ?_;refine Ia (CQ rfl rfl hy) rfl rfl rfl ?_;rintro w l' ⟨l1,rfl,⟨rfl,hI2⟩|⟨rfl,hx2⟩⟩
 ·refine Aj ?_;exact BV (i+1,l1) ⟨by simp only;omega,by rw[hsn];exact hI2⟩ (by simp only;omega) ⟨rfl,rfl,rfl,rfl,rfl,rfl,trivial⟩ (A4 [tZ b6 x])
 ·refine Aj ?_;exact A9 (l':=l1++G) (A4 (tZ b6 x::cs)) ⟨l1,rfl,.inr ⟨_,hp,hx2⟩⟩
theorem cR{s:Ce}(h1:Fi H.1 s=true)(h2:(DJ H.1 s).kind≠0):Lf H s=decide (Kq H.1 s (DJ H.1 s) (Dv H.1).length=[]):=by
 unfold Lf Kq;rw[JD,H9,h1,Av h2,Ed,List.map_eq_nil_iff,List.filter_eq_nil_iff];simp only[GO,Bp,Bool.and_true,AZ];constructor
 ·intro h x hx hl;have:=h x hx;unfold Qb at hl;cases hd:decide (x.1=s)<;>cases ha:Ie x.2 (DJ H.1 s)<;>simp_all
 ·intro h x hx;have:=h x hx;unfold Qb at this;cases hd:decide (x.1=s)<;>cases ha:Ie x.2 (DJ H.1 s)<;>simp_all
theorem Yw(b:Nat)(H:HS)(n:Nat)(hI:InvH H n)(hn:n<=1000)(lq:List Ab)(hq:IsH b H lq)(s:Ce)(hul:(Dv H.1).length<=900000)(l:List Ab)(hsub: ∀c,c∈lq->c∈l):
 Fn prog 327 [.pointer (some ⟨b,0,none⟩),.agg (toArray (Co s))] l λv l'=>v= .bool (Lf H s)/\l'=l:=by
 refine AM func327 ntmps327 λE=>?_;refine AO λb3=>?_;refine AO λb4=>?_;refine Bb (AJ rfl rfl λl2 hl=>IN b H lq hq s l2 λc hc=>hl c (.tail _ (.tail _ (hsub c hc)))) ?_;cases hok:Fi H.1 s with
 |false=>rw[T7 hok,show Lf H s=false by unfold Lf;rw[hok];rfl];refine AO λb5=>?_;exact CF (l':=l) ((b4,.cells (toArray [.bool false]) 4 (0,0))::l) (.drop (.pick .here (.drop .refl))) (.drop .refl) ⟨rfl,rfl⟩
 |true=>
 rw[K4 hok];refine AO λb5=>?_;by_cases hw:(DJ H.1 s).kind=0
 ·rw[show Lf H s=false by unfold Lf;rw[At hw];simp];refine Aj ?_;exact CF (l':=l) ((b4,.cells (toArray [.bool false]) 4 (0,0))::l) (.drop (.pick .here (.drop .refl))) (.drop .refl) ⟨rfl,rfl⟩
 rw[cR hok hw];refine Aj ?_;refine AP (Az rfl rfl (Yu b s (DJ H.1 s) _)) ?_;rintro _ _ ⟨B1,B2,B3,rfl,rfl⟩;refine Aj ?_;refine C0 (α:=Ce) (ps:=[24]) (lb:=[.pointer (some ⟨B1,0,none⟩),.pointer (some ⟨B2,0,none⟩),.pointer (some ⟨B3,0,none⟩)]) rfl (Yv B1 B2 B3 b H n hI hn lq hq s (DJ H.1 s) hul) (λ_=>rfl) rfl
  (λpre l=>l=[Bq B3 (DJ H.1 s),Dh B2 s,vQ B1 b,(b4,.cells (toArray [.bool false]) 4 (0,0))]/\pre=[])
  (λc pre l=>c= .ret/\pre≠[]/\l=[(b4,.cells (toArray [.bool false]) 4 (0,0))])
  _ (Bq b5 (DJ H.1 s)::Dh b3 s::l) (λpre l2 X2 hX h=>⟨λx hx=>by rw[h.1];exact Ah _ (by simp only[Ap,BQ,Eo] at hx⊢;rcases hx with h|h|h<;>simp[h]),λc hc=>Aa _ (hX _ (.tail _ (.tail _ (hsub _ hc))))⟩) (by exact AS) ⟨rfl,rfl⟩ ?_ ?_ ?_
 ·rintro E r0 rec pre x l' T ⟨fn,tmps,D0,rfl⟩ hT ⟨rfl,rfl⟩ hsp;simp only[DG,Ae,Ag];refine Aj ?_;refine Cy (by exact DI) ?_;refine Aj ?_;refine Eg [(b4,.cells (toArray [.bool false]) 4 (0,0))] (by exact AS) ⟨rfl,by simp,rfl⟩
 ·rintro D0 xs l' hS ⟨rfl,rfl⟩;rw[<-hS];simp only[Ae,Ag];refine Aj ?_;exact AW [D0] ((b4,.cells (toArray [.bool true]) 4 (0,0))::l) rfl (l':=l) (by exact AS) (by exact A8) (.drop .refl) ⟨rfl,rfl⟩
 ·rintro D0 c pre l' hsp ⟨rfl,hne,rfl⟩;have hL:Kq H.1 s (DJ H.1 s) (Dv H.1).length≠[]:=λe=>by rw[e] at hsp;exact hne (List.prefix_nil.1 hsp)
  rw[Av hL];simp only[Ae,Ag];refine Aj ?_;exact AW [D0] ((b4,.cells (toArray [.bool false]) 4 (0,0))::l) rfl (l':=l) (by exact AS) (by exact A8) (.drop .refl) ⟨rfl,rfl⟩
namespace Ar
variable{S:ArT}{k:Nat}{o o':ObT}{id m s p v:Int}{os:OL}
def dropD(S:ArT)(id:Int):Int×ArT:=match atO S.os id with
 |some k=>(0,{S with os:=S.os.eraseIdx k})
 |none=>(2,S)
def setMa(o:ObT)(m:Int):ObT:={o with ma:=m}
def setPl(o:ObT)(s p v:Int):ObT:={o with se:=s,pg:=p,lv:=v}
def markD'(S:ArT)(id m:Int):Int×ArT:=match atO S.os id with
 |some k=>if(S.os.getD k obO).kd≠1 then(8,S) else if m<0\/m>(S.os.getD k obO).fr then(3,S) else(0,{S with os:=S.os.set k (setMa (S.os.getD k obO) m)})
 |none=>(2,S)
abbrev QO(s p v:Int):Prop:=(s=0/\p=0/\v=0)\/(1<=s/\s<=16777215/\0<=p/\p<512/\1<=v/\v<=2)
def placeD(S:ArT)(id s p v:Int):Int×ArT:=match atO S.os id with
 |some k=>if(S.os.getD k obO).kd≠4 then(8,S) else if ¬QO s p v then(3,S) else(0,{S with os:=S.os.set k (setPl (S.os.getD k obO) s p v)})
 |none=>(2,S)
theorem Ko(hS:S.Ok)(h:S.os[k]?=some o)(h1:o'.id=o.id)(h2:o'.fi=o.fi):ArT.Ok {S with os:=S.os.set k o'}:=by
 have hk:=(Ay.1 h).1;have he:=(Ay.1 h).2;have hm: ∀x∈S.os.set k o',∃y∈S.os,x.id=y.id/\x.fi=y.fi:=λx hx=>by
  rcases CC hx with hx|rfl
  ·exact⟨x,hx,rfl,rfl⟩
  ·exact⟨o,A6 h,h1,h2⟩
 refine⟨hS.n1,hS.n2,hS.g1,?_,λx hx=>?_,λx hx=>?_⟩
 ·show(S.os.set k o').Pairwise _;rw[Hs];intro i j hi hj hij;rw[Cv] at hi hj;have hP:=Hs.1 hS.asc;have g: ∀(i:Nat) (hi:i<S.os.length) (hi':i<(S.os.set k o').length),((S.os.set k o')[i]).id=(S.os[i]).id:=λi hi hi'=>by
   rw[List.getElem_set]
   split
   ·rename_i e;subst e;rw[h1,he]
   ·rfl
  rw[g i hi,g j hj];exact hP i j hi hj hij
 ·obtain⟨y,hy,e1,e2⟩:=hm x hx;rw[e1];exact hS.rng y hy
 ·obtain⟨y,hy,e1,e2⟩:=hm x hx;show 0<=x.fi/\x.fi<S.n/\ ∃c:Int,0<=c/\c<S.g x.fi.toNat/\x.id=x.fi+1+64*c;rw[e1,e2];exact hS.num y hy
theorem atO_get(h:atO os id=some k):os[k]?=some (os.getD k obO)/\(os.getD k obO).id=id:=by obtain⟨o,h1,h2⟩:=atO_some h;rw[List.getD,h1];exact⟨rfl,h2⟩
theorem mD(hS:S.Ok)(id:Int):(dropD S id).2.Ok:=by
 unfold dropD
 split
 ·rename_i k hk;have hm: ∀x∈S.os.eraseIdx k,x∈S.os:=λx hx=>FK hx;exact⟨hS.n1,hS.n2,hS.g1,hS.asc.sublist (List.eraseIdx_sublist ..),λx hx=>hS.rng x (hm x hx),λx hx=>hS.num x (hm x hx)⟩
 ·exact hS
theorem mF(hS:S.Ok)(id m:Int):(markD' S id m).2.Ok:=by
 unfold markD'
 split
 ·rename_i k hk
  split
  ·exact hS
  split
  ·exact hS
  exact Ko hS (atO_get hk).1 rfl rfl
 ·exact hS
theorem io(hS:S.Ok)(id s p v:Int):(placeD S id s p v).2.Ok:=by
 unfold placeD
 split
 ·rename_i k hk
  split
  ·exact hS
  split
  ·exact hS
  exact Ko hS (atO_get hk).1 rfl rfl
 ·exact hS
theorem cT(os:OL)(k:Nat)(hk:k<os.length):(os.eraseIdx k)=os.take k++os.drop (k+1):=Dc ..
theorem Yx{c x:Ab}{l F:List Ab}(h:c∈x::l):c∈x::(l++F):=by rw[<-Ae];exact Ah _ h
theorem cU(h:os[k]?=some o):ocs os=ocs (os.take k)++obC o++ocs (os.drop (k+1)):=by
 conv=>lhs;rw[Wa h]
 rw[L6,show ocs (o::os.drop (k+1))=obC o++ocs (os.drop (k+1)) from rfl,Am]
theorem NX(h:os[k]?=some o):os.getD k obO=o:=by rw[List.getD,h];rfl
theorem Ub(h:atO S.os id=none):markD' S id m=(2,S):=by unfold markD';rw[h]
theorem qF(h:atO S.os id=some k)(ho:S.os[k]?=some o)(h1:o.kd≠1):markD' S id m=(8,S):=by unfold markD';rw[h];simp only[NX ho];rw[Ad h1]
theorem iq(h:atO S.os id=some k)(ho:S.os[k]?=some o)(h1:o.kd=1)(h2:m<0\/m>o.fr):markD' S id m=(3,S):=by unfold markD';rw[h];simp only[NX ho];rw[Ac Af,Ad h2]
theorem qG(h:atO S.os id=some k)(ho:S.os[k]?=some o)(h1:o.kd=1)(h2:¬(m<0\/m>o.fr)):markD' S id m=(0,{S with os:=S.os.set k (setMa o m)}):=by unfold markD';rw[h];simp only[NX ho];rw[Ac Af,Ac h2]
theorem Sa(h:atO S.os id=none):placeD S id s p v=(2,S):=by unfold placeD;rw[h]
theorem mI(h:atO S.os id=some k)(ho:S.os[k]?=some o)(h1:o.kd≠4):placeD S id s p v=(8,S):=by unfold placeD;rw[h];simp only[NX ho];rw[Ad h1]
theorem mJ(h:atO S.os id=some k)(ho:S.os[k]?=some o)(h1:o.kd=4)(h2:¬QO s p v):placeD S id s p v=(3,S):=by unfold placeD;rw[h];simp only[NX ho];rw[Ac Af,Ad h2]
theorem mK(h:atO S.os id=some k)(ho:S.os[k]?=some o)(h1:o.kd=4)(h2:QO s p v):placeD S id s p v=(0,{S with os:=S.os.set k (setPl o s p v)}):=by unfold placeD;rw[h];simp only[NX ho];rw[Ac Af,Ac (FL h2)]
theorem Z6{b gb cap:Nat}{sp:List Value}(hOk:ArT.Ok {S with os:=S.os.set k o'})(hnc:S.os.length<=cap)(hcm:cap<=maxLen)(hcl:(ocs S.os++sp).length=cap*9):
 IsA b {S with os:=S.os.set k o'} [Rw b S.n S.g (.slice (some ⟨gb,0,none⟩) S.os.length cap),(gb,.cells (toArray (ocs (S.os.set k o')++sp)) 100 (0,0))]:=by
 refine⟨hOk,_,_,rfl,?_⟩;show OwnSl 100 9 _ (S.os.set k o').length (ocs (S.os.set k o')) _;refine⟨by rw[Nb],.inr ⟨gb,cap,sp,by rw[Cv],rfl,by rw[Cv];exact hnc,hcm,?_⟩⟩;rw[Ai,Nb,Cv];rw[Ai,Nb] at hcl;exact hcl
end Ar
abbrev XD:=Ce×Int
abbrev qH(y:XD):List Value:=[.int .i64 y.1.1,.int .i64 y.1.2,.int .i64 y.2]
def mL(S:Ar.ArT)(c:CapT):Ar.ObT:=(Ar.getD' S c.obj).1
def pd(addr:Nat)(c:CapT)(left:Int):Nat:=if c.bits>0 then DX addr (left-c.bits).toNat c.bits.toNat else 0
def U7(S:Ar.ArT)(c:CapT)(left:Int):Prop:=Fd c=true/\c.kind=2/\(Ar.getD' S c.obj).2=true/\(mL S c).kd=2/\c.bits+(mL S c).sz<=left
instance(S:Ar.ArT)(c:CapT)(left:Int):Decidable (U7 S c left):=by unfold U7;exact inferInstance
def Im(S:Ar.ArT)(c:CapT)(left:Int):Int:=left-(c.bits+(mL S c).sz)
def Om(S:Ar.ArT)(addr:Nat)(c:CapT)(left:Int):Ce:=((mL S c).id,(DX addr (Im S c left).toNat (mL S c).sz.toNat:Nat))
def Ns(D:SD)(S:Ar.ArT)(addr:Nat)(c:CapT)(left:Int):Option (XD×CapT):=
 if U7 S c left then(if pd addr c left=Qo c.guard/\(getD' D (Om S addr c left)).2=0 then some ((Om S addr c left,Im S c left),(getD' D (Om S addr c left)).1) else none) else none
def FH(D:SD)(S:Ar.ArT)(addr:Nat):Nat->CapT->Int->List XD
 |0,_,_=>[]
 |f+1,c,left=>if left>0 then(match Ns D S addr c left with|some y=>y.1::FH D S addr f y.2 y.1.2|none=>[]) else[]
def mO(S:Ar.ArT):Prop:= ∀o∈S.os,o.kd=2->1<=o.sz/\o.sz<=4
theorem Z7{S:Ar.ArT}(h:(Ar.getD' S id).2=true):(Ar.getD' S id).1∈S.os/\(Ar.getD' S id).1.id=id:=by
 unfold Ar.getD' at*;cases hk:Ar.atO S.os id with
 |none=>rw[hk] at h;cases h
 |some k=>obtain⟨h1,h2⟩:=Ar.atO_get hk;exact⟨A6 h1,h2⟩
theorem Uc(h:Fd c=true)(hk:c.kind=2):0<=c.bits/\c.bits<=12/\0<=c.guard/\Kl (Qo c.guard) c.bits=true:=by unfold Fd at h;rw[Ac Af,Ac Af,Ad hk] at h;unfold Z1 at h;simp only[AR,Bg] at h;obtain⟨⟨⟨h1,h2⟩,h3,h4⟩,_⟩:=h;exact⟨h1,h2,h3,h4⟩
theorem Yy{S:Ar.ArT}(hR:mO S)(h:U7 S c left):0<=c.bits/\c.bits<=12/\1<=(mL S c).sz/\(mL S c).sz<=4/\0<=Im S c left/\Im S c left<left:=by obtain⟨h1,h2,h3,h4,h5⟩:=h;obtain⟨b1,b2,_⟩:=Uc h1 h2;obtain⟨m1,_⟩:=Z7 h3;obtain⟨s1,s2⟩:=hR _ m1 h4;unfold Im mL at*;refine⟨b1,b2,s1,s2,Af,Af⟩
theorem cV{S:Ar.ArT}(h:U7 S c left)(h2:pd addr c left=Qo c.guard/\(getD' D (Om S addr c left)).2=0):Ns D S addr c left=some ((Om S addr c left,Im S c left),(getD' D (Om S addr c left)).1):=by unfold Ns;rw[Ad h,Ad h2]
theorem Yz{S:Ar.ArT}(h:¬U7 S c left):Ns D S addr c left=none:=by unfold Ns;rw[Ac h]
theorem Sb{S:Ar.ArT}(h:¬(pd addr c left=Qo c.guard/\(getD' D (Om S addr c left)).2=0)):Ns D S addr c left=none:=by
 unfold Ns;by_cases hg:U7 S c left
 ·rw[Ad hg,Ac h]
 ·rw[Ac hg]
theorem Sc{S:Ar.ArT}(h:left<=0):FH D S addr f c left=[]:=by
 cases f with
 |zero=>rfl
 |succ f=>unfold FH;rw[Ac Af]
theorem NY{S:Ar.ArT}(h:Ns D S addr c left=none):FH D S addr f c left=[]:=by
 cases f with
 |zero=>rfl
 |succ f=>unfold FH;rw[h];split<;>rfl
theorem Z8{S:Ar.ArT}{y:XD×CapT}(h0:left>0)(h:Ns D S addr c left=some y):FH D S addr (f+1) c left=y.1::FH D S addr f y.2 y.1.2:=by rw[FH,Ad h0,h]
theorem it{w a:Nat}(h:n<=4):DX w a n<16:=Ea (show DX w a n<2^n from GN _ (Gm n)) (CN Af h)
def iu(addr:Nat)(depth:Int):Prop:=depth<1\/depth>12\/Kl addr depth=false
instance(addr:Nat)(depth:Int):Decidable (iu addr depth):=by unfold iu;exact inferInstance
def Ph(L:List XD)(depth:Int):XD:=L.getLast?.getD ((0,0),depth)
def WF(D:SD)(S:Ar.ArT)(c:CapT)(addr:Nat)(depth:Int):Ce×Int:=
 if iu addr depth then((0,0),3) else if(Ph (FH D S addr 13 c depth) depth).2>0 then((0,0),12) else((Ph (FH D S addr 13 c depth) depth).1,0)
theorem Keep.appL(X:List Ab)(h:Keep A B):Keep (X++A) (X++B):=by obtain⟨r,p⟩:=h;exact⟨r,(Ex X p).trans (AA X r B)⟩
theorem Keep.dropL'(X:List Ab)(h:Keep A B):Keep (X++A) B:=by obtain⟨r,p⟩:=h;exact⟨X++r,by rw[Am];exact p.append_left X⟩
abbrev ue(B b:Nat):Ab:=(B,.cells #[.pointer (some ⟨b,0,none⟩)] 156 (0,0))
abbrev uf(B b:Nat):Ab:=(B,.cells #[.pointer (some ⟨b,0,none⟩)] 231 (0,0))
theorem mP(c d:CapT):CV (toArray (BW c)) 0 (toArray (BW d)).toList=toArray (BW d):=by cases c;cases d;simp[CV,BW]
theorem PR(w:Nat)(hw:w<18446744073709551616)(a n:Int)(h0:0<=a)(h1:1<=n)(h2:n<=63)(h3:a+n<=64)(l:List Ab):
 Fn prog 254 [.int .u64 (w:Nat),.int .i64 a,.int .i64 n] l λr l'=>r= .tuple #[.int .u64 (DX w a.toNat n.toNat:Nat),.int .i64 0]/\l'=l:=by
 obtain⟨a,rfl⟩: ∃q:Nat,a=q:=⟨a.toNat,Af⟩
 obtain⟨n,rfl⟩: ∃q:Nat,n=q:=⟨n.toNat,Af⟩
 exact Je w a n hw Af Af Af l
theorem mS(bs ba:Nat)(addr:Nat)(ha:addr<18446744073709551616)(depth:Int)(l:List Ab):
 Fn prog 273 [.pointer (some ⟨bs,0,none⟩),.pointer (some ⟨ba,0,none⟩),.int .u64 (addr:Nat),.int .i64 depth] l λv l'=>v= .int .i64 (if iu addr depth then 3 else 0)/\l'=l:=by
 refine AM func273 ntmps273 λE=>?_;by_cases h1:depth<1
 ·rw[Ad (.inl h1)];exact EA
 by_cases h2:depth>12
 ·rw[Ad (.inr (.inl h2))];exact EA
 refine Aj ?_;refine Mv (AJ rfl rfl λl2 _=>Pc addr ha depth l2) rfl rfl rfl ?_;cases hf:Kl addr depth with
 |false=>rw[Ad (.inr (.inr hf))];exact EA
 |true=>rw[Ac (by rintro(h|h|h)<;>first|omega|(rw[hf] at h;cases h))];exact EA
theorem cW(bs ba addr:Nat)(root:CapT)(depth:Int)(l:List Ab):
 Fn prog 274 [.pointer (some ⟨bs,0,none⟩),.pointer (some ⟨ba,0,none⟩),.agg (toArray (BW root)),.int .u64 (addr:Nat),.int .i64 depth] l λv l'=>
  ∃B1 B2 B3 B4 B5,v= .func (.func 322) #[] #[.pointer (some ⟨B1,0,none⟩),.pointer (some ⟨B2,0,none⟩),.pointer (some ⟨B3,0,none⟩),.pointer (some ⟨B4,0,none⟩),.pointer (some ⟨B5,0,none⟩)]/\
   l'=F6 B2 depth::PL B4 addr::Bq B1 root::ue B3 ba::uf B5 bs::l:=by
 refine AM func274 ntmps274 λE=>?_;refine AO λb5=>?_;refine AO λb6=>?_;refine AO λb7=>?_;refine AO λb8=>?_;refine AO λb9=>?_;exact A9 .refl ⟨_,_,_,_,_,rfl,rfl⟩
theorem YA(B1 B2 B3 B4 B5 bs ba:Nat)(D:SD)(S:Ar.ArT)(lq la:List Ab)(hq:IsS bs D lq)(hA:Ar.IsA ba S la)(hR:mO S)(addr:Nat)(haddr:addr<18446744073709551616)(root:CapT)(depth:Int)(hd:depth<=12):
 Fa prog 322 [.pointer (some ⟨B1,0,none⟩),.pointer (some ⟨B2,0,none⟩),.pointer (some ⟨B3,0,none⟩),.pointer (some ⟨B4,0,none⟩),.pointer (some ⟨B5,0,none⟩)] (λy:XD=>[.agg (toArray (qH y))]) (λxs=>xs=FH D S addr 13 root depth) (λpre=>pre<+:FH D S addr 13 root depth)
  (λ_ l=>(∀x,x∈[F6 B2 depth,PL B4 addr,Bq B1 root,ue B3 ba,uf B5 bs]->x∈l)/\(∀c,c∈lq->c∈l)/\(∀c,c∈la->c∈l)):=by
 refine⟨λr I Ix G0 hneed hY l G hG h0=>?_⟩;obtain⟨n1,n2,n3⟩:=hneed _ _ G hG h0;have m1:=n1 (Bq B1 root) (by simp);have m2:=n1 (F6 B2 depth) (by simp);refine AM func322 ntmps322 λE=>?_;refine Aj ?_;refine Ch [2,3] 5 _ ?_ (hR:=(λ_ h=>h));refine BM ?_;apply CM
 ·exact e_alloc
 ·rfl
 ·rfl
 ·rfl
 ·rintro _ _ ⟨b7,_,_,rfl⟩ x hx;exact .tail _ hx
 rintro _ _ ⟨b7,hb7,rfl,rfl⟩;refine BM ?_;refine Aj ?_;have hL0:FH D S addr 13 root depth=[]++FH D S addr 13 root depth:=rfl;refine CE (α:=CapT×Int×List XD×Nat×List Ab) (λx=>[(0,.func (.yield r) #[] #[]),(3,.pointer (some ⟨B3,0,none⟩)),(4,.pointer (some ⟨B4,0,none⟩)),(5,.pointer (some ⟨B5,0,none⟩)),(7,.pointer (some ⟨b7,0,none⟩)),(8,.int .i64 x.2.1)]) (λx=>x.2.2.2.2++(Bq b7 x.1::G))
  (λx=>I x.2.2.1 x.2.2.2.2/\FH D S addr 13 root depth=x.2.2.1++FH D S addr x.2.2.2.1 x.1 x.2.1/\x.2.1<=(x.2.2.2.1:Nat)/\x.2.1<=12) (λx=>x.2.1.toNat) (root,depth,[],13,l) ⟨h0,rfl,by simp only;omega,hd⟩ ⟨rfl,rfl,rfl,rfl,rfl,rfl,trivial⟩ (Keep.of_perm AH.symm) ?_
 clear n1 n2 n3 m1 m2 hL0 hb7;rintro⟨c,left,pre,f,l⟩ ⟨hI,hW,hf,hl12⟩;simp only at hI hW hf hl12⊢;obtain⟨n1,n2,n3⟩:=hneed _ _ (Bq b7 c::G) (λc hc=> .tail _ (hG c hc)) hI;have m3:=n1 (ue B3 ba) (by simp);have m4:=n1 (PL B4 addr) (by simp);have m5:=n1 (uf B5 bs) (by simp);have m7:Bq b7 c∈l++(Bq b7 c::G):=Aa _ (.head _);by_cases hl0:left>0
 case neg=>have hE:FH D S addr f c left=[]:=Sc Af;rw[hE,Bf] at hW;refine Aj ?_;exact A9 (Keep.appL l (.drop .refl)) ⟨l,rfl,.inl ⟨pre,hW.symm,hI⟩⟩
 obtain⟨f,rfl⟩: ∃q,f=q+1:=⟨f-1,Af⟩
 refine Aj ?_;refine Bb (AJ rfl rfl λl2 hl=>Ar.get_any ba S la hA c.obj l2 λx hx=>hl x (n3 x hx)) ?_;obtain⟨o,ho⟩: ∃o,(Ar.getD' S c.obj).1=o:=⟨_,rfl⟩
 obtain⟨ok,hok⟩: ∃ok,(Ar.getD' S c.obj).2=ok:=⟨_,rfl⟩
 have hoA:mL S c=o:=ho;rw[ho,hok];refine Aj ?_;refine AP e_alloc ?_;rintro _ _ ⟨b9,_,rfl,rfl⟩;have m7':=An (Ar.obK b9 o) m7;refine Aj ?_;refine Bb (AJ rfl rfl λl2 _=>HL c l2) ?_;have hstop: ∀{F:List Ab},¬U7 S c left->Keep (Ar.obK b9 o::(l++(Bq b7 c::G))) (l++G)/\FH D S addr 13 root depth=pre:=λh=>by have hE:FH D S addr (f+1) c left=[]:=NY (Yz h);rw[hE,Bf] at hW;exact⟨.drop (Keep.appL l (.drop .refl)),hW⟩
 cases hM:Fd c with
 |false=>
  obtain⟨hk,hW'⟩:=hstop (F:=[]) λh=>by have h1:=h.1;rw[hM] at h1;cases h1
  refine Aj ?_;exact A9 hk ⟨l,rfl,.inl ⟨pre,hW'.symm,hI⟩⟩
 |true=>
 by_cases hk2:c.kind=2
 case neg=>obtain⟨hk,hW'⟩:=hstop (F:=[]) λh=>hk2 h.2.1;refine Aj ?_;exact A9 hk ⟨l,rfl,.inl ⟨pre,hW'.symm,hI⟩⟩
 cases hokb:ok with
 |false=>
  obtain⟨hk,hW'⟩:=hstop (F:=[]) λh=>by have h1:=h.2.2.1;rw[hok,hokb] at h1;cases h1
  refine Aj ?_;exact A9 hk ⟨l,rfl,.inl ⟨pre,hW'.symm,hI⟩⟩
 |true=>
 rw[hokb] at hok;by_cases hkd:o.kd=2
 case neg=>obtain⟨hk,hW'⟩:=hstop (F:=[]) λh=>hkd (by rw[<-hoA];exact h.2.2.2.1);refine Aj ?_;exact A9 hk ⟨l,rfl,.inl ⟨pre,hW'.symm,hI⟩⟩
 obtain⟨bt0,bt1,gd0,_⟩:=Uc hM hk2;obtain⟨sz1,sz2⟩:1<=o.sz/\o.sz<=4:=by rw[<-ho] at hkd⊢;exact hR _ (Z7 hok).1 hkd
 by_cases hbl:c.bits+o.sz>left
 ·obtain⟨hk,hW'⟩:=hstop (F:=[]) λh=>by have:=h.2.2.2.2;rw[hoA] at this;omega
  refine Aj ?_;exact A9 hk ⟨l,rfl,.inl ⟨pre,hW'.symm,hI⟩⟩
 have hgo:U7 S c left:=⟨hM,hk2,hok,by rw[hoA];exact hkd,by rw[hoA];omega⟩
 clear hstop;refine Aj ?_;obtain⟨p1,p2,p3,p4,p5,p6⟩:=Yy hR hgo;obtain⟨x,hx⟩: ∃x,Om S addr c left=x:=⟨_,rfl⟩
 have hx1:x.1=o.id:=by rw[<-hx];unfold Om;rw[hoA]
 have hx2:x.2=(DX addr (Im S c left).toNat o.sz.toNat:Nat):=by rw[<-hx];unfold Om;rw[hoA]
 have hlN:Im S c left=left-(c.bits+o.sz):=by unfold Im;rw[hoA]
 have hf16:DX addr (Im S c left).toNat o.sz.toNat<16:=it Af;by_cases hb:c.bits>0
 case' pos=>
  have hgF:((pd addr c left:Nat):Int)=(DX addr (left-c.bits).toNat c.bits.toNat:Nat):=by unfold pd;rw[Ad hb]
  refine Aj ?_;refine Bb (AJ rfl rfl λl2 _=>PR addr haddr (left-c.bits) c.bits Af Af Af Af l2) ?_;rw[<-hgF];refine Aj ?_
 case' neg=>
  have hgF:((pd addr c left:Nat):Int)=0:=by unfold pd;rw[Ac hb];rfl
  refine Aj ?_
 all_goals
  refine Bb (AJ rfl rfl λl2 _=>PR addr haddr (left-(c.bits+o.sz)) o.sz Af Af Af Af l2) ?_;rw[<-hlN,<-hx2];refine AO λb14=>?_;have HG: ∀l2,(∀z,z∈lq->z∈l2)->Fn prog 230 [.pointer (some ⟨bs,0,none⟩),.agg (toArray [.int .i64 o.id,.int .i64 x.2])] l2 λv l'=>v= .tuple #[.agg (toArray (BW (getD' D x).1)),.int .i64 (getD' D x).2]/\l'=l2:=λl2 h=>by rw[<-hx1];exact get_any bs D lq hq x l2 h
  refine Bb (AJ rfl rfl λl2 hl=>HG l2 λz hz=>hl z (.tail _ (.tail _ (n2 z hz)))) ?_;obtain⟨nx,hnx⟩: ∃nx,(getD' D x).1=nx:=⟨_,rfl⟩
  obtain⟨er,her⟩: ∃er,(getD' D x).2=er:=⟨_,rfl⟩
  rw[hnx,her];refine Aj ?_;refine AP e_alloc ?_;rintro _ _ ⟨b15,_,rfl,rfl⟩;have m7b:=An (Dh b14 (o.id,x.2)) m7';refine Aj ?_;refine Bb (OZ rfl) ?_;rw[TT];have hK:Keep (Bq b15 nx::Dh b14 (o.id,x.2)::Ar.obK b9 o::(l++(Bq b7 c::G))) (l++G):= .drop (.drop (.drop (Keep.appL l (.drop .refl))));by_cases hg:pd addr c left=Qo c.guard
  case neg=>have hE:FH D S addr (f+1) c left=[]:=NY (Sb λh=>hg h.1);rw[hE,Bf] at hW;refine Aj ?_;exact A9 hK ⟨l,rfl,.inl ⟨pre,hW.symm,hI⟩⟩
  by_cases he0:er=0
  case neg=>have hE:FH D S addr (f+1) c left=[]:=NY (Sb λh=>he0 (by rw[<-her,<-hx];exact h.2));rw[hE,Bf] at hW;refine Aj ?_;exact A9 hK ⟨l,rfl,.inl ⟨pre,hW.symm,hI⟩⟩
  have hst:Ns D S addr c left=some ((x,Im S c left),nx):=by rw[cV hgo ⟨hg,by rw[hx,her,he0]⟩,hx,hnx]
  have hE:FH D S addr (f+1) c left=(x,Im S c left)::FH D S addr f nx (Im S c left):=Z8 hl0 hst;rw[hE] at hW;have hpre:pre++[(x,Im S c left)]<+:FH D S addr 13 root depth:=by rw[hW];exact⟨FH D S addr f nx (Im S c left),by simp⟩
  have hy:=hY pre (x,Im S c left) l (Bq b15 nx::Dh b14 (o.id,x.2)::Ar.obK b9 o::Bq b7 c::G) (λz hz=> .tail _ (.tail _ (.tail _ (.tail _ (hG z hz))))) hI hpre;rw[show qH (x,Im S c left)=[.int .i64 o.id,.int .i64 x.2,.int .i64 (Im S c left)] by rw[<-hx1]] at hy;refine Aj ?_;refine Bk (Keep.in_mid [Bq b15 nx,Dh b14 (o.id,x.2),Ar.obK b9 o] l (Bq b7 c::G)) ?_;refine Ia (CQ rfl rfl hy) rfl rfl rfl ?_;rintro w l' ⟨l1,rfl,⟨rfl,hI'⟩|⟨rfl,hx⟩⟩
  case' inr=>
   refine Aj ?_;exact A9 (Keep.appL l1 (.drop (.drop (.drop (.drop .refl))))) ⟨l1,rfl,.inr ⟨_,hpre,hx⟩⟩
  all_goals
   have q15:Bq b15 nx∈l1++(Bq b15 nx::Dh b14 (o.id,x.2)::Ar.obK b9 o::Bq b7 c::G):=Aa _ (.head _);refine Aj ?_;apply Mu
   ·exact Et (b:=b7) (off:=0) (cs:=toArray (BW c)) (ws:=toArray (BW nx)) (n:=8) (l':=l1++(Bq b15 nx::Dh b14 (o.id,x.2)::Ar.obK b9 o::Bq b7 nx::G)) rfl rfl rfl (by simp[Value.oneCell']) (by rw[mP];exact ZM (.there (.there (.there .here))) l1) (by simp)
   ·rfl
   ·rfl
   rintro _ _ ⟨rfl,rfl⟩;refine Aj ?_;refine BV (nx,Im S c left,pre++[(x,Im S c left)],f,l1) ⟨hI',?_,?_,?_⟩ ?_ ⟨rfl,rfl,rfl,rfl,rfl,rfl,trivial⟩ (Keep.appL l1 (.drop (.drop (.drop .refl))))
   ·rw[hW];simp
   ·simp only;omega
   ·simp only;omega
   ·simp only;omega
theorem Sd(pre:List XD)(x:XD)(d:Int):Ph (pre++[x]) d=x:=by simp[Ph]
theorem Ud(D:SD)(S:Ar.ArT)(addr:Nat): ∀(f:Nat) (c:CapT) (left:Int) (pre:List XD) (x:XD),pre++[x]<+:FH D S addr f c left->x.2=0->FH D S addr f c left=pre++[x]
 |0,c,left,pre,x,h,_=>by have:=h.length_le;simp[FH] at this
 |f+1,c,left,pre,x,h,hx=>by
  by_cases hl:left>0
  ·cases hs:Ns D S addr c left with
   |none=>rw[NY hs] at h;have:=h.length_le;simp at this
   |some y=>
    rw[Z8 hl hs] at h⊢;cases pre with
    |nil=>obtain⟨t,ht⟩:=h;simp only[Ag,Ae,Cc] at ht;rw[<-ht.1,Sc Af];rfl
    |cons p pre=>obtain⟨t,ht⟩:=h;simp only[Ae,Cc] at ht;rw[Ud D S addr f y.2 y.1.2 pre x ⟨t,ht.2⟩ hx,<-ht.1];rfl
  ·rw[Sc Af] at h;have:=h.length_le;simp at this
abbrev vR(B:Nat)(y:XD):Ab:=(B,.cells (toArray (qH y)) 443 (0,0))
theorem WG(bs ba:Nat)(D:SD)(S:Ar.ArT)(lq la:List Ab)(hq:IsS bs D lq)(hA:Ar.IsA ba S la)(hR:mO S)(addr:Nat)(haddr:addr<18446744073709551616)(root:CapT)(depth:Int)(l:List Ab)(h1: ∀c,c∈lq->c∈l)(h2: ∀c,c∈la->c∈l):
 Fn prog 207 [.pointer (some ⟨bs,0,none⟩),.pointer (some ⟨ba,0,none⟩),.agg (toArray (BW root)),.int .u64 (addr:Nat),.int .i64 depth] l λv l'=>v= .tuple #[.agg (toArray (Co (WF D S root addr depth).1)),.int .i64 (WF D S root addr depth).2]/\l'=l:=by
 refine AM func207 ntmps207 λE=>?_;refine AO λb7=>?_;refine AO λb10=>?_;refine Bb (AJ rfl rfl λl2 _=>mS bs ba addr haddr depth l2) ?_;by_cases hb:iu addr depth
 ·rw[Ad hb,show WF D S root addr depth=((0,0),3) by unfold WF;rw[Ad hb]];refine Aj ?_;exact CF (l':=l) (Dh b10 (0,0)::l) (by exact AS) (.drop .refl) ⟨rfl,rfl⟩
 rw[Ac hb];have hd12:depth<=12:=Decidable.byContradiction λh=>hb (.inr (.inl Af));have hd1:1<=depth:=Decidable.byContradiction λh=>hb (.inl Af);refine AO λb13=>?_;refine AP (Az rfl rfl (cW bs ba addr root depth _)) ?_;rintro _ _ ⟨B1,B2,B3,B4,B5,rfl,rfl⟩;refine Aj ?_;obtain⟨L,hL⟩: ∃L,FH D S addr 13 root depth=L:=⟨_,rfl⟩
 have hres:WF D S root addr depth=if(Ph L depth).2>0 then((0,0),12) else((Ph L depth).1,0):=by unfold WF;rw[Ac hb,hL]
 refine C0 (α:=XD) (ps:=[32]) (lb:=[.pointer (some ⟨B1,0,none⟩),.pointer (some ⟨B2,0,none⟩),.pointer (some ⟨B3,0,none⟩),.pointer (some ⟨B4,0,none⟩),.pointer (some ⟨B5,0,none⟩)]) rfl (YA B1 B2 B3 B4 B5 bs ba D S lq la hq hA hR addr haddr root depth hd12) (λ_=>rfl) rfl
  (λpre l=>l=[F6 B2 depth,PL B4 addr,Bq B1 root,ue B3 ba,uf B5 bs,vR b13 (Ph pre depth)]/\True)
  (λc pre l=>c= .exit 0/\ ∃(pre':List XD) (x:XD),pre=pre'++[x]/\x.2=0/\l=[vR b13 x])
  _ (Dh b10 (0,0)::Bq b7 root::l) (λpre l2 X2 hX h=>⟨λx hx=>by rw[h.1];exact Ah _ (by simp only[Ap,BQ,Eo] at hx⊢;rcases hx with h|h|h|h|h<;>simp[h]),λc hc=>Aa _ (hX _ (.tail _ (.tail _ (h1 _ hc)))),λc hc=>Aa _ (hX _ (.tail _ (.tail _ (h2 _ hc))))⟩) (by exact AS) ⟨rfl,trivial⟩ ?_ ?_ ?_
 ·rintro E r0 rec pre x l' T ⟨fn,tmps,D0,rfl⟩ hT ⟨rfl,_⟩ hsp;simp only[DG,Ae,Ag];refine AO λb14=>?_;refine Cy (by exact DI) ?_;refine Aj ?_;by_cases hy:x.2=0
  ·refine Aj ?_;refine EE [vR b13 x] (by exact AS) ⟨rfl,pre,x,rfl,hy,rfl⟩
  ·refine Aj ?_;refine B0 [F6 B2 depth,PL B4 addr,Bq B1 root,ue B3 ba,uf B5 bs,vR b13 x] (by exact AS) ⟨by rw[Sd],trivial⟩
 ·rintro D0 xs l' rfl ⟨rfl,_⟩;rw[hL] at*;simp only[Ae,Ag];refine Aj ?_;by_cases hz:(Ph L depth).2>0
  ·rw[hres,Ad hz];refine Aj ?_;exact AW [D0] (Dh b10 (0,0)::l) rfl (l':=l) (by exact AS) (by exact A8) (.drop .refl) ⟨rfl,rfl⟩
  ·rw[hres,Ac hz];refine Aj ?_;exact AW [D0] (Dh b10 (Ph L depth).1::l) rfl (l':=l) (by exact AS) (by exact A8) (.drop .refl) ⟨rfl,rfl⟩
 ·rintro D0 c pre l' hsp ⟨rfl,pre',x,rfl,hx0,rfl⟩;have hLx:L=pre'++[x]:=by rw[<-hL];exact Ud D S addr 13 root depth pre' x hsp hx0
  rw[hres,hLx,Sd,Ac Af];simp only[Ae,Ag];refine Aj ?_;exact AW [D0] (Dh b10 x.1::l) rfl (l':=l) (by exact AS) (by exact A8) (.drop .refl) ⟨rfl,rfl⟩
namespace Qu
variable{X:Nat->List Int}{p:Nat}{id:Int}
theorem first_any(b:Nat)(X:Nat->List Int)(lq:List Ab)(hq:IsQ b X lq)(l:List Ab)(hsub: ∀c,c∈lq->c∈l):
 Fn prog 103 [.pointer (some ⟨b,0,none⟩)] l λv l'=>v= .tuple #[.int .i64 (firstQ X).1,.bool (firstQ X).2]/\l'=l:=by
 obtain⟨vs,cs,hqs,rfl⟩:=hq;have hsub2: ∀c,c∈HK cs 8->c∈l:=λc hc=>hsub c (An _ hc);refine AM func103 ntmps103 λE=>?_;refine HC λb2=>?_;refine HC λb3=>?_;refine AP (Da rfl rfl (Nf _ _)) ?_;rintro v l' ⟨B,hB,rfl,rfl⟩;refine gz ?_;refine C0 (α:=Nat) (ps:=[8,9]) (lb:=[.pointer (some ⟨B,0,none⟩)]) rfl (PJ B b vs (λp=>(X p).length) hqs.shape) (λ_=>rfl) rfl
  (λpre l=>l=[(B,.cells #[.pointer (some ⟨b,0,none⟩)] 160 (0,0)),(b3,.cells #[.bool false] 4 (0,0)),(b2,.cells #[.int .i64 0] 3 (0,0))]/\pre=[])
  (λc pre l=>c= .ret/\ ∃(p:Nat),pre=[p]/\l=[(b2,.cells #[.int .i64 ((X p).headD 0)] 3 (0,0)),(b3,.cells #[.bool true] 4 (0,0))])
  _ l (λpre l2 X2 hX h=>⟨by rw[h.1];exact List.Mem.head _,Aa _ (hX _ (hsub _ Ak))⟩) (by exact AS) ⟨rfl,rfl⟩ ?_ ?_ ?_
 ·rintro E r0 rec pre y l' T ⟨fn,tmps,D,rfl⟩ hT ⟨rfl,rfl⟩ hsp;have hy:=(fallT_mem _ _ _).1 (GT hsp (Aa _ Ak));have hn0:0<(X y).length:=by have:=hy.2.2;simp at this;exact List.length_pos_iff.2 this
  obtain⟨x,rest,hxr⟩: ∃x rest,X y=x::rest:=by
   cases h:X y with
   |nil=>rw[h] at hn0;simp at hn0
   |cons x r=>exact⟨x,r,rfl⟩
  obtain⟨a,cap,hv,hI⟩:=hqs.ints y hy.2.1 (HK cs 8) (λ_ h=>h);obtain⟨gb,off,cc,t,fz,rfl,hm,hc⟩:=hI hn0;have hc0:cc[off+(0:Int).toNat*1]?=some (.int .i64 x):=hc 0 x (by rw[hxr];rfl);have hm': ∀c,c=(gb,Obj.cells cc t fz)->c∈T:=λc e=>by subst e;exact hT _ (hsub2 _ hm)
  have hmT:=hm' _ rfl;simp only[DG,Ae,Ag];rw[hv];refine gz ?_;refine Cy (by exact DI) ?_;refine gz ?_;refine Bb (DH (cs:=cc) rfl (.tail _ (.tail _ (.tail _ (.tail _ hmT)))) (by simpa using hc0)) ?_;refine gz ?_;refine Eg [(b2,.cells #[.int .i64 x] 3 (0,0)),(b3,.cells #[.bool true] 4 (0,0))] (by exact AS) ⟨rfl,y,rfl,by rw[hxr];rfl⟩
 ·rintro D xs l' rfl ⟨rfl,hpre⟩;have hfn:fallT (neX X) 0=[]:=hpre;simp only[Ae,Ag];refine gz ?_;exact AW [D] ((b2,.cells #[.int .i64 0] 3 (0,0))::(b3,.cells #[.bool false] 4 (0,0))::l) rfl (l':=l) (by exact AS) (by exact A8) (by exact AS) ⟨by simp[Iw,firstQ,hfn],rfl⟩
 ·rintro D c pre l' hsp ⟨rfl,p,rfl,rfl⟩;have hfd:firstQ X=((X p).headD 0,true):=by
   unfold firstQ;obtain⟨rest,hr⟩:=hsp;rw[show fallT (neX X) 0=[p]++rest from hr.symm];rfl
  simp only[Ae,Ag];refine gz ?_;exact AW [D] ((b2,.cells #[.int .i64 ((X p).headD 0)] 3 (0,0))::(b3,.cells #[.bool true] 4 (0,0))::l) rfl (l':=l) (by exact AS) (by exact A8) (by exact AS) ⟨by simp[Iw,hfd],rfl⟩
section
variable{ro:Option Nat}{N:Nat}{fr:Fr}{d:Option Nat}{ty:TypeId}{pos:String}{aft:Array Edge}{g:Option (Nat×Bool)}
end
theorem Fn.re{P:Program}{f:FuncId}{args:List Value}{l l2:List Ab}{K K':Value->List Ab->Prop}(k:Keep l l2)(h:Fn P f args l2 K)(hk: ∀v l',K v l'-> ∃l3,Keep l' l3/\K' v l3):Fn P f args l K':=
 ⟨λE W hs=>(h.run E W (k.sat hs)).mono λe W' he=>by obtain⟨v,l',h1,h2,h3⟩:=he;obtain⟨l3,h4,h5⟩:=hk v l' h2;exact⟨v,l3,h1,h5,h4.sat h3⟩⟩
theorem ug{vs:Nat->Value}{cs:Nat->List Ab}{b i:Nat}{F:List Ab}(hqs:QS X vs cs)(hp:p<8)(hi:i<(X p).length)(hlen:(X p).length<=1000000):
 Fn prog 200 [vs p,.int .i64 (i:Nat),.int .i64 ((i:Int)+1)] (qC b vs::(HK cs 8++F)) λv l'=> ∃c2,OwnSl 3 1 v ((X p).eraseIdx i).length (((X p).eraseIdx i).map CG) c2/\l'=qC b vs::(HK (upd cs p c2) 8++F):=by
 have hpm:(qC b vs::(HK cs 8++F)).Perm (cs p++(qC b vs::(HK (upd cs p []) 8++F))):=by refine(List.Perm.cons _ ((L8 cs p 8 hp).append_right F)).trans ?_;rw[Am];exact AA [qC b vs] (cs p) _
 refine Fn.re (Keep.of_perm hpm) (delete_any _ _ i hi _ _ (hqs.own p hp) hlen) ?_;rintro v _ ⟨c2,ho,rfl⟩;refine⟨_,Keep.of_perm ((AA c2 [qC b vs] _).trans ?_),c2,ho,rfl⟩;refine List.Perm.cons _ ?_;show List.Perm (c2++(HK (upd cs p []) 8++F)) _;rw[<-Am];exact(TQ cs p hp c2).append_right F
def dropQ(X:Nat->List Int)(id:Int):Bool×(Nat->List Int):=
 match findP X id with
 |some p=>(true,upd X p ((X p).eraseIdx ((X p).idxOf id)))
 |none=>(false,X)
def backQ(X:Nat->List Int)(id:Int):Bool×(Nat->List Int):=
 match findP X id with
 |some p=>(true,upd X p ((X p).eraseIdx ((X p).idxOf id)++[id]))
 |none=>(false,X)
theorem WH(h:findP X id=none):ff X id=(-1,-1):=by unfold ff;rw[h]
theorem WI(h:findP X id=some p):ff X id=(((p:Nat):Int),(((X p).idxOf id:Nat):Int)):=by unfold ff;rw[h]
theorem drop_any(b:Nat)(X:Nat->List Int)(lq:List Ab)(id:Int)(hq:IsQ b X lq)(hb: ∀p,p<8->(X p).length<=1000000)(F:List Ab):
 Fn prog 153 [.pointer (some ⟨b,0,none⟩),.int .i64 id] (lq++F) λv l'=>v= .bool (dropQ X id).1/\ ∃lq',IsQ b (dropQ X id).2 lq'/\l'=lq'++F:=by
 have H:=Jc b X lq id hq hb;obtain⟨vs,cs,hqs,rfl⟩:=hq;refine AM func153 ntmps153 λE=>?_;cases hf:findP X id with
 |none=>
  rw[WH hf] at H;dsimp only at H;have e:dropQ X id=(false,X):=by unfold dropQ;rw[hf]
  rw[e];simp only[Ae];refine gz ?_;refine Bb (AJ rfl rfl (λl2 hl=>H l2 λc hc=>hl c (Ah F hc))) ?_;refine gz ?_;exact A9 .refl ⟨rfl,_,⟨vs,cs,hqs,rfl⟩,rfl⟩
 |some p=>
  obtain⟨hp,hmem,hlt⟩:=RC X id p hf;rw[WI hf] at H;dsimp only at H;have e:dropQ X id=(true,upd X p ((X p).eraseIdx ((X p).idxOf id))):=by unfold dropQ;rw[hf]
  rw[e];obtain⟨i,hi⟩: ∃i,(X p).idxOf id=i:=⟨_,rfl⟩
  rw[hi] at hlt H⊢;have hbp:=hb p hp;have hg:=US vs p hp;obtain⟨v,hv⟩: ∃v,vs p=v:=⟨_,rfl⟩
  rw[hv] at hg;simp only[Ae];refine gz ?_;refine Bb (AJ rfl rfl (λl2 hl=>H l2 λc hc=>hl c (Ah F hc))) ?_;refine gz ?_;refine Ld [(0,true),(1,true),(2,true),(3,true),(4,true),(5,true),(6,true),(7,true),(8,true),(9,true),(10,true),(12,true),(13,true),(11,false),(14,true),(15,false)] [[],[],[],[],[2],[2,4],[2,3,4,5],[2,3,4,5,6],[],[],[9],[2,3,4,5,6,7,8,9,10],[0],[0,12],[0,1,2,3,4,5,6,7,8,9,10,11,12,13],[0,1,2,3,4,5,6,7,8,9,10,11,12,13,14]] ([]) Bs Bs Gt SY ?_;refine pz ?_;apply FM (S:=[qC b vs])
  ·exact DH rfl Ak hg
  ·intro c hc;cases hc with
   |head=>exact Ak
   |tail _ h=>cases h
  ·rfl
  ·rfl
  ·rfl
  refine pz ?_;apply GC
  ·exact Da rfl rfl (by rw[<-hv];exact ug hqs hp hlt hbp)
  ·rfl
  ·rfl
  ·rfl
  ·intro _ _ _ c hc;cases hc
  ·exact λ_ _ _ x hx ha=>C3 Bs hx ha
  rintro v' _ ⟨c2,ho,rfl⟩;have hv1:v'.oneCell'=true:=ho.one;refine pz ?_;apply GW
  ·exact Dg rfl rfl hv1 .here (by simp[hp])
  ·rfl
  ·rfl
  ·intro _ _ _ c hc;cases hc
  ·exact λ_ _ _ x hx ha=>C3 Bs hx ha
  rintro _ _ ⟨rfl,rfl⟩;rw[Yc vs p hp v'];refine pz ?_;refine gz ?_;refine A9 .refl ⟨rfl,_,⟨_,_,hqs.upd p _ v' c2 ho,rfl⟩,rfl⟩
theorem back_any(b:Nat)(X:Nat->List Int)(lq:List Ab)(id:Int)(hq:IsQ b X lq)(hb: ∀p,p<8->(X p).length<=1000000)(F:List Ab):
 Fn prog 303 [.pointer (some ⟨b,0,none⟩),.int .i64 id] (lq++F) λv l'=>v= .bool (backQ X id).1/\ ∃lq',IsQ b (backQ X id).2 lq'/\l'=lq'++F:=by
 have H:=Jc b X lq id hq hb;have HD:=drop_any b X lq id hq hb F;refine AM func303 ntmps303 λE=>?_;cases hf:findP X id with
 |none=>
  obtain⟨vs,cs,hqs,rfl⟩:=hq;rw[WH hf] at H;dsimp only at H;have e:backQ X id=(false,X):=by unfold backQ;rw[hf]
  rw[e];simp only[Ae];refine gz ?_;refine Bb (AJ rfl rfl (λl2 hl=>H l2 λc hc=>hl c (Ah F hc))) ?_;refine gz ?_;exact A9 .refl ⟨rfl,_,⟨vs,cs,hqs,rfl⟩,rfl⟩
 |some p=>
  obtain⟨hp,hmem,hlt⟩:=RC X id p hf;rw[WI hf] at H;dsimp only at H;have e:backQ X id=(true,upd X p ((X p).eraseIdx ((X p).idxOf id)++[id])):=by unfold backQ;rw[hf]
  rw[e];have e2:dropQ X id=(true,upd X p ((X p).eraseIdx ((X p).idxOf id))):=by unfold dropQ;rw[hf]
  rw[e2] at HD;obtain⟨i,hi⟩: ∃i,(X p).idxOf id=i:=⟨_,rfl⟩
  rw[hi] at hlt H HD⊢;have hbp:=hb p hp;refine gz ?_;refine Bb (AJ rfl rfl (λl2 hl=>H l2 λc hc=>hl c (Ah F hc))) ?_;refine gz ?_;refine AP (Da rfl rfl HD) ?_;rintro _ _ ⟨rfl,lq',⟨vs,cs,hqs,rfl⟩,rfl⟩;simp only[Ae];have hg:=US vs p hp;obtain⟨v,hv⟩: ∃v,vs p=v:=⟨_,rfl⟩
  rw[hv] at hg;have hl2:(upd X p ((X p).eraseIdx i) p).length<=1000000:=by rw[Du,FC];split<;>omega
  refine gz ?_;refine Ld [(0,true),(1,true),(2,true),(3,true),(4,true),(5,true),(6,true),(7,true),(8,true),(11,true),(12,true),(9,false),(10,false),(13,true),(14,false)] [[],[],[],[],[2],[2,4],[2,3,4,5],[2,3,4,5,6],[],[8],[2,3,4,5,6,7,8,9],[0],[0,11],[0,1,2,3,4,5,6,7,8,9,10,11,12],[0,1,2,3,4,5,6,7,8,9,10,11,12,13]] ([]) Bs Bs Gt SY ?_;refine pz ?_;apply FM (S:=[qC b vs])
  ·exact DH rfl Ak hg
  ·intro c hc;cases hc with
   |head=>exact Ak
   |tail _ h=>cases h
  ·rfl
  ·rfl
  ·rfl
  refine pz ?_;apply GC
  ·exact Kg rfl rfl
  ·rfl
  ·rfl
  ·rfl
  ·intro _ _ _ c hc;cases hc
  ·rintro _ _ ⟨bl,_,rfl,rfl⟩ x hx _ c hc;cases hx with
   |head=>cases hc with
    |head=>exact .tail _ (.head _)
    |tail _ h=>cases h
   |tail _ h=>cases h
  rintro _ _ ⟨bl,_,rfl,rfl⟩;refine pz ?_;apply GC
  ·exact gr hqs hp hl2 (by rw[hv];rfl) rfl
  ·rfl
  ·rfl
  ·rfl
  ·intro _ _ _ c hc;cases hc
  ·exact λ_ _ _ x hx ha=>C3 Bs hx ha
  rintro v' _ ⟨c2,ho,rfl⟩;have hv1:v'.oneCell'=true:=ho.one;refine pz ?_;apply GW
  ·exact Dg rfl rfl hv1 .here (by simp[hp])
  ·rfl
  ·rfl
  ·intro _ _ _ c hc;cases hc
  ·exact λ_ _ _ x hx ha=>C3 Bs hx ha
  rintro _ _ ⟨rfl,rfl⟩;rw[Yc vs p hp v'];refine pz ?_;refine gz ?_;have hu:=hqs.upd p _ v' c2 ho;dsimp only at hu;rw[Du,ZZ] at hu;refine A9 .refl ⟨rfl,_,⟨_,_,hu,rfl⟩,rfl⟩
end Qu
namespace Th
theorem drop_any(b:Nat)(L:TL)(lq:List Ab)(hq:IsX b L lq)(id:Int)(G:List Ab):
 Fn prog 368 [.pointer (some ⟨b,0,none⟩),.int .i64 id] (lq++G) λv l'=>v= .int .i64 (dropD L id).1/\ ∃lq',IsX b (dropD L id).2 lq'/\l'=lq'++G:=by
 have hq0:=hq;obtain⟨m,es,clock,rfl,hX⟩:=hq;refine AM func368 ntmps368 λE=>?_;simp only[Ae,Ag];refine gz ?_;rw[hX.look,hX.has];refine gz ?_;refine AP e_alloc ?_;rintro _ _ ⟨b5,_,rfl,rfl⟩;iterate 4 refine tL ?_
 cases hf:findH L id with
 |some t=>rw[show dropD L id=(0,L.filter λx=>decide (x.id≠id)) by unfold dropD;rw[hf];rfl];refine gz ?_;refine Mu (Rp (a:=id) (es:=es) (clock:=clock) rfl rfl (by exact DI)) rfl rfl ?_;rintro _ _ ⟨rfl,rfl⟩;refine gz ?_;exact A9 (.drop .refl) ⟨rfl,_,⟨m,_,_,rfl,hX.drop id⟩,rfl⟩
 |none=>rw[show dropD L id=(2,L) by unfold dropD;rw[hf];rfl];refine gz ?_;exact A9 (.drop .refl) ⟨rfl,_,hq0,rfl⟩
theorem server_any(b:Nat)(L:TL)(lq:List Ab)(hq:IsX b L lq)(hn:L.length<=900000)(id:Int)(l:List Ab)(hsub: ∀c,c∈lq->c∈l):
 Fn prog 261 [.pointer (some ⟨b,0,none⟩),.int .i64 id] l λv l'=>v= .int .i64 (serverD L id)/\l'=l:=by
 refine AM func261 ntmps261 λE=>?_;refine HC λb3=>?_;refine HC λb4=>?_;refine AP (Az rfl rfl (IL _ rfl _)) ?_;rintro _ _ ⟨B,rfl,rfl⟩;refine gz ?_;refine C0 (α:=ThT) (ps:=[8]) (lb:=[.pointer (some ⟨B,0,none⟩)]) rfl (Hn B b L lq hq hn) (λ_=>rfl) rfl
  (λpre l=>l=[xB B (.pointer (some ⟨b,0,none⟩)),F6 b4 0,F6 b3 id]/\ ∀x,x∈pre->¬(id≠0/\x.ca=id))
  (λc pre l=>c= .ret/\ ∃(pre':TL) (t:ThT),pre=pre'++[t]/\(∀x,x∈pre'->¬(id≠0/\x.ca=id))/\id≠0/\t.ca=id/\l=[F6 b4 t.id])
  _ l (λpre l2 X2 hX h=>⟨by rw[h.1];exact List.Mem.head _,λc hc=>Aa _ (hX _ (hsub _ hc))⟩) (by exact AS) ⟨rfl,by simp⟩ ?_ ?_ ?_
 ·rintro E r0 rec pre y l' T ⟨fn,tmps,D,rfl⟩ hT ⟨rfl,hpre⟩ hsp;simp only[DG,Ae,Ag];refine HC λb5=>?_;refine Cy (by exact DI) ?_;by_cases h0:id=0
  ·refine gz ?_;refine B0 _ (.drop .refl) ⟨rfl,λx hx=>λh=>h.1 h0⟩
  by_cases hy:y.ca=id
  ·refine gz ?_;refine Eg [F6 b4 y.id] (by exact AS) ⟨rfl,pre,y,rfl,hpre,h0,hy,rfl⟩
  ·refine gz ?_;refine B0 _ (.drop .refl) ⟨rfl,λx hx=>?_⟩;rcases AE.1 hx with hx|hx
   ·exact hpre x hx
   ·rw[Ax.1 hx];exact λh=>hy h.2
 ·rintro D xs l' rfl ⟨rfl,hpre⟩;rw[cL hpre];simp only[Ae,Ag];refine gz ?_;exact AW [D] (F6 b4 0::l) rfl (l':=l) (by exact AS) (by exact A8) (.drop .refl) ⟨rfl,rfl⟩
 ·rintro D c pre l' hsp ⟨rfl,pre',t,rfl,hp',h0,ht,rfl⟩;rw[ij hsp h0 (λx hx h=>hp' x hx ⟨h0,h⟩) ht];simp only[Ae,Ag];refine gz ?_;exact AW [D] (F6 b4 t.id::l) rfl (l':=l) (by exact AS) (by exact A8) (.drop .refl) ⟨rfl,rfl⟩
end Th
namespace As
theorem iv(rb:Nat)(x r q:Int)(l:List Ab)(hx:(rb,Obj.cells #[.int .i64 x] 3 (0,0))∈l):Fn prog 393 [.int .i64 r,.int .i64 q,.pointer (some ⟨rb,0,none⟩)] l λv l'=>v= .bool (Id x r q)/\l'=l:=by refine AM func393 ntmps393 λE=>?_;exact EA
theorem pf(rb:Nat)(x r q:Int)(l:List Ab)(hx:(rb,Obj.cells #[.int .i64 x] 3 (0,0))∈l):Fn prog 394 [.int .i64 r,.int .i64 q,.pointer (some ⟨rb,0,none⟩)] l λv l'=>v= .bool (Wl x r q)/\l'=l:=by refine AM func394 ntmps394 λE=>?_;exact EA
theorem root_any(b:Nat)(s:ASt)(r:Int)(l:List Ab)(hA:asA b s∈l):Fn prog 390 [.pointer (some ⟨b,0,none⟩),.int .i64 r] l λv l'=>v= .tuple #[.int .i64 (rootP s r).1,.int .i64 (rootP s r).2.1,.bool (rootP s r).2.2]/\l'=l:=by
 refine AM func390 ntmps390 λE=>?_;refine HC λrb=>?_;cases hf:Kk s (Wl r) with
 |none=>refine Bb (AJ rfl rfl (λl hl=>NP b rb _ s r (Wl r) hf l (hl _ (by exact BS)) (hl _ (by exact BS)) (λr' q l h=>pf rb r r' q l h))) ?_;refine HC λb7=>?_;exact AW [] l rfl (l':=l) (by exact AS) (by exact A8) .refl ⟨by simp[Iw,rootP,hf],rfl⟩
 |some n=>have hlt:=(RF s _ n hf).1;have qs:=s.c_root (n/4) (n%4) Af Af;rw[show 4*(n/4)+n%4=n by omega] at qs;refine Bb (AJ rfl rfl (λl hl=>NO b rb _ s r (Wl r) n hf l (hl _ (by exact BS)) (hl _ (by exact BS)) (λr' q l h=>pf rb r r' q l h))) ?_;refine HC λb7=>?_;refine Ch [] 16 _ ?_ (hR:=(λ_ h=>h));refine pz ?_;refine gz ?_;exact AW [] l rfl (l':=l) (by exact AS) (by exact A8) .refl ⟨by simp[Iw,rootP,hf],rfl⟩
theorem unassign_any(b:Nat)(s:ASt)(r:Int)(F:List Ab):
 Fn prog 386 [.pointer (some ⟨b,0,none⟩),.int .i64 r] (asA b s::F) λv l'=>v= .tuple #[.int .i64 (unP s r).1,.int .i64 (unP s r).2.1]/\l'=asA b (unP s r).2.2::F:=by
 refine AM func386 ntmps386 λE=>?_;refine HC λrb=>?_;cases hf:Kk s (Id r) with
 |none=>refine Bb (AJ rfl rfl (λl hl=>NP b rb _ s r (Id r) hf l (hl _ (by exact BS)) (hl _ (by exact BS)) (λr' q l h=>iv rb r r' q l h))) ?_;refine HC λb7=>?_;exact AW [] (asA b s::F) rfl (l':=asA b s::F) (by exact AS) (by exact A8) .refl ⟨by simp[Iw,unP,hf],by simp[unP,hf]⟩
 |some n=>
  have hlt:=(RF s _ n hf).1;have e1:=s.s_root (n/4) (n%4) Af Af 0;rw[show 4*(n/4)+n%4=n by omega] at e1;have e2:=({s with root:=upd s.root n 0}:ASt).s_ser (n/4) (n%4) Af Af 0;rw[show 4*(n/4)+n%4=n by omega] at e2;refine Bb (AJ rfl rfl (λl hl=>NO b rb _ s r (Id r) n hf l (hl _ (by exact BS)) (hl _ (by exact BS)) (λr' q l h=>iv rb r r' q l h))) ?_;refine HC λb7=>?_;refine Ld [(0,true),(1,true),(2,true),(3,true),(4,true),(5,true),(6,true),(7,true),(8,true),(9,true),(10,true),(11,true),(12,true),(13,true),(14,true),(16,true),(17,true),(18,true),(19,true),(15,false),(20,true),(21,false)] [[],[],[1],[],[3],[],[],[6],[],[8],[0],[0,10],[0,1,2,10,11],[0,1,2,10,11,12],[0,1,2,3,4,10,11,12,13],[0,1,2,3,4,10,11,12,13,14],[5],[5,16],[5,6,7,16,17],[5,6,7,16,17,18],[0,1,2,3,4,5,6,7,8,9,10,11,12,13,14,15,16,17,18,19],[0,1,2,3,4,5,6,7,8,9,10,11,12,13,14,15,16,17,18,19,20]] ([(b7,.cells #[.int .i64 (n:Nat),.int .i64 ((n/4:Nat):Int),.int .i64 ((n%4:Nat):Int)] 361 (0,0))]) Bs Bs Gt SY ?_;refine pz ?_;apply M2
  ·exact Dg (cs:=s.cells) rfl rfl rfl (by exact DI) (by rw[s.cells_size];omega)
  ·rfl
  ·rfl
  ·rintro _ _ ⟨rfl,rfl⟩;exact(BZ (by exact Ly))
  rintro _ _ ⟨rfl,rfl⟩;rw[e1];refine pz ?_;apply M2
  ·exact Dg (cs:=({s with root:=upd s.root n 0}:ASt).cells) rfl rfl rfl (by exact DI) (by rw[ASt.cells_size];omega)
  ·rfl
  ·rfl
  ·rintro _ _ ⟨rfl,rfl⟩;exact(BZ (by exact Ly))
  rintro _ _ ⟨rfl,rfl⟩;rw[e2];refine pz ?_;refine gz ?_;exact AW [] (asA b (s.give0 n)::F) rfl (l':=asA b (s.give0 n)::F) (by exact AS) (by exact A8) .refl ⟨by simp[Iw,unP,hf],by simp[unP,hf]⟩
def qI(s:ASt)(p:Nat)(i:Fin 4):Bool:=decide (s.root (4*p+i.val)≠0)
def uh(p:Nat)(i:Fin 4):Value:= .int .i64 ((4*p+i.val:Nat):Int)
def dropL(s:ASt)(p:Nat)(pre:List (Fin 4)):List Value:=(pre.filter (qI s p)).map (uh p)
def dropP(s:ASt)(o:Int):List Value×Int×ASt:=
 match atO s o with
 |none=>([],2,s)
 |some p=>(dropL s p (Qn p),0,s.drop p)
theorem nums_len(p:Nat):(Qn p).length<=4:=by have:(Qn p).length<=(List.range 4).length:=List.length_filterMap_le _ _;simpa using this
theorem dropL_len(s:ASt)(p:Nat)(pre:List (Fin 4)):(dropL s p pre).length<=pre.length:=by unfold dropL;rw[A3];exact CU _ _
theorem iw(s:ASt)(p:Nat)(pre:List (Fin 4))(i:Fin 4)(h:s.root (4*p+i.val)≠0):dropL s p (pre++[i])=dropL s p pre++[uh p i]:=by simp[dropL,qI,h]
theorem cX(s:ASt)(p:Nat)(pre:List (Fin 4))(i:Fin 4)(h:s.root (4*p+i.val)=0):dropL s p (pre++[i])=dropL s p pre:=by simp[dropL,qI,h]
theorem dropPool_any(b:Nat)(s:ASt)(o:Int)(F:List Ab):
 Fn prog 387 [.pointer (some ⟨b,0,none⟩),.int .i64 o] (asA b s::F) λv l'=> ∃sl cs,v= .tuple #[sl,.int .i64 (dropP s o).2.1]/\OwnSl 3 1 sl (dropP s o).1.length (dropP s o).1 cs/\l'=asA b (dropP s o).2.2::(cs++F):=by
 refine AM func387 ntmps387 λE=>?_;refine HC λb2=>?_;cases hq:atO s o with
 |none=>refine Bb (AJ rfl rfl (λl hl=>NQ b s o (-1) (by simp[UP,hq]) l (hl _ (by exact BS)))) ?_;refine HC λb6=>?_;refine AW [] (asA b s::F) rfl (l':=asA b s::F) (by exact AS) (by exact A8) (by exact AS) ⟨_,[],by simp only[Iw,dropP,hq];rfl,by simp only[dropP,hq];exact OwnSl.nil _ _,by simp[dropP,hq]⟩
 |some p=>
  have hp:=gE s o p hq;refine Bb (AJ rfl rfl (λl hl=>NQ b s o p (by simp[UP,hq]) l (hl _ (by exact BS)))) ?_;refine HC λb6=>?_;refine HC λb7=>?_;refine AP (Az rfl rfl (Nh p _)) ?_;rintro v l' ⟨B,hB,rfl,rfl⟩;refine gz ?_;refine C0 (α:=Fin 4) (ps:=[21,22]) (lb:=[.pointer (some ⟨B,0,none⟩)]) rfl (Le B p hp) (λ_=>rfl) rfl
   (λpre l=> ∃v cs,OwnSl 3 1 v (dropL s p pre).length (dropL s p pre) cs/\l=[(B,.cells #[.int .i64 (p:Nat)] 3 (0,0)),(b6,.cells #[.int .i64 (p:Nat)] 3 (0,0)),(b2,.cells #[.pointer (some ⟨b,0,none⟩)] 158 (0,0)),(b7,.cells #[v] 40 (0,0)),asA b s]++cs)
   (λc pre l=>False)
   _ F (λpre l X _ h=>by obtain⟨v,cs,_,rfl⟩:=h;exact List.Mem.head _) (by exact AS) ⟨_,[],OwnSl.nil _ _,rfl⟩ ?_ ?_ ?_
  ·rintro E r0 rec pre y l' T ⟨fn,tmps,D,rfl⟩ hT ⟨v,cs,hown,rfl⟩ hsp;have hy4:=y.isLt;have qr:=s.c_root p y.val hp hy4;simp only[DG,Ae,Ag];refine gz ?_;refine Cy (.there (.there (.there (.there (.there (Fg _ _ _ _ _)))))) ?_;refine gz ?_;refine Ch [] 10 _ ?_ (hR:=(λ_ h=>h));refine pz ?_;by_cases hr:s.root (4*p+y.val)=0
   ·refine gz ?_;refine B0 _ (.refl) ⟨v,cs,?_,rfl⟩;rw[cX s p pre y hr];exact hown
   ·refine gz ?_;refine AP (Kg rfl rfl) ?_;rintro _ _ ⟨bl,_,rfl,rfl⟩;refine Bk (Keep.of_perm (AA [(bl,.cells (toArray [.int .i64 ((4*p+y.val:Nat):Int)]) 3 (0,0)),(B,.cells #[.int .i64 (p:Nat)] 3 (0,0)),(b6,.cells #[.int .i64 (p:Nat)] 3 (0,0)),(b2,.cells #[.pointer (some ⟨b,0,none⟩)] 158 (0,0)),(b7,.cells #[v] 40 (0,0)),asA b s] cs _)) ?_;have hlen:(dropL s p pre).length<=4:=BP (dropL_len s p pre) (by have h1:=List.IsPrefix.length_le hsp;have h2:=nums_len p;simp at h1;omega);apply fe
    ·apply F4 (xs:=dropL s p pre) (news:=[.int .i64 ((4*p+y.val:Nat):Int)]) (zs:=[.int .i64 0])
     ·rfl
     ·rfl
     ·rfl
     ·exact hown
     ·exact Aa _ Ak
     ·intro j u hj;simpa using hj
     ·rfl
     ·simp[Value.oneCell']
     ·unfold maxLen;omega
     ·omega
    ·rfl
    ·rfl
    ·rfl
    rintro v' _ ⟨cs',hown',rfl⟩;have hv1:v'.oneCell'=true:=hown'.one;refine Bk (Keep.of_perm (AA cs' [(bl,.cells (toArray [.int .i64 ((4*p+y.val:Nat):Int)]) 3 (0,0)),(B,.cells #[.int .i64 (p:Nat)] 3 (0,0)),(b6,.cells #[.int .i64 (p:Nat)] 3 (0,0)),(b2,.cells #[.pointer (some ⟨b,0,none⟩)] 158 (0,0)),(b7,.cells #[v] 40 (0,0)),asA b s] _)) ?_;simp only[Ae,Ag];refine gz ?_;refine B0 _ (.drop .refl) ⟨v',cs',?_,rfl⟩;rw[iw s p pre y hr,Ai];exact hown'
  ·rintro D xs l' rfl ⟨v,cs,hown,rfl⟩;simp only[Ae,Ag];refine gz ?_;refine Ch [6] 7 ([(b6,.cells #[.int .i64 (p:Nat)] 3 (0,0)),(b2,.cells #[.pointer (some ⟨b,0,none⟩)] 158 (0,0))]) ?_;refine pz ?_;apply M2
   ·apply Et (cs:=s.cells)
    ·rfl
    ·rfl
    ·rfl
    ·simp[Value.oneCell']
    ·exact DI
    ·rw[s.cells_size];omega
   ·rfl
   ·rfl
   ·rintro _ _ ⟨rfl,rfl⟩;exact(BZ (by exact Ly))
   rintro _ _ ⟨rfl,rfl⟩;rw[DW,s.s_drop p hp];refine pz ?_;refine gz ?_;refine AW [D] (asA b (s.drop p)::(cs++F)) rfl (l':=asA b (s.drop p)::(cs++F)) (by exact AS) (by exact A8) .refl ⟨v,cs,by simp[Iw,dropP,hq],by simp only[dropP,hq];exact hown,by simp[dropP,hq]⟩
  ·rintro D c pre l' hsp h;exact h.elim
end As
abbrev Kr(x:Int):Prop:=0<=x/\x<18446744073709551616
abbrev Ba(x:Int):Value:= .int .u64 x
abbrev Se(gb:Nat)(W:List Int):Ab:=(gb,.cells (toArray (W.map Ba)) 255 (0,0))
def ui(b F:Nat)(W:List Int)(lq:List Ab):Prop:= ∃gb,1<=F/\F<=64/\W.length=F*8/\(∀w,w∈W->Kr w)/\lq=[Oj b gb F,Se gb W]
theorem LI:Kr 0:=⟨by decide,by decide⟩
class TW(t:Th.ThT):Prop where
 out:Kr t.va/\Kr t.vl
structure KT where
 A:Ar.ArT
 H:HS
 N:As.ASt
 T:Th.TL
 Q:Nat->List Int
 E:En.DE
 W:List Int
 K:List Ic
 U:List Int
variable{S S':KT}
class IsK(F C k:outParam Nat)(S:KT)(p:RP)(s:RL):Prop where
 mem:ui p.m F S.W s.M
 co:IsCos p.c S.K s.C
 kl:S.K.length=C
 ar:Ar.IsA p.a S.A s.A
 an:S.A.n=F
 rad:mO S.A
 ho:IsH p.h S.H s.H
 inv: ∃m,m+k<=900/\InvH S.H m
 giv: ∀n,n<32->0<=S.N.given n/\S.N.given n+k<=900
 th:Th.IsX p.t S.T s.T
 tl:S.T.length+k<=900
 tw: ∀t,t∈S.T->TW t/\Th.mayH t=true
 qu:Qu.IsQ p.q S.Q s.Q
 ql: ∀n,n<8->(S.Q n).length+k<=900
 en:En.IsE p.e S.E s.E
 el: ∀x,x∈S.E->x.2.1.length+k<=900
 eo: ∀t,En.OneAt S.E t
 ul:S.U.length=C
 cu:OwnSl 3 1 p.v C (S.U.map CG) s.V
 c1:1<=C/\C<=3
def Aw(b:Nat)(p:RP)(s:RL)(S:KT)(G:List Ab):List Ab:=Cw b p::As.asA p.n S.N::(s.M++(s.C++(s.A++(s.H++(s.T++(s.Q++(s.E++(s.V++G))))))))
theorem IsK.mono(h:IsK F C k S p s)(hm:m<=k):IsK F C m S p s:=
 {h with inv:=let⟨n,h1,h2⟩:=h.inv;⟨n,Af,h2⟩,giv:=λn hn=>by have:=h.giv n hn;omega,tl:=by have:=h.tl;omega,ql:=λn hn=>by have:=h.ql n hn;omega,el:=λx hx=>by have:=h.el x hx;omega}
def Tail(L G:List Ab):Prop:= ∃X,L=X++G
theorem Tail.nil:Tail G G:=⟨[],rfl⟩
theorem Tail.step(X:List Ab)(h:Tail L G):Tail (X++L) G:=by obtain⟨Y,rfl⟩:=h;exact⟨X++Y,by simp⟩
theorem Tail.cons{c:Ab}(h:Tail L G):Tail (c::L) G:=h.step [c]
theorem Tail.trans{M:List Ab}(h:Tail L M)(h2:Tail M G):Tail L G:=by obtain⟨Y,rfl⟩:=h;exact h2.step Y
inductive Fr1(l0:List Ab):List Ab->(List Ab->List Ab)->Prop
 |nil:Fr1 l0 l0 λx=>x
 |cons {c:Ab} {l:List Ab} {Γ:List Ab->List Ab}:Fr1 l0 l Γ->Fr1 l0 (c::l) λx=>c::Γ x
theorem Fr1.eq{l:List Ab}(h:Fr1 l0 l Γ): ∃A,l=A++l0/\ ∀x,Γ x=A++x:=by
 induction h with
 |nil=>exact⟨[],rfl,λ_=>rfl⟩
 |cons _ ih=>obtain⟨A,h1,h2⟩:=ih;exact⟨_::A,by rw[h1];rfl,λx=>BN _ (h2 x)⟩
def KK(F C b:Nat)(p:RP)(k:Nat)(x:Value)(S:KT)(G:List Ab):Value->List Ab->Prop:=λv l'=>v=x/\ ∃s L,IsK F C k S p s/\Tail L G/\l'=Aw b p s S L
class EK(P:Program)(F C b:Nat)(p:RP)(f:Nat)(vs:List Value)(k:Nat)(S:KT)(k':outParam Nat)(x:outParam Value)(S':outParam KT):Prop where
 out: ∀s G,IsK F C k S p s->Fn P f vs (Aw b p s S G) (KK F C b p k' x S' G)
theorem ET(b:Nat)(p:RP)(s:RL)(S:KT)(A G:List Ab):(A++Aw b p s S G).Perm (Aw b p s S (A++G)):=by unfold Aw;exact BR
theorem Sf(b:Nat)(p:RP)(s:RL)(S:KT)(X A G:List Ab):(Aw b p s S (X++(A++G))).Perm (A++Aw b p s S (X++G)):=by unfold Aw;exact BR
section
variable{l:List Ab}
theorem mG(h: ∀c,c∈Aw b p s S G->c∈l): ∀c,c∈G->c∈l:=λc hc=>h c (by unfold Aw;simp[hc])
theorem mR(h: ∀c,c∈Aw b p s S G->c∈l):Cw b p∈l:=h _ (.head _)
theorem mN(h: ∀c,c∈Aw b p s S G->c∈l):As.asA p.n S.N∈l:=h _ (.tail _ (.head _))
theorem mM(h: ∀c,c∈Aw b p s S G->c∈l): ∀c,c∈s.M->c∈l:=λc hc=>h c (by unfold Aw;simp[hc])
theorem mC(h: ∀c,c∈Aw b p s S G->c∈l): ∀c,c∈s.C->c∈l:=λc hc=>h c (by unfold Aw;simp[hc])
theorem mA(h: ∀c,c∈Aw b p s S G->c∈l): ∀c,c∈s.A->c∈l:=λc hc=>h c (by unfold Aw;simp[hc])
theorem mH(h: ∀c,c∈Aw b p s S G->c∈l): ∀c,c∈s.H->c∈l:=λc hc=>h c (by unfold Aw;simp[hc])
theorem mT(h: ∀c,c∈Aw b p s S G->c∈l): ∀c,c∈s.T->c∈l:=λc hc=>h c (by unfold Aw;simp[hc])
theorem mQ(h: ∀c,c∈Aw b p s S G->c∈l): ∀c,c∈s.Q->c∈l:=λc hc=>h c (by unfold Aw;simp[hc])
theorem mE(h: ∀c,c∈Aw b p s S G->c∈l): ∀c,c∈s.E->c∈l:=λc hc=>h c (by unfold Aw;simp[hc])
theorem mV(h: ∀c,c∈Aw b p s S G->c∈l): ∀c,c∈s.V->c∈l:=λc hc=>h c (by unfold Aw;simp[hc])
end
theorem Z9{l:List Ab}(h:Fr1 l0 l Γ:=by(repeat(first|exact .nil|apply Fr1.cons))):Fr1 l0 l Γ:=h
theorem vS(h:Tail L G:=by(repeat(first|assumption|exact Tail.nil|apply Tail.cons|(refine Tail.trans (by assumption) ?_)))):Tail L G:=h
theorem xW(h:S=S':=by first|rfl|(subst_vars;rfl)|(subst_vars;simp[*];done)|(simp_all;done)):S=S':=h
section
variable{P:Program}{ro:Option Nat}{N:Nat}{E:World}{ops:Array Oper}{Q:Exit->Act->World->Prop}{rest:List Oper}{fr:Fr}{ds:List Deferred}{l:List Ab}{x0:Value}{d:Nat}{x:Operand}{xs:List Operand}{at_:Array TypeId}{ty:TypeId}{pos:String}{aft:Array Edge}{g:Option (Nat×Bool)}
theorem EK.on(q:EK P F C b p f vs k S k' x0 S')(hK:IsK F C k S p s)(hF:Fr1 (Aw b p s S G) l Γ):Fn P f vs l λv l'=>v=x0/\ ∃s' L,IsK F C k' S' p s'/\Tail L G/\l'=Γ (Aw b p s' S' L):=by
 obtain⟨A,rfl,hA⟩:=hF.eq;refine Fn.re (.of_perm (ET b p s S A G)) (q.out s (A++G) hK) λv l' ⟨h1,s',L,h2,⟨X,h3⟩,h4⟩=>⟨Γ (Aw b p s' S' (X++G)),?_,h1,s',_,h2,⟨X,rfl⟩,rfl⟩
 rw[h4,h3,hA];exact .of_perm (Sf ..)
theorem FI(hk: ∀S1 s' L,S1=S'->IsK F C k' S1 p s'->Tail L G->Cw b p∈Aw b p s' S1 L->Dk P ro N E ops Q rest ((d,x0)::fr) ds (Γ (Aw b p s' S1 L)))(hx:ev fr x=some (.func (.func f) #[] #[]):=by rfl)(hy:Qm fr xs=some vs:=by rfl)(hF:Fr1 (Aw b p s S G) l Γ:=by exact Z9)(c:EN P f:=by infer_instance)(hK:IsK F C k S p s:=by infer_instance)(q:EK P F C b p f vs k S k' x0 S':=by infer_instance)(hw:P6 ops fr g=some true:=by rfl)(hb:Nat.blt d N=true:=by rfl):Dk P ro N E ops Q (⟨some d,.call {callee:= .value x,args:=xs.toArray,argTypes:=at_},ty,pos,aft,g⟩::rest) fr ds l:=
 Ia (Az hx hy (q.on hK hF)) hw rfl hb λv l' ⟨h1,s',L,h2,h3,h4⟩=>by rw[h1,h4];exact hk S' s' L rfl h2 h3 (mR λ_ h=>h)
variable{tbl:List (List Nat)}{sp:Fj}{pl:List BF}{i:Nat}{gg:Bool}
theorem LN(hk: ∀S1 s' L,S1=S'->IsK F C k' S1 p s'->Tail L G->Cw b p∈Aw b p s' S1 L->MP P ro N E ops Q tbl false sp pl ((d,x0)::fr) ds (Γ (Aw b p s' S1 L)))(hx:ev fr x=some (.func (.func f) #[] #[]):=by rfl)(hy:Qm fr xs=some vs:=by rfl)(hF:Fr1 (Aw b p s S G) l Γ:=by exact Z9)(c:EN P f:=by infer_instance)(hK:IsK F C k S p s:=by infer_instance)(q:EK P F C b p f vs k S k' x0 S':=by infer_instance)(hb:Nat.blt d N=true:=by rfl)(ha:(sp.map Prod.fst).all (λq=>Fl tbl i q)=true:=by kernel_rfl):MP P ro N E ops Q tbl gg sp ((i,false,⟨some d,.call {callee:= .value x,args:=xs.toArray,argTypes:=at_},ty,pos,aft,none⟩)::pl) fr ds l:=
 JS (Az hx hy (q.on hK hF)) (λv l' ⟨h1,s',L,h2,h3,h4⟩=>by rw[h1,h4];exact hk S' s' L rfl h2 h3 (mR λ_ h=>h)) rfl rfl hb ha
theorem A5{fn:Func}{rs:List ResultVar}{S1:KT}{k1:Nat}{y:Value}(hr:fn.results=rs.toArray:=by rfl)(h:ResS P fr l rs vs:=by exact A8)(hF:Fr1 (Aw b p s S1 L) l Γ:=by exact Z9)(hK:IsK F C k1 S1 p s:=by infer_instance)(ht:Tail L G:=by exact vS)(hx:Iw vs=y:=by exact xT)(hk:k<=k1:=by omega)(hS:S1=S:=by exact xW):CO N E (bodyPostM Fence.wide 0 P fn (RK E (KK F C b p k y S G))) .ret fr [] l:=by subst hS hx;obtain⟨A,rfl,_⟩:=hF.eq;exact AW [] _ hr .refl h (Keep.dropL' A .refl) ⟨rfl,s,L,hK.mono hk,ht,rfl⟩
end
def Nt(W:List Int)(a:Int):Int:=if ¬a%8=0 then 4 else if a>=(W.length:Int)*8 then 3 else 0
def NZ(W:List Int)(a:Int):Int×Int:=if Nt W a=0 then(W.getD (a/8).toNat 0,0) else(0,Nt W a)
def cY(W:List Int)(a v:Int):Int×List Int:=if Nt W a=0 then(0,W.set (a/8).toNat v) else(Nt W a,W)
abbrev nF(W:List Int):Int:=(W.length/8:Nat)
def mU(W:List Int)(f n:Int):Int×List Int:=if f<0\/f>=nF W\/n<0\/n>nF W-f then(3,W) else(0,W.take (8*f.toNat)++(List.replicate (8*n.toNat) 0++W.drop (8*(f.toNat+n.toNat))))
structure SZ where
 vd:Bool
 lf:Bool
 rd:Bool
 wr:Bool
 fr:Int
deriving DecidableEq
abbrev Sg(e:SZ):List Value:=[.bool e.vd,.bool e.lf,.bool e.rd,.bool e.wr,.int .i64 e.fr]
abbrev YB:SZ:=⟨false,false,false,false,0⟩
def Tj(e:SZ):Bool:=if e.vd=false then decide (e=YB) else if e.fr<0\/e.fr>=64 then false else e.lf==(e.rd||e.wr)
def Pi(e:SZ):Int×Int:=if Tj e=true then((e.vd.toNat+2*e.lf.toNat+4*e.rd.toNat+8*e.wr.toNat:Nat)+256*e.fr,0) else(0,5)
def cZ(n:Nat):SZ:=⟨n.testBit 0,n.testBit 1,n.testBit 2,n.testBit 3,(n/256%64:Nat)⟩
def Ks(w:Int):SZ×Int:=if w.toNat/16%16=0/\w.toNat/16384=0/\Tj (cZ w.toNat)=true then(cZ w.toNat,0) else(YB,5)
def G8(W:List Int)(a:Int)(leaf:Bool):SZ×Int:=
 if ¬(NZ W a).2=0 then(YB,5) else if ¬(Ks (NZ W a).1).2=0 then(YB,5)
 else if(Ks (NZ W a).1).1.vd=false then(YB,6) else if ¬(Ks (NZ W a).1).1.lf=leaf\/(Ks (NZ W a).1).1.fr>=nF W then(YB,5) else((Ks (NZ W a).1).1,0)
def mW(page level:Int):Int:=if page<0\/page>=512\/level<1\/level>3 then-1 else if level=1 then page/64%8 else if level=2 then page/8%8 else page%8
abbrev FP(f page level:Int):Int:=f*64+8*mW page level
def Mi(W:List Int)(root page:Int):List (Int×Int×Int):=
 (1,FP root page 1,0)::
 if ¬(G8 W (FP root page 1) false).2=0 then[(2,0,(G8 W (FP root page 1) false).2)] else
 (2,FP (G8 W (FP root page 1) false).1.fr page 2,0)::
 if ¬(G8 W (FP (G8 W (FP root page 1) false).1.fr page 2) false).2=0 then[(3,0,(G8 W (FP (G8 W (FP root page 1) false).1.fr page 2) false).2)] else
 [(3,FP (G8 W (FP (G8 W (FP root page 1) false).1.fr page 2) false).1.fr page 3,0)]
def Sh(W:List Int)(root page level:Int):Int:=if root<0\/root>=nF W\/page<0\/page>=512\/level<1\/level>3 then 3 else 0
def PA(W:List Int)(root page level:Int):Int×Int:=
 if Sh W root page level≠0 then(0,3) else
 match(Mi W root page).find? λx=>decide (x.1=level)||!decide (x.2.2=0) with
 |some x=>x.2
 |none=>(0,0)
def Nu(W:List Int)(root page:Int):SZ×Int:=if ¬(PA W root page 3).2=0 then(YB,(PA W root page 3).2) else G8 W (PA W root page 3).1 true
def Lg(T:KA):List Nat:=(List.range 8).filter λk=>!decide ((T.w k).sp=0)
def Si(T:KA)(sp pg:Int):Lm×Bool:=match(Lg T).find? λk=>decide ((T.w k).sp=sp)&&decide ((T.w k).pg=pg) with
 |some k=>(T.w k,true)
 |none=>(Pz,false)
def Pj(T:KA)(k:Nat)(x:Lm):KA:={T with w:=Qu.upd T.w k x}
def Tk(x:Lm):Prop:=x.sp<1\/x.pg<0\/x.pg>=512\/x.fr<0\/x.fr>=64\/(x.rd=false/\x.wr=false)
instance(x:Lm):Decidable (Tk x):=by unfold Tk;exact inferInstance
def YC(T:KA)(x:Lm):Option Nat:=
 let s:=(x.pg%4).toNat
 if(T.w (2*s)).sp=x.sp/\(T.w (2*s)).pg=x.pg then some (2*s) else if(T.w (2*s+1)).sp=x.sp/\(T.w (2*s+1)).pg=x.pg then some (2*s+1)
 else if(T.w (2*s)).sp=0 then some (2*s) else if(T.w (2*s+1)).sp=0 then some (2*s+1) else none
def JM(T:KA)(x:Lm):Int×KA:=if Tk x then(2,T) else match YC T x with
 |some k=>(0,Pj T k x)
 |none=>(0,{w:=Qu.upd T.w (2*(x.pg%4).toNat+(T.d (x.pg%4).toNat).toNat) x,d:=Qu.upd T.d (x.pg%4).toNat ((T.d (x.pg%4).toNat+1)%2)})
def Mj(T:KA)(st wy:Int):Bool×KA:=if st<0\/st>=4\/wy<0\/wy>=2 then(false,T) else(!decide ((T.w (2*st.toNat+wy.toNat)).sp=0),Pj T (2*st.toNat+wy.toNat) Pz)
def mY(T:KA)(f:Lm->Bool)(k:Nat):Bool:=decide (k<8)&&!decide ((T.w k).sp=0)&&f (T.w k)
def On(T:KA)(f:Lm->Bool):KA:={T with w:=λk=>if mY T f k=true then Pz else T.w k}
def Mx(T:KA)(f:Lm->Bool):Nat:=((List.range 8).filter (mY T f)).length
abbrev JI(sp pg:Int):Lm->Bool:=λx=>decide (x.sp=sp)&&decide (x.pg=pg)
abbrev PB(sp:Int):Lm->Bool:=λx=>decide (x.sp=sp)
abbrev Mk(K:List Ic)(n:Int):Int:=if n<0\/n>=K.length then 3 else 0
def kR:Ic:=⟨0,0,⟨λ_=>Pz,λ_=>0⟩⟩
abbrev PC(K:List Ic)(n:Int):Ic:=K.getD n.toNat kR
def K5(root sp:Int):Prop:=(root= -1/\sp=0)\/(0<=root/\root<64/\1<=sp)
instance(root sp:Int):Decidable (K5 root sp):=by unfold K5;exact inferInstance
def setC(K:List Ic)(n root sp:Int):Int×List Ic:=if ¬Mk K n=0 then(3,K) else if ¬K5 root sp then(2,K) else(0,K.set n.toNat {PC K n with ro:=root,sp:=sp})
def Oo(K:List Ic)(n:Int):Int×Int×Int:=if ¬Mk K n=0 then(0,0,3) else((PC K n).ro,(PC K n).sp,0)
def vT(W:List Int)(c:Ic)(pg:Int):Lm:=⟨c.sp,pg,(Nu W c.ro pg).1.fr,(Nu W c.ro pg).1.rd,(Nu W c.ro pg).1.wr⟩
def DA(K:List Ic)(W:List Int)(n pg:Int):(Lm×Bool×Int)×List Ic:=
 if ¬Mk K n=0 then((Pz,false,3),K) else if pg<0\/pg>=512 then((Pz,false,3),K) else if(PC K n).ro<0 then((Pz,false,19),K)
 else if(Si (PC K n).tb (PC K n).sp pg).2=true then(((Si (PC K n).tb (PC K n).sp pg).1,true,0),K)
 else if ¬(Nu W (PC K n).ro pg).2=0 then((Pz,false,(Nu W (PC K n).ro pg).2),K)
 else((vT W (PC K n) pg,false,0),K.set n.toNat {PC K n with tb:=(JM (PC K n).tb (vT W (PC K n) pg)).2})
def iy(K:List Ic)(n st wy:Int):Bool×List Ic:=if ¬Mk K n=0 then(false,K) else((Mj (PC K n).tb st wy).1,K.set n.toNat {PC K n with tb:=(Mj (PC K n).tb st wy).2})
def If(K:List Ic)(f:Lm->Bool):List Ic:=K.map λc=>{c with tb:=On c.tb f}
def PS(K:List Ic)(f:Lm->Bool):Nat:=(K.map λc=>Mx c.tb f).sum
namespace Ar
theorem WJ(v:Value)(i m:Nat)(A W B:List Value)(hA:A.length=i*9)(hW:W.length=9)(hB:B.length=m*9)(hB1: ∀u∈B,u.oneCell'=true)(cs F:List Ab)(h:OwnSl 100 9 v (i+m+1) (A++W++B) cs)(hn:i+m<=90000):
 Fn prog 389 [v,.int .i64 (i:Nat),.int .i64 ((i:Int)+1)] (cs++F) λr l'=> ∃cs',OwnSl 100 9 r (i+m) (A++B) cs'/\l'=cs'++F:=by
 obtain⟨hlen,h⟩:=h;rcases h with⟨rfl,h0,rfl⟩|⟨gb,cap,sp,rfl,rfl,hnc,hcm,hcl⟩
 ·omega
 have hcl':sp.length+(i+m+1)*9=cap*9:=by rw[Ai,hlen] at hcl;omega
 obtain⟨cur,hcur⟩: ∃cur,A++W++B++sp=cur:=⟨_,rfl⟩
 have hcurl:cur.length=cap*9:=by rw[<-hcur];exact hcl
 obtain⟨off',hoff⟩: ∃o,(if cap=i+1 then 0 else 0+(i+1)*9)=o:=⟨_,rfl⟩
 have htk:cur.take (i*9)=A:=by rw[<-hcur,Am,Am,Gj hA]
 obtain⟨T,hT⟩: ∃T,cur.drop (i*9+m*9)=T:=⟨_,rfl⟩
 have hTl:T.length=cap*9-(i*9+m*9):=by rw[<-hT,Dx,hcurl]
 rw[hcur];refine AM func389 ntmps389 λE=>?_;simp only[Ae,Ag];refine gz ?_;refine Bb (FF (l0:=i) (h0:=i+1) (m0:=i+m+1) rfl (.some rfl Af rfl) (.some rfl Af Af) (.some rfl Af rfl) (λ_=>rfl) Af Af Af rfl rfl rfl) ?_;refine gz ?_;refine Ch [6] 8 ([]) ?_;refine pz ?_;apply Ej
 ·exact FF (l0:=0) (h0:=i) (m0:=cap) (off':=0) (n':=i) (c':=cap) rfl (.none) (.some rfl Af rfl) (.none) (by simp) Af Af Af (by simp) Af Af
 ·rfl
 ·rfl
 ·rfl
 refine pz ?_;apply Ej
 ·exact FF (l0:=i+1) (h0:=i+m+1) (m0:=cap) (off':=off') (n':=m) rfl (.some rfl Af Af) (.none) (.none) (by simp) Af Af Af hoff Af rfl
 ·rfl
 ·rfl
 ·rfl
 refine pz ?_;apply CM
 ·apply TC (news:=B) (cl:=toArray cur) (cur:=toArray cur)
  ·rfl
  ·rfl
  ·exact Ak
  ·intro j u hj;have hjl:=(Ay.1 hj).1;rw[<-hoff,Ac Af,AC,<-hcur,AF (by simp;omega),AU (by simp;omega),show 0+(i+1)*9+j-(A++W).length=j by rw[Ai,hA,hW];omega];exact hj
  ·exact hB
  ·exact hB1
  ·omega
  ·rw[hB];simp only[Bn];omega
 ·rfl
 ·rfl
 ·rfl
 ·intro _ _ _ c hc;cases hc
 rintro _ _ ⟨rfl,rfl⟩;have e1:(toArray cur).toList.take (i*9)++B++(toArray cur).toList.drop (i*9+B.length)=A++B++T:=by rw[hB];show cur.take (i*9)++B++cur.drop (i*9+m*9)=_;rw[htk,hT]
 rw[e1];refine pz ?_;refine gz ?_;refine Bb (FF (l0:=i+m) (h0:=i+m+1) (m0:=cap) (off':=i*9+m*9) (n':=1) rfl (.some rfl Af rfl) (.some rfl Af rfl) (.none) (by simp) Af Af Af (by rw[Ac Af];omega) Af rfl) ?_;refine gz ?_;have hABl:(A++B).length=i*9+m*9:=by rw[Ai];omega
 have eS:CV (toArray (A++B++T)) (i*9+m*9) (List.replicate 1 kQ).flatten=toArray (A++B++(kQ++T.drop 9)):=by rw[<-hABl];have:=setFrom_mid (List.replicate 1 kQ).flatten (A++B) (T.take 9) (T.drop 9) (by rw[C6];show 9=_;omega);rw[Am (A++B),Cd] at this;rw[this];show _=toArray (A++B++(kQ++List.drop 9 T));rw[Am (A++B)];rfl
 apply Mu
 ·apply ZI (zs:=kQ) (cs:=toArray (A++B++T))
  ·rfl
  ·omega
  ·simp[Value.oneCell']
  ·rw[eS];exact .here
  ·simp;omega
 ·rfl
 ·rfl
 rintro _ _ ⟨rfl,rfl⟩;refine gz ?_;refine BA [] rfl .refl (by exact A8) ⟨[(gb,_)],⟨Af,.inr ⟨gb,cap,kQ++T.drop 9,rfl,rfl,Af,hcm,?_⟩⟩,rfl⟩;rw[Ai,hABl,Ai,Dx];show i*9+m*9+(9+(T.length-9))=_;omega
theorem YD(X:List Ab)(v:Value)(i m:Nat)(A W B:List Value)(hA:A.length=i*9)(hW:W.length=9)(hB:B.length=m*9)(hB1: ∀u∈B,u.oneCell'=true)(cs F:List Ab)(h:OwnSl 100 9 v (i+m+1) (A++W++B) cs)(hn:i+m<=90000):
 Fn prog 389 [v,.int .i64 (i:Nat),.int .i64 ((i:Int)+1)] (X++(cs++F)) λr l'=> ∃cs',OwnSl 100 9 r (i+m) (A++B) cs'/\l'=X++(cs'++F):=
 Fn.re (Keep.in_mid X cs F) (WJ v i m A W B hA hW hB hB1 cs (X++F) h hn) λr l' ⟨c2,h2,e⟩=>⟨X++(c2++F),by rw[e];exact Keep.in_mid c2 X F,c2,h2,rfl⟩
theorem drop_any(b:Nat)(S:ArT)(lq:List Ab)(hA:IsA b S lq)(id:Int)(F:List Ab):
 Fn prog 367 [.pointer (some ⟨b,0,none⟩),.int .i64 id] (lq++F) λv l'=>v= .int .i64 (dropD S id).1/\ ∃lq',IsA b (dropD S id).2 lq'/\l'=lq'++F:=by
 have hA':=hA;have hlen:=hA.ok.len;have hOk:=mD hA.ok id;obtain⟨hok,v,cs,rfl,ho⟩:=hA;have cl:=TN S.n S.g v;refine AM func367 ntmps367 λE=>?_;simp only[Ae,Ag];refine Aj ?_;refine Bb (AJ rfl rfl λl2 hl=>Jc b S _ hA' id l2 (λc hc=>hl _ (Yx hc))) ?_;unfold dropD at hOk⊢;cases hk:atO S.os id with
 |none=>rw[Nc hk];refine Aj ?_;exact A9 .refl ⟨rfl,_,hA',rfl⟩
 |some k=>rw[Nd hk];rw[hk] at hOk;obtain⟨o,ho1,_⟩:=atO_some hk;have hkl:=(Ay.1 ho1).1;have ho':=ho;rw[cU ho1,show S.os.length=k+(S.os.length-k-1)+1 by omega] at ho';refine Aj ?_;refine AP (Az rfl rfl (YD [Rw b S.n S.g v] v k (S.os.length-k-1) (ocs (S.os.take k)) (obC o) (ocs (S.os.drop (k+1))) (by rw[Nb,C6];omega) rfl (by rw[Nb,Dx];omega) (ZT _) cs F ho' Af)) ?_;rintro v' _ ⟨c2,ho2,rfl⟩;have hv1:v'.oneCell'=true:=ho2.one;simp only[Ae,Ag];refine Aj ?_;refine Mu (Dg (b:=b) (off:=65) (cs:=toArray (Wb S.n S.g v)) rfl rfl hv1 (by rw[Wc];exact DI) (by rw[Bn,UO];omega)) rfl rfl ?_;rintro _ _ ⟨rfl,rfl⟩;refine Aj ?_;refine A9 .refl ⟨rfl,Rw b S.n S.g v'::c2,⟨hOk,v',c2,rfl,?_⟩,rfl⟩;show OwnSl 100 9 v' (S.os.eraseIdx k).length (ocs (S.os.eraseIdx k)) c2;rw[cT _ _ hkl,L6,Ai,C6,Dx,show min k S.os.length+(S.os.length-(k+1))=k+(S.os.length-k-1) by omega];exact ho2
theorem mark_any(b:Nat)(S:ArT)(lq:List Ab)(hA:IsA b S lq)(id m:Int)(F:List Ab):
 Fn prog 286 [.pointer (some ⟨b,0,none⟩),.int .i64 id,.int .i64 m] (lq++F) λv l'=>v= .int .i64 (markD' S id m).1/\ ∃lq',IsA b (markD' S id m).2 lq'/\l'=lq'++F:=by
 have hA':=hA;have hlen:=hA.ok.len;have hOk:=mF hA.ok id m;obtain⟨hok,v,cs,rfl,ho⟩:=hA;have cl:=TN S.n S.g v;refine AM func286 ntmps286 λE=>?_;simp only[Ae,Ag];refine Aj ?_;refine Bb (AJ rfl rfl λl2 hl=>Jc b S _ hA' id l2 (λc hc=>hl _ (Yx hc))) ?_;cases hk:atO S.os id with
 |none=>rw[Nc hk];refine Aj ?_;exact BA [] rfl .refl (by exact A8) ⟨by rw[Ub hk];rfl,_,by rw[Ub hk];exact hA',rfl⟩
 |some k=>
  rw[Nd hk];obtain⟨o,ho1,_⟩:=atO_some hk;have hkl:=(Ay.1 ho1).1;rcases ho.2 with⟨_,h0,_⟩|⟨gb,cap,sp,rfl,rfl,hnc,hcm,hcl⟩
  ·omega
  have c1:(toArray (ocs S.os++sp))[k*9+1]?=some (.int .i64 o.kd):=OD ho1 sp 1 Af;have c4:(toArray (ocs S.os++sp))[k*9+4]?=some (.int .i64 o.fr):=OD ho1 sp 4 Af;simp only[Ae,Ag];by_cases h1:o.kd=1
  ·by_cases h2:m<0
   ·refine Aj ?_;have e:=iq (m:=m) hk ho1 h1 (.inl h2);exact BA [] rfl .refl (by exact A8) ⟨by rw[e];rfl,_,by rw[e];exact hA',rfl⟩
   by_cases h3:m>o.fr
   ·refine Aj ?_;have e:=iq hk ho1 h1 (.inr h3);exact BA [] rfl .refl (by exact A8) ⟨by rw[e];rfl,_,by rw[e];exact hA',rfl⟩
   refine Aj ?_;have hs:=QJ (o':=setMa o m) ho1 sp 5 (.int .i64 m) Af rfl;refine Mu (Dg (b:=gb) (off:=k*9+5) (cs:=toArray (ocs S.os++sp)) rfl rfl rfl (by rw[hs];exact DI) (by rw[Bn,Ai,Nb];omega)) rfl rfl ?_;rintro _ _ ⟨rfl,rfl⟩;refine Aj ?_;have e:=qG (m:=m) hk ho1 h1 Af;rw[e] at hOk⊢;exact A9 .refl ⟨rfl,[Rw b S.n S.g (.slice (some ⟨gb,0,none⟩) S.os.length cap),(gb,.cells (toArray (ocs (S.os.set k (setMa o m))++sp)) 100 (0,0))],Z6 hOk hnc hcm hcl,rfl⟩
  ·refine Aj ?_;have e:=qF (m:=m) hk ho1 h1;exact BA [] rfl .refl (by exact A8) ⟨by rw[e];rfl,_,by rw[e];exact hA',rfl⟩
theorem place_any(b:Nat)(S:ArT)(lq:List Ab)(hA:IsA b S lq)(id s p w:Int)(F:List Ab):
 Fn prog 296 [.pointer (some ⟨b,0,none⟩),.int .i64 id,.int .i64 s,.int .i64 p,.int .i64 w] (lq++F) λv l'=>v= .int .i64 (placeD S id s p w).1/\ ∃lq',IsA b (placeD S id s p w).2 lq'/\l'=lq'++F:=by
 have hA':=hA;have hlen:=hA.ok.len;have hOk:=io hA.ok id s p w;obtain⟨hok,v,cs,rfl,ho⟩:=hA;have cl:=TN S.n S.g v;refine AM func296 ntmps296 λE=>?_;simp only[Ae,Ag];refine Aj ?_;refine Bb (AJ rfl rfl λl2 hl=>Jc b S _ hA' id l2 (λc hc=>hl _ (Yx hc))) ?_;cases hk:atO S.os id with
 |none=>
  rw[Nc hk];by_cases z1:s=0<;>by_cases z2:p=0;all_goals
   refine Aj ?_;exact BA [] rfl .refl (by exact A8) ⟨by rw[Sa hk];rfl,_,by rw[Sa hk];exact hA',rfl⟩
 |some k=>
  rw[Nd hk];obtain⟨o,ho1,_⟩:=atO_some hk;have hkl:=(Ay.1 ho1).1;rcases ho.2 with⟨_,h0,_⟩|⟨gb,cap,sp,rfl,rfl,hnc,hcm,hcl⟩
  ·omega
  have c1:(toArray (ocs S.os++sp))[k*9+1]?=some (.int .i64 o.kd):=OD ho1 sp 1 Af;simp only[Ae,Ag];by_cases h1:o.kd=4
  case neg=>
   have e:=mI (s:=s) (p:=p) (v:=w) hk ho1 h1;by_cases z1:s=0<;>by_cases z2:p=0;all_goals
    refine Aj ?_;exact BA [] rfl .refl (by exact A8) ⟨by rw[e];rfl,_,by rw[e];exact hA',rfl⟩
  have hs1:=QJ (o':={o with se:=s}) ho1 sp 6 (.int .i64 s) Af rfl;have g1:(S.os.set k {o with se:=s})[k]?=some {o with se:=s}:=by rw[DR hkl]
  have hs2:=QJ (o':={o with se:=s,pg:=p}) g1 sp 7 (.int .i64 p) Af rfl;have g2:((S.os.set k {o with se:=s}).set k {o with se:=s,pg:=p})[k]?=some {o with se:=s,pg:=p}:=by rw[DR (by rw[Cv];exact hkl)]
  have hs3:=QJ (o':=setPl o s p w) g2 sp 8 (.int .i64 w) Af rfl;rw[JQ] at hs2 hs3;rw[JQ] at hs3;by_cases hp:QO s p w
  case neg=>
   have e:=mJ hk ho1 h1 hp;have hN1:¬(s=0/\p=0/\w=0):=λh=>hp (.inl h);have hN2:s<1\/16777215<s\/p<0\/512<=p\/w<1\/2<w:=by
    by_cases z:s<1\/16777215<s\/p<0\/512<=p\/w<1\/2<w
    ·exact z
    ·exact absurd (.inr Af) hp
   clear hp;by_cases z1:s=0
   ·by_cases z2:p=0
    ·have z3:¬w=0:=λh=>hN1 ⟨z1,z2,h⟩;refine Aj ?_;rw[Av z3,GO];refine Aj ?_;exact BA [] rfl .refl (by exact A8) ⟨by rw[e];rfl,_,by rw[e];exact hA',rfl⟩
    ·refine Aj ?_;exact BA [] rfl .refl (by exact A8) ⟨by rw[e];rfl,_,by rw[e];exact hA',rfl⟩
   by_cases z4:s<1
   case pos=>refine Aj ?_;exact BA [] rfl .refl (by exact A8) ⟨by rw[e];rfl,_,by rw[e];exact hA',rfl⟩
   by_cases z5:s>16777215
   case pos=>refine Aj ?_;exact BA [] rfl .refl (by exact A8) ⟨by rw[e];rfl,_,by rw[e];exact hA',rfl⟩
   by_cases z6:p<0
   case pos=>refine Aj ?_;exact BA [] rfl .refl (by exact A8) ⟨by rw[e];rfl,_,by rw[e];exact hA',rfl⟩
   by_cases z7:p>=512
   case pos=>refine Aj ?_;exact BA [] rfl .refl (by exact A8) ⟨by rw[e];rfl,_,by rw[e];exact hA',rfl⟩
   by_cases z8:w<1
   case pos=>refine Aj ?_;exact BA [] rfl .refl (by exact A8) ⟨by rw[e];rfl,_,by rw[e];exact hA',rfl⟩
   have z9:w>2:=by omega
   refine Aj ?_;exact BA [] rfl .refl (by exact A8) ⟨by rw[e];rfl,_,by rw[e];exact hA',rfl⟩
  have e:=mK hk ho1 h1 hp;rw[e] at hOk⊢;rcases hp with⟨z1,z2,z3⟩|z1
  case' inl=>
   refine Aj ?_;rw[At z3,Bool.not_true]
  all_goals
   refine Aj ?_;refine Ch [20,23,26] 27 ([Rw b S.n S.g (.slice (some ⟨gb,0,none⟩) S.os.length cap)]) ?_ (hR:=(CS (.head _)));refine BM ?_;apply GW
   ·exact Dg (b:=gb) (off:=k*9+6) (cs:=toArray (ocs S.os++sp)) rfl rfl rfl (by rw[hs1];exact DI) (by rw[Bn,Ai,Nb];omega)
   ·rfl
   ·rfl
   ·rintro _ _ ⟨rfl,rfl⟩ c hc;cases hc with
    |head=>exact .head _
    |tail _ h=>cases h
   ·exact λ_ _ _ x hx ha=>C3 Bs hx ha
   rintro _ _ ⟨rfl,rfl⟩;refine BM ?_;apply GW
   ·exact Dg (b:=gb) (off:=k*9+7) (cs:=toArray (ocs (S.os.set k {o with se:=s})++sp)) rfl rfl rfl (by rw[hs2];exact DI) (by rw[Bn,Ai,Nb,Cv];omega)
   ·rfl
   ·rfl
   ·rintro _ _ ⟨rfl,rfl⟩ c hc;cases hc with
    |head=>exact .head _
    |tail _ h=>cases h
   ·exact λ_ _ _ x hx ha=>C3 Bs hx ha
   rintro _ _ ⟨rfl,rfl⟩;refine BM ?_;apply GW
   ·exact Dg (b:=gb) (off:=k*9+8) (cs:=toArray (ocs (S.os.set k {o with se:=s,pg:=p})++sp)) rfl rfl rfl (by rw[hs3];exact DI) (by rw[Bn,Ai,Nb,Cv];omega)
   ·rfl
   ·rfl
   ·rintro _ _ ⟨rfl,rfl⟩ c hc;cases hc with
    |head=>exact .head _
    |tail _ h=>cases h
   ·exact λ_ _ _ x hx ha=>C3 Bs hx ha
   rintro _ _ ⟨rfl,rfl⟩;refine BM ?_;refine Aj ?_;exact A9 .refl ⟨rfl,[Rw b S.n S.g (.slice (some ⟨gb,0,none⟩) S.os.length cap),(gb,.cells (toArray (ocs (S.os.set k (setPl o s p w))++sp)) 100 (0,0))],Z6 hOk hnc hcm hcl,rfl⟩
end Ar
abbrev iV(x:Int):Value:= .int .i64 x
abbrev Fz(s:Ce):Value:= .agg (toArray (Co s))
abbrev U8(c:CapT):Value:= .agg (toArray (BW c))
abbrev yC(o:Ar.ObT):Value:= .agg (toArray (Ar.obC o))
abbrev DB(S:KT)(id:Int):Th.ThT:=(Th.findH S.T id).getD Th.thZ
theorem IsK.tO(h:IsK F C k S p s)(id:Int):TW (DB S id):=by
 unfold DB;cases hf:Th.findH S.T id with
 |none=>exact⟨LI,LI⟩
 |some t=>exact(h.tw t (Th.findH_some hf).1).1
theorem IsK.tM(h:IsK F C k S p s)(hi:(Th.findH S.T id).isSome=true):Th.mayH (DB S id)=true/\(DB S id).id=id:=by
 unfold DB;cases hf:Th.findH S.T id with
 |none=>rw[hf] at hi;cases hi
 |some t=>exact⟨(h.tw t (Th.findH_some hf).1).2,(Th.findH_some hf).2⟩
theorem IsK.tG(h:IsK F C k S p s)(id:Int):(0<=(DB S id).gv/\(DB S id).gv<=4096)/\0<=(DB S id).inn/\(DB S id).inn<=4096:=by
 cases hi:(Th.findH S.T id).isSome with
 |true=>have:=(h.tM hi).1;unfold Th.mayH at this;simp only[AR,Bg] at this;omega
 |false=>
  have:DB S id=Th.thZ:=by
   unfold DB;cases hf:Th.findH S.T id with
   |none=>rfl
   |some t=>rw[hf] at hi;cases hi
  rw[this];exact⟨⟨by decide,by decide⟩,by decide,by decide⟩
section
theorem IsK.small(h:IsK F C k S p s): ∃m,m+k<=900/\InvH S.H m/\S.H.1.length<=2000/\S.H.2.length<=1000:=let⟨m,h1,h2⟩:=h.inv;⟨m,h1,h2,(h2.small Af).1,(h2.small Af).2.1⟩
theorem IsK.el9(h:IsK F C k S p s): ∀x,x∈S.E->x.2.1.length<=1000000:=λx hx=>by have:=h.el x hx;omega
theorem IsK.ql9(h:IsK F C k S p s): ∀n,n<8->(S.Q n).length<=1000000:=λx hx=>by have:=h.ql x hx;omega
instance[h:IsK F C k S p s]{id:Int}:QF prog 96 [pV p.t,.int .i64 id] (Aw b p s S G) (.tuple #[Th.thV (DB S id),.bool (Th.findH S.T id).isSome]):=⟨λl hl=>Th.get_any p.t S.T s.T h.th id l (mT hl)⟩
instance[h:IsK F C k S p s]{id:Int}:QF prog 261 [pV p.t,.int .i64 id] (Aw b p s S G) (iV (Th.serverD S.T id)):=⟨λl hl=>Th.server_any p.t S.T s.T h.th (by have:=h.tl;omega) id l (mT hl)⟩
instance[h:IsK F C k S p s]{id:Int}:QF prog 113 [pV p.a,.int .i64 id] (Aw b p s S G) (.tuple #[yC (Ar.getD' S.A id).1,.bool (Ar.getD' S.A id).2]):=⟨λl hl=>Ar.get_any p.a S.A s.A h.ar id l (mA hl)⟩
instance[h:IsK F C k S p s]{f:Int}:QF prog 182 [pV p.a,.int .i64 f] (Aw b p s S G) (iV (Ar.nextD S.A f)):=⟨λl hl=>Ar.next_any p.a S.A s.A h.ar f l (mA hl)⟩
instance[h:IsK F C k S p s]{x:Ce}:QF prog 166 [pV p.h,Fz x] (Aw b p s S G) (.tuple #[U8 (getD' S.H.1 x).1,iV (getD' S.H.1 x).2]):=⟨λl hl=>IN p.h S.H s.H h.ho x l (mH hl)⟩
instance[h:IsK F C k S p s]{i j:Int}:QF prog 166 [pV p.h,.agg (toArray [.int .i64 i,.int .i64 j])] (Aw b p s S G) (.tuple #[U8 (getD' S.H.1 (i,j)).1,iV (getD' S.H.1 (i,j)).2]):=⟨λl hl=>IN p.h S.H s.H h.ho (i,j) l (mH hl)⟩
theorem IsH.ulen{lq:List Ab}(hq:IsH b H lq)(hI:InvH H n)(hn:n<=1000):(Dv H.1).length<=32000:=by obtain⟨bs,bt,ls,lt,hb⟩:=hq;have h1:=T1 λx hx=>(hb.s.sz x hx).2;have h2:=(hI.small hn).1;omega
instance[h:IsK F C k S p s]{x:Ce}:QF prog 327 [pV p.h,Fz x] (Aw b p s S G) (.bool (Lf S.H x)):=⟨λl hl=>let⟨m,h1,h2⟩:=h.inv;Yw p.h S.H m h2 Af s.H h.ho x (by have:=IsH.ulen h.ho h2 Af;omega) l (mH hl)⟩
instance[h:IsK F C k S p s]{r:Int}:QF prog 167 [pV p.n,.int .i64 r] (Aw b p s S G) (.tuple #[iV (As.ofP S.N r).1,iV (As.ofP S.N r).2.1,.bool (As.ofP S.N r).2.2]):=⟨λl hl=>As.of_any p.n S.N r l (mN hl)⟩
instance[h:IsK F C k S p s]{r:Int}:QF prog 390 [pV p.n,.int .i64 r] (Aw b p s S G) (.tuple #[iV (As.rootP S.N r).1,iV (As.rootP S.N r).2.1,.bool (As.rootP S.N r).2.2]):=⟨λl hl=>As.root_any p.n S.N r l (mN hl)⟩
instance[h:IsK F C k S p s]:QF prog 103 [pV p.q] (Aw b p s S G) (.tuple #[iV (Qu.firstQ S.Q).1,.bool (Qu.firstQ S.Q).2]):=⟨λl hl=>Qu.first_any p.q S.Q s.Q h.qu l (mQ hl)⟩
end
section
variable{x:Value}
theorem wK{T':Th.TL}(hK:IsK F C k S p s)(hl:T'.length+k'<=900)(hw: ∀t,t∈T'->TW t/\Th.mayH t=true)(hk:k'<=k)(h: ∀G,Fn prog f vs (s.T++G) λv l'=>v=x/\ ∃lq',Th.IsX p.t T' lq'/\l'=lq'++G):Fn prog f vs (Aw b p s S G) (KK F C b p k' x {S with T:=T'} G):=
 Fn.re (.of_perm (by unfold Aw;exact BR)) (h (Cw b p::As.asA p.n S.N::(s.M++(s.C++(s.A++(s.H++(s.Q++(s.E++(s.V++G))))))))) λv l' ⟨h1,q,h2,h3⟩=>⟨Aw b p {s with T:=q} {S with T:=T'} G,by rw[h3];unfold Aw;exact A4 [],h1,{s with T:=q},G,{hK.mono hk with th:=h2,tl:=hl,tw:=hw},.nil,rfl⟩
theorem vU{A':Ar.ArT}(hK:IsK F C k S p s)(hk:k'<=k)(ha:A'.n=S.A.n)(hr:mO A')(h: ∀G,Fn prog f vs (s.A++G) λv l'=>v=x/\ ∃lq',Ar.IsA p.a A' lq'/\l'=lq'++G):Fn prog f vs (Aw b p s S G) (KK F C b p k' x {S with A:=A'} G):=
 Fn.re (.of_perm (by unfold Aw;exact BR)) (h (Cw b p::As.asA p.n S.N::(s.M++(s.C++(s.H++(s.T++(s.Q++(s.E++(s.V++G))))))))) λv l' ⟨h1,q,h2,h3⟩=>⟨Aw b p {s with A:=q} {S with A:=A'} G,by rw[h3];unfold Aw;exact A4 [],h1,{s with A:=q},G,{hK.mono hk with ar:=h2,an:=ha.trans hK.an,rad:=hr},.nil,rfl⟩
theorem mZ{H':HS}(hK:IsK F C k S p s)(hk:k'<=k)(hi: ∀m,InvH S.H m->InvH H' (m+(k-k')))(h: ∀m G,InvH S.H m->m<=1000->Fn prog f vs (s.H++G) λv l'=>v=x/\ ∃lq',IsH p.h H' lq'/\l'=lq'++G):Fn prog f vs (Aw b p s S G) (KK F C b p k' x {S with H:=H'} G):=by obtain⟨m,h1,h2⟩:=hK.inv;exact Fn.re (.of_perm (by unfold Aw;exact BR)) (h m (Cw b p::As.asA p.n S.N::(s.M++(s.C++(s.A++(s.T++(s.Q++(s.E++(s.V++G)))))))) h2 Af) λv l' ⟨g1,q,g2,g3⟩=>⟨Aw b p {s with H:=q} {S with H:=H'} G,by rw[g3];unfold Aw;exact A4 [],g1,{s with H:=q},G,{hK.mono hk with ho:=g2,inv:=⟨_,Af,hi m h2⟩},.nil,rfl⟩
theorem wL{Q':Nat->List Int}(hK:IsK F C k S p s)(hk:k'<=k)(hl: ∀n,n<8->(Q' n).length<=(S.Q n).length+(k-k'))(h: ∀G,Fn prog f vs (s.Q++G) λv l'=>v=x/\ ∃lq',Qu.IsQ p.q Q' lq'/\l'=lq'++G):Fn prog f vs (Aw b p s S G) (KK F C b p k' x {S with Q:=Q'} G):=
 Fn.re (.of_perm (by unfold Aw;exact BR)) (h (Cw b p::As.asA p.n S.N::(s.M++(s.C++(s.A++(s.H++(s.T++(s.E++(s.V++G))))))))) λv l' ⟨h1,q,h2,h3⟩=>⟨Aw b p {s with Q:=q} {S with Q:=Q'} G,by rw[h3];unfold Aw;exact A4 [],h1,{s with Q:=q},G,{hK.mono hk with qu:=h2,ql:=λn hn=>by have:=hl n hn;have:=hK.ql n hn;show(Q' n).length+k'<=900;omega},.nil,rfl⟩
theorem wM{E':En.DE}(hK:IsK F C k S p s)(hk:k'<=k)(hl: ∀y,y∈E'->y.2.1.length+k'<=900)(ho: ∀t,En.OneAt E' t)(h: ∀G,Fn prog f vs (s.E++G) λv l'=>v=x/\ ∃lq',En.IsE p.e E' lq'/\l'=lq'++G):Fn prog f vs (Aw b p s S G) (KK F C b p k' x {S with E:=E'} G):=
 Fn.re (.of_perm (by unfold Aw;exact BR)) (h (Cw b p::As.asA p.n S.N::(s.M++(s.C++(s.A++(s.H++(s.T++(s.Q++(s.V++G))))))))) λv l' ⟨h1,q,h2,h3⟩=>⟨Aw b p {s with E:=q} {S with E:=E'} G,by rw[h3];unfold Aw;exact A4 [],h1,{s with E:=q},G,{hK.mono hk with en:=h2,el:=hl,eo:=ho},.nil,rfl⟩
theorem wN{N':As.ASt}(hK:IsK F C k S p s)(hk:k'<=k)(hg: ∀n,n<32->0<=N'.given n/\N'.given n+k'<=900)(h: ∀G,Fn prog f vs (As.asA p.n S.N::G) λv l'=>v=x/\l'=As.asA p.n N'::G):Fn prog f vs (Aw b p s S G) (KK F C b p k' x {S with N:=N'} G):=
 Fn.re (.of_perm (by unfold Aw;exact BR)) (h (Cw b p::(s.M++(s.C++(s.A++(s.H++(s.T++(s.Q++(s.E++(s.V++G)))))))))) λv l' ⟨h1,h2⟩=>⟨Aw b p s {S with N:=N'} G,by rw[h2];unfold Aw;exact A4 [],h1,_,G,{hK.mono hk with giv:=hg},.nil,rfl⟩
end
section
theorem iz(L:Th.TL)(t:Th.ThT):(Th.setD L t).2.length=L.length:=by unfold Th.setD Th.putH;split<;>simp
theorem iA(L:Th.TL)(t:Th.ThT):(Th.insH L t).length=L.length+1:=by unfold Th.insH;have:=BN List.length (BI (p:=λx:Th.ThT=>decide (x.id<t.id)) (l:=L));simp only[Ai,Br] at this⊢;omega
abbrev wO(L:Th.TL):Prop:= ∀t,t∈L->TW t/\Th.mayH t=true
theorem qJ{L:Th.TL}{t:Th.ThT}(h:wO L)(ht:TW t)(hu:u∈(Th.setD L t).2):TW u/\Th.mayH u=true:=by
 unfold Th.setD Th.putH at hu
 split at hu
 ·rename_i hm;obtain⟨y,hy,rfl⟩:=Au.1 hu
  split
  ·exact⟨ht,hm.2⟩
  ·exact h y hy
 ·exact h u hu
theorem qK{L:Th.TL}(h:wO L)(hu:u∈(Th.addD L id).2):TW u/\Th.mayH u=true:=by
 unfold Th.addD at hu
 split at hu
 ·exact h u hu
 rename_i h1
 split at hu
 ·exact h u hu
 unfold Th.insH at hu;rcases AE.1 hu with hu|hu
 ·exact h u (List.takeWhile_subset _ hu)
 ·rcases Ap.1 hu with rfl|hu
  ·exact⟨⟨LI,LI⟩,by unfold Th.mayH;simp;omega⟩
  ·exact h u (List.dropWhile_subset _ hu)
theorem na{L:Th.TL}(h:wO L)(hu:u∈(Th.dropD L id).2):TW u/\Th.mayH u=true:=by
 unfold Th.dropD at hu
 split at hu
 ·exact h u (Ci.1 hu).1
 ·exact h u hu
instance{t:Th.ThT}[ht:TW t]:EK prog F C b p 97 [pV p.t,Th.thV t] k S k (iV (Th.setD S.T t).1) {S with T:=(Th.setD S.T t).2}:=⟨λs G h=>wK h (by rw[iz];exact h.tl) (λu hu=>qJ h.tw ht hu) (A7 _) λG=>Th.set_any p.t S.T s.T h.th t G⟩
instance{id:Int}:EK prog F C b p 368 [pV p.t,.int .i64 id] k S k (iV (Th.dropD S.T id).1) {S with T:=(Th.dropD S.T id).2}:=⟨λs G h=>wK h (by have:=h.tl;have:=CU (λx:Th.ThT=>decide (x.id≠id)) S.T;unfold Th.dropD;split<;>(simp only;omega)) (λu hu=>na h.tw hu) Af λG=>Th.drop_any p.t S.T s.T h.th id G⟩
theorem U9{X:Nat->List Int}{q:Nat}{Y:List Int}(h:Y.length<=(X q).length+m)(n:Nat):(Qu.upd X q Y n).length<=(X n).length+m:=by
 unfold Qu.upd;split
 ·rename_i e;subst e;exact h
 ·omega
instance{id pr:Int}:EK prog F C b p 152 [pV p.q,.int .i64 id,.int .i64 pr] (k+1) S k (iV (Qu.addQ S.Q id pr).1) {S with Q:=(Qu.addQ S.Q id pr).2}:=⟨λs G h=>wL h Af (λn _=>by unfold Qu.addQ;(repeat' split);all_goals first|(exact U9 (by rw[Ai,Bh];omega) n)|(simp only;omega)) λG=>Qu.add_any p.q S.Q s.Q id pr h.qu h.ql9 G⟩
instance{id:Int}:EK prog F C b p 153 [pV p.q,.int .i64 id] k S k (.bool (Qu.dropQ S.Q id).1) {S with Q:=(Qu.dropQ S.Q id).2}:=⟨λs G h=>wL h Af (λn _=>by unfold Qu.dropQ;split;exact U9 (by rw[FC];split<;>omega) n;simp) λG=>Qu.drop_any p.q S.Q s.Q id h.qu h.ql9 G⟩
theorem iB(X:Nat->List Int)(id:Int)(n:Nat):((Qu.backQ X id).2 n).length<=(X n).length:=by
 unfold Qu.backQ
 split
 ·rename_i q hq;have hm:id∈X q:=by unfold Qu.findP at hq;simpa using DO hq
  have hi:=GB hm;refine U9 (m:=0) ?_ n;rw[Ai,FC,Ad hi,Bh];omega
 ·simp
instance{id:Int}:EK prog F C b p 303 [pV p.q,.int .i64 id] k S k (.bool (Qu.backQ S.Q id).1) {S with Q:=(Qu.backQ S.Q id).2}:=⟨λs G h=>wL h Af (λn _=>by have:=iB S.Q id n;omega) λG=>Qu.back_any p.q S.Q s.Q id h.qu h.ql9 G⟩
theorem nc{D:En.DE}(h:En.OneAt D t):En.OneAt (En.addD D id).2 t:=by
 unfold En.addD
 repeat' split
 ·exact h
 ·exact h
 ·intro x y hx hy h1 h2;rcases AE.1 hx with hx|hx
  ·rcases AE.1 hy with hy|hy
   ·exact h x y hx hy h1 h2
   ·rw[Ax.1 hy] at h2;cases h2
  ·rw[Ax.1 hx] at h1;cases h1
instance{id:Int}:EK prog F C b p 142 [pV p.e,.int .i64 id] k S k (iV (En.addD S.E id).1) {S with E:=(En.addD S.E id).2}:=⟨λs G h=>wM h Af (λy hy=>by
 have h9:=h.tl;unfold En.addD at hy
 split at hy
 ·exact h.el y hy
 split at hy
 ·exact h.el y hy
 rcases AE.1 hy with hy|hy
 ·exact h.el y hy
 ·rw[Ax.1 hy];simp;omega) (λt=>nc (h.eo t)) λG=>En.add_any p.e S.E s.E id h.en G⟩
theorem aa{D:En.DE}(h:En.OneAt D t)(hY:t∈Y.1-> ∀x,x∈D->t∈x.2.1->x.1=id):En.OneAt (En.updD D id Y) t:=by
 have key: ∀x,x∈En.updD D id Y->t∈x.2.1->(∃y,y∈D/\y.1=x.1/\t∈y.2.1)\/(x.1=id/\t∈Y.1):=λx hx ht=>by
  obtain⟨y,hy,rfl⟩:=Au.1 hx
  split at ht
  ·rename_i e;rw[Ad e];exact .inr ⟨e,ht⟩
  ·rename_i e;rw[Ac e];exact .inl ⟨y,hy,rfl,ht⟩
 intro x y hx hy h1 h2;rcases key x hx h1 with⟨a,a1,a2,a3⟩|⟨a2,a3⟩<;>rcases key y hy h2 with⟨c,c1,c2,c3⟩|⟨c2,c3⟩
 ·rw[<-a2,<-c2];exact h a c a1 c1 a3 c3
 ·rw[<-a2,c2];exact hY c3 a a1 a3
 ·rw[<-c2,a2];exact(hY a3 c c1 c3).symm
 ·rw[a2,c2]
theorem ac{D:En.DE}(h: ∀x,x∈D->x.2.1.length<=m)(hY:Y.1.length<=m): ∀x,x∈En.updD D id Y->x.2.1.length<=m:=λx hx=>by
 obtain⟨y,hy,rfl⟩:=Au.1 hx
 split
 ·exact hY
 ·exact h y hy
theorem WK{D:En.DE}(h:En.findD D id=some Y):(id,Y)∈D:=by
 unfold En.findD at h;obtain⟨x,h1,rfl⟩:=C8.1 h;have:=DO h1;have e:x.1=id:=by simpa using this
 rw[<-e];exact Bz h1
instance{id t:Int}{sd:Bool}:EK prog F C b p 265 [pV p.e,.int .i64 id,.int .i64 t,.bool sd] (k+1) S k (iV (En.waitD S.E id t sd).1) {S with E:=(En.waitD S.E id t sd).2}:=⟨λs G h=>wM h Af (λy hy=>by
 have h9:=λy hy=>h.el y hy;unfold En.waitD at hy
 split at hy
 ·have:=h9 y hy;omega
 rename_i x hx
 split at hy
 ·have:=h9 y hy;omega
 split at hy
 ·have:=h9 y hy;omega
 split at hy
 ·have:=h9 y hy;omega
 have:=ac (m:=900-k) (λx hx=>by have:=h9 x hx;omega) (by have:=h9 _ (WK hx);simp at this⊢;omega) y hy;have:=h.tl;omega) (λu=>by
 unfold En.waitD
 split
 ·exact h.eo u
 rename_i x hx
 repeat' split
 any_goals exact h.eo u
 rename_i hn _;refine aa (h.eo u) λhu y hy hy2=>?_;rcases AE.1 hu with hu|hu
 ·exact h.eo u y _ hy (WK hx) hy2 hu
 ·rw[Ax] at hu;subst hu;exact absurd (Hf.2 ⟨y,hy,by simpa using hy2⟩) hn) λG=>En.wait_any p.e S.E s.E id t sd h.en h.el9 G⟩
end
theorem Sj(b:Nat)(p:RP)(l:List Ab)(hm:Cw b p∈l):Fn prog 137 [pV b] l λv l'=>v=pV p.a/\l'=l:=by refine AM func137 ntmps137 λE=>?_;exact EA
theorem DK(b:Nat)(p:RP)(l:List Ab)(hm:Cw b p∈l):Fn prog 144 [pV b] l λv l'=>v=pV p.h/\l'=l:=by refine AM func144 ntmps144 λE=>?_;exact EA
theorem Kt(b:Nat)(p:RP)(l:List Ab)(hm:Cw b p∈l):Fn prog 147 [pV b] l λv l'=>v=pV p.n/\l'=l:=by refine AM func147 ntmps147 λE=>?_;exact EA
theorem Ml(b:Nat)(p:RP)(l:List Ab)(hm:Cw b p∈l):Fn prog 95 [pV b] l λv l'=>v=pV p.t/\l'=l:=by refine AM func95 ntmps95 λE=>?_;exact EA
def IZ(R:RT)(k s f:Int):(Int×Int)×RT:=
 if(Ar.addD R.A k s f).1.2=0 then
  (((Ar.addD R.A k s f).1.1,0),⟨(Ar.addD R.A k s f).2,(if 0<Ar.slotsD k s then((GI R.H.1 (Ar.addD R.A k s f).1.1 (Ar.slotsD k s)).2,R.H.2) else R.H),R.N,(if k=9 then(Th.addD R.T (Ar.addD R.A k s f).1.1).2 else R.T),R.Q,(if k=8 then(En.addD R.E (Ar.addD R.A k s f).1.1).2 else R.E)⟩)
 else((0,(Ar.addD R.A k s f).1.2),{R with A:=(Ar.addD R.A k s f).2})
theorem uj(S:Ar.ArT)(k s f:Int):(Ar.addD S k s f).2.n=S.n:=by unfold Ar.addD;split<;>rfl
theorem nf{S:Ar.ArT}{k s f:Int}(h:(Ar.addD S k s f).1.2=0):0<=f/\f<=S.n-Ar.framesD k s/\1<=Ar.framesD k s:=by
 have h1:=Ar.frames_rng k s;unfold Ar.addD at h;by_cases h0:Ar.addE S k s f=0
 ·unfold Ar.addE at h0;by_cases h2:Ar.framesD k s=0
  ·rw[Ad h2] at h0;omega
  ·rw[Ac h2] at h0;by_cases h3:f<0\/f>S.n-Ar.framesD k s
   ·rw[Ad h3] at h0;omega
   ·omega
 ·rw[Ac h0] at h;exact absurd h h0
theorem IsRl.mono{R:RT}(h:IsRl F C k R p s)(hm:k<=m):IsRl F C m R p s:=
 ⟨h.mem,h.co,h.ar,h.an,h.ho,h.inv.mono hm,λn hn=>by have:=h.giv n hn;omega,h.th,h.qu,λn hn=>BP (h.ql n hn) hm,h.en,h.cu,h.c1⟩
theorem iC(F C n:Nat)(R:RT)(b:Nat)(p:RP)(s:RL)(hR:IsRl F C n R p s)(hn:n<=900)(k z f:Int)(G:List Ab):Fn prog 92 [pV b,.int .i64 k,.int .i64 z,.int .i64 f] (Ct b p s R G) λv l'=>
 v= .tuple #[.int .i64 (IZ R k z f).1.1,.int .i64 (IZ R k z f).1.2]/\ ∃s' X,IsRl F C (n+1) (IZ R k z f).2 p s'/\l'=Ct b p s' (IZ R k z f).2 (X++G):=by
 have hF:=hR.mem.2.1;refine AM func92 ntmps92 λE=>?_;unfold Ct;refine Aj ?_;refine AP (Az rfl rfl (Sj b p _ (.head _))) ?_;rintro _ _ ⟨rfl,rfl⟩;refine Aj ?_;refine Bk (l':=s.A++(Cw b p::As.asA p.n R.N::(s.M++(s.C++(s.H++(s.T++(s.Q++(s.E++(s.V++G))))))))) (A4 []) ?_;refine AP (Az rfl rfl (Ar.add_any p.a R.A s.A hR.ar k z f _)) ?_;rintro _ _ ⟨rfl,lA,hA,rfl⟩;refine Bk (l':=Cw b p::As.asA p.n R.N::(s.M++(s.C++(lA++(s.H++(s.T++(s.Q++(s.E++(s.V++G))))))))) (A4 []) ?_;obtain⟨id,hid⟩: ∃x,x=(Ar.addD R.A k z f).1.1:=⟨_,rfl⟩
 obtain⟨er,her⟩: ∃x,x=(Ar.addD R.A k z f).1.2:=⟨_,rfl⟩
 have hAn:(Ar.addD R.A k z f).2.n=F:=by rw[uj];exact hR.an
 rw[<-hid,<-her];have hmk:IZ R k z f=if er=0 then((id,0),(⟨(Ar.addD R.A k z f).2,(if 0<Ar.slotsD k z then((GI R.H.1 id (Ar.slotsD k z)).2,R.H.2) else R.H),R.N,(if k=9 then(Th.addD R.T id).2 else R.T),R.Q,(if k=8 then(En.addD R.E id).2 else R.E)⟩:RT)) else((0,er),{R with A:=(Ar.addD R.A k z f).2}):=by unfold IZ;rw[<-hid,<-her]
 by_cases he:er=0
 ·rw[Ad he] at hmk;rw[hmk];obtain⟨r1,r2,r3⟩:=nf (her.symm.trans he);rw[hR.an] at r2;obtain⟨f',rfl⟩: ∃f':Nat,f=f':=⟨f.toNat,Af⟩
  obtain⟨fr,hfr⟩: ∃fr:Nat,Ar.framesD k z=fr:=⟨(Ar.framesD k z).toNat,Af⟩
  refine Aj ?_;by_cases h1:k=1
  ·have hs0:Ar.slotsD k z=0:=by unfold Ar.slotsD;rw[Ac Af,Ac Af]
   have hs:¬0<Ar.slotsD k z:=by omega
   have hH0:(if 0<Ar.slotsD k z then((GI R.H.1 id (Ar.slotsD k z)).2,R.H.2) else R.H)=R.H:=Ac hs;have hT0:(if k=9 then(Th.addD R.T id).2 else R.T)=R.T:=Ac Af;have hE0:(if k=8 then(En.addD R.E id).2 else R.E)=R.E:=Ac Af;rw[hH0,hT0,hE0];refine Aj ?_;refine AP (Az rfl rfl (Ar.slots_any k z _)) ?_;rintro _ _ ⟨rfl,rfl⟩;refine Aj ?_;refine Aj ?_;refine A9 (l':=Ct b p ⟨s.M,s.C,lA,s.H,s.T,s.Q,s.E,s.V⟩ ⟨(Ar.addD R.A k z (f':Nat)).2,R.H,R.N,R.T,R.Q,R.E⟩ (([])++G)) (by unfold Ct;exact A4 []) ?_;refine⟨rfl,⟨s.M,s.C,lA,s.H,s.T,s.Q,s.E,s.V⟩,[],?_,rfl⟩;exact⟨hR.mem,hR.co,hA,hAn,hR.ho,hR.inv.mono Af,λj hj=>by have:=hR.giv j hj;simp only;omega,hR.th,hR.qu,λj hj=>BP (hR.ql j hj) Af,hR.en,hR.cu,hR.c1⟩
  refine Aj ?_;refine D3 (l':=s.M++(Cw b p::As.asA p.n R.N::(s.C++(lA++(s.H++(s.T++(s.Q++(s.E++(s.V++G))))))))) (A4 []) ?_;refine Ch [8] 9 ([Cw b p]) ?_ (hR:=(CS (Aa _ (.head _))));refine BM ?_;apply Ej
  ·exact AJ rfl rfl (λl hl=>Ar.frames_any k z l)
  ·rfl
  ·rfl
  ·rfl
  refine BM ?_;apply CM
  ·exact Az rfl rfl (by rw[hfr];exact bT p.m F f' fr s.M hR.mem Af Af _)
  ·rfl
  ·rfl
  ·rfl
  ·rintro _ _ ⟨_,X,rfl⟩;exact CS (Aa _ (Aa _ (.head _)))
  rintro _ _ ⟨rfl,X,rfl⟩;refine BM ?_;refine Aj ?_;refine AP (Az rfl rfl (Ar.slots_any k z _)) ?_;rintro _ _ ⟨rfl,rfl⟩;refine Aj ?_;by_cases hs:0<Ar.slotsD k z
  ·by_cases h9:k=9
   ·have hH0:(if 0<Ar.slotsD k z then((GI R.H.1 id (Ar.slotsD k z)).2,R.H.2) else R.H)=((GI R.H.1 id (Ar.slotsD k z)).2,R.H.2):=Ad hs;have hT0:(if k=9 then(Th.addD R.T id).2 else R.T)=(Th.addD R.T id).2:=Ad Af;have hE0:(if k=8 then(En.addD R.E id).2 else R.E)=R.E:=Ac Af;rw[hH0,hT0,hE0];refine Aj ?_;refine Bk (l':=Cw b p::As.asA p.n R.N::(s.M++(s.C++(lA++(s.H++(s.T++(s.Q++(s.E++(s.V++(X++G)))))))))) (A4 []) ?_;refine Aj ?_;refine Bk (l':=s.H++(Cw b p::As.asA p.n R.N::(s.M++(s.C++(lA++(s.T++(s.Q++(s.E++(s.V++(X++G)))))))))) (A4 []) ?_;refine AP (Az rfl rfl (NV p.h R.H s.H hR.ho id (Ar.slotsD k z) _)) ?_;rintro _ _ ⟨rfl,lH,hH,rfl⟩;refine Bk (l':=Cw b p::As.asA p.n R.N::(s.M++(s.C++(lA++(lH++(s.T++(s.Q++(s.E++(s.V++(X++G)))))))))) (A4 []) ?_;refine Aj ?_;refine Bk (l':=s.T++(Cw b p::As.asA p.n R.N::(s.M++(s.C++(lA++(lH++(s.Q++(s.E++(s.V++(X++G)))))))))) (A4 []) ?_;refine AP (Az rfl rfl (Th.add_any p.t R.T s.T hR.th id _)) ?_;rintro _ _ ⟨rfl,lT,hT,rfl⟩;refine Aj ?_;refine A9 (l':=Ct b p ⟨s.M,s.C,lA,lH,lT,s.Q,s.E,s.V⟩ ⟨(Ar.addD R.A k z (f':Nat)).2,((GI R.H.1 id (Ar.slotsD k z)).2,R.H.2),R.N,(Th.addD R.T id).2,R.Q,R.E⟩ ((X)++G)) (by unfold Ct;exact A4 []) ?_;refine⟨rfl,⟨s.M,s.C,lA,lH,lT,s.Q,s.E,s.V⟩,X,?_,rfl⟩;exact⟨hR.mem,hR.co,hA,hAn,hH,hR.inv.add _ _,λj hj=>by have:=hR.giv j hj;simp only;omega,hT,hR.qu,λj hj=>BP (hR.ql j hj) Af,hR.en,hR.cu,hR.c1⟩
   by_cases h8:k=8
   ·have hH0:(if 0<Ar.slotsD k z then((GI R.H.1 id (Ar.slotsD k z)).2,R.H.2) else R.H)=((GI R.H.1 id (Ar.slotsD k z)).2,R.H.2):=Ad hs;have hT0:(if k=9 then(Th.addD R.T id).2 else R.T)=R.T:=Ac Af;have hE0:(if k=8 then(En.addD R.E id).2 else R.E)=(En.addD R.E id).2:=Ad Af;rw[hH0,hT0,hE0];refine Aj ?_;refine Bk (l':=Cw b p::As.asA p.n R.N::(s.M++(s.C++(lA++(s.H++(s.T++(s.Q++(s.E++(s.V++(X++G)))))))))) (A4 []) ?_;refine Aj ?_;refine Bk (l':=s.H++(Cw b p::As.asA p.n R.N::(s.M++(s.C++(lA++(s.T++(s.Q++(s.E++(s.V++(X++G)))))))))) (A4 []) ?_;refine AP (Az rfl rfl (NV p.h R.H s.H hR.ho id (Ar.slotsD k z) _)) ?_;rintro _ _ ⟨rfl,lH,hH,rfl⟩;refine Bk (l':=Cw b p::As.asA p.n R.N::(s.M++(s.C++(lA++(lH++(s.T++(s.Q++(s.E++(s.V++(X++G)))))))))) (A4 []) ?_;refine Aj ?_;refine Bk (l':=s.E++(Cw b p::As.asA p.n R.N::(s.M++(s.C++(lA++(lH++(s.T++(s.Q++(s.V++(X++G)))))))))) (A4 []) ?_;refine AP (Az rfl rfl (En.add_any p.e R.E s.E id hR.en _)) ?_;rintro _ _ ⟨rfl,lE,hE,rfl⟩;refine Aj ?_;refine A9 (l':=Ct b p ⟨s.M,s.C,lA,lH,s.T,s.Q,lE,s.V⟩ ⟨(Ar.addD R.A k z (f':Nat)).2,((GI R.H.1 id (Ar.slotsD k z)).2,R.H.2),R.N,R.T,R.Q,(En.addD R.E id).2⟩ ((X)++G)) (by unfold Ct;exact A4 []) ?_;refine⟨rfl,⟨s.M,s.C,lA,lH,s.T,s.Q,lE,s.V⟩,X,?_,rfl⟩;exact⟨hR.mem,hR.co,hA,hAn,hH,hR.inv.add _ _,λj hj=>by have:=hR.giv j hj;simp only;omega,hR.th,hR.qu,λj hj=>BP (hR.ql j hj) Af,hE,hR.cu,hR.c1⟩
   have hH0:(if 0<Ar.slotsD k z then((GI R.H.1 id (Ar.slotsD k z)).2,R.H.2) else R.H)=((GI R.H.1 id (Ar.slotsD k z)).2,R.H.2):=Ad hs;have hT0:(if k=9 then(Th.addD R.T id).2 else R.T)=R.T:=Ac Af;have hE0:(if k=8 then(En.addD R.E id).2 else R.E)=R.E:=Ac Af;rw[hH0,hT0,hE0];refine Aj ?_;refine Bk (l':=Cw b p::As.asA p.n R.N::(s.M++(s.C++(lA++(s.H++(s.T++(s.Q++(s.E++(s.V++(X++G)))))))))) (A4 []) ?_;refine Aj ?_;refine Bk (l':=s.H++(Cw b p::As.asA p.n R.N::(s.M++(s.C++(lA++(s.T++(s.Q++(s.E++(s.V++(X++G)))))))))) (A4 []) ?_;refine AP (Az rfl rfl (NV p.h R.H s.H hR.ho id (Ar.slotsD k z) _)) ?_;rintro _ _ ⟨rfl,lH,hH,rfl⟩;refine Aj ?_;refine A9 (l':=Ct b p ⟨s.M,s.C,lA,lH,s.T,s.Q,s.E,s.V⟩ ⟨(Ar.addD R.A k z (f':Nat)).2,((GI R.H.1 id (Ar.slotsD k z)).2,R.H.2),R.N,R.T,R.Q,R.E⟩ ((X)++G)) (by unfold Ct;exact A4 []) ?_;refine⟨rfl,⟨s.M,s.C,lA,lH,s.T,s.Q,s.E,s.V⟩,X,?_,rfl⟩;exact⟨hR.mem,hR.co,hA,hAn,hH,hR.inv.add _ _,λj hj=>by have:=hR.giv j hj;simp only;omega,hR.th,hR.qu,λj hj=>BP (hR.ql j hj) Af,hR.en,hR.cu,hR.c1⟩
  ·by_cases h9:k=9
   ·have hH0:(if 0<Ar.slotsD k z then((GI R.H.1 id (Ar.slotsD k z)).2,R.H.2) else R.H)=R.H:=Ac hs;have hT0:(if k=9 then(Th.addD R.T id).2 else R.T)=(Th.addD R.T id).2:=Ad Af;have hE0:(if k=8 then(En.addD R.E id).2 else R.E)=R.E:=Ac Af;rw[hH0,hT0,hE0];refine Aj ?_;refine Bk (l':=Cw b p::As.asA p.n R.N::(s.M++(s.C++(lA++(s.H++(s.T++(s.Q++(s.E++(s.V++(X++G)))))))))) (A4 []) ?_;refine Aj ?_;refine Bk (l':=s.T++(Cw b p::As.asA p.n R.N::(s.M++(s.C++(lA++(s.H++(s.Q++(s.E++(s.V++(X++G)))))))))) (A4 []) ?_;refine AP (Az rfl rfl (Th.add_any p.t R.T s.T hR.th id _)) ?_;rintro _ _ ⟨rfl,lT,hT,rfl⟩;refine Aj ?_;refine A9 (l':=Ct b p ⟨s.M,s.C,lA,s.H,lT,s.Q,s.E,s.V⟩ ⟨(Ar.addD R.A k z (f':Nat)).2,R.H,R.N,(Th.addD R.T id).2,R.Q,R.E⟩ ((X)++G)) (by unfold Ct;exact A4 []) ?_;refine⟨rfl,⟨s.M,s.C,lA,s.H,lT,s.Q,s.E,s.V⟩,X,?_,rfl⟩;exact⟨hR.mem,hR.co,hA,hAn,hR.ho,hR.inv.mono Af,λj hj=>by have:=hR.giv j hj;simp only;omega,hT,hR.qu,λj hj=>BP (hR.ql j hj) Af,hR.en,hR.cu,hR.c1⟩
   by_cases h8:k=8
   ·have hH0:(if 0<Ar.slotsD k z then((GI R.H.1 id (Ar.slotsD k z)).2,R.H.2) else R.H)=R.H:=Ac hs;have hT0:(if k=9 then(Th.addD R.T id).2 else R.T)=R.T:=Ac Af;have hE0:(if k=8 then(En.addD R.E id).2 else R.E)=(En.addD R.E id).2:=Ad Af;rw[hH0,hT0,hE0];refine Aj ?_;refine Bk (l':=Cw b p::As.asA p.n R.N::(s.M++(s.C++(lA++(s.H++(s.T++(s.Q++(s.E++(s.V++(X++G)))))))))) (A4 []) ?_;refine Aj ?_;refine Bk (l':=s.E++(Cw b p::As.asA p.n R.N::(s.M++(s.C++(lA++(s.H++(s.T++(s.Q++(s.V++(X++G)))))))))) (A4 []) ?_;refine AP (Az rfl rfl (En.add_any p.e R.E s.E id hR.en _)) ?_;rintro _ _ ⟨rfl,lE,hE,rfl⟩;refine Aj ?_;refine A9 (l':=Ct b p ⟨s.M,s.C,lA,s.H,s.T,s.Q,lE,s.V⟩ ⟨(Ar.addD R.A k z (f':Nat)).2,R.H,R.N,R.T,R.Q,(En.addD R.E id).2⟩ ((X)++G)) (by unfold Ct;exact A4 []) ?_;refine⟨rfl,⟨s.M,s.C,lA,s.H,s.T,s.Q,lE,s.V⟩,X,?_,rfl⟩;exact⟨hR.mem,hR.co,hA,hAn,hR.ho,hR.inv.mono Af,λj hj=>by have:=hR.giv j hj;simp only;omega,hR.th,hR.qu,λj hj=>BP (hR.ql j hj) Af,hE,hR.cu,hR.c1⟩
   have hH0:(if 0<Ar.slotsD k z then((GI R.H.1 id (Ar.slotsD k z)).2,R.H.2) else R.H)=R.H:=Ac hs;have hT0:(if k=9 then(Th.addD R.T id).2 else R.T)=R.T:=Ac Af;have hE0:(if k=8 then(En.addD R.E id).2 else R.E)=R.E:=Ac Af;rw[hH0,hT0,hE0];refine Aj ?_;refine Aj ?_;refine A9 (l':=Ct b p ⟨s.M,s.C,lA,s.H,s.T,s.Q,s.E,s.V⟩ ⟨(Ar.addD R.A k z (f':Nat)).2,R.H,R.N,R.T,R.Q,R.E⟩ ((X)++G)) (by unfold Ct;exact A4 []) ?_;refine⟨rfl,⟨s.M,s.C,lA,s.H,s.T,s.Q,s.E,s.V⟩,X,?_,rfl⟩;exact⟨hR.mem,hR.co,hA,hAn,hR.ho,hR.inv.mono Af,λj hj=>by have:=hR.giv j hj;simp only;omega,hR.th,hR.qu,λj hj=>BP (hR.ql j hj) Af,hR.en,hR.cu,hR.c1⟩
 ·rw[Ac he] at hmk;rw[hmk];refine Aj ?_;exact BA [] rfl (l':=Ct b p ⟨s.M,s.C,lA,s.H,s.T,s.Q,s.E,s.V⟩ {R with A:=(Ar.addD R.A k z f).2} ([]++G)) (by unfold Ct;exact A4 []) (by exact A8) ⟨rfl,_,_,(⟨hR.mem,hR.co,hA,hAn,hR.ho,hR.inv,hR.giv,hR.th,hR.qu,hR.ql,hR.en,hR.cu,hR.c1⟩:IsRl F C n {R with A:=(Ar.addD R.A k z f).2} p ⟨s.M,s.C,lA,s.H,s.T,s.Q,s.E,s.V⟩).mono Af,rfl⟩
theorem Sk(b:Nat)(p:RP)(l:List Ab)(hm:Cw b p∈l):Fn prog 87 [pV b] l λv l'=>v=pV p.m/\l'=l:=by refine AM func87 ntmps87 λE=>?_;exact EA
theorem YE(b:Nat)(p:RP)(l:List Ab)(hm:Cw b p∈l):Fn prog 100 [pV b] l λv l'=>v=pV p.c/\l'=l:=by refine AM func100 ntmps100 λE=>?_;exact EA
theorem YF(b:Nat)(p:RP)(l:List Ab)(hm:Cw b p∈l):Fn prog 102 [pV b] l λv l'=>v=pV p.q/\l'=l:=by refine AM func102 ntmps102 λE=>?_;exact EA
theorem Ue(b:Nat)(p:RP)(l:List Ab)(hm:Cw b p∈l):Fn prog 263 [pV b] l λv l'=>v=pV p.e/\l'=l:=by refine AM func263 ntmps263 λE=>?_;exact EA
end Go.Proofs.YtlkgekpmileobaaGreat
