/- Laws that the statement's proof leans on (joined out of several texts). -/
import Derived.Test.YtlkgekpmileobaaGreatGd9
set_option maxHeartbeats 4000000
set_option linter.unusedVariables false
set_option linter.unusedSimpArgs false
namespace Go.Proofs.YtlkgekpmileobaaGreat
open Tryz
open List(toArray replicate)
open Go.RowKit
set_option maxRecDepth 20000
variable{F k i C b j T f N k' m n:Nat}{G:List Ab}{E:World}{Q:Exit->Act->World->Prop}{ds:List Deferred}{S S':KT}{p:RP}{c:Ic×Nat}{s:RL}{ks:List (Ic×Nat)}{vs:List Value}{Γ:List Ab->List Ab}{P:Program}{sh:Bool}{fn:Func}{ro:Option Nat}{ops:Array Oper}{L:List (Int×Int)}{x:Int×Int}
theorem al(h:ks[i]?=some c): ∃A B,F5 ks=A++MU c.2 c.1.tb::B/\ ∀T',F5 (ks.set i ({c.1 with tb:=T'},c.2))=A++MU c.2 T'::B:=by
 have hl:=(Ay.1 h).1;refine⟨(F5 ks).take i,(F5 ks).drop (i+1),?_,λT'=>?_⟩
 ·have hm:(F5 ks)[i]?=some (MU c.2 c.1.tb):=by unfold F5;rw[A0,h];rfl
  conv=>lhs;rw[<-Cd i (F5 ks)]
  rw[C4 (by simpa[F5] using hl)];rw[Ay] at hm;obtain⟨_,hm⟩:=hm;rw[hm]
 ·unfold F5;rw[Hj,It,Ad (by simpa using hl)]
theorem vW{x:Value}{T':KA}{l Z:List Ab}(h0:ks[i]?=some c)(h: ∀F,Fn prog f vs (MU c.2 c.1.tb::F) λv l'=>v=x/\l'=MU c.2 T'::F)(hF:Fr1 (F5 ks++Z) l Γ:=by exact Z9):Fn prog f vs l λv l'=>v=x/\l'=Γ (F5 (ks.set i ({c.1 with tb:=T'},c.2))++Z):=by
 obtain⟨A,B,e1,e2⟩:=al h0;obtain⟨A1,rfl,hA⟩:=hF.eq;rw[e1];refine Fn.re (.of_perm (by exact BR:(A1++(A++MU c.2 c.1.tb::B++Z)).Perm (MU c.2 c.1.tb::(A1++(A++(B++Z)))))) (h (A1++(A++(B++Z)))) λv l' ⟨h1,h2⟩=>⟨_,?_,h1,rfl⟩
 rw[h2,hA,e2];exact A4 []
theorem pA(ks:List (Ic×Nat))(h:ks[i]?=some c)(T':KA):(ks.set i ({c.1 with tb:=T'},c.2)).flatMap O3=ks.flatMap O3:=by
 induction ks generalizing i with
 |nil=>cases h
 |cons a ks ih=>
  cases i with
  |zero=>cases h;rfl
  |succ i=>rw[HY,Cr,Cr,ih (by simpa using h)]
theorem iR{T:KA}(h: ∀s,s<4->T.d s=0\/T.d s=1)(x:Lm): ∀s,s<4->(JM T x).2.d s=0\/(JM T x).2.d s=1:=by
 intro s hs;unfold JM
 split
 ·exact h s hs
 split
 ·exact h s hs
 ·rename_i hb _ _;unfold Tk at hb;have h4:(x.pg%4).toNat<4:=by omega
  simp only[Qu.upd]
  split
  ·have:=h _ h4;omega
  ·exact h s hs
section
theorem YP(hK:IsK F C k S p s)(n pg:Int):Fn prog 163 [pV p.c,.int .i64 n,pV p.m,.int .i64 pg] (Aw b p s S G) (KK F C b p k (.tuple #[qP (DA S.K S.W n pg).1.1,.bool (DA S.K S.W n pg).1.2.1,iV (DA S.K S.W n pg).1.2.2]) {S with K:=(DA S.K S.W n pg).2} G):=by
 obtain⟨mb,f1,f2,hW,hu,hM⟩:=hK.mem;refine uz hK (A7 _) λgb cap sp' ks G e1 hd hG=>?_;have m1:Oj p.m mb F∈G:=hG _ (by rw[hM];simp);have m2:Se mb S.W∈G:=hG _ (by rw[hM];simp);have hl:S.K.length=ks.length:=by rw[<-e1,A3]
 show Fn _ _ _ (Rv p.c (.slice (some ⟨gb,0,none⟩) ks.length cap)::S6 gb ks sp'::(F5 ks++G)) _;refine AM func163 ntmps163 λE=>?_;refine AO λb8=>?_;refine tq (λl2 h2=>QU p.c gb ks.length cap n l2 (h2 _ (.tail _ (.head _)))) ?_;unfold dm;have ret: ∀(A:List Ab),A++Rv p.c (.slice (some ⟨gb,0,none⟩) ks.length cap)::S6 gb ks sp'::(F5 ks++G)=A++(ak p.c gb cap sp' ks++G):=λ_=>rfl;by_cases hb:n<0\/n>=ks.length
 ·rw[Ad hb,Ad hb,show DA S.K S.W n pg=((Pz,false,3),S.K) by unfold DA Mk;rw[hl,Ad (by rw[Ad hb];decide)]];refine Aj ?_;exact A9 .refl ⟨rfl,ks,[Kn b8 Pz],e1,hd,rfl,rfl⟩
 rw[Ac hb,Ac hb];have e0:¬¬Mk S.K n=0:=by unfold Mk;rw[hl,Ac hb];decide
 obtain⟨i,rfl⟩: ∃q:Nat,n=q:=⟨n.toNat,Af⟩
 have hi:i<ks.length:=by omega
 obtain⟨c,h0⟩: ∃c,ks[i]?=some c:=⟨_,Al hi⟩
 have hcm:c∈ks:=A6 h0;have hcg:PC S.K (i:Nat)=c.1:=by unfold PC;rw[AY,<-e1,List.getD,A0,h0];rfl
 rw[AY];have c0:(toArray (ks.flatMap O3++sp'))[i*3]?=some (iV c.1.ro):=OI h0 (j:=0) AX;have c1:(toArray (ks.flatMap O3++sp'))[i*3+1]?=some (iV c.1.sp):=OI h0 (j:=1) AX;have c2:(toArray (ks.flatMap O3++sp'))[i*3+2]?=some (pV c.2):=OI h0 (j:=2) AX;obtain⟨A,B,eA,eB⟩:=al h0;have mt:MU c.2 c.1.tb∈F5 ks++G:=by rw[eA];simp
 by_cases hp:pg<0\/pg>=512
 ·rw[show DA S.K S.W i pg=((Pz,false,3),S.K) by unfold DA;rw[Ac e0,Ad hp]];by_cases h1:pg<0<;>by_cases h2:pg>=512;all_goals first
   |(exfalso;omega)
   |(refine Aj ?_
     exact A9 .refl ⟨rfl,ks,[Kn b8 Pz],e1,hd,rfl,rfl⟩)
 by_cases hr:c.1.ro<0
 ·rw[show DA S.K S.W i pg=((Pz,false,19),S.K) by unfold DA;rw[Ac e0,Ac hp,hcg,Ad hr]];refine Aj ?_;exact A9 .refl ⟨rfl,ks,[Kn b8 Pz],e1,hd,rfl,rfl⟩
 refine Aj ?_;refine Cn (Ck [13,14] 0 16) ?_;refine Cs ?_;refine ZR ?_ (AJ rfl rfl λl2 h2=>di c.2 c.1.tb c.1.sp pg l2 (h2 _ (.tail _ (.tail _ (.tail _ mt)))));refine Cs ?_;refine Hm e_alloc (by rintro _ _ ⟨_,_,_,rfl⟩ c hc;exact .tail _ hc) ?_;rintro _ _ ⟨b13,_,rfl,rfl⟩;refine Cs ?_;obtain⟨x,hx⟩: ∃x,(Si c.1.tb c.1.sp pg).1=x:=⟨_,rfl⟩
 rw[hx];refine Cs ?_;cases hf:(Si c.1.tb c.1.sp pg).2 with
 |true=>rw[show DA S.K S.W i pg=((x,true,0),S.K) by unfold DA;rw[Ac e0,Ac hp,hcg,Ac hr,Ad hf,hx]];refine Aj ?_;exact A9 .refl ⟨rfl,ks,[Kn b13 x,Kn b8 x],e1,hd,rfl,rfl⟩
 |false=>
 refine Aj ?_;refine tq (λl2 h2=>dh p.m mb F S.W f2 hW hu c.1.ro pg l2 (h2 _ (.tail _ (.tail _ (.tail _ (.tail _ (Aa _ m1)))))) (h2 _ (.tail _ (.tail _ (.tail _ (.tail _ (Aa _ m2))))))) ?_;obtain⟨e,he⟩: ∃e,(Nu S.W c.1.ro pg).1=e:=⟨_,rfl⟩
 rw[he];refine Aj ?_;refine AP e_alloc ?_;rintro _ _ ⟨b15,_,rfl,rfl⟩;by_cases hw:(Nu S.W c.1.ro pg).2=0
 case neg=>rw[show DA S.K S.W i pg=((Pz,false,(Nu S.W c.1.ro pg).2),S.K) by unfold DA;rw[Ac e0,Ac hp,hcg,Ac hr,Ac (by rw[hf];decide),Ad hw]];refine Aj ?_;exact A9 .refl ⟨rfl,ks,[(b15,Obj.cells (toArray (Sg e)) 390 (0,0)),Kn b13 x,Kn b8 Pz],e1,hd,rfl,rfl⟩
 obtain⟨y,hy2⟩: ∃y:Lm,y=⟨c.1.sp,pg,e.fr,e.rd,e.wr⟩:=⟨_,rfl⟩
 have hy:vT S.W c.1 pg=y:=by rw[hy2];unfold vT;rw[he]
 rw[show DA S.K S.W i pg=((y,false,0),S.K.set i {c.1 with tb:=(JM c.1.tb y).2}) by unfold DA;rw[Ac e0,Ac hp,hcg,Ac hr,Ac (by rw[hf];decide),Ac (FL hw),hy,AY]];clear hy;subst hy2;refine Aj ?_;refine Cn (Ck [12,13] 0 14) ?_;refine Cs ?_;refine Hm e_alloc (by rintro _ _ ⟨_,_,_,rfl⟩ c hc;exact .tail _ hc) ?_;rintro _ _ ⟨b16,_,rfl,rfl⟩;refine Cs ?_;refine Aj ?_;refine Cn (Ck [5] 0 6) ?_;refine Cs ?_;refine JS (Az rfl rfl (vW h0 λF=>dl c.2 c.1.tb (hd c hcm) ⟨c.1.sp,pg,e.fr,e.rd,e.wr⟩ F)) ?_;rintro _ _ ⟨rfl,rfl⟩;refine Cs ?_;refine Aj ?_;obtain⟨y,hy2⟩: ∃y:Lm,y=⟨c.1.sp,pg,e.fr,e.rd,e.wr⟩:=⟨_,rfl⟩
 rw[<-hy2];refine BA [] rfl .refl (by exact A8) ⟨by rw[hy2];rfl,ks.set i ({c.1 with tb:=(JM c.1.tb y).2},c.2),[Kn b16 y,(b15,Obj.cells (toArray (Sg e)) 390 (0,0)),Kn b13 x,Kn b8 y],by rw[Hj,e1],Vm hd (iR (hd c hcm) y),by simp,?_⟩;unfold ak S6;rw[pA ks h0,Cv];subst hy2;rfl
instance{n pg:Int}:EK prog F C b p 163 [pV p.c,.int .i64 n,pV p.m,.int .i64 pg] k S k (.tuple #[qP (DA S.K S.W n pg).1.1,.bool (DA S.K S.W n pg).1.2.1,iV (DA S.K S.W n pg).1.2.2]) {S with K:=(DA S.K S.W n pg).2}:=⟨λs G h=>YP h n pg⟩
theorem iS(hK:IsK F C k S p s)(n pg:Int): ∃x,Fn prog 109 [pV p.c,.int .i64 n,pV p.m,.int .i64 pg] (Aw b p s S G) (KK F C b p k x {S with K:=(DA S.K S.W n pg).2} G):=by
 refine⟨.bool (decide ((DA S.K S.W n pg).1.2.2=0)&&!(DA S.K S.W n pg).1.2.1),?_⟩;refine AM func109 ntmps109 λE=>?_;refine Aj ?_;refine FI ?_;intro S1 s1 L1 hS hK1 hT1 mr1;refine AO λb9=>?_;obtain⟨x,hx⟩: ∃x,(DA S.K S.W n pg).1.2.1=x:=⟨_,rfl⟩
 obtain⟨e,he⟩: ∃e,(DA S.K S.W n pg).1.2.2=e:=⟨_,rfl⟩
 rw[hx,he];by_cases h0:e=0;all_goals
  refine Aj ?_;exact A5
theorem nu(hK:IsK F C k S p s)(n st wy:Int):Fn prog 110 [pV p.c,.int .i64 n,.int .i64 st,.int .i64 wy] (Aw b p s S G) (KK F C b p k (.bool (iy S.K n st wy).1) {S with K:=(iy S.K n st wy).2} G):=by
 refine uz hK (A7 _) λgb cap sp' ks G e1 hd hG=>?_;have hl:S.K.length=ks.length:=by rw[<-e1,A3]
 show Fn _ _ _ (Rv p.c (.slice (some ⟨gb,0,none⟩) ks.length cap)::S6 gb ks sp'::(F5 ks++G)) _;refine AM func110 ntmps110 λE=>?_;refine Aj ?_;refine tq (λl2 h2=>QU p.c gb ks.length cap n l2 (h2 _ (.head _))) ?_;unfold dm;by_cases hb:n<0\/n>=ks.length
 ·rw[Ad hb,Ad hb,show iy S.K n st wy=(false,S.K) by unfold iy Mk;rw[hl,Ad (by rw[Ad hb];decide)]];refine Aj ?_;exact A9 .refl ⟨rfl,ks,[],e1,hd,rfl,rfl⟩
 rw[Ac hb,Ac hb];have e0:¬¬Mk S.K n=0:=by unfold Mk;rw[hl,Ac hb];decide
 obtain⟨i,rfl⟩: ∃q:Nat,n=q:=⟨n.toNat,Af⟩
 have hi:i<ks.length:=by omega
 obtain⟨c,h0⟩: ∃c,ks[i]?=some c:=⟨_,Al hi⟩
 have hcm:c∈ks:=A6 h0;have hcg:PC S.K (i:Nat)=c.1:=by unfold PC;rw[AY,<-e1,List.getD,A0,h0];rfl
 rw[AY];have c2:(toArray (ks.flatMap O3++sp'))[i*3+2]?=some (pV c.2):=OI h0 (j:=2) AX;rw[show iy S.K i st wy=((Mj c.1.tb st wy).1,S.K.set i {c.1 with tb:=(Mj c.1.tb st wy).2}) by unfold iy;rw[Ac e0,hcg,AY]];refine Aj ?_;refine Ia (Az rfl rfl (vW h0 (λF=>YM c.2 c.1.tb st wy F))) rfl rfl rfl ?_;rintro _ _ ⟨rfl,rfl⟩;refine Aj ?_;refine BA [] rfl .refl (by exact A8) ⟨rfl,ks.set i ({c.1 with tb:=(Mj c.1.tb st wy).2},c.2),[],by rw[Hj,e1],Vm hd (λs hs=>by unfold Mj;split<;>exact hd c hcm s hs),by simp,?_⟩;unfold ak S6;rw[pA ks h0,Cv];rfl
instance{n st wy:Int}:EK prog F C b p 110 [pV p.c,.int .i64 n,.int .i64 st,.int .i64 wy] k S k (.bool (iy S.K n st wy).1) {S with K:=(iy S.K n st wy).2}:=⟨λs G h=>nu h n st wy⟩
end
section
variable{fr:Fr}{l:List Ab}{tbl:List (List Nat)}{g:Bool}{sp:Fj}{pl:List BF}{v:Value}{d:Nat}{o:Oper}{K:Value->List Ab->Prop}
theorem x6{S:List Ab}(hS: ∀c,c∈S->c∈l)(h:OpQ P ro N fr S o v)(hk:MP P ro N E ops Q tbl false ((i,S)::sp) pl ((d,v)::fr) ds l)(hw:o.guard=none:=by rfl)(hd:o.dst=some d:=by rfl)(hb:Nat.blt d N=true:=by rfl):MP P ro N E ops Q tbl g sp ((i,true,o)::pl) fr ds l:=
 ⟨λ_=>FM h hS hw hd hb (hk.h λh=>by cases h)⟩
theorem nv{α:Type}{L:List α}{x z:α}(h:x∈L)(hz:L.getLast?=some z):x∈L.dropLast\/x=z:=by
 have hne:L≠[]:=List.ne_nil_of_mem h;rw[<-Gq hne] at h;rcases AE.1 h with h|h
 ·exact .inl h
 ·right;rw[Ax.1 h];rw[List.getLast?_eq_some_getLast hne] at hz;cases hz;rfl
theorem pB{S:List Ab}(h:OpE P ro N fr l o K)(hS: ∀v l',K v l'-> ∀c,c∈S->c∈l')(hk: ∀v l',K v l'->MP P ro N E ops Q tbl false sp pl ((d,v)::fr) ds l')(hl:sp.getLast?=some (j,S):=by rfl)(hw:o.guard=none:=by rfl)(hd:o.dst=some d:=by rfl)(hb:Nat.blt d N=true:=by rfl)(ha:(sp.dropLast.map Prod.fst).all (λq=>Fl tbl i q)=true:=by kernel_rfl):MP P ro N E ops Q tbl g sp ((i,false,o)::pl) fr ds l:=
 ⟨λ_=>GC h hw hd hb (λ_ _ _ _ h=>nomatch h) (λv l' k x hx hn=>by
   rcases nv hx hl with hx|rfl
   ·rw[AZ.1 ha x.1 (Au.2 ⟨x,hx,rfl⟩)] at hn;cases hn
   ·exact hS v l' k) λv l' k=>(hk v l' k).h λh=>by cases h⟩
end
abbrev kT(B b:Nat):Ab:=(B,.cells (toArray [pV b]) 155 (0,0))
theorem Sr(b:Nat)(l:List Ab):Fn prog 341 [pV b] l λv l'=> ∃B,v= .func (.func 375) #[] #[pV B]/\l'=kT B b::l:=by refine AM func341 ntmps341 λE=>?_;refine AO λb1=>?_;exact A9 .refl ⟨_,rfl,rfl⟩
theorem am(h:j<n):(List.range n).take (j+1)=(List.range n).take j++[j]:=by rw[Cg,ES h];rfl
theorem Qd(B b gb cap:Nat)(sp:List Value)(ks:List (Ic×Nat))(hn:ks.length<=3):Fa prog 375 [pV B] (λk:Nat=>[pV ((ks.getD k (kR,0)).2)]) (λxs=>xs=List.range ks.length) (λpre=>pre<+:List.range ks.length)
 (λ_ l=>kT B b∈l/\Rv b (.slice (some ⟨gb,0,none⟩) ks.length cap)∈l/\S6 gb ks sp∈l):=by
 refine⟨λr I Ix G0 hneed hY l G hG h0=>?_⟩;obtain⟨n1,n2,n3⟩:=hneed _ _ G hG h0;refine AM func375 ntmps375 λE=>?_;refine Aj ?_;refine CE (α:=Nat×List Ab) (λx=>[(0,.func (.yield r) #[] #[]),(1,pV B),(10,.int .i64 (ks.length:Nat)),(11,.int .i64 (x.1:Nat))]) (λx=>x.2++G) (λx=>x.1<=ks.length/\I ((List.range ks.length).take x.1) x.2) (λx=>ks.length-x.1) (0,l) ⟨Bl _,h0⟩ ⟨rfl,rfl,rfl,rfl,trivial⟩ .refl ?_;clear n1 n2 n3;rintro⟨i,l⟩ ⟨hi,hI⟩;simp only at hi hI⊢;obtain⟨n1,n2,n3⟩:=hneed _ _ G hG hI;by_cases hlt:i<ks.length
 case neg=>
  obtain rfl:i=ks.length:=by omega
  rw[Bv (by simp)] at hI;refine Aj ?_;exact A9 .refl ⟨l,rfl,.inl ⟨_,rfl,hI⟩⟩
 obtain⟨c,h0⟩: ∃c,ks[i]?=some c:=⟨_,Al hlt⟩
 have c2:(toArray (ks.flatMap O3++sp))[i*3+2]?=some (pV c.2):=OI h0 (j:=2) AX;have hy:=hY ((List.range ks.length).take i) i l G hG hI (by rw[<-am hlt];exact BE _ _);rw[show ks.getD i (kR,0)=c by rw[List.getD,h0];rfl] at hy;refine Aj ?_;refine Ia (CQ rfl rfl hy) rfl rfl rfl ?_;rw[<-am hlt];rintro v _ ⟨l1,rfl,⟨rfl,hI'⟩|⟨rfl,hx⟩⟩
 ·refine Aj ?_;exact BV (i+1,l1) ⟨by simp only;omega,hI'⟩ (by simp only;omega) ⟨rfl,rfl,rfl,rfl,trivial⟩ .refl
 ·refine Aj ?_;exact A9 .refl ⟨l1,rfl,.inr ⟨_,BE _ _,hx⟩⟩
def Ss(ks:List (Ic×Nat))(f:Lm->Bool)(j:Nat):List (Ic×Nat):=(ks.take j).map (λc=>({c.1 with tb:=On c.1.tb f},c.2))++ks.drop j
def VJ(ks:List (Ic×Nat))(f:Lm->Bool)(j:Nat):Nat:=((ks.take j).map λc=>Mx c.1.tb f).sum
theorem YQ{f:Lm->Bool}(h:ks[j]?=some c):(Ss ks f j)[j]?=some c/\Ss ks f (j+1)=(Ss ks f j).set j ({c.1 with tb:=On c.1.tb f},c.2)/\VJ ks f (j+1)=VJ ks f j+Mx c.1.tb f:=by
 have hl:=(Ay.1 h).1;have e1:ks.drop j=c::ks.drop (j+1):=by rw[C4 hl];congr 1;exact(Ay.1 h).2
 have e2:ks.take (j+1)=ks.take j++[c]:=by rw[Cg,h];rfl
 have ln:((ks.take j).map λc:Ic×Nat=>(({c.1 with tb:=On c.1.tb f}:Ic),c.2)).length=j:=by simp;omega
 refine⟨?_,?_,?_⟩
 ·unfold Ss;rw[AU (by rw[ln];omega),ln,DD,e1];rfl
 ·unfold Ss;rw[e2,e1,Cm _ _ (by rw[ln];omega),ln,DD,Aq,Am];rfl
 ·unfold VJ;rw[e2,Aq,List.sum_append];simp
theorem QV(ks:List (Ic×Nat))(f:Lm->Bool)(j:Nat):(Ss ks f j).length=ks.length:=by unfold Ss;simp;omega
theorem Vn(ks:List (Ic×Nat))(f:Lm->Bool)(j:Nat):VJ ks f j<=8*j:=by
 have h8: ∀T,Mx T f<=8:=λT=>by unfold Mx;exact BP (CU _ _) (by simp)
 induction j with
 |zero=>simp[VJ]
 |succ j ih=>
  cases h:ks[j]? with
  |some c=>rw[(YQ (f:=f) h).2.2];have:=h8 c.1.tb;omega
  |none=>
   have:ks.take (j+1)=ks.take j:=by rw[Cg,h];simp
   unfold VJ at ih⊢;rw[this];omega
theorem ap(ks:List (Ic×Nat))(f:Lm->Bool):(Ss ks f ks.length).map Prod.fst=If (ks.map Prod.fst) f/\VJ ks f ks.length=PS (ks.map Prod.fst) f/\(Ss ks f ks.length).flatMap O3=ks.flatMap O3/\(Pk ks->Pk (Ss ks f ks.length)):=by unfold Ss VJ If PS;rw[Bv (A7 _),Dp (A7 _),Bf,CJ,CJ,CJ];refine⟨rfl,rfl,by rw[List.flatMap_map],λh c hc=>?_⟩;obtain⟨y,hy,rfl⟩:=Au.1 hc;exact λs hs=>h y hy s hs
section
theorem YR(hK:IsK F C k S p s)(sp pg:Int):Fn prog 301 [pV p.c,.int .i64 sp,.int .i64 pg] (Aw b p s S G) (KK F C b p k (iV (PS S.K (JI sp pg):Nat)) {S with K:=If S.K (JI sp pg)} G):=by
 have hC3:=hK.c1;have hkl:=hK.kl;refine uz hK (A7 _) λgb cap sp' ks G e1 hd hG=>?_;have hl:S.K.length=ks.length:=by rw[<-e1,A3]
 show Fn _ _ _ (Rv p.c (.slice (some ⟨gb,0,none⟩) ks.length cap)::S6 gb ks sp'::(F5 ks++G)) _;obtain⟨q1,q2,q3,q4⟩:=ap ks (JI sp pg);rw[<-e1,<-q2];refine AM func301 ntmps301 λE=>?_;refine AO λb4=>?_;refine AO λb5=>?_;refine AO λb7=>?_;refine AP (Az rfl rfl (Sr p.c _)) ?_;rintro _ _ ⟨B,rfl,rfl⟩;refine Aj ?_;refine C0 (α:=Nat) (ps:=[11]) (lb:=[pV B]) rfl (Qd B p.c gb cap sp' ks Af) (λ_=>rfl) rfl
  (λpre l=>l=kT B p.c::BJ b7 (VJ ks (JI sp pg) pre.length:Nat)::BJ b5 pg::BJ b4 sp::Rv p.c (.slice (some ⟨gb,0,none⟩) ks.length cap)::S6 gb ks sp'::F5 (Ss ks (JI sp pg) pre.length))
  (λc pre l=>False)
  (kT B p.c::BJ b7 0::BJ b5 pg::BJ b4 sp::Rv p.c (.slice (some ⟨gb,0,none⟩) ks.length cap)::S6 gb ks sp'::F5 ks) G (λpre l2 X2 hX h=>by subst h;exact⟨Ah _ (.head _),Ah _ (.tail _ (.tail _ (.tail _ (.tail _ (.head _))))),Ah _ (.tail _ (.tail _ (.tail _ (.tail _ (.tail _ (.head _))))))⟩) .refl (by simp[VJ,Ss]) ?_ ?_ ?_
 ·rintro E r0 rec pre x l' X ⟨fn,tmps,D,rfl⟩ hX rfl hsp;obtain⟨j,hj⟩: ∃j,pre.length=j:=⟨_,rfl⟩
  obtain⟨hx,hxF⟩:x=j/\j<ks.length:=by have h3:=IW hsp (i:=j) (by simp;omega);rw[Ht Af] at h3;have h4:=hsp.length_le;simp[hj] at h3 h4;omega
  subst hx;obtain⟨c,h0⟩: ∃c,ks[x]?=some c:=⟨_,Al hxF⟩
  obtain⟨d1,d2,d3⟩:=YQ (f:=JI sp pg) h0;have hle:=Vn ks (JI sp pg) x;have hle2:=Vn ks (JI sp pg) (x+1);rw[d3] at hle2;rw[hj,show ks.getD x (kR,0)=c by rw[List.getD,h0];rfl];simp only[DG,Ae,Ag];refine D3 (l':=(r0,.loop (Dz fn tmps [11].toArray _ _ D .ready none))::kT B p.c::BJ b7 (VJ ks (JI sp pg) x:Nat)::BJ b5 pg::BJ b4 sp::Rv p.c (.slice (some ⟨gb,0,none⟩) ks.length cap)::S6 gb ks sp'::(F5 (Ss ks (JI sp pg) x)++X)) (.of_perm (AH (l₁:=_::_::_::_::_::_::F5 (Ss ks (JI sp pg) x)))) ?_;refine Aj ?_;refine Cy .here ?_;refine Aj ?_;refine Cn (Ck [4,6] 0 7) ?_;refine x6 (S:=[BJ b7 (VJ ks (JI sp pg) x:Nat)]) (by simp) (DH rfl (.head _) rfl) ?_;refine Cs ?_;refine pB (Az rfl rfl (vW d1 (λF=>YN c.2 c.1.tb sp pg F))) (by rintro _ _ ⟨_,rfl⟩ c hc;rw[Ax.1 hc];exact .tail _ (.tail _ (.head _))) ?_;rintro _ _ ⟨rfl,rfl⟩;refine Cs ?_;refine Aj ?_;refine B0 (kT B p.c::BJ b7 ((VJ ks (JI sp pg) x:Nat)+(Mx c.1.tb (JI sp pg):Nat))::BJ b5 pg::BJ b4 sp::Rv p.c (.slice (some ⟨gb,0,none⟩) ks.length cap)::S6 gb ks sp'::F5 (Ss ks (JI sp pg) (x+1))) (.of_perm ?_) (by rw[Ai,hj,Bh,d3];rfl);rw[d2];exact(AH (l₁:=_::_::_::_::_::_::F5 _)).symm
 ·rintro D xs l' rfl rfl;rw[EM];simp only[Ae];refine Aj ?_;refine AW [D] _ rfl (.refl) (by exact A8) (.drop (.drop (.drop (.drop .refl)))) ⟨rfl,Ss ks (JI sp pg) ks.length,[],by rw[q1],q4 hd,QV ..,?_⟩;unfold ak S6;rw[q3,QV];rfl
 ·rintro D c pre l' hsp h;exact h.elim
theorem YS(hK:IsK F C k S p s)(sp:Int):Fn prog 336 [pV p.c,.int .i64 sp] (Aw b p s S G) (KK F C b p k (iV (PS S.K (PB sp):Nat)) {S with K:=If S.K (PB sp)} G):=by
 have hC3:=hK.c1;have hkl:=hK.kl;refine uz hK (A7 _) λgb cap sp' ks G e1 hd hG=>?_;have hl:S.K.length=ks.length:=by rw[<-e1,A3]
 show Fn _ _ _ (Rv p.c (.slice (some ⟨gb,0,none⟩) ks.length cap)::S6 gb ks sp'::(F5 ks++G)) _;obtain⟨q1,q2,q3,q4⟩:=ap ks (PB sp);rw[<-e1,<-q2];refine AM func336 ntmps336 λE=>?_;refine AO λb4=>?_;refine AO λb7=>?_;refine AP (Az rfl rfl (Sr p.c _)) ?_;rintro _ _ ⟨B,rfl,rfl⟩;refine Aj ?_;refine C0 (α:=Nat) (ps:=[9]) (lb:=[pV B]) rfl (Qd B p.c gb cap sp' ks Af) (λ_=>rfl) rfl
  (λpre l=>l=kT B p.c::BJ b7 (VJ ks (PB sp) pre.length:Nat)::BJ b4 sp::Rv p.c (.slice (some ⟨gb,0,none⟩) ks.length cap)::S6 gb ks sp'::F5 (Ss ks (PB sp) pre.length))
  (λc pre l=>False)
  (kT B p.c::BJ b7 0::BJ b4 sp::Rv p.c (.slice (some ⟨gb,0,none⟩) ks.length cap)::S6 gb ks sp'::F5 ks) G (λpre l2 X2 hX h=>by subst h;exact⟨Ah _ (.head _),Ah _ (.tail _ (.tail _ (.tail _ (.head _)))),Ah _ (.tail _ (.tail _ (.tail _ (.tail _ (.head _)))))⟩) .refl (by simp[VJ,Ss]) ?_ ?_ ?_
 ·rintro E r0 rec pre x l' X ⟨fn,tmps,D,rfl⟩ hX rfl hsp;obtain⟨j,hj⟩: ∃j,pre.length=j:=⟨_,rfl⟩
  obtain⟨hx,hxF⟩:x=j/\j<ks.length:=by have h3:=IW hsp (i:=j) (by simp;omega);rw[Ht Af] at h3;have h4:=hsp.length_le;simp[hj] at h3 h4;omega
  subst hx;obtain⟨c,h0⟩: ∃c,ks[x]?=some c:=⟨_,Al hxF⟩
  obtain⟨d1,d2,d3⟩:=YQ (f:=PB sp) h0;have hle:=Vn ks (PB sp) x;have hle2:=Vn ks (PB sp) (x+1);rw[d3] at hle2;rw[hj,show ks.getD x (kR,0)=c by rw[List.getD,h0];rfl];simp only[DG,Ae,Ag];refine D3 (l':=(r0,.loop (Dz fn tmps [9].toArray _ _ D .ready none))::kT B p.c::BJ b7 (VJ ks (PB sp) x:Nat)::BJ b4 sp::Rv p.c (.slice (some ⟨gb,0,none⟩) ks.length cap)::S6 gb ks sp'::(F5 (Ss ks (PB sp) x)++X)) (.of_perm (AH (l₁:=_::_::_::_::_::F5 (Ss ks (PB sp) x)))) ?_;refine Aj ?_;refine Cy .here ?_;refine Aj ?_;refine Cn (Ck [3,5] 0 6) ?_;refine x6 (S:=[BJ b7 (VJ ks (PB sp) x:Nat)]) (by simp) (DH rfl (.head _) rfl) ?_;refine Cs ?_;refine pB (Az rfl rfl (vW d1 (λF=>YO c.2 c.1.tb sp F))) (by rintro _ _ ⟨_,rfl⟩ c hc;rw[Ax.1 hc];exact .tail _ (.tail _ (.head _))) ?_;rintro _ _ ⟨rfl,rfl⟩;refine Cs ?_;refine Aj ?_;refine B0 (kT B p.c::BJ b7 ((VJ ks (PB sp) x:Nat)+(Mx c.1.tb (PB sp):Nat))::BJ b4 sp::Rv p.c (.slice (some ⟨gb,0,none⟩) ks.length cap)::S6 gb ks sp'::F5 (Ss ks (PB sp) (x+1))) (.of_perm ?_) (by rw[Ai,hj,Bh,d3];rfl);rw[d2];exact(AH (l₁:=_::_::_::_::_::F5 _)).symm
 ·rintro D xs l' rfl rfl;rw[EM];simp only[Ae];refine Aj ?_;refine AW [D] _ rfl (.refl) (by exact A8) (.drop (.drop (.drop .refl))) ⟨rfl,Ss ks (PB sp) ks.length,[],by rw[q1],q4 hd,QV ..,?_⟩;unfold ak S6;rw[q3,QV];rfl
 ·rintro D c pre l' hsp h;exact h.elim
instance{sp pg:Int}:EK prog F C b p 301 [pV p.c,.int .i64 sp,.int .i64 pg] k S k (iV (PS S.K (JI sp pg):Nat)) {S with K:=If S.K (JI sp pg)}:=⟨λs G h=>YR h sp pg⟩
instance{sp:Int}:EK prog F C b p 336 [pV p.c,.int .i64 sp] k S k (iV (PS S.K (PB sp):Nat)) {S with K:=If S.K (PB sp)}:=⟨λs G h=>YS h sp⟩
end
def Mm(S:KT)(id st:Int):Int×KT:=
 if(Th.findH S.T id).isSome=false\/st<0\/4<st then(2,S)
 else(0,if st=1 then{S with T:=(Th.setD S.T {DB S id with st:=st}).2,Q:=(Qu.addQ S.Q id (DB S id).pr).2} else{S with T:=(Th.setD S.T {DB S id with st:=st}).2,Q:=(Qu.dropQ S.Q id).2})
theorem Nv(t:Th.ThT)(ht:TW t):EK prog F C b p 97 [pV p.t,Th.thV t] k S k (iV (Th.setD S.T t).1) {S with T:=(Th.setD S.T t).2}:=inferInstance
section
theorem Pm(hK:IsK F C k S p s)(id st:Int)(hk:k'+(if st=1 then 1 else 0)<=k):Fn prog 98 [pV b,.int .i64 id,.int .i64 st] (Aw b p s S G) (KK F C b p k' (iV (Mm S id st).1) (Mm S id st).2 G):=by
 have mr:Cw b p∈Aw b p s S G:=mR λ_ h=>h;refine AM func98 ntmps98 λE=>?_;refine Aj ?_;refine El ?_;refine AO λb7=>?_;cases hf:(Th.findH S.T id).isSome with
 |false=>rw[show Mm S id st=(2,S) by unfold Mm;rw[Ad (.inl hf)]];refine Aj ?_;exact A5 (hk:=by split at hk<;>omega)
 |true=>
 by_cases hb:st<0\/4<st
 ·rw[show Mm S id st=(2,S) by unfold Mm;rw[Ad (.inr hb)]];by_cases h1:st<0<;>by_cases h2:4<st;all_goals first
   |(exfalso;omega)
   |(refine Aj ?_
     exact A5 (hk:=by split at hk<;>omega))
 have htw:=hK.tO id;obtain⟨t,ht⟩: ∃t,DB S id=t:=⟨_,rfl⟩
 rw[ht] at htw⊢
 replace htw:TW {t with st:=st}:=⟨htw.out⟩
 by_cases h1:st=1
 ·rw[show Mm S id st=(0,{S with T:=(Th.setD S.T {t with st:=st}).2,Q:=(Qu.addQ S.Q id t.pr).2}) by unfold Mm;rw[Ac (by rw[hf];simp;omega),Ad h1,ht]];rw[Ad h1] at hk
  replace hK:IsK F C (k'+1) S p s:=hK.mono hk
  refine Aj ?_;refine Cn (Ck [5] 0 6) ?_;refine Cs ?_;refine LN ?_ (q:=Nv {t with st:=st} htw);intro S1 s1 L1 hS1 hK1 hT1 mr1;refine Cs ?_;refine Aj ?_;refine Cn (Ck [7] 0 8) ?_;refine Cs ?_;refine LN ?_;intro S2 s2 L2 hS2 hK2 hT2 mr2;refine Cs ?_;refine Aj ?_;exact A5
 ·rw[show Mm S id st=(0,{S with T:=(Th.setD S.T {t with st:=st}).2,Q:=(Qu.dropQ S.Q id).2}) by unfold Mm;rw[Ac (by rw[hf];simp;omega),Ac h1,ht]];rw[Ac h1] at hk
  replace hK:IsK F C k' S p s:=hK.mono hk
  refine Aj ?_;refine Cn (Ck [5] 0 6) ?_;refine Cs ?_;refine LN ?_ (q:=Nv {t with st:=st} htw);intro S1 s1 L1 hS1 hK1 hT1 mr1;refine Cs ?_;refine Aj ?_;refine FI ?_;intro S2 s2 L2 hS2 hK2 hT2 mr2;refine Aj ?_;exact A5
def Hq(S:KT)(id addr:Int):Ce×Int:=if(Th.findH S.T id).isSome=false then((0,0),2) else if addr<0 then((0,0),3) else WF S.H.1 S.A (getD' S.H.1 (id,0)).1 addr.toNat 12
theorem qV(hK:IsK F C k S p s)(id addr:Int)(ha:addr<18446744073709551616)(l:List Ab)(hl: ∀c,c∈Aw b p s S G->c∈l):Fn prog 160 [pV b,.int .i64 id,.int .i64 addr] l λv l'=>v= .tuple #[Fz (Hq S id addr).1,iV (Hq S id addr).2]/\l'=l:=by
 have mr:Cw b p∈l:=mR hl;obtain⟨bs,bt,ls,lt,hb⟩:=hK.ho;have mh:LE p.h bs bt∈l:=mH hl _ (by rw[hb.eq];exact .head _);have QT: ∀l2,(∀c,c∈l->c∈l2)->Fn prog 96 [pV p.t,.int .i64 id] l2 _:=λl2 h2=>Th.get_any p.t S.T s.T hK.th id l2 λc hc=>h2 _ (mT hl c hc);have QH: ∀l2,(∀c,c∈l->c∈l2)->Fn prog 166 [pV p.h,.agg (toArray [.int .i64 id,.int .i64 0])] l2 _:=λl2 h2=>IN p.h S.H s.H hK.ho (id,0) l2 λc hc=>h2 _ (mH hl c hc);refine AM func160 ntmps160 λE=>?_;refine AO λb6=>?_;refine tq (λl2 h2=>QT l2 λc hc=>h2 _ (.tail _ hc)) ?_;refine AO λb8=>?_;cases hf:(Th.findH S.T id).isSome with
 |false=>rw[show Hq S id addr=((0,0),2) by unfold Hq;rw[Ad hf]];refine Aj ?_;exact qr
 |true=>
 by_cases h0:addr<0
 ·rw[show Hq S id addr=((0,0),3) by unfold Hq;rw[Ac (by rw[hf];decide),Ad h0]];refine Aj ?_;exact qr
 obtain⟨a,rfl⟩: ∃q:Nat,addr=q:=⟨addr.toNat,Af⟩
 obtain⟨r,hr⟩: ∃r,(getD' S.H.1 (id,0)).1=r:=⟨_,rfl⟩
 rw[show Hq S id a=WF S.H.1 S.A r a 12 by unfold Hq;rw[Ac (by rw[hf];decide),Ac h0,hr,AY]];refine Aj ?_;refine tq (λl2 h2=>QH l2 λc hc=>h2 _ (.tail _ (.tail _ hc))) ?_;rw[hr];refine AO λb10=>?_;refine Cn (Ck [15] 0 17) ?_;refine Cs ?_;refine ZR ?_ (AJ rfl rfl λl2 h2=>Kp p.h bs bt l2 (h2 _ (.tail _ (.tail _ (.tail _ mh)))));refine Cs ?_;refine ZR ?_ (AJ rfl rfl λl2 h2=>WG bs p.a S.H.1 S.A ls s.A hb.s hK.ar hK.rad a Af r 12 l2 (λc hc=>h2 _ (.tail _ (.tail _ (.tail _ (mH hl c (by rw[hb.eq];exact .tail _ (Ah _ hc))))))) (λc hc=>h2 _ (.tail _ (.tail _ (.tail _ (mA hl c hc))))));refine Cs ?_;refine Aj ?_;exact qr
class EV(P:Program)(F C b:Nat)(p:RP)(f:Nat)(vs:List Value)(k:Nat)(S:KT)(k':outParam Nat)(S':outParam KT):Prop where
 out: ∀s G,IsK F C k S p s->Fn P f vs (Aw b p s S G) λ_ l'=> ∃s L,IsK F C k' S' p s/\Tail L G/\l'=Aw b p s S' L
theorem EV.on{l:List Ab}(q:EV P F C b p f vs k S k' S')(hK:IsK F C k S p s)(hF:Fr1 (Aw b p s S G) l Γ):Fn P f vs l λ_ l'=> ∃s' L,IsK F C k' S' p s'/\Tail L G/\l'=Γ (Aw b p s' S' L):=by
 obtain⟨A,rfl,hA⟩:=hF.eq;refine Fn.re (.of_perm (ET b p s S A G)) (q.out s (A++G) hK) λv l' ⟨s',L,h2,⟨X,h3⟩,h4⟩=>⟨Γ (Aw b p s' S' (X++G)),?_,s',_,h2,⟨X,rfl⟩,rfl⟩
 rw[h4,h3,hA];exact .of_perm (Sf ..)
theorem yE{rest:List Oper}{fr:Fr}{l:List Ab}{d:Nat}{x:Operand}{xs:List Operand}{at_:Array TypeId}{ty:TypeId}{pos:String}{aft:Array Edge}{g:Option (Nat×Bool)}(hk: ∀x0 S1 s' L,S1=S'->IsK F C k' S1 p s'->Tail L G->Cw b p∈Aw b p s' S1 L->Dk P ro N E ops Q rest ((d,x0)::fr) ds (Γ (Aw b p s' S1 L)))(hx:ev fr x=some (.func (.func f) #[] #[]):=by rfl)(hy:Qm fr xs=some vs:=by rfl)(hF:Fr1 (Aw b p s S G) l Γ:=by exact Z9)(c:EN P f:=by infer_instance)(hK:IsK F C k S p s:=by infer_instance)(q:EV P F C b p f vs k S k' S':=by infer_instance)(hw:P6 ops fr g=some true:=by rfl)(hb:Nat.blt d N=true:=by rfl):Dk P ro N E ops Q (⟨some d,.call {callee:= .value x,args:=xs.toArray,argTypes:=at_},ty,pos,aft,g⟩::rest) fr ds l:=
 Ia (Az hx hy (q.on hK hF)) hw rfl hb λv l' ⟨s',L,h2,h3,h4⟩=>by rw[h4];exact hk v S' s' L rfl h2 h3 (mR λ_ h=>h)
theorem Nw{D:En.DE}{id:Int}: ∀x,x∈(En.dropD D id).2.2->x∈D:=λx hx=>by
 unfold En.dropD at hx
 split at hx
 ·dsimp only at hx;first|exact(Ci.1 hx).1|exact List.mem_of_mem_eraseP hx|exact hx
 ·dsimp only at hx;first|exact(Ci.1 hx).1|exact hx
instance{id:Int}:EV prog F C b p 369 [pV p.e,.int .i64 id] k S k {S with E:=(En.dropD S.E id).2.2}:=⟨λs G h=>
 Fn.re (.of_perm (by unfold Aw;exact BR)) (En.drop_any p.e S.E s.E id h.en (Cw b p::As.asA p.n S.N::(s.M++(s.C++(s.A++(s.H++(s.T++(s.Q++(s.V++G))))))))) λv l' ⟨sl,cs,h1,h2,q,h3,h4⟩=>⟨Aw b p {s with E:=q} {S with E:=(En.dropD S.E id).2.2} (cs++G),by rw[h4];unfold Aw;exact A4 [],{s with E:=q},_,{h with en:=h3,el:=λy hy=>h.el y (Nw y hy),eo:=λt x y hx hy=>h.eo t x y (Nw x hx) (Nw y hy)},⟨cs,rfl⟩,rfl⟩⟩
def Tm(S:KT)(id:Int):Int×KT:=
 if(Ar.getD' S.A id).2=false then(2,S)
 else if(G4 S.H.1 id).1=16 then(16,{S with H:=((G4 S.H.1 id).2,S.H.2)})
 else(0,{S with H:=((G4 S.H.1 id).2,S.H.2),A:=(Ar.dropD S.A id).2,T:=(Th.dropD S.T id).2,Q:=(Qu.dropQ S.Q id).2,E:=(En.dropD S.E id).2.2})
theorem iT(hK:IsK F C k S p s)(id:Int):Fn prog 330 [pV b,.int .i64 id] (Aw b p s S G) (KK F C b p k (iV (Tm S id).1) (Tm S id).2 G):=by
 have mr:Cw b p∈Aw b p s S G:=mR λ_ h=>h;unfold Tm;refine AM func330 ntmps330 λE=>?_;refine Aj ?_;refine El ?_;refine AO λb5=>?_;cases hf:(Ar.getD' S.A id).2 with
 |false=>rw[Ad rfl];refine Aj ?_;exact A5
 |true=>
 rw[Ac AX];refine Aj ?_;refine FI ?_;intro S1 s1 L1 hS1 hK1 hT1 mr1;obtain⟨e,he⟩: ∃e,(G4 S.H.1 id).1=e:=⟨_,rfl⟩
 rw[he];by_cases h16:e=16
 ·rw[Ad h16];refine Aj ?_;exact A5
 rw[Ac h16];refine Aj ?_;refine FI ?_;intro S2 s2 L2 hS2 hK2 hT2 mr2;refine Aj ?_;refine FI ?_;intro S3 s3 L3 hS3 hK3 hT3 mr3;refine Aj ?_;refine FI ?_;intro S4 s4 L4 hS4 hK4 hT4 mr4;refine Aj ?_;refine yE ?_;intro v5 S5 s5 L5 hS5 hK5 hT5 mr5;refine Aj ?_;exact A5
instance{id:Int}:EK prog F C b p 330 [pV b,.int .i64 id] k S k (iV (Tm S id).1) (Tm S id).2:=⟨λs G h=>iT h id⟩
end
abbrev Uj(t:Th.ThT):Th.ThT:={t with wa:=0,o0:=0,o1:=0,o2:=0,o3:=0,ob:=0,cl:=false,fa:=false,hs:=false,wr:=false,va:=0,vl:=0,gv:=4096,inn:=4096}
abbrev Dw(S:KT)(t:Th.ThT):KT:={S with T:=(Th.setD S.T t).2}
abbrev My(S:KT)(id:Int):Bool:=(Th.findH S.T id).isSome
def kU(S:KT)(id:Int):KT:=if My S (Th.serverD S.T id)=true/\(DB S id).st=4 then Dw S {DB S (Th.serverD S.T id) with ca:=0} else S
def haltE(S:KT)(id:Int):Int×KT:=Mm (Dw S (Uj (DB S id))) id 0
def Ha(S:KT)(id:Int):Int×KT:=
 if My S id=false then(2,S)
 else haltE (kU {S with E:=(En.removeD S.E id).2} id) id
section
instance{id:Int}:EK prog F C b p 98 [pV b,.int .i64 id,.int .i64 1] (k+1) S k (iV (Mm S id 1).1) (Mm S id 1).2:=⟨λs G h=>Pm h id 1 (A7 _)⟩
instance{id:Int}:EK prog F C b p 98 [pV b,.int .i64 id,.int .i64 0] k S k (iV (Mm S id 0).1) (Mm S id 0).2:=⟨λs G h=>Pm h id 0 (A7 _)⟩
instance{id:Int}:EK prog F C b p 98 [pV b,.int .i64 id,.int .i64 2] k S k (iV (Mm S id 2).1) (Mm S id 2).2:=⟨λs G h=>Pm h id 2 (A7 _)⟩
instance{id:Int}:EK prog F C b p 98 [pV b,.int .i64 id,.int .i64 3] k S k (iV (Mm S id 3).1) (Mm S id 3).2:=⟨λs G h=>Pm h id 3 (A7 _)⟩
instance{id:Int}:EK prog F C b p 98 [pV b,.int .i64 id,.int .i64 4] k S k (iV (Mm S id 4).1) (Mm S id 4).2:=⟨λs G h=>Pm h id 4 (A7 _)⟩
theorem qW(hK:IsK F C k S p s)(id:Int):Fn prog 204 [pV b,.int .i64 id] (Aw b p s S G) (KK F C b p k (iV (Ha S id).1) (Ha S id).2 G):=by
 have mr:Cw b p∈Aw b p s S G:=mR λ_ h=>h;unfold Ha My;refine AM func204 ntmps204 λE=>?_;refine Aj ?_;refine El ?_;refine Aj ?_;refine AP e_alloc ?_;rintro _ _ ⟨b5,_,rfl,rfl⟩;cases hf:(Th.findH S.T id).isSome with
 |false=>rw[Ad rfl];refine Aj ?_;exact A5
 |true=>
 rw[Ac AX];refine Aj ?_;refine FI ?_;intro S1 s1 L1 hS1 hK1 hT1 mr1;have eT:S1.T=S.T:=by rw[hS1]
 have eO: ∀i,DB S1 i=DB S i:=λi=>by unfold DB;rw[eT]
 have eI: ∀i,My S1 i=My S i:=λi=>by unfold My;rw[eT]
 rw[<-hS1];refine Aj ?_;refine Cn (Ck [14,15] 0 17) ?_;refine Cs ?_;refine Hm e_alloc (by rintro _ _ ⟨_,_,_,rfl⟩ c hc;exact .tail _ hc) ?_;rintro _ _ ⟨b7,_,rfl,rfl⟩;refine Cs ?_;obtain⟨t,ht⟩: ∃t,DB S id=t:=⟨_,rfl⟩
 have htu:=hK1.tO (Th.serverD S1.T id);obtain⟨u,hu⟩: ∃u,DB S1 (Th.serverD S1.T id)=u:=⟨_,rfl⟩
 rw[hu] at htu;obtain⟨ok,hok⟩: ∃ok,(Th.findH S1.T (Th.serverD S1.T id)).isSome=ok:=⟨_,rfl⟩
 rw[ht,hu,hok];have hfr:kU S1 id=if ok=true/\t.st=4 then Dw S1 {u with ca:=0} else S1:=by unfold kU My;rw[hok,eO id,ht,hu]
 refine Cs ?_;have e1:=eO id;rw[ht] at e1;by_cases h4:ok=true/\t.st=4
 case' pos=>
  obtain⟨rfl,h4⟩:=h4;rw[Ad ⟨rfl,h4⟩] at hfr;rw[hfr];refine Aj ?_;refine Cn (Ck [5] 0 6) ?_;refine Cs ?_;refine LN ?_ (q:=Nv {u with ca:=0} ⟨htu.out⟩);intro S2 s2 L2 hS2 hK2 hT2 mr2;rw[show Dw S1 {u with ca:=0}=S2 from hS2.symm];refine Cs ?_;refine Aj ?_;refine El ?_;obtain⟨t2,ht2⟩: ∃t2,DB S2 id=t2:=⟨_,rfl⟩
  unfold haltE;rw[ht2];refine Aj ?_
 case' neg=>
  rw[Ac h4] at hfr;rw[hfr];have h4':ok=true->¬t.st=4:=λa c=>h4 ⟨a,c⟩;unfold haltE;rw[e1];cases ok
  case' true=>have h4':=h4' rfl
  all_goals refine Aj ?_
 case' pos=>obtain⟨t3,ht3⟩: ∃t3,t3=t2:=⟨_,rfl⟩
 case' neg.true=>obtain⟨t3,ht3⟩: ∃t3,t3=t:=⟨_,rfl⟩
 case' neg.false=>obtain⟨t3,ht3⟩: ∃t3,t3=t:=⟨_,rfl⟩
 all_goals
  rw[<-ht3];refine Bb (Gf (zs:=[.int .u64 0,.int .u64 0,.int .u64 0,.int .u64 0]) (cs:=[.int .u64 0,.int .u64 0,.int .u64 0,.int .u64 0]) rfl rfl) ?_;refine Aj ?_;refine Cn (Ck [5] 0 6) ?_;refine Cs ?_;refine LN ?_ (q:=Nv (Uj t3) ⟨LI,LI⟩);intro S3 s3 L3 hS3 hK3 hT3 mr3;rw[show Dw _ (Uj t3)=S3 from hS3.symm];refine Cs ?_;refine Aj ?_;refine FI ?_;intro S4 s4 L4 hS4 hK4 hT4 mr4;refine Aj ?_;exact A5
end
def Vo:Int->List (Int×Int)->List (Int×Int×Int)
 |_,[]=>[]
 |f,x::r=>(x.1,x.2,f)::Vo (f+Ar.framesD x.1 x.2) r
def Mn:Int->List (Int×Int)->Int
 |f,[]=>f
 |f,x::r=>Mn (f+Ar.framesD x.1 x.2) r
theorem iU(a b:List (Int×Int)): ∀f,Mn f (a++b)=Mn (Mn f a) b:=by
 induction a with
 |nil=>intro f;rfl
 |cons x r ih=>intro f;exact ih _
theorem Ny: ∀(L:List (Int×Int)) (f:Int),(Vo f L).length=L.length
 |[],_=>rfl
 |x::r,f=>by show(Vo _ r).length+1=r.length+1;rw[Ny r]
theorem WV: ∀(L:List (Int×Int)) (f:Int) (m:Nat),(Vo f L)[m]?=L[m]?.map λx=>(x.1,x.2,Mn f (L.take m))
 |[],_,m=>by simp[Vo]
 |x::r,f,0=>rfl
 |x::r,f,m+1=>by show(Vo (f+Ar.framesD x.1 x.2) r)[m]?=_;rw[WV r];rfl
theorem dq(h:L[m]?=some x)(f:Int):Mn f (L.take (m+1))=Mn f (L.take m)+Ar.framesD x.1 x.2:=by rw[Cg,h,iU];rfl
theorem dr(h:L[m]?=some x)(f:Int):(Vo f L).take (m+1)=(Vo f L).take m++[(x.1,x.2,Mn f (L.take m))]:=by rw[Cg,WV,h];rfl
abbrev qX(x:Int×Int×Int):Value:= .agg (toArray [.int .i64 x.1,.int .i64 x.2.1,.int .i64 x.2.2])
abbrev kV(B:Nat)(f:Int):Ab:=(B,.cells (toArray [.int .i64 f]) 3 (0,0))
abbrev nw(B r:Nat):Ab:=(B,.cells (toArray [.func (.yield r) #[] #[]]) 265 (0,0))
theorem iW(r:Nat)(k z f:Int)(hf:0<=f/\f<=1000000)(B3 B2:Nat)(l G:List Ab)(J1 J2:List Ab->Prop)(hy: ∀G2,(∀c,c∈G->c∈G2)->MX prog r [qX (k,z,f)] (l++G2) (λv l'=> ∃l1,l'=l1++G2/\((v= .bool true/\J1 l1)\/(v= .bool false/\J2 l1)))):
 Fn prog 136 [.int .i64 k,.int .i64 z,pV B3,pV B2] (kV B3 f::nw B2 r::(l++G)) λv l'=> ∃l1 X bb,l'=kV B3 (f+Ar.framesD k z)::nw B2 r::(l1++(X++G))/\v= .bool bb/\((bb=true/\J1 l1)\/(bb=false/\J2 l1)):=by
 have hfr:=Ar.frames_rng k z;refine AM func136 ntmps136 λE=>?_;refine AO λb7=>?_;refine Ch [5] 6 ([]) ?_;refine BM ?_;apply FM (S:=[kV B3 f]);(·exact Tf);(·exact CS (.tail _ (.head _)));(·rfl);(·rfl);(·rfl);refine BM ?_;apply Ej
 ·exact AJ rfl rfl (λl hl=>Ar.frames_any k z l)
 ·rfl
 ·rfl
 ·rfl
 refine BM ?_;apply GW
 ·exact F0 rfl rfl rfl (by exact BS) .zero (by exact DI)
 (·rfl);(·rfl);(·intro _ _ _ c hc;cases hc);(·exact λ_ _ _ x hx ha=>C3 Bs hx ha)
 rintro _ _ ⟨rfl,rfl⟩;refine BM ?_;refine Aj ?_;refine Bk (l':=l++((b7,.cells (toArray [.int .i64 k,.int .i64 z,.int .i64 f]) 199 (0,0))::kV B3 (f+Ar.framesD k z)::nw B2 r::G)) (Keep.of_perm (AA [_,_,_] l G)) ?_;refine AP (CQ rfl rfl (hy _ λc hc=> .tail _ (.tail _ (.tail _ hc)))) ?_;rintro v _ ⟨l1,rfl,hJ⟩;obtain⟨bb,rfl,hK⟩: ∃bb,v= .bool bb/\((bb=true/\J1 l1)\/(bb=false/\J2 l1)):=by
  rcases hJ with⟨rfl,h⟩|⟨rfl,h⟩
  ·exact⟨true,rfl,.inl ⟨rfl,h⟩⟩
  ·exact⟨false,rfl,.inr ⟨rfl,h⟩⟩
 refine Aj ?_;refine A9 (l':=kV B3 (f+Ar.framesD k z)::nw B2 r::(l1++([(b7,.cells (toArray [.int .i64 k,.int .i64 z,.int .i64 f]) 199 (0,0))]++G))) (A4 []) ?_;exact⟨l1,_,bb,rfl,rfl,hK⟩
def fh(T:Nat)(sh:Bool):List (Int×Int):=(replicate T [(9,0),(2,4),(5,0),(6,0)]).flatten++(if sh then[(8,0)] else[])
def sO(F T:Nat)(sh:Bool):Int:=((F:Int)-Mn 0 (fh T sh))/T
def YT(F T:Nat)(sh:Bool):List (Int×Int):=fh T sh++replicate T (1,sO F T sh)
def D7(F T:Nat)(sh:Bool):List (Int×Int×Int):=Vo 0 (YT F T sh)
def Ob(F T:Nat)(sh:Bool)(m:Nat):Int:=Mn 0 ((YT F T sh).take m)
abbrev Tn(B F C T:Nat)(sh:Bool):Ab:=(B,.cells (toArray [.int .i64 F,.int .i64 C,.int .i64 T,.bool sh]) 23 (0,0))
theorem WW: ∀(L:List (Int×Int)) (f:Int),0<=f->0<=Mn f L/\Mn f L<=f+64*L.length
 |[],f,h=>by show 0<=f/\f<=f+64*0;omega
 |x::r,f,h=>by have h1:=Ar.frames_rng x.1 x.2;have h2:=WW r (f+Ar.framesD x.1 x.2) Af;show 0<=Mn _ r/\Mn _ r<=f+64*((r.length+1:Nat):Int);omega
theorem pC: ∀(T i j:Nat),i<T->j<4->((replicate T [((9:Int),(0:Int)),(2,4),(5,0),(6,0)]).flatten)[4*i+j]?=[((9:Int),(0:Int)),(2,4),(5,0),(6,0)][j]?
 |0,i,j,h,_=>by omega
 |T+1,0,j,_,hj=>by rw[BG,Cq,Nat.mul_zero,BC,AF (by simpa using hj)]
 |T+1,i+1,j,h,hj=>by rw[BG,Cq,show 4*(i+1)+j=(4*i+j)+4 by omega,AU (by simp)];exact pC T i j Af hj
theorem N2(T:Nat):((replicate T [((9:Int),(0:Int)),(2,4),(5,0),(6,0)]).flatten).length=4*T:=by
 induction T with
 |zero=>rfl
 |succ T ih=>rw[BG,Cq,Ai,ih];simp;omega
theorem N3(T:Nat)(sh:Bool):(fh T sh).length=4*T+sh.toNat:=by unfold fh;rw[Ai,N2];cases sh<;>rfl
theorem Pn(F T:Nat)(sh:Bool):(YT F T sh).length=5*T+sh.toNat:=by unfold YT;rw[Ai,N3,IX];omega
theorem QW(hi:i<T)(hj:j<4):(YT F T sh)[4*i+j]?=[((9:Int),(0:Int)),(2,4),(5,0),(6,0)][j]?:=by unfold YT;rw[AF (by rw[N3];omega)];unfold fh;rw[AF (by rw[N2];omega)];exact pC T i j hi hj
theorem qY:(YT F T true)[4*T]?=some (8,0):=by unfold YT;rw[AF (by rw[N3];simp)];unfold fh;rw[AU (by rw[N2];omega),N2,DD];rfl
theorem iX(hi:i<T):(YT F T sh)[4*T+sh.toNat+i]?=some (1,sO F T sh):=by unfold YT;rw[AU (by rw[N3];omega),N3,Cx,Ee,Ad hi]
theorem aq(F T:Nat)(sh:Bool):(YT F T sh).take (4*T+sh.toNat)=fh T sh:=by unfold YT;rw[<-N3,List.take_left]
theorem JV{L1 G':List Ab}(h:Keep G G'):Keep (L1++G) (L1++G'):=by obtain⟨X,hX⟩:=h;exact⟨X,(hX.append_left L1).trans (AA L1 X G')⟩
theorem St(hT:T<=3){k z:Int}(hm:(YT F T sh)[m]?=some (k,z)){r:Nat}{I Ix:List (Int×Int×Int)->List Ab->Prop}{G0:List Ab}
 (hY: ∀pre x l G,(∀c,c∈G0->c∈G)->I pre l->pre++[x]<+:D7 F T sh->MX prog r [qX x] (l++G) (λv l'=> ∃l1,l'=l1++G/\((v= .bool true/\I (pre++[x]) l1)\/(v= .bool false/\Ix (pre++[x]) l1))))
 {l:List Ab}(hG: ∀c,c∈G0->c∈G)(hI:I ((D7 F T sh).take m) l)(B3 B2:Nat):
 Fn prog 136 [.int .i64 k,.int .i64 z,pV B3,pV B2] (kV B3 (Ob F T sh m)::nw B2 r::(l++G)) λv l'=> ∃l1 X bb,l'=kV B3 (Ob F T sh (m+1))::nw B2 r::(l1++(X++G))/\v= .bool bb/\((bb=true/\I ((D7 F T sh).take (m+1)) l1)\/(bb=false/\Ix ((D7 F T sh).take (m+1)) l1)):=by
 have e1:(D7 F T sh).take (m+1)=(D7 F T sh).take m++[(k,z,Ob F T sh m)]:=dr hm 0;have e2:Ob F T sh (m+1)=Ob F T sh m+Ar.framesD k z:=dq hm 0;rw[e1,e2];have hb:0<=Ob F T sh m/\Ob F T sh m<=1000000:=by
  have h1:=WW ((YT F T sh).take m) 0 (Int.le_refl 0);have h2:((YT F T sh).take m).length<=16:=by
   rw[C6,Pn];have:sh.toNat<=1:=by cases sh<;>decide
   omega
  unfold Ob;omega
 exact iW r k z _ hb B3 B2 l G _ _ λG2 hG2=>hY _ (k,z,Ob F T sh m) l G2 (λc hc=>hG2 c (hG c hc)) hI (by rw[<-e1];exact BE _ _)
theorem YU(F C T:Nat)(sh:Bool)(l:List Ab):Fn prog 91 [.agg (toArray [.int .i64 F,.int .i64 C,.int .i64 T,.bool sh])] l λv l'=> ∃B1,v= .func (.func 135) #[] #[pV B1]/\l'=Tn B1 F C T sh::l:=by refine AM func91 ntmps91 λE=>?_;refine Aj ?_;refine AP (CK rfl) ?_;rintro _ _ ⟨B1,_,rfl,rfl⟩;refine Aj ?_;exact A9 .refl ⟨B1,rfl,rfl⟩
theorem WX(B1 F C T:Nat)(sh:Bool)(hT1:1<=T)(hT:T<=3)(hF:11*T<=F)(hF2:F<=64):oZ prog 135 [pV B1] (λx=>[qX x]) (λxs=>xs=D7 F T sh) (λpre=>pre<+:D7 F T sh) (λ_ _=>True) [Tn B1 F C T sh]:=by
 refine⟨λr I Ix G0 hneed hY l G hG h0=>?_⟩;refine AM func135 ntmps135 λE=>?_;refine Aj ?_;refine AP (Eb rfl rfl) ?_;rintro _ _ ⟨B2,_,rfl,rfl⟩;refine Aj ?_;refine AP e_alloc ?_;rintro _ _ ⟨B3,_,rfl,rfl⟩;have hmc:Tn B1 F C T sh∈l++([Tn B1 F C T sh]++G):=Aa _ (.head _);refine Aj ?_;refine CE (α:=Nat×List Ab×List Ab) (λx=>[(1,pV B1),(3,pV B3),(4,.func (.func 136) #[] #[pV B3,pV B2]),(8,.int .i64 T),(9,.int .i64 x.1)]) (λx=>kV B3 (Ob F T sh (4*x.1))::nw B2 r::(x.2.1++(x.2.2++(Tn B1 F C T sh::G)))) (λx=>x.1<=T/\I ((D7 F T sh).take (4*x.1)) x.2.1) (λx=>T-x.1) (0,l,[]) ⟨Bl _,h0⟩ ⟨rfl,rfl,rfl,rfl,rfl,trivial⟩ .refl ?_;rintro⟨i,l0,X0⟩ ⟨hi,hI0⟩;simp only at hi hI0⊢;have hmc:Tn B1 F C T sh∈l0++(X0++(Tn B1 F C T sh::G)):=Aa _ (Aa _ (.head _));by_cases hlt:i<T
 ·refine Aj ?_;refine AP (Da rfl rfl (St (F:=F) (sh:=sh) hT (m:=4*i+0) (QW hlt AX) hY (G:=X0++(Tn B1 F C T sh::G)) (λc hc=>Aa _ ((.tail _ (hG c hc)))) hI0 B3 B2)) ?_;rintro _ _ ⟨l1,X1,bb,rfl,rfl,hbb⟩;rcases hbb.symm with⟨rfl,hx⟩|⟨rfl,hI1⟩
  ·refine Aj ?_;exact A9 (l':=l1++G) (.drop (.drop (JV (Keep.dropL X1 (Keep.dropL X0 ((.drop .refl))))))) ⟨l1,rfl,.inr ⟨_,BE _ _,hx⟩⟩
  refine Aj ?_;refine Ia (Da rfl rfl (St (F:=F) (sh:=sh) hT (m:=4*i+1) (QW hlt AX) hY (G:=X1++(X0++(Tn B1 F C T sh::G))) (λc hc=>Aa _ (Aa _ ((.tail _ (hG c hc))))) hI1 B3 B2)) rfl rfl rfl ?_;rintro _ _ ⟨l2,X2,bb,rfl,rfl,hbb⟩;rcases hbb.symm with⟨rfl,hx⟩|⟨rfl,hI2⟩
  ·refine Aj ?_;exact A9 (l':=l2++G) (.drop (.drop (JV (Keep.dropL X2 (Keep.dropL X1 (Keep.dropL X0 ((.drop .refl)))))))) ⟨l2,rfl,.inr ⟨_,BE _ _,hx⟩⟩
  refine Aj ?_;refine Ia (Da rfl rfl (St (F:=F) (sh:=sh) hT (m:=4*i+2) (QW hlt AX) hY (G:=X2++(X1++(X0++(Tn B1 F C T sh::G)))) (λc hc=>Aa _ (Aa _ (Aa _ ((.tail _ (hG c hc)))))) hI2 B3 B2)) rfl rfl rfl ?_;rintro _ _ ⟨l3,X3,bb,rfl,rfl,hbb⟩;rcases hbb.symm with⟨rfl,hx⟩|⟨rfl,hI3⟩
  ·refine Aj ?_;exact A9 (l':=l3++G) (.drop (.drop (JV (Keep.dropL X3 (Keep.dropL X2 (Keep.dropL X1 (Keep.dropL X0 ((.drop .refl))))))))) ⟨l3,rfl,.inr ⟨_,BE _ _,hx⟩⟩
  refine Aj ?_;refine Ia (Da rfl rfl (St (F:=F) (sh:=sh) hT (m:=4*i+3) (QW hlt AX) hY (G:=X3++(X2++(X1++(X0++(Tn B1 F C T sh::G))))) (λc hc=>Aa _ (Aa _ (Aa _ (Aa _ ((.tail _ (hG c hc))))))) hI3 B3 B2)) rfl rfl rfl ?_;rintro _ _ ⟨l4,X4,bb,rfl,rfl,hbb⟩;rcases hbb.symm with⟨rfl,hx⟩|⟨rfl,hI4⟩
  ·refine Aj ?_;exact A9 (l':=l4++G) (.drop (.drop (JV (Keep.dropL X4 (Keep.dropL X3 (Keep.dropL X2 (Keep.dropL X1 (Keep.dropL X0 ((.drop .refl)))))))))) ⟨l4,rfl,.inr ⟨_,BE _ _,hx⟩⟩
  refine Aj ?_;exact BV (i+1,l4,X4++(X3++(X2++(X1++X0)))) ⟨by simp only;omega,hI4⟩ (by simp only;omega) ⟨rfl,rfl,rfl,rfl,rfl,trivial⟩ (by simp only[Am];exact .refl)
 ·obtain rfl:i=T:=by omega
  have hv:Mn 0 (fh i sh)=7*i+sh.toNat:=by
   have h3:i=1\/i=2\/i=3:=by omega
   rcases h3 with rfl|rfl|rfl<;>cases sh<;>rfl
  cases sh with
  |true=>
   have hv:Mn 0 (fh i true)=7*i+1:=hv;refine Aj ?_;refine Ia (Da rfl rfl (St (F:=F) (sh:=true) hT (m:=4*i) qY hY (G:=X0++(Tn B1 F C i true::G)) (λc hc=>Aa _ ((.tail _ (hG c hc)))) hI0 B3 B2)) rfl rfl rfl ?_;rintro _ _ ⟨l1,X1,bb,rfl,rfl,hbb⟩;rcases hbb.symm with⟨rfl,hx⟩|⟨rfl,hI1⟩
   ·refine Aj ?_;exact A9 (l':=l1++G) (.drop (.drop (JV (Keep.dropL X1 (Keep.dropL X0 ((.drop .refl))))))) ⟨l1,rfl,.inr ⟨_,BE _ _,hx⟩⟩
   refine Aj ?_;have hfe:Ob F i true (4*i+1)=Mn 0 (fh i true):=by rw[<-aq F i true];rfl
   have hu:((F:Int)-Ob F i true (4*i+1))/i=sO F i true:=by rw[hfe];rfl
   have hmd:Tn B1 F C i true∈l1++(X1++(X0++(Tn B1 F C i true::G))):=Aa _ (Aa _ (Aa _ (.head _)));refine Aj ?_;rw[hu];refine Aj ?_;refine CE (α:=Nat×List Ab×List Ab) (λx=>[(4,.func (.func 136) #[] #[pV B3,pV B2]),(5,.int .i64 (sO F i true)),(45,.int .i64 i),(46,.int .i64 x.1)]) (λx=>kV B3 (Ob F i true ((4*i+1)+x.1))::nw B2 r::(x.2.1++(x.2.2++(Tn B1 F C i true::G)))) (λx=>x.1<=i/\I ((D7 F i true).take ((4*i+1)+x.1)) x.2.1) (λx=>i-x.1) (0,l1,X1++X0) ⟨Bl _,hI1⟩ ⟨rfl,rfl,rfl,rfl,trivial⟩ (by simp only[Am];exact .refl) ?_;rintro⟨j,l7,X7⟩ ⟨hj,hI7⟩;simp only at hj hI7⊢;by_cases hlt2:j<i
   ·refine Aj ?_;refine AP (Da rfl rfl (St (F:=F) (sh:=true) hT (m:=(4*i+1)+j) (iX (sh:=true) hlt2) hY (G:=X7++(Tn B1 F C i true::G)) (λc hc=>Aa _ (.tail _ (hG c hc))) hI7 B3 B2)) ?_;rintro _ _ ⟨l8,X8,bb,rfl,rfl,hbb⟩;rcases hbb.symm with⟨rfl,hx⟩|⟨rfl,hI8⟩
    ·refine Aj ?_;exact A9 (l':=l8++G) (.drop (.drop (JV (Keep.dropL X8 (Keep.dropL X7 ((.drop .refl))))))) ⟨l8,rfl,.inr ⟨_,BE _ _,hx⟩⟩
    refine Aj ?_;exact BV (j+1,l8,X8++X7) ⟨by simp only;omega,hI8⟩ (by simp only;omega) ⟨rfl,rfl,rfl,rfl,trivial⟩ (by simp only[Am];exact .refl)
   ·obtain rfl:j=i:=by omega
    have hall:(D7 F j true).take ((4*j+1)+j)=D7 F j true:=Bv (by unfold D7;rw[Ny,Pn];simp only[JE,Ls];omega);rw[hall] at hI7;refine Aj ?_;exact A9 (l':=l7++G) (.drop (.drop (JV (Keep.dropL X7 (.drop .refl))))) ⟨l7,rfl,.inl ⟨_,rfl,hI7⟩⟩
  |false=>
   have hv:Mn 0 (fh i false)=7*i:=by simpa using hv
   have hfe:Ob F i false (4*i)=Mn 0 (fh i false):=by rw[<-aq F i false];rfl
   have hu:((F:Int)-Ob F i false (4*i))/i=sO F i false:=by rw[hfe];rfl
   have hmd:Tn B1 F C i false∈l0++(X0++(Tn B1 F C i false::G)):=Aa _ (Aa _ (.head _));refine Aj ?_;rw[hu];refine Aj ?_;refine CE (α:=Nat×List Ab×List Ab) (λx=>[(4,.func (.func 136) #[] #[pV B3,pV B2]),(5,.int .i64 (sO F i false)),(45,.int .i64 i),(46,.int .i64 x.1)]) (λx=>kV B3 (Ob F i false ((4*i)+x.1))::nw B2 r::(x.2.1++(x.2.2++(Tn B1 F C i false::G)))) (λx=>x.1<=i/\I ((D7 F i false).take ((4*i)+x.1)) x.2.1) (λx=>i-x.1) (0,l0,X0) ⟨Bl _,hI0⟩ ⟨rfl,rfl,rfl,rfl,trivial⟩ (by simp only[Am];exact .refl) ?_;rintro⟨j,l7,X7⟩ ⟨hj,hI7⟩;simp only at hj hI7⊢;by_cases hlt2:j<i
   ·refine Aj ?_;refine AP (Da rfl rfl (St (F:=F) (sh:=false) hT (m:=(4*i)+j) (iX (sh:=false) hlt2) hY (G:=X7++(Tn B1 F C i false::G)) (λc hc=>Aa _ (.tail _ (hG c hc))) hI7 B3 B2)) ?_;rintro _ _ ⟨l8,X8,bb,rfl,rfl,hbb⟩;rcases hbb.symm with⟨rfl,hx⟩|⟨rfl,hI8⟩
    ·refine Aj ?_;exact A9 (l':=l8++G) (.drop (.drop (JV (Keep.dropL X8 (Keep.dropL X7 ((.drop .refl))))))) ⟨l8,rfl,.inr ⟨_,BE _ _,hx⟩⟩
    refine Aj ?_;exact BV (j+1,l8,X8++X7) ⟨by simp only;omega,hI8⟩ (by simp only;omega) ⟨rfl,rfl,rfl,rfl,trivial⟩ (by simp only[Am];exact .refl)
   ·obtain rfl:j=i:=by omega
    have hall:(D7 F j false).take ((4*j)+j)=D7 F j false:=Bv (by unfold D7;rw[Ny,Pn];simp only[JE,Ls];omega);rw[hall] at hI7;refine Aj ?_;exact A9 (l':=l7++G) (.drop (.drop (JV (Keep.dropL X7 (.drop .refl))))) ⟨l7,rfl,.inl ⟨_,rfl,hI7⟩⟩
structure OwT where
 th:Int
 nd:Int
 rt:Int
 pl:Int
 un:Int
abbrev Qe(o:OwT):List Value:=[.int .i64 o.th,.int .i64 o.nd,.int .i64 o.rt,.int .i64 o.pl,.int .i64 o.un]
abbrev Iv(B:Nat)(o:OwT):Ab:=(B,.cells (toArray (Qe o)) 203 (0,0))
abbrev IQ(k o b:Int):CapT:=⟨k,o,0,0,0,b,0,0⟩
theorem Ku(k o b:Int):IM (IQ k o b):=⟨Int.le_refl 0,by show(0:Int)<=9223372036854775807;decide⟩
def iY(H:HS)(o:OwT)(first:Bool):HS:=
 let H1:=(FR H (o.nd,1) (IQ 2 o.nd 8)).2
 let H2:=(FR H1 (o.nd,2) (IQ 9 o.th 0)).2
 let H3:=(FR H2 (o.nd,3) (IQ 1 o.un 0)).2
 let H4:=(FR H3 (o.nd,4) (IQ 5 o.rt 0)).2
 let H5:=if first then(FR H4 (o.nd,5) (IQ 7 0 0)).2 else H4
 let H6:=(FR H5 (o.nd,6) (IQ 6 o.pl 0)).2
 let H7:=(Fs H6 (o.nd,1) (o.th,0) (D4 (DJ H6.1 (o.nd,1)) 7)).2
 (Fs H7 (o.nd,4) (o.th,1) (D4 (DJ H7.1 (o.nd,4)) 7)).2
def Su(R:RT)(o:OwT)(first:Bool):RT:={R with H:=iY R.H o first,N:=(As.assignP (As.addP R.N o.pl).2.2 o.pl o.rt).2.2.2}
theorem Gh(o:OwT)(B:Nat)(i:Int)(l:List Ab)(hm:Iv B o∈l):Fn prog 143 [.int .i64 i,pV B] l λv l'=>v= .agg (toArray (Co (o.nd,i)))/\l'=l:=by refine AM func143 ntmps143 λE=>?_;refine AO λb3=>?_;exact AW [] ((b3,.cells (toArray (Co (o.nd,i))) 61 (0,0))::l) rfl (l':=l) (by exact AS) (by exact A8) (by exact AS) ⟨rfl,rfl⟩
theorem QX(s:As.ASt)(o:Int)(n:Nat):(As.addP s o).2.2.given n=s.given n:=by
 unfold As.addP
 repeat' split
 all_goals rfl
theorem au{s:As.ASt}(h: ∀n,n<32->0<=s.given n/\s.given n<=k)(o r:Int): ∀n,n<32->0<=(As.assignP s o r).2.2.2.given n/\(As.assignP s o r).2.2.2.given n<=(k+1:Nat):=by
 intro n hn;have h0:=h n hn;unfold As.assignP
 repeat' split
 all_goals first
  |(simp only;omega)
  |(simp only[As.ASt.give]
    unfold As.upd
    split<;>first|omega|(rename_i e;rw[<-e];omega))
theorem iZ(F C n:Nat)(R:RT)(b:Nat)(p:RP)(s:RL)(hR:IsRl F C n R p s)(hn:n<=900)(o:OwT)(first:Bool)(G:List Ab):Fn prog 93 [pV b,.agg (toArray (Qe o)),.bool first] (Ct b p s R G) λv l'=>
 v= .tuple #[]/\ ∃s' X,IsRl F C (n+8) (Su R o first) p s'/\l'=Ct b p s' (Su R o first) (X++G):=by
 refine AM func93 ntmps93 λE=>?_;unfold Ct;refine Aj ?_;refine AP (CK rfl) ?_;rintro _ _ ⟨b4,_,rfl,rfl⟩;refine Aj ?_;have hsubR: ∀(lq:List Ab) (c:Ab),c∈[Cw b p,Iv b4 o]->c∈lq++(Iv b4 o::Cw b p::As.asA p.n R.N::(s.M++(s.C++(s.A++(s.T++(s.Q++(s.E++(s.V++G)))))))):=λlq c hc=>by
  rcases Ap.1 hc with rfl|hc
  ·exact Aa _ (.tail _ (.head _))
  ·rw[Ax.1 hc];exact Aa _ (.head _)
 cases first with
 |true=>
  refine D3 (l':=s.H++(Iv b4 o::Cw b p::As.asA p.n R.N::(s.M++(s.C++(s.A++(s.T++(s.Q++(s.E++(s.V++G))))))))) (by dsimp only[Iv,Qe];exact A4 []) ?_;refine Ch [7] 8 ([Cw b p,Iv b4 o]) ?_ (hR:=(hsubR _));refine BM ?_;apply Ej
  ·exact AJ rfl rfl (λl hl=>DK b p l (hl _ (.head _)))
  ·rfl
  ·rfl
  ·rfl
  refine BM ?_;apply Ej
  ·exact Fh rfl rfl (λl hl=>Gh o b4 1 l (hl _ (.tail _ (.head _))))
  ·rfl
  ·rfl
  ·rfl
  refine BM ?_;apply CM
  ·exact Az rfl rfl (Fy p.h R.H (n) (hR.inv) s.H hR.ho (o.nd,1) (IQ 2 o.nd 8) _)
  ·rfl
  ·rfl
  ·rfl
  ·rintro _ _ ⟨_,_,_,rfl⟩;exact hsubR _
  rintro _ _ ⟨rfl,lH1,hq1,rfl⟩;refine BM ?_;refine Aj ?_;obtain⟨H1,hH1⟩: ∃x,x=(FR R.H (o.nd,1) (IQ 2 o.nd 8)).2:=⟨_,rfl⟩
  have hI1:InvH H1 (n+1):=by rw[hH1];exact InvH.root (hR.inv) _ _ (Ku _ _ _)
  rw[<-hH1] at hq1;refine Ch [7] 8 ([Cw b p,Iv b4 o]) ?_ (hR:=(hsubR _));refine BM ?_;apply Ej
  ·exact AJ rfl rfl (λl hl=>DK b p l (hl _ (.head _)))
  ·rfl
  ·rfl
  ·rfl
  refine BM ?_;apply Ej
  ·exact Fh rfl rfl (λl hl=>Gh o b4 2 l (hl _ (.tail _ (.head _))))
  ·rfl
  ·rfl
  ·rfl
  refine BM ?_;apply CM
  ·exact Az rfl rfl (Fy p.h H1 (n+1) (hI1) lH1 hq1 (o.nd,2) (IQ 9 o.th 0) _)
  ·rfl
  ·rfl
  ·rfl
  ·rintro _ _ ⟨_,_,_,rfl⟩;exact hsubR _
  rintro _ _ ⟨rfl,lH2,hq2,rfl⟩;refine BM ?_;refine Aj ?_;obtain⟨H2,hH2⟩: ∃x,x=(FR H1 (o.nd,2) (IQ 9 o.th 0)).2:=⟨_,rfl⟩
  have hI2:InvH H2 (n+1+1):=by rw[hH2];exact InvH.root (hI1) _ _ (Ku _ _ _)
  rw[<-hH2] at hq2;refine Ch [7] 8 ([Cw b p,Iv b4 o]) ?_ (hR:=(hsubR _));refine BM ?_;apply Ej
  ·exact AJ rfl rfl (λl hl=>DK b p l (hl _ (.head _)))
  ·rfl
  ·rfl
  ·rfl
  refine BM ?_;apply Ej
  ·exact Fh rfl rfl (λl hl=>Gh o b4 3 l (hl _ (.tail _ (.head _))))
  ·rfl
  ·rfl
  ·rfl
  refine BM ?_;apply CM
  ·exact Az rfl rfl (Fy p.h H2 (n+1+1) (hI2) lH2 hq2 (o.nd,3) (IQ 1 o.un 0) _)
  ·rfl
  ·rfl
  ·rfl
  ·rintro _ _ ⟨_,_,_,rfl⟩;exact hsubR _
  rintro _ _ ⟨rfl,lH3,hq3,rfl⟩;refine BM ?_;refine Aj ?_;obtain⟨H3,hH3⟩: ∃x,x=(FR H2 (o.nd,3) (IQ 1 o.un 0)).2:=⟨_,rfl⟩
  have hI3:InvH H3 (n+1+1+1):=by rw[hH3];exact InvH.root (hI2) _ _ (Ku _ _ _)
  rw[<-hH3] at hq3;refine Ch [7] 8 ([Cw b p,Iv b4 o]) ?_ (hR:=(hsubR _));refine BM ?_;apply Ej
  ·exact AJ rfl rfl (λl hl=>DK b p l (hl _ (.head _)))
  ·rfl
  ·rfl
  ·rfl
  refine BM ?_;apply Ej
  ·exact Fh rfl rfl (λl hl=>Gh o b4 4 l (hl _ (.tail _ (.head _))))
  ·rfl
  ·rfl
  ·rfl
  refine BM ?_;apply CM
  ·exact Az rfl rfl (Fy p.h H3 (n+1+1+1) (hI3) lH3 hq3 (o.nd,4) (IQ 5 o.rt 0) _)
  ·rfl
  ·rfl
  ·rfl
  ·rintro _ _ ⟨_,_,_,rfl⟩;exact hsubR _
  rintro _ _ ⟨rfl,lH4,hq4,rfl⟩;refine BM ?_;refine Aj ?_;obtain⟨H4,hH4⟩: ∃x,x=(FR H3 (o.nd,4) (IQ 5 o.rt 0)).2:=⟨_,rfl⟩
  have hI4:InvH H4 (n+1+1+1+1):=by rw[hH4];exact InvH.root (hI3) _ _ (Ku _ _ _)
  rw[<-hH4] at hq4;refine Bb (AJ rfl rfl (λl hl=>DK b p l (hl _ (hsubR _ _ (.head _))))) ?_;refine Aj ?_;refine Bb (Fh rfl rfl (λl hl=>Gh o b4 5 l (hl _ (hsubR _ _ (.tail _ (.head _)))))) ?_;refine Aj ?_;refine AP (Az rfl rfl (Fy p.h H4 (n+1+1+1+1) (hI4) lH4 hq4 (o.nd,5) (IQ 7 0 0) _)) ?_;rintro _ _ ⟨rfl,lH5,hq5,rfl⟩;obtain⟨H5,hH5⟩: ∃x,x=(FR H4 (o.nd,5) (IQ 7 0 0)).2:=⟨_,rfl⟩
  have hI5:InvH H5 (n+1+1+1+1+1):=by rw[hH5];exact InvH.root (hI4) _ _ (Ku _ _ _)
  rw[<-hH5] at hq5;refine Aj ?_;refine Ch [7] 8 ([Cw b p,Iv b4 o]) ?_ (hR:=(hsubR _));refine BM ?_;apply Ej
  ·exact AJ rfl rfl (λl hl=>DK b p l (hl _ (.head _)))
  ·rfl
  ·rfl
  ·rfl
  refine BM ?_;apply Ej
  ·exact Fh rfl rfl (λl hl=>Gh o b4 6 l (hl _ (.tail _ (.head _))))
  ·rfl
  ·rfl
  ·rfl
  refine BM ?_;apply CM
  ·exact Az rfl rfl (Fy p.h H5 (n+1+1+1+1+1) (hI5) lH5 hq5 (o.nd,6) (IQ 6 o.pl 0) _)
  ·rfl
  ·rfl
  ·rfl
  ·rintro _ _ ⟨_,_,_,rfl⟩;exact hsubR _
  rintro _ _ ⟨rfl,lH6,hq6,rfl⟩;refine BM ?_;refine Aj ?_;obtain⟨H6,hH6⟩: ∃x,x=(FR H5 (o.nd,6) (IQ 6 o.pl 0)).2:=⟨_,rfl⟩
  have hI6:InvH H6 (n+1+1+1+1+1+1):=by rw[hH6];exact InvH.root (hI5) _ _ (Ku _ _ _)
  rw[<-hH6] at hq6;refine Ch [7] 8 ([Cw b p,Iv b4 o]) ?_ (hR:=(hsubR _));refine BM ?_;apply Ej
  ·exact AJ rfl rfl (λl hl=>DK b p l (hl _ (.head _)))
  ·rfl
  ·rfl
  ·rfl
  refine BM ?_;apply Ej
  ·exact Fh rfl rfl (λl hl=>Gh o b4 1 l (hl _ (.tail _ (.head _))))
  ·rfl
  ·rfl
  ·rfl
  refine BM ?_;apply CM
  ·exact Az rfl rfl (LF p.h H6 (n+1+1+1+1+1+1) (hI6) Af lH6 hq6 (o.nd,1) (o.th,0) 7 _)
  ·rfl
  ·rfl
  ·rfl
  ·rintro _ _ ⟨_,_,_,rfl⟩;exact hsubR _
  rintro _ _ ⟨rfl,lH7,hq7,rfl⟩;refine BM ?_;refine Aj ?_;obtain⟨H7,hH7⟩: ∃x,x=(Fs H6 (o.nd,1) (o.th,0) (D4 (DJ H6.1 (o.nd,1)) 7)).2:=⟨_,rfl⟩
  have hI7:InvH H7 (n+1+1+1+1+1+1+1):=by rw[hH7];exact InvH.der (hI6) _ _ _ (Ni (hI6.at _).2 _)
  rw[<-hH7] at hq7;refine Ch [7] 8 ([Cw b p,Iv b4 o]) ?_ (hR:=(hsubR _));refine BM ?_;apply Ej
  ·exact AJ rfl rfl (λl hl=>DK b p l (hl _ (.head _)))
  ·rfl
  ·rfl
  ·rfl
  refine BM ?_;apply Ej
  ·exact Fh rfl rfl (λl hl=>Gh o b4 4 l (hl _ (.tail _ (.head _))))
  ·rfl
  ·rfl
  ·rfl
  refine BM ?_;apply CM
  ·exact Az rfl rfl (LF p.h H7 (n+1+1+1+1+1+1+1) (hI7) Af lH7 hq7 (o.nd,4) (o.th,1) 7 _)
  ·rfl
  ·rfl
  ·rfl
  ·rintro _ _ ⟨_,_,_,rfl⟩;exact hsubR _
  rintro _ _ ⟨rfl,lH8,hq8,rfl⟩;refine BM ?_;refine Aj ?_;obtain⟨H8,hH8⟩: ∃x,x=(Fs H7 (o.nd,4) (o.th,1) (D4 (DJ H7.1 (o.nd,4)) 7)).2:=⟨_,rfl⟩
  have hI8:InvH H8 (n+1+1+1+1+1+1+1+1):=by rw[hH8];exact InvH.der (hI7) _ _ _ (Ni (hI7.at _).2 _)
  rw[<-hH8] at hq8;have hsubA: ∀(N:As.ASt) (c:Ab),c∈[Cw b p,Iv b4 o]->c∈As.asA p.n N::(lH8++(Iv b4 o::Cw b p::(s.M++(s.C++(s.A++(s.T++(s.Q++(s.E++(s.V++G))))))))):=λN c hc=>by
   rcases Ap.1 hc with rfl|hc
   ·exact .tail _ (Aa _ (.tail _ (.head _)))
   ·rw[Ax.1 hc];exact .tail _ (Aa _ (.head _))
  refine D3 (l':=As.asA p.n R.N::(lH8++(Iv b4 o::Cw b p::(s.M++(s.C++(s.A++(s.T++(s.Q++(s.E++(s.V++G)))))))))) (A4 []) ?_;refine Ch [4] 5 ([Cw b p,Iv b4 o]) ?_ (hR:=(hsubA _));refine BM ?_;apply Ej
  ·exact AJ rfl rfl (λl hl=>Kt b p l (hl _ (.head _)))
  ·rfl
  ·rfl
  ·rfl
  refine BM ?_;apply CM
  ·exact Az rfl rfl (As.addPool_any p.n R.N o.pl _)
  ·rfl
  ·rfl
  ·rfl
  ·rintro _ _ ⟨_,rfl⟩;exact hsubA _
  rintro _ _ ⟨rfl,rfl⟩;refine BM ?_;refine Aj ?_;refine Ch [6] 7 ([Cw b p,Iv b4 o]) ?_ (hR:=(hsubA _));refine BM ?_;apply Ej
  ·exact AJ rfl rfl (λl hl=>Kt b p l (hl _ (.head _)))
  ·rfl
  ·rfl
  ·rfl
  refine BM ?_;apply CM
  ·exact Az rfl rfl (As.assign_any p.n (As.addP R.N o.pl).2.2 o.pl o.rt _ (λn hn=>by rw[QX];have:=hR.giv n hn;omega))
  ·rfl
  ·rfl
  ·rfl
  ·rintro _ _ ⟨_,rfl⟩;exact hsubA _
  rintro _ _ ⟨rfl,rfl⟩;refine BM ?_;refine Aj ?_;refine A9 (l':=Ct b p ⟨s.M,s.C,s.A,lH8,s.T,s.Q,s.E,s.V⟩ (Su R o true) ([Iv b4 o]++G)) (by unfold Ct;dsimp only[Su];exact A4 []) ⟨rfl,⟨s.M,s.C,s.A,lH8,s.T,s.Q,s.E,s.V⟩,[Iv b4 o],?_,rfl⟩;have hL:iY R.H o true=H8:=by simp only[iY,CT];rw[<-hH1,<-hH2,<-hH3,<-hH4,<-hH5,<-hH6,<-hH7,<-hH8]
  unfold Su;rw[hL];clear hH1 hH2 hH3 hH4 hH5 hH6 hH7 hH8;exact⟨hR.mem,hR.co,hR.ar,hR.an,hq8,hI8.mono Af,λi hi=>by have:=au (s:=(As.addP R.N o.pl).2.2) (k:=n) (λn hn=>by rw[QX];exact hR.giv n hn) o.pl o.rt i hi;simp only;omega,hR.th,hR.qu,λj hj=>BP (hR.ql j hj) Af,hR.en,hR.cu,hR.c1⟩
 |false=>
  refine D3 (l':=s.H++(Iv b4 o::Cw b p::As.asA p.n R.N::(s.M++(s.C++(s.A++(s.T++(s.Q++(s.E++(s.V++G))))))))) (by dsimp only[Iv,Qe];exact A4 []) ?_;refine Ch [7] 8 ([Cw b p,Iv b4 o]) ?_ (hR:=(hsubR _));refine BM ?_;apply Ej
  ·exact AJ rfl rfl (λl hl=>DK b p l (hl _ (.head _)))
  ·rfl
  ·rfl
  ·rfl
  refine BM ?_;apply Ej
  ·exact Fh rfl rfl (λl hl=>Gh o b4 1 l (hl _ (.tail _ (.head _))))
  ·rfl
  ·rfl
  ·rfl
  refine BM ?_;apply CM
  ·exact Az rfl rfl (Fy p.h R.H (n) (hR.inv) s.H hR.ho (o.nd,1) (IQ 2 o.nd 8) _)
  ·rfl
  ·rfl
  ·rfl
  ·rintro _ _ ⟨_,_,_,rfl⟩;exact hsubR _
  rintro _ _ ⟨rfl,lH1,hq1,rfl⟩;refine BM ?_;refine Aj ?_;obtain⟨H1,hH1⟩: ∃x,x=(FR R.H (o.nd,1) (IQ 2 o.nd 8)).2:=⟨_,rfl⟩
  have hI1:InvH H1 (n+1):=by rw[hH1];exact InvH.root (hR.inv) _ _ (Ku _ _ _)
  rw[<-hH1] at hq1;refine Ch [7] 8 ([Cw b p,Iv b4 o]) ?_ (hR:=(hsubR _));refine BM ?_;apply Ej
  ·exact AJ rfl rfl (λl hl=>DK b p l (hl _ (.head _)))
  ·rfl
  ·rfl
  ·rfl
  refine BM ?_;apply Ej
  ·exact Fh rfl rfl (λl hl=>Gh o b4 2 l (hl _ (.tail _ (.head _))))
  ·rfl
  ·rfl
  ·rfl
  refine BM ?_;apply CM
  ·exact Az rfl rfl (Fy p.h H1 (n+1) (hI1) lH1 hq1 (o.nd,2) (IQ 9 o.th 0) _)
  ·rfl
  ·rfl
  ·rfl
  ·rintro _ _ ⟨_,_,_,rfl⟩;exact hsubR _
  rintro _ _ ⟨rfl,lH2,hq2,rfl⟩;refine BM ?_;refine Aj ?_;obtain⟨H2,hH2⟩: ∃x,x=(FR H1 (o.nd,2) (IQ 9 o.th 0)).2:=⟨_,rfl⟩
  have hI2:InvH H2 (n+1+1):=by rw[hH2];exact InvH.root (hI1) _ _ (Ku _ _ _)
  rw[<-hH2] at hq2;refine Ch [7] 8 ([Cw b p,Iv b4 o]) ?_ (hR:=(hsubR _));refine BM ?_;apply Ej
  ·exact AJ rfl rfl (λl hl=>DK b p l (hl _ (.head _)))
  ·rfl
  ·rfl
  ·rfl
  refine BM ?_;apply Ej
  ·exact Fh rfl rfl (λl hl=>Gh o b4 3 l (hl _ (.tail _ (.head _))))
  ·rfl
  ·rfl
  ·rfl
  refine BM ?_;apply CM
  ·exact Az rfl rfl (Fy p.h H2 (n+1+1) (hI2) lH2 hq2 (o.nd,3) (IQ 1 o.un 0) _)
  ·rfl
  ·rfl
  ·rfl
  ·rintro _ _ ⟨_,_,_,rfl⟩;exact hsubR _
  rintro _ _ ⟨rfl,lH3,hq3,rfl⟩;refine BM ?_;refine Aj ?_;obtain⟨H3,hH3⟩: ∃x,x=(FR H2 (o.nd,3) (IQ 1 o.un 0)).2:=⟨_,rfl⟩
  have hI3:InvH H3 (n+1+1+1):=by rw[hH3];exact InvH.root (hI2) _ _ (Ku _ _ _)
  rw[<-hH3] at hq3;refine Ch [7] 8 ([Cw b p,Iv b4 o]) ?_ (hR:=(hsubR _));refine BM ?_;apply Ej
  ·exact AJ rfl rfl (λl hl=>DK b p l (hl _ (.head _)))
  ·rfl
  ·rfl
  ·rfl
  refine BM ?_;apply Ej
  ·exact Fh rfl rfl (λl hl=>Gh o b4 4 l (hl _ (.tail _ (.head _))))
  ·rfl
  ·rfl
  ·rfl
  refine BM ?_;apply CM
  ·exact Az rfl rfl (Fy p.h H3 (n+1+1+1) (hI3) lH3 hq3 (o.nd,4) (IQ 5 o.rt 0) _)
  ·rfl
  ·rfl
  ·rfl
  ·rintro _ _ ⟨_,_,_,rfl⟩;exact hsubR _
  rintro _ _ ⟨rfl,lH4,hq4,rfl⟩;refine BM ?_;refine Aj ?_;obtain⟨H4,hH4⟩: ∃x,x=(FR H3 (o.nd,4) (IQ 5 o.rt 0)).2:=⟨_,rfl⟩
  have hI4:InvH H4 (n+1+1+1+1):=by rw[hH4];exact InvH.root (hI3) _ _ (Ku _ _ _)
  rw[<-hH4] at hq4;refine Ch [7] 8 ([Cw b p,Iv b4 o]) ?_ (hR:=(hsubR _));refine BM ?_;apply Ej
  ·exact AJ rfl rfl (λl hl=>DK b p l (hl _ (.head _)))
  ·rfl
  ·rfl
  ·rfl
  refine BM ?_;apply Ej
  ·exact Fh rfl rfl (λl hl=>Gh o b4 6 l (hl _ (.tail _ (.head _))))
  ·rfl
  ·rfl
  ·rfl
  refine BM ?_;apply CM
  ·exact Az rfl rfl (Fy p.h H4 (n+1+1+1+1) (hI4) lH4 hq4 (o.nd,6) (IQ 6 o.pl 0) _)
  ·rfl
  ·rfl
  ·rfl
  ·rintro _ _ ⟨_,_,_,rfl⟩;exact hsubR _
  rintro _ _ ⟨rfl,lH6,hq6,rfl⟩;refine BM ?_;refine Aj ?_;obtain⟨H6,hH6⟩: ∃x,x=(FR H4 (o.nd,6) (IQ 6 o.pl 0)).2:=⟨_,rfl⟩
  have hI6:InvH H6 (n+1+1+1+1+1):=by rw[hH6];exact InvH.root (hI4) _ _ (Ku _ _ _)
  rw[<-hH6] at hq6;refine Ch [7] 8 ([Cw b p,Iv b4 o]) ?_ (hR:=(hsubR _));refine BM ?_;apply Ej
  ·exact AJ rfl rfl (λl hl=>DK b p l (hl _ (.head _)))
  ·rfl
  ·rfl
  ·rfl
  refine BM ?_;apply Ej
  ·exact Fh rfl rfl (λl hl=>Gh o b4 1 l (hl _ (.tail _ (.head _))))
  ·rfl
  ·rfl
  ·rfl
  refine BM ?_;apply CM
  ·exact Az rfl rfl (LF p.h H6 (n+1+1+1+1+1) (hI6) Af lH6 hq6 (o.nd,1) (o.th,0) 7 _)
  ·rfl
  ·rfl
  ·rfl
  ·rintro _ _ ⟨_,_,_,rfl⟩;exact hsubR _
  rintro _ _ ⟨rfl,lH7,hq7,rfl⟩;refine BM ?_;refine Aj ?_;obtain⟨H7,hH7⟩: ∃x,x=(Fs H6 (o.nd,1) (o.th,0) (D4 (DJ H6.1 (o.nd,1)) 7)).2:=⟨_,rfl⟩
  have hI7:InvH H7 (n+1+1+1+1+1+1):=by rw[hH7];exact InvH.der (hI6) _ _ _ (Ni (hI6.at _).2 _)
  rw[<-hH7] at hq7;refine Ch [7] 8 ([Cw b p,Iv b4 o]) ?_ (hR:=(hsubR _));refine BM ?_;apply Ej
  ·exact AJ rfl rfl (λl hl=>DK b p l (hl _ (.head _)))
  ·rfl
  ·rfl
  ·rfl
  refine BM ?_;apply Ej
  ·exact Fh rfl rfl (λl hl=>Gh o b4 4 l (hl _ (.tail _ (.head _))))
  ·rfl
  ·rfl
  ·rfl
  refine BM ?_;apply CM
  ·exact Az rfl rfl (LF p.h H7 (n+1+1+1+1+1+1) (hI7) Af lH7 hq7 (o.nd,4) (o.th,1) 7 _)
  ·rfl
  ·rfl
  ·rfl
  ·rintro _ _ ⟨_,_,_,rfl⟩;exact hsubR _
  rintro _ _ ⟨rfl,lH8,hq8,rfl⟩;refine BM ?_;refine Aj ?_;obtain⟨H8,hH8⟩: ∃x,x=(Fs H7 (o.nd,4) (o.th,1) (D4 (DJ H7.1 (o.nd,4)) 7)).2:=⟨_,rfl⟩
  have hI8:InvH H8 (n+1+1+1+1+1+1+1):=by rw[hH8];exact InvH.der (hI7) _ _ _ (Ni (hI7.at _).2 _)
  rw[<-hH8] at hq8;have hsubA: ∀(N:As.ASt) (c:Ab),c∈[Cw b p,Iv b4 o]->c∈As.asA p.n N::(lH8++(Iv b4 o::Cw b p::(s.M++(s.C++(s.A++(s.T++(s.Q++(s.E++(s.V++G))))))))):=λN c hc=>by
   rcases Ap.1 hc with rfl|hc
   ·exact .tail _ (Aa _ (.tail _ (.head _)))
   ·rw[Ax.1 hc];exact .tail _ (Aa _ (.head _))
  refine D3 (l':=As.asA p.n R.N::(lH8++(Iv b4 o::Cw b p::(s.M++(s.C++(s.A++(s.T++(s.Q++(s.E++(s.V++G)))))))))) (A4 []) ?_;refine Ch [4] 5 ([Cw b p,Iv b4 o]) ?_ (hR:=(hsubA _));refine BM ?_;apply Ej
  ·exact AJ rfl rfl (λl hl=>Kt b p l (hl _ (.head _)))
  ·rfl
  ·rfl
  ·rfl
  refine BM ?_;apply CM
  ·exact Az rfl rfl (As.addPool_any p.n R.N o.pl _)
  ·rfl
  ·rfl
  ·rfl
  ·rintro _ _ ⟨_,rfl⟩;exact hsubA _
  rintro _ _ ⟨rfl,rfl⟩;refine BM ?_;refine Aj ?_;refine Ch [6] 7 ([Cw b p,Iv b4 o]) ?_ (hR:=(hsubA _));refine BM ?_;apply Ej
  ·exact AJ rfl rfl (λl hl=>Kt b p l (hl _ (.head _)))
  ·rfl
  ·rfl
  ·rfl
  refine BM ?_;apply CM
  ·exact Az rfl rfl (As.assign_any p.n (As.addP R.N o.pl).2.2 o.pl o.rt _ (λn hn=>by rw[QX];have:=hR.giv n hn;omega))
  ·rfl
  ·rfl
  ·rfl
  ·rintro _ _ ⟨_,rfl⟩;exact hsubA _
  rintro _ _ ⟨rfl,rfl⟩;refine BM ?_;refine Aj ?_;refine A9 (l':=Ct b p ⟨s.M,s.C,s.A,lH8,s.T,s.Q,s.E,s.V⟩ (Su R o false) ([Iv b4 o]++G)) (by unfold Ct;dsimp only[Su];exact A4 []) ⟨rfl,⟨s.M,s.C,s.A,lH8,s.T,s.Q,s.E,s.V⟩,[Iv b4 o],?_,rfl⟩;have hL:iY R.H o false=H8:=by simp only[iY,Bi,CR];rw[<-hH1,<-hH2,<-hH3,<-hH4,<-hH6,<-hH7,<-hH8]
  unfold Su;rw[hL];clear hH1 hH2 hH3 hH4 hH6 hH7 hH8;exact⟨hR.mem,hR.co,hR.ar,hR.an,hq8,hI8.mono Af,λi hi=>by have:=au (s:=(As.addP R.N o.pl).2.2) (k:=n) (λn hn=>by rw[QX];exact hR.giv n hn) o.pl o.rt i hi;simp only;omega,hR.th,hR.qu,λj hj=>BP (hR.ql j hj) Af,hR.en,hR.cu,hR.c1⟩
def PV:List OwT->List Value
 |[]=>[]
 |o::os=>Qe o++PV os
theorem QY: ∀{os:List OwT} {i:Nat} {o:OwT},os[i]?=some o->i*5+5<=(toArray (PV os)).size/\(toArray (PV os)).extract (i*5) (i*5+5)=toArray (Qe o)
 |[],i,o,h=>by cases h
 |a::os,0,o,h=>by obtain rfl:a=o:=AV h;refine⟨by show 0*5+5<=(Qe a++PV os).length;simp[Qe],?_⟩;show(toArray (Qe a++PV os)).extract (0*5) (0*5+5)=_;simp[Qe,Cj]
 |a::os,i+1,o,h=>by
  obtain⟨h1,h2⟩:=QY (os:=os) (i:=i) (o:=o) h;simp only[Bn] at h1;refine⟨by show(i+1)*5+5<=(Qe a++PV os).length;simp[Qe];omega,?_⟩;show(toArray (Qe a++PV os)).extract ((i+1)*5) ((i+1)*5+5)=_;rw[<-h2];simp only[EG,Cj];have e1:(i+1)*5=i*5+(Qe a).length:=by show _=i*5+5;omega
  have e2:(i+1)*5+5-(i+1)*5=i*5+5-i*5:=by omega
  rw[e2];congr 1;rw[e1,JP,I6];simp
abbrev Uk:OwT:=⟨0,0,0,0,0⟩
abbrev i4(o:Int):CapT:=⟨8,o,7,0,0,0,0,0⟩
theorem qZ(o:Int):IM (i4 o):=⟨Int.le_refl 0,by show(0:Int)<=9223372036854775807;decide⟩
def shH(H:HS)(nd:Int)(i:Nat)(o:OwT):HS:=
 let H1:=(Fs H (nd,7) (o.nd,7) (G5 (DJ H.1 (nd,7)) 7 (i+1))).2
 (Fs H1 (nd,7) (o.th,2) (G5 (DJ H1.1 (nd,7)) 7 (101+i))).2
def shK(nd:Int)(os:List OwT)(H:HS):Nat->HS
 |0=>H
 |k+1=>if k=0 then shK nd os H k else shH (shK nd os H k) nd k (os.getD k Uk)
def PW(H:HS)(os:List OwT)(sh:Int):HS:=shK (os.getD 0 Uk).nd os (FR H ((os.getD 0 Uk).nd,7) (i4 sh)).2 os.length
theorem InvH.shH{H:HS}{n:Nat}(h:InvH H n)(nd:Int)(i:Nat)(o:OwT):InvH (shH H nd i o) (n+2):=by have h1:=h.der (nd,7) (o.nd,7) (G5 (DJ H.1 (nd,7)) 7 (i+1)) (RR (h.at _).2 _ _);exact h1.der (nd,7) (o.th,2) _ (RR (h1.at _).2 _ _)
theorem InvH.shK{H:HS}{n:Nat}(h:InvH H n)(nd:Int)(os:List OwT): ∀k,InvH (shK nd os H k) (n+2*k)
 |0=>h
 |k+1=>by
  show InvH (if k=0 then _ else _) _
  split
  ·exact(InvH.shK h nd os k).mono Af
  ·exact((InvH.shK h nd os k).shH nd k _).mono Af
abbrev Ul(B:Nat)(s:Ce):Ab:=(B,.cells (toArray (Co s)) 61 (0,0))
theorem dt(F C n:Nat)(R:RT)(b:Nat)(p:RP)(s:RL)(hR:IsRl F C n R p s)(hn:n<=900)(os:List OwT)(h0:1<=os.length)(h3:os.length<=3)(sh:Int)(bs cap:Nat)(T:TypeId)(fz:Nat×Nat)(G:List Ab)(hm:(bs,Obj.cells (toArray (PV os)) T fz)∈G):
 Fn prog 94 [pV b,.slice (some ⟨bs,0,none⟩) os.length cap,.int .i64 sh] (Ct b p s R G) λv l'=>
 v= .tuple #[]/\ ∃s' X,IsRl F C (n+7) {R with H:=PW R.H os sh} p s'/\l'=Ct b p s' {R with H:=PW R.H os sh} (X++G):=by
 obtain⟨o0,ot,rfl⟩: ∃o ot,os=o::ot:=by
  cases os with
  |nil=>exact absurd h0 AX
  |cons o ot=>exact⟨o,ot,rfl⟩
 refine AM func94 ntmps94 λE=>?_;unfold Ct;refine Aj ?_;have hm1:(bs,Obj.cells (toArray (PV (o0::ot))) T fz)∈Cw b p::As.asA p.n R.N::(s.M++(s.C++(s.A++(s.H++(s.T++(s.Q++(s.E++(s.V++G)))))))):= .tail _ (.tail _ (Aa _ (Aa _ (Aa _ (Aa _ (Aa _ (Aa _ (Aa _ (Aa _ hm)))))))));refine Bb (DH (v:= .int .i64 o0.nd) rfl hm1 rfl) ?_;refine AO λb6=>?_;have hsub1: ∀(lq:List Ab) (c:Ab),c∈[Cw b p,Ul b6 (o0.nd,7)]->c∈lq++(Ul b6 (o0.nd,7)::Cw b p::As.asA p.n R.N::(s.M++(s.C++(s.A++(s.T++(s.Q++(s.E++(s.V++G)))))))):=λlq c hc=>by
  rcases Ap.1 hc with rfl|hc
  ·exact Aa _ (.tail _ (.head _))
  ·rw[Ax.1 hc];exact Aa _ (.head _)
 refine D3 (l':=s.H++(Ul b6 (o0.nd,7)::Cw b p::As.asA p.n R.N::(s.M++(s.C++(s.A++(s.T++(s.Q++(s.E++(s.V++G))))))))) (by dsimp only[Ul,Co];exact A4 []) ?_;refine Ch [5] 6 ([Cw b p,Ul b6 (o0.nd,7)]) ?_ (hR:=(hsub1 _));refine BM ?_;apply Ej
 ·exact AJ rfl rfl (λl hl=>DK b p l (hl _ (.head _)))
 ·rfl
 ·rfl
 ·rfl
 refine BM ?_;apply CM
 ·exact Az rfl rfl (Fy p.h R.H n hR.inv s.H hR.ho (o0.nd,7) (i4 sh) _)
 ·rfl
 ·rfl
 ·rfl
 ·rintro _ _ ⟨_,_,_,rfl⟩;exact hsub1 _
 rintro _ _ ⟨rfl,lH1,hq1,rfl⟩;refine BM ?_;refine Aj ?_;obtain⟨H1,hH1⟩: ∃x,x=(FR R.H (o0.nd,7) (i4 sh)).2:=⟨_,rfl⟩
 have hI1:InvH H1 (n+1):=by rw[hH1];exact InvH.root hR.inv _ _ (qZ _)
 rw[<-hH1] at hq1;refine CE (α:=Nat×List Ab×List Ab) (λx=>[(0,pV b),(6,pV b6),(20,.slice (some ⟨bs,0,none⟩) (o0::ot).length cap),(21,.int .i64 ((o0::ot).length:Nat)),(22,.int .i64 x.1)]) (λx=>x.2.1++(Ul b6 (o0.nd,7)::Cw b p::As.asA p.n R.N::(s.M++(s.C++(s.A++(s.T++(s.Q++(s.E++(s.V++(x.2.2++G))))))))))
  (λx=>x.1<=(o0::ot).length/\IsH p.h (shK o0.nd (o0::ot) H1 x.1) x.2.1) (λx=>(o0::ot).length-x.1) (0,lH1,[]) ⟨Bl _,hq1⟩ ⟨rfl,rfl,rfl,rfl,rfl,trivial⟩ (by simp only[Ag];exact A4 []) ?_
 rintro⟨k,lH,X⟩ ⟨hk,hq⟩;simp only at hk hq⊢;by_cases hkl:k<(o0::ot).length
 ·obtain⟨o,ho⟩: ∃o,(o0::ot)[k]?=some o:=⟨_,Al hkl⟩
  obtain⟨x1,x2⟩:=QY ho;have hm2:(bs,Obj.cells (toArray (PV (o0::ot))) T fz)∈lH++(Ul b6 (o0.nd,7)::Cw b p::As.asA p.n R.N::(s.M++(s.C++(s.A++(s.T++(s.Q++(s.E++(s.V++(X++G))))))))):=Aa _ (.tail _ (.tail _ (.tail _ (Aa _ (Aa _ (Aa _ (Aa _ (Aa _ (Aa _ (Aa _ (Aa _ hm)))))))))));refine Aj ?_;refine Bb (Dn rfl hm2 x1 x2) ?_;refine AO λb8=>?_;by_cases hk0:k=0
  ·subst hk0;refine Aj ?_;refine BV (0+1,lH,Iv b8 o::X) ⟨Af,?_⟩ (by simp only;omega) ⟨rfl,rfl,rfl,rfl,rfl,trivial⟩ (by dsimp only[Iv,Qe];exact A4 []);exact hq
  refine Aj ?_;have hI:InvH (shK o0.nd (o0::ot) H1 k) (n+1+2*k):=hI1.shK _ _ _;have hsub2: ∀(lq:List Ab) (c:Ab),c∈[Cw b p,Ul b6 (o0.nd,7),Iv b8 o]->c∈lq++(Iv b8 o::Ul b6 (o0.nd,7)::Cw b p::As.asA p.n R.N::(s.M++(s.C++(s.A++(s.T++(s.Q++(s.E++(s.V++(X++G))))))))):=λlq c hc=>by
   rcases Ap.1 hc with rfl|hc
   ·exact Aa _ (.tail _ (.tail _ (.head _)))
   ·rcases Ap.1 hc with rfl|hc
    ·exact Aa _ (.tail _ (.head _))
    ·rw[Ax.1 hc];exact Aa _ (.head _)
  refine D3 (l':=lH++(Iv b8 o::Ul b6 (o0.nd,7)::Cw b p::As.asA p.n R.N::(s.M++(s.C++(s.A++(s.T++(s.Q++(s.E++(s.V++(X++G)))))))))) (by dsimp only[Iv,Qe];exact A4 []) ?_;refine Ch [9] 10 ([Cw b p,Ul b6 (o0.nd,7),Iv b8 o]) ?_ (hR:=(hsub2 _));refine BM ?_;apply Ej
  ·exact AJ rfl rfl (λl hl=>DK b p l (hl _ (.head _)))
  ·rfl
  ·rfl
  ·rfl
  refine BM ?_;apply CM
  ·exact Az rfl rfl (PQ p.h (shK o0.nd (o0::ot) H1 k) _ (hI) Af lH hq (o0.nd,7) (o.nd,7) 7 (k+1) Af _)
  ·rfl
  ·rfl
  ·rfl
  ·rintro _ _ ⟨_,_,_,rfl⟩;exact hsub2 _
  rintro _ _ ⟨rfl,lM1,hm1',rfl⟩;refine BM ?_;refine Aj ?_;have hI':=hI.der (o0.nd,7) (o.nd,7) (G5 (DJ (shK o0.nd (o0::ot) H1 k).1 (o0.nd,7)) 7 (k+1)) (RR (hI.at _).2 _ _);refine Ch [9] 10 ([Cw b p,Ul b6 (o0.nd,7),Iv b8 o]) ?_ (hR:=(hsub2 _));refine BM ?_;apply Ej
  ·exact AJ rfl rfl (λl hl=>DK b p l (hl _ (.head _)))
  ·rfl
  ·rfl
  ·rfl
  refine BM ?_;apply CM
  ·exact Az rfl rfl (PQ p.h _ _ (hI') Af lM1 hm1' (o0.nd,7) (o.th,2) 7 (101+k) Af _)
  ·rfl
  ·rfl
  ·rfl
  ·rintro _ _ ⟨_,_,_,rfl⟩;exact hsub2 _
  rintro _ _ ⟨rfl,lM2,hm2',rfl⟩;refine BM ?_;refine Aj ?_;refine BV (k+1,lM2,Iv b8 o::X) ⟨Af,?_⟩ (by simp only;omega) ⟨rfl,rfl,rfl,rfl,rfl,trivial⟩ (A4 []);have e1:shK o0.nd (o0::ot) H1 (k+1)=shH (shK o0.nd (o0::ot) H1 k) o0.nd k o:=by show(if k=0 then _ else _)=_;rw[Ac hk0,List.getD,ho,Di]
  show IsH p.h (shK o0.nd (o0::ot) H1 (k+1)) lM2;rw[e1];exact hm2'
 ·refine Aj ?_;obtain rfl:k=(o0::ot).length:=by omega
  have hL:PW R.H (o0::ot) sh=shK o0.nd (o0::ot) H1 (o0::ot).length:=by show shK o0.nd (o0::ot) (FR R.H (o0.nd,7) (i4 sh)).2 _=_;rw[<-hH1]
  have hI:InvH (shK o0.nd (o0::ot) H1 (o0::ot).length) (n+1+2*(o0::ot).length):=hI1.shK _ _ _;refine A9 (l':=Ct b p ⟨s.M,s.C,s.A,lH,s.T,s.Q,s.E,s.V⟩ {R with H:=PW R.H (o0::ot) sh} ((Ul b6 (o0.nd,7)::X)++G)) (by unfold Ct;dsimp only;exact A4 []) ⟨rfl,⟨s.M,s.C,s.A,lH,s.T,s.Q,s.E,s.V⟩,Ul b6 (o0.nd,7)::X,?_,rfl⟩;rw[hL];exact⟨hR.mem,hR.co,hR.ar,hR.an,hq,hI.mono Af,λi hi=>by have:=hR.giv i hi;simp only;omega,hR.th,hR.qu,λj hj=>BP (hR.ql j hj) Af,hR.en,hR.cu,hR.c1⟩
def Mo(R:RT)(id:Int):RT:=match Th.findH R.T id with
 |none=>R
 |some t=>{R with T:=(Th.setD R.T {t with st:=1}).2,Q:=(Qu.addQ R.Q id t.pr).2}
theorem i5{X:Nat->List Int}(h: ∀n,n<8->(X n).length<=k)(id pr:Int): ∀n,n<8->((Qu.addQ X id pr).2 n).length<=k+1:=by
 intro n hn;have h0:=h n hn;unfold Qu.addQ
 split
 ·exact EJ h0
 split
 ·exact EJ h0
 ·simp only[Qu.upd]
  split
  ·rename_i e;subst e;simp only[Ai,Br,ER];omega
  ·exact EJ h0
theorem du(F C n:Nat)(R:RT)(b:Nat)(p:RP)(s:RL)(hR:IsRl F C n R p s)(hn:n<=900)(id:Int)(G:List Ab):Fn prog 98 [pV b,.int .i64 id,.int .i64 1] (Ct b p s R G) λv l'=>
 (∃e,v= .int .i64 e)/\ ∃s' X,IsRl F C (n+1) (Mo R id) p s'/\l'=Ct b p s' (Mo R id) (X++G):=by
 refine AM func98 ntmps98 λE=>?_;unfold Ct;refine Aj ?_;refine Bb (AJ rfl rfl (λl hl=>Th.get_any p.t R.T s.T hR.th id l (λc hc=>hl _ (.tail _ (.tail _ (Aa _ (Aa _ (Aa _ (Aa _ (Ah _ hc)))))))))) ?_;cases hf:Th.findH R.T id with
 |none=>
  have e:Mo R id=R:=by unfold Mo;rw[hf]
  simp only[Option.getD_none,E8];refine AO λb7=>?_;refine BA [] rfl (l':=Ct b p s R ([Th.thC b7 Th.thZ]++G)) (by unfold Ct;dsimp only[Th.thC,Th.encH,Th.thZ];exact A4 []) (by exact A8) ⟨⟨_,rfl⟩,s,[Th.thC b7 Th.thZ],?_,by rw[e];rfl⟩;rw[e];exact hR.mono Af
 |some t=>
  have e:Mo R id={R with T:=(Th.setD R.T {t with st:=1}).2,Q:=(Qu.addQ R.Q id t.pr).2}:=by unfold Mo;rw[hf]
  simp only[Di,HZ];refine AO λb7=>?_;have hsub1: ∀(lq:List Ab) (c:Ab),c∈[Cw b p,Th.thC b7 {t with st:=1}]->c∈lq++(Th.thC b7 {t with st:=1}::Cw b p::As.asA p.n R.N::(s.M++(s.C++(s.A++(s.H++(s.Q++(s.E++(s.V++G)))))))):=λlq c hc=>by
   rcases Ap.1 hc with rfl|hc
   ·exact Aa _ (.tail _ (.head _))
   ·rw[Ax.1 hc];exact Aa _ (.head _)
  refine D3 (l':=s.T++(Th.thC b7 {t with st:=1}::Cw b p::As.asA p.n R.N::(s.M++(s.C++(s.A++(s.H++(s.Q++(s.E++(s.V++G))))))))) (by dsimp only[Th.thC,Th.encH];exact A4 []) ?_;refine Ch [5] 6 ([Cw b p,Th.thC b7 {t with st:=1}]) ?_ (hR:=(hsub1 _));refine BM ?_;apply CM
  ·exact Az rfl rfl (Th.set_any p.t R.T s.T hR.th {t with st:=1} _)
  ·rfl
  ·rfl
  ·rfl
  ·rintro _ _ ⟨_,_,_,rfl⟩;exact hsub1 _
  rintro _ _ ⟨rfl,lT,hT,rfl⟩;refine BM ?_;refine Aj ?_;have hsub2: ∀(lq:List Ab) (c:Ab),c∈[Cw b p,Th.thC b7 {t with st:=1}]->c∈lq++(Th.thC b7 {t with st:=1}::Cw b p::As.asA p.n R.N::(s.M++(s.C++(s.A++(s.H++(lT++(s.E++(s.V++G)))))))):=λlq c hc=>by
   rcases Ap.1 hc with rfl|hc
   ·exact Aa _ (.tail _ (.head _))
   ·rw[Ax.1 hc];exact Aa _ (.head _)
  refine D3 (l':=s.Q++(Th.thC b7 {t with st:=1}::Cw b p::As.asA p.n R.N::(s.M++(s.C++(s.A++(s.H++(lT++(s.E++(s.V++G))))))))) (A4 []) ?_;refine Ch [7] 8 ([Cw b p,Th.thC b7 {t with st:=1}]) ?_ (hR:=(hsub2 _));refine BM ?_;apply CM
  ·exact Az rfl rfl (Qu.add_any p.q R.Q s.Q id t.pr hR.qu (λj hj=>by have:=hR.ql j hj;omega) _)
  ·rfl
  ·rfl
  ·rfl
  ·rintro _ _ ⟨_,_,_,rfl⟩;exact hsub2 _
  rintro _ _ ⟨rfl,lQ,hQ,rfl⟩;refine BM ?_;refine Aj ?_;rw[e];refine A9 (l':=Ct b p ⟨s.M,s.C,s.A,s.H,lT,lQ,s.E,s.V⟩ {R with T:=(Th.setD R.T {t with st:=1}).2,Q:=(Qu.addQ R.Q id t.pr).2} ([Th.thC b7 {t with st:=1}]++G)) (by unfold Ct;dsimp only;exact A4 []) ⟨⟨_,rfl⟩,⟨s.M,s.C,s.A,s.H,lT,lQ,s.E,s.V⟩,[Th.thC b7 {t with st:=1}],?_,rfl⟩;exact⟨hR.mem,hR.co,hR.ar,hR.an,hR.ho,hR.inv.mono Af,λi hi=>by have:=hR.giv i hi;simp only;omega,hT,hQ,i5 hR.ql id t.pr,hR.en,hR.cu,hR.c1⟩
abbrev x7(B b:Nat):Ab:=(B,.cells (toArray [pV b]) 153 (0,0))
theorem i6(b:Nat)(l:List Ab):Fn prog 99 [pV b] l λv l'=> ∃B,v= .tuple #[pV B,.int .i64 0]/\l'=x7 B b::l:=by refine AM func99 ntmps99 λE=>?_;refine Aj ?_;refine AP (CK rfl) ?_;rintro _ _ ⟨B,_,rfl,rfl⟩;refine Aj ?_;exact A9 .refl ⟨B,rfl,rfl⟩
def MK(F C T:Int):Bool:=decide (1<=T)&&decide (T<=3)&&decide (1<=C)&&decide (C<=3)&&decide (11*T<=F)&&decide (F<=64)
theorem WY(F C T:Int)(sh:Bool)(l:List Ab):Fn prog 89 [.agg (toArray [.int .i64 F,.int .i64 C,.int .i64 T,.bool sh])] l λv l'=>v= .bool (MK F C T)/\l'=l:=by
 refine AM func89 ntmps89 λE=>?_;refine Aj ?_;refine AP (CK rfl) ?_;rintro _ _ ⟨b1,_,rfl,rfl⟩;refine Aj ?_;by_cases h0:1<=T
 case neg=>refine Aj ?_;exact BA [] rfl (l':=l) (.drop .refl) (by exact A8) ⟨by simp[MK,Iw,h0],rfl⟩
 by_cases h1:T<=3
 case neg=>refine Aj ?_;exact BA [] rfl (l':=l) (.drop .refl) (by exact A8) ⟨by simp[MK,Iw,h0,h1],rfl⟩
 by_cases h2:1<=C
 case neg=>refine Aj ?_;exact BA [] rfl (l':=l) (.drop .refl) (by exact A8) ⟨by simp[MK,Iw,h0,h1,h2],rfl⟩
 by_cases h3:C<=3
 case neg=>refine Aj ?_;exact BA [] rfl (l':=l) (.drop .refl) (by exact A8) ⟨by simp[MK,Iw,h0,h1,h2,h3],rfl⟩
 by_cases h4:11*T<=F
 case neg=>refine Aj ?_;exact BA [] rfl (l':=l) (.drop .refl) (by exact A8) ⟨by simp[MK,Iw,h0,h1,h2,h3,h4],rfl⟩
 by_cases h5:F<=64
 case neg=>refine Aj ?_;exact BA [] rfl (l':=l) (.drop .refl) (by exact A8) ⟨by simp[MK,Iw,h0,h1,h2,h3,h4,h5],rfl⟩
 refine Aj ?_;exact BA [] rfl (l':=l) (.drop .refl) (by exact A8) ⟨by simp[MK,Iw,h0,h1,h2,h3,h4,h5],rfl⟩
def sP(S:RT×List Int)(x:Int×Int×Int):RT×List Int:=((IZ S.1 x.1 x.2.1 x.2.2).2,S.2++[(IZ S.1 x.1 x.2.1 x.2.2).1.1])
def VK(F:Nat)(xs:List (Int×Int×Int)):RT×List Int:=xs.foldl sP (IO F,[])
theorem i7(F:Nat)(xs:List (Int×Int×Int))(x:Int×Int×Int):VK F (xs++[x])=sP (VK F xs) x:=by unfold VK;rw[EO];rfl
theorem av(F:Nat)(xs:List (Int×Int×Int)):(VK F xs).2.length=xs.length:=by
 have h: ∀(xs:List (Int×Int×Int)) (S:RT×List Int),(xs.foldl sP S).2.length=S.2.length+xs.length:=by
  intro xs
  induction xs with
  |nil=>intro S;rfl
  |cons x r ih=>intro S;show(List.foldl sP (sP S x) r).2.length=_;rw[ih];simp[sP];omega
 rw[VK,h];simp
abbrev kW(B:Nat)(F C T:Int)(sh:Bool):Ab:=(B,.cells (toArray [.int .i64 F,.int .i64 C,.int .i64 T,.bool sh]) 23 (0,0))
theorem ny(F C T:Int)(sh:Bool)(h:MK F C T=false)(l:List Ab):Fn prog 67 [.agg (toArray [.int .i64 F,.int .i64 C,.int .i64 T,.bool sh])] l λv l'=>v= .tuple #[.pointer none,.slice none 0 0,.int .i64 3]/\l'=l:=by refine AM func67 ntmps67 λE=>?_;refine Aj ?_;refine AP (CK rfl) ?_;rintro _ _ ⟨b1,_,rfl,rfl⟩;refine Aj ?_;refine Bb (AJ rfl rfl (λl hl=>WY F C T sh l)) ?_;rw[h];refine Aj ?_;exact A9 (l':=l) (.drop .refl) ⟨rfl,rfl⟩
abbrev OJ(B b:Nat):Ab:=(B,.cells (toArray [pV b]) 125 (0,0))
abbrev Mz(B:Nat)(v:Value):Ab:=(B,.cells (toArray [v]) 40 (0,0))
def yF(F C b:Nat)(p:RP)(b8:Nat)(pre:List (Int×Int×Int))(l:List Ab):Prop:= ∃s v cs X,IsRl F C pre.length (VK F pre).1 p s/\OwnSl 3 1 v pre.length ((VK F pre).2.map CG) cs/\l=Ct b p s (VK F pre).1 (Mz b8 v::(cs++X))
def YV(ids:List Int)(T i:Nat):OwT:=⟨ids.getD (4*i) 0,ids.getD (4*i+1) 0,ids.getD (4*i+2) 0,ids.getD (4*i+3) 0,ids.getD (ids.length-T+i) 0⟩
def OK(ids:List Int)(T i:Nat):List OwT:=(List.range i).map (YV ids T)++replicate (T-i) Uk
theorem i8(n:Nat):PV (replicate n Uk)=(replicate n (Qe Uk)).flatten:=by
 induction n with
 |zero=>rfl
 |succ n ih=>rw[BG,BG,Cq,<-ih];rfl
def aft:Nat->Code->Code
 |0,c=>c
 |n+1,.seq _ c=>aft n c
 |_,c=>c
def sQ:Code->Code
 | .seq c _=>c
 |c=>c
theorem YW{e:Exit}{fr fr':Fr}{l l':List Ab}(hs:FSub fr' fr)(p:Keep l l')(h:CO N E Q e fr' ds l'):CO N E Q e fr ds l:=⟨λa W hf hds hw=>h.run a W (hf.sub hs.spec) hds (p.sat hw)⟩
theorem Vp: ∀os:List OwT,(PV os).length=os.length*5
 |[]=>rfl
 |o::os=>by show(Qe o++PV os).length=_;rw[Ai,Vp os];simp;omega
theorem aw(xs bs:List OwT):PV (xs++bs)=PV xs++PV bs:=by
 induction xs with
 |nil=>rfl
 |cons a r ih=>show Qe a++PV (r++bs)=_;rw[ih];rfl
theorem WZ(ids:List Int)(T i:Nat)(h:i<=T):(OK ids T i).length=T:=by simp[OK];omega
theorem i9(ids:List Int)(T i:Nat)(h:i<T):CV (toArray (PV (OK ids T i))) (i*5) (Qe (YV ids T i))=toArray (PV (OK ids T (i+1))):=by
 have e1:OK ids T i=(List.range i).map (YV ids T)++(Uk::replicate (T-(i+1)) Uk):=by unfold OK;rw[show T-i=(T-(i+1))+1 by omega,BG]
 have e2:OK ids T (i+1)=(List.range i).map (YV ids T)++(YV ids T i::replicate (T-(i+1)) Uk):=by unfold OK;rw[Cu,Aq,Am];rfl
 rw[e1,e2,aw,aw];have:=setFrom_mid (Qe Uk) (Qe (YV ids T i)) (PV ((List.range i).map (YV ids T))) (PV (replicate (T-(i+1)) Uk)) rfl;rw[Vp,A3,EM] at this;exact this
def nz(F C T:Nat)(sh:Bool)(ids:List Int)(sp:List Value)(b1 b5 b8 bo b gb cap i:Nat):List Ab:=[Mz b8 (.slice (some ⟨gb,0,none⟩) (5*T+sh.toNat) cap),(gb,Obj.cells (toArray (ids.map CG++sp)) 3 (0,0)),kW b1 F C T sh,OJ b5 b,(bo,Obj.cells (toArray (PV (OK ids T i))) 203 (0,0))]
abbrev uD(T:Nat)(b1 b5 b8 bo:Nat):Fr:=[(1,pV b1),(5,pV b5),(7,.slice (some ⟨bo,0,none⟩) T T),(8,pV b8),(9,.int .i64 0)]
theorem wU{c:Code}(hf:prog.funcs[67]?=some fn)(hc:fn.body=some c)(F C T:Nat)(sh:Bool)(hT1:1<=T)(hT:T<=3)(ids:List Int)(sp:List Value)(hil:ids.length=5*T+sh.toNat)(b1 b5 b8 bo b gb cap:Nat)(Z:List Ab)
 (k:CO fn.ntmps E Q .normal (uD T b1 b5 b8 bo) ds (nz F C T sh ids sp b1 b5 b8 bo b gb cap T++Z)):BH prog none fn.ntmps E (sQ (aft 7 c)) Q (uD T b1 b5 b8 bo) ds (nz F C T sh ids sp b1 b5 b8 bo b gb cap 0++Z):=by
 obtain rfl:=AV (hf.symm.trans func67);obtain rfl:=AV hc;simp only[func67,ntmps67,aft,sQ] at k⊢;have hget: ∀(x:Int) (m:Nat),x=m->m<ids.length->(toArray (ids.map CG++sp))[0+x.toNat*1]?=some (CG (ids.getD m 0)):=λx m hx hm=>by subst hx;rw[AY,Df,BC,AC,AF (by rw[A3];exact hm),A0,List.getD,Al hm];rfl
 refine Aj ?_;refine CE (α:=Nat) (λi=>(56,.int .i64 T)::(57,.int .i64 i)::(55,.slice (some ⟨bo,0,none⟩) T T)::uD T b1 b5 b8 bo) (λi=>nz F C T sh ids sp b1 b5 b8 bo b gb cap i++Z)
  (λi=>i<=T) (λi=>T-i) 0 (Bl _) ⟨rfl,rfl,rfl,rfl,rfl,rfl,rfl,rfl,trivial⟩ .refl ?_
 intro i hi;have hsh:sh.toNat<=1:=by cases sh<;>decide
 by_cases hlt:i<T
 ·unfold nz;refine Aj ?_;have hsubA: ∀c,c∈[Mz b8 (.slice (some ⟨gb,0,none⟩) (5*T+sh.toNat) cap),(gb,Obj.cells (toArray (ids.map CG++sp)) 3 (0,0)),kW b1 F C T sh]->c∈Mz b8 (.slice (some ⟨gb,0,none⟩) (5*T+sh.toNat) cap)::(gb,Obj.cells (toArray (ids.map CG++sp)) 3 (0,0))::kW b1 F C T sh::OJ b5 b::(bo,Obj.cells (toArray (PV (OK ids T i))) 203 (0,0))::Z:=λc hc=>(@Ah _ c [_,_,_] _ hc)
  refine Ch [37] 38 ([Mz b8 (.slice (some ⟨gb,0,none⟩) (5*T+sh.toNat) cap),(gb,Obj.cells (toArray (ids.map CG++sp)) 3 (0,0)),kW b1 F C T sh]) ?_ (hR:=(hsubA));refine BM ?_;apply Ej
  ·exact DH (v:=CG (ids.getD (4*i) 0)) rfl (.tail _ (.head _)) (hget _ (4*i) Af Af)
  ·rfl
  ·rfl
  ·rfl
  refine BM ?_;apply Ej
  ·exact DH (v:=CG (ids.getD (4*i+1) 0)) rfl (.tail _ (.head _)) (hget _ (4*i+1) Af Af)
  ·rfl
  ·rfl
  ·rfl
  refine BM ?_;apply Ej
  ·exact DH (v:=CG (ids.getD (4*i+2) 0)) rfl (.tail _ (.head _)) (hget _ (4*i+2) Af Af)
  ·rfl
  ·rfl
  ·rfl
  refine BM ?_;apply Ej
  ·exact DH (v:=CG (ids.getD (4*i+3) 0)) rfl (.tail _ (.head _)) (hget _ (4*i+3) Af Af)
  ·rfl
  ·rfl
  ·rfl
  refine BM ?_;apply Ej
  ·exact DH (v:=CG (ids.getD (ids.length-T+i) 0)) rfl (.tail _ (.head _)) (hget _ (ids.length-T+i) Af Af)
  ·rfl
  ·rfl
  ·rfl
  refine BM ?_;apply M2
  ·exact Et (cs:=toArray (PV (OK ids T i))) (T:=203) rfl rfl rfl (by simp[CG,Value.oneCell']) (.there (.there (.there (.there .here)))) (by have:=Vp (OK ids T i);rw[WZ _ _ _ hi] at this;simp only[Bn,Br,ER,this];omega)
  ·rfl
  ·rfl
  ·rintro _ _ ⟨_,rfl⟩;exact λc hc=>(@Ah _ c [_,_,_] _ hc)
  rintro _ _ ⟨rfl,rfl⟩;refine BM ?_;refine Aj ?_;refine BV (i+1) Af Af ⟨rfl,rfl,rfl,rfl,rfl,rfl,rfl,rfl,trivial⟩ (.of_perm (.of_eq ?_));show _=nz F C T sh ids sp b1 b5 b8 bo b gb cap (i+1)++Z;unfold nz;rw[<-i9 ids T i hlt];simp only[AY,BC];rfl
 ·refine Aj ?_;obtain rfl:i=T:=by omega
  exact YW (fr':=uD i b1 b5 b8 bo) ⟨rfl,rfl,rfl,rfl,rfl,trivial⟩ .refl k
def Qq(R:RT)(os:List OwT):Nat->RT
 |0=>R
 |k+1=>Su (Qq R os k) (os.getD k Uk) (decide ((k:Int)=0))
abbrev Um(bo:Nat)(os:List OwT):Ab:=(bo,Obj.cells (toArray (PV os)) 203 (0,0))
abbrev kX(T:Nat)(b1 b5 bo:Nat)(v9 v14:Value):Fr:=[(1,pV b1),(5,pV b5),(7,.slice (some ⟨bo,0,none⟩) T T),(9,v9),(14,v14)]
theorem wV{c:Code}(hf:prog.funcs[67]?=some fn)(hc:fn.body=some c)(F C n:Nat)(R:RT)(b:Nat)(p:RP)(s:RL)(hR:IsRl F C n R p s)(hn:n<=800)(os:List OwT)(T:Nat)(hos:os.length=T)(hT:T<=3)(b1 b5 bo:Nat)(v9:Value)(Z:List Ab)
 (k: ∀s' X v cs,IsRl F C (n+8*T) (Qq R os T) p s'->OwnSl 3 1 v T ((os.map OwT.th).map CG) cs->CO fn.ntmps E Q .normal (kX T b1 b5 bo v9 v) ds (OJ b5 b::Um bo os::(cs++Ct b p s' (Qq R os T) (X++Z)))):
 BH prog none fn.ntmps E (sQ (aft 10 c)) Q (kX T b1 b5 bo v9 (.slice none 0 0)) ds (OJ b5 b::Um bo os::Ct b p s R Z):=by
 subst hos;obtain rfl:=AV (hf.symm.trans func67);obtain rfl:=AV hc;simp only[func67,ntmps67,aft,sQ] at k⊢;refine Aj ?_;refine CE (α:=Nat×RL×List Ab×Value×List Ab) (λx=>(106,.slice (some ⟨bo,0,none⟩) os.length os.length)::(107,.int .i64 (os.length:Nat))::(108,.int .i64 x.1)::kX os.length b1 b5 bo v9 x.2.2.2.1) (λx=>OJ b5 b::Um bo os::(x.2.2.2.2++Ct b p x.2.1 (Qq R os x.1) (x.2.2.1++Z)))
  (λx=>x.1<=os.length/\IsRl F C (n+8*x.1) (Qq R os x.1) p x.2.1/\OwnSl 3 1 x.2.2.2.1 x.1 (((os.take x.1).map OwT.th).map CG) x.2.2.2.2) (λx=>os.length-x.1) (0,s,[],.slice none 0 0,[]) ⟨Bl _,hR,OwnSl.nil _ _⟩ ⟨rfl,rfl,rfl,rfl,rfl,rfl,rfl,rfl,trivial⟩ .refl ?_
 rintro⟨i,s,X,v,cs⟩ ⟨hi,hR,ho⟩;simp only at hi hR ho⊢;by_cases hlt:i<os.length
 ·obtain⟨o,hio⟩: ∃o,os[i]?=some o:=⟨_,Al hlt⟩
  obtain⟨x1,x2⟩:=QY hio;refine Aj ?_;refine Bb (Dn rfl (.tail _ (.head _)) x1 x2) ?_;refine AO λb16=>?_;refine Bk (l':=Ct b p s (Qq R os i) (Iv b16 o::OJ b5 b::Um bo os::(cs++(X++Z)))) (by unfold Ct;dsimp only[Iv,Qe];exact A4 []) ?_;refine AP (Az rfl rfl (iZ F C (n+8*i) _ b p s hR Af o (decide ((i:Int)=0)) _)) ?_;rintro _ _ ⟨rfl,s1,X1,hR1,rfl⟩;have e1:Qq R os (i+1)=Su (Qq R os i) o (decide ((i:Int)=0)):=by show Su _ (os.getD i Uk) _=_;rw[List.getD,hio,Di]
  have e2:os.take (i+1)=os.take i++[o]:=by rw[Cg,hio];rfl
  rw[<-e1] at hR1⊢;refine Bk (l':=Iv b16 o::OJ b5 b::Um bo os::(cs++Ct b p s1 (Qq R os (i+1)) (X1++(X++Z)))) (by unfold Ct;dsimp only[Iv,Qe];exact A4 []) ?_;refine Aj ?_;refine AP (Kg (v:=CG o.th) rfl rfl) ?_;rintro _ _ ⟨bl,_,rfl,rfl⟩;refine Bk (l':=cs++((bl,Obj.cells (toArray [CG o.th]) 3 (0,0))::Iv b16 o::OJ b5 b::Um bo os::Ct b p s1 (Qq R os (i+1)) (X1++(X++Z)))) (A4 []) ?_;refine AP (F4 (k:=1) (yb:=8) (n:=i) (xs:=((os.take i).map OwT.th).map CG) (news:=[CG o.th]) (zs:=[.int .i64 0]) (cs:=cs) rfl rfl rfl ho (Aa _ Ak) (λj u hj=>by simpa using hj) rfl (by simp[Value.oneCell',CG]) (by unfold maxLen;omega) Af) ?_;rintro v' _ ⟨cs',ho',rfl⟩;refine Aj ?_;refine BV (i+1,s1,(bl,Obj.cells (toArray [CG o.th]) 3 (0,0))::Iv b16 o::(X1++X),v',cs') ⟨Af,hR1,?_⟩ (by simp only;omega) ⟨rfl,rfl,rfl,rfl,rfl,rfl,rfl,rfl,trivial⟩ (by unfold Ct;exact A4 []);rw[e2,Aq,Aq];exact ho'
 ·refine Aj ?_;obtain rfl:i=os.length:=by omega
  rw[Ed] at ho;exact YW (fr':=kX os.length b1 b5 bo v9 v) ⟨rfl,rfl,rfl,rfl,rfl,trivial⟩ .refl (k s X v cs hR ho)
def Sv(R:RT)(id:Int):RT:={R with T:=(Th.setD R.T {(Th.findH R.T id).getD Th.thZ with pr:=1}).2}
def kY(R:RT)(os:List OwT):Nat->RT
 |0=>R
 |k+1=>Mo (Sv (kY R os k) (os.getD k Uk).th) (os.getD k Uk).th
theorem wW{c:Code}(hf:prog.funcs[67]?=some fn)(hc:fn.body=some c)(F C n:Nat)(R:RT)(b:Nat)(p:RP)(s:RL)(hR:IsRl F C n R p s)(hn:n<=800)(os:List OwT)(T:Nat)(hos:os.length=T)(hT:T<=3)(b1 b5 bo:Nat)(v9 v14:Value)(Z:List Ab)
 (k: ∀s' X,IsRl F C (n+T) (kY R os T) p s'->CO fn.ntmps E Q .normal (kX T b1 b5 bo v9 v14) ds (OJ b5 b::Ct b p s' (kY R os T) (X++(Um bo os::Z)))):
 BH prog none fn.ntmps E (sQ (aft 12 c)) Q (kX T b1 b5 bo v9 v14) ds (OJ b5 b::Ct b p s R (Um bo os::Z)):=by
 subst hos;obtain rfl:=AV (hf.symm.trans func67);obtain rfl:=AV hc;simp only[func67,ntmps67,aft,sQ] at k⊢;refine Aj ?_;refine CE (α:=Nat×RL×List Ab) (λx=>(130,.slice (some ⟨bo,0,none⟩) os.length os.length)::(131,.int .i64 (os.length:Nat))::(132,.int .i64 x.1)::kX os.length b1 b5 bo v9 v14) (λx=>OJ b5 b::Ct b p x.2.1 (kY R os x.1) (x.2.2++(Um bo os::Z)))
  (λx=>x.1<=os.length/\IsRl F C (n+x.1) (kY R os x.1) p x.2.1) (λx=>os.length-x.1) (0,s,[]) ⟨Bl _,hR⟩ ⟨rfl,rfl,rfl,rfl,rfl,rfl,rfl,rfl,trivial⟩ .refl ?_
 rintro⟨i,s,X⟩ ⟨hi,hR⟩;simp only at hi hR⊢;by_cases hlt:i<os.length
 ·obtain⟨o,hio⟩: ∃o,os[i]?=some o:=⟨_,Al hlt⟩
  obtain⟨x1,x2⟩:=QY hio;have e1:kY R os (i+1)=Mo (Sv (kY R os i) o.th) o.th:=by show Mo (Sv _ (os.getD i Uk).th) (os.getD i Uk).th=_;rw[List.getD,hio,Di]
  obtain⟨R1,hR1⟩: ∃R1,R1=kY R os i:=⟨_,rfl⟩
  rw[<-hR1] at hR e1⊢;refine D3 (l':=Um bo os::OJ b5 b::Cw b p::(s.T++(As.asA p.n R1.N::(s.M++(s.C++(s.A++(s.H++(s.Q++(s.E++(s.V++(X++Z))))))))))) (by unfold Ct;exact A4 []) ?_;refine Aj ?_;refine Bb (Dn rfl (.head _) x1 x2) ?_;refine AO λb18=>?_;refine D3 (l':=Iv b18 o::OJ b5 b::Cw b p::(s.T++(Um bo os::(As.asA p.n R1.N::(s.M++(s.C++(s.A++(s.H++(s.Q++(s.E++(s.V++(X++Z)))))))))))) (by dsimp only[Iv,Qe];exact A4 []) ?_;have hsub1: ∀c,c∈Iv b18 o::OJ b5 b::Cw b p::s.T->c∈Iv b18 o::OJ b5 b::Cw b p::(s.T++(Um bo os::(As.asA p.n R1.N::(s.M++(s.C++(s.A++(s.H++(s.Q++(s.E++(s.V++(X++Z))))))))))):=λc hc=> @Ah _ c (Iv b18 o::OJ b5 b::Cw b p::s.T) _ hc;refine Ch [8,9] 11 (Iv b18 o::OJ b5 b::Cw b p::s.T) ?_ (hR:=(hsub1));refine BM ?_;apply Ej
  ·exact AJ rfl rfl (λl hl=>Ml b p l (hl _ (.tail _ (.tail _ (.head _)))))
  ·rfl
  ·rfl
  ·rfl
  refine BM ?_;apply Ej
  ·exact AJ rfl rfl (λl hl=>Th.get_any p.t R1.T s.T hR.th o.th l (λc hc=>hl _ (.tail _ (.tail _ (.tail _ hc)))))
  ·rfl
  ·rfl
  ·rfl
  obtain⟨t,ht⟩: ∃t,t=(Th.findH R1.T o.th).getD Th.thZ:=⟨_,rfl⟩
  rw[<-ht];refine BM ?_;apply CM
  ·exact e_alloc
  ·rfl
  ·rfl
  ·rfl
  ·rintro _ _ ⟨b5,_,_,rfl⟩ c hc;exact .tail _ (hsub1 c hc)
  rintro _ _ ⟨b19,_,rfl,rfl⟩;apply M2
  ·exact Tw (cs':=Th.encH t) rfl rfl rfl (by simp[Value.oneCell']) (.head _) (by repeat(first|apply LSetA.done|apply LSetA.put)) .here
  ·rfl
  ·rfl
  ·rintro _ _ ⟨_,rfl⟩ c hc;exact .tail _ (hsub1 c hc)
  rintro _ _ ⟨rfl,rfl⟩;refine BM ?_;refine Aj ?_;obtain⟨t1,ht1⟩: ∃t1,t1={t with pr:=1}:=⟨_,rfl⟩
  have hsub2: ∀(lq:List Ab) (c:Ab),c∈[Th.thC b19 t1,OJ b5 b,Cw b p]->c∈lq++(Th.thC b19 t1::OJ b5 b::Cw b p::(Iv b18 o::Um bo os::As.asA p.n R1.N::(s.M++(s.C++(s.A++(s.H++(s.Q++(s.E++(s.V++(X++Z)))))))))):=λlq c hc=>Aa _ (@Ah _ c [_,_,_] _ hc);refine D3 (l':=s.T++(Th.thC b19 t1::OJ b5 b::Cw b p::(Iv b18 o::Um bo os::As.asA p.n R1.N::(s.M++(s.C++(s.A++(s.H++(s.Q++(s.E++(s.V++(X++Z))))))))))) (by rw[ht1];dsimp only[Th.thC,Th.encH];exact A4 []) ?_;refine Ch [3] 4 ([Th.thC b19 t1,OJ b5 b,Cw b p]) ?_ (hR:=(hsub2 _));refine BM ?_;apply Ej
  ·exact AJ rfl rfl (λl hl=>Ml b p l (hl _ (.tail _ (.tail _ (.head _)))))
  ·rfl
  ·rfl
  ·rfl
  refine BM ?_;apply CM
  ·exact Az rfl rfl (Th.set_any p.t R1.T s.T hR.th t1 _)
  ·rfl
  ·rfl
  ·rfl
  ·rintro _ _ ⟨_,_,_,rfl⟩;exact hsub2 _
  rintro _ _ ⟨rfl,lT,hT,rfl⟩;refine BM ?_;rw[ht1,ht] at hT;have hR2:IsRl F C (n+i) (Sv R1 o.th) p ⟨s.M,s.C,s.A,s.H,lT,s.Q,s.E,s.V⟩:=⟨hR.mem,hR.co,hR.ar,hR.an,hR.ho,hR.inv,hR.giv,hT,hR.qu,hR.ql,hR.en,hR.cu,hR.c1⟩
  refine JF (l':=Iv b18 o::OJ b5 b::Ct b p ⟨s.M,s.C,s.A,s.H,lT,s.Q,s.E,s.V⟩ (Sv R1 o.th) (Um bo os::Th.thC b19 t1::(X++Z))) (by unfold Ct;dsimp only[Sv];exact A4 []) ?_;refine Aj ?_;refine Bk (l':=Ct b p ⟨s.M,s.C,s.A,s.H,lT,s.Q,s.E,s.V⟩ (Sv R1 o.th) (Iv b18 o::OJ b5 b::Um bo os::Th.thC b19 t1::(X++Z))) (by unfold Ct;exact A4 []) ?_;refine AP (Az rfl rfl (du F C (n+i) _ b p _ hR2 Af o.th _)) ?_;rintro _ _ ⟨_,s1,X1,hR3,rfl⟩;rw[<-e1] at hR3⊢;refine Aj ?_;refine BV (i+1,s1,Iv b18 o::Th.thC b19 t1::(X1++X)) ⟨Af,hR3⟩ (by simp only;omega) ⟨rfl,rfl,rfl,rfl,rfl,rfl,rfl,rfl,trivial⟩ (by unfold Ct;exact A4 [])
 ·refine Aj ?_;obtain rfl:i=os.length:=by omega
  exact YW (fr':=kX os.length b1 b5 bo v9 v14) ⟨rfl,rfl,rfl,rfl,rfl,trivial⟩ .refl (k s X hR)
def ax(F T:Nat)(sh:Bool):List Int:=(VK F (D7 F T sh)).2
def Un(F T:Nat)(sh:Bool):List OwT:=OK (ax F T sh) T T
def Uo(F T:Nat)(sh:Bool):Int:=if sh=true then(ax F T sh).getD (4*T) 0 else 0
def Sy(F T:Nat)(sh:Bool):RT:=Qq (VK F (D7 F T sh)).1 (Un F T sh) T
def Qf(F T:Nat)(sh:Bool):RT:=if sh=true then{Sy F T sh with H:=PW (Sy F T sh).H (Un F T sh) (Uo F T sh)} else Sy F T sh
def Kw(F T:Nat)(sh:Bool):RT:=kY (Qf F T sh) (Un F T sh) T
theorem yG(b:Nat)(p:RP)(s:RL)(R:RT)(c1 c2 c3 c4 c5:Ab)(X:List Ab):Keep (c1::c2::c3::c4::c5::Ct b p s R X) (c4::c5::Ct b p s R (c1::c2::c3::X)):=by unfold Ct;exact A4 []
theorem yH(b:Nat)(p:RP)(s:RL)(R:RT)(c1 c2 c3 c4 c5:Ab)(A Y X:List Ab):Keep (c4::c5::(A++Ct b p s R (Y++c1::c2::c3::X))) (c3::c4::c5::(A++Ct b p s R (Y++(c1::c2::X)))):=by unfold Ct;exact A4 []
theorem yI(b:Nat)(p:RP)(s:RL)(R:RT)(c1 c2 c3 c4 c5:Ab)(A Y X:List Ab):Keep (c3::c4::c5::(A++Ct b p s R (Y++(c1::c2::X)))) (c4::c5::(A++Ct b p s R (Y++c1::c2::c3::X))):=by unfold Ct;exact A4 []
theorem yJ(b:Nat)(p:RP)(s:RL)(R:RT)(c3 c4 c5:Ab)(A X:List Ab):Keep (c3::c4::c5::(A++Ct b p s R X)) (Ct b p s R (c5::c4::c3::(A++X))):=by unfold Ct;exact A4 []
theorem wX(b:Nat)(p:RP)(s:RL)(R:RT)(c1 c2 c3 c4 c5:Ab)(A Y2 Y X:List Ab):Keep (Ct b p s R (Y2++(c5::c4::c3::(A++(Y++(c1::c2::X)))))) (c4::c5::(A++Ct b p s R ((Y2++Y)++c1::c2::c3::X))):=by unfold Ct;exact A4 []
theorem yK(b:Nat)(p:RP)(s:RL)(R:RT)(c4 c5:Ab)(A X:List Ab):Keep (c4::c5::(A++Ct b p s R X)) (c4::Ct b p s R (c5::(A++X))):=by unfold Ct;exact A4 []
theorem yL(b:Nat)(p:RP)(s:RL)(R:RT)(k m c1 c2 c3 c4 c5:Ab)(A W Y X G:List Ab):Keep (k::c4::Ct b p s R (W++c5::(A++(Y++(c1::c2::c3::(X++m::G)))))) ([m]++(k::(A++Ct b p s R ((c4::c5::c1::c2::c3::(W++(Y++X)))++G)))):=by unfold Ct;exact A4 []
theorem nA(F C T:Nat)(sh:Bool)(hT1:1<=T)(hT:T<=3)(hC1:1<=C)(hC:C<=3)(hF:11*T<=F)(hF2:F<=64)(G:List Ab):Fn prog 67 [.agg (toArray [.int .i64 F,.int .i64 C,.int .i64 T,.bool sh])] G λv l'=> ∃B b v14 p s X cs,v= .tuple #[pV B,v14,.int .i64 0]/\IsRl F C 60 (Kw F T sh) p s/\OwnSl 3 1 v14 T (((Un F T sh).map OwT.th).map CG) cs/\l'=x7 B b::(cs++Ct b p s (Kw F T sh) (X++G)):=by
 have hmay:MK F C T=true:=by simp[MK];omega
 refine AM func67 ntmps67 λE=>?_;refine Aj ?_;refine AP (CK rfl) ?_;rintro _ _ ⟨b1,_,rfl,rfl⟩;refine Aj ?_;refine Bb (AJ rfl rfl (λl hl=>WY F C T sh l)) ?_;rw[hmay];refine Aj ?_;refine AP (Az rfl rfl (ik F C ⟨Af,Af⟩ ⟨Af,Af⟩ _)) ?_;rintro _ _ ⟨b,p,s0,X0,rfl,hR0,rfl⟩;refine AO λb5=>?_;refine Bk (l':=OJ b5 b::kW b1 F C T sh::Ct b p s0 (IO F) (X0++G)) (by unfold Ct;dsimp only[OJ,kW,pV];simp only[AL,AK];exact A4 []) ?_;refine Aj ?_;refine AP (FG (n:=T) (kk:=5) (yb:=40) (zs:=Qe Uk) (xs:=PV (replicate T Uk)) rfl rfl Af Af AX (i8 T)) ?_;rintro _ _ ⟨bo,_,rfl,rfl⟩;refine AO λb8=>?_;refine AP (Da rfl rfl (YU F C T sh _)) ?_;rintro _ _ ⟨B1,rfl,rfl⟩;refine Aj ?_;refine VX (α:=Int×Int×Int) (ps:=[39]) (lb:=[pV B1]) rfl (WX B1 F C T sh hT1 hT hF hF2) (λ_=>rfl) rfl (yF F C b p b8) (λ_ _ _=>False)
  (Ct b p s0 (IO F) (Mz b8 (.slice none 0 0)::([]++X0))) ((bo,Obj.cells (toArray (PV (replicate T Uk))) 203 (0,0))::OJ b5 b::kW b1 F C T sh::G) (λ_ _ _ _ _=>trivial) (by unfold Ct;dsimp only[Mz,Tn];simp only[Ag,AL,AK];exact A4 []) ⟨s0,_,[],X0,hR0,OwnSl.nil _ _,rfl⟩ ?_ ?_ ?_
 ·rintro E r rec pre x l1 T' ⟨fn,tmps,D,rfl⟩ hTs ⟨s,v,cs,X,hR,ho,rfl⟩ hsp;have hlen:(pre++[x]).length<=25:=by
   have:=hsp.length_le;have h2:(D7 F T sh).length<=25:=by unfold D7;rw[Ny,Pn];cases sh<;>simp<;>omega
   omega
  have hlen':pre.length+1<=25:=by simpa using hlen
  have hm5:OJ b5 b∈T':=hTs _ (.tail _ (.head _));simp only[DG];generalize hLO:Obj.loop _=LO;obtain⟨R,hRe⟩: ∃R,R=(VK F pre).1:=⟨_,rfl⟩
  rw[<-hRe] at hR;rw[<-hRe];refine D3 (l':=(r,LO)::(Ct b p s R (Mz b8 v::(cs++X))++T')) (by unfold Ct;exact A4 []) ?_;refine AO λb10=>?_;subst hLO;refine Cy (by exact DI) ?_;generalize hLO:Obj.loop _=LO;refine Aj ?_;refine Bb (DH (v:=pV b) rfl (.tail _ (.tail _ (Aa _ hm5))) rfl) ?_;refine Aj ?_;refine Bk (l':=Ct b p s R ((b10,Obj.cells (toArray [.int .i64 x.1,.int .i64 x.2.1,.int .i64 x.2.2]) 199 (0,0))::(r,LO)::Mz b8 v::(cs++(X++T')))) (by unfold Ct;exact A4 []) ?_;refine AP (Az rfl rfl (iC F C pre.length R b p s hR Af x.1 x.2.1 x.2.2 _)) ?_;rintro _ _ ⟨rfl,s1,X1,hR1,rfl⟩;refine Bk (l':=Mz b8 v::(cs++(Ct b p s1 (IZ R x.1 x.2.1 x.2.2).2 (X1++((b10,Obj.cells (toArray [.int .i64 x.1,.int .i64 x.2.1,.int .i64 x.2.2]) 199 (0,0))::(r,LO)::(X++T')))))) (by unfold Ct;exact A4 []) ?_;refine Aj ?_;refine AP (Kg (v:=CG (IZ R x.1 x.2.1 x.2.2).1.1) rfl rfl) ?_;rintro _ _ ⟨bl,_,rfl,rfl⟩;refine Bk (l':=cs++((bl,Obj.cells (toArray [CG (IZ R x.1 x.2.1 x.2.2).1.1]) 3 (0,0))::Mz b8 v::Ct b p s1 (IZ R x.1 x.2.1 x.2.2).2 (X1++((b10,Obj.cells (toArray [.int .i64 x.1,.int .i64 x.2.1,.int .i64 x.2.2]) 199 (0,0))::(r,LO)::(X++T'))))) (A4 []) ?_;have hnl:(VK F pre).2.length=pre.length:=av F pre;refine AP (F4 (k:=1) (yb:=8) (n:=pre.length) (xs:=(VK F pre).2.map CG) (news:=[CG (IZ R x.1 x.2.1 x.2.2).1.1]) (zs:=[.int .i64 0]) (cs:=cs) rfl rfl rfl ho (Aa _ Ak) (λj u hj=>by simpa using hj) rfl (by simp[Value.oneCell',CG]) (by unfold maxLen;omega) Af) ?_;rintro v' _ ⟨cs',ho',rfl⟩;have hv1:v'.oneCell'=true:=ho'.one;refine Bk (l':=Mz b8 v::(cs'++((bl,Obj.cells (toArray [CG (IZ R x.1 x.2.1 x.2.2).1.1]) 3 (0,0))::Ct b p s1 (IZ R x.1 x.2.1 x.2.2).2 (X1++((b10,Obj.cells (toArray [.int .i64 x.1,.int .i64 x.2.1,.int .i64 x.2.2]) 199 (0,0))::(r,LO)::(X++T')))))) (A4 []) ?_;apply Mu
  ·exact F0 rfl rfl hv1 (by exact BS) .zero (by exact DI)
  ·rfl
  ·rfl
  rintro _ _ ⟨rfl,rfl⟩;refine Aj ?_;subst hLO;have e1:VK F (pre++[x])=((IZ R x.1 x.2.1 x.2.2).2,(VK F pre).2++[(IZ R x.1 x.2.1 x.2.2).1.1]):=by rw[i7,hRe];rfl
  refine B0 (Ct b p s1 (VK F (pre++[x])).1 (Mz b8 v'::(cs'++((bl,Obj.cells (toArray [CG (IZ R x.1 x.2.1 x.2.2).1.1]) 3 (0,0))::(X1++((b10,Obj.cells (toArray [.int .i64 x.1,.int .i64 x.2.1,.int .i64 x.2.2]) 199 (0,0))::X)))))) ?_ ⟨s1,v',cs',_,?_,?_,rfl⟩
  ·rw[e1];unfold Ct;dsimp only[Mz];exact A4 []
  ·rw[e1,Ai];exact hR1
  ·rw[e1,Ai];simp only[Aq,AI,CI];exact ho'
 ·rintro D xs l hxs ⟨s,v,cs,X,hR,ho,rfl⟩;subst hxs;obtain⟨ids,hids⟩: ∃ids,ids=ax F T sh:=⟨_,rfl⟩
  have hids':(VK F (D7 F T sh)).2=ids:=hids.symm;rw[hids'] at ho;have hlen:(D7 F T sh).length=5*T+sh.toNat:=by unfold D7;rw[Ny,Pn]
  have hil:ids.length=5*T+sh.toNat:=by rw[hids];unfold ax;rw[av,hlen]
  have hsh:sh.toNat<=1:=by cases sh<;>decide
  rw[hlen] at ho hR;rcases ho.2 with⟨_,h0,_⟩|⟨gb,cap,sp,rfl,rfl,_⟩
  ·omega
  obtain⟨R0,hR0⟩: ∃R0,R0=(VK F (D7 F T sh)).1:=⟨_,rfl⟩
  rw[<-hR0] at hR⊢;refine JF (l':=nz F C T sh ids sp b1 b5 b8 bo b gb cap 0++(Ct b p s R0 (X++(Cf D::G)))) (by unfold nz Ct;simp only[OK,List.range_zero,CI,Ag,Nat.sub_zero];exact A4 []) ?_;iterate 3 refine XY ?_
  refine oU (fr':=uD T b1 b5 b8 bo) ⟨rfl,rfl,rfl,rfl,rfl,trivial⟩ (wU func67 rfl F C T sh hT1 hT ids sp hil b1 b5 b8 bo b gb cap _ ?_);obtain⟨os,hos⟩: ∃os,os=Un F T sh:=⟨_,rfl⟩
  have hos1:OK ids T T=os:=by rw[hos,hids];rfl
  have hol:os.length=T:=by rw[hos];exact WZ _ _ _ (A7 _)
  refine MY ?_;refine XT (α:=Unit) (λ_=>[(1,pV b1),(5,pV b5),(7,.slice (some ⟨bo,0,none⟩) T T),(9,.int .i64 (Uo F T sh))]) (λ_=>Mz b8 (.slice (some ⟨gb,0,none⟩) (5*T+sh.toNat) cap)::(gb,Obj.cells (toArray (ids.map CG++sp)) 3 (0,0))::kW b1 F C T sh::OJ b5 b::Um bo os::Ct b p s R0 (X++(Cf D::G))) (λ_=>True) ?_ ?_
  ·unfold nz;rw[hos1];simp only[Ae,Ag];have hget: ∀(x:Int) (m:Nat),x=m->m<ids.length->(toArray (ids.map CG++sp))[0+x.toNat*1]?=some (CG (ids.getD m 0)):=λx m hx hm=>by
    subst hx;rw[AY,Df,BC,AC,AF (by rw[A3];exact hm),A0,List.getD,Al hm];rfl
   cases sh with
   |false=>refine Aj ?_;exact Ek () trivial ⟨rfl,rfl,rfl,rfl,trivial⟩ .refl
   |true=>refine Aj ?_;refine Bb (DH (v:=CG (ids.getD (4*T) 0)) rfl (.tail _ (.head _)) (hget (4*(T:Int)) (4*T) Af (by rw[hil];simp only[JE];omega))) ?_;refine Aj ?_;rw[hids];exact Ek () trivial ⟨rfl,rfl,rfl,rfl,trivial⟩ .refl
  ·rintro _ _;iterate 6 refine XY ?_
   refine oU (fr':=kX T b1 b5 bo (.int .i64 (Uo F T sh)) (.slice none 0 0)) ⟨rfl,rfl,rfl,rfl,rfl,trivial⟩ ?_;obtain⟨Z,hZ⟩: ∃Z,Z=Mz b8 (.slice (some ⟨gb,0,none⟩) (5*T+sh.toNat) cap)::(gb,Obj.cells (toArray (ids.map CG++sp)) 3 (0,0))::kW b1 F C T sh::(X++(Cf D::G)):=⟨_,rfl⟩
   refine D3 (l':=OJ b5 b::Um bo os::Ct b p s R0 Z) (by rw[hZ];exact yG ..) ?_;have hRT:Qq R0 os T=Sy F T sh:=by rw[hR0,hos];rfl
   refine wV func67 rfl F C _ R0 b p s hR Af os T hol hT b1 b5 bo _ _ ?_;intro s1 Y v14 ct hR ht;rw[hRT] at hR⊢;refine MY ?_;refine XT (α:=RL×List Ab) (λ_=>kX T b1 b5 bo (.int .i64 (Uo F T sh)) v14) (λx=>OJ b5 b::Um bo os::(ct++(Ct b p x.1 (Qf F T sh) (x.2++Z)))) (λx=>IsRl F C 50 (Qf F T sh) p x.1) ?_ ?_
   ·rw[hZ];refine D3 (yH ..) ?_;cases sh with
    |false=>
     have hB:Qf F T false=Sy F T false:=by unfold Qf;rw[Ac AX]
     rw[hB];refine Aj ?_;refine Ek (s1,Y) ?_ ⟨rfl,rfl,rfl,rfl,rfl,trivial⟩ (yI ..);exact hR.mono (by simp only[Ls];omega)
    |true=>
     have hB:Qf F T true={Sy F T true with H:=PW (Sy F T true).H os (Uo F T true)}:=by unfold Qf;rw[Ad rfl,hos]
     rw[hB];refine Aj ?_;have hs:=dt F C _ _ b p s1 hR Af os Af Af (Uo F T true) bo T 203 (0,0) (Um bo os::OJ b5 b::kW b1 F C T true::(ct++(Y++(Mz b8 (.slice (some ⟨gb,0,none⟩) (5*T+true.toNat) cap)::(gb,Obj.cells (toArray (ids.map CG++sp)) 3 (0,0))::(X++(Cf D::G)))))) (.head _);rw[hol] at hs;refine Bk (yJ ..) ?_;refine AP (Az rfl rfl hs) ?_;rintro _ _ ⟨rfl,s2,Y2,hR2,rfl⟩;refine Aj ?_;refine Ek (s2,Y2++Y) ?_ ⟨rfl,rfl,rfl,rfl,rfl,trivial⟩ (wX ..);exact hR2.mono (by simp only[JE];omega)
   ·rintro⟨s2,Y2⟩ hR2;simp only at hR2⊢;iterate 1 refine XY ?_
    have hBT:kY (Qf F T sh) os T=Kw F T sh:=by rw[hos];rfl
    refine D3 (yK ..) ?_;refine wW func67 rfl F C _ _ b p s2 hR2 Af os T hol hT b1 b5 bo _ _ _ ?_;intro s3 W hR3;rw[hBT] at hR3⊢;rw[hZ];refine Aj ?_;refine AP (Az rfl rfl (i6 b _)) ?_;rintro _ _ ⟨B,rfl,rfl⟩;refine Aj ?_;refine BA [D] rfl (yL ..) (by exact A8) ⟨B,b,v14,p,s3,_,ct,rfl,hR3.mono Af,?_,rfl⟩;rw[<-hos];exact ht
 ·intro D c pre l hsp hx;exact hx.elim
namespace Ar
theorem all_any(b:Nat)(S:ArT)(lq:List Ab)(hA:IsA b S lq)(l:List Ab)(hsub: ∀c,c∈lq->c∈l):
 Fn prog 74 [.pointer (some ⟨b,0,none⟩)] l λv l'=> ∃cs,OwnSl 100 9 v S.os.length (ocs S.os) cs/\l'=cs++l:=by
 have hlen:=hA.ok.len;obtain⟨hok,v,cs,rfl,ho⟩:=hA;obtain⟨gb,hrow,Nl⟩:=UQ ho;refine AM func74 ntmps74 λE=>?_;refine HC λb3=>?_;refine AP (Az rfl rfl (IL _ rfl _)) ?_;rintro _ _ ⟨B,rfl,rfl⟩;refine gz ?_;refine C0 (α:=ObT×Nat) (ps:=[8,9]) (lb:=[.pointer (some ⟨B,0,none⟩)]) rfl (Hn B b S.n S.g v S.os gb hrow Af) (λ_=>rfl) rfl
  (λpre l=> ∃u cs2,OwnSl 100 9 u pre.length (ocs (pre.map Prod.fst)) cs2/\l=[xB B (some ⟨b,0,none⟩),(b3,.cells #[u] 43 (0,0))]++cs2)
  (λc pre l=>False)
  _ l (λpre l2 X2 hX h=>by obtain⟨u,cs2,_,rfl⟩:=h;exact⟨List.Mem.head _,Aa _ (hX _ (hsub _ (.head _)))⟩) (by exact AS) ⟨_,[],OwnSl.nil _ _,rfl⟩ ?_ ?_ ?_
 ·rintro E r0 rec pre ⟨o,k⟩ l' T ⟨fn,tmps,D,rfl⟩ hT ⟨u,cs2,hown,rfl⟩ hsp;obtain⟨ho1,hk,_⟩:=O8 hsp;simp only at ho1 hk;have hkl:=(Ay.1 ho1).1;obtain⟨sp,rfl⟩:=Nl _ _ ho1;have hmT:=hT _ (hsub _ (.tail _ (.head _)));obtain⟨x1,x2⟩:=ZU ho1 sp;have hu1:u.oneCell'=true:=hown.one;simp only[DG,Ae,Ag];refine gz ?_;refine Cy (.there (.there (Fg _ _ _ _ _))) ?_;generalize hX1:(r0,Obj.loop (Dz fn tmps _ _ _ D .busy none))::T=X1;have hmX:(gb,Obj.cells (toArray (ocs S.os++sp)) 100 (0,0))∈X1:=by rw[<-hX1];exact .tail _ hmT
  refine gz ?_;refine Ch [4,5,6] 7 ([]) ?_;refine pz ?_;apply FM (S:=[(b3,.cells #[u] 43 (0,0))])
  ·exact DH rfl (.head _) rfl
  ·intro c hc;cases hc with
   |head=>exact .tail _ (.head _)
   |tail _ h=>cases h
  ·rfl
  ·rfl
  ·rfl
  refine pz ?_;apply FM (S:=[(gb,Obj.cells (toArray (ocs S.os++sp)) 100 (0,0))])
  ·exact Dn rfl (.head _) x1 x2
  ·intro c hc;cases hc with
   |head=>exact .tail _ (.tail _ (Aa _ hmX))
   |tail _ h=>cases h
  ·rfl
  ·rfl
  ·rfl
  refine pz ?_;apply GC
  ·apply Fb (ws:=obC o) (k:=9)
   ·rfl
   ·rfl
   ·rfl
   ·decide
   ·decide
  ·rfl
  ·rfl
  ·rfl
  ·intro _ _ _ c hc;cases hc
  ·rintro _ _ ⟨bl,_,rfl,rfl⟩ x hx _ c hc;have h3: ∀q:Obj,(b3,q)∈(bl,Obj.cells (toArray (obC o)) 100 (0,0))::xB B (some ⟨b,0,none⟩)::(b3,q)::(cs2++X1):=λq=> .tail _ (.tail _ (.head _));simp only[Ap,BQ,Eo] at hx;rcases hx with rfl|rfl<;>simp only[Ap,BQ,Eo] at hc<;>subst hc
   ·exact .tail _ (.tail _ (.tail _ (Aa _ hmX)))
   ·exact h3 _
  rintro _ _ ⟨bl,_,rfl,rfl⟩;refine pz ?_;apply GC
  ·apply GX (k:=9) (X:=[xB B (some ⟨b,0,none⟩),(b3,.cells #[u] 43 (0,0))]) (cs:=cs2) (xs:=ocs (pre.map Prod.fst)) (n:=pre.length) (zs:=kQ) (ws:=obC o)
   ·rfl
   ·rfl
   ·rfl
   ·exact hown
   ·rfl
   ·simp[Value.oneCell']
   ·omega
   ·decide
  ·rfl
  ·rfl
  ·rfl
  ·intro _ _ _ c hc;cases hc
  ·exact λ_ _ _ x hx ha=>C3 Bs hx ha
  rintro v' _ ⟨c2,ho2,rfl⟩;have hv1:v'.oneCell'=true:=ho2.one;simp only[Ae,Ag];apply GW
  ·apply F0 (cs:=[u])
   ·rfl
   ·rfl
   ·exact hv1
   ·exact BS
   ·exact .zero
   ·exact DI
  ·rfl
  ·rfl
  ·intro _ _ _ c hc;cases hc
  ·exact λ_ _ _ x hx ha=>C3 Bs hx ha
  rintro _ _ ⟨rfl,rfl⟩;refine pz ?_;refine gz ?_;rw[<-hX1];refine B0 _ (.refl) ⟨v',c2,?_,rfl⟩;rw[Aq,show[(o,k)].map Prod.fst=[o] from rfl,gn,Ai];exact ho2
 ·rintro D xs l' rfl ⟨u,cs2,hown,rfl⟩;have hu1:u.oneCell'=true:=hown.one;simp only[Ae,Ag];refine gz ?_;refine AW [D] (cs2++l) rfl (l':=cs2++l) (by exact AS) (by exact A8) .refl ?_;rw[ZX,show(VH S.os).map Prod.fst=S.os from List.zipIdx_map_fst ..] at hown;exact⟨cs2,hown,rfl⟩
 ·rintro D c pre l' hsp h;exact h.elim
end Ar
namespace As
theorem setFrom_all(cs vs:List Value)(h:vs.length=cs.length):CV (toArray cs) 0 vs=toArray vs:=by
 apply Dq;intro j;rw[P8 _ _ _ _ (by simp[h])];by_cases hj:j<vs.length
 ·rw[Ad Af];simp
 ·rw[Ac Af];simp;rw[Bc Af,Bc Af]
theorem LSub.of_all{n:Nat}(ws:List Value)(h:ws.length=n):LSub ws 0 n ws:=by
 subst h
 induction ws with
 |nil=>exact .done
 |cons w ws ih=>exact .take ih
theorem pools_any(b:Nat)(s:ASt)(ws:List Value)(hw:s.cells.extract 0 80=toArray ws)(hl:ws.length=80)(h1: ∀v,v∈ws->v.oneCell'=true)(l:List Ab)(hm:asA b s∈l):Fn prog 78 [.pointer (some ⟨b,0,none⟩)] l λv l'=>v= .agg (toArray ws)/\l'=l:=by
 refine AM func78 ntmps78 λE=>?_;refine HC λb2=>?_;refine Bb (Dn (cs:=s.cells) (n:=80) rfl (by exact BS) (by rw[s.cells_size];omega) hw) ?_;refine gz ?_;apply Mu
 ·apply Et (n:=80)
  ·rfl
  ·rfl
  ·simpa using hl
  ·exact h1
  ·exact .here
  ·simp
 ·rfl
 ·rfl
 rintro _ _ ⟨rfl,rfl⟩;rw[DW,setFrom_all _ _ (by rw[hl];rfl)];refine gz ?_;refine AW [] ((b2,.cells (toArray ws) 50 (0,0))::l) rfl (l':=l) (by exact AS) (Cz rfl (by exact BS) (LSub.of_all (n:=80) _ hl) .nil) (by exact AS) ⟨rfl,rfl⟩
end As
abbrev rB(B b:Nat):Ab:=(B,.cells #[pV b] 125 (0,0))
theorem N4(b:Nat)(l:List Ab):Fn prog 80 [pV b] l λv l'=> ∃B,v= .func (.func 121) #[] #[pV B]/\l'=rB B b::l:=by refine AM func80 ntmps80 λE=>?_;refine AO λB=>?_;exact A9 .refl ⟨B,rfl,rfl⟩
theorem Sz(h:k<n):(List.range n).take (k+1)=(List.range n).take k++[k]:=by rw[Gr,Gr,Ev Af,Ev Af,Cu]
theorem Mp(B b:Nat)(p:RP)(bv C cap:Nat)(hC:C<=100)(hv:p.v= .slice (some ⟨bv,0,none⟩) C cap):
 Fa prog 121 [pV B] (λi:Nat=>[.int .i64 i,.pointer (some ⟨bv,i*1,none⟩)]) (λxs=>xs=List.range C) (λpre=>pre<+:List.range C) (λ_ l=>rB B b∈l/\Cw b p∈l):=by
 refine⟨λr I Ix G0 hneed hY l G hG h0=>?_⟩;obtain⟨n1,n2⟩:=hneed _ _ G hG h0;simp only[Cw,hv] at hneed n2;refine AM func121 ntmps121 λE=>?_;refine Aj ?_;refine CE (α:=Nat×List Ab) (λx=>[(0,.func (.yield r) #[] #[]),(1,pV B),(10,.int .i64 C),(11,.int .i64 x.1)]) (λx=>x.2++G) (λx=>x.1<=C/\I ((List.range C).take x.1) x.2) (λx=>C-x.1) (0,l) ⟨Bl _,h0⟩ ⟨rfl,rfl,rfl,rfl,trivial⟩ .refl ?_;clear n1 n2;rintro⟨k,l⟩ ⟨hk,hI⟩;simp only at hk hI⊢;obtain⟨n1,n2⟩:=hneed _ _ G hG hI;by_cases hlt:k<C
 ·refine Aj ?_;have hy:=hY ((List.range C).take k) k l G hG hI (by rw[<-Sz hlt];exact BE _ _);refine AP (CQ rfl rfl hy) ?_;rintro v l' ⟨l1,rfl,⟨rfl,hI'⟩|⟨rfl,hx⟩⟩
  ·refine Aj ?_;exact BV (k+1,l1) ⟨by simp only;omega,by simp only;rw[Sz hlt];exact hI'⟩ (by simp only;omega) ⟨rfl,rfl,rfl,rfl,trivial⟩ .refl
  ·refine Aj ?_;exact BA [] rfl .refl (by exact A8) ⟨l1,rfl,.inr ⟨_,by rw[<-Sz hlt];exact BE _ _,hx⟩⟩
 ·obtain rfl:k=C:=by omega
  rw[Bv (by simp)] at hI;refine Aj ?_;exact A9 .refl ⟨l,rfl,.inl ⟨_,rfl,hI⟩⟩
end Go.Proofs.YtlkgekpmileobaaGreat
