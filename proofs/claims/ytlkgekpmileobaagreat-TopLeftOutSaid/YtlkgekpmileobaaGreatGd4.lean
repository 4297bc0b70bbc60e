/- Laws that the statement's proof leans on (joined out of several texts). -/
import Derived.Test.YtlkgekpmileobaaGreatGd3
set_option maxHeartbeats 4000000
set_option linter.unusedVariables false
set_option linter.unusedSimpArgs false
namespace Go.Proofs.YtlkgekpmileobaaGreat
open Tryz
open List(toArray)
open Go.RowKit
variable{α:Type}
def upd{α:Type}(f:Nat->α)(k:Nat)(v:α):Nat->α:=λi=>if i=k then v else f i
theorem Du(f:Nat->α)(k:Nat)(v:α):upd f k v k=v:=Ad rfl
theorem C7(f:Nat->α)(k i:Nat)(v:α)(h:i≠k):upd f k v i=f i:=Ac h
def bW(f:Nat->Int)(a n:Nat):List Int:=(List.range n).map λj=>f (a+j)
theorem HJ(f:Nat->Int)(a n:Nat):(bW f a n).length=n:=by simp[bW]
set_option maxRecDepth 20000
theorem gh(x:Int):IntKind.u64.wrap x=x%18446744073709551616:=by simp[IntKind.wrap,IntKind.signed,IntKind.bits]
def O4(W:World):List Ab:=W.heap.toList.zipIdx.map λx=>(x.2,x.1)
theorem PI(W:World)(k:Nat)(o:Obj):(k,o)∈O4 W<->W.heap[k]?=some o:=by
 unfold O4;rw[Au];constructor
 ·rintro⟨⟨o',k'⟩,h,e⟩;cases e;have:=List.mem_zipIdx_iff_getElem?.1 h;simpa using this
 ·intro h;exact⟨(o,k),List.mem_zipIdx_iff_getElem?.2 (by simpa using h),rfl⟩
theorem lX(W:World):Sat W (O4 W) W:=by refine⟨rfl,rfl,rfl,?_,λc hc=>(PI W c.1 c.2).1 hc⟩;unfold O4;rw[CJ];have:(Prod.fst∘λx:Obj×Nat=>(x.2,x.1))=Prod.snd:=rfl;rw[this,List.zipIdx_map_snd];exact List.nodup_range'
theorem gi{P:Program}{f:FuncId}{args:List Value}{W:World}(h:Fn P f args (O4 W) λv l'=>v= .bool true/\ ∃X,l'=X++O4 W):
 Calls P f args.toArray W λe W'=>e= .returned (.bool true)/\Below W.heap.size W W':=by
 refine(h.run W W (lX W)).mono ?_;rintro e W' ⟨v,l',rfl,⟨rfl,X,rfl⟩,hs⟩;have hb: ∀k,k<W.heap.size->W'.heap[k]?=W.heap[k]?:=λk hk=>by rw[CB hk];exact hs.has (k,W.heap[k]) (Aa _ ((PI W k _).2 (CB hk)))
 refine⟨rfl,⟨hs.os,hs.tape,hs.output,?_,hb⟩⟩;by_cases h0:W.heap.size=0
 ·omega
 ·have h1:=hb (W.heap.size-1) Af;rw[CB (xs:=W.heap) Af] at h1;have:=(BD.1 h1).1;omega
namespace Ar
variable{k i j:Nat}{id kd fi f:Int}
abbrev LZ(x:Int):Value:= .int .i64 x
structure ObT where
 id:Int
 kd:Int
 sz:Int
 fi:Int
 fr:Int
 ma:Int
 se:Int
 pg:Int
 lv:Int
deriving DecidableEq
variable{o:ObT}{pre:List (ObT×Nat)}{x:ObT×Nat}{p:ObT->Bool}
abbrev obC(o:ObT):List Value:=[.int .i64 o.id,.int .i64 o.kd,.int .i64 o.sz,.int .i64 o.fi,.int .i64 o.fr,.int .i64 o.ma,.int .i64 o.se,.int .i64 o.pg,.int .i64 o.lv]
abbrev obO:ObT:=⟨0,0,0,0,0,0,0,0,0⟩
abbrev OL:=List ObT
variable{os:OL}
def ocs(os:OL):List Value:=os.flatMap obC
theorem Nb(os:OL):(ocs os).length=os.length*9:=by
 induction os with
 |nil=>rfl
 |cons x r ih=>rw[show ocs (x::r)=obC x++ocs r from rfl,Ai,ih];show 9+r.length*9=(r.length+1)*9;omega
theorem L6(a b:OL):ocs (a++b)=ocs a++ocs b:=DV ..
theorem ZT(os:OL): ∀u∈ocs os,u.oneCell'=true:=by intro u hu;obtain⟨o,_,h⟩:=I7.1 hu;simp only[obC,Ap,BQ,Eo] at h;rcases h with rfl|rfl|rfl|rfl|rfl|rfl|rfl|rfl|rfl<;>rfl
theorem OD(h:os[i]?=some o)(sp:List Value)(j:Nat)(hj:j<9):(toArray (ocs os++sp))[i*9+j]?=(obC o)[j]?:=by obtain⟨h1,h2⟩:=Kh (enc:=obC) (k:=9) (λ_=>rfl) sp os i o h;rw[<-h1,HX,Ad hj,J7,AC];rfl
theorem ZU(h:os[i]?=some o)(sp:List Value):i*9+9<=(toArray (ocs os++sp)).size/\(toArray (ocs os++sp)).extract (i*9) (i*9+9)=toArray (obC o):=by obtain⟨h1,h2⟩:=Kh (enc:=obC) (k:=9) (λ_=>rfl) sp os i o h;refine⟨by rw[Bn];exact h2,?_⟩;rw[EG,Cj,Cx];exact BN toArray h1
theorem Wa(h:os[i]?=some o):os=os.take i++o::os.drop (i+1):=by obtain⟨hi,rfl⟩:=Ay.1 h;rw[List.getElem_cons_drop,Cd]
theorem QJ{o':ObT}(h:os[i]?=some o)(sp:List Value)(j:Nat)(v:Value)(hj:j<9)(he:(obC o).set j v=obC o'):(toArray (ocs os++sp)).setIfInBounds (i*9+j) v=toArray (ocs (os.set i o')++sp):=by
 have hi:=(Ay.1 h).1;have e1:ocs os++sp=ocs (os.take i)++(obC o++(ocs (os.drop (i+1))++sp)):=by
  conv=>lhs;rw[Wa h]
  rw[L6,show ocs (o::os.drop (i+1))=obC o++ocs (os.drop (i+1)) from rfl];simp
 have e2:ocs (os.set i o')++sp=ocs (os.take i)++(obC o'++(ocs (os.drop (i+1))++sp)):=by rw[It,Ad hi,L6,show ocs (o'::os.drop (i+1))=obC o'++ocs (os.drop (i+1)) from rfl];simp
 have hl:(ocs (os.take i)).length=i*9:=by rw[Nb,C6];omega
 rw[Bt,e1,e2,Cm _ _ Af,show i*9+j-(ocs (os.take i)).length=j by omega,GQ _ _ (by show j<9;omega),he]
def Wb(n:Int)(g:Nat->Int)(v:Value):List Value:= .int .i64 n::((bW g 0 64).map LZ++[v])
theorem UO(n:Int)(g:Nat->Int)(v:Value):(Wb n g v).length=66:=by unfold Wb;simp[HJ]
theorem o9(n:Int)(g:Nat->Int)(v:Value):(toArray (Wb n g v))[0]?=some (.int .i64 n):=rfl
theorem TN(n:Int)(g:Nat->Int)(v:Value):(toArray (Wb n g v))[65]?=some v:=by rw[AC];unfold Wb;rw[CX,AU (by simp[HJ])];simp[HJ]
theorem pa(n:Int)(g:Nat->Int)(v:Value)(hj:j<64):(toArray (Wb n g v))[1+j*1]?=some (.int .i64 (g j)):=by rw[AC,show 1+j*1=j+1 by omega];unfold Wb;rw[CX,AF (by simp[HJ];omega),A0];simp[bW,hj]
theorem gj(n:Int)(g:Nat->Int)(v:Value)(hj:j<64)(x:Int):(toArray (Wb n g v)).setIfInBounds (1+j*1) (.int .i64 x)=toArray (Wb n (upd g j x) v):=by
 rw[Bt,show 1+j*1=j+1 by omega];unfold Wb;rw[HY,GQ _ _ (by simp[HJ];omega)];congr 3;apply C9;intro k;rw[GA];by_cases hk:k<64
 ·by_cases e:j=k
  ·subst e;rw[Ad rfl,Ad (by simp[HJ];omega)];simp[bW,hk,Du]
  ·rw[Ac e];simp[bW,hk,C7 _ _ _ _ (λh=>e h.symm)]
 ·rw[Ac Af];rw[Bc (by simp[HJ];omega),Bc (by simp[HJ];omega)]
theorem Wc(n:Int)(g:Nat->Int)(v u:Value):(toArray (Wb n g v)).setIfInBounds 65 u=toArray (Wb n g u):=by rw[Bt];unfold Wb;rw[HY,Cm _ _ (by simp[HJ])];simp[HJ]
abbrev Rw(b:Nat)(n:Int)(g:Nat->Int)(v:Value):Ab:=(b,.cells (toArray (Wb n g v)) 317 (0,0))
structure ArT where
 n:Int
 g:Nat->Int
 os:OL
variable{S:ArT}
structure ArT.Ok(S:ArT):Prop where
 n1:1<=S.n
 n2:S.n<=64
 g1: ∀j,0<=S.g j/\S.g j<=1024
 asc:S.os.Pairwise λx y=>x.id<y.id
 rng: ∀x∈S.os,1<=x.id/\x.id<=65535
 num: ∀x∈S.os,0<=x.fi/\x.fi<S.n/\ ∃c:Int,0<=c/\c<S.g x.fi.toNat/\x.id=x.fi+1+64*c
theorem ZW: ∀(os:OL) (a:Int),0<=a->a<=65535->(os.Pairwise λx y=>x.id<y.id)->(∀x∈os,a<x.id/\x.id<=65535)->(os.length:Int)<=65535-a
 |[],a,h0,ha,_,_=>by simp;omega
 |x::r,a,h0,ha,h,hr=>by
  obtain⟨h1,h2⟩:=BY.1 h;have hx:=hr x (.head _);have:=ZW r x.id Af Af h2 λy hy=>⟨h1 y hy,(hr y (.tail _ hy)).2⟩
  simp only[Br];omega
theorem ArT.Ok.len(h:S.Ok):S.os.length<=65535:=by
 have:=ZW S.os 0 Af Af h.asc λx hx=>by have:=h.rng x hx;omega
 omega
structure IsA(b:Nat)(S:ArT)(lq:List Ab):Prop where
 ok:S.Ok
 ex: ∃v cs,lq=Rw b S.n S.g v::cs/\OwnSl 100 9 v S.os.length (ocs S.os) cs
def framesD(k s:Int):Int:=
 if k=1 then(if 1<=s/\s<=64 then s else 0)
 else if k=2 then(if s=1 then 1 else if s=2 then 1 else if s=3 then 2 else if s=4 then 4 else 0)
 else if k=3\/k=4\/k=5\/k=6\/k=8\/k=9 then(if s=0 then 1 else 0) else 0
def slotsD(k s:Int):Int:=
 if k=2 then(if s=1 then 2 else if s=2 then 4 else if s=3 then 8 else if s=4 then 16 else 0)
 else if k=9 then(if s=0 then 3 else 0) else 0
def IK(x:Int):Prop:=0<=x/\x<=1048576
instance(x:Int):Decidable (IK x):=by unfold IK;exact inferInstance
def Wd(a n b k:Int):Bool:=decide (IK a/\IK n/\IK b/\IK k)
def O5(a n b k:Int):Bool:=Wd a n b k&&decide (n>0)&&decide (k>0)&&decide (a<b+k)&&decide (b<a+n)
def JT(a n b k:Int):Bool:=Wd a n b k&&(decide (n=0)||(decide (a>=b)&&decide (a+n<=b+k)))
def Jb(kd fi n:Int)(o:ObT):Bool:=!O5 fi n o.fi o.fr||((decide (o.kd=1)&&JT fi n o.fi o.fr)||(decide (kd=1)&&JT o.fi o.fr fi n))
def nextD(S:ArT)(f:Int):Int:=if f<0 then 0 else if f>=S.n then 0 else if f+1+64*S.g f.toNat>65535 then 0 else f+1+64*S.g f.toNat
theorem new_any(n:Int)(l:List Ab):Fn prog 129 [.int .i64 n] l λv l'=>
 (¬(1<=n/\n<=64)/\v= .tuple #[.pointer none,.int .i64 3]/\l'=l)\/((1<=n/\n<=64)/\ ∃b lq,v= .tuple #[.pointer (some ⟨b,0,none⟩),.int .i64 0]/\IsA b ⟨n,λ_=>0,[]⟩ lq/\l'=lq++l):=by
 refine AM func129 ntmps129 λE=>?_;by_cases h1:n<1
 ·refine Aj ?_;exact BA [] rfl .refl (by exact A8) (.inl ⟨Af,rfl,rfl⟩)
 by_cases h2:n>64
 ·refine Aj ?_;exact BA [] rfl .refl (by exact A8) (.inl ⟨Af,rfl,rfl⟩)
 refine Aj ?_;refine AP (CK rfl) ?_;rintro _ _ ⟨b,hb,rfl,rfl⟩;refine Aj ?_;refine BA [] rfl .refl (by exact A8) (.inr ⟨Af,b,[Rw b n (λ_=>0) (.slice none 0 0)],rfl,⟨⟨by show 1<=n;omega,by show n<=64;omega,λj=>by simp,.nil,(λx hx=>by cases hx),λx hx=>by cases hx⟩,_,[],rfl,OwnSl.nil _ _⟩,rfl⟩)
theorem IL(b:Value)(h1:b.oneCell'=true)(l:List Ab):Fn prog 114 [b] l λv l'=> ∃B,v= .func (.func 169) #[] #[.pointer (some ⟨B,0,none⟩)]/\l'=(B,.cells #[b] 156 (0,0))::l:=by refine AM func114 ntmps114 λE=>?_;refine Aj ?_;refine AP (Eb rfl h1) ?_;rintro _ _ ⟨B,hB,rfl,rfl⟩;refine Aj ?_;exact A9 .refl ⟨B,rfl,rfl⟩
theorem slots_any(k s:Int)(l:List Ab):Fn prog 69 [.int .i64 k,.int .i64 s] l λv l'=>v= .int .i64 (slotsD k s)/\l'=l:=by
 refine AM func69 ntmps69 λE=>?_;by_cases h2:k=2
 ·subst h2;by_cases h1:1<=s/\s<=4
  ·have hs:s=1\/s=2\/s=3\/s=4:=by omega
   rcases hs with rfl|rfl|rfl|rfl
   ·refine Aj ?_;refine Bb (Rs (i:=1) (n:=1) rfl rfl AX) ?_;exact EA
   ·refine Aj ?_;refine Bb (Rs (i:=1) (n:=2) rfl rfl AX) ?_;exact EA
   ·refine Aj ?_;refine Bb (Rs (i:=1) (n:=3) rfl rfl AX) ?_;exact EA
   ·refine Aj ?_;refine Bb (Rs (i:=1) (n:=4) rfl rfl AX) ?_;exact EA
  ·by_cases h3:1<=s
   ·refine Aj ?_;refine A9 .refl ⟨?_,rfl⟩;unfold slotsD;rw[Ad rfl,Ac Af,Ac Af,Ac Af,Ac Af];rfl
   ·refine Aj ?_;refine A9 .refl ⟨?_,rfl⟩;unfold slotsD;rw[Ad rfl,Ac Af,Ac Af,Ac Af,Ac Af];rfl
 ·by_cases h9:k=9
  ·subst h9;by_cases h0:s=0
   ·subst h0;exact EA
   ·refine Aj ?_;refine A9 .refl ⟨?_,rfl⟩;unfold slotsD;rw[Ac Af,Ad rfl,Ac h0];rfl
  ·refine Aj ?_;refine A9 .refl ⟨?_,rfl⟩;unfold slotsD;rw[Ac h2,Ac h9];rfl
theorem O6(a n b k:Int)(B:Nat)(l:List Ab)(hm:(B,Obj.cells (toArray [.int .i64 a,.int .i64 n,.int .i64 b,.int .i64 k]) 3 (0,0))∈l):Fn prog 311 [.slice (some ⟨B,0,none⟩) 4 4] l λv l'=>v= .bool (Wd a n b k)/\l'=l:=by
 refine AM func311 ntmps311 λE=>?_;refine Aj ?_;refine CE (α:=Nat) (λi=>[(5,.slice (some ⟨B,0,none⟩) 4 4),(6,.int .i64 4),(7,.int .i64 i)]) (λi=>l) (λi=>i<=4/\ ∀j x,j<i->[a,n,b,k][j]?=some x->IK x) (λi=>4-i) 0 ⟨Bl _,λj x h=>by omega⟩ ⟨rfl,rfl,rfl,trivial⟩ .refl ?_;rintro i ⟨hi,hj⟩;by_cases hlt:i<4
 ·obtain⟨x,hx⟩: ∃x,[a,n,b,k][i]?=some x:=⟨_,Al (show i<[a,n,b,k].length from hlt)⟩
  have hc:(toArray [Value.int .i64 a,.int .i64 n,.int .i64 b,.int .i64 k])[i*1]?=some (.int .i64 x):=by
   have:i=0\/i=1\/i=2\/i=3:=by omega
   rcases this with rfl|rfl|rfl|rfl<;>(simp at hx;subst hx;rfl)
  have hF:¬IK x->Wd a n b k=false:=λh=>by
   refine Av λhh=>h ?_;have:i=0\/i=1\/i=2\/i=3:=by omega
   rcases this with rfl|rfl|rfl|rfl<;>(simp at hx;subst hx;simp[hh])
  refine Aj ?_;by_cases h1:x<0
  ·refine Aj ?_;exact BA [] rfl .refl (by exact A8) ⟨by rw[hF (λh=>by unfold IK at h;omega)];rfl,rfl⟩
  by_cases h2:x>1048576
  ·refine Aj ?_;exact BA [] rfl .refl (by exact A8) ⟨by rw[hF (λh=>by unfold IK at h;omega)];rfl,rfl⟩
  ·refine Aj ?_;refine BV (i+1) ⟨Af,λj y hji hy=>?_⟩ Af ⟨rfl,rfl,rfl,trivial⟩ .refl;by_cases e:j=i
   ·subst e;rw[hx] at hy;cases hy;exact⟨Af,Af⟩
   ·exact hj j y Af hy
 ·obtain rfl:i=4:=by omega
  have hT:Wd a n b k=true:=At ⟨hj 0 a Af rfl,hj 1 n Af rfl,hj 2 b Af rfl,hj 3 k Af rfl⟩;refine Aj ?_;exact BA [] rfl .refl (by exact A8) ⟨by rw[hT];rfl,rfl⟩
theorem gk{a n b k:Int}(h:Wd a n b k=true):IK a/\IK n/\IK b/\IK k:=Ep h
theorem gl(a n b k:Int)(l:List Ab):Fn prog 239 [.int .i64 a,.int .i64 n,.int .i64 b,.int .i64 k] l λv l'=>v= .bool (O5 a n b k)/\l'=l:=by
 refine AM func239 ntmps239 λE=>?_;refine Aj ?_;refine AP (XU rfl AX AX rfl) ?_;rintro _ _ ⟨B,hB,rfl,rfl⟩;refine Aj ?_;refine Bb (AJ rfl rfl λl2 hl=>O6 a n b k B l2 (hl _ (.head _))) ?_;cases hm:Wd a n b k with
 |false=>refine Aj ?_;exact BA [] rfl (.drop .refl) (by exact A8) ⟨by unfold O5;rw[hm];rfl,rfl⟩
 |true=>
  obtain⟨⟨a1,a2⟩,⟨n1,n2⟩,⟨b1,b2⟩,k1,k2⟩:=gk hm;by_cases h1:n>0
  ·by_cases h2:k>0
   ·by_cases h3:a<b+k
    ·by_cases h4:b<a+n
     ·refine Aj ?_;exact BA [] rfl (.drop .refl) (by exact A8) ⟨by unfold O5;rw[hm,At h1,At h2,At h3,At h4];rfl,rfl⟩
     ·refine Aj ?_;exact BA [] rfl (.drop .refl) (by exact A8) ⟨by unfold O5;rw[hm,At h1,At h2,At h3,Av h4];rfl,rfl⟩
    ·refine Aj ?_;exact BA [] rfl (.drop .refl) (by exact A8) ⟨by unfold O5;rw[hm,At h1,At h2,Av h3];rfl,rfl⟩
   ·refine Aj ?_;exact BA [] rfl (.drop .refl) (by exact A8) ⟨by unfold O5;rw[hm,At h1,Av h2];rfl,rfl⟩
  ·refine Aj ?_;exact BA [] rfl (.drop .refl) (by exact A8) ⟨by unfold O5;rw[hm,Av h1];rfl,rfl⟩
theorem Dl(a n b k:Int)(l:List Ab):Fn prog 240 [.int .i64 a,.int .i64 n,.int .i64 b,.int .i64 k] l λv l'=>v= .bool (JT a n b k)/\l'=l:=by
 refine AM func240 ntmps240 λE=>?_;refine Aj ?_;refine AP (XU rfl AX AX rfl) ?_;rintro _ _ ⟨B,hB,rfl,rfl⟩;refine Aj ?_;refine Bb (AJ rfl rfl λl2 hl=>O6 a n b k B l2 (hl _ (.head _))) ?_;cases hm:Wd a n b k with
 |false=>refine Aj ?_;exact BA [] rfl (.drop .refl) (by exact A8) ⟨by unfold JT;rw[hm];rfl,rfl⟩
 |true=>
  obtain⟨⟨a1,a2⟩,⟨n1,n2⟩,⟨b1,b2⟩,k1,k2⟩:=gk hm;by_cases h1:n=0
  ·refine Aj ?_;exact BA [] rfl (.drop .refl) (by exact A8) ⟨by unfold JT;rw[hm,At h1];rfl,rfl⟩
  ·by_cases h3:a>=b
   ·by_cases h4:a+n<=b+k
    ·refine Aj ?_;exact BA [] rfl (.drop .refl) (by exact A8) ⟨by unfold JT;rw[hm,Av h1,At h3,At h4];rfl,rfl⟩
    ·refine Aj ?_;exact BA [] rfl (.drop .refl) (by exact A8) ⟨by unfold JT;rw[hm,Av h1,At h3,Av h4];rfl,rfl⟩
   ·refine Aj ?_;exact BA [] rfl (.drop .refl) (by exact A8) ⟨by unfold JT;rw[hm,Av h1,Av h3];rfl,rfl⟩
theorem frames_any(k s:Int)(l:List Ab):Fn prog 51 [.int .i64 k,.int .i64 s] l λv l'=>v= .int .i64 (framesD k s)/\l'=l:=by
 refine AM func51 ntmps51 λE=>?_;by_cases h1:k=1
 ·subst h1;by_cases hs:s>=1
  ·by_cases hs2:s<=64
   ·refine Aj ?_;exact BA [] rfl .refl (by exact A8) ⟨by unfold framesD;rw[Ad rfl,Ad ⟨hs,hs2⟩];rfl,rfl⟩
   ·refine Aj ?_;exact BA [] rfl .refl (by exact A8) ⟨by unfold framesD;rw[Ad rfl,Ac Af];rfl,rfl⟩
  ·refine Aj ?_;exact BA [] rfl .refl (by exact A8) ⟨by unfold framesD;rw[Ad rfl,Ac Af];rfl,rfl⟩
 by_cases h2:k=2
 ·subst h2;by_cases hs:s=1\/s=2\/s=3\/s=4
  ·rcases hs with rfl|rfl|rfl|rfl
   ·refine Aj ?_;refine Bb (AJ rfl rfl λl2 _=>slots_any 2 _ l2) ?_;simp only[slotsD,CT,CR,Int.reduceEq];exact EA
   ·refine Aj ?_;refine Bb (AJ rfl rfl λl2 _=>slots_any 2 _ l2) ?_;simp only[slotsD,CT,CR,Int.reduceEq];exact EA
   ·refine Aj ?_;refine Bb (AJ rfl rfl λl2 _=>slots_any 2 _ l2) ?_;simp only[slotsD,CT,CR,Int.reduceEq];exact EA
   ·refine Aj ?_;refine Bb (AJ rfl rfl λl2 _=>slots_any 2 _ l2) ?_;simp only[slotsD,CT,CR,Int.reduceEq];exact EA
  ·refine Aj ?_;refine Bb (AJ rfl rfl λl2 _=>slots_any 2 _ l2) ?_;rw[show slotsD 2 s=0 by unfold slotsD;rw[Ad rfl,Ac Af,Ac Af,Ac Af,Ac Af]];refine Aj ?_;exact BA [] rfl .refl (by exact A8) ⟨by unfold framesD;rw[Ac Af,Ad rfl,Ac Af,Ac Af,Ac Af,Ac Af];rfl,rfl⟩
 by_cases hk:k=3\/k=4\/k=5\/k=6\/k=8\/k=9
 ·have e:framesD k s=if s=0 then 1 else 0:=by unfold framesD;rw[Ac h1,Ac h2,Ad hk]
  rw[e];rcases hk with rfl|rfl|rfl|rfl|rfl|rfl
  ·by_cases hs:s=0
   ·refine Aj ?_;exact BA [] rfl .refl (by exact A8) ⟨by rw[Ad hs];rfl,rfl⟩
   ·refine Aj ?_;exact BA [] rfl .refl (by exact A8) ⟨by rw[Ac hs];rfl,rfl⟩
  ·by_cases hs:s=0
   ·refine Aj ?_;exact BA [] rfl .refl (by exact A8) ⟨by rw[Ad hs];rfl,rfl⟩
   ·refine Aj ?_;exact BA [] rfl .refl (by exact A8) ⟨by rw[Ac hs];rfl,rfl⟩
  ·by_cases hs:s=0
   ·refine Aj ?_;exact BA [] rfl .refl (by exact A8) ⟨by rw[Ad hs];rfl,rfl⟩
   ·refine Aj ?_;exact BA [] rfl .refl (by exact A8) ⟨by rw[Ac hs];rfl,rfl⟩
  ·by_cases hs:s=0
   ·refine Aj ?_;exact BA [] rfl .refl (by exact A8) ⟨by rw[Ad hs];rfl,rfl⟩
   ·refine Aj ?_;exact BA [] rfl .refl (by exact A8) ⟨by rw[Ac hs];rfl,rfl⟩
  ·by_cases hs:s=0
   ·refine Aj ?_;exact BA [] rfl .refl (by exact A8) ⟨by rw[Ad hs];rfl,rfl⟩
   ·refine Aj ?_;exact BA [] rfl .refl (by exact A8) ⟨by rw[Ac hs];rfl,rfl⟩
  ·by_cases hs:s=0
   ·refine Aj ?_;exact BA [] rfl .refl (by exact A8) ⟨by rw[Ad hs];rfl,rfl⟩
   ·refine Aj ?_;exact BA [] rfl .refl (by exact A8) ⟨by rw[Ac hs];rfl,rfl⟩
 ·have e:framesD k s=0:=by unfold framesD;rw[Ac h1,Ac h2,Ac hk]
  rw[e];exact EA
theorem bX(kd fi n:Int)(o:ObT)(gb off:Nat)(cs:Array Value)(t:TypeId)(fz:Nat×Nat)(l:List Ab)(hm:(gb,Obj.cells cs t fz)∈l)(hc: ∀j,j<9->cs[off+j]?=(obC o)[j]?):
 Fn prog 181 [.int .i64 kd,.int .i64 fi,.int .i64 n,.pointer (some ⟨gb,off,none⟩)] l λv l'=>v= .bool (Jb kd fi n o)/\l'=l:=by
 have c1:cs[off+1]?=some (.int .i64 o.kd):=hc 1 Af;have c3:cs[off+3]?=some (.int .i64 o.fi):=hc 3 Af;have c4:cs[off+4]?=some (.int .i64 o.fr):=hc 4 Af;refine AM func181 ntmps181 λE=>?_;refine Aj ?_;refine Ch [] 13 _ ?_ (hR:=(λ_ h=>h));refine BM ?_;apply Ej
 ·exact AJ rfl rfl λl2 hl=>gl fi n o.fi o.fr l2
 ·rfl
 ·rfl
 ·rfl
 cases hM:O5 fi n o.fi o.fr with
 |false=>refine BM ?_;refine Aj ?_;exact BA [] rfl .refl (by exact A8) ⟨by unfold Jb;rw[hM];rfl,rfl⟩
 |true=>
  refine BM ?_;refine Aj ?_;refine Ch [] 19 _ ?_ (hR:=(λ_ h=>h));refine BM ?_;by_cases h1:o.kd=1
  ·refine BM ?_;apply V0
   ·exact AJ rfl rfl λl2 hl=>Dl fi n o.fi o.fr l2
   all_goals try rfl
   cases hW:JT fi n o.fi o.fr with
   |true=>refine BM ?_;refine Aj ?_;exact BA [] rfl .refl (by exact A8) ⟨by unfold Jb;rw[hM,At h1,hW];rfl,rfl⟩
   |false=>
    refine BM ?_;refine Aj ?_;refine Ch [] 16 _ ?_ (hR:=(λ_ h=>h));by_cases h5:kd=1
    ·refine BM ?_;apply V0
     ·exact AJ rfl rfl λl2 hl=>Dl o.fi o.fr fi n l2
     all_goals try rfl
     refine BM ?_;refine Aj ?_;exact BA [] rfl .refl (by exact A8) ⟨by unfold Jb;rw[hM,At h1,hW,At h5];rfl,rfl⟩
    ·refine BM ?_;refine Aj ?_;exact BA [] rfl .refl (by exact A8) ⟨by unfold Jb;rw[hM,At h1,hW,Av h5];rfl,rfl⟩
  ·refine BM ?_;refine Aj ?_;refine Ch [] 16 _ ?_ (hR:=(λ_ h=>h));by_cases h5:kd=1
   ·refine BM ?_;apply V0
    ·exact AJ rfl rfl λl2 hl=>Dl o.fi o.fr fi n l2
    all_goals try rfl
    refine BM ?_;refine Aj ?_;exact BA [] rfl .refl (by exact A8) ⟨by unfold Jb;rw[hM,Av h1,At h5];rfl,rfl⟩
   ·refine BM ?_;refine Aj ?_;exact BA [] rfl .refl (by exact A8) ⟨by unfold Jb;rw[hM,Av h1,Av h5];rfl,rfl⟩
theorem next_any(b:Nat)(S:ArT)(lq:List Ab)(hA:IsA b S lq)(f:Int)(l:List Ab)(hsub: ∀c,c∈lq->c∈l):
 Fn prog 182 [.pointer (some ⟨b,0,none⟩),.int .i64 f] l λv l'=>v= .int .i64 (nextD S f)/\l'=l:=by
 obtain⟨hok,v,cs,rfl,ho⟩:=hA;have hm:=hsub _ (.head _);have c0:=o9 S.n S.g v;have hn1:=hok.n1;have hn2:=hok.n2;refine AM func182 ntmps182 λE=>?_;refine Aj ?_;by_cases h1:f<0
 ·refine Aj ?_;exact BA [] rfl .refl (by exact A8) ⟨by unfold nextD;rw[Ad h1];rfl,rfl⟩
 by_cases h2:f>=S.n
 ·refine Aj ?_;exact BA [] rfl .refl (by exact A8) ⟨by unfold nextD;rw[Ac h1,Ad h2];rfl,rfl⟩
 obtain⟨j,rfl⟩: ∃j:Nat,f=j:=⟨f.toNat,Af⟩
 have hj:j<64:=by omega
 have cg:=pa S.n S.g v hj;have hg:=hok.g1 j;by_cases h3:(j:Int)+1+64*S.g j>65535
 ·refine Aj ?_;exact BA [] rfl .refl (by exact A8) ⟨by unfold nextD;rw[Ac h1,Ac h2,AY,Ad h3];rfl,rfl⟩
 ·refine Aj ?_;exact BA [] rfl .refl (by exact A8) ⟨by unfold nextD;rw[Ac h1,Ac h2,AY,Ac h3];rfl,rfl⟩
def VH(os:OL):List (ObT×Nat):=os.zipIdx
theorem O7(os:OL)(k:Nat):(VH os)[k]?=os[k]?.map λo=>(o,k):=by unfold VH;rw[List.getElem?_zipIdx];simp
theorem ZX(os:OL):(VH os).length=os.length:=List.length_zipIdx
theorem Rx(h:os[k]?=some o):(VH os).take (k+1)=(VH os).take k++[(o,k)]:=by rw[Cg,O7,h];rfl
theorem O8(h:pre++[x]<+:VH os):os[x.2]?=some x.1/\x.2=pre.length/\pre=(VH os).take x.2:=by
 obtain⟨r,hr⟩:=h;have h1:(VH os)[pre.length]?=some x:=by rw[<-hr];simp
 rw[O7] at h1;cases ho:os[pre.length]? with
 |none=>rw[ho] at h1;simp at h1
 |some o=>
  rw[ho] at h1;have:x=(o,pre.length):=by simpa using h1.symm
  subst this;refine⟨ho,rfl,?_⟩;show pre=(VH os).take pre.length;rw[<-hr,Am,Gj rfl]
abbrev xB(B:Nat)(b:Option Addr):Ab:=(B,.cells #[.pointer b] 156 (0,0))
abbrev tU(gb:Nat)(v:Value)(os:OL):Prop:=v= .slice none 0 0/\os.length=0\/ ∃cap,v= .slice (some ⟨gb,0,none⟩) os.length cap
theorem Hn(B b:Nat)(n:Int)(g:Nat->Int)(v:Value)(os:OL)(gb:Nat)(hv:tU gb v os)(hn:os.length<=900000):
 Fa prog 169 [.pointer (some ⟨B,0,none⟩)] (λx:ObT×Nat=>[.int .i64 (x.2:Nat),.pointer (some ⟨gb,x.2*9,none⟩)]) (λxs=>xs=VH os) (λpre=>pre<+:VH os)
  (λ_ l=>xB B (some ⟨b,0,none⟩)∈l/\Rw b n g v∈l):=by
 refine⟨λr I Ix G0 hneed hY l G hG h0=>?_⟩;obtain⟨p,cap,rfl,hp⟩: ∃p cap,v= .slice p os.length cap/\(0<os.length->p=some ⟨gb,0,none⟩):=by
  rcases hv with⟨h,h0⟩|⟨cap,h⟩
  ·exact⟨none,0,by rw[h,h0],λh=>by omega⟩
  ·exact⟨_,cap,h,λ_=>rfl⟩
 obtain⟨n1,n2⟩:=hneed _ _ G hG h0;have cl:=TN n g (.slice p os.length cap);refine AM func169 ntmps169 λE=>?_;refine Aj ?_;refine CE (α:=Nat×List Ab) (λx=>[(0,.func (.yield r) #[] #[]),(1,.pointer (some ⟨B,0,none⟩)),(10,.int .i64 os.length),(11,.int .i64 x.1)]) (λx=>x.2++G) (λx=>x.1<=os.length/\I ((VH os).take x.1) x.2) (λx=>os.length-x.1) (0,l) ⟨Bl _,h0⟩ ⟨rfl,rfl,rfl,rfl,trivial⟩ .refl ?_;clear n1 n2;rintro⟨k,l⟩ ⟨hk,hI⟩;simp only at hk hI⊢;obtain⟨n1,n2⟩:=hneed _ _ G hG hI;by_cases hlt:k<os.length
 ·obtain⟨o,ho⟩: ∃o,os[k]?=some o:=⟨_,Al hlt⟩
  have hpp:=hp Af;subst hpp;refine Aj ?_;have hy:=hY ((VH os).take k) (o,k) l G hG hI (by rw[<-Rx ho];exact BE _ _);refine AP (CQ rfl rfl hy) ?_;rintro v l' ⟨l1,rfl,⟨rfl,hI'⟩|⟨rfl,hx⟩⟩
  ·refine Aj ?_;exact BV (k+1,l1) ⟨by simp only;omega,by simp only;rw[Rx ho];exact hI'⟩ (by simp only;omega) ⟨rfl,rfl,rfl,rfl,trivial⟩ .refl
  ·refine Aj ?_;exact BA [] rfl .refl (by exact A8) ⟨l1,rfl,.inr ⟨_,by rw[<-Rx ho];exact BE _ _,hx⟩⟩
 ·obtain rfl:k=os.length:=by omega
  rw[<-ZX,Ed] at hI;refine Aj ?_;exact A9 .refl ⟨l,rfl,.inl ⟨_,rfl,hI⟩⟩
abbrev F6(B:Nat)(x:Int):Ab:=(B,.cells #[.int .i64 x] 3 (0,0))
abbrev obK(B:Nat)(o:ObT):Ab:=(B,.cells (toArray (obC o)) 100 (0,0))
def atO(os:OL)(id:Int):Option Nat:=os.findIdx? λo=>decide (o.id=id)
def UP(os:OL)(id:Int):Int:=match atO os id with|some k=>(k:Int)|none=> -1
theorem atO_some(h:atO os id=some k): ∃o,os[k]?=some o/\o.id=id:=by unfold atO at h;rw[Iu] at h;obtain⟨h1,h2,_⟩:=h;exact⟨_,Al h1,by simpa using h2⟩
theorem Nc(h:atO os id=none):UP os id= -1:=by unfold UP;rw[h]
theorem Nd(h:atO os id=some k):UP os id=(k:Int):=by unfold UP;rw[h]
theorem UQ{e:Nat}{v:Value}{cs:List Ab}(ho:OwnSl e 9 v os.length (ocs os) cs): ∃gb,tU gb v os/\ ∀(k:Nat) (o:ObT),os[k]?=some o-> ∃sp,cs=[(gb,Obj.cells (toArray (ocs os++sp)) e (0,0))]:=by
 rcases ho.2 with⟨rfl,h0,rfl⟩|⟨b,cap,sp,rfl,rfl,_⟩
 ·exact⟨0,.inl ⟨rfl,h0⟩,λk o h=>by have:=(Ay.1 h).1;omega⟩
 ·exact⟨b,.inr ⟨cap,rfl⟩,λk o h=>⟨sp,rfl⟩⟩
theorem qn(h:pre++[x]<+:VH os)(hp: ∀y,y∈pre->y.1.id≠id)(hx:x.1.id=id):UP os id=(x.2:Int):=by
 obtain⟨h1,h2,h3⟩:=O8 h;refine Nd ?_;unfold atO;rw[Iu];obtain⟨hl,he⟩:=Ay.1 h1;refine⟨hl,by rw[he];simpa using hx,λj hj=>?_⟩;have hjl:j<os.length:=by omega
 have hm:(os[j],j)∈pre:=by rw[h3];refine A6 (i:=j) ?_;rw[HX,Ad Af,O7,Al hjl];rfl
 have:=hp _ hm;simpa using this
theorem lY(hp: ∀y,y∈VH os->y.1.id≠id):UP os id= -1:=by refine Nc ?_;unfold atO;rw[List.findIdx?_eq_none_iff];intro o ho;obtain⟨k,hk⟩:=Jo ho;have:(o,k)∈VH os:=A6 (i:=k) (by rw[O7,hk];rfl);simpa using hp _ this
theorem Jc(b:Nat)(S:ArT)(lq:List Ab)(hA:IsA b S lq)(id:Int)(l:List Ab)(hsub: ∀c,c∈lq->c∈l):
 Fn prog 168 [.pointer (some ⟨b,0,none⟩),.int .i64 id] l λv l'=>v= .int .i64 (UP S.os id)/\l'=l:=by
 have hlen:=hA.ok.len;obtain⟨hok,v,cs,rfl,ho⟩:=hA;obtain⟨gb,hrow,Nl⟩:=UQ ho;refine AM func168 ntmps168 λE=>?_;refine HC λb3=>?_;refine HC λb4=>?_;refine AP (Az rfl rfl (IL _ rfl _)) ?_;rintro _ _ ⟨B,rfl,rfl⟩;refine gz ?_;refine C0 (α:=ObT×Nat) (ps:=[9,10]) (lb:=[.pointer (some ⟨B,0,none⟩)]) rfl (Hn B b S.n S.g v S.os gb hrow Af) (λ_=>rfl) rfl
  (λpre l=>l=[xB B (some ⟨b,0,none⟩),F6 b4 0,F6 b3 id]/\ ∀x,x∈pre->¬x.1.id=id)
  (λc pre l=>c= .ret/\ ∃(pre':List (ObT×Nat)) (x:ObT×Nat),pre=pre'++[x]/\(∀x,x∈pre'->¬x.1.id=id)/\x.1.id=id/\l=[F6 b4 (x.2:Nat)])
  _ l (λpre l2 X2 hX h=>⟨by rw[h.1];exact List.Mem.head _,Aa _ (hX _ (hsub _ (.head _)))⟩) (by exact AS) ⟨rfl,by simp⟩ ?_ ?_ ?_
 ·rintro E r0 rec pre ⟨o,k⟩ l' T ⟨fn,tmps,D,rfl⟩ hT ⟨rfl,hpre⟩ hsp;obtain⟨ho1,_,_⟩:=O8 hsp;simp only at ho1;obtain⟨sp,rfl⟩:=Nl _ _ ho1;have hmT:=hT _ (hsub _ (.tail _ (.head _)));have c0:(toArray (ocs S.os++sp))[k*9]?=some (.int .i64 o.id):=OD ho1 sp 0 Af;simp only[DG,Ae,Ag];refine gz ?_;refine Cy (by exact DI) ?_;refine gz ?_;refine Ch [] 6 _ ?_ (hR:=(λ_ h=>h));refine pz ?_;by_cases hy:o.id=id
  ·refine gz ?_;refine Eg [F6 b4 (k:Nat)] (by exact AS) ⟨rfl,pre,(o,k),rfl,hpre,hy,rfl⟩
  ·refine gz ?_;refine B0 _ .refl ⟨rfl,λx hx=>?_⟩;rcases AE.1 hx with hx|hx
   ·exact hpre x hx
   ·rw[Ax.1 hx];exact hy
 ·rintro D xs l' rfl ⟨rfl,hpre⟩;rw[lY hpre];simp only[Ae,Ag];refine gz ?_;exact AW [D] (F6 b4 (-1)::l) rfl (l':=l) (by exact AS) (by exact A8) (.drop .refl) ⟨rfl,rfl⟩
 ·rintro D c pre l' hsp ⟨rfl,pre',x,rfl,hp',ht,rfl⟩;rw[qn hsp hp' ht];simp only[Ae,Ag];refine gz ?_;exact AW [D] (F6 b4 (x.2:Nat)::l) rfl (l':=l) (by exact AS) (by exact A8) (.drop .refl) ⟨rfl,rfl⟩
def getD'(S:ArT)(id:Int):ObT×Bool:=match atO S.os id with
 |some k=>(S.os.getD k obO,true)
 |none=>(obO,false)
theorem get_any(b:Nat)(S:ArT)(lq:List Ab)(hA:IsA b S lq)(id:Int)(l:List Ab)(hsub: ∀c,c∈lq->c∈l):
 Fn prog 113 [.pointer (some ⟨b,0,none⟩),.int .i64 id] l λv l'=>v= .tuple #[.agg (toArray (obC (getD' S id).1)),.bool (getD' S id).2]/\l'=l:=by
 have hA':=hA;have hlen:=hA.ok.len;obtain⟨hok,v,cs,rfl,ho⟩:=hA;have hm:=hsub _ (.head _);have cl:=TN S.n S.g v;refine AM func113 ntmps113 λE=>?_;refine HC λb4=>?_;refine Bb (AJ rfl rfl λl2 hl=>Jc b S _ hA' id l2 (λc hc=>hl _ (.tail _ (hsub _ hc)))) ?_;cases hk:atO S.os id with
 |none=>rw[Nc hk];refine gz ?_;exact AW [] (obK b4 obO::l) rfl (l':=l) .refl (by exact A8) (.drop .refl) ⟨by unfold getD';rw[hk];rfl,rfl⟩
 |some k=>
  rw[Nd hk];obtain⟨o,ho1,_⟩:=atO_some hk;have hkl:=(Ay.1 ho1).1;rcases ho.2 with⟨_,h0,_⟩|⟨gb,cap,sp,rfl,rfl,_⟩
  ·omega
  obtain⟨x1,x2⟩:=ZU ho1 sp;have hm2:=hsub _ (.tail _ (.head _));refine gz ?_;refine Bb (Dn rfl (List.Mem.tail _ hm2) x1 x2) ?_;refine gz ?_;refine CF (l':=l) (obK b4 o::l) .refl (.drop .refl) ⟨?_,rfl⟩;unfold getD';rw[hk];simp only[List.getD,ho1,Di,Iw]
theorem gn(pre:OL)(y:ObT):ocs (pre++[y])=ocs pre++obC y:=by rw[L6];show _++(obC y++[])=_;rw[Bf]
def insD(os:OL)(o:ObT):OL:=os.takeWhile (λx=>decide (x.id<=o.id))++o::os.dropWhile (λx=>decide (x.id<=o.id))
def newO(S:ArT)(kd sz fi:Int):ObT:=⟨nextD S fi,kd,sz,fi,framesD kd sz,0,0,0,0⟩
def addE(S:ArT)(kd sz fi:Int):Int:=
 if framesD kd sz=0 then 2 else if fi<0\/fi>S.n-framesD kd sz then 3
 else if(S.os.all λo=>Jb kd fi (framesD kd sz) o)=false then 16 else if nextD S fi=0 then 11 else 0
def addD(S:ArT)(kd sz fi:Int):(Int×Int)×ArT:=
 if addE S kd sz fi=0 then((nextD S fi,0),{S with g:=upd S.g fi.toNat (S.g fi.toNat+1),os:=insD S.os (newO S kd sz fi)}) else((0,addE S kd sz fi),S)
theorem frames_rng(k s:Int):0<=framesD k s/\framesD k s<=64:=by
 unfold framesD
 repeat' split
 all_goals omega
theorem qo(hk:k<=os.length)(h1: ∀x∈os.take k,x.id<=o.id)(h2: ∀x∈os.drop k,¬x.id<=o.id):insD os o=os.take k++o::os.drop k:=by
 have e:os=os.take k++os.drop k:=(Cd ..).symm;have t1:os.takeWhile (λx=>decide (x.id<=o.id))=os.take k:=by
  conv=>lhs;rw[e]
  rw[Gk λx hx=>by simpa using h1 x hx];cases hd:os.drop k with
  |nil=>simp
  |cons y r=>rw[E7,Bf];simpa using h2 y (by rw[hd];exact .head _)
 have t2:os.dropWhile (λx=>decide (x.id<=o.id))=os.drop k:=by
  conv=>lhs;rw[e]
  rw[List.dropWhile_append_of_pos λx hx=>by simpa using h1 x hx];cases hd:os.drop k with
  |nil=>simp
  |cons y r=>rw[GR];simpa using h2 y (by rw[hd];exact .head _)
 unfold insD;rw[t1,t2]
theorem lZ(h:os.Pairwise λx y=>x.id<y.id){x y:ObT}(hx:os[i]?=some x)(hy:os[j]?=some y)(hij:i<j):x.id<y.id:=by obtain⟨h1,rfl⟩:=Ay.1 hx;obtain⟨h2,rfl⟩:=Ay.1 hy;exact Hs.1 h i j h1 h2 hij
theorem QL{x:ObT}:x∈insD os o<->x=o\/x∈os:=by
 unfold insD;have e:=BI (p:=λx:ObT=>decide (x.id<=o.id)) (l:=os)
 conv=>rhs;rw[<-e]
 simp only[AE,Ap];constructor
 ·rintro(h|h|h)
  ·exact .inr (.inl h)
  ·exact .inl h
  ·exact .inr (.inr h)
 ·rintro(h|h|h)
  ·exact .inr (.inl h)
  ·exact .inl h
  ·exact .inr (.inr h)
theorem UR(os:OL)(o:ObT):(insD os o).length=os.length+1:=by unfold insD;have e:=BN List.length (BI (p:=λx:ObT=>decide (x.id<=o.id)) (l:=os));rw[Ai] at e;rw[Ai,Br];omega
theorem We(h:os.Pairwise λx y=>x.id<y.id)(a:Int): ∀x∈os.dropWhile (λx=>decide (x.id<=a)),a<x.id:=by
 induction os with
 |nil=>intro x hx;cases hx
 |cons y r ih=>
  obtain⟨h1,h2⟩:=BY.1 h;intro x hx;by_cases hy:y.id<=a
  ·rw[List.dropWhile_cons_of_pos (by simpa using hy)] at hx;exact ih h2 x hx
  ·rw[GR (by simpa using hy)] at hx;rcases Ap.1 hx with rfl|hx
   ·omega
   ·have:=h1 x hx;omega
theorem go(a:Int): ∀x∈os.takeWhile (λx=>decide (x.id<=a)),x.id<=a:=by
 induction os with
 |nil=>intro x hx;cases hx
 |cons y r ih=>
  intro x hx;by_cases hy:y.id<=a
  ·rw[GS (by simpa using hy)] at hx;rcases Ap.1 hx with rfl|hx
   ·exact hy
   ·exact ih x hx
  ·rw[E7 (by simpa using hy)] at hx;cases hx
theorem QM(h:os.Pairwise λx y=>x.id<y.id)(hne: ∀x∈os,x.id≠o.id):(insD os o).Pairwise λx y=>x.id<y.id:=by
 unfold insD;have hT:=(List.takeWhile_sublist (l:=os) λx:ObT=>decide (x.id<=o.id))
 have hD:=(ID (l:=os) λx:ObT=>decide (x.id<=o.id))
 refine Bm.2 ⟨h.sublist hT,BY.2 ⟨λx hx=>We h o.id x hx,h.sublist hD⟩,λx hx y hy=>?_⟩;have h1:=go o.id x hx;have h2:=hne x (hT.subset hx);rcases Ap.1 hy with rfl|hy
 ·omega
 ·have:=We h o.id y hy;omega
theorem Ry(hS:S.Ok)(h:nextD S f≠0):0<=f/\f<S.n/\nextD S f=f+1+64*S.g f.toNat/\nextD S f<=65535/\1<=nextD S f:=by
 unfold nextD at*;have:=hS.g1 f.toNat
 split at h
 ·exact absurd rfl h
 split at h
 ·exact absurd rfl h
 split at h
 ·exact absurd rfl h
 rename_i h1 h2 h3;rw[Ac h1,Ac h2,Ac h3];refine⟨Af,Af,rfl,Af,Af⟩
theorem gp(hS:S.Ok)(h:nextD S f≠0): ∀x∈S.os,x.id≠nextD S f:=by
 intro x hx he;obtain⟨f0,f1,f2,_⟩:=Ry hS h;obtain⟨a0,a1,c,c0,c1,c2⟩:=hS.num x hx;have:=hS.n2;have e:x.fi=f:=by omega
 subst e;omega
theorem bY{sz:Int}(h:addE S kd sz fi=0):framesD kd sz≠0/\0<=fi/\fi<=S.n-framesD kd sz/\(S.os.all λo=>Jb kd fi (framesD kd sz) o)=true/\nextD S fi≠0:=by
 unfold addE at h
 split at h
 ·omega
 split at h
 ·omega
 split at h
 ·omega
 split at h
 ·omega
 rename_i h1 h2 h3 h4;exact⟨h1,Af,Af,by simpa using h3,h4⟩
theorem qp(hS:S.Ok)(kd sz fi:Int):(addD S kd sz fi).2.Ok:=by
 unfold addD
 split
 ·rename_i h;obtain⟨h1,h2,h3,h4,h5⟩:=bY h;obtain⟨f0,f1,f2,f3,f4⟩:=Ry hS h5;have hg:=hS.g1 fi.toNat;refine⟨hS.n1,hS.n2,λj=>?_,QM hS.asc (gp hS h5),λx hx=>?_,λx hx=>?_⟩
  ·show 0<=upd S.g fi.toNat (S.g fi.toNat+1) j/\upd S.g fi.toNat (S.g fi.toNat+1) j<=1024;by_cases e:j=fi.toNat
   ·subst e;rw[Du];omega
   ·rw[C7 _ _ _ _ e];exact hS.g1 j
  ·rcases QL.1 hx with rfl|hx
   ·exact⟨f4,f3⟩
   ·exact hS.rng x hx
  ·show 0<=x.fi/\x.fi<S.n/\ ∃c:Int,0<=c/\c<upd S.g fi.toNat (S.g fi.toNat+1) x.fi.toNat/\_;rcases QL.1 hx with rfl|hx
   ·exact⟨f0,f1,S.g fi.toNat,hg.1,by rw[show(newO S kd sz fi).fi.toNat=fi.toNat from rfl,Du];omega,f2⟩
   ·obtain⟨a0,a1,c,c0,c1,c2⟩:=hS.num x hx;refine⟨a0,a1,c,c0,?_,c2⟩;by_cases e:x.fi.toNat=fi.toNat
    ·rw[e,Du];rw[e] at c1;omega
    ·rw[C7 _ _ _ _ e];exact c1
 ·exact hS
abbrev TO(B:Nat)(x:Int):Ab:=(B,.cells #[.int .i64 x] 29 (0,0))
theorem Wf{sz e:Int}(h:addE S kd sz fi=e)(h0:e≠0):addD S kd sz fi=((0,e),S):=by unfold addD;rw[h,Ac h0]
theorem tV{sz:Int}(h:addE S kd sz fi=0):addD S kd sz fi=((nextD S fi,0),{S with g:=upd S.g fi.toNat (S.g fi.toNat+1),os:=insD S.os (newO S kd sz fi)}):=by unfold addD;rw[h,Ad rfl]
theorem l5(h: ∀x,x∈VH os->p x.1=true):(os.all p)=true:=by rw[AZ];intro o ho;obtain⟨k,hk⟩:=Jo ho;exact h (o,k) (A6 (i:=k) (by rw[O7,hk];rfl))
theorem l6(ho:o∈os)(h:p o=false):(os.all p)=false:=by
 cases e:os.all p with
 |false=>rfl
 |true=>rw[AZ] at e;rw[e o ho] at h;cases h
theorem ZY(hk:k<=os.length):(ocs os).take (k*9)=ocs (os.take k)/\(ocs os).drop (k*9)=ocs (os.drop k):=by
 have e:ocs os=ocs (os.take k)++ocs (os.drop k):=by rw[<-L6,Cd]
 have hl:(ocs (os.take k)).length=k*9:=by rw[Nb,C6];omega
 exact⟨by rw[e,Gj hl],by rw[e,HP hl]⟩
theorem Keep.appL(X:List Ab){A B:List Ab}(h:Keep A B):Keep (X++A) (X++B):=by obtain⟨r,p⟩:=h;exact⟨r,(Ex X p).trans (AA X r B)⟩
theorem Yb(X:List Ab)(v:Value)(n i bl:Nat)(xs ws:List Value)(cs F:List Ab)(ho:OwnSl 100 9 v n xs cs)(hi:i<=n)(hw:ws.length=9)(h1: ∀u∈ws,u.oneCell'=true)(hx1: ∀u∈xs,u.oneCell'=true)(hne: ∀c,c∈cs->c.1≠bl)(hn:n<=90000):
 Fn prog 183 [v,.int .i64 (i:Nat),.slice (some ⟨bl,0,none⟩) 1 1] ((bl,.cells (toArray ws) 100 (0,0))::(X++(cs++F))) λv' l'=> ∃c2,OwnSl 100 9 v' (n+1) (xs.take (i*9)++ws++xs.drop (i*9)) c2/\l'=X++(c2++F):=
 Fn.re (Keep.appL [_] (Keep.in_mid X cs F)) (Ya v n i bl xs ws cs (X++F) ho hi hw h1 hx1 hne hn) λv' l' ⟨c2,h2,e⟩=>⟨X++(c2++F),by rw[e];exact Keep.in_mid c2 X F,c2,h2,rfl⟩
theorem l9{I:Int}(h:os.Pairwise λx y=>x.id<y.id)(hk:k<=os.length)(hn:¬∃o,0<k/\os[k-1]?=some o/\o.id>I): ∀x∈os.take k,x.id<=I:=by
 intro x hx;obtain⟨j,hj⟩:=Jo hx;rw[HX] at hj
 split at hj
 ·rename_i hjk;obtain⟨o,ho⟩: ∃o,os[k-1]?=some o:=⟨_,Al Af⟩
  have h1:o.id<=I:=by
   by_cases h:o.id>I
   ·exact absurd ⟨o,Af,ho,h⟩ hn
   ·omega
  by_cases e:j=k-1
  ·subst e;rw[ho] at hj;cases hj;exact h1
  ·have:=lZ h hj ho Af;omega
 ·cases hj
theorem add_any(b:Nat)(S:ArT)(lq:List Ab)(hA:IsA b S lq)(kd sz fi:Int)(F:List Ab):
 Fn prog 138 [.pointer (some ⟨b,0,none⟩),.int .i64 kd,.int .i64 sz,.int .i64 fi] (lq++F) λv l'=>v= .tuple #[.int .i64 (addD S kd sz fi).1.1,.int .i64 (addD S kd sz fi).1.2]/\ ∃lq',IsA b (addD S kd sz fi).2 lq'/\l'=lq'++F:=by
 have hA':=hA;have hlen:=hA.ok.len;obtain⟨hok,v,cs,rfl,ho⟩:=hA;have hn1:=hok.n1;have hn2:=hok.n2;obtain⟨gb,hrow,Nl⟩:=UQ ho;have c0:=o9 S.n S.g v;have hm:Rw b S.n S.g v∈Rw b S.n S.g v::cs++F:= .head _;obtain⟨L,hL⟩: ∃L,Rw b S.n S.g v::cs++F=L:=⟨_,rfl⟩
 have hsub: ∀c,c∈Rw b S.n S.g v::cs->c∈L:=λc hc=>by rw[<-hL];exact Ah _ hc
 rw[hL] at hm⊢;obtain⟨N,hN⟩: ∃N,framesD kd sz=N:=⟨_,rfl⟩
 have hNr:=frames_rng kd sz;rw[hN] at hNr;refine AM func138 ntmps138 λE=>?_;refine AO λb5=>?_;refine AO λb7=>?_;refine AO λb8=>?_;refine AO λb9=>?_;refine Bb (AJ rfl rfl λl2 _=>frames_any kd sz l2) ?_;rw[hN];refine AO λb10=>?_;by_cases h1:N=0
 ·refine Aj ?_;have e:=Wf (S:=S) (fi:=fi) (show addE S kd sz fi=2 by unfold addE;rw[hN,Ad h1]) AX;refine AW [] (F6 b10 N::TO b9 2::F6 b8 0::F6 b7 fi::F6 b5 kd::L) rfl (l':=L) .refl (by exact A8) (.drop (.drop (.drop (.drop (.drop .refl))))) ⟨by rw[e];rfl,_,by rw[e];exact hA',hL.symm⟩
 refine Aj ?_;refine Ch [] 13 _ ?_ (hR:=(λ_ h=>h));by_cases h2:fi<0
 ·refine BM ?_;refine Aj ?_;have e:=Wf (show addE S kd sz fi=3 by unfold addE;rw[hN,Ac h1,Ad (.inl h2)]) AX;refine AW [] (F6 b10 N::TO b9 3::F6 b8 0::F6 b7 fi::F6 b5 kd::L) rfl (l':=L) .refl (by exact A8) (.drop (.drop (.drop (.drop (.drop .refl))))) ⟨by rw[e];rfl,_,by rw[e];exact hA',hL.symm⟩
 by_cases h3:fi>S.n-N
 ·refine BM ?_;refine Aj ?_;have e:=Wf (show addE S kd sz fi=3 by unfold addE;rw[hN,Ac h1,Ad (.inr h3)]) AX;refine AW [] (F6 b10 N::TO b9 3::F6 b8 0::F6 b7 fi::F6 b5 kd::L) rfl (l':=L) .refl (by exact A8) (.drop (.drop (.drop (.drop (.drop .refl))))) ⟨by rw[e];rfl,_,by rw[e];exact hA',hL.symm⟩
 refine BM ?_;refine Aj ?_;refine AP (Az rfl rfl (IL _ rfl _)) ?_;rintro _ _ ⟨B,rfl,rfl⟩;refine Aj ?_;refine C0 (α:=ObT×Nat) (ps:=[38,39]) (lb:=[.pointer (some ⟨B,0,none⟩)]) rfl (Hn B b S.n S.g v S.os gb hrow Af) (λ_=>rfl) rfl
  (λpre l=>l=[xB B (some ⟨b,0,none⟩),F6 b10 N,TO b9 0,F6 b8 0,F6 b7 fi,F6 b5 kd]/\ ∀x,x∈pre->Jb kd fi N x.1=true)
  (λc pre l=>c= .ret/\ ∃(pre':List (ObT×Nat)) (x:ObT×Nat),pre=pre'++[x]/\Jb kd fi N x.1=false/\l=[TO b9 16,F6 b8 0])
  _ L (λpre l2 X2 hX h=>⟨by rw[h.1];exact List.Mem.head _,Aa _ (hX _ (hsub _ (.head _)))⟩) (by exact AS) ⟨rfl,by simp⟩ ?_ ?_ ?_
 ·rintro E r0 rec pre ⟨o,k⟩ l' T ⟨fn,tmps,D,rfl⟩ hT ⟨rfl,hpre⟩ hsp;obtain⟨ho1,_,_⟩:=O8 hsp;simp only at ho1;obtain⟨sp,hcse⟩:=Nl _ _ ho1;have hmT:=hT _ (hsub _ (.tail _ (by rw[hcse];exact .head _)));simp only[DG,Ae,Ag];refine Aj ?_;refine Cy (by exact DI) ?_;refine Aj ?_;refine Bb (AJ rfl rfl λl2 hl=>bX kd fi N o gb (k*9) _ _ _ l2 (hl _ (.tail _ (.tail _ (.tail _ (.tail _ (.tail _ (.tail _ (.tail _ hmT)))))))) (OD ho1 sp)) ?_;cases hap:Jb kd fi N o with
  |false=>refine Aj ?_;refine Eg [TO b9 16,F6 b8 0] (by exact AS) ⟨rfl,pre,(o,k),rfl,hap,rfl⟩
  |true=>
   refine Aj ?_;refine B0 _ .refl ⟨rfl,λx hx=>?_⟩;rcases AE.1 hx with hx|hx
   ·exact hpre x hx
   ·rw[Ax.1 hx];exact hap
 ·rintro D xs l' rfl ⟨rfl,hpre⟩;simp only[Ae,Ag];refine Aj ?_;refine Bb (AJ rfl rfl λl2 hl=>next_any b S _ hA' fi l2 (λc hc=>hl _ (.tail _ (.tail _ (.tail _ (.tail _ (.tail _ (.tail _ (.tail _ (hsub c hc)))))))))) ?_;have hall:=l5 (p:=λo=>Jb kd fi N o) hpre;by_cases h4:nextD S fi=0
  ·rw[h4];refine Aj ?_;have e:=Wf (show addE S kd sz fi=11 by unfold addE;rw[hN,Ac h1,Ac Af,Ac (by rw[hall];decide),Ad h4]) AX;exact AW [D] (F6 b10 N::TO b9 11::F6 b8 0::F6 b7 fi::F6 b5 kd::L) rfl (l':=L) (by exact AS) (by exact A8) (.drop (.drop (.drop (.drop (.drop .refl))))) ⟨by rw[e];rfl,_,by rw[e];exact hA',hL.symm⟩
  have hE:addE S kd sz fi=0:=by unfold addE;rw[hN,Ac h1,Ac Af,Ac (by rw[hall];decide),Ac h4]
  obtain⟨f0,f1,f2,f3,f4⟩:=Ry hok h4;obtain⟨I,hI⟩: ∃I,nextD S fi=I:=⟨_,rfl⟩
  rw[hI] at f2 f3 f4 h4⊢;obtain⟨j,rfl⟩: ∃j:Nat,fi=j:=⟨fi.toNat,Af⟩
  have hj:j<64:=by omega
  rw[AY] at f2;have cg:=pa S.n S.g v hj;have hg:=hok.g1 j;have hOk:=qp hok kd sz j;rw[tV hE] at hOk⊢;rw[hI,AY] at hOk⊢;rw[<-hL];obtain⟨p,cap,rfl,hp⟩: ∃p cap,v= .slice p S.os.length cap/\(0<S.os.length->p=some ⟨gb,0,none⟩):=by
   rcases hrow with⟨h,h0⟩|⟨cap,h⟩
   ·exact⟨none,0,by rw[h,h0],λh=>by omega⟩
   ·exact⟨_,cap,h,λ_=>rfl⟩
  clear hsub hm hL hA';refine Aj ?_;refine Ch [10] 11 ([]) ?_;refine BM ?_;apply FM (S:=[F6 b7 (j:Nat)]);(·exact Tf);(·exact CS (.tail _ (.tail _ (.tail _ (.tail _ (.tail _ (.head _)))))));(·rfl);(·rfl);(·rfl);refine BM ?_;apply FM (S:=[Rw b S.n S.g (.slice p S.os.length cap)])
  ·exact DH rfl (.head _) cg
  ·exact CS (.tail _ (.tail _ (.tail _ (.tail _ (.tail _ (.tail _ (.tail _ (.head _))))))))
  ·rfl
  ·rfl
  ·rfl
  refine BM ?_;apply GW
  ·exact Dg (b:=b) (off:=1+j*1) (cs:=toArray (Wb S.n S.g (.slice p S.os.length cap))) rfl rfl rfl (by rw[gj _ _ _ hj];exact DI) (by rw[Bn,UO];omega)
  (·rfl);(·rfl);(·intro _ _ _ c hc;cases hc);(·exact λ_ _ _ x hx ha=>C3 Bs hx ha)
  rintro _ _ ⟨rfl,rfl⟩;obtain⟨g',hg'⟩: ∃g',upd S.g j (S.g j+1)=g':=⟨_,rfl⟩
  rw[hg'] at hOk⊢;have cl:=TN S.n g' (.slice p S.os.length cap);refine BM ?_;refine Aj ?_;refine CE (α:=Nat) (λk=>[(0,.pointer (some ⟨b,0,none⟩)),(2,.int .i64 sz),(5,.pointer (some ⟨b5,0,none⟩)),(7,.pointer (some ⟨b7,0,none⟩)),(8,.pointer (some ⟨b8,0,none⟩)),(9,.pointer (some ⟨b9,0,none⟩)),(10,.pointer (some ⟨b10,0,none⟩)),(13,.int .i64 I),(14,.int .i64 k)])
   (λk=>Cf D::xB B (some ⟨b,0,none⟩)::F6 b10 N::TO b9 0::F6 b8 0::F6 b7 (j:Nat)::F6 b5 kd::Rw b S.n g' (.slice p S.os.length cap)::(cs++F)) (λk=>k<=S.os.length/\ ∀x∈S.os.drop k,¬x.id<=I) (λk=>k) S.os.length ⟨A7 _,by simp⟩ ⟨rfl,rfl,rfl,rfl,rfl,rfl,rfl,rfl,rfl,trivial⟩ .refl ?_
  rintro k ⟨hk,hd⟩;by_cases hnx: ∃o,0<k/\S.os[k-1]?=some o/\o.id>I
  ·obtain⟨o,hk0,ho1,hoI⟩:=hnx;obtain⟨k,rfl⟩: ∃q,k=q+1:=⟨k-1,Af⟩
   rw[Nat.add_sub_cancel] at ho1;obtain⟨sp,hcse⟩:=Nl _ _ ho1;have hpp:=hp Af;have co:(toArray (ocs S.os++sp))[k*9]?=some (.int .i64 o.id):=OD ho1 sp 0 Af;rw[hpp] at cl⊢;refine Aj ?_;refine VW (DH (v:= .int .i64 o.id) (cs:=toArray (ocs S.os++sp)) rfl (.tail _ (.tail _ (.tail _ (.tail _ (.tail _ (.tail _ (.tail _ (.tail _ (Ah _ (by rw[hcse];exact .head _)))))))))) ?_) rfl rfl rfl rfl rfl rfl ?_
   ·rw[show((((k+1:Nat)):Int)-1).toNat=k by omega,BC];exact co
   refine Aj ?_;rw[show(((k+1:Nat)):Int)-1=(k:Nat) by omega,<-hpp];refine BV k ⟨Af,λx hx=>?_⟩ Af ⟨rfl,rfl,rfl,rfl,rfl,rfl,rfl,rfl,rfl,trivial⟩ .refl;rw[C4 Af] at hx;rcases Ap.1 hx with rfl|hx
   ·rw[(Ay.1 ho1).2];omega
   ·exact hd x hx
  ·have hT:=l9 hok.asc hk hnx;have hins:=qo (o:=newO S kd sz j) hk (λx hx=>by show x.id<=nextD S j;rw[hI];exact hT x hx) (λx hx=>by show ¬x.id<=nextD S j;rw[hI];exact hd x hx);have hnewO:newO S kd sz j=⟨I,kd,sz,j,N,0,0,0,0⟩:=by unfold newO;rw[hI,hN]
   rw[hnewO] at hins hOk⊢;obtain⟨ob,hob⟩: ∃ob:ObT,ob=⟨I,kd,sz,j,N,0,0,0,0⟩:=⟨_,rfl⟩
   have hobC:obC ob=[.int .i64 I,.int .i64 kd,.int .i64 sz,.int .i64 j,.int .i64 N,.int .i64 0,.int .i64 0,.int .i64 0,.int .i64 0]:=by rw[hob]
   rw[<-hob] at hins hOk⊢;have hX: ∀x:Ab,x∈[F6 b5 kd,F6 b7 (j:Nat),F6 b10 N,Rw b S.n g' (.slice p S.os.length cap)]->x∈Cf D::xB B (some ⟨b,0,none⟩)::F6 b10 N::TO b9 0::F6 b8 0::F6 b7 (j:Nat)::F6 b5 kd::Rw b S.n g' (.slice p S.os.length cap)::(cs++F):=by intro x hx;simp only[Ap,BQ,Eo] at hx⊢;rcases hx with rfl|rfl|rfl|rfl<;>simp only[true_or,or_true]
   have hbl2: ∀bl,(∀c,c∈Cf D::xB B (some ⟨b,0,none⟩)::F6 b10 N::TO b9 0::F6 b8 0::F6 b7 (j:Nat)::F6 b5 kd::Rw b S.n g' (.slice p S.os.length cap)::(cs++F)->c.1≠bl)-> ∀c,c∈cs->c.1≠bl:=λbl h c hc=>h c (.tail _ (.tail _ (.tail _ (.tail _ (.tail _ (.tail _ (.tail _ (.tail _ (Ah _ hc)))))))));rcases Nat.eq_zero_or_pos k with hk0|hk0
   case' inl=>
    refine Aj ?_
   case' inr=>
    obtain⟨q,hq⟩: ∃q,k=q+1:=⟨k-1,Af⟩
    obtain⟨o,ho1⟩: ∃o,S.os[q]?=some o:=⟨_,Al Af⟩
    have hoI:¬o.id>I:=λh=>hnx ⟨o,Af,by rw[hq];exact ho1,h⟩;obtain⟨sp,hcse⟩:=Nl _ _ ho1;have hpp:=hp Af;have co:(toArray (ocs S.os++sp))[q*9]?=some (.int .i64 o.id):=OD ho1 sp 0 Af;rw[hpp] at cl⊢;refine Aj ?_;refine VW (DH (v:= .int .i64 o.id) (cs:=toArray (ocs S.os++sp)) rfl (.tail _ (.tail _ (.tail _ (.tail _ (.tail _ (.tail _ (.tail _ (.tail _ (Ah _ (by rw[hcse];exact .head _)))))))))) ?_) rfl rfl rfl rfl rfl rfl ?_
    ·rw[show(((k:Nat):Int)-1).toNat=q by omega,BC];exact co
    refine Aj ?_;rw[<-hpp] at cl⊢
   all_goals
    refine Ch [12,13,16] 17 ([]) ?_;refine BM ?_;apply FM (S:=[Rw b S.n g' (.slice p S.os.length cap)])
    ·exact DH rfl (.head _) cl
    ·exact CS (hX _ (.tail _ (.tail _ (.tail _ (.head _)))))
    ·rfl
    ·rfl
    ·rfl
    refine BM ?_;apply FM (S:=[F6 b5 kd]);(·exact Tf);(·exact CS (hX _ (.head _)));(·rfl);(·rfl);(·rfl);refine BM ?_;apply FM (S:=[F6 b7 (j:Nat)]);(·exact Tf);(·exact CS (hX _ (.tail _ (.head _))));(·rfl);(·rfl);(·rfl);refine BM ?_;apply FM (S:=[F6 b10 N]);(·exact Tf);(·exact CS (hX _ (.tail _ (.tail _ (.head _)))));(·rfl);(·rfl);(·rfl);refine BM ?_;apply GC
    ·apply Fb (ws:=obC ob) (k:=9)
     ·rw[hobC];rfl
     ·rfl
     ·rfl
     ·decide
     ·decide
    ·rfl
    ·rfl
    ·rfl
    ·intro _ _ _ c hc;cases hc
    ·rintro _ _ ⟨bl,_,rfl,rfl⟩ x hx _ c hc;refine .tail _ (hX _ ?_);simp only[Ap,BQ,Eo] at hx;rcases hx with rfl|rfl|rfl|rfl<;>simp only[Ap,BQ,Eo] at hc<;>subst hc<;>simp only[Ap,true_or,or_true]
    rintro _ _ ⟨bl,hbl,rfl,rfl⟩;refine BM ?_;apply GC
    ·exact Az rfl rfl (Yb [Cf D,xB B (some ⟨b,0,none⟩),F6 b10 N,TO b9 0,F6 b8 0,F6 b7 (j:Nat),F6 b5 kd,Rw b S.n g' (.slice p S.os.length cap)] (.slice p S.os.length cap) S.os.length k bl (ocs S.os) (obC ob) cs F ho hk rfl (by simp[Value.oneCell']) (ZT _) (hbl2 bl hbl) Af)
    ·rfl
    ·rfl
    ·rfl
    ·intro _ _ _ c hc;cases hc
    ·exact λ_ _ _ x hx ha=>C3 Bs hx ha
    rintro v' _ ⟨c2,ho2,rfl⟩;have hv1:v'.oneCell'=true:=ho2.one;simp only[Ae,Ag];refine BM ?_;apply GW
    ·exact Dg (b:=b) (off:=65) (cs:=toArray (Wb S.n g' (.slice p S.os.length cap))) rfl rfl hv1 (by rw[Wc];exact DI) (by rw[Bn,UO];omega)
    (·rfl);(·rfl);(·intro _ _ _ c hc;cases hc);(·exact λ_ _ _ x hx ha=>C3 Bs hx ha)
    rintro _ _ ⟨rfl,rfl⟩;refine BM ?_;refine Aj ?_;rw[(ZY hk).1,(ZY hk).2] at ho2;refine AW [D] (F6 b10 N::TO b9 0::F6 b8 I::F6 b7 (j:Nat)::F6 b5 kd::Rw b S.n g' v'::(c2++F)) rfl (l':=Rw b S.n g' v'::(c2++F)) (by exact AS) (by exact A8) (.drop (.drop (.drop (.drop (.drop .refl))))) ⟨rfl,Rw b S.n g' v'::c2,⟨hOk,v',c2,rfl,?_⟩,rfl⟩;show OwnSl 100 9 v' (insD S.os ob).length (ocs (insD S.os ob)) c2;rw[UR,hins,L6,show ocs (ob::List.drop k S.os)=obC ob++ocs (List.drop k S.os) from rfl,<-Am];exact ho2
 ·rintro D c pre l' hsp ⟨rfl,pre',x,rfl,hap,rfl⟩;obtain⟨ho1,_,_⟩:=O8 hsp;simp only[Ae,Ag];refine Aj ?_;have e:=Wf (show addE S kd sz fi=16 by unfold addE;rw[hN,Ac h1,Ac Af,Ad (l6 (A6 ho1) hap)]) AX;exact AW [D] (TO b9 16::F6 b8 0::L) rfl (l':=L) (by exact AS) (by exact A8) (.drop (.drop .refl)) ⟨by rw[e];rfl,_,by rw[e];exact hA',hL.symm⟩
end Ar
def Rz(l:List Ab)(v:Value)(xs:List Int):Prop:=
 ∃a cap,v= .slice a xs.length cap/\(0<xs.length-> ∃b off cs t fz,a=some ⟨b,off,none⟩/\(b,Obj.cells cs t fz)∈l/\ ∀i x,xs[i]?=some x->cs[off+i*1]?=some (.int .i64 x))
def CG(x:Int):Value:= .int .i64 x
theorem OwnSl.intsQ{e:Nat}{v:Value}{xs:List Int}{cs l:List Ab}(h:OwnSl e 1 v xs.length (xs.map CG) cs)(hs: ∀c,c∈cs->c∈l):Rz l v xs:=by
 rcases h.2 with⟨rfl,h0,rfl⟩|⟨b,cap,sp,rfl,rfl,_⟩
 ·exact⟨none,0,by rw[h0],λh=>by omega⟩
 ·refine⟨_,cap,rfl,λh0=>⟨b,0,_,e,(0,0),rfl,hs _ Ak,λi x hx=>?_⟩⟩;have hlt:=(Ay.1 hx).1;rw[BC,Df,AC,AF (by simpa using hlt),A0,hx];rfl
theorem L7(v u:Value)(xs ys:List Int)(l:List Ab)(h1:Rz l v xs)(h2:Rz l u ys)(hx:xs.length<=1000000):
 Fn prog 49 [v,u] l λr l'=>r= .bool (decide (xs=ys))/\l'=l:=by
 obtain⟨a,ca,rfl,h1⟩:=h1;obtain⟨a',ca',rfl,h2⟩:=h2;refine AM func49 ntmps49 λE=>?_;by_cases hl:xs.length=ys.length
 ·refine gz ?_;refine CE (α:=Nat) (λk=>[(0,.slice a xs.length ca),(1,.slice a' ys.length ca'),(5,.int .i64 k)]) (λk=>l) (λk=>k<=xs.length/\ ∀j,j<k->xs[j]?=ys[j]?) (λk=>xs.length-k) 0 ⟨Bl _,λj h=>by omega⟩ ⟨rfl,rfl,rfl,trivial⟩ .refl ?_;rintro k ⟨hk,hj⟩;by_cases hlt:k<xs.length
  ·obtain⟨b,off,cs,t,fz,rfl,hm,hc⟩:=h1 Af;obtain⟨b',off',cs',t',fz',rfl,hm',hc'⟩:=h2 Af;have g1:=hc k _ (Al hlt);have g2:=hc' k _ (Al (show k<ys.length by omega));obtain⟨x,hx0⟩: ∃x,xs[k]=x:=⟨_,rfl⟩
   obtain⟨y,hy0⟩: ∃y,ys[k]'Af=y:=⟨_,rfl⟩
   rw[hx0] at g1;rw[hy0] at g2;have e1:xs[k]?=some x:=by rw[Al hlt,hx0]
   have e2:ys[k]?=some y:=by rw[Al (show k<ys.length by omega),hy0]
   refine gz ?_;refine Ch [] 9 _ ?_ (hR:=(λ_ h=>h));refine pz ?_;by_cases hxy:x=y
   ·refine gz ?_;exact BV (k+1) ⟨Af,λj hjk=>by
     by_cases e:j=k
     ·subst e;rw[e1,e2,hxy]
     ·exact hj j Af⟩ Af ⟨rfl,rfl,rfl,trivial⟩ .refl
   ·refine gz ?_;refine A9 .refl ⟨?_,rfl⟩;rw[show decide (xs=ys)=false from Av λe=>by subst e;rw[e1] at e2;exact hxy (by cases e2;rfl)];rfl
  ·obtain rfl:k=xs.length:=by omega
   refine gz ?_;refine A9 .refl ⟨?_,rfl⟩;rw[show decide (xs=ys)=true from At (C9 λj=>by
    by_cases h:j<xs.length
    ·exact hj j h
    ·rw[Bc Af,Bc Af])];rfl
 ·refine gz ?_;refine A9 .refl ⟨?_,rfl⟩;rw[show decide (xs=ys)=false from Av λe=>hl (by rw[e])];rfl
namespace Qu
variable{α:Type}{X:Nat->List Int}{vs:Nat->Value}{cs:Nat->List Ab}{ro:Option Nat}{N:Nat}
theorem Wg(id:Int): ∀(xs:List Int) (k:Nat),xs[k]?=some id->(∀j,j<k->xs[j]?≠some id)->xs.idxOf id=k/\id∈xs
 |[],k,h,_=>by simp at h
 |x::xs,0,h,_=>by simp only[CY,IA] at h;subst h;simp
 |x::xs,k+1,h,hn=>by
  have h0:x≠id:=λe=>hn 0 Af (by simp[e]);have ih:=Wg id xs k (by simpa using h) λj hj=>by simpa using hn (j+1) Af
  refine⟨?_,An _ ih.2⟩;rw[List.idxOf_cons,show(x==id)=false by simpa using h0,ih.1];rfl
def indexI(xs:List Int)(id:Int):Int:=if id∈xs then(xs.idxOf id:Nat) else-1
theorem index_any(v:Value)(xs:List Int)(id:Int)(l:List Ab)(h1:Rz l v xs)(hx:xs.length<=1000000):
 Fn prog 255 [v,.int .i64 id] l λr l'=>r= .int .i64 (indexI xs id)/\l'=l:=by
 obtain⟨a,ca,rfl,h1⟩:=h1;refine AM func255 ntmps255 λE=>?_;refine gz ?_;refine CE (α:=Nat) (λk=>[(0,.slice a xs.length ca),(1,.int .i64 id),(7,.int .i64 xs.length),(8,.int .i64 k)]) (λk=>l) (λk=>k<=xs.length/\ ∀j,j<k->xs[j]?≠some id) (λk=>xs.length-k) 0 ⟨Bl _,λj h=>by omega⟩ ⟨rfl,rfl,rfl,rfl,trivial⟩ .refl ?_;rintro k ⟨hk,hj⟩;by_cases hlt:k<xs.length
 ·obtain⟨b,off,cs,t,fz,rfl,hm,hc⟩:=h1 Af;have g1:=hc k _ (Al hlt);obtain⟨x,hx0⟩: ∃x,xs[k]=x:=⟨_,rfl⟩
  rw[hx0] at g1;have e1:xs[k]?=some x:=by rw[Al hlt,hx0]
  by_cases hxy:id=x
  ·subst hxy;obtain⟨i1,i2⟩:=Wg id xs k e1 hj;refine gz ?_;refine A9 .refl ⟨?_,rfl⟩;simp only[Iw,indexI,Ad i2,i1]
  ·refine gz ?_;exact BV (k+1) ⟨Af,λj hjk=>by
    by_cases e:j=k
    ·subst e;rw[e1];intro h;exact hxy (by cases h;rfl)
    ·exact hj j Af⟩ Af ⟨rfl,rfl,rfl,rfl,trivial⟩ .refl
 ·obtain rfl:k=xs.length:=by omega
  refine gz ?_;refine A9 .refl ⟨?_,rfl⟩;have:id∉xs:=λhm=>by obtain⟨j,hjl,hj2⟩:=List.getElem_of_mem hm;exact hj j hjl (by rw[Al hjl,hj2])
  simp only[Iw,indexI,Ac this]
theorem delete_any(v:Value)(xs:List Int)(i:Nat)(hi:i<xs.length)(cs F:List Ab)(h:OwnSl 3 1 v xs.length (xs.map CG) cs)(hn:xs.length<=1000000):
 Fn prog 200 [v,.int .i64 (i:Nat),.int .i64 ((i:Int)+1)] (cs++F) λr l'=> ∃cs',OwnSl 3 1 r (xs.eraseIdx i).length ((xs.eraseIdx i).map CG) cs'/\l'=cs'++F:=by
 obtain⟨hlen,h⟩:=h;rcases h with⟨rfl,h0,rfl⟩|⟨gb,cap,sp,rfl,rfl,hnc,hcm,hcl⟩
 ·omega
 obtain⟨cur,hcur⟩: ∃cur,xs.map CG++sp=cur:=⟨_,rfl⟩
 obtain⟨ys,hys⟩: ∃ys,(xs.eraseIdx i).map CG=ys:=⟨_,rfl⟩
 obtain⟨m,hm⟩: ∃m,xs.length=i+m+1:=⟨xs.length-(i+1),Af⟩
 have hel:(xs.eraseIdx i).length=i+m:=by rw[FC,Ad hi];omega
 have hnew:((xs.drop (i+1)).map CG).length=m:=by simp;omega
 have htake:cur.take (i*1)++(xs.drop (i+1)).map CG=ys:=by rw[<-hcur,<-hys,Dc,Aq,Df,List.take_append_of_le_length (by simp;omega),Gx]
 obtain⟨off',hoff⟩: ∃o,(if cap=i+1 then 0 else 0+(i+1)*1)=o:=⟨_,rfl⟩
 rw[hcur] at hcl⊢;rw[hel,hys];refine AM func200 ntmps200 λE=>?_;simp only[Ae,Ag];refine gz ?_;refine Bb (FF (l0:=i) (h0:=i+1) (m0:=xs.length) rfl (.some rfl Af rfl) (.some rfl Af Af) (.some rfl Af rfl) (λ_=>rfl) Af Af Af rfl rfl rfl) ?_;refine gz ?_;refine Ch [6] 8 ([]) ?_;refine pz ?_;apply Ej
 ·exact FF (l0:=0) (h0:=i) (m0:=cap) (off':=0) (n':=i) (c':=cap) rfl (.none) (.some rfl Af rfl) (.none) (by simp) Af Af Af (by simp) Af Af
 ·rfl
 ·rfl
 ·rfl
 refine pz ?_;apply Ej
 ·exact FF (l0:=i+1) (h0:=xs.length) (m0:=cap) (off':=off') (n':=m) rfl (.some rfl Af Af) (.none) (.none) (by simp) Af Af Af hoff Af rfl
 ·rfl
 ·rfl
 ·rfl
 refine pz ?_;apply CM
 ·apply TC (news:=(xs.drop (i+1)).map CG) (cl:=toArray cur) (cur:=toArray cur)
  ·rfl
  ·rfl
  ·exact Ak
  ·intro j u hj;have hjl:=(Ay.1 hj).1;rw[hnew] at hjl;rw[A0,J7] at hj;rw[<-hoff,Ac Af,AC,<-hcur,AF (by simp;omega),A0,show 0+(i+1)*1+j=i+1+j by omega];exact hj
  ·rw[hnew];omega
  ·intro u hu;rw[Au] at hu;obtain⟨a,_,rfl⟩:=hu;rfl
  ·omega
  ·rw[hnew];simp only[Bn];omega
 ·rfl
 ·rfl
 ·rfl
 ·intro _ _ _ c hc;cases hc
 rintro _ _ ⟨rfl,rfl⟩;have e1:(toArray cur).toList.take (i*1)++(xs.drop (i+1)).map CG++(toArray cur).toList.drop (i*1+((xs.drop (i+1)).map CG).length)=ys++cur.drop (i+m):=by rw[hnew,Df] at*;rw[<-htake]
 rw[e1];refine pz ?_;refine gz ?_;refine Bb (FF (l0:=i+m) (h0:=xs.length) (m0:=cap) (off':=i+m) (n':=1) rfl (.some rfl Af rfl) (.some rfl Af rfl) (.none) (by simp) Af Af Af (by rw[Ac Af];omega) Af rfl) ?_;refine gz ?_;have hyl:ys.length=i+m:=by rw[<-hys,A3,hel]
 have hdl:(cur.drop (i+m)).length=cap-(i+m):=by rw[Dx];omega
 apply Mu
 ·apply ZI (zs:=[.int .i64 0]) (cs:=toArray (ys++cur.drop (i+m)))
  ·rfl
  ·omega
  ·simp[Value.oneCell']
  ·exact DI
  ·simp;omega
 ·rfl
 ·rfl
 rintro _ _ ⟨rfl,rfl⟩;refine gz ?_;refine BA [] rfl .refl (by exact A8) ⟨[(gb,_)],⟨by rw[hyl];omega,.inr ⟨gb,cap,.int .i64 0::(cur.drop (i+m)).drop 1,rfl,?_,Af,hcm,?_⟩⟩,rfl⟩
 ·congr 3;simp only[BG,List.replicate_zero,Cq,List.flatten_nil,Bf,CV,Bt];congr 1;rw[Cm _ _ Af,show i+m-ys.length=0 by omega];cases hd:cur.drop (i+m) with
  |nil=>rw[hd] at hdl;simp at hdl;omega
  |cons c r=>rfl
 ·simp only[Ai,Br,Dx];omega
def upd{α:Type}(f:Nat->α)(k:Nat)(v:α):Nat->α:=λi=>if i=k then v else f i
theorem Du(f:Nat->α)(k:Nat)(v:α):upd f k v k=v:=Ad rfl
theorem C7(f:Nat->α)(k i:Nat)(v:α)(h:i≠k):upd f k v i=f i:=Ac h
theorem ZZ(f:Nat->α)(k:Nat)(v w:α):upd (upd f k v) k w=upd f k w:=by funext i;unfold upd;split<;>rfl
abbrev qC(b:Nat)(vs:Nat->Value):Ab:=(b,.cells (Array.ofFn (n:=8) λi=>vs i.val) 340 (0,0))
theorem US(vs:Nat->Value)(p:Nat)(hp:p<8):(Array.ofFn (n:=8) λi=>vs i.val)[p*1]?=some (vs p):=by simp[hp]
theorem Yc(vs:Nat->Value)(p:Nat)(hp:p<8)(v:Value):(Array.ofFn (n:=8) λi=>vs i.val).setIfInBounds (p*1) v=Array.ofFn (n:=8) λi=>upd vs p v i.val:=by
 apply Dq;intro j;rw[Df];by_cases hj:j<8
 ·by_cases e:p=j
  ·subst e;rw[GH (by simpa using hp)];simp[hp,Du]
  ·rw[FQ e];simp[hj,C7 _ _ _ _ (Ff e)]
 ·rw[EU (by simpa using hj),EU (by simpa using hj)]
def HK(cs:Nat->List Ab):Nat->List Ab
 |0=>[]
 |k+1=>cs k++HK cs k
theorem RA{cs cs':Nat->List Ab}: ∀k,(∀i,i<k->cs i=cs' i)->HK cs k=HK cs' k
 |0,_=>rfl
 |k+1,h=>by rw[HK,HK,h k Af,RA k λi hi=>h i Af]
theorem L8(cs:Nat->List Ab)(p:Nat): ∀k,p<k->(HK cs k).Perm (cs p++HK (upd cs p []) k)
 |0,h=>by omega
 |k+1,h=>by
  by_cases e:p=k
  ·subst e;rw[HK,HK,Du,Ag,RA p λi hi=>(C7 cs p i [] Af).symm]
  ·rw[HK,HK,C7 _ _ _ _ (Ff e)];exact((L8 cs p k Af).append_left _).trans (AA _ _ _)
theorem Wh(cs:Nat->List Ab)(p:Nat)(c:Ab)(hc:c∈cs p): ∀k,p<k->c∈HK cs k
 |0,h=>by omega
 |k+1,h=>by
  rw[HK,AE];by_cases e:p=k
  ·subst e;exact .inl hc
  ·exact .inr (Wh cs p c hc k Af)
structure QS(X:Nat->List Int)(vs:Nat->Value)(cs:Nat->List Ab):Prop where
 own: ∀p,p<8->OwnSl 3 1 (vs p) (X p).length ((X p).map CG) (cs p)
theorem QS.upd{X:Nat->List Int}{vs:Nat->Value}{cs:Nat->List Ab}(h:QS X vs cs)(p:Nat)(ys:List Int)(v:Value)(c:List Ab)(ho:OwnSl 3 1 v ys.length (ys.map CG) c):QS (upd X p ys) (upd vs p v) (upd cs p c):=⟨λq hq=>by
 by_cases e:q=p
 ·subst e;rw[Du,Du,Du];exact ho
 ·rw[C7 _ _ _ _ e,C7 _ _ _ _ e,C7 _ _ _ _ e];exact h.own q hq⟩
def IsQ(b:Nat)(X:Nat->List Int)(lq:List Ab):Prop:= ∃vs cs,QS X vs cs/\lq=qC b vs::HK cs 8
theorem QS.ints(h:QS X vs cs)(p:Nat)(hp:p<8)(l:List Ab)(hs: ∀c,c∈HK cs 8->c∈l):Rz l (vs p) (X p):=(h.own p hp).intsQ λc hc=>hs c (Wh cs p c hc 8 hp)
def fallT(ne:Nat->Bool)(m:Nat):List Nat:=((List.range (8-m)).map (7- ·)).filter ne
theorem RB(ne:Nat->Bool)(p:Nat)(hp:p<8):fallT ne p=fallT ne (p+1)++if ne p then[p] else[]:=by unfold fallT;rw[show 8-p=(8-(p+1))+1 by omega,Cu,Aq,Dr];congr 1;simp only[AI,CI,show 7-(8-(p+1))=p by omega,E4,List.filter_nil]
theorem TP(ne:Nat->Bool): ∀(d m:Nat),m+d<=8->fallT ne (m+d)<+:fallT ne m
 |0,m,_=>Gl
 |d+1,m,h=>by rw[<-Ji,show m+d+1=(m+d)+1 from rfl];refine List.IsPrefix.trans ?_ (TP ne d m Af);rw[RB ne (m+d) Af];exact Gc _ _
theorem fallT_mem(ne:Nat->Bool)(m p:Nat):p∈fallT ne m<->m<=p/\p<8/\ne p=true:=by
 unfold fallT;simp only[Ci,Au,Er];constructor
 ·rintro⟨⟨i,hi,rfl⟩,h⟩;exact⟨Af,Af,h⟩
 ·rintro⟨h1,h2,h3⟩;exact⟨⟨7-p,Af,Af⟩,h3⟩
theorem Nf(pv:Option Addr)(l:List Ab):Fn prog 120 [.pointer pv] l λv l'=> ∃B,(∀c,c∈l->c.1≠B)/\v= .func (.func 177) #[] #[.pointer (some ⟨B,0,none⟩)]/\l'=(B,.cells #[.pointer pv] 160 (0,0))::l:=by refine AM func120 ntmps120 λE=>?_;refine gz ?_;refine AP (Eb rfl rfl) ?_;rintro _ _ ⟨B,hB,rfl,rfl⟩;refine gz ?_;exact A9 .refl ⟨B,hB,rfl,rfl⟩
theorem PJ(B b:Nat)(vs:Nat->Value)(ns:Nat->Nat)(hv: ∀p,p<8-> ∃a cap,vs p= .slice a (ns p) cap):Fa prog 177 [.pointer (some ⟨B,0,none⟩)] (λp:Nat=>[.int .i64 (p:Nat),vs p]) (λxs=>xs=fallT (λp=>ns p !=0) 0) (λpre=>pre<+:fallT (λp=>ns p !=0) 0)
 (λ_ l=>(B,.cells #[.pointer (some ⟨b,0,none⟩)] 160 (0,0))∈l/\qC b vs∈l):=by
 obtain⟨ne,hne⟩: ∃ne,(λp=>ns p !=0)=ne:=⟨_,rfl⟩
 rw[hne];have hne': ∀p,ne p=(ns p !=0):=λp=>by rw[<-hne]
 refine⟨λr I Ix G0 hneed hY l G hG h0=>?_⟩;refine AM func177 ntmps177 λE=>?_;obtain⟨hm1,hm2⟩:=hneed _ _ G hG h0;refine gz ?_;refine CE (α:=Nat×List Ab) (λx=>[(0,.func (.yield r) #[] #[]),(1,.pointer (some ⟨B,0,none⟩)),(3,.int .i64 ((x.1:Nat)-1))]) (λx=>x.2++G) (λx=>x.1<=8/\I (fallT ne x.1) x.2) (λx=>x.1) (8,l) ⟨by simp,h0⟩ ⟨rfl,rfl,rfl,trivial⟩ .refl ?_;clear hm1 hm2;rintro⟨k,l⟩ ⟨hk,hI⟩;simp only at hk hI⊢;cases k with
 |zero=>refine gz ?_;exact A9 .refl ⟨l,rfl,.inl ⟨_,rfl,hI⟩⟩
 |succ p=>
  rw[show((p+1:Nat):Int)-1=(p:Int) by omega];obtain⟨hm1,hm2⟩:=hneed _ _ G hG hI;obtain⟨a,cap,hvp⟩:=hv p Af;have hg:=US vs p Af;rw[hvp] at hg;have e1:=RB ne p Af;by_cases hz:ns p=0
  ·rw[show ne p=false by rw[hne',hz];rfl] at e1;simp only[Bi,CR,Bf] at e1;refine gz ?_;exact BV (p,l) ⟨by simp only;omega,by simp only;rw[e1];exact hI⟩ (by simp) ⟨rfl,rfl,rfl,trivial⟩ .refl
  ·rw[show ne p=true by rw[hne'];simpa using hz] at e1;simp only[CT] at e1;have hsp:fallT ne (p+1)++[p]<+:fallT ne 0:=by
    rw[<-e1];have:=TP ne p 0 Af;rwa [BC] at this
   have hy:=hY (fallT ne (p+1)) p l G hG hI hsp;rw[<-e1,hvp] at hy;refine gz ?_;refine AP (CQ rfl rfl hy) ?_;rintro v l' ⟨l1,rfl,⟨rfl,hI'⟩|⟨rfl,hx⟩⟩
   ·refine gz ?_;exact BV (p,l1) ⟨by simp only;omega,hI'⟩ (by simp) ⟨rfl,rfl,rfl,trivial⟩ .refl
   ·refine gz ?_;exact BA [] rfl .refl (by exact A8) ⟨l1,rfl,.inr ⟨_,by rw[e1];exact hsp,hx⟩⟩
theorem Ng(f:α->Bool)(pre l:List α)(i:α)(h:pre++[i]<+:l)(hp: ∀j∈pre,f j=false)(hi:f i=true):l.find? f=some i:=by obtain⟨rest,rfl⟩:=h;rw[Am,Dm,By.2 (λj hj=>by simp[hp j hj])];simp[hi]
def neX(X:Nat->List Int):Nat->Bool:=λp=>(X p).length !=0
def findP(X:Nat->List Int)(id:Int):Option Nat:=(fallT (neX X) 0).find? λp=>decide (id∈X p)
def ff(X:Nat->List Int)(id:Int):Int×Int:=match findP X id with|some p=>((p:Nat),((X p).idxOf id:Nat))|none=>(-1,-1)
theorem RC(X:Nat->List Int)(id:Int)(p:Nat)(h:findP X id=some p):p<8/\id∈X p/\(X p).idxOf id<(X p).length:=by
 have h1:=DO h;have h2:=Bz h;rw[fallT_mem] at h2;have h3:id∈X p:=by simpa using h1
 exact⟨h2.2.1,h3,GB h3⟩
theorem QS.shape{X:Nat->List Int}{vs:Nat->Value}{cs:Nat->List Ab}(h:QS X vs cs): ∀p,p<8-> ∃a cap,vs p= .slice a ((λp=>(X p).length) p) cap:=λp hp=>(h.own p hp).shape
theorem Jc(b:Nat)(X:Nat->List Int)(lq:List Ab)(id:Int)(hq:IsQ b X lq)(hb: ∀p,p<8->(X p).length<=1000000)(l:List Ab)(hsub: ∀c,c∈lq->c∈l):
 Fn prog 199 [.pointer (some ⟨b,0,none⟩),.int .i64 id] l λv l'=>v= .tuple #[.int .i64 (ff X id).1,.int .i64 (ff X id).2]/\l'=l:=by
 obtain⟨vs,cs,hqs,rfl⟩:=hq;have hsub2: ∀c,c∈HK cs 8->c∈l:=λc hc=>hsub c (An _ hc);refine AM func199 ntmps199 λE=>?_;refine HC λb3=>?_;refine HC λb4=>?_;refine HC λb5=>?_;refine AP (Da rfl rfl (Nf _ _)) ?_;rintro v l' ⟨B,hB,rfl,rfl⟩;refine gz ?_;refine C0 (α:=Nat) (ps:=[11,12]) (lb:=[.pointer (some ⟨B,0,none⟩)]) rfl (PJ B b vs (λp=>(X p).length) hqs.shape) (λ_=>rfl) rfl
  (λpre l=>l=[(B,.cells #[.pointer (some ⟨b,0,none⟩)] 160 (0,0)),(b5,.cells #[.int .i64 0] 3 (0,0)),(b4,.cells #[.int .i64 0] 3 (0,0)),(b3,.cells #[.int .i64 id] 3 (0,0))]/\ ∀j∈pre,id∉X j)
  (λc pre l=>c= .ret/\ ∃(pre':List Nat) (p:Nat),pre=pre'++[p]/\(∀j∈pre',id∉X j)/\id∈X p/\l=[(b4,.cells #[.int .i64 (p:Nat)] 3 (0,0)),(b5,.cells #[.int .i64 ((X p).idxOf id:Nat)] 3 (0,0))])
  _ l (λpre l2 X2 hX h=>⟨by rw[h.1];exact List.Mem.head _,Aa _ (hX _ (hsub _ Ak))⟩) (by exact AS) ⟨rfl,by simp⟩ ?_ ?_ ?_
 ·rintro E r0 rec pre y l' T ⟨fn,tmps,D,rfl⟩ hT ⟨rfl,hpre⟩ hsp;have hy:=(fallT_mem _ _ _).1 (GT hsp (Aa _ Ak));simp only[DG,Ae,Ag];refine gz ?_;refine Cy (by exact DI) ?_;refine gz ?_;refine Bb (AJ rfl rfl (λl2 hl=>index_any (vs y) (X y) id l2 (hqs.ints y hy.2.1 l2 λc hc=>hl c (by simp[hT c (hsub2 c hc)])) (hb y hy.2.1))) ?_;by_cases hin:id∈X y
  ·rw[show indexI (X y) id=((X y).idxOf id:Nat) from Ad hin];refine gz ?_;refine Eg [(b4,.cells #[.int .i64 (y:Nat)] 3 (0,0)),(b5,.cells #[.int .i64 ((X y).idxOf id:Nat)] 3 (0,0))] (by exact AS) ⟨rfl,pre,y,rfl,hpre,hin,rfl⟩
  ·rw[show indexI (X y) id= -1 from Ac hin];refine gz ?_;refine B0 _ .refl ⟨rfl,λj hj=>?_⟩;rcases AE.1 hj with hj|hj
   ·exact hpre j hj
   ·simp at hj;subst hj;exact hin
 ·rintro D xs l' rfl ⟨rfl,hpre⟩;have hno:findP X id=none:=By.2 λj hj=>by simp[hpre j hj]
  simp only[Ae,Ag];refine gz ?_;exact AW [D] ((b4,.cells #[.int .i64 (-1)] 3 (0,0))::(b5,.cells #[.int .i64 (-1)] 3 (0,0))::l) rfl (l':=l) (by exact AS) (by exact A8) (by exact AS) ⟨by simp[Iw,ff,hno],rfl⟩
 ·rintro D c pre l' hsp ⟨rfl,pre',p,rfl,hp',hi,rfl⟩;have hfd:findP X id=some p:=Ng _ pre' _ p hsp (λj hj=>by simp[hp' j hj]) (by simp[hi]);simp only[Ae,Ag];refine gz ?_;exact AW [D] ((b4,.cells #[.int .i64 (p:Nat)] 3 (0,0))::(b5,.cells #[.int .i64 ((X p).idxOf id:Nat)] 3 (0,0))::l) rfl (l':=l) (by exact AS) (by exact A8) (by exact AS) ⟨by simp[Iw,ff,hfd],rfl⟩
theorem md(b:Nat)(X:Nat->List Int)(lq:List Ab)(id:Int)(hq:IsQ b X lq)(hb: ∀p,p<8->(X p).length<=1000000)(l:List Ab)(hsub: ∀c,c∈lq->c∈l):
 Fn prog 198 [.pointer (some ⟨b,0,none⟩),.int .i64 id] l λv l'=>v= .bool (findP X id).isSome/\l'=l:=by
 have H:=Jc b X lq id hq hb;refine AM func198 ntmps198 λE=>?_;refine gz ?_;cases hf:findP X id with
 |none=>rw[show ff X id=(-1,-1) by unfold ff;rw[hf]] at H;dsimp only at H;refine Bb (AJ rfl rfl (λl2 hl=>H l2 λc hc=>hl c (hsub c hc))) ?_;exact EA
 |some p=>rw[show ff X id=(((p:Nat):Int),(((X p).idxOf id:Nat):Int)) by unfold ff;rw[hf]] at H;dsimp only at H;refine Bb (AJ rfl rfl (λl2 hl=>H l2 λc hc=>hl c (hsub c hc))) ?_;refine gz ?_;refine A9 .refl ⟨?_,rfl⟩;simp[Iw]
def firstQ(X:Nat->List Int):Int×Bool:=match fallT (neX X) 0 with|p::_=>((X p).headD 0,true)|[]=>(0,false)
def allX(X:Nat->List Int)(pre:List Nat):List Int:=pre.flatMap X
theorem bZ(X:Nat->List Int)(pre:List Nat)(y:Nat):allX X (pre++[y])=allX X pre++X y:=by simp[allX]
theorem allX_len(X:Nat->List Int)(N:Nat): ∀(pre:List Nat),(∀p∈pre,(X p).length<=N)->(allX X pre).length<=pre.length*N
 |[],_=>by simp[allX]
 |p::pre,h=>by have h1:=h p Ak;have h2:=allX_len X N pre λq hq=>h q (An _ hq);unfold allX at h2⊢;rw[Cr,Ai,Br,FA];omega
theorem cf(ne:Nat->Bool):(fallT ne 0).length<=8:=by unfold fallT;refine BP (CU _ _) ?_;simp
theorem all_any(b:Nat)(X:Nat->List Int)(lq:List Ab)(hq:IsQ b X lq)(hb: ∀p,p<8->(X p).length<=1000000)(l:List Ab)(hsub: ∀c,c∈lq->c∈l):
 Fn prog 79 [.pointer (some ⟨b,0,none⟩)] l λv l'=> ∃cs,OwnSl 3 1 v (allX X (fallT (neX X) 0)).length ((allX X (fallT (neX X) 0)).map CG) cs/\l'=cs++l:=by
 obtain⟨vs,cs,hqs,rfl⟩:=hq;have hsub2: ∀c,c∈HK cs 8->c∈l:=λc hc=>hsub c (An _ hc);refine AM func79 ntmps79 λE=>?_;refine HC λb3=>?_;refine AP (Da rfl rfl (Nf _ _)) ?_;rintro v l' ⟨B,hB,rfl,rfl⟩;refine gz ?_;refine C0 (α:=Nat) (ps:=[8,9]) (lb:=[.pointer (some ⟨B,0,none⟩)]) rfl (PJ B b vs (λp=>(X p).length) hqs.shape) (λ_=>rfl) rfl
  (λpre l=> ∃v cs,OwnSl 3 1 v (allX X pre).length ((allX X pre).map CG) cs/\l=[(B,.cells #[.pointer (some ⟨b,0,none⟩)] 160 (0,0)),(b3,.cells #[v] 40 (0,0))]++cs)
  (λc pre l=>False)
  _ l (λpre l2 X2 hX h=>by obtain⟨v,cs,_,rfl⟩:=h;exact⟨List.Mem.head _,Aa _ (hX _ (hsub _ Ak))⟩) (by exact AS) ⟨_,[],OwnSl.nil _ _,rfl⟩ ?_ ?_ ?_
 ·rintro E r0 rec pre y l' T ⟨fn,tmps,D,rfl⟩ hT ⟨v,cs',hown,rfl⟩ hsp;have hy:=(fallT_mem _ _ _).1 (GT hsp (Aa _ Ak));have hn0:0<(X y).length:=by have:=hy.2.2;simp at this;exact List.length_pos_iff.2 this
  have hplen:pre.length<8:=by have h1:=List.IsPrefix.length_le hsp;have h2:=cf (λp=>(X p).length !=0);simp at h1;omega
  have hlen:(allX X pre).length<=8000000:=by refine BP (allX_len X 1000000 pre λp hp=>hb p ?_) Af;exact((fallT_mem _ _ _).1 (GT hsp (Ah _ hp))).2.1
  have hby:=hb y hy.2.1;obtain⟨a,cap,hv,hI⟩:=hqs.ints y hy.2.1 (HK cs 8) (λ_ h=>h);obtain⟨gb,off,cc,t,fz,rfl,hm,hc⟩:=hI hn0;have hmT:(gb,Obj.cells cc t fz)∈T:=hT _ (hsub2 _ hm);simp only[DG,Ae,Ag];rw[hv];refine gz ?_;refine Cy (.there (.there (Fg _ _ _ _ _))) ?_;refine gz ?_;refine Bk (Keep.of_perm (AA [(B,.cells #[.pointer (some ⟨b,0,none⟩)] 160 (0,0)),(b3,.cells #[v] 40 (0,0))] cs' _)) ?_;apply fe
  ·apply F4 (xs:=(allX X pre).map CG) (news:=(X y).map CG) (zs:=[.int .i64 0]) (cl:=cc)
   ·rfl
   ·rfl
   ·rfl
   ·exact hown
   ·exact Aa _ (.tail _ (.tail _ (.tail _ hmT)))
   ·intro j u hj;rw[A0,C8] at hj;obtain⟨x,hx,rfl⟩:=hj;have:=hc j x hx;rwa [Df] at this
   ·simp
   ·intro u hu;rw[Au] at hu;obtain⟨a,_,rfl⟩:=hu;rfl
   ·unfold maxLen;omega
   ·omega
  ·rfl
  ·rfl
  ·rfl
  rintro v' _ ⟨cs2,hown',rfl⟩;have hv1:v'.oneCell'=true:=hown'.one;refine Bk (Keep.of_perm (AA cs2 [(B,.cells #[.pointer (some ⟨b,0,none⟩)] 160 (0,0)),(b3,.cells #[v] 40 (0,0))] _)) ?_;simp only[Ae,Ag];refine gz ?_;refine B0 _ (.refl) ⟨v',cs2,?_,rfl⟩;rw[bZ,Ai,Aq];exact hown'
 ·rintro D xs l' rfl ⟨v,cs',hown,rfl⟩;simp only[Ae,Ag];refine gz ?_;refine AW [D] (cs'++l) rfl (l':=cs'++l) (by exact AS) (by exact A8) .refl ?_;exact⟨cs',hown,rfl⟩
 ·rintro D c pre l' hsp h;exact h.elim
def noX:Nat->List Int:=λ_=>[]
theorem me:QS noX (λ_=> .slice none 0 0) (λ_=>[]):=⟨λp hp=>OwnSl.nil _ _⟩
theorem ck(v:Value):(Array.ofFn (n:=8) λi=>(λ_=>v) i.val)=toArray [v,v,v,v,v,v,v,v]:=Bs
theorem new_any(l:List Ab):Fn prog 133 [] l λv l'=> ∃b,v= .pointer (some ⟨b,0,none⟩)/\ ∃lq,IsQ b noX lq/\l'=lq++l:=by refine AM func133 ntmps133 λE=>?_;refine gz ?_;refine AP (CK rfl) ?_;rintro _ _ ⟨b,hb,rfl,rfl⟩;refine gz ?_;exact BA [] rfl .refl (by exact A8) ⟨b,rfl,[qC b λ_=> .slice none 0 0],⟨_,_,me,rfl⟩,by rw[qC,ck];rfl⟩
theorem OpE.re{P:Program}{fr:Fr}{l l2:List Ab}{o:Oper}{K K':Value->List Ab->Prop}(k:Keep l l2)(h:OpE P ro N fr l2 o K)(hk: ∀v l',K v l'-> ∃l3,Keep l' l3/\K' v l3):OpE P ro N fr l o K':=
 ⟨h.nodef,λE a W hf hs=>(h.val E a W hf (k.sat hs)).mono λv W' ⟨l',h1,h2⟩=>by obtain⟨l3,h3,h4⟩:=hk v l' h1;exact⟨l3,h4,h3.sat h2⟩⟩
theorem TQ(cs:Nat->List Ab)(p:Nat)(hp:p<8)(c:List Ab):(c++HK (upd cs p []) 8).Perm (HK (upd cs p c) 8):=by have h:=L8 (upd cs p c) p 8 hp;rw[Du,ZZ] at h;exact h.symm
section
variable{fr:Fr}{d:Option Nat}{ty:TypeId}{pos:String}{aft:Array Edge}{g:Option (Nat×Bool)}
theorem gr{s x:Operand}{p b bl:Nat}{id:Int}{F:List Ab}(hqs:QS X vs cs)(hp:p<8)(hlen:(X p).length<=1000000)(hx:ev fr s=some (vs p))(hy:ev fr x=some (.slice (some ⟨bl,0,none⟩) 1 1)):
 OpE prog ro N fr ((bl,.cells (toArray [.int .i64 id]) 3 (0,0))::qC b vs::(HK cs 8++F)) ⟨d,.call {callee:= .builtin .append,args:=#[s,x],argTypes:=#[40,40]},ty,pos,aft,g⟩
  (λv' l'=> ∃c2,OwnSl 3 1 v' (X p++[id]).length ((X p++[id]).map CG) c2/\l'=qC b vs::(HK (upd cs p c2) 8++F)):=by
 have hpm:((bl,Obj.cells (toArray [.int .i64 id]) 3 (0,0))::qC b vs::(HK cs 8++F)).Perm (cs p++((bl,Obj.cells (toArray [.int .i64 id]) 3 (0,0))::qC b vs::(HK (upd cs p []) 8++F))):=by refine(List.Perm.cons _ (List.Perm.cons _ ((L8 cs p 8 hp).append_right F))).trans ?_;rw[Am];exact AA [(bl,Obj.cells (toArray [.int .i64 id]) 3 (0,0)),qC b vs] (cs p) _
 refine OpE.re (Keep.of_perm hpm) (F4 (k:=1) (yb:=8) (xs:=(X p).map CG) (news:=[.int .i64 id]) (zs:=[.int .i64 0]) hx hy rfl (hqs.own p hp) (Aa _ Ak) (λj u hj=>by simpa using hj) rfl (by simp[Value.oneCell']) (by unfold maxLen;omega) Af) ?_;rintro v' _ ⟨c2,ho,rfl⟩;refine⟨_,?_,c2,by rw[Ai,Aq];exact ho,rfl⟩;refine Keep.trans (Keep.of_perm (AA c2 [(bl,Obj.cells (toArray [.int .i64 id]) 3 (0,0)),qC b vs] _)) (.drop (.of_perm ?_));refine List.Perm.cons _ ?_;show List.Perm (c2++(HK (upd cs p []) 8++F)) _;rw[<-Am];exact(TQ cs p hp c2).append_right F
end
def addQ(X:Nat->List Int)(id prio:Int):Int×(Nat->List Int):=
 if id<1\/prio<0\/7<prio then(2,X) else if(findP X id).isSome then(16,X) else(0,upd X prio.toNat (X prio.toNat++[id]))
theorem add_any(b:Nat)(X:Nat->List Int)(lq:List Ab)(id prio:Int)(hq:IsQ b X lq)(hb: ∀p,p<8->(X p).length<=1000000)(F:List Ab):
 Fn prog 152 [.pointer (some ⟨b,0,none⟩),.int .i64 id,.int .i64 prio] (lq++F) λv l'=>v= .int .i64 (addQ X id prio).1/\ ∃lq',IsQ b (addQ X id prio).2 lq'/\l'=lq'++F:=by
 have H:=md b X lq id hq hb;obtain⟨vs,cs,hqs,rfl⟩:=hq;refine AM func152 ntmps152 λE=>?_;simp only[Ae];by_cases h0:id<1\/prio<0\/7<prio
 ·have e:addQ X id prio=(2,X):=Ad h0;rw[e];rcases h0 with h0|h0|h0
  ·refine gz ?_;exact A9 .refl ⟨rfl,_,⟨vs,cs,hqs,rfl⟩,rfl⟩
  ·by_cases h1:id<1
   ·refine gz ?_;exact A9 .refl ⟨rfl,_,⟨vs,cs,hqs,rfl⟩,rfl⟩
   ·refine gz ?_;exact A9 .refl ⟨rfl,_,⟨vs,cs,hqs,rfl⟩,rfl⟩
  ·by_cases h1:id<1
   ·refine gz ?_;exact A9 .refl ⟨rfl,_,⟨vs,cs,hqs,rfl⟩,rfl⟩
   ·refine gz ?_;exact A9 .refl ⟨rfl,_,⟨vs,cs,hqs,rfl⟩,rfl⟩
 ·obtain⟨p,rfl⟩: ∃p:Nat,prio=p:=⟨prio.toNat,Af⟩
  have hp:p<8:=by omega
  refine gz ?_;refine Bb (AJ rfl rfl (λl2 hl=>H l2 λc hc=>hl c (Ah F hc))) ?_;cases hf:(findP X id).isSome with
  |true=>
   have e:addQ X id p=(16,X):=by unfold addQ;rw[Ac h0,Ad hf]
   rw[e];refine gz ?_;exact A9 .refl ⟨rfl,_,⟨vs,cs,hqs,rfl⟩,rfl⟩
  |false=>
   have e:addQ X id p=(0,upd X p (X p++[id])):=by unfold addQ;rw[Ac h0,Ac (by rw[hf];simp),AY]
   rw[e];have hg:=US vs p hp;obtain⟨v,hv⟩: ∃v,vs p=v:=⟨_,rfl⟩
   rw[hv] at hg;refine gz ?_;refine Ld [(0,true),(1,true),(2,true),(3,true),(4,true),(5,true),(6,true),(7,true),(8,true),(11,true),(12,true),(9,false),(10,false),(13,true),(14,false)] [[],[],[],[],[2],[2,4],[2,3,4,5],[2,3,4,5,6],[],[8],[2,3,4,5,6,7,8,9],[0],[0,11],[0,1,2,3,4,5,6,7,8,9,10,11,12],[0,1,2,3,4,5,6,7,8,9,10,11,12,13]] ([]) Bs Bs Gt SY ?_;refine pz ?_;apply FM (S:=[qC b vs])
   ·exact DH rfl Ak hg
   ·intro c hc;cases hc with
    |head=>exact Ak
    |tail _ h=>cases h
   ·rfl
   ·rfl
   ·rfl
   refine pz ?_;apply GC
   ·exact Kg rfl rfl
   ·rfl
   ·rfl
   ·rfl
   ·intro _ _ _ c hc;cases hc
   ·rintro _ _ ⟨bl,_,rfl,rfl⟩ x hx _ c hc;cases hx with
    |head=>cases hc with
     |head=>exact .tail _ (.head _)
     |tail _ h=>cases h
    |tail _ h=>cases h
   rintro _ _ ⟨bl,_,rfl,rfl⟩;refine pz ?_;apply GC
   ·exact gr hqs hp (hb p hp) (by rw[hv];rfl) rfl
   ·rfl
   ·rfl
   ·rfl
   ·intro _ _ _ c hc;cases hc
   ·exact λ_ _ _ x hx ha=>C3 Bs hx ha
   rintro v' _ ⟨c2,ho,rfl⟩;have hv1:v'.oneCell'=true:=ho.one;refine pz ?_;apply GW
   ·exact Dg rfl rfl hv1 .here (by simp[hp])
   ·rfl
   ·rfl
   ·intro _ _ _ c hc;cases hc
   ·exact λ_ _ _ x hx ha=>C3 Bs hx ha
   rintro _ _ ⟨rfl,rfl⟩;rw[Yc vs p hp v'];refine pz ?_;refine gz ?_;refine A9 .refl ⟨rfl,_,⟨_,_,hqs.upd p _ v' c2 ho,rfl⟩,rfl⟩
end Qu
namespace En
open Qu
variable{b m clock:Nat}{lq:List Ab}{a:Int}
structure Row where
 id:Int
 th:List Int
 sd:Bool
 pb:Nat
 v:Value
 cs:List Ab
 st:Nat
variable{rows:List Row}{r:Row}
def Row.ent(r:Row):KB:=(r.id,.pointer (some ⟨r.pb,0,none⟩),r.st)
abbrev Row.bl(r:Row):Ab:=(r.pb,.cells (toArray [r.v,.bool r.sd]) 354 (0,0))
def Row.ch(r:Row):List Ab:=r.bl::r.cs
def Row.d(r:Row):Int×List Int×Bool:=(r.id,r.th,r.sd)
abbrev PK(b m:Nat):Ab:=(b,.cells #[.map (some m)] 345 (0,0))
structure EB(b:Nat)(rows:List Row)(m clock:Nat)(lq:List Ab):Prop where
 eq:lq=PK b m::(m,Fq .i64 (rows.map Row.ent) clock)::rows.flatMap Row.ch
 own: ∀r,r∈rows->OwnSl 3 1 r.v r.th.length (r.th.map CG) r.cs
 st: ∀r,r∈rows->r.st<clock
 nd:(rows.map Row.st).Nodup
 ids:(rows.map Row.id).Nodup
abbrev DE:=List (Int×List Int×Bool)
def IsE(b:Nat)(D:DE)(lq:List Ab):Prop:= ∃rows m clock,rows.map Row.d=D/\EB b rows m clock lq
theorem EB.m1(h:EB b rows m clock lq):PK b m∈lq:=by rw[h.eq];exact .head _
theorem EB.m2(h:EB b rows m clock lq):(m,Fq .i64 (rows.map Row.ent) clock)∈lq:=by rw[h.eq];exact .tail _ (.head _)
theorem EB.m3(h:EB b rows m clock lq)(hr:r∈rows){c:Ab}(hc:c∈r.ch):c∈lq:=by rw[h.eq];exact .tail _ (.tail _ (I7.2 ⟨r,hr,hc⟩))
theorem EB.ints{l:List Ab}(h:EB b rows m clock lq)(hr:r∈rows)(hs: ∀c,c∈lq->c∈l):Rz l r.v r.th:=(h.own r hr).intsQ λc hc=>hs c (h.m3 hr (.tail _ hc))
theorem RD{α β:Type}{f:α->β}: ∀{l:List α},(l.map f).Nodup-> ∀{x y:α},x∈l->y∈l->f x=f y->x=y
 |[],_,x,y,h,_,_=>by cases h
 |z::l,hn,x,y,hx,hy,e=>by
  rw[AI,AN] at hn;rcases Ap.1 hx with h1|h1<;>rcases Ap.1 hy with h2|h2
  ·rw[h1,h2]
  ·exact absurd (Au.2 ⟨y,h2,by rw[<-e,h1]⟩) hn.1
  ·exact absurd (Au.2 ⟨x,h1,by rw[e,h2]⟩) hn.1
  ·exact RD hn.2 h1 h2 e
theorem TR{α:Type}{p q:α->Bool}(hpq: ∀x,p x=true->q x=true): ∀{l:List α} {x:α},x∈l->q x=true->p x=false->(l.filter p).length<(l.filter q).length
 |[],x,h,_,_=>by cases h
 |y::l,x,h,hq,hp=>by
  have hle: ∀(l:List α),(l.filter p).length<=(l.filter q).length:=λl=>by
   induction l with
   |nil=>exact A7 _
   |cons z l ih=>
    rw[E4,E4]
    split
    ·rename_i h1;rw[Ad (hpq z h1)];exact Nat.succ_le_succ ih
    ·split
     ·exact EJ ih
     ·exact ih
  rw[E4,E4];rcases Ap.1 h with rfl|h
  ·rw[hp,Ac (by simp),Ad hq];exact Nat.lt_succ_of_le (hle l)
  ·have ih:=TR hpq h hq hp
   split
   ·rename_i h1;rw[Ad (hpq y h1)];exact Nat.succ_lt_succ ih
   ·split
    ·exact KJ ih
    ·exact ih
theorem new_any(l:List Ab):Fn prog 134 [] l λv l'=> ∃b,v= .pointer (some ⟨b,0,none⟩)/\ ∃lq,IsE b [] lq/\l'=lq++l:=by refine AM func134 ntmps134 λE=>?_;refine gz ?_;refine AP NK ?_;rintro _ _ ⟨m,hm,rfl,rfl⟩;refine gz ?_;refine AP (CK rfl) ?_;rintro _ _ ⟨b,hb,rfl,rfl⟩;refine gz ?_;exact BA [] rfl .refl (by exact A8) ⟨b,rfl,[PK b m,(m,.map #[] 0)],⟨[],m,0,rfl,⟨rfl,by simp,by simp,by simp,by simp⟩⟩,rfl⟩
open Qu
def findD(D:DE)(id:Int):Option (List Int×Bool):=(D.find? λx=>x.1==id).map (·.2)
def addD(D:DE)(id:Int):Int×DE:=if id<1 then(2,D) else if(findD D id).isSome then(11,D) else(0,D++[(id,[],false)])
def dropD(D:DE)(id:Int):List Int×Int×DE:=match findD D id with
 |some x=>(x.1,0,D.eraseP λx=>x.1==id)
 |none=>([],2,D)
def listD(D:DE)(id:Int):List Int×Bool:=match findD D id with
 |some x=>if x.1.length=0 then([],false) else x
 |none=>([],false)
theorem NL(h: ∀r,r∈rows->r.id≠a):KC a (rows.map Row.ent)=none:=by
 unfold KC;rw[LX.2 λe he=>by rw[Au] at he;obtain⟨r,hr,rfl⟩:=he;exact h r hr];rfl
theorem NM(hn:(rows.map Row.id).Nodup)(hr:r∈rows):KC r.id (rows.map Row.ent)=some (.pointer (some ⟨r.pb,0,none⟩)):=by
 unfold KC;cases h:Gs r.id (rows.map Row.ent) 0 with
 |none=>have:=LX.1 h _ (Au.2 ⟨r,hr,rfl⟩);exact absurd rfl this
 |some p=>obtain⟨i,v⟩:=p;obtain⟨_,e,he,h1,h2,_⟩:=Oy h;have hm:=A6 he;rw[Au] at hm;obtain⟨r',hr',rfl⟩:=hm;have:r'=r:=RD hn hr' hr h1;subst this;rw[<-h2];rfl
theorem Ma(h: ∀r,r∈rows->r.id≠a):findD (rows.map Row.d) a=none:=by
 unfold findD;rw[By.2 λx hx=>by rw[Au] at hx;obtain⟨r,hr,rfl⟩:=hx;simpa[Row.d] using h r hr];rfl
theorem Ki(hn:(rows.map Row.id).Nodup)(hr:r∈rows):findD (rows.map Row.d) r.id=some (r.th,r.sd):=by unfold findD;have hs:((rows.map Row.d).find? λx=>x.1==r.id).isSome=true:=List.find?_isSome.2 ⟨r.d,Au.2 ⟨r,hr,rfl⟩,by simp[Row.d]⟩;obtain⟨x,hx⟩:=HH.1 hs;rw[hx];have h1:=DO hx;have hm:=Bz hx;rw[Au] at hm;obtain⟨r',hr',rfl⟩:=hm;have:r'=r:=RD hn hr' hr (by simpa[Row.d] using h1);subst this;rfl
theorem cm(h: ∀r,r∈rows->r.id≠a)(v:Value)(clock:Nat):M5 a v clock (rows.map Row.ent)=(rows.map Row.ent++[(a,v,clock)],clock+1):=by
 unfold M5;rw[LX.2 λe he=>by rw[Au] at he;obtain⟨r,hr,rfl⟩:=he;exact h r hr]
theorem TS{a:Int}{v:Value}{s:Nat}: ∀(A B:List KB) (i:Nat),(∀x,x∈A->x.1≠a)->Gs a (A++(a,v,s)::B) i=some (i+A.length,v)
 |[],B,i,_=>by simp[Gs]
 |x::A,B,i,h=>by have:=h x Ak;rw[Ae,Gs,Ac (λe=>this e.symm),TS A B (i+1) λy hy=>h y (An _ hy)];simp;omega
theorem gA{v:Value}{s:Nat}(A B:List KB)(h: ∀x,x∈A->x.1≠a):Ox a (A++(a,v,s)::B)=A++B:=by unfold Ox;rw[TS A B 0 h];simp only[BC];rw[Is (A7 _),DD];rfl
theorem EB.split(h:EB b rows m clock lq)(hr:r∈rows): ∃A B,rows=A++r::B/\(∀x,x∈A->x.id≠r.id)/\(∀x,x∈B->x.id≠r.id):=by obtain⟨A,B,rfl⟩:=Ga hr;have hn:=h.ids;rw[Aq,AI,Bu] at hn;obtain⟨h1,h2,h3⟩:=hn;rw[AN] at h2;exact⟨A,B,rfl,λx hx e=>h3 _ (Au.2 ⟨x,hx,rfl⟩) _ Ak e,λx hx e=>h2.1 (Au.2 ⟨x,hx,e⟩)⟩
theorem add_any(b:Nat)(D:DE)(lq:List Ab)(id:Int)(hq:IsE b D lq)(F:List Ab):
 Fn prog 142 [.pointer (some ⟨b,0,none⟩),.int .i64 id] (lq++F) λv l'=>v= .int .i64 (addD D id).1/\ ∃lq',IsE b (addD D id).2 lq'/\l'=lq'++F:=by
 obtain⟨rows,m,clock,rfl,hE⟩:=hq;refine AM func142 ntmps142 λE=>?_;by_cases h0:id<1
 ·rw[show addD (rows.map Row.d) id=(2,rows.map Row.d) from Ad h0];refine gz ?_;exact A9 .refl ⟨rfl,_,⟨rows,m,clock,rfl,hE⟩,rfl⟩
 have hEq:=hE.eq;by_cases h1: ∃r,r∈rows/\r.id=id
 ·obtain⟨r,hr,rfl⟩:=h1;have hg:=NM hE.ids hr;rw[show addD (rows.map Row.d) r.id=(11,rows.map Row.d) by unfold addD;rw[Ac h0,Ki hE.ids hr];rfl];rw[hEq];simp only[Ae];refine gz ?_;rw[hg];refine gz ?_;refine BA [] rfl .refl (by exact A8) ⟨rfl,_,⟨rows,m,clock,rfl,hE⟩,by rw[hEq];rfl⟩
 ·have hno: ∀r,r∈rows->r.id≠id:=λr hr e=>h1 ⟨r,hr,e⟩;have hg:=NL hno;rw[show addD (rows.map Row.d) id=(0,rows.map Row.d++[(id,[],false)]) by unfold addD;rw[Ac h0,Ma hno];rfl];rw[hEq];simp only[Ae];refine gz ?_;rw[hg];refine gz ?_;refine AP (CK rfl) ?_;rintro _ _ ⟨pb,hpb,rfl,rfl⟩;refine Mu (KS rfl rfl rfl (by exact DI)) rfl rfl ?_;rintro _ _ ⟨rfl,rfl⟩;rw[cm hno];refine gz ?_;obtain⟨r,hr⟩: ∃r:Row,r=⟨id,[],false,pb,.slice none 0 0,[],clock⟩:=⟨_,rfl⟩
  refine BA [] rfl (l':=(PK b m::(m,Fq .i64 ((rows++[r]).map Row.ent) (clock+1))::(rows++[r]).flatMap Row.ch)++F) ?_ (by exact A8) ⟨rfl,_,⟨rows++[r],m,clock+1,by rw[Aq,hr];rfl,⟨rfl,λx hx=>?_,λx hx=>?_,?_,?_⟩⟩,rfl⟩
  ·rw[Aq,DV,hr];refine .of_perm ?_;show List.Perm ((pb,_)::PK b m::(m,_)::(rows.flatMap Row.ch++F)) (PK b m::(m,_)::((rows.flatMap Row.ch++[_])++F));refine(List.Perm.swap _ _ _).trans (List.Perm.cons _ ((List.Perm.swap _ _ _).trans (List.Perm.cons _ ?_)));rw[Am];exact AH.symm
  ·rcases AE.1 hx with hx|hx
   ·exact hE.own x hx
   ·rw[Ax.1 hx,hr];exact OwnSl.nil _ _
  ·rcases AE.1 hx with hx|hx
   ·exact KJ (hE.st x hx)
   ·rw[Ax.1 hx,hr];exact Hi _
  ·rw[Aq,Bu];refine⟨hE.nd,by simp,λx hx y hy=>?_⟩;rw[Au] at hx hy;obtain⟨x',hx',rfl⟩:=hx;obtain⟨y',hy',rfl⟩:=hy;have:=hE.st x' hx';rw[Ax.1 hy',hr];simp only;omega
  ·rw[Aq,Bu];refine⟨hE.ids,by simp,λx hx y hy=>?_⟩;rw[Au] at hx hy;obtain⟨x',hx',rfl⟩:=hx;obtain⟨y',hy',rfl⟩:=hy;rw[Ax.1 hy',hr];exact hno x' hx'
end En
namespace As
variable{α:Type}
structure ASt where
 obj:Nat->Int
 dead:Nat->Bool
 root:Nat->Int
 ser:Nat->Int
 given:Nat->Int
def ASt.at(s:ASt)(j:Nat):Value:=
 if j<80 then
  (if j%10=0 then .int .i64 (s.obj (j/10))
   else if j%10=1 then .bool (s.dead (j/10))
   else if j%10<6 then .int .i64 (s.root (4*(j/10)+(j%10-2)))
   else .int .i64 (s.ser (4*(j/10)+(j%10-6))))
 else .int .i64 (s.given (j-80))
def ASt.cells(s:ASt):Array Value:=Array.ofFn (n:=112) λi=>s.at i.val
theorem ASt.cells_get(s:ASt)(j:Nat)(h:j<112):s.cells[j]?=some (s.at j):=by simp[ASt.cells,h]
theorem ASt.cells_size(s:ASt):s.cells.size=112:=by simp[ASt.cells]
def upd{α:Type}(f:Nat->α)(k:Nat)(v:α):Nat->α:=λi=>if i=k then v else f i
theorem Du(f:Nat->α)(k:Nat)(v:α):upd f k v k=v:=by simp[upd]
theorem C7(f:Nat->α)(k i:Nat)(v:α)(h:i≠k):upd f k v i=f i:=by simp[upd,h]
theorem NN(s s':ASt)(k:Nat)(v:Value)(hk:k<112)(h1:s'.at k=v)(h2: ∀j,j<112->j≠k->s'.at j=s.at j):s.cells.setIfInBounds k v=s'.cells:=by
 apply Array.ext
 ·simp[ASt.cells]
 ·intro j hj1 hj2;have hj:j<112:=by simpa[ASt.cells] using hj2
  rw[Array.getElem_setIfInBounds (by simpa[ASt.cells] using hj)];by_cases e:k=j
  ·subst e;simp[ASt.cells,h1]
  ·rw[Ac e];simp[ASt.cells,h2 j hj (λh=>e h.symm)]
def Eh(p:Nat->Bool)(k:Nat):Option Nat:=(List.range k).find? p
theorem Ho(p:Nat->Bool)(k:Nat):Eh p (k+1)=(Eh p k).or (if p k then some k else none):=by unfold Eh;rw[Cu,Dm];cases h:p k<;>simp[List.find?,h]
theorem O9(p:Nat->Bool)(k:Nat):Eh p k=none<-> ∀i,i<k->p i=false:=by unfold Eh;simp
theorem KV(p:Nat->Bool)(k m:Nat)(hm:m<k)(hp:p m=true)(h:Eh p m=none):Eh p k=some m:=by
 have: ∀d,Eh p (m+1+d)=some m:=by
  intro d
  induction d with
  |zero=>rw[CH,Ho,h,hp];rfl
  |succ d ih=>rw[<-Ji,Ho,ih];rfl
 have:=this (k-(m+1));rwa [show m+1+(k-(m+1))=k by omega] at this
theorem Pa(p:Nat->Bool)(k m:Nat)(h:Eh p k=some m):m<k/\p m=true/\ ∀i,i<m->p i=false:=by
 unfold Eh at h;have h1:=DO h;have h2:=Bz h;refine⟨by simpa using h2,h1,λi hi=>?_⟩;cases hb:p i
 ·rfl
 ·exfalso;have hk:m<k:=by simpa using h2
  have hf:Eh p i=none\/ ∃q,Eh p i=some q:=by cases Eh p i<;>simp
  have key: ∀n,n<=k-> ∀q,Eh p n=some q->Eh p k=some q:=by
   intro n hn q hq;have: ∀d,Eh p (n+d)=some q:=by
    intro d
    induction d with
    |zero=>exact hq
    |succ d ih=>rw[<-Ji,Ho,ih];rfl
   have:=this (k-n);rwa [show n+(k-n)=k by omega] at this
  rcases hf with hf|⟨q,hf⟩
  ·have:=KV p k i Af hb hf;have e:Eh p k=some m:=h;rw[this] at e;cases e;omega
  ·have:=key i Af q hf;have e:Eh p k=some m:=h;rw[this] at e;obtain rfl:q=m:=AV e;have:q<i:=by unfold Eh at hf;have:=Bz hf;simpa using this
   omega
abbrev asA(b:Nat)(s:ASt):Ab:=(b,.cells s.cells 242 (0,0))
theorem ASt.c_obj(s:ASt)(p:Nat)(hp:p<8):s.cells[p*10]?=some (.int .i64 (s.obj p)):=by rw[s.cells_get _ Af];unfold ASt.at;rw[Ad Af,Ad Af,show p*10/10=p by omega]
theorem ASt.c_dead(s:ASt)(p:Nat)(hp:p<8):s.cells[p*10+1]?=some (.bool (s.dead p)):=by rw[s.cells_get _ Af];unfold ASt.at;rw[Ad Af,Ac Af,Ad Af,show(p*10+1)/10=p by omega]
theorem ASt.c_root(s:ASt)(p i:Nat)(hp:p<8)(hi:i<4):s.cells[p*10+2+i*1]?=some (.int .i64 (s.root (4*p+i))):=by rw[s.cells_get _ Af];unfold ASt.at;rw[Ad Af,Ac Af,Ac Af,Ad Af,show 4*((p*10+2+i*1)/10)+((p*10+2+i*1)%10-2)=4*p+i by omega]
theorem ASt.c_ser(s:ASt)(p i:Nat)(hp:p<8)(hi:i<4):s.cells[p*10+6+i*1]?=some (.int .i64 (s.ser (4*p+i))):=by rw[s.cells_get _ Af];unfold ASt.at;rw[Ad Af,Ac Af,Ac Af,Ac Af,show 4*((p*10+6+i*1)/10)+((p*10+6+i*1)%10-6)=4*p+i by omega]
theorem ASt.c_given(s:ASt)(n:Nat)(hn:n<32):s.cells[80+n*1]?=some (.int .i64 (s.given n)):=by rw[s.cells_get _ Af];unfold ASt.at;rw[Ac Af,show 80+n*1-80=n by omega]
def atO(s:ASt)(o:Int):Option Nat:=if o<1 then none else Eh (λp=>s.obj p==o) 8
def UP(s:ASt)(o:Int):Int:=match atO s o with|some p=>(p:Int)|none=> -1
theorem Jc(b:Nat)(s:ASt)(o:Int)(l:List Ab)(hm:asA b s∈l):
 Fn prog 192 [.pointer (some ⟨b,0,none⟩),.int .i64 o] l λv l'=>v= .int .i64 (UP s o)/\l'=l:=by
 refine AM func192 ntmps192 λE=>?_;refine gz ?_;refine lK rfl (λho=>?_) (λho=>?_)
 ·refine gz ?_;refine A9 .refl ⟨?_,rfl⟩;simp[Iw,UP,atO,ho]
 ·refine gz ?_;refine CE (α:=Nat) (λk=>[(0,.pointer (some ⟨b,0,none⟩)),(1,.int .i64 o),(12,.int .i64 k)]) (λk=>l) (λk=>k<=8/\Eh (λp=>s.obj p==o) k=none) (λk=>8-k) 0 ⟨Af,rfl⟩ ⟨rfl,rfl,rfl,trivial⟩ .refl ?_;rintro k ⟨hk,hf⟩;by_cases hlt:k<8
  ·have hc:=s.c_obj k hlt;refine gz ?_;refine lK rfl (λhq=>?_) (λhq=>?_)
   ·refine gz ?_;refine A9 .refl ⟨?_,rfl⟩;simp only[Iw,UP,atO,Ac ho];rw[KV _ 8 k hlt (by simp[hq]) hf]
   ·refine gz ?_;exact BV (k+1) ⟨Af,by rw[Ho,hf];simp[hq]⟩ Af ⟨rfl,rfl,rfl,trivial⟩ .refl
  ·obtain rfl:k=8:=by omega
   refine gz ?_;refine A9 .refl ⟨?_,rfl⟩;simp only[Iw,UP,atO,Ac ho];rw[hf]
def G3(p k:Nat):List (Fin 4):=(List.range k).filterMap λi=>if h:i<4 then(if 4*p+i=0 then none else some ⟨i,h⟩) else none
def Qn(p:Nat):List (Fin 4):=G3 p 4
theorem KW(p k:Nat)(hk:k<4):G3 p (k+1)=G3 p k++if 4*p+k=0 then[] else[⟨k,hk⟩]:=by unfold G3;rw[Cu,List.filterMap_append];congr 1;simp only[List.filterMap_cons,List.filterMap_nil,dif_pos hk];by_cases h:4*p+k=0<;>simp only[h,CT,CR]
theorem Yd(p k m:Nat)(h:k<=m)(hm:m<=4):G3 p k<+:G3 p m:=by
 induction m with
 |zero=>obtain rfl:k=0:=by omega
        exact Gl
 |succ m ih=>
  by_cases hk:k=m+1
  ·subst hk;exact Gl
  ·rw[KW _ _ Af];exact(ih Af Af).trans (Gc _ _)
theorem Nh(p:Nat)(l:List Ab):Fn prog 195 [.int .i64 p] l λv l'=> ∃B,(∀c,c∈l->c.1≠B)/\v= .func (.func 253) #[] #[.pointer (some ⟨B,0,none⟩)]/\l'=(B,.cells #[.int .i64 p] 3 (0,0))::l:=by refine AM func195 ntmps195 λE=>?_;refine gz ?_;refine AP (Eb rfl rfl) ?_;rintro _ _ ⟨B,hB,rfl,rfl⟩;refine gz ?_;exact A9 .refl ⟨B,hB,rfl,rfl⟩
theorem Le(B p:Nat)(hp:p<8):Fa prog 253 [.pointer (some ⟨B,0,none⟩)] (λi:Fin 4=>[.int .i64 ((4*p+i.val:Nat):Int),.int .i64 (i.val:Nat)]) (λxs=>xs=Qn p) (λpre=>pre<+:Qn p)
 (λ_ l=>(B,.cells #[.int .i64 p] 3 (0,0))∈l):=by
 refine⟨λr I Ix G0 hneed hY l G hG h0=>?_⟩;refine AM func253 ntmps253 λE=>?_;refine gz ?_;refine CE (α:=Nat×List Ab) (λx=>[(0,.func (.yield r) #[] #[]),(1,.pointer (some ⟨B,0,none⟩)),(5,.int .i64 x.1)]) (λx=>x.2++G) (λx=>x.1<=4/\I (G3 p x.1) x.2) (λx=>4-x.1) (0,l) ⟨by simp,h0⟩ ⟨rfl,rfl,rfl,trivial⟩ .refl ?_;rintro⟨k,l⟩ ⟨hk,hI⟩;simp only at hk hI⊢;by_cases hlt:k<4
 ·have hm:=hneed _ _ G hG hI;by_cases hz:4*p+k=0
  ·have e1:G3 p (k+1)=G3 p k:=by rw[KW _ _ hlt,Ad hz];simp
   refine gz ?_;exact BV (k+1,l) ⟨by simp;omega,by simp only;rw[e1];exact hI⟩ (by simp;omega) ⟨rfl,rfl,rfl,trivial⟩ .refl
  ·have e1:G3 p (k+1)=G3 p k++[⟨k,hlt⟩]:=by rw[KW _ _ hlt,Ac hz]
   have hsp:G3 p k++[⟨k,hlt⟩]<+:Qn p:=by rw[<-e1];exact Yd _ _ _ Af Af
   have hy:=hY (G3 p k) ⟨k,hlt⟩ l G hG hI hsp;rw[<-e1] at hy;refine gz ?_;refine AP (CQ rfl rfl hy) ?_;rintro v l' ⟨l1,rfl,⟨rfl,hI'⟩|⟨rfl,hx⟩⟩
   ·refine gz ?_;exact BV (k+1,l1) ⟨by simp;omega,hI'⟩ (by simp;omega) ⟨rfl,rfl,rfl,trivial⟩ .refl
   ·refine gz ?_;exact BA [] rfl .refl (by exact A8) ⟨l1,rfl,.inr ⟨_,by rw[e1];exact hsp,hx⟩⟩
 ·obtain rfl:k=4:=by omega
  refine gz ?_;exact A9 .refl ⟨l,rfl,.inl ⟨_,rfl,hI⟩⟩
def ASt.hit(s:ASt)(P:Int->Int->Bool)(n:Nat):Bool:=decide (s.root n≠0)&&P (s.root n) (s.ser n)
def Kk(s:ASt)(P:Int->Int->Bool):Option Nat:=Eh (λn=>decide (n≠0)&&s.hit P n) 32
def gB:Option Nat->List Value
 |none=>[.int .i64 0,.int .i64 0,.int .i64 0]
 |some n=>[.int .i64 (n:Nat),.int .i64 ((n/4:Nat):Int),.int .i64 ((n%4:Nat):Int)]
theorem RE(p:Nat)(i:Fin 4):i∈Qn p<->4*p+i.val≠0:=by
 unfold Qn G3;rw[List.mem_filterMap];constructor
 ·rintro⟨j,hj,h⟩;have hj4:j<4:=by simpa using hj
  rw[dif_pos hj4] at h;by_cases h0:4*p+j=0
  ·rw[Ad h0] at h;cases h
  ·rw[Ac h0] at h;cases h;exact h0
 ·intro h;exact⟨i.val,by simp,by rw[dif_pos i.isLt,Ac h]⟩
theorem Wi(p:Nat):(Qn p).Pairwise λa b=>a.val<b.val:=by
 have key: ∀k,k<=4->(G3 p k).Pairwise (λa b=>a.val<b.val)/\ ∀a∈G3 p k,a.val<k:=by
  intro k
  induction k with
  |zero=>intro _;exact⟨List.Pairwise.nil,by simp[G3]⟩
  |succ k ih=>
   intro hk;obtain⟨h1,h2⟩:=ih Af;rw[KW _ _ Af];by_cases h0:4*p+k=0
   ·rw[Ad h0,Bf];exact⟨h1,λa ha=>by have:=h2 a ha;omega⟩
   ·rw[Ac h0];refine⟨Bm.2 ⟨h1,by simp,λa ha b hb=>?_⟩,λa ha=>?_⟩
    ·simp at hb;subst hb;exact h2 a ha
    ·rcases AE.1 ha with ha|ha
     ·have:=h2 a ha;omega
     ·simp at ha;subst ha;simp
 exact(key 4 Af).1
theorem Wj(p:Nat)(pre:List (Fin 4))(i:Fin 4)(h:pre++[i]<+:Qn p):4*p+i.val≠0/\ ∀j:Fin 4,j.val<i.val->4*p+j.val≠0->j∈pre:=by
 obtain⟨rest,hr⟩:=h;refine⟨(RE p i).1 (by rw[<-hr];simp),λj hj h0=>?_⟩;have hm:=(RE p j).2 h0;have hs:=Wi p;rw[<-hr] at hm hs;rcases AE.1 hm with hm|hm
 ·rcases AE.1 hm with hm|hm
  ·exact hm
  ·simp at hm;subst hm;omega
 ·have:=(Bm.1 hs).2.2 i (by simp) j hm;omega
theorem Wk(b rb gf:Nat)[EN prog gf](s:ASt)(x:Int)(PP:Int->Int->Bool)(l:List Ab)(hA:asA b s∈l)(hx:(rb,Obj.cells #[.int .i64 x] 3 (0,0))∈l)
 (hg: ∀(r q:Int) l,(rb,Obj.cells #[.int .i64 x] 3 (0,0))∈l->Fn prog gf [.int .i64 r,.int .i64 q,.pointer (some ⟨rb,0,none⟩)] l λv l'=>v= .bool (PP r q)/\l'=l):
 Fn prog 193 [.pointer (some ⟨b,0,none⟩),.func (.func gf) #[] #[.pointer (some ⟨rb,0,none⟩)]] l λv l'=>v= .tuple #[.agg (toArray (gB (Kk s PP))),.bool (Kk s PP).isSome]/\l'=l:=by
 refine AM func193 ntmps193 λE=>?_;refine HC λb2=>?_;refine HC λb3=>?_;refine HC λb4=>?_;refine HC λb6=>?_;refine HC λb7=>?_;refine qc (α:=Nat×List Nat) (λx=>[(2,.pointer (some ⟨b2,0,none⟩)),(3,.pointer (some ⟨b3,0,none⟩)),(4,.pointer (some ⟨b4,0,none⟩)),(6,.pointer (some ⟨b6,0,none⟩)),(7,.pointer (some ⟨b7,0,none⟩)),(16,.int .i64 x.1)]) (λx=>x.2.map GU)
  (λx=>(b2,.cells #[.pointer (some ⟨b,0,none⟩)] 158 (0,0))::(b3,.cells #[.func (.func gf) #[] #[.pointer (some ⟨rb,0,none⟩)]] 266 (0,0))::(b4,.cells #[.int .i64 0,.int .i64 0,.int .i64 0] 361 (0,0))::(b6,.cells #[.int .i64 0,.int .i64 0,.int .i64 0] 361 (0,0))::(b7,.cells #[.bool false] 4 (0,0))::(x.2.map Cf++l))
  (λx=>x.1<=8/\ ∀n,n<4*x.1->(decide (n≠0)&&s.hit PP n)=false) (λx=>8-x.1) (0,[]) ⟨by simp,by simp⟩ ⟨rfl,rfl,rfl,rfl,rfl,rfl,trivial⟩ rfl (by exact AS) ?_
 rintro⟨k,Ds⟩ ⟨hk,hn⟩;simp only at hk hn⊢;have hA':asA b s∈Ds.map Cf++l:=Aa _ hA;have hx':(rb,Obj.cells #[.int .i64 x] 3 (0,0))∈Ds.map Cf++l:=Aa _ hx;by_cases hlt:k<8
 ·refine gz ?_;refine HC λb8=>?_;refine AP (Az rfl rfl (Nh k _)) ?_;rintro v l' ⟨B,hB,rfl,rfl⟩;refine gz ?_;refine C0 (α:=Fin 4) (ps:=[21,22]) (lb:=[.pointer (some ⟨B,0,none⟩)]) rfl (Le B k hlt) (λ_=>rfl) rfl
   (λpre l=>l=[(B,.cells #[.int .i64 (k:Nat)] 3 (0,0)),(b8,.cells #[.int .i64 (k:Nat)] 3 (0,0)),(b2,.cells #[.pointer (some ⟨b,0,none⟩)] 158 (0,0)),(b3,.cells #[.func (.func gf) #[] #[.pointer (some ⟨rb,0,none⟩)]] 266 (0,0)),(b4,.cells #[.int .i64 0,.int .i64 0,.int .i64 0] 361 (0,0)),(b6,.cells #[.int .i64 0,.int .i64 0,.int .i64 0] 361 (0,0)),(b7,.cells #[.bool false] 4 (0,0))]/\ ∀j∈pre,s.hit PP (4*k+j.val)=false)
   (λc pre l=>c= .exit 0/\ ∃(pre':List (Fin 4)) (i:Fin 4),pre=pre'++[i]/\(∀j∈pre',s.hit PP (4*k+j.val)=false)/\s.hit PP (4*k+i.val)=true/\l=[(b4,.cells #[.int .i64 0,.int .i64 0,.int .i64 0] 361 (0,0)),(b6,.cells #[.int .i64 ((4*k+i.val:Nat):Int),.int .i64 (k:Nat),.int .i64 (i.val:Nat)] 361 (0,0)),(b7,.cells #[.bool true] 4 (0,0))])
   _ (Ds.map Cf++l) (λpre l X _ h=>by rw[h.1];exact List.Mem.head _) (by exact AS) ⟨rfl,by simp⟩ ?_ ?_ ?_
  ·rintro E r rec pre y l' T ⟨fn,tmps,D,rfl⟩ hT ⟨rfl,hp⟩ hsp;have hAT:=hT _ hA';have hxT:=hT _ hx';have hy4:=y.isLt;have qr:=s.c_root k y.val hlt hy4;have qs:=s.c_ser k y.val hlt hy4;simp only[DG,Ae,Ag];refine gz ?_;refine Cy (by exact DI) ?_;refine gz ?_;refine Ch [] 10 _ ?_ (hR:=(λ_ h=>h));refine pz ?_;have hsel:s.hit PP (4*k+y.val)=(decide (s.root (4*k+y.val)≠0)&&PP (s.root (4*k+y.val)) (s.ser (4*k+y.val))):=rfl;by_cases hr:s.root (4*k+y.val)=0
   ·refine gz ?_;refine Ch [] 16 _ ?_ (hR:=(λ_ h=>h));refine pz ?_;refine gz ?_;refine B0 [(B,.cells #[.int .i64 (k:Nat)] 3 (0,0)),(b8,.cells #[.int .i64 (k:Nat)] 3 (0,0)),(b2,.cells #[.pointer (some ⟨b,0,none⟩)] 158 (0,0)),(b3,.cells #[.func (.func gf) #[] #[.pointer (some ⟨rb,0,none⟩)]] 266 (0,0)),(b4,.cells #[.int .i64 0,.int .i64 0,.int .i64 0] 361 (0,0)),(b6,.cells #[.int .i64 0,.int .i64 0,.int .i64 0] 361 (0,0)),(b7,.cells #[.bool false] 4 (0,0))] (by exact AS) ⟨rfl,?_⟩;intro j hj;rcases AE.1 hj with hj|hj
    ·exact hp j hj
    ·simp at hj;subst hj;rw[hsel,Av (by simp[hr])];rfl
   ·refine gz ?_;refine Ch [] 16 _ ?_ (hR:=(λ_ h=>h));refine pz ?_;apply V0
    ·exact Fh (fs:=[]) rfl rfl (λl hl=>hg _ _ l (hl _ (by exact BS)))
    all_goals try rfl
    refine pz ?_;refine gz ?_;refine fI rfl (λhP=>?_) (λhP=>?_)
    ·refine gz ?_;refine EE [(b4,.cells #[.int .i64 0,.int .i64 0,.int .i64 0] 361 (0,0)),(b6,.cells #[.int .i64 ((4*k+y.val:Nat):Int),.int .i64 (k:Nat),.int .i64 (y.val:Nat)] 361 (0,0)),(b7,.cells #[.bool true] 4 (0,0))] (by exact AS) ⟨rfl,pre,y,rfl,hp,by rw[hsel,hP,At hr];rfl,rfl⟩
    ·refine gz ?_;refine B0 [(B,.cells #[.int .i64 (k:Nat)] 3 (0,0)),(b8,.cells #[.int .i64 (k:Nat)] 3 (0,0)),(b2,.cells #[.pointer (some ⟨b,0,none⟩)] 158 (0,0)),(b3,.cells #[.func (.func gf) #[] #[.pointer (some ⟨rb,0,none⟩)]] 266 (0,0)),(b4,.cells #[.int .i64 0,.int .i64 0,.int .i64 0] 361 (0,0)),(b6,.cells #[.int .i64 0,.int .i64 0,.int .i64 0] 361 (0,0)),(b7,.cells #[.bool false] 4 (0,0))] (by exact AS) ⟨rfl,?_⟩;intro j hj;rcases AE.1 hj with hj|hj
     ·exact hp j hj
     ·simp at hj;subst hj;rw[hsel,hP,IE]
  ·rintro D xs l' rfl ⟨rfl,hp⟩;refine gz ?_;refine qd (k+1,D::Ds) ⟨by simp;omega,?_⟩ (by simp;omega) ⟨rfl,rfl,rfl,rfl,rfl,rfl,trivial⟩ rfl (by exact AS);intro n h;simp only at h;by_cases h4:n<4*k
   ·exact hn n h4
   ·obtain⟨j,hj,rfl⟩: ∃j,j<4/\n=4*k+j:=⟨n-4*k,Af,Af⟩
    by_cases h0:4*k+j=0
    ·simp[h0]
    ·have:=hp ⟨j,hj⟩ ((RE k ⟨j,hj⟩).2 h0);simp only at this;rw[this,IE]
  ·rintro D c pre l' hsp ⟨rfl,pre',i,rfl,hp',hi,rfl⟩;have hi4:=i.isLt;obtain⟨hi0,hbef⟩:=Wj k pre' i hsp;have hf:Kk s PP=some (4*k+i.val):=by
    refine KV _ _ _ Af (by rw[hi];simp;omega) ((O9 _ _).2 λn h=>?_);by_cases h4:n<4*k
    ·exact hn n h4
    ·obtain⟨j,hj,rfl⟩: ∃j,j<4/\n=4*k+j:=⟨n-4*k,Af,Af⟩
     by_cases h0:4*k+j=0
     ·simp[h0]
     ·have:=hp' ⟨j,hj⟩ (hbef ⟨j,hj⟩ (by simp only;omega) h0);simp only at this;rw[this,IE]
   simp only[Ae,Ag];refine gz ?_;refine Ch [2] 4 ([(b6,.cells #[.int .i64 ((4*k+i.val:Nat):Int),.int .i64 (k:Nat),.int .i64 (i.val:Nat)] 361 (0,0)),(b7,.cells #[.bool true] 4 (0,0))]) ?_;refine pz ?_;refine gz ?_;refine AW (D::Ds) ((b4,.cells #[.int .i64 ((4*k+i.val:Nat):Int),.int .i64 (k:Nat),.int .i64 (i.val:Nat)] 361 (0,0))::l) rfl (l':=l) (by(apply Keep.mid;exact AS)) (by exact A8) (by exact AS) ⟨?_,rfl⟩;rw[hf];simp only[Iw,gB,HZ];rw[show(4*k+i.val)/4=k by omega,show(4*k+i.val)%4=i.val by omega]
 ·obtain rfl:k=8:=by omega
  have hf:Kk s PP=none:=(O9 _ _).2 λn h=>hn n Af;refine gz ?_;refine Ch [2] 4 ([(b6,.cells #[.int .i64 0,.int .i64 0,.int .i64 0] 361 (0,0)),(b7,.cells #[.bool false] 4 (0,0))]) ?_;refine pz ?_;refine gz ?_;refine AW Ds ((b4,.cells #[.int .i64 0,.int .i64 0,.int .i64 0] 361 (0,0))::l) rfl (l':=l) (by(apply Keep.mid;exact AS)) (by exact A8) (by exact AS) ⟨?_,rfl⟩;rw[hf];rfl
theorem NO(b rb gf:Nat)[EN prog gf](s:ASt)(x:Int)(PP:Int->Int->Bool)(n:Nat)(hf:Kk s PP=some n)(l:List Ab)(hA:asA b s∈l)(hx:(rb,Obj.cells #[.int .i64 x] 3 (0,0))∈l)
 (hg: ∀(r q:Int) l,(rb,Obj.cells #[.int .i64 x] 3 (0,0))∈l->Fn prog gf [.int .i64 r,.int .i64 q,.pointer (some ⟨rb,0,none⟩)] l λv l'=>v= .bool (PP r q)/\l'=l):
 Fn prog 193 [.pointer (some ⟨b,0,none⟩),.func (.func gf) #[] #[.pointer (some ⟨rb,0,none⟩)]] l λv l'=>v= .tuple #[.agg #[.int .i64 (n:Nat),.int .i64 ((n/4:Nat):Int),.int .i64 ((n%4:Nat):Int)],.bool true]/\l'=l:=by
 have:=Wk b rb gf s x PP l hA hx hg;rw[hf] at this;exact this
theorem NP(b rb gf:Nat)[EN prog gf](s:ASt)(x:Int)(PP:Int->Int->Bool)(hf:Kk s PP=none)(l:List Ab)(hA:asA b s∈l)(hx:(rb,Obj.cells #[.int .i64 x] 3 (0,0))∈l)
 (hg: ∀(r q:Int) l,(rb,Obj.cells #[.int .i64 x] 3 (0,0))∈l->Fn prog gf [.int .i64 r,.int .i64 q,.pointer (some ⟨rb,0,none⟩)] l λv l'=>v= .bool (PP r q)/\l'=l):
 Fn prog 193 [.pointer (some ⟨b,0,none⟩),.func (.func gf) #[] #[.pointer (some ⟨rb,0,none⟩)]] l λv l'=>v= .tuple #[.agg #[.int .i64 0,.int .i64 0,.int .i64 0],.bool false]/\l'=l:=by
 have:=Wk b rb gf s x PP l hA hx hg;rw[hf] at this;exact this
def Id(x:Int):Int->Int->Bool:=λr _=>decide (r=x)
def Wl(x:Int):Int->Int->Bool:=λ_ q=>decide (q=x)
theorem gC(rb:Nat)(x r q:Int)(l:List Ab)(hx:(rb,Obj.cells #[.int .i64 x] 3 (0,0))∈l):Fn prog 194 [.int .i64 r,.int .i64 q,.pointer (some ⟨rb,0,none⟩)] l λv l'=>v= .bool (Id x r q)/\l'=l:=by refine AM func194 ntmps194 λE=>?_;exact EA
theorem gD(rb:Nat)(x r q:Int)(l:List Ab)(hx:(rb,Obj.cells #[.int .i64 x] 3 (0,0))∈l):Fn prog 231 [.int .i64 r,.int .i64 q,.pointer (some ⟨rb,0,none⟩)] l λv l'=>v= .bool (Id x r q)/\l'=l:=by refine AM func231 ntmps231 λE=>?_;exact EA
theorem RF(s:ASt)(PP:Int->Int->Bool)(n:Nat)(h:Kk s PP=some n):n<32/\n≠0/\s.root n≠0/\PP (s.root n) (s.ser n)=true:=by obtain⟨h1,h2,_⟩:=Pa _ _ _ h;simp[ASt.hit] at h2;exact⟨h1,h2.1,h2.2.1,h2.2.2⟩
def ofP(s:ASt)(r:Int):Int×Int×Bool:=match Kk s (Id r) with|some n=>((n:Int),s.ser n,true)|none=>(0,0,false)
def rootP(s:ASt)(q:Int):Int×Int×Bool:=match Kk s (Wl q) with|some n=>(s.root n,(n:Int),true)|none=>(0,0,false)
theorem of_any(b:Nat)(s:ASt)(r:Int)(l:List Ab)(hA:asA b s∈l):Fn prog 167 [.pointer (some ⟨b,0,none⟩),.int .i64 r] l λv l'=>v= .tuple #[.int .i64 (ofP s r).1,.int .i64 (ofP s r).2.1,.bool (ofP s r).2.2]/\l'=l:=by
 refine AM func167 ntmps167 λE=>?_;refine HC λrb=>?_;cases hf:Kk s (Id r) with
 |none=>refine Bb (AJ rfl rfl (λl hl=>NP b rb _ s r (Id r) hf l (hl _ (by exact BS)) (hl _ (by exact BS)) (λr' q l h=>gD rb r r' q l h))) ?_;refine HC λb7=>?_;exact AW [] l rfl (l':=l) (by exact AS) (by exact A8) .refl ⟨by simp[Iw,ofP,hf],rfl⟩
 |some n=>have hlt:=(RF s _ n hf).1;have qs:=s.c_ser (n/4) (n%4) Af Af;rw[show 4*(n/4)+n%4=n by omega] at qs;refine Bb (AJ rfl rfl (λl hl=>NO b rb _ s r (Id r) n hf l (hl _ (by exact BS)) (hl _ (by exact BS)) (λr' q l h=>gD rb r r' q l h))) ?_;refine HC λb7=>?_;refine Ch [] 16 _ ?_ (hR:=(λ_ h=>h));refine pz ?_;refine gz ?_;exact AW [] l rfl (l':=l) (by exact AS) (by exact A8) .refl ⟨by simp[Iw,ofP,hf],rfl⟩
end As
end Go.Proofs.YtlkgekpmileobaaGreat
