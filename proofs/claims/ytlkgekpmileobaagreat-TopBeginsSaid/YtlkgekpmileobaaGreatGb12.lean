/- Laws that the statement's proof leans on (joined out of several texts). -/
import Derived.Test.YtlkgekpmileobaaGreatGb8
import Derived.Test.YtlkgekpmileobaaGreatGb11
import Derived.Test.YtlkgekpmileobaaGreatGb10
set_option linter.unusedVariables false
set_option linter.unusedSimpArgs false
namespace Go.Proofs.YtlkgekpmileobaaGreat.Ar
open Tryz
open List(toArray)
open Go.RowKit
set_option maxRecDepth 20000
variable{os:OL}{id f:Int}{k:Nat}{o:ObT}{S:ArT}{pre:List (ObT×Nat)}{x:ObT×Nat}
def framesD(k s:Int):Int:=
 if k=1 then(if 1<=s/\s<=64 then s else 0)
 else if k=2 then(if s=1 then 1 else if s=2 then 1 else if s=3 then 2 else if s=4 then 4 else 0)
 else if k=3\/k=4\/k=5\/k=6\/k=8\/k=9 then(if s=0 then 1 else 0) else 0
def slotsD(k s:Int):Int:=
 if k=2 then(if s=1 then 2 else if s=2 then 4 else if s=3 then 8 else if s=4 then 16 else 0)
 else if k=9 then(if s=0 then 3 else 0) else 0
def Ii(x:Int):Prop:=0<=x/\x<=1048576
instance(x:Int):Decidable (Ii x):=by unfold Ii;exact inferInstance
def VJ(a n b k:Int):Bool:=decide (Ii a/\Ii n/\Ii b/\Ii k)
def Ou(a n b k:Int):Bool:=VJ a n b k&&decide (n>0)&&decide (k>0)&&decide (a<b+k)&&decide (b<a+n)
def Jv(a n b k:Int):Bool:=VJ a n b k&&(decide (n=0)||(decide (a>=b)&&decide (a+n<=b+k)))
def IH(kd fi n:Int)(o:ObT):Bool:=!Ou fi n o.fi o.fr||((decide (o.kd=1)&&Jv fi n o.fi o.fr)||(decide (kd=1)&&Jv o.fi o.fr fi n))
def nextD(S:ArT)(f:Int):Int:=if f<0 then 0 else if f>=S.n then 0 else if f+1+64*S.g f.toNat>65535 then 0 else f+1+64*S.g f.toNat
set_option maxHeartbeats 400000
theorem new_any(n:Int)(l:List Ab):Fn prog 129 [.int .i64 n] l λv l'=>
 (¬(1<=n/\n<=64)/\v= .tuple #[.pointer none,.int .i64 3]/\l'=l)\/((1<=n/\n<=64)/\ ∃b lq,v= .tuple #[.pointer (some ⟨b,0,none⟩),.int .i64 0]/\IsA b ⟨n,λ_=>0,[]⟩ lq/\l'=lq++l):=by
 refine AO func129 ntmps129 λE=>?_;by_cases h1:n<1
 ·refine Aj ?_;exact By [] rfl .refl (by exact A7) (.inl ⟨Af,rfl,rfl⟩)
 by_cases h2:n>64
 ·refine Aj ?_;exact By [] rfl .refl (by exact A7) (.inl ⟨Af,rfl,rfl⟩)
 refine Aj ?_;refine AS (CR rfl) ?_;rintro _ _ ⟨b,hb,rfl,rfl⟩;refine Aj ?_;refine By [] rfl .refl (by exact A7) (.inr ⟨Af,b,[Q8 b n (λ_=>0) (.slice none 0 0)],rfl,⟨⟨by show 1<=n;omega,by show n<=64;omega,λj=>by simp,.nil,(λx hx=>by cases hx),λx hx=>by cases hx⟩,_,[],rfl,OwnSl.nil _ _⟩,rfl⟩)
theorem Ij(b:Value)(h1:b.oneCell'=true)(l:List Ab):Fn prog 114 [b] l λv l'=> ∃B,v= .func (.func 169) #[] #[.pointer (some ⟨B,0,none⟩)]/\l'=(B,.cells #[b] 156 (0,0))::l:=by refine AO func114 ntmps114 λE=>?_;refine Aj ?_;refine AS (DZ rfl h1) ?_;rintro _ _ ⟨B,hB,rfl,rfl⟩;refine Aj ?_;exact A8 .refl ⟨B,rfl,rfl⟩
theorem slots_any(k s:Int)(l:List Ab):Fn prog 69 [.int .i64 k,.int .i64 s] l λv l'=>v= .int .i64 (slotsD k s)/\l'=l:=by
 refine AO func69 ntmps69 λE=>?_;by_cases h2:k=2
 ·subst h2;by_cases h1:1<=s/\s<=4
  ·have hs:s=1\/s=2\/s=3\/s=4:=by omega
   rcases hs with rfl|rfl|rfl|rfl
   ·refine Aj ?_;refine Bc (Q4 (i:=1) (n:=1) rfl rfl AW) ?_;exact Es
   ·refine Aj ?_;refine Bc (Q4 (i:=1) (n:=2) rfl rfl AW) ?_;exact Es
   ·refine Aj ?_;refine Bc (Q4 (i:=1) (n:=3) rfl rfl AW) ?_;exact Es
   ·refine Aj ?_;refine Bc (Q4 (i:=1) (n:=4) rfl rfl AW) ?_;exact Es
  ·by_cases h3:1<=s
   ·refine Aj ?_;refine A8 .refl ⟨?_,rfl⟩;unfold slotsD;rw[Ae rfl,Ac Af,Ac Af,Ac Af,Ac Af];rfl
   ·refine Aj ?_;refine A8 .refl ⟨?_,rfl⟩;unfold slotsD;rw[Ae rfl,Ac Af,Ac Af,Ac Af,Ac Af];rfl
 ·by_cases h9:k=9
  ·subst h9;by_cases h0:s=0
   ·subst h0;exact Es
   ·refine Aj ?_;refine A8 .refl ⟨?_,rfl⟩;unfold slotsD;rw[Ac Af,Ae rfl,Ac h0];rfl
  ·refine Aj ?_;refine A8 .refl ⟨?_,rfl⟩;unfold slotsD;rw[Ac h2,Ac h9];rfl
theorem Ov(a n b k:Int)(B:Nat)(l:List Ab)(hm:(B,Obj.cells (toArray [.int .i64 a,.int .i64 n,.int .i64 b,.int .i64 k]) 3 (0,0))∈l):Fn prog 311 [.slice (some ⟨B,0,none⟩) 4 4] l λv l'=>v= .bool (VJ a n b k)/\l'=l:=by
 refine AO func311 ntmps311 λE=>?_;refine Aj ?_;refine Cu (α:=Nat) (λi=>[(5,.slice (some ⟨B,0,none⟩) 4 4),(6,.int .i64 4),(7,.int .i64 i)]) (λi=>l) (λi=>i<=4/\ ∀j x,j<i->[a,n,b,k][j]?=some x->Ii x) (λi=>4-i) 0 ⟨Bf _,λj x h=>by omega⟩ ⟨rfl,rfl,rfl,trivial⟩ .refl ?_;rintro i ⟨hi,hj⟩;by_cases hlt:i<4
 ·obtain⟨x,hx⟩: ∃x,[a,n,b,k][i]?=some x:=⟨_,Am (show i<[a,n,b,k].length from hlt)⟩
  have hc:(toArray [Value.int .i64 a,.int .i64 n,.int .i64 b,.int .i64 k])[i*1]?=some (.int .i64 x):=by
   have:i=0\/i=1\/i=2\/i=3:=by omega
   rcases this with rfl|rfl|rfl|rfl<;>(simp at hx;subst hx;rfl)
  have hF:¬Ii x->VJ a n b k=false:=λh=>by
   refine Aw λhh=>h ?_;have:i=0\/i=1\/i=2\/i=3:=by omega
   rcases this with rfl|rfl|rfl|rfl<;>(simp at hx;subst hx;simp[hh])
  refine Aj ?_;by_cases h1:x<0
  ·refine Aj ?_;exact By [] rfl .refl (by exact A7) ⟨by rw[hF (λh=>by unfold Ii at h;omega)];rfl,rfl⟩
  by_cases h2:x>1048576
  ·refine Aj ?_;exact By [] rfl .refl (by exact A7) ⟨by rw[hF (λh=>by unfold Ii at h;omega)];rfl,rfl⟩
  ·refine Aj ?_;refine BS (i+1) ⟨Af,λj y hji hy=>?_⟩ Af ⟨rfl,rfl,rfl,trivial⟩ .refl;by_cases e:j=i
   ·subst e;rw[hx] at hy;cases hy;exact⟨Af,Af⟩
   ·exact hj j y Af hy
 ·obtain rfl:i=4:=by omega
  have hT:VJ a n b k=true:=At ⟨hj 0 a Af rfl,hj 1 n Af rfl,hj 2 b Af rfl,hj 3 k Af rfl⟩;refine Aj ?_;exact By [] rfl .refl (by exact A7) ⟨by rw[hT];rfl,rfl⟩
theorem dS{a n b k:Int}(h:VJ a n b k=true):Ii a/\Ii n/\Ii b/\Ii k:=Ey h
theorem dU(a n b k:Int)(l:List Ab):Fn prog 239 [.int .i64 a,.int .i64 n,.int .i64 b,.int .i64 k] l λv l'=>v= .bool (Ou a n b k)/\l'=l:=by
 refine AO func239 ntmps239 λE=>?_;refine Aj ?_;refine AS (Xk rfl AW AW rfl) ?_;rintro _ _ ⟨B,hB,rfl,rfl⟩;refine Aj ?_;refine Bc (AK rfl rfl λl2 hl=>Ov a n b k B l2 (hl _ (.head _))) ?_;cases hm:VJ a n b k with
 |false=>refine Aj ?_;exact By [] rfl (.drop .refl) (by exact A7) ⟨by unfold Ou;rw[hm];rfl,rfl⟩
 |true=>
  obtain⟨⟨a1,a2⟩,⟨n1,n2⟩,⟨b1,b2⟩,k1,k2⟩:=dS hm;by_cases h1:n>0
  ·by_cases h2:k>0
   ·by_cases h3:a<b+k
    ·by_cases h4:b<a+n
     ·refine Aj ?_;exact By [] rfl (.drop .refl) (by exact A7) ⟨by unfold Ou;rw[hm,At h1,At h2,At h3,At h4];rfl,rfl⟩
     ·refine Aj ?_;exact By [] rfl (.drop .refl) (by exact A7) ⟨by unfold Ou;rw[hm,At h1,At h2,At h3,Aw h4];rfl,rfl⟩
    ·refine Aj ?_;exact By [] rfl (.drop .refl) (by exact A7) ⟨by unfold Ou;rw[hm,At h1,At h2,Aw h3];rfl,rfl⟩
   ·refine Aj ?_;exact By [] rfl (.drop .refl) (by exact A7) ⟨by unfold Ou;rw[hm,At h1,Aw h2];rfl,rfl⟩
  ·refine Aj ?_;exact By [] rfl (.drop .refl) (by exact A7) ⟨by unfold Ou;rw[hm,Aw h1];rfl,rfl⟩
theorem Dg(a n b k:Int)(l:List Ab):Fn prog 240 [.int .i64 a,.int .i64 n,.int .i64 b,.int .i64 k] l λv l'=>v= .bool (Jv a n b k)/\l'=l:=by
 refine AO func240 ntmps240 λE=>?_;refine Aj ?_;refine AS (Xk rfl AW AW rfl) ?_;rintro _ _ ⟨B,hB,rfl,rfl⟩;refine Aj ?_;refine Bc (AK rfl rfl λl2 hl=>Ov a n b k B l2 (hl _ (.head _))) ?_;cases hm:VJ a n b k with
 |false=>refine Aj ?_;exact By [] rfl (.drop .refl) (by exact A7) ⟨by unfold Jv;rw[hm];rfl,rfl⟩
 |true=>
  obtain⟨⟨a1,a2⟩,⟨n1,n2⟩,⟨b1,b2⟩,k1,k2⟩:=dS hm;by_cases h1:n=0
  ·refine Aj ?_;exact By [] rfl (.drop .refl) (by exact A7) ⟨by unfold Jv;rw[hm,At h1];rfl,rfl⟩
  ·by_cases h3:a>=b
   ·by_cases h4:a+n<=b+k
    ·refine Aj ?_;exact By [] rfl (.drop .refl) (by exact A7) ⟨by unfold Jv;rw[hm,Aw h1,At h3,At h4];rfl,rfl⟩
    ·refine Aj ?_;exact By [] rfl (.drop .refl) (by exact A7) ⟨by unfold Jv;rw[hm,Aw h1,At h3,Aw h4];rfl,rfl⟩
   ·refine Aj ?_;exact By [] rfl (.drop .refl) (by exact A7) ⟨by unfold Jv;rw[hm,Aw h1,Aw h3];rfl,rfl⟩
theorem frames_any(k s:Int)(l:List Ab):Fn prog 51 [.int .i64 k,.int .i64 s] l λv l'=>v= .int .i64 (framesD k s)/\l'=l:=by
 refine AO func51 ntmps51 λE=>?_;by_cases h1:k=1
 ·subst h1;by_cases hs:s>=1
  ·by_cases hs2:s<=64
   ·refine Aj ?_;exact By [] rfl .refl (by exact A7) ⟨by unfold framesD;rw[Ae rfl,Ae ⟨hs,hs2⟩];rfl,rfl⟩
   ·refine Aj ?_;exact By [] rfl .refl (by exact A7) ⟨by unfold framesD;rw[Ae rfl,Ac Af];rfl,rfl⟩
  ·refine Aj ?_;exact By [] rfl .refl (by exact A7) ⟨by unfold framesD;rw[Ae rfl,Ac Af];rfl,rfl⟩
 by_cases h2:k=2
 ·subst h2;by_cases hs:s=1\/s=2\/s=3\/s=4
  ·rcases hs with rfl|rfl|rfl|rfl
   ·refine Aj ?_;refine Bc (AK rfl rfl λl2 _=>slots_any 2 _ l2) ?_;simp only[slotsD,CT,CS,Int.reduceEq];exact Es
   ·refine Aj ?_;refine Bc (AK rfl rfl λl2 _=>slots_any 2 _ l2) ?_;simp only[slotsD,CT,CS,Int.reduceEq];exact Es
   ·refine Aj ?_;refine Bc (AK rfl rfl λl2 _=>slots_any 2 _ l2) ?_;simp only[slotsD,CT,CS,Int.reduceEq];exact Es
   ·refine Aj ?_;refine Bc (AK rfl rfl λl2 _=>slots_any 2 _ l2) ?_;simp only[slotsD,CT,CS,Int.reduceEq];exact Es
  ·refine Aj ?_;refine Bc (AK rfl rfl λl2 _=>slots_any 2 _ l2) ?_;rw[show slotsD 2 s=0 by unfold slotsD;rw[Ae rfl,Ac Af,Ac Af,Ac Af,Ac Af]];refine Aj ?_;exact By [] rfl .refl (by exact A7) ⟨by unfold framesD;rw[Ac Af,Ae rfl,Ac Af,Ac Af,Ac Af,Ac Af];rfl,rfl⟩
 by_cases hk:k=3\/k=4\/k=5\/k=6\/k=8\/k=9
 ·have e:framesD k s=if s=0 then 1 else 0:=by unfold framesD;rw[Ac h1,Ac h2,Ae hk]
  rw[e];rcases hk with rfl|rfl|rfl|rfl|rfl|rfl
  ·by_cases hs:s=0
   ·refine Aj ?_;exact By [] rfl .refl (by exact A7) ⟨by rw[Ae hs];rfl,rfl⟩
   ·refine Aj ?_;exact By [] rfl .refl (by exact A7) ⟨by rw[Ac hs];rfl,rfl⟩
  ·by_cases hs:s=0
   ·refine Aj ?_;exact By [] rfl .refl (by exact A7) ⟨by rw[Ae hs];rfl,rfl⟩
   ·refine Aj ?_;exact By [] rfl .refl (by exact A7) ⟨by rw[Ac hs];rfl,rfl⟩
  ·by_cases hs:s=0
   ·refine Aj ?_;exact By [] rfl .refl (by exact A7) ⟨by rw[Ae hs];rfl,rfl⟩
   ·refine Aj ?_;exact By [] rfl .refl (by exact A7) ⟨by rw[Ac hs];rfl,rfl⟩
  ·by_cases hs:s=0
   ·refine Aj ?_;exact By [] rfl .refl (by exact A7) ⟨by rw[Ae hs];rfl,rfl⟩
   ·refine Aj ?_;exact By [] rfl .refl (by exact A7) ⟨by rw[Ac hs];rfl,rfl⟩
  ·by_cases hs:s=0
   ·refine Aj ?_;exact By [] rfl .refl (by exact A7) ⟨by rw[Ae hs];rfl,rfl⟩
   ·refine Aj ?_;exact By [] rfl .refl (by exact A7) ⟨by rw[Ac hs];rfl,rfl⟩
  ·by_cases hs:s=0
   ·refine Aj ?_;exact By [] rfl .refl (by exact A7) ⟨by rw[Ae hs];rfl,rfl⟩
   ·refine Aj ?_;exact By [] rfl .refl (by exact A7) ⟨by rw[Ac hs];rfl,rfl⟩
 ·have e:framesD k s=0:=by unfold framesD;rw[Ac h1,Ac h2,Ac hk]
  rw[e];exact Es
theorem aE(kd fi n:Int)(o:ObT)(gb off:Nat)(cs:Array Value)(t:TypeId)(fz:Nat×Nat)(l:List Ab)(hm:(gb,Obj.cells cs t fz)∈l)(hc: ∀j,j<9->cs[off+j]?=(obC o)[j]?):
 Fn prog 181 [.int .i64 kd,.int .i64 fi,.int .i64 n,.pointer (some ⟨gb,off,none⟩)] l λv l'=>v= .bool (IH kd fi n o)/\l'=l:=by
 have c1:cs[off+1]?=some (.int .i64 o.kd):=hc 1 Af;have c3:cs[off+3]?=some (.int .i64 o.fi):=hc 3 Af;have c4:cs[off+4]?=some (.int .i64 o.fr):=hc 4 Af;refine AO func181 ntmps181 λE=>?_;refine Aj ?_;refine Ce [] 13 _ ?_ (hR:=(λ_ h=>h));refine BI ?_;apply D7
 ·exact AK rfl rfl λl2 hl=>dU fi n o.fi o.fr l2
 ·rfl
 ·rfl
 ·rfl
 cases hM:Ou fi n o.fi o.fr with
 |false=>refine BI ?_;refine Aj ?_;exact By [] rfl .refl (by exact A7) ⟨by unfold IH;rw[hM];rfl,rfl⟩
 |true=>
  refine BI ?_;refine Aj ?_;refine Ce [] 19 _ ?_ (hR:=(λ_ h=>h));refine BI ?_;by_cases h1:o.kd=1
  ·refine BI ?_;apply Vy
   ·exact AK rfl rfl λl2 hl=>Dg fi n o.fi o.fr l2
   all_goals try rfl
   cases hW:Jv fi n o.fi o.fr with
   |true=>refine BI ?_;refine Aj ?_;exact By [] rfl .refl (by exact A7) ⟨by unfold IH;rw[hM,At h1,hW];rfl,rfl⟩
   |false=>
    refine BI ?_;refine Aj ?_;refine Ce [] 16 _ ?_ (hR:=(λ_ h=>h));by_cases h5:kd=1
    ·refine BI ?_;apply Vy
     ·exact AK rfl rfl λl2 hl=>Dg o.fi o.fr fi n l2
     all_goals try rfl
     refine BI ?_;refine Aj ?_;exact By [] rfl .refl (by exact A7) ⟨by unfold IH;rw[hM,At h1,hW,At h5];rfl,rfl⟩
    ·refine BI ?_;refine Aj ?_;exact By [] rfl .refl (by exact A7) ⟨by unfold IH;rw[hM,At h1,hW,Aw h5];rfl,rfl⟩
  ·refine BI ?_;refine Aj ?_;refine Ce [] 16 _ ?_ (hR:=(λ_ h=>h));by_cases h5:kd=1
   ·refine BI ?_;apply Vy
    ·exact AK rfl rfl λl2 hl=>Dg o.fi o.fr fi n l2
    all_goals try rfl
    refine BI ?_;refine Aj ?_;exact By [] rfl .refl (by exact A7) ⟨by unfold IH;rw[hM,Aw h1,At h5];rfl,rfl⟩
   ·refine BI ?_;refine Aj ?_;exact By [] rfl .refl (by exact A7) ⟨by unfold IH;rw[hM,Aw h1,Aw h5];rfl,rfl⟩
theorem next_any(b:Nat)(S:ArT)(lq:List Ab)(hA:IsA b S lq)(f:Int)(l:List Ab)(hsub: ∀c,c∈lq->c∈l):
 Fn prog 182 [.pointer (some ⟨b,0,none⟩),.int .i64 f] l λv l'=>v= .int .i64 (nextD S f)/\l'=l:=by
 obtain⟨hok,v,cs,rfl,ho⟩:=hA;have hm:=hsub _ (.head _);have c0:=mm S.n S.g v;have hn1:=hok.n1;have hn2:=hok.n2;refine AO func182 ntmps182 λE=>?_;refine Aj ?_;by_cases h1:f<0
 ·refine Aj ?_;exact By [] rfl .refl (by exact A7) ⟨by unfold nextD;rw[Ae h1];rfl,rfl⟩
 by_cases h2:f>=S.n
 ·refine Aj ?_;exact By [] rfl .refl (by exact A7) ⟨by unfold nextD;rw[Ac h1,Ae h2];rfl,rfl⟩
 obtain⟨j,rfl⟩: ∃j:Nat,f=j:=⟨f.toNat,Af⟩
 have hj:j<64:=by omega
 have cg:=mn S.n S.g v hj;have hg:=hok.g1 j;by_cases h3:(j:Int)+1+64*S.g j>65535
 ·refine Aj ?_;exact By [] rfl .refl (by exact A7) ⟨by unfold nextD;rw[Ac h1,Ac h2,A3,Ae h3];rfl,rfl⟩
 ·refine Aj ?_;exact By [] rfl .refl (by exact A7) ⟨by unfold nextD;rw[Ac h1,Ac h2,A3,Ac h3];rfl,rfl⟩
def Ve(os:OL):List (ObT×Nat):=os.zipIdx
theorem Ow(os:OL)(k:Nat):(Ve os)[k]?=os[k]?.map λo=>(o,k):=by unfold Ve;rw[List.getElem?_zipIdx];simp
theorem Zd(os:OL):(Ve os).length=os.length:=List.length_zipIdx
theorem Q9(h:os[k]?=some o):(Ve os).take (k+1)=(Ve os).take k++[(o,k)]:=by rw[B0,Ow,h];rfl
theorem Ox(h:pre++[x]<+:Ve os):os[x.2]?=some x.1/\x.2=pre.length/\pre=(Ve os).take x.2:=by
 obtain⟨r,hr⟩:=h;have h1:(Ve os)[pre.length]?=some x:=by rw[<-hr];simp
 rw[Ow] at h1;cases ho:os[pre.length]? with
 |none=>rw[ho] at h1;simp at h1
 |some o=>
  rw[ho] at h1;have:x=(o,pre.length):=by simpa using h1.symm
  subst this;refine⟨ho,rfl,?_⟩;show pre=(Ve os).take pre.length;rw[<-hr,Al,F8 rfl]
abbrev xB(B:Nat)(b:Option Addr):Ab:=(B,.cells #[.pointer b] 156 (0,0))
abbrev qU(gb:Nat)(v:Value)(os:OL):Prop:=v= .slice none 0 0/\os.length=0\/ ∃cap,v= .slice (some ⟨gb,0,none⟩) os.length cap
theorem G1(B b:Nat)(n:Int)(g:Nat->Int)(v:Value)(os:OL)(gb:Nat)(hv:qU gb v os)(hn:os.length<=900000):
 E2 prog 169 [.pointer (some ⟨B,0,none⟩)] (λx:ObT×Nat=>[.int .i64 (x.2:Nat),.pointer (some ⟨gb,x.2*9,none⟩)]) (λxs=>xs=Ve os) (λpre=>pre<+:Ve os)
  (λ_ l=>xB B (some ⟨b,0,none⟩)∈l/\Q8 b n g v∈l):=by
 refine⟨λr I Ix G0 hneed hY l G hG h0=>?_⟩;obtain⟨p,cap,rfl,hp⟩: ∃p cap,v= .slice p os.length cap/\(0<os.length->p=some ⟨gb,0,none⟩):=by
  rcases hv with⟨h,h0⟩|⟨cap,h⟩
  ·exact⟨none,0,by rw[h,h0],λh=>by omega⟩
  ·exact⟨_,cap,h,λ_=>rfl⟩
 obtain⟨n1,n2⟩:=hneed _ _ G hG h0;have cl:=Ti n g (.slice p os.length cap);refine AO func169 ntmps169 λE=>?_;refine Aj ?_;refine Cu (α:=Nat×List Ab) (λx=>[(0,.func (.yield r) #[] #[]),(1,.pointer (some ⟨B,0,none⟩)),(10,.int .i64 os.length),(11,.int .i64 x.1)]) (λx=>x.2++G) (λx=>x.1<=os.length/\I ((Ve os).take x.1) x.2) (λx=>os.length-x.1) (0,l) ⟨Bf _,h0⟩ ⟨rfl,rfl,rfl,rfl,trivial⟩ .refl ?_;clear n1 n2;rintro⟨k,l⟩ ⟨hk,hI⟩;simp only at hk hI⊢;obtain⟨n1,n2⟩:=hneed _ _ G hG hI;by_cases hlt:k<os.length
 ·obtain⟨o,ho⟩: ∃o,os[k]?=some o:=⟨_,Am hlt⟩
  have hpp:=hp Af;subst hpp;refine Aj ?_;have hy:=hY ((Ve os).take k) (o,k) l G hG hI (by rw[<-Q9 ho];exact BD _ _);refine AS (CK rfl rfl hy) ?_;rintro v l' ⟨l1,rfl,⟨rfl,hI'⟩|⟨rfl,hx⟩⟩
  ·refine Aj ?_;exact BS (k+1,l1) ⟨by simp only;omega,by simp only;rw[Q9 ho];exact hI'⟩ (by simp only;omega) ⟨rfl,rfl,rfl,rfl,trivial⟩ .refl
  ·refine Aj ?_;exact By [] rfl .refl (by exact A7) ⟨l1,rfl,.inr ⟨_,by rw[<-Q9 ho];exact BD _ _,hx⟩⟩
 ·obtain rfl:k=os.length:=by omega
  rw[<-Zd,D1] at hI;refine Aj ?_;exact A8 .refl ⟨l,rfl,.inl ⟨_,rfl,hI⟩⟩
abbrev FR(B:Nat)(x:Int):Ab:=(B,.cells #[.int .i64 x] 3 (0,0))
abbrev obK(B:Nat)(o:ObT):Ab:=(B,.cells (toArray (obC o)) 100 (0,0))
def atO(os:OL)(id:Int):Option Nat:=os.findIdx? λo=>decide (o.id=id)
def Up(os:OL)(id:Int):Int:=match atO os id with|some k=>(k:Int)|none=> -1
theorem ME(h:atO os id=some k): ∃o,os[k]?=some o/\o.id=id:=by unfold atO at h;rw[HW] at h;obtain⟨h1,h2,_⟩:=h;exact⟨_,Am h1,by simpa using h2⟩
theorem MF(h:atO os id=none):Up os id= -1:=by unfold Up;rw[h]
theorem MG(h:atO os id=some k):Up os id=(k:Int):=by unfold Up;rw[h]
theorem Uq{e:Nat}{v:Value}{cs:List Ab}(ho:OwnSl e 9 v os.length (ocs os) cs): ∃gb,qU gb v os/\ ∀(k:Nat) (o:ObT),os[k]?=some o-> ∃sp,cs=[(gb,Obj.cells (toArray (ocs os++sp)) e (0,0))]:=by
 rcases ho.2 with⟨rfl,h0,rfl⟩|⟨b,cap,sp,rfl,rfl,_⟩
 ·exact⟨0,.inl ⟨rfl,h0⟩,λk o h=>by have:=(Ax.1 h).1;omega⟩
 ·exact⟨b,.inr ⟨cap,rfl⟩,λk o h=>⟨sp,rfl⟩⟩
theorem nP(h:pre++[x]<+:Ve os)(hp: ∀y,y∈pre->y.1.id≠id)(hx:x.1.id=id):Up os id=(x.2:Int):=by
 obtain⟨h1,h2,h3⟩:=Ox h;refine MG ?_;unfold atO;rw[HW];obtain⟨hl,he⟩:=Ax.1 h1;refine⟨hl,by rw[he];simpa using hx,λj hj=>?_⟩;have hjl:j<os.length:=by omega
 have hm:(os[j],j)∈pre:=by rw[h3];refine A9 (i:=j) ?_;rw[EY,Ae Af,Ow,Am hjl];rfl
 have:=hp _ hm;simpa using this
theorem jt(hp: ∀y,y∈Ve os->y.1.id≠id):Up os id= -1:=by refine MF ?_;unfold atO;rw[List.findIdx?_eq_none_iff];intro o ho;obtain⟨k,hk⟩:=IY ho;have:(o,k)∈Ve os:=A9 (i:=k) (by rw[Ow,hk];rfl);simpa using hp _ this
theorem II(b:Nat)(S:ArT)(lq:List Ab)(hA:IsA b S lq)(id:Int)(l:List Ab)(hsub: ∀c,c∈lq->c∈l):
 Fn prog 168 [.pointer (some ⟨b,0,none⟩),.int .i64 id] l λv l'=>v= .int .i64 (Up S.os id)/\l'=l:=by
 have hlen:=hA.ok.len;obtain⟨hok,v,cs,rfl,ho⟩:=hA;obtain⟨gb,hrow,MM⟩:=Uq ho;refine AO func168 ntmps168 λE=>?_;refine Hj λb3=>?_;refine Hj λb4=>?_;refine AS (Az rfl rfl (Ij _ rfl _)) ?_;rintro _ _ ⟨B,rfl,rfl⟩;refine gz ?_;refine CU (α:=ObT×Nat) (ps:=[9,10]) (lb:=[.pointer (some ⟨B,0,none⟩)]) rfl (G1 B b S.n S.g v S.os gb hrow Af) (λ_=>rfl) rfl
  (λpre l=>l=[xB B (some ⟨b,0,none⟩),FR b4 0,FR b3 id]/\ ∀x,x∈pre->¬x.1.id=id)
  (λc pre l=>c= .ret/\ ∃(pre':List (ObT×Nat)) (x:ObT×Nat),pre=pre'++[x]/\(∀x,x∈pre'->¬x.1.id=id)/\x.1.id=id/\l=[FR b4 (x.2:Nat)])
  _ l (λpre l2 X2 hX h=>⟨by rw[h.1];exact List.Mem.head _,Aa _ (hX _ (hsub _ (.head _)))⟩) (by exact AR) ⟨rfl,by simp⟩ ?_ ?_ ?_
 ·rintro E r0 rec pre ⟨o,k⟩ l' T ⟨fn,tmps,D,rfl⟩ hT ⟨rfl,hpre⟩ hsp;obtain⟨ho1,_,_⟩:=Ox hsp;simp only at ho1;obtain⟨sp,rfl⟩:=MM _ _ ho1;have hmT:=hT _ (hsub _ (.tail _ (.head _)));have c0:(toArray (ocs S.os++sp))[k*9]?=some (.int .i64 o.id):=NY ho1 sp 0 Af;simp only[Du,Ad,Ag];refine gz ?_;refine Cp (by exact Dw) ?_;refine gz ?_;refine Ce [] 6 _ ?_ (hR:=(λ_ h=>h));refine pz ?_;by_cases hy:o.id=id
  ·refine gz ?_;refine D3 [FR b4 (k:Nat)] (by exact AR) ⟨rfl,pre,(o,k),rfl,hpre,hy,rfl⟩
  ·refine gz ?_;refine B9 _ .refl ⟨rfl,λx hx=>?_⟩;rcases AF.1 hx with hx|hx
   ·exact hpre x hx
   ·rw[AA.1 hx];exact hy
 ·rintro D xs l' rfl ⟨rfl,hpre⟩;rw[jt hpre];simp only[Ad,Ag];refine gz ?_;exact AU [D] (FR b4 (-1)::l) rfl (l':=l) (by exact AR) (by exact A7) (.drop .refl) ⟨rfl,rfl⟩
 ·rintro D c pre l' hsp ⟨rfl,pre',x,rfl,hp',ht,rfl⟩;rw[nP hsp hp' ht];simp only[Ad,Ag];refine gz ?_;exact AU [D] (FR b4 (x.2:Nat)::l) rfl (l':=l) (by exact AR) (by exact A7) (.drop .refl) ⟨rfl,rfl⟩
def getD'(S:ArT)(id:Int):ObT×Bool:=match atO S.os id with
 |some k=>(S.os.getD k obO,true)
 |none=>(obO,false)
theorem get_any(b:Nat)(S:ArT)(lq:List Ab)(hA:IsA b S lq)(id:Int)(l:List Ab)(hsub: ∀c,c∈lq->c∈l):
 Fn prog 113 [.pointer (some ⟨b,0,none⟩),.int .i64 id] l λv l'=>v= .tuple #[.agg (toArray (obC (getD' S id).1)),.bool (getD' S id).2]/\l'=l:=by
 have hA':=hA;have hlen:=hA.ok.len;obtain⟨hok,v,cs,rfl,ho⟩:=hA;have hm:=hsub _ (.head _);have cl:=Ti S.n S.g v;refine AO func113 ntmps113 λE=>?_;refine Hj λb4=>?_;refine Bc (AK rfl rfl λl2 hl=>II b S _ hA' id l2 (λc hc=>hl _ (.tail _ (hsub _ hc)))) ?_;cases hk:atO S.os id with
 |none=>rw[MF hk];refine gz ?_;exact AU [] (obK b4 obO::l) rfl (l':=l) .refl (by exact A7) (.drop .refl) ⟨by unfold getD';rw[hk];rfl,rfl⟩
 |some k=>
  rw[MG hk];obtain⟨o,ho1,_⟩:=ME hk;have hkl:=(Ax.1 ho1).1;rcases ho.2 with⟨_,h0,_⟩|⟨gb,cap,sp,rfl,rfl,_⟩
  ·omega
  obtain⟨x1,x2⟩:=Zb ho1 sp;have hm2:=hsub _ (.tail _ (.head _));refine gz ?_;refine Bc (Dm rfl (List.Mem.tail _ hm2) x1 x2) ?_;refine gz ?_;refine Cy (l':=l) (obK b4 o::l) .refl (.drop .refl) ⟨?_,rfl⟩;unfold getD';rw[hk];simp only[List.getD,ho1,Dn,Iw]
theorem dV(pre:OL)(y:ObT):ocs (pre++[y])=ocs pre++obC y:=by rw[Lv];show _++(obC y++[])=_;rw[Be]
def insD(os:OL)(o:ObT):OL:=os.takeWhile (λx=>decide (x.id<=o.id))++o::os.dropWhile (λx=>decide (x.id<=o.id))
def newO(S:ArT)(kd sz fi:Int):ObT:=⟨nextD S fi,kd,sz,fi,framesD kd sz,0,0,0,0⟩
def addE(S:ArT)(kd sz fi:Int):Int:=
 if framesD kd sz=0 then 2 else if fi<0\/fi>S.n-framesD kd sz then 3
 else if(S.os.all λo=>IH kd fi (framesD kd sz) o)=false then 16 else if nextD S fi=0 then 11 else 0
def addD(S:ArT)(kd sz fi:Int):(Int×Int)×ArT:=
 if addE S kd sz fi=0 then((nextD S fi,0),{S with g:=upd S.g fi.toNat (S.g fi.toNat+1),os:=insD S.os (newO S kd sz fi)}) else((0,addE S kd sz fi),S)
theorem frames_rng(k s:Int):0<=framesD k s/\framesD k s<=64:=by
 unfold framesD
 repeat' split
 all_goals omega
theorem nQ(hk:k<=os.length)(h1: ∀x∈os.take k,x.id<=o.id)(h2: ∀x∈os.drop k,¬x.id<=o.id):insD os o=os.take k++o::os.drop k:=by
 have e:os=os.take k++os.drop k:=(Cb ..).symm;have t1:os.takeWhile (λx=>decide (x.id<=o.id))=os.take k:=by
  conv=>lhs;rw[e]
  rw[F9 λx hx=>by simpa using h1 x hx];cases hd:os.drop k with
  |nil=>simp
  |cons y r=>rw[EZ,Be];simpa using h2 y (by rw[hd];exact .head _)
 have t2:os.dropWhile (λx=>decide (x.id<=o.id))=os.drop k:=by
  conv=>lhs;rw[e]
  rw[List.dropWhile_append_of_pos λx hx=>by simpa using h1 x hx];cases hd:os.drop k with
  |nil=>simp
  |cons y r=>rw[GB];simpa using h2 y (by rw[hd];exact .head _)
 unfold insD;rw[t1,t2]
theorem ju(h:os.Pairwise λx y=>x.id<y.id){i j:Nat}{x y:ObT}(hx:os[i]?=some x)(hy:os[j]?=some y)(hij:i<j):x.id<y.id:=by obtain⟨h1,rfl⟩:=Ax.1 hx;obtain⟨h2,rfl⟩:=Ax.1 hy;exact G9.1 h i j h1 h2 hij
theorem Qi{x:ObT}:x∈insD os o<->x=o\/x∈os:=by
 unfold insD;have e:=BV (p:=λx:ObT=>decide (x.id<=o.id)) (l:=os)
 conv=>rhs;rw[<-e]
 simp only[AF,Aq];constructor
 ·rintro(h|h|h)
  ·exact .inr (.inl h)
  ·exact .inl h
  ·exact .inr (.inr h)
 ·rintro(h|h|h)
  ·exact .inr (.inl h)
  ·exact .inl h
  ·exact .inr (.inr h)
theorem Ur(os:OL)(o:ObT):(insD os o).length=os.length+1:=by unfold insD;have e:=BM List.length (BV (p:=λx:ObT=>decide (x.id<=o.id)) (l:=os));rw[Ah] at e;rw[Ah,Bi];omega
theorem VK(h:os.Pairwise λx y=>x.id<y.id)(a:Int): ∀x∈os.dropWhile (λx=>decide (x.id<=a)),a<x.id:=by
 induction os with
 |nil=>intro x hx;cases hx
 |cons y r ih=>
  obtain⟨h1,h2⟩:=BY.1 h;intro x hx;by_cases hy:y.id<=a
  ·rw[List.dropWhile_cons_of_pos (by simpa using hy)] at hx;exact ih h2 x hx
  ·rw[GB (by simpa using hy)] at hx;rcases Aq.1 hx with rfl|hx
   ·omega
   ·have:=h1 x hx;omega
theorem dW(a:Int): ∀x∈os.takeWhile (λx=>decide (x.id<=a)),x.id<=a:=by
 induction os with
 |nil=>intro x hx;cases hx
 |cons y r ih=>
  intro x hx;by_cases hy:y.id<=a
  ·rw[GC (by simpa using hy)] at hx;rcases Aq.1 hx with rfl|hx
   ·exact hy
   ·exact ih x hx
  ·rw[EZ (by simpa using hy)] at hx;cases hx
theorem Qj(h:os.Pairwise λx y=>x.id<y.id)(hne: ∀x∈os,x.id≠o.id):(insD os o).Pairwise λx y=>x.id<y.id:=by
 unfold insD;have hT:=(List.takeWhile_sublist (l:=os) λx:ObT=>decide (x.id<=o.id))
 have hD:=(Ic (l:=os) λx:ObT=>decide (x.id<=o.id))
 refine Bh.2 ⟨h.sublist hT,BY.2 ⟨λx hx=>VK h o.id x hx,h.sublist hD⟩,λx hx y hy=>?_⟩;have h1:=dW o.id x hx;have h2:=hne x (hT.subset hx);rcases Aq.1 hy with rfl|hy
 ·omega
 ·have:=VK h o.id y hy;omega
theorem Ra(hS:S.Ok)(h:nextD S f≠0):0<=f/\f<S.n/\nextD S f=f+1+64*S.g f.toNat/\nextD S f<=65535/\1<=nextD S f:=by
 unfold nextD at*;have:=hS.g1 f.toNat
 split at h
 ·exact absurd rfl h
 split at h
 ·exact absurd rfl h
 split at h
 ·exact absurd rfl h
 rename_i h1 h2 h3;rw[Ac h1,Ac h2,Ac h3];refine⟨Af,Af,rfl,Af,Af⟩
theorem dX(hS:S.Ok)(h:nextD S f≠0): ∀x∈S.os,x.id≠nextD S f:=by
 intro x hx he;obtain⟨f0,f1,f2,_⟩:=Ra hS h;obtain⟨a0,a1,c,c0,c1,c2⟩:=hS.num x hx;have:=hS.n2;have e:x.fi=f:=by omega
 subst e;omega
theorem aF{kd sz fi:Int}(h:addE S kd sz fi=0):framesD kd sz≠0/\0<=fi/\fi<=S.n-framesD kd sz/\(S.os.all λo=>IH kd fi (framesD kd sz) o)=true/\nextD S fi≠0:=by
 unfold addE at h
 split at h
 ·omega
 split at h
 ·omega
 split at h
 ·omega
 split at h
 ·omega
 rename_i h1 h2 h3 h4;exact⟨h1,Af,Af,by simpa using h3,h4⟩
theorem nR(hS:S.Ok)(kd sz fi:Int):(addD S kd sz fi).2.Ok:=by
 unfold addD
 split
 ·rename_i h;obtain⟨h1,h2,h3,h4,h5⟩:=aF h;obtain⟨f0,f1,f2,f3,f4⟩:=Ra hS h5;have hg:=hS.g1 fi.toNat;refine⟨hS.n1,hS.n2,λj=>?_,Qj hS.asc (dX hS h5),λx hx=>?_,λx hx=>?_⟩
  ·show 0<=upd S.g fi.toNat (S.g fi.toNat+1) j/\upd S.g fi.toNat (S.g fi.toNat+1) j<=1024;by_cases e:j=fi.toNat
   ·subst e;rw[DB];omega
   ·rw[C3 _ _ _ _ e];exact hS.g1 j
  ·rcases Qi.1 hx with rfl|hx
   ·exact⟨f4,f3⟩
   ·exact hS.rng x hx
  ·show 0<=x.fi/\x.fi<S.n/\ ∃c:Int,0<=c/\c<upd S.g fi.toNat (S.g fi.toNat+1) x.fi.toNat/\_;rcases Qi.1 hx with rfl|hx
   ·exact⟨f0,f1,S.g fi.toNat,hg.1,by rw[show(newO S kd sz fi).fi.toNat=fi.toNat from rfl,DB];omega,f2⟩
   ·obtain⟨a0,a1,c,c0,c1,c2⟩:=hS.num x hx;refine⟨a0,a1,c,c0,?_,c2⟩;by_cases e:x.fi.toNat=fi.toNat
    ·rw[e,DB];rw[e] at c1;omega
    ·rw[C3 _ _ _ _ e];exact c1
 ·exact hS
end Go.Proofs.YtlkgekpmileobaaGreat.Ar
