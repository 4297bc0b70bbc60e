/- Laws that the statement's proof leans on (joined out of several texts). -/
import Derived.Test.YtlifcingifodfaaGreatGc11
set_option maxHeartbeats 4000000
set_option linter.unusedVariables false
set_option linter.unusedSimpArgs false
namespace Go.Proofs.YtlifcingifodfaaGreat
open Tryz
open List(toArray)
namespace Ar
open Go.RowKit
set_option maxRecDepth 20000
variable{os:OL}{id f:Int}{k:Nat}{o:ObT}{S:ArT}{pre:List (ObT×Nat)}{x:ObT×Nat}
def framesD(k s:Int):Int:=
 if k=1 then(if 1<=s/\s<=64 then s else 0)
 else if k=2 then(if s=1 then 1 else if s=2 then 1 else if s=3 then 2 else if s=4 then 4 else 0)
 else if k=3\/k=4\/k=5\/k=6\/k=8\/k=9 then(if s=0 then 1 else 0) else 0
def slotsD(k s:Int):Int:=
 if k=2 then(if s=1 then 2 else if s=2 then 4 else if s=3 then 8 else if s=4 then 16 else 0)
 else if k=9 then(if s=0 then 3 else 0) else 0
def Je(x:Int):Prop:=0<=x/\x<=1048576
instance(x:Int):Decidable (Je x):=by unfold Je;exact inferInstance
def Yg(a n b k:Int):Bool:=decide (Je a/\Je n/\Je b/\Je k)
def Qa(a n b k:Int):Bool:=Yg a n b k&&decide (n>0)&&decide (k>0)&&decide (a<b+k)&&decide (b<a+n)
def Ku(a n b k:Int):Bool:=Yg a n b k&&(decide (n=0)||(decide (a>=b)&&decide (a+n<=b+k)))
def JH(kd fi n:Int)(o:ObT):Bool:=!Qa fi n o.fi o.fr||((decide (o.kd=1)&&Ku fi n o.fi o.fr)||(decide (kd=1)&&Ku o.fi o.fr fi n))
def nextD(S:ArT)(f:Int):Int:=if f<0 then 0 else if f>=S.n then 0 else if f+1+64*S.g f.toNat>65535 then 0 else f+1+64*S.g f.toNat
theorem new_any(n:Int)(l:Ad):Fn prog 128 [.int .i64 n] l λv l'=>
 (¬(1<=n/\n<=64)/\v= .tuple #[.pointer none,.int .i64 3]/\l'=l)\/((1<=n/\n<=64)/\ ∃b lq,v= .tuple #[.pointer (some ⟨b,0,none⟩),.int .i64 0]/\IsA b ⟨n,λ_=>0,[]⟩ lq/\l'=lq++l):=by
 refine AO func128 ntmps128 λE=>?_;by_cases h1:n<1
 ·refine Aj ?_;exact BD [] rfl .refl (by exact Ba) (.inl ⟨Af,rfl,rfl⟩)
 by_cases h2:n>64
 ·refine Aj ?_;exact BD [] rfl .refl (by exact Ba) (.inl ⟨Af,rfl,rfl⟩)
 refine Aj ?_;refine AR (C4 rfl) ?_;rintro _ _ ⟨b,hb,rfl,rfl⟩;refine Aj ?_;refine BD [] rfl .refl (by exact Ba) (.inr ⟨Af,b,[Tn b n (λ_=>0) (.slice none 0 0)],rfl,⟨⟨by show 1<=n;omega,by show n<=64;omega,λj=>by simp,.nil,(λx hx=>by cases hx),λx hx=>by cases hx⟩,_,[],rfl,OwnSl.nil _ _⟩,rfl⟩)
theorem Jf(b:Value)(h1:b.oneCell'=true)(l:Ad):Fn prog 113 [b] l λv l'=> ∃B,v= .func (.func 168) #[] #[.pointer (some ⟨B,0,none⟩)]/\l'=(B,.cells #[b] 155 (0,0))::l:=by refine AO func113 ntmps113 λE=>?_;refine Aj ?_;refine AR (Ex rfl h1) ?_;rintro _ _ ⟨B,hB,rfl,rfl⟩;refine Aj ?_;exact Bb .refl ⟨B,rfl,rfl⟩
theorem slots_any(k s:Int)(l:Ad):Fn prog 68 [.int .i64 k,.int .i64 s] l λv l'=>v= .int .i64 (slotsD k s)/\l'=l:=by
 refine AO func68 ntmps68 λE=>?_;by_cases h2:k=2
 ·subst h2;by_cases h1:1<=s/\s<=4
  ·have hs:s=1\/s=2\/s=3\/s=4:=by omega
   rcases hs with rfl|rfl|rfl|rfl
   ·refine Aj ?_;refine Be (Tj (i:=1) (n:=1) rfl rfl AZ) ?_;exact E4
   ·refine Aj ?_;refine Be (Tj (i:=1) (n:=2) rfl rfl AZ) ?_;exact E4
   ·refine Aj ?_;refine Be (Tj (i:=1) (n:=3) rfl rfl AZ) ?_;exact E4
   ·refine Aj ?_;refine Be (Tj (i:=1) (n:=4) rfl rfl AZ) ?_;exact E4
  ·by_cases h3:1<=s
   ·refine Aj ?_;refine Bb .refl ⟨?_,rfl⟩;unfold slotsD;rw[Ac rfl,Ab Af,Ab Af,Ab Af,Ab Af];rfl
   ·refine Aj ?_;refine Bb .refl ⟨?_,rfl⟩;unfold slotsD;rw[Ac rfl,Ab Af,Ab Af,Ab Af,Ab Af];rfl
 ·by_cases h9:k=9
  ·subst h9;by_cases h0:s=0
   ·subst h0;exact E4
   ·refine Aj ?_;refine Bb .refl ⟨?_,rfl⟩;unfold slotsD;rw[Ab Af,Ac rfl,Ab h0];rfl
  ·refine Aj ?_;refine Bb .refl ⟨?_,rfl⟩;unfold slotsD;rw[Ab h2,Ab h9];rfl
theorem Qb(a n b k:Int)(B:Nat)(l:Ad)(hm:(B,Obj.cells (toArray [.int .i64 a,.int .i64 n,.int .i64 b,.int .i64 k]) 3 (0,0))∈l):Fn prog 310 [.slice (some ⟨B,0,none⟩) 4 4] l λv l'=>v= .bool (Yg a n b k)/\l'=l:=by
 refine AO func310 ntmps310 λE=>?_;refine Aj ?_;refine CF (α:=Nat) (λi=>[(5,.slice (some ⟨B,0,none⟩) 4 4),(6,.int .i64 4),(7,.int .i64 i)]) (λi=>l) (λi=>i<=4/\ ∀j x,j<i->[a,n,b,k][j]?=some x->Je x) (λi=>4-i) 0 ⟨Bm _,λj x h=>by omega⟩ ⟨rfl,rfl,rfl,trivial⟩ .refl ?_;rintro i ⟨hi,hj⟩;by_cases Dc:i<4
 ·obtain⟨x,hx⟩: ∃x,[a,n,b,k][i]?=some x:=⟨_,Al (show i<[a,n,b,k].length from Dc)⟩
  have hc:(toArray [Value.int .i64 a,.int .i64 n,.int .i64 b,.int .i64 k])[i*1]?=some (.int .i64 x):=by
   have:i=0\/i=1\/i=2\/i=3:=by omega
   rcases this with rfl|rfl|rfl|rfl<;>(simp at hx;subst hx;rfl)
  have hF:¬Je x->Yg a n b k=false:=λh=>by
   refine Ax λhh=>h ?_;have:i=0\/i=1\/i=2\/i=3:=by omega
   rcases this with rfl|rfl|rfl|rfl<;>(simp at hx;subst hx;simp[hh])
  refine Aj ?_;by_cases h1:x<0
  ·refine Aj ?_;exact BD [] rfl .refl (by exact Ba) ⟨by rw[hF (λh=>by unfold Je at h;omega)];rfl,rfl⟩
  by_cases h2:x>1048576
  ·refine Aj ?_;exact BD [] rfl .refl (by exact Ba) ⟨by rw[hF (λh=>by unfold Je at h;omega)];rfl,rfl⟩
  ·refine Aj ?_;refine BR (i+1) ⟨Af,λj y hji hy=>?_⟩ Af ⟨rfl,rfl,rfl,trivial⟩ .refl;by_cases e:j=i
   ·subst e;rw[hx] at hy;cases hy;exact⟨Af,Af⟩
   ·exact hj j y Af hy
 ·obtain rfl:i=4:=by omega
  have hT:Yg a n b k=true:=Av ⟨hj 0 a Af rfl,hj 1 n Af rfl,hj 2 b Af rfl,hj 3 k Af rfl⟩;refine Aj ?_;exact BD [] rfl .refl (by exact Ba) ⟨by rw[hT];rfl,rfl⟩
theorem kJ{a n b k:Int}(h:Yg a n b k=true):Je a/\Je n/\Je b/\Je k:=EL h
theorem kK(a n b k:Int)(l:Ad):Fn prog 238 [.int .i64 a,.int .i64 n,.int .i64 b,.int .i64 k] l λv l'=>v= .bool (Qa a n b k)/\l'=l:=by
 refine AO func238 ntmps238 λE=>?_;refine Aj ?_;refine AR (Z7 rfl AZ AZ rfl) ?_;rintro _ _ ⟨B,hB,rfl,rfl⟩;refine Aj ?_;refine Be (AL rfl rfl λl2 hl=>Qb a n b k B l2 (hl _ (.head _))) ?_;cases hm:Yg a n b k with
 |false=>refine Aj ?_;exact BD [] rfl (.drop .refl) (by exact Ba) ⟨by unfold Qa;rw[hm];rfl,rfl⟩
 |true=>
  obtain⟨⟨a1,a2⟩,⟨n1,n2⟩,⟨b1,b2⟩,k1,k2⟩:=kJ hm;by_cases h1:n>0
  ·by_cases h2:k>0
   ·by_cases h3:a<b+k
    ·by_cases h4:b<a+n
     ·refine Aj ?_;exact BD [] rfl (.drop .refl) (by exact Ba) ⟨by unfold Qa;rw[hm,Av h1,Av h2,Av h3,Av h4];rfl,rfl⟩
     ·refine Aj ?_;exact BD [] rfl (.drop .refl) (by exact Ba) ⟨by unfold Qa;rw[hm,Av h1,Av h2,Av h3,Ax h4];rfl,rfl⟩
    ·refine Aj ?_;exact BD [] rfl (.drop .refl) (by exact Ba) ⟨by unfold Qa;rw[hm,Av h1,Av h2,Ax h3];rfl,rfl⟩
   ·refine Aj ?_;exact BD [] rfl (.drop .refl) (by exact Ba) ⟨by unfold Qa;rw[hm,Av h1,Ax h2];rfl,rfl⟩
  ·refine Aj ?_;exact BD [] rfl (.drop .refl) (by exact Ba) ⟨by unfold Qa;rw[hm,Ax h1];rfl,rfl⟩
theorem DA(a n b k:Int)(l:Ad):Fn prog 239 [.int .i64 a,.int .i64 n,.int .i64 b,.int .i64 k] l λv l'=>v= .bool (Ku a n b k)/\l'=l:=by
 refine AO func239 ntmps239 λE=>?_;refine Aj ?_;refine AR (Z7 rfl AZ AZ rfl) ?_;rintro _ _ ⟨B,hB,rfl,rfl⟩;refine Aj ?_;refine Be (AL rfl rfl λl2 hl=>Qb a n b k B l2 (hl _ (.head _))) ?_;cases hm:Yg a n b k with
 |false=>refine Aj ?_;exact BD [] rfl (.drop .refl) (by exact Ba) ⟨by unfold Ku;rw[hm];rfl,rfl⟩
 |true=>
  obtain⟨⟨a1,a2⟩,⟨n1,n2⟩,⟨b1,b2⟩,k1,k2⟩:=kJ hm;by_cases h1:n=0
  ·refine Aj ?_;exact BD [] rfl (.drop .refl) (by exact Ba) ⟨by unfold Ku;rw[hm,Av h1];rfl,rfl⟩
  ·by_cases h3:a>=b
   ·by_cases h4:a+n<=b+k
    ·refine Aj ?_;exact BD [] rfl (.drop .refl) (by exact Ba) ⟨by unfold Ku;rw[hm,Ax h1,Av h3,Av h4];rfl,rfl⟩
    ·refine Aj ?_;exact BD [] rfl (.drop .refl) (by exact Ba) ⟨by unfold Ku;rw[hm,Ax h1,Av h3,Ax h4];rfl,rfl⟩
   ·refine Aj ?_;exact BD [] rfl (.drop .refl) (by exact Ba) ⟨by unfold Ku;rw[hm,Ax h1,Ax h3];rfl,rfl⟩
theorem frames_any(k s:Int)(l:Ad):Fn prog 50 [.int .i64 k,.int .i64 s] l λv l'=>v= .int .i64 (framesD k s)/\l'=l:=by
 refine AO func50 ntmps50 λE=>?_;by_cases h1:k=1
 ·subst h1;by_cases hs:s>=1
  ·by_cases NM:s<=64
   ·refine Aj ?_;exact BD [] rfl .refl (by exact Ba) ⟨by unfold framesD;rw[Ac rfl,Ac ⟨hs,NM⟩];rfl,rfl⟩
   ·refine Aj ?_;exact BD [] rfl .refl (by exact Ba) ⟨by unfold framesD;rw[Ac rfl,Ab Af];rfl,rfl⟩
  ·refine Aj ?_;exact BD [] rfl .refl (by exact Ba) ⟨by unfold framesD;rw[Ac rfl,Ab Af];rfl,rfl⟩
 by_cases h2:k=2
 ·subst h2;by_cases hs:s=1\/s=2\/s=3\/s=4
  ·rcases hs with rfl|rfl|rfl|rfl
   ·refine Aj ?_;refine Be (AL rfl rfl λl2 _=>slots_any 2 _ l2) ?_;simp only[slotsD,C6,C3,Int.reduceEq];exact E4
   ·refine Aj ?_;refine Be (AL rfl rfl λl2 _=>slots_any 2 _ l2) ?_;simp only[slotsD,C6,C3,Int.reduceEq];exact E4
   ·refine Aj ?_;refine Be (AL rfl rfl λl2 _=>slots_any 2 _ l2) ?_;simp only[slotsD,C6,C3,Int.reduceEq];exact E4
   ·refine Aj ?_;refine Be (AL rfl rfl λl2 _=>slots_any 2 _ l2) ?_;simp only[slotsD,C6,C3,Int.reduceEq];exact E4
  ·refine Aj ?_;refine Be (AL rfl rfl λl2 _=>slots_any 2 _ l2) ?_;rw[show slotsD 2 s=0 by unfold slotsD;rw[Ac rfl,Ab Af,Ab Af,Ab Af,Ab Af]];refine Aj ?_;exact BD [] rfl .refl (by exact Ba) ⟨by unfold framesD;rw[Ab Af,Ac rfl,Ab Af,Ab Af,Ab Af,Ab Af];rfl,rfl⟩
 by_cases hk:k=3\/k=4\/k=5\/k=6\/k=8\/k=9
 ·have e:framesD k s=if s=0 then 1 else 0:=by unfold framesD;rw[Ab h1,Ab h2,Ac hk]
  rw[e];rcases hk with rfl|rfl|rfl|rfl|rfl|rfl
  ·by_cases hs:s=0
   ·refine Aj ?_;exact BD [] rfl .refl (by exact Ba) ⟨by rw[Ac hs];rfl,rfl⟩
   ·refine Aj ?_;exact BD [] rfl .refl (by exact Ba) ⟨by rw[Ab hs];rfl,rfl⟩
  ·by_cases hs:s=0
   ·refine Aj ?_;exact BD [] rfl .refl (by exact Ba) ⟨by rw[Ac hs];rfl,rfl⟩
   ·refine Aj ?_;exact BD [] rfl .refl (by exact Ba) ⟨by rw[Ab hs];rfl,rfl⟩
  ·by_cases hs:s=0
   ·refine Aj ?_;exact BD [] rfl .refl (by exact Ba) ⟨by rw[Ac hs];rfl,rfl⟩
   ·refine Aj ?_;exact BD [] rfl .refl (by exact Ba) ⟨by rw[Ab hs];rfl,rfl⟩
  ·by_cases hs:s=0
   ·refine Aj ?_;exact BD [] rfl .refl (by exact Ba) ⟨by rw[Ac hs];rfl,rfl⟩
   ·refine Aj ?_;exact BD [] rfl .refl (by exact Ba) ⟨by rw[Ab hs];rfl,rfl⟩
  ·by_cases hs:s=0
   ·refine Aj ?_;exact BD [] rfl .refl (by exact Ba) ⟨by rw[Ac hs];rfl,rfl⟩
   ·refine Aj ?_;exact BD [] rfl .refl (by exact Ba) ⟨by rw[Ab hs];rfl,rfl⟩
  ·by_cases hs:s=0
   ·refine Aj ?_;exact BD [] rfl .refl (by exact Ba) ⟨by rw[Ac hs];rfl,rfl⟩
   ·refine Aj ?_;exact BD [] rfl .refl (by exact Ba) ⟨by rw[Ab hs];rfl,rfl⟩
 ·have e:framesD k s=0:=by unfold framesD;rw[Ab h1,Ab h2,Ab hk]
  rw[e];exact E4
open Go.RowKit
set_option maxRecDepth 20000
theorem gj(kd fi n:Int)(o:ObT)(gb off:Nat)(cs:Array Value)(t:TypeId)(fz:Nat×Nat)(l:Ad)(hm:(gb,Obj.cells cs t fz)∈l)(hc: ∀j,j<9->cs[off+j]?=(obC o)[j]?):
 Fn prog 180 [.int .i64 kd,.int .i64 fi,.int .i64 n,.pointer (some ⟨gb,off,none⟩)] l λv l'=>v= .bool (JH kd fi n o)/\l'=l:=by
 have c1:cs[off+1]?=some (.int .i64 o.kd):=hc 1 Af;have c3:cs[off+3]?=some (.int .i64 o.fi):=hc 3 Af;have c4:cs[off+4]?=some (.int .i64 o.fr):=hc 4 Af;refine AO func180 ntmps180 λE=>?_;refine Aj ?_;refine Cn [] 13 _ ?_ (hR:=(λ_ h=>h));refine BS ?_;apply EF
 ·exact AL rfl rfl λl2 hl=>kK fi n o.fi o.fr l2
 ·rfl
 ·rfl
 ·rfl
 cases hM:Qa fi n o.fi o.fr with
 |false=>refine BS ?_;refine Aj ?_;exact BD [] rfl .refl (by exact Ba) ⟨by unfold JH;rw[hM];rfl,rfl⟩
 |true=>
  refine BS ?_;refine Aj ?_;refine Cn [] 19 _ ?_ (hR:=(λ_ h=>h));refine BS ?_;by_cases h1:o.kd=1
  ·refine BS ?_;apply XX
   ·exact AL rfl rfl λl2 hl=>DA fi n o.fi o.fr l2
   all_goals try rfl
   cases hW:Ku fi n o.fi o.fr with
   |true=>refine BS ?_;refine Aj ?_;exact BD [] rfl .refl (by exact Ba) ⟨by unfold JH;rw[hM,Av h1,hW];rfl,rfl⟩
   |false=>
    refine BS ?_;refine Aj ?_;refine Cn [] 16 _ ?_ (hR:=(λ_ h=>h));by_cases h5:kd=1
    ·refine BS ?_;apply XX
     ·exact AL rfl rfl λl2 hl=>DA o.fi o.fr fi n l2
     all_goals try rfl
     refine BS ?_;refine Aj ?_;exact BD [] rfl .refl (by exact Ba) ⟨by unfold JH;rw[hM,Av h1,hW,Av h5];rfl,rfl⟩
    ·refine BS ?_;refine Aj ?_;exact BD [] rfl .refl (by exact Ba) ⟨by unfold JH;rw[hM,Av h1,hW,Ax h5];rfl,rfl⟩
  ·refine BS ?_;refine Aj ?_;refine Cn [] 16 _ ?_ (hR:=(λ_ h=>h));by_cases h5:kd=1
   ·refine BS ?_;apply XX
    ·exact AL rfl rfl λl2 hl=>DA o.fi o.fr fi n l2
    all_goals try rfl
    refine BS ?_;refine Aj ?_;exact BD [] rfl .refl (by exact Ba) ⟨by unfold JH;rw[hM,Ax h1,Av h5];rfl,rfl⟩
   ·refine BS ?_;refine Aj ?_;exact BD [] rfl .refl (by exact Ba) ⟨by unfold JH;rw[hM,Ax h1,Ax h5];rfl,rfl⟩
theorem next_any(b:Nat)(S:ArT)(lq:Ad)(hA:IsA b S lq)(f:Int)(l:Ad)(CE: ∀c,c∈lq->c∈l):
 Fn prog 181 [.pointer (some ⟨b,0,none⟩),.int .i64 f] l λv l'=>v= .int .i64 (nextD S f)/\l'=l:=by
 obtain⟨Dm,v,cs,rfl,ho⟩:=hA;have hm:=CE _ (.head _);have c0:=tU S.n S.g v;have ZC:=Dm.n1;have jz:=Dm.n2;refine AO func181 ntmps181 λE=>?_;refine Aj ?_;by_cases h1:f<0
 ·refine Aj ?_;exact BD [] rfl .refl (by exact Ba) ⟨by unfold nextD;rw[Ac h1];rfl,rfl⟩
 by_cases h2:f>=S.n
 ·refine Aj ?_;exact BD [] rfl .refl (by exact Ba) ⟨by unfold nextD;rw[Ab h1,Ac h2];rfl,rfl⟩
 obtain⟨j,rfl⟩: ∃j:Nat,f=j:=⟨f.toNat,Af⟩
 have hj:j<64:=by omega
 have cg:=tV S.n S.g v hj;have hg:=Dm.g1 j;by_cases h3:(j:Int)+1+64*S.g j>65535
 ·refine Aj ?_;exact BD [] rfl .refl (by exact Ba) ⟨by unfold nextD;rw[Ab h1,Ab h2,AY,Ac h3];rfl,rfl⟩
 ·refine Aj ?_;exact BD [] rfl .refl (by exact Ba) ⟨by unfold nextD;rw[Ab h1,Ab h2,AY,Ab h3];rfl,rfl⟩
def Xu(os:OL):List (ObT×Nat):=os.zipIdx
theorem Qc(os:OL)(k:Nat):(Xu os)[k]?=os[k]?.map λo=>(o,k):=by unfold Xu;rw[List.getElem?_zipIdx];simp
theorem du(os:OL):(Xu os).length=os.length:=List.length_zipIdx
theorem To(h:os[k]?=some o):(Xu os).take (k+1)=(Xu os).take k++[(o,k)]:=by rw[Cf,Qc,h];rfl
theorem Qd(h:pre++[x]<+:Xu os):os[x.2]?=some x.1/\x.2=pre.length/\pre=(Xu os).take x.2:=by
 obtain⟨r,hr⟩:=h;have h1:(Xu os)[pre.length]?=some x:=by rw[<-hr];simp
 rw[Qc] at h1;cases ho:os[pre.length]? with
 |none=>rw[ho] at h1;simp at h1
 |some o=>
  rw[ho] at h1;have:x=(o,pre.length):=by simpa using h1.symm
  subst this;refine⟨ho,rfl,?_⟩;show pre=(Xu os).take pre.length;rw[<-hr,Am,GP rfl]
abbrev xB(B:Nat)(b:Option Addr):Bg:=(B,.cells #[.pointer b] 155 (0,0))
abbrev Aar(gb:Nat)(v:Value)(os:OL):Prop:=v= .slice none 0 0/\os.length=0\/ ∃cap,v= .slice (some ⟨gb,0,none⟩) os.length cap
theorem HR(B b:Nat)(n:Int)(g:Nat->Int)(v:Value)(os:OL)(gb:Nat)(hv:Aar gb v os)(hn:os.length<=900000):
 FA prog 168 [.pointer (some ⟨B,0,none⟩)] (λx:ObT×Nat=>[.int .i64 (x.2:Nat),.pointer (some ⟨gb,x.2*9,none⟩)]) (λxs=>xs=Xu os) (λpre=>pre<+:Xu os)
  (λ_ l=>xB B (some ⟨b,0,none⟩)∈l/\Tn b n g v∈l):=by
 refine⟨λr I Ix G0 Ca hY l G hG h0=>?_⟩;obtain⟨p,cap,rfl,hp⟩: ∃p cap,v= .slice p os.length cap/\(0<os.length->p=some ⟨gb,0,none⟩):=by
  rcases hv with⟨h,h0⟩|⟨cap,h⟩
  ·exact⟨none,0,by rw[h,h0],λh=>by omega⟩
  ·exact⟨_,cap,h,λ_=>rfl⟩
 obtain⟨n1,n2⟩:=Ca _ _ G hG h0;have cl:=Vu n g (.slice p os.length cap);refine AO func168 ntmps168 λE=>?_;refine Aj ?_;refine CF (α:=Nat×Ad) (λx=>[(0,.func (.yield r) #[] #[]),(1,.pointer (some ⟨B,0,none⟩)),(10,.int .i64 os.length),(11,.int .i64 x.1)]) (λx=>x.2++G) (λx=>x.1<=os.length/\I ((Xu os).take x.1) x.2) (λx=>os.length-x.1) (0,l) ⟨Bm _,h0⟩ ⟨rfl,rfl,rfl,rfl,trivial⟩ .refl ?_;clear n1 n2;rintro⟨k,l⟩ ⟨hk,hI⟩;simp only at hk hI⊢;obtain⟨n1,n2⟩:=Ca _ _ G hG hI;by_cases Dc:k<os.length
 ·obtain⟨o,ho⟩: ∃o,os[k]?=some o:=⟨_,Al Dc⟩
  have pH:=hp Af;subst pH;refine Aj ?_;have hy:=hY ((Xu os).take k) (o,k) l G hG hI (by rw[<-To ho];exact BI _ _);refine AR (C0 rfl rfl hy) ?_;rintro v l' ⟨l1,rfl,⟨rfl,Lg⟩|⟨rfl,hx⟩⟩
  ·refine Aj ?_;exact BR (k+1,l1) ⟨by simp only;omega,by simp only;rw[To ho];exact Lg⟩ (by simp only;omega) ⟨rfl,rfl,rfl,rfl,trivial⟩ .refl
  ·refine Aj ?_;exact BD [] rfl .refl (by exact Ba) ⟨l1,rfl,.inr ⟨_,by rw[<-To ho];exact BI _ _,hx⟩⟩
 ·obtain rfl:k=os.length:=by omega
  rw[<-du,D7] at hI;refine Aj ?_;exact Bb .refl ⟨l,rfl,.inl ⟨_,rfl,hI⟩⟩
open Go.RowKit
set_option maxRecDepth 20000
abbrev GA(B:Nat)(x:Int):Bg:=(B,.cells #[.int .i64 x] 3 (0,0))
abbrev obK(B:Nat)(o:ObT):Bg:=(B,.cells (toArray (obC o)) 100 (0,0))
def atO(os:OL)(id:Int):Option Nat:=os.findIdx? λo=>decide (o.id=id)
def Wy(os:OL)(id:Int):Int:=match atO os id with|some k=>(k:Int)|none=> -1
theorem atO_some(h:atO os id=some k): ∃o,os[k]?=some o/\o.id=id:=by unfold atO at h;rw[IV] at h;obtain⟨h1,h2,_⟩:=h;exact⟨_,Al h1,by simpa using h2⟩
theorem N9(h:atO os id=none):Wy os id= -1:=by unfold Wy;rw[h]
theorem Oa(h:atO os id=some k):Wy os id=(k:Int):=by unfold Wy;rw[h]
theorem Wz{e:Nat}{v:Value}{cs:Ad}(ho:OwnSl e 9 v os.length (ocs os) cs): ∃gb,Aar gb v os/\ ∀(k:Nat) (o:ObT),os[k]?=some o-> ∃sp,cs=[(gb,Obj.cells (toArray (ocs os++sp)) e (0,0))]:=by
 rcases ho.2 with⟨rfl,h0,rfl⟩|⟨b,cap,sp,rfl,rfl,_⟩
 ·exact⟨0,.inl ⟨rfl,h0⟩,λk o h=>by have:=(Ay.1 h).1;omega⟩
 ·exact⟨b,.inr ⟨cap,rfl⟩,λk o h=>⟨sp,rfl⟩⟩
theorem v7(h:pre++[x]<+:Xu os)(hp: ∀y,y∈pre->y.1.id≠id)(hx:x.1.id=id):Wy os id=(x.2:Int):=by
 obtain⟨h1,h2,h3⟩:=Qd h;refine Oa ?_;unfold atO;rw[IV];obtain⟨hl,he⟩:=Ay.1 h1;refine⟨hl,by rw[he];simpa using hx,λj hj=>?_⟩;have fF:j<os.length:=by omega
 have hm:(os[j],j)∈pre:=by rw[h3];refine A6 (i:=j) ?_;rw[GF,Ac Af,Qc,Al fF];rfl
 have:=hp _ hm;simpa using this
theorem qz(hp: ∀y,y∈Xu os->y.1.id≠id):Wy os id= -1:=by refine N9 ?_;unfold atO;rw[List.findIdx?_eq_none_iff];intro o ho;obtain⟨k,hk⟩:=JT ho;have:(o,k)∈Xu os:=A6 (i:=k) (by rw[Qc,hk];rfl);simpa using hp _ this
theorem JI(b:Nat)(S:ArT)(lq:Ad)(hA:IsA b S lq)(id:Int)(l:Ad)(CE: ∀c,c∈lq->c∈l):
 Fn prog 167 [.pointer (some ⟨b,0,none⟩),.int .i64 id] l λv l'=>v= .int .i64 (Wy S.os id)/\l'=l:=by
 have Ei:=hA.ok.len;obtain⟨Dm,v,cs,rfl,ho⟩:=hA;obtain⟨gb,Mk,Og⟩:=Wz ho;refine AO func167 ntmps167 λE=>?_;refine Ih λb3=>?_;refine Ih λb4=>?_;refine AR (AA rfl rfl (Jf _ rfl _)) ?_;rintro _ _ ⟨B,rfl,rfl⟩;refine gz ?_;refine Df (α:=ObT×Nat) (ps:=[9,10]) (lb:=[.pointer (some ⟨B,0,none⟩)]) rfl (HR B b S.n S.g v S.os gb Mk Af) (λ_=>rfl) rfl
  (λpre l=>l=[xB B (some ⟨b,0,none⟩),GA b4 0,GA b3 id]/\ ∀x,x∈pre->¬x.1.id=id)
  (λc pre l=>c= .ret/\ ∃(GW:List (ObT×Nat)) (x:ObT×Nat),pre=GW++[x]/\(∀x,x∈GW->¬x.1.id=id)/\x.1.id=id/\l=[GA b4 (x.2:Nat)])
  _ l (λpre l2 X2 hX h=>⟨by rw[h.1];exact List.Mem.head _,Aa _ (hX _ (CE _ (.head _)))⟩) (by exact AU) ⟨rfl,by simp⟩ ?_ ?_ ?_
 ·rintro E r0 FS pre ⟨o,k⟩ l' T ⟨fn,tmps,D,rfl⟩ hT ⟨rfl,Gg⟩ DB;obtain⟨Gh,_,_⟩:=Qd DB;simp only at Gh;obtain⟨sp,rfl⟩:=Og _ _ Gh;have tg:=hT _ (CE _ (.tail _ (.head _)));have c0:(toArray (ocs S.os++sp))[k*9]?=some (.int .i64 o.id):=PC Gh sp 0 Af;simp only[DU,Ae,Ag];refine gz ?_;refine CH (by exact DX) ?_;refine gz ?_;refine Cn [] 6 _ ?_ (hR:=(λ_ h=>h));refine pz ?_;by_cases hy:o.id=id
  ·refine gz ?_;refine EC [GA b4 (k:Nat)] (by exact AU) ⟨rfl,pre,(o,k),rfl,Gg,hy,rfl⟩
  ·refine gz ?_;refine Cg _ .refl ⟨rfl,λx hx=>?_⟩;rcases AH.1 hx with hx|hx
   ·exact Gg x hx
   ·rw[AE.1 hx];exact hy
 ·rintro D xs l' rfl ⟨rfl,Gg⟩;rw[qz Gg];simp only[Ae,Ag];refine gz ?_;exact AV [D] (GA b4 (-1)::l) rfl (l':=l) (by exact AU) (by exact Ba) (.drop .refl) ⟨rfl,rfl⟩
 ·rintro D c pre l' DB ⟨rfl,GW,x,rfl,jB,ht,rfl⟩;rw[v7 DB jB ht];simp only[Ae,Ag];refine gz ?_;exact AV [D] (GA b4 (x.2:Nat)::l) rfl (l':=l) (by exact AU) (by exact Ba) (.drop .refl) ⟨rfl,rfl⟩
def getD'(S:ArT)(id:Int):ObT×Bool:=match atO S.os id with
 |some k=>(S.os.getD k obO,true)
 |none=>(obO,false)
theorem get_any(b:Nat)(S:ArT)(lq:Ad)(hA:IsA b S lq)(id:Int)(l:Ad)(CE: ∀c,c∈lq->c∈l):
 Fn prog 112 [.pointer (some ⟨b,0,none⟩),.int .i64 id] l λv l'=>v= .tuple #[.agg (toArray (obC (getD' S id).1)),.bool (getD' S id).2]/\l'=l:=by
 have Nj:=hA;have Ei:=hA.ok.len;obtain⟨Dm,v,cs,rfl,ho⟩:=hA;have hm:=CE _ (.head _);have cl:=Vu S.n S.g v;refine AO func112 ntmps112 λE=>?_;refine Ih λb4=>?_;refine Be (AL rfl rfl λl2 hl=>JI b S _ Nj id l2 (λc hc=>hl _ (.tail _ (CE _ hc)))) ?_;cases hk:atO S.os id with
 |none=>rw[N9 hk];refine gz ?_;exact AV [] (obK b4 obO::l) rfl (l':=l) .refl (by exact Ba) (.drop .refl) ⟨by unfold getD';rw[hk];rfl,rfl⟩
 |some k=>
  rw[Oa hk];obtain⟨o,Gh,_⟩:=atO_some hk;have Xn:=(Ay.1 Gh).1;rcases ho.2 with⟨_,h0,_⟩|⟨gb,cap,sp,rfl,rfl,_⟩
  ·omega
  obtain⟨x1,x2⟩:=dr Gh sp;have UL:=CE _ (.tail _ (.head _));refine gz ?_;refine Be (Dt rfl (List.Mem.tail _ UL) x1 x2) ?_;refine gz ?_;refine CM (l':=l) (obK b4 o::l) .refl (.drop .refl) ⟨?_,rfl⟩;unfold getD';rw[hk];simp only[List.getD,Gh,Di,Jv]
theorem kL(pre:OL)(y:ObT):ocs (pre++[y])=ocs pre++obC y:=by rw[MW];show _++(obC y++[])=_;rw[Bi]
open Go.RowKit
set_option maxRecDepth 20000
def insD(os:OL)(o:ObT):OL:=os.takeWhile (λx=>decide (x.id<=o.id))++o::os.dropWhile (λx=>decide (x.id<=o.id))
def newO(S:ArT)(kd sz fi:Int):ObT:=⟨nextD S fi,kd,sz,fi,framesD kd sz,0,0,0,0⟩
def addE(S:ArT)(kd sz fi:Int):Int:=
 if framesD kd sz=0 then 2 else if fi<0\/fi>S.n-framesD kd sz then 3
 else if(S.os.all λo=>JH kd fi (framesD kd sz) o)=false then 16 else if nextD S fi=0 then 11 else 0
def addD(S:ArT)(kd sz fi:Int):(Int×Int)×ArT:=
 if addE S kd sz fi=0 then((nextD S fi,0),{S with g:=upd S.g fi.toNat (S.g fi.toNat+1),os:=insD S.os (newO S kd sz fi)}) else((0,addE S kd sz fi),S)
theorem frames_rng(k s:Int):0<=framesD k s/\framesD k s<=64:=by
 unfold framesD
 repeat' split
 all_goals omega
theorem v8(hk:k<=os.length)(h1: ∀x∈os.take k,x.id<=o.id)(h2: ∀x∈os.drop k,¬x.id<=o.id):insD os o=os.take k++o::os.drop k:=by
 have e:os=os.take k++os.drop k:=(Cj ..).symm;have t1:os.takeWhile (λx=>decide (x.id<=o.id))=os.take k:=by
  conv=>lhs;rw[e]
  rw[GQ λx hx=>by simpa using h1 x hx];cases hd:os.drop k with
  |nil=>simp
  |cons y r=>rw[Fx,Bi];simpa using h2 y (by rw[hd];exact .head _)
 have t2:os.dropWhile (λx=>decide (x.id<=o.id))=os.drop k:=by
  conv=>lhs;rw[e]
  rw[List.dropWhile_append_of_pos λx hx=>by simpa using h1 x hx];cases hd:os.drop k with
  |nil=>simp
  |cons y r=>rw[Hm];simpa using h2 y (by rw[hd];exact .head _)
 unfold insD;rw[t1,t2]
theorem qA(h:os.Pairwise λx y=>x.id<y.id){i j:Nat}{x y:ObT}(hx:os[i]?=some x)(hy:os[j]?=some y)(Wc:i<j):x.id<y.id:=by obtain⟨h1,rfl⟩:=Ay.1 hx;obtain⟨h2,rfl⟩:=Ay.1 hy;exact HY.1 h i j h1 h2 Wc
theorem Sl{x:ObT}:x∈insD os o<->x=o\/x∈os:=by
 unfold insD;have e:=Cb (p:=λx:ObT=>decide (x.id<=o.id)) (l:=os)
 conv=>rhs;rw[<-e]
 simp only[AH,At];constructor
 ·rintro(h|h|h)
  ·exact .inr (.inl h)
  ·exact .inl h
  ·exact .inr (.inr h)
 ·rintro(h|h|h)
  ·exact .inr (.inl h)
  ·exact .inl h
  ·exact .inr (.inr h)
theorem WA(os:OL)(o:ObT):(insD os o).length=os.length+1:=by unfold insD;have e:=BO List.length (Cb (p:=λx:ObT=>decide (x.id<=o.id)) (l:=os));rw[Ah] at e;rw[Ah,BC];omega
theorem Yh(h:os.Pairwise λx y=>x.id<y.id)(a:Int): ∀x∈os.dropWhile (λx=>decide (x.id<=a)),a<x.id:=by
 induction os with
 |nil=>intro x hx;cases hx
 |cons y r ih=>
  obtain⟨h1,h2⟩:=Cd.1 h;intro x hx;by_cases hy:y.id<=a
  ·rw[List.dropWhile_cons_of_pos (by simpa using hy)] at hx;exact ih h2 x hx
  ·rw[Hm (by simpa using hy)] at hx;rcases At.1 hx with rfl|hx
   ·omega
   ·have:=h1 x hx;omega
theorem kM(a:Int): ∀x∈os.takeWhile (λx=>decide (x.id<=a)),x.id<=a:=by
 induction os with
 |nil=>intro x hx;cases hx
 |cons y r ih=>
  intro x hx;by_cases hy:y.id<=a
  ·rw[Hn (by simpa using hy)] at hx;rcases At.1 hx with rfl|hx
   ·exact hy
   ·exact ih x hx
  ·rw[Fx (by simpa using hy)] at hx;cases hx
theorem Sm(h:os.Pairwise λx y=>x.id<y.id)(G5: ∀x∈os,x.id≠o.id):(insD os o).Pairwise λx y=>x.id<y.id:=by
 unfold insD;have hT:=(List.takeWhile_sublist (l:=os) λx:ObT=>decide (x.id<=o.id))
 have hD:=(I6 (l:=os) λx:ObT=>decide (x.id<=o.id))
 refine Bp.2 ⟨h.sublist hT,Cd.2 ⟨λx hx=>Yh h o.id x hx,h.sublist hD⟩,λx hx y hy=>?_⟩;have h1:=kM o.id x hx;have h2:=G5 x (hT.subset hx);rcases At.1 hy with rfl|hy
 ·omega
 ·have:=Yh h o.id y hy;omega
theorem Tp(hS:S.Ok)(h:nextD S f≠0):0<=f/\f<S.n/\nextD S f=f+1+64*S.g f.toNat/\nextD S f<=65535/\1<=nextD S f:=by
 unfold nextD at*;have:=hS.g1 f.toNat
 split at h
 ·exact absurd rfl h
 split at h
 ·exact absurd rfl h
 split at h
 ·exact absurd rfl h
 rename_i h1 h2 h3;rw[Ab h1,Ab h2,Ab h3];refine⟨Af,Af,rfl,Af,Af⟩
theorem kN(hS:S.Ok)(h:nextD S f≠0): ∀x∈S.os,x.id≠nextD S f:=by
 intro x hx he;obtain⟨f0,f1,f2,_⟩:=Tp hS h;obtain⟨a0,a1,c,c0,c1,c2⟩:=hS.num x hx;have:=hS.n2;have e:x.fi=f:=by omega
 subst e;omega
theorem gk{kd sz fi:Int}(h:addE S kd sz fi=0):framesD kd sz≠0/\0<=fi/\fi<=S.n-framesD kd sz/\(S.os.all λo=>JH kd fi (framesD kd sz) o)=true/\nextD S fi≠0:=by
 unfold addE at h
 split at h
 ·omega
 split at h
 ·omega
 split at h
 ·omega
 split at h
 ·omega
 rename_i h1 h2 h3 h4;exact⟨h1,Af,Af,by simpa using h3,h4⟩
theorem we(hS:S.Ok)(kd sz fi:Int):(addD S kd sz fi).2.Ok:=by
 unfold addD
 split
 ·rename_i h;obtain⟨h1,h2,h3,h4,h5⟩:=gk h;obtain⟨f0,f1,f2,f3,f4⟩:=Tp hS h5;have hg:=hS.g1 fi.toNat;refine⟨hS.n1,hS.n2,λj=>?_,Sm hS.asc (kN hS h5),λx hx=>?_,λx hx=>?_⟩
  ·show 0<=upd S.g fi.toNat (S.g fi.toNat+1) j/\upd S.g fi.toNat (S.g fi.toNat+1) j<=1024;by_cases e:j=fi.toNat
   ·subst e;rw[DK];omega
   ·rw[Dk _ _ _ _ e];exact hS.g1 j
  ·rcases Sl.1 hx with rfl|hx
   ·exact⟨f4,f3⟩
   ·exact hS.rng x hx
  ·show 0<=x.fi/\x.fi<S.n/\ ∃c:Int,0<=c/\c<upd S.g fi.toNat (S.g fi.toNat+1) x.fi.toNat/\_;rcases Sl.1 hx with rfl|hx
   ·exact⟨f0,f1,S.g fi.toNat,hg.1,by rw[show(newO S kd sz fi).fi.toNat=fi.toNat from rfl,DK];omega,f2⟩
   ·obtain⟨a0,a1,c,c0,c1,c2⟩:=hS.num x hx;refine⟨a0,a1,c,c0,?_,c2⟩;by_cases e:x.fi.toNat=fi.toNat
    ·rw[e,DK];rw[e] at c1;omega
    ·rw[Dk _ _ _ _ e];exact c1
 ·exact hS
end Ar
end Go.Proofs.YtlifcingifodfaaGreat
