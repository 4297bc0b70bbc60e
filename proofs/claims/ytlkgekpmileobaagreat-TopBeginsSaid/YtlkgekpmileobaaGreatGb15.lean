/- Laws that the statement's proof leans on (joined out of several texts). -/
import Derived.Test.YtlkgekpmileobaaGreatGb8
import Derived.Test.YtlkgekpmileobaaGreatGb14
import Derived.Test.YtlkgekpmileobaaGreatGb10
import Derived.Test.YtlkgekpmileobaaGreatGb6
set_option linter.unusedVariables false
set_option linter.unusedSimpArgs false
namespace Go.Proofs.YtlkgekpmileobaaGreat.As
open Tryz
open Go.RowKit
set_option maxRecDepth 20000
def ASt.hit(s:ASt)(P:Int->Int->Bool)(n:Nat):Bool:=decide (s.root n≠0)&&P (s.root n) (s.ser n)
def JP(s:ASt)(P:Int->Int->Bool):Option Nat:=D4 (λn=>decide (n≠0)&&s.hit P n) 32
def d6:Option Nat->List Value
 |none=>[.int .i64 0,.int .i64 0,.int .i64 0]
 |some n=>[.int .i64 (n:Nat),.int .i64 ((n/4:Nat):Int),.int .i64 ((n%4:Nat):Int)]
theorem Rf(p:Nat)(i:Fin 4):i∈PY p<->4*p+i.val≠0:=by
 unfold PY GL;rw[List.mem_filterMap];constructor
 ·rintro⟨j,hj,h⟩;have hj4:j<4:=by simpa using hj
  rw[dif_pos hj4] at h;by_cases h0:4*p+j=0
  ·rw[Ae h0] at h;cases h
  ·rw[Ac h0] at h;cases h;exact h0
 ·intro h;exact⟨i.val,by simp,by rw[dif_pos i.isLt,Ac h]⟩
theorem VP(p:Nat):(PY p).Pairwise λa b=>a.val<b.val:=by
 have key: ∀k,k<=4->(GL p k).Pairwise (λa b=>a.val<b.val)/\ ∀a∈GL p k,a.val<k:=by
  intro k
  induction k with
  |zero=>intro _;exact⟨List.Pairwise.nil,by simp[GL]⟩
  |succ k ih=>
   intro hk;obtain⟨h1,h2⟩:=ih Af;rw[Kq _ _ Af];by_cases h0:4*p+k=0
   ·rw[Ae h0,Be];exact⟨h1,λa ha=>by have:=h2 a ha;omega⟩
   ·rw[Ac h0];refine⟨Bh.2 ⟨h1,by simp,λa ha b hb=>?_⟩,λa ha=>?_⟩
    ·simp at hb;subst hb;exact h2 a ha
    ·rcases AF.1 ha with ha|ha
     ·have:=h2 a ha;omega
     ·simp at ha;subst ha;simp
 exact(key 4 Af).1
theorem VQ(p:Nat)(pre:List (Fin 4))(i:Fin 4)(h:pre++[i]<+:PY p):4*p+i.val≠0/\ ∀j:Fin 4,j.val<i.val->4*p+j.val≠0->j∈pre:=by
 obtain⟨rest,hr⟩:=h;refine⟨(Rf p i).1 (by rw[<-hr];simp),λj hj h0=>?_⟩;have hm:=(Rf p j).2 h0;have hs:=VP p;rw[<-hr] at hm hs;rcases AF.1 hm with hm|hm
 ·rcases AF.1 hm with hm|hm
  ·exact hm
  ·simp at hm;subst hm;omega
 ·have:=(Bh.1 hs).2.2 i (by simp) j hm;omega
set_option maxHeartbeats 400000 in
theorem VR(b rb gf:Nat)[EN prog gf](s:ASt)(x:Int)(PP:Int->Int->Bool)(l:List Ab)(hA:asA b s∈l)(hx:(rb,Obj.cells #[.int .i64 x] 3 (0,0))∈l)
 (hg: ∀(r q:Int) l,(rb,Obj.cells #[.int .i64 x] 3 (0,0))∈l->Fn prog gf [.int .i64 r,.int .i64 q,.pointer (some ⟨rb,0,none⟩)] l λv l'=>v= .bool (PP r q)/\l'=l):
 Fn prog 193 [.pointer (some ⟨b,0,none⟩),.func (.func gf) #[] #[.pointer (some ⟨rb,0,none⟩)]] l λv l'=>v= .tuple #[.agg (List.toArray (d6 (JP s PP))),.bool (JP s PP).isSome]/\l'=l:=by
 refine AO func193 ntmps193 λE=>?_;refine Hj λb2=>?_;refine Hj λb3=>?_;refine Hj λb4=>?_;refine Hj λb6=>?_;refine Hj λb7=>?_;refine nG (α:=Nat×List Nat) (λx=>[(2,.pointer (some ⟨b2,0,none⟩)),(3,.pointer (some ⟨b3,0,none⟩)),(4,.pointer (some ⟨b4,0,none⟩)),(6,.pointer (some ⟨b6,0,none⟩)),(7,.pointer (some ⟨b7,0,none⟩)),(16,.int .i64 x.1)]) (λx=>x.2.map GF)
  (λx=>(b2,.cells #[.pointer (some ⟨b,0,none⟩)] 158 (0,0))::(b3,.cells #[.func (.func gf) #[] #[.pointer (some ⟨rb,0,none⟩)]] 266 (0,0))::(b4,.cells #[.int .i64 0,.int .i64 0,.int .i64 0] 361 (0,0))::(b6,.cells #[.int .i64 0,.int .i64 0,.int .i64 0] 361 (0,0))::(b7,.cells #[.bool false] 4 (0,0))::(x.2.map Cd++l))
  (λx=>x.1<=8/\ ∀n,n<4*x.1->(decide (n≠0)&&s.hit PP n)=false) (λx=>8-x.1) (0,[]) ⟨by simp,by simp⟩ ⟨rfl,rfl,rfl,rfl,rfl,rfl,trivial⟩ rfl (by exact AR) ?_
 rintro⟨k,Ds⟩ ⟨hk,hn⟩;simp only at hk hn⊢;have hA':asA b s∈Ds.map Cd++l:=Aa _ hA;have hx':(rb,Obj.cells #[.int .i64 x] 3 (0,0))∈Ds.map Cd++l:=Aa _ hx;by_cases hlt:k<8
 ·refine gz ?_;refine Hj λb8=>?_;refine AS (Az rfl rfl (MJ k _)) ?_;rintro v l' ⟨B,hB,rfl,rfl⟩;refine gz ?_;refine CU (α:=Fin 4) (ps:=[21,22]) (lb:=[.pointer (some ⟨B,0,none⟩)]) rfl (KI B k hlt) (λ_=>rfl) rfl
   (λpre l=>l=[(B,.cells #[.int .i64 (k:Nat)] 3 (0,0)),(b8,.cells #[.int .i64 (k:Nat)] 3 (0,0)),(b2,.cells #[.pointer (some ⟨b,0,none⟩)] 158 (0,0)),(b3,.cells #[.func (.func gf) #[] #[.pointer (some ⟨rb,0,none⟩)]] 266 (0,0)),(b4,.cells #[.int .i64 0,.int .i64 0,.int .i64 0] 361 (0,0)),(b6,.cells #[.int .i64 0,.int .i64 0,.int .i64 0] 361 (0,0)),(b7,.cells #[.bool false] 4 (0,0))]/\ ∀j∈pre,s.hit PP (4*k+j.val)=false)
   (λc pre l=>c= .exit 0/\ ∃(pre':List (Fin 4)) (i:Fin 4),pre=pre'++[i]/\(∀j∈pre',s.hit PP (4*k+j.val)=false)/\s.hit PP (4*k+i.val)=true/\l=[(b4,.cells #[.int .i64 0,.int .i64 0,.int .i64 0] 361 (0,0)),(b6,.cells #[.int .i64 ((4*k+i.val:Nat):Int),.int .i64 (k:Nat),.int .i64 (i.val:Nat)] 361 (0,0)),(b7,.cells #[.bool true] 4 (0,0))])
   _ (Ds.map Cd++l) (λpre l X _ h=>by rw[h.1];exact List.Mem.head _) (by exact AR) ⟨rfl,by simp⟩ ?_ ?_ ?_
  ·rintro E r rec pre y l' T ⟨fn,tmps,D,rfl⟩ hT ⟨rfl,hp⟩ hsp;have hAT:=hT _ hA';have hxT:=hT _ hx';have hy4:=y.isLt;have qr:=s.c_root k y.val hlt hy4;have qs:=s.c_ser k y.val hlt hy4;simp only[Du,Ad,Ag];refine gz ?_;refine Cp (by exact Dw) ?_;refine gz ?_;refine Ce [] 10 _ ?_ (hR:=(λ_ h=>h));refine pz ?_;have hsel:s.hit PP (4*k+y.val)=(decide (s.root (4*k+y.val)≠0)&&PP (s.root (4*k+y.val)) (s.ser (4*k+y.val))):=rfl;by_cases hr:s.root (4*k+y.val)=0
   ·refine gz ?_;refine Ce [] 16 _ ?_ (hR:=(λ_ h=>h));refine pz ?_;refine gz ?_;refine B9 [(B,.cells #[.int .i64 (k:Nat)] 3 (0,0)),(b8,.cells #[.int .i64 (k:Nat)] 3 (0,0)),(b2,.cells #[.pointer (some ⟨b,0,none⟩)] 158 (0,0)),(b3,.cells #[.func (.func gf) #[] #[.pointer (some ⟨rb,0,none⟩)]] 266 (0,0)),(b4,.cells #[.int .i64 0,.int .i64 0,.int .i64 0] 361 (0,0)),(b6,.cells #[.int .i64 0,.int .i64 0,.int .i64 0] 361 (0,0)),(b7,.cells #[.bool false] 4 (0,0))] (by exact AR) ⟨rfl,?_⟩;intro j hj;rcases AF.1 hj with hj|hj
    ·exact hp j hj
    ·simp at hj;subst hj;rw[hsel,Aw (by simp[hr])];rfl
   ·refine gz ?_;refine Ce [] 16 _ ?_ (hR:=(λ_ h=>h));refine pz ?_;apply Vy
    ·exact Fb (fs:=[]) rfl rfl (λl hl=>hg _ _ l (hl _ (by exact BO)))
    all_goals try rfl
    refine pz ?_;refine gz ?_;refine dv rfl (λhP=>?_) (λhP=>?_)
    ·refine gz ?_;refine Et [(b4,.cells #[.int .i64 0,.int .i64 0,.int .i64 0] 361 (0,0)),(b6,.cells #[.int .i64 ((4*k+y.val:Nat):Int),.int .i64 (k:Nat),.int .i64 (y.val:Nat)] 361 (0,0)),(b7,.cells #[.bool true] 4 (0,0))] (by exact AR) ⟨rfl,pre,y,rfl,hp,by rw[hsel,hP,At hr];rfl,rfl⟩
    ·refine gz ?_;refine B9 [(B,.cells #[.int .i64 (k:Nat)] 3 (0,0)),(b8,.cells #[.int .i64 (k:Nat)] 3 (0,0)),(b2,.cells #[.pointer (some ⟨b,0,none⟩)] 158 (0,0)),(b3,.cells #[.func (.func gf) #[] #[.pointer (some ⟨rb,0,none⟩)]] 266 (0,0)),(b4,.cells #[.int .i64 0,.int .i64 0,.int .i64 0] 361 (0,0)),(b6,.cells #[.int .i64 0,.int .i64 0,.int .i64 0] 361 (0,0)),(b7,.cells #[.bool false] 4 (0,0))] (by exact AR) ⟨rfl,?_⟩;intro j hj;rcases AF.1 hj with hj|hj
     ·exact hp j hj
     ·simp at hj;subst hj;rw[hsel,hP,Id]
  ·rintro D xs l' rfl ⟨rfl,hp⟩;refine gz ?_;refine nH (k+1,D::Ds) ⟨by simp;omega,?_⟩ (by simp;omega) ⟨rfl,rfl,rfl,rfl,rfl,rfl,trivial⟩ rfl (by exact AR);intro n h;simp only at h;by_cases h4:n<4*k
   ·exact hn n h4
   ·obtain⟨j,hj,rfl⟩: ∃j,j<4/\n=4*k+j:=⟨n-4*k,Af,Af⟩
    by_cases h0:4*k+j=0
    ·simp[h0]
    ·have:=hp ⟨j,hj⟩ ((Rf k ⟨j,hj⟩).2 h0);simp only at this;rw[this,Id]
  ·rintro D c pre l' hsp ⟨rfl,pre',i,rfl,hp',hi,rfl⟩;have hi4:=i.isLt;obtain⟨hi0,hbef⟩:=VQ k pre' i hsp;have hf:JP s PP=some (4*k+i.val):=by
    refine Kp _ _ _ Af (by rw[hi];simp;omega) ((Oy _ _).2 λn h=>?_);by_cases h4:n<4*k
    ·exact hn n h4
    ·obtain⟨j,hj,rfl⟩: ∃j,j<4/\n=4*k+j:=⟨n-4*k,Af,Af⟩
     by_cases h0:4*k+j=0
     ·simp[h0]
     ·have:=hp' ⟨j,hj⟩ (hbef ⟨j,hj⟩ (by simp only;omega) h0);simp only at this;rw[this,Id]
   simp only[Ad,Ag];refine gz ?_;refine Ce [2] 4 ([(b6,.cells #[.int .i64 ((4*k+i.val:Nat):Int),.int .i64 (k:Nat),.int .i64 (i.val:Nat)] 361 (0,0)),(b7,.cells #[.bool true] 4 (0,0))]) ?_;refine pz ?_;refine gz ?_;refine AU (D::Ds) ((b4,.cells #[.int .i64 ((4*k+i.val:Nat):Int),.int .i64 (k:Nat),.int .i64 (i.val:Nat)] 361 (0,0))::l) rfl (l':=l) (by(apply Keep.mid;exact AR)) (by exact A7) (by exact AR) ⟨?_,rfl⟩;rw[hf];simp only[Iw,d6,Hy];rw[show(4*k+i.val)/4=k by omega,show(4*k+i.val)%4=i.val by omega]
 ·obtain rfl:k=8:=by omega
  have hf:JP s PP=none:=(Oy _ _).2 λn h=>hn n Af;refine gz ?_;refine Ce [2] 4 ([(b6,.cells #[.int .i64 0,.int .i64 0,.int .i64 0] 361 (0,0)),(b7,.cells #[.bool false] 4 (0,0))]) ?_;refine pz ?_;refine gz ?_;refine AU Ds ((b4,.cells #[.int .i64 0,.int .i64 0,.int .i64 0] 361 (0,0))::l) rfl (l':=l) (by(apply Keep.mid;exact AR)) (by exact A7) (by exact AR) ⟨?_,rfl⟩;rw[hf];rfl
theorem Nf(b rb gf:Nat)[EN prog gf](s:ASt)(x:Int)(PP:Int->Int->Bool)(n:Nat)(hf:JP s PP=some n)(l:List Ab)(hA:asA b s∈l)(hx:(rb,Obj.cells #[.int .i64 x] 3 (0,0))∈l)
 (hg: ∀(r q:Int) l,(rb,Obj.cells #[.int .i64 x] 3 (0,0))∈l->Fn prog gf [.int .i64 r,.int .i64 q,.pointer (some ⟨rb,0,none⟩)] l λv l'=>v= .bool (PP r q)/\l'=l):
 Fn prog 193 [.pointer (some ⟨b,0,none⟩),.func (.func gf) #[] #[.pointer (some ⟨rb,0,none⟩)]] l λv l'=>v= .tuple #[.agg #[.int .i64 (n:Nat),.int .i64 ((n/4:Nat):Int),.int .i64 ((n%4:Nat):Int)],.bool true]/\l'=l:=by
 have:=VR b rb gf s x PP l hA hx hg;rw[hf] at this;exact this
theorem Ng(b rb gf:Nat)[EN prog gf](s:ASt)(x:Int)(PP:Int->Int->Bool)(hf:JP s PP=none)(l:List Ab)(hA:asA b s∈l)(hx:(rb,Obj.cells #[.int .i64 x] 3 (0,0))∈l)
 (hg: ∀(r q:Int) l,(rb,Obj.cells #[.int .i64 x] 3 (0,0))∈l->Fn prog gf [.int .i64 r,.int .i64 q,.pointer (some ⟨rb,0,none⟩)] l λv l'=>v= .bool (PP r q)/\l'=l):
 Fn prog 193 [.pointer (some ⟨b,0,none⟩),.func (.func gf) #[] #[.pointer (some ⟨rb,0,none⟩)]] l λv l'=>v= .tuple #[.agg #[.int .i64 0,.int .i64 0,.int .i64 0],.bool false]/\l'=l:=by
 have:=VR b rb gf s x PP l hA hx hg;rw[hf] at this;exact this
def HE(x:Int):Int->Int->Bool:=λr _=>decide (r=x)
def VS(x:Int):Int->Int->Bool:=λ_ q=>decide (q=x)
theorem d7(rb:Nat)(x r q:Int)(l:List Ab)(hx:(rb,Obj.cells #[.int .i64 x] 3 (0,0))∈l):Fn prog 194 [.int .i64 r,.int .i64 q,.pointer (some ⟨rb,0,none⟩)] l λv l'=>v= .bool (HE x r q)/\l'=l:=by refine AO func194 ntmps194 λE=>?_;exact Es
theorem ea(rb:Nat)(x r q:Int)(l:List Ab)(hx:(rb,Obj.cells #[.int .i64 x] 3 (0,0))∈l):Fn prog 231 [.int .i64 r,.int .i64 q,.pointer (some ⟨rb,0,none⟩)] l λv l'=>v= .bool (HE x r q)/\l'=l:=by refine AO func231 ntmps231 λE=>?_;exact Es
theorem Rg(s:ASt)(PP:Int->Int->Bool)(n:Nat)(h:JP s PP=some n):n<32/\n≠0/\s.root n≠0/\PP (s.root n) (s.ser n)=true:=by obtain⟨h1,h2,_⟩:=Oz _ _ _ h;simp[ASt.hit] at h2;exact⟨h1,h2.1,h2.2.1,h2.2.2⟩
def ofP(s:ASt)(r:Int):Int×Int×Bool:=match JP s (HE r) with|some n=>((n:Int),s.ser n,true)|none=>(0,0,false)
def rootP(s:ASt)(q:Int):Int×Int×Bool:=match JP s (VS q) with|some n=>(s.root n,(n:Int),true)|none=>(0,0,false)
set_option maxHeartbeats 1000000 in
theorem of_any(b:Nat)(s:ASt)(r:Int)(l:List Ab)(hA:asA b s∈l):Fn prog 167 [.pointer (some ⟨b,0,none⟩),.int .i64 r] l λv l'=>v= .tuple #[.int .i64 (ofP s r).1,.int .i64 (ofP s r).2.1,.bool (ofP s r).2.2]/\l'=l:=by
 refine AO func167 ntmps167 λE=>?_;refine Hj λrb=>?_;cases hf:JP s (HE r) with
 |none=>refine Bc (AK rfl rfl (λl hl=>Ng b rb _ s r (HE r) hf l (hl _ (by exact BO)) (hl _ (by exact BO)) (λr' q l h=>ea rb r r' q l h))) ?_;refine Hj λb7=>?_;exact AU [] l rfl (l':=l) (by exact AR) (by exact A7) .refl ⟨by simp[Iw,ofP,hf],rfl⟩
 |some n=>have hlt:=(Rg s _ n hf).1;have qs:=s.c_ser (n/4) (n%4) Af Af;rw[show 4*(n/4)+n%4=n by omega] at qs;refine Bc (AK rfl rfl (λl hl=>Nf b rb _ s r (HE r) n hf l (hl _ (by exact BO)) (hl _ (by exact BO)) (λr' q l h=>ea rb r r' q l h))) ?_;refine Hj λb7=>?_;refine Ce [] 16 _ ?_ (hR:=(λ_ h=>h));refine pz ?_;refine gz ?_;exact AU [] l rfl (l':=l) (by exact AR) (by exact A7) .refl ⟨by simp[Iw,ofP,hf],rfl⟩
theorem ASt.s_obj(s:ASt)(p:Nat)(hp:p<8)(v:Int):s.cells.setIfInBounds (p*10) (.int .i64 v)=({s with obj:=upd s.obj p v}:ASt).cells:=by
 refine Nd _ _ _ _ Af ?_ λj hj hne=>?_
 ·unfold ASt.at;rw[Ae Af,Ae Af,show p*10/10=p by omega];exact BM _ (DB _ _ _)
 ·unfold ASt.at;simp only;by_cases h0:j%10=0
  ·rw[Ae h0,Ae h0];by_cases h8:j<80
   ·rw[Ae h8,Ae h8,C3 _ _ _ _ Af]
   ·rw[Ac h8,Ac h8]
  ·rw[Ac h0,Ac h0]
theorem ASt.s_root(s:ASt)(p i:Nat)(hp:p<8)(hi:i<4)(v:Int):s.cells.setIfInBounds (p*10+2+i*1) (.int .i64 v)=({s with root:=upd s.root (4*p+i) v}:ASt).cells:=by
 refine Nd _ _ _ _ Af ?_ λj hj hne=>?_
 ·unfold ASt.at;rw[Ae Af,Ac Af,Ac Af,Ae Af,show 4*((p*10+2+i*1)/10)+((p*10+2+i*1)%10-2)=4*p+i by omega];exact BM _ (DB _ _ _)
 ·unfold ASt.at;simp only;by_cases h8:j<80
  ·rw[Ae h8,Ae h8];by_cases h0:j%10=0
   ·rw[Ae h0,Ae h0]
   ·rw[Ac h0,Ac h0];by_cases h1:j%10=1
    ·rw[Ae h1,Ae h1]
    ·rw[Ac h1,Ac h1];by_cases h6:j%10<6
     ·rw[Ae h6,Ae h6,C3 _ _ _ _ Af]
     ·rw[Ac h6,Ac h6]
  ·rw[Ac h8,Ac h8]
theorem ASt.s_ser(s:ASt)(p i:Nat)(hp:p<8)(hi:i<4)(v:Int):s.cells.setIfInBounds (p*10+6+i*1) (.int .i64 v)=({s with ser:=upd s.ser (4*p+i) v}:ASt).cells:=by
 refine Nd _ _ _ _ Af ?_ λj hj hne=>?_
 ·unfold ASt.at;rw[Ae Af,Ac Af,Ac Af,Ac Af,show 4*((p*10+6+i*1)/10)+((p*10+6+i*1)%10-6)=4*p+i by omega];exact BM _ (DB _ _ _)
 ·unfold ASt.at;simp only;by_cases h8:j<80
  ·rw[Ae h8,Ae h8];by_cases h0:j%10=0
   ·rw[Ae h0,Ae h0]
   ·rw[Ac h0,Ac h0];by_cases h1:j%10=1
    ·rw[Ae h1,Ae h1]
    ·rw[Ac h1,Ac h1];by_cases h6:j%10<6
     ·rw[Ae h6,Ae h6]
     ·rw[Ac h6,Ac h6,C3 _ _ _ _ Af]
  ·rw[Ac h8,Ac h8]
theorem ASt.s_given(s:ASt)(n:Nat)(hn:n<32)(v:Int):s.cells.setIfInBounds (80+n*1) (.int .i64 v)=({s with given:=upd s.given n v}:ASt).cells:=by
 refine Nd _ _ _ _ Af ?_ λj hj hne=>?_
 ·unfold ASt.at;rw[Ac Af,show 80+n*1-80=n by omega];exact BM _ (DB _ _ _)
 ·unfold ASt.at;simp only;by_cases h8:j<80
  ·rw[Ae h8,Ae h8]
  ·rw[Ac h8,Ac h8,C3 _ _ _ _ Af]
theorem PB(vs:List Value): ∀(cs:Array Value) (off j:Nat),off+vs.length<=cs.size->(CO cs off vs)[j]?=if off<=j/\j<off+vs.length then vs[j-off]? else cs[j]?:=by
 induction vs with
 |nil=>intro cs off j h;rw[Ac (by simp only[Eh];omega)];rfl
 |cons v vs ih=>
  intro cs off j h;simp only[Bi] at h;rw[CO,ih _ _ _ (by simp;omega)];by_cases h1:off=j
  ·subst h1;rw[Ac Af,Ae (by simp),Dr,Gu Af];rfl
  ·by_cases h2:off+1<=j/\j<off+1+vs.length
   ·rw[Ae h2,Ae (by simp;omega),show j-off=(j-(off+1))+1 by omega];rfl
   ·rw[Ac h2,Ac (by simp only[Bi];omega),FG h1]
def ASt.drop(s:ASt)(p:Nat):ASt:={s with obj:=upd s.obj p 0,dead:=upd s.dead p true,root:=λn=>if n/4=p then 0 else s.root n,ser:=λn=>if n/4=p then 0 else s.ser n}
theorem ASt.s_drop(s:ASt)(p:Nat)(hp:p<8):CO s.cells (p*10) [.int .i64 0,.bool true,.int .i64 0,.int .i64 0,.int .i64 0,.int .i64 0,.int .i64 0,.int .i64 0,.int .i64 0,.int .i64 0]=(s.drop p).cells:=by
 apply Dk;intro j;rw[PB _ _ _ _ (by rw[s.cells_size];simp;omega)];by_cases hj:j<112
 ·rw[(s.drop p).cells_get j hj,s.cells_get j hj];simp only[Bi,Eh];by_cases hin:p*10<=j/\j<p*10+10
  ·rw[Ae Af];obtain⟨i,hi,rfl⟩: ∃i,i<10/\j=p*10+i:=⟨j-p*10,Af,Af⟩
   rw[show p*10+i-p*10=i by omega];unfold ASt.at ASt.drop;simp only;have h80:p*10+i<80:=by omega
   have hd:(p*10+i)/10=p:=by omega
   have hm:(p*10+i)%10=i:=by omega
   rw[Ae h80,hd,hm]
   match i,hi with
   |0,_=>simp[upd]
   |1,_=>simp[upd]
   |2,_=>simp
   |3,_=>simp;omega
   |4,_=>simp;omega
   |5,_=>simp;omega
   |6,_=>simp
   |7,_=>simp;omega
   |8,_=>simp;omega
   |9,_=>simp;omega
  ·rw[Ac Af];congr 1;unfold ASt.at ASt.drop;simp only;by_cases h80:j<80
   ·rw[Ae h80,Ae h80];have hq:j/10≠p:=by omega
    rw[C3 _ _ _ _ hq,C3 _ _ _ _ hq];by_cases h0:j%10=0
    ·rw[Ae h0,Ae h0]
    ·rw[Ac h0,Ac h0];by_cases h1:j%10=1
     ·rw[Ae h1,Ae h1]
     ·rw[Ac h1,Ac h1];by_cases h6:j%10<6
      ·rw[Ae h6,Ae h6,Ac Af]
      ·rw[Ac h6,Ac h6,Ac Af]
   ·rw[Ac h80,Ac h80]
 ·rw[Ac (by simp;omega),EG (by rw[s.cells_size];omega),EG (by rw[(s.drop p).cells_size];omega)]
def ASt.zero:ASt:=⟨λ_=>0,λ_=>false,λ_=>0,λ_=>0,λ_=>0⟩
theorem Xx:ASt.zero.cells=List.toArray [.int .i64 0,.bool false,.int .i64 0,.int .i64 0,.int .i64 0,.int .i64 0,.int .i64 0,.int .i64 0,.int .i64 0,.int .i64 0,.int .i64 0,.bool false,.int .i64 0,.int .i64 0,.int .i64 0,.int .i64 0,.int .i64 0,.int .i64 0,.int .i64 0,.int .i64 0,.int .i64 0,.bool false,.int .i64 0,.int .i64 0,.int .i64 0,.int .i64 0,.int .i64 0,.int .i64 0,.int .i64 0,.int .i64 0,.int .i64 0,.bool false,.int .i64 0,.int .i64 0,.int .i64 0,.int .i64 0,.int .i64 0,.int .i64 0,.int .i64 0,.int .i64 0,.int .i64 0,.bool false,.int .i64 0,.int .i64 0,.int .i64 0,.int .i64 0,.int .i64 0,.int .i64 0,.int .i64 0,.int .i64 0,.int .i64 0,.bool false,.int .i64 0,.int .i64 0,.int .i64 0,.int .i64 0,.int .i64 0,.int .i64 0,.int .i64 0,.int .i64 0,.int .i64 0,.bool false,.int .i64 0,.int .i64 0,.int .i64 0,.int .i64 0,.int .i64 0,.int .i64 0,.int .i64 0,.int .i64 0,.int .i64 0,.bool false,.int .i64 0,.int .i64 0,.int .i64 0,.int .i64 0,.int .i64 0,.int .i64 0,.int .i64 0,.int .i64 0,.int .i64 0,.int .i64 0,.int .i64 0,.int .i64 0,.int .i64 0,.int .i64 0,.int .i64 0,.int .i64 0,.int .i64 0,.int .i64 0,.int .i64 0,.int .i64 0,.int .i64 0,.int .i64 0,.int .i64 0,.int .i64 0,.int .i64 0,.int .i64 0,.int .i64 0,.int .i64 0,.int .i64 0,.int .i64 0,.int .i64 0,.int .i64 0,.int .i64 0,.int .i64 0,.int .i64 0,.int .i64 0,.int .i64 0,.int .i64 0,.int .i64 0,.int .i64 0]:=Bv
set_option maxHeartbeats 1000000 in
theorem new_any(l:List Ab):Fn prog 131 [] l λv l'=> ∃b,(∀c,c∈l->c.1≠b)/\v= .pointer (some ⟨b,0,none⟩)/\l'=asA b ASt.zero::l:=by refine AO func131 ntmps131 λE=>?_;refine gz ?_;refine AS (CR rfl) ?_;rintro _ _ ⟨b,hb,rfl,rfl⟩;refine gz ?_;exact By [] rfl .refl (by exact A7) ⟨b,hb,rfl,by rw[asA,Xx]⟩
def addP(s:ASt)(o:Int):Int×Int×ASt:=
 if o<1 then(0,2,s) else if(atO s o).isSome then(0,16,s) else
 match D4 (λp=>s.obj p==0&&!s.dead p) 8 with
 |some p=>((p:Int),0,{s with obj:=upd s.obj p o})
 |none=>(0,11,s)
theorem Nh(b:Nat)(s:ASt)(o i:Int)(h:Up s o=i)(l:List Ab)(hm:asA b s∈l):
 Fn prog 192 [.pointer (some ⟨b,0,none⟩),.int .i64 o] l λv l'=>v= .int .i64 i/\l'=l:=by rw[<-h];exact II b s o l hm
set_option maxHeartbeats 1000000 in
theorem addPool_any(b:Nat)(s:ASt)(o:Int)(F:List Ab):
 Fn prog 148 [.pointer (some ⟨b,0,none⟩),.int .i64 o] (asA b s::F) λv l'=>v= .tuple #[.int .i64 (addP s o).1,.int .i64 (addP s o).2.1]/\l'=asA b (addP s o).2.2::F:=by
 refine AO func148 ntmps148 λE=>?_;refine gz ?_;refine jh rfl (λho=>?_) (λho=>?_)
 ·refine gz ?_;exact By [] rfl .refl (by exact A7) ⟨by simp[Iw,addP,ho],by simp[addP,ho]⟩
 ·refine gz ?_;cases hq:atO s o with
  |some q=>refine Bc (AK rfl rfl (λl hl=>Nh b s o q (by simp[Up,hq]) l (hl _ (by exact BO)))) ?_;refine gz ?_;exact By [] rfl .refl (by exact A7) ⟨by simp[Iw,addP,ho,hq],by simp[addP,ho,hq]⟩
  |none=>
   refine Bc (AK rfl rfl (λl hl=>Nh b s o (-1) (by simp[Up,hq]) l (hl _ (by exact BO)))) ?_;refine gz ?_;refine Cu (α:=Nat) (λk=>[(0,.pointer (some ⟨b,0,none⟩)),(1,.int .i64 o),(18,.int .i64 k)]) (λk=>asA b s::F) (λk=>k<=8/\D4 (λp=>s.obj p==0&&!s.dead p) k=none) (λk=>8-k) 0 ⟨Af,rfl⟩ ⟨rfl,rfl,rfl,trivial⟩ .refl ?_;rintro k ⟨hk,hf⟩;by_cases hlt:k<8
   ·have hc:=s.c_obj k hlt;have hd:=s.c_dead k hlt;by_cases hz:s.obj k=0
    ·cases hdd:s.dead k with
     |true=>rw[hdd] at hd;refine gz ?_;exact BS (k+1) ⟨Af,by rw[G3,hf];simp[hz,hdd]⟩ Af ⟨rfl,rfl,rfl,trivial⟩ .refl
     |false=>rw[hdd] at hd;refine gz ?_;refine LV (C7 (cs:=s.cells) rfl rfl rfl (by exact Dw) (by rw[s.cells_size];omega)) rfl rfl ?_;rintro _ _ ⟨rfl,rfl⟩;rw[s.s_obj k hlt];refine gz ?_;have hft:=Kp (λp=>s.obj p==0&&!s.dead p) 8 k hlt (by simp[hz,hdd]) hf;exact By [] rfl .refl (by exact A7) ⟨by simp[Iw,addP,ho,hq,hft],by simp[addP,ho,hq,hft]⟩
    ·refine gz ?_;exact BS (k+1) ⟨Af,by rw[G3,hf];simp[hz]⟩ Af ⟨rfl,rfl,rfl,trivial⟩ .refl
   ·obtain rfl:k=8:=by omega
    refine gz ?_;exact By [] rfl .refl (by exact A7) ⟨by simp[Iw,addP,ho,hq,hf],by simp[addP,ho,hq,hf]⟩
def ASt.give0(s:ASt)(n:Nat):ASt:={s with root:=upd s.root n 0,ser:=upd s.ser n 0}
def unP(s:ASt)(r:Int):Int×Int×ASt:=match JP s (HE r) with|some n=>((n:Int),0,s.give0 n)|none=>(0,15,s)
def VT(s:ASt)(n:Nat):Int:=(n:Int)+32*s.given n
def OA(s:ASt)(p:Nat)(i:Fin 4):Bool:=s.root (4*p+i.val)==0&&decide (VT s (4*p+i.val)<=16777215)
def ASt.give(s:ASt)(n:Nat)(r:Int):ASt:={s with root:=upd s.root n r,ser:=upd s.ser n (VT s n),given:=upd s.given n (s.given n+1)}
def assignP(s:ASt)(o r:Int):Int×Int×Int×ASt:=
 match atO s o with
 |none=>(0,0,2,s)
 |some p=>if r<1 then(0,0,2,s) else if(JP s (HE r)).isSome then(0,0,13,s) else
  match(PY p).find? (OA s p) with
  |some i=>((4*p+i.val:Nat),VT s (4*p+i.val),0,s.give (4*p+i.val) r)
  |none=>(0,0,11,s)
theorem MI{α:Type}(f:α->Bool)(pre l:List α)(i:α)(h:pre++[i]<+:l)(hp: ∀j∈pre,f j=false)(hi:f i=true):l.find? f=some i:=by obtain⟨rest,rfl⟩:=h;rw[Al,DP,Bu.2 (λj hj=>by simp[hp j hj])];simp[hi]
theorem eb(s:ASt)(o:Int)(p:Nat)(h:atO s o=some p):p<8:=by
 unfold atO at h
 split at h
 ·cases h
 ·exact(Oz _ _ _ h).1
set_option maxHeartbeats 400000 in
theorem assign_any(b:Nat)(s:ASt)(o r:Int)(F:List Ab)(hg: ∀n,n<32->0<=s.given n/\s.given n<=600000):
 Fn prog 149 [.pointer (some ⟨b,0,none⟩),.int .i64 o,.int .i64 r] (asA b s::F) λv l'=>v= .tuple #[.int .i64 (assignP s o r).1,.int .i64 (assignP s o r).2.1,.int .i64 (assignP s o r).2.2.1]/\l'=asA b (assignP s o r).2.2.2::F:=by
 refine AO func149 ntmps149 λE=>?_;refine Hj λb3=>?_;refine Hj λb5=>?_;refine Hj λb6=>?_;refine Hj λb7=>?_;refine Hj λb8=>?_;cases hq:atO s o with
 |none=>refine Bc (AK rfl rfl (λl hl=>Nh b s o (-1) (by simp[Up,hq]) l (hl _ (by exact BO)))) ?_;refine Hj λb9=>?_;exact AU [] ((b6,.cells #[.int .i64 0] 3 (0,0))::(b7,.cells #[.int .i64 0] 3 (0,0))::(b8,.cells #[.int .i64 2] 29 (0,0))::asA b s::F) rfl (l':=asA b s::F) (by exact AR) (by exact A7) (by exact AR) ⟨by simp[Iw,assignP,hq],by simp[assignP,hq]⟩
 |some p=>
  have hp:=eb s o p hq;refine Bc (AK rfl rfl (λl hl=>Nh b s o p (by simp[Up,hq]) l (hl _ (by exact BO)))) ?_;refine Hj λb9=>?_;refine jh rfl (λhr=>?_) (λhr=>?_)
  ·refine gz ?_;exact AU [] ((b6,.cells #[.int .i64 0] 3 (0,0))::(b7,.cells #[.int .i64 0] 3 (0,0))::(b8,.cells #[.int .i64 2] 29 (0,0))::asA b s::F) rfl (l':=asA b s::F) (by exact AR) (by exact A7) (by exact AR) ⟨by simp[Iw,assignP,hq,hr],by simp[assignP,hq,hr]⟩
  ·refine gz ?_;cases hf:JP s (HE r) with
   |some n=>refine Bc (AK rfl rfl (λl hl=>Nf b b5 _ s r (HE r) n hf l (hl _ (by exact BO)) (hl _ (by exact BO)) (λr' q l h=>d7 b5 r r' q l h))) ?_;refine Hj λb10=>?_;exact AU [] ((b6,.cells #[.int .i64 0] 3 (0,0))::(b7,.cells #[.int .i64 0] 3 (0,0))::(b8,.cells #[.int .i64 13] 29 (0,0))::asA b s::F) rfl (l':=asA b s::F) (by exact AR) (by exact A7) (by exact AR) ⟨by simp[Iw,assignP,hq,hr,hf],by simp[assignP,hq,hr,hf]⟩
   |none=>
    refine Bc (AK rfl rfl (λl hl=>Ng b b5 _ s r (HE r) hf l (hl _ (by exact BO)) (hl _ (by exact BO)) (λr' q l h=>d7 b5 r r' q l h))) ?_;refine Hj λb10=>?_;refine AS (Az rfl rfl (MJ p _)) ?_;rintro v l' ⟨B,hB,rfl,rfl⟩;refine gz ?_;refine CU (α:=Fin 4) (ps:=[37,38]) (lb:=[.pointer (some ⟨B,0,none⟩)]) rfl (KI B p hp) (λ_=>rfl) rfl
     (λpre l=>l=[(B,.cells #[.int .i64 (p:Nat)] 3 (0,0)),(b9,.cells #[.int .i64 (p:Nat)] 3 (0,0)),(b3,.cells #[.pointer (some ⟨b,0,none⟩)] 158 (0,0)),(b5,.cells #[.int .i64 r] 3 (0,0)),(b6,.cells #[.int .i64 0] 3 (0,0)),(b7,.cells #[.int .i64 0] 3 (0,0)),(b8,.cells #[.int .i64 0] 29 (0,0)),asA b s]/\ ∀j∈pre,OA s p j=false)
     (λc pre l=>c= .ret/\ ∃(pre':List (Fin 4)) (i:Fin 4),pre=pre'++[i]/\(∀j∈pre',OA s p j=false)/\OA s p i=true/\l=[(b6,.cells #[.int .i64 ((4*p+i.val:Nat):Int)] 3 (0,0)),(b7,.cells #[.int .i64 (VT s (4*p+i.val))] 3 (0,0)),(b8,.cells #[.int .i64 0] 29 (0,0)),asA b (s.give (4*p+i.val) r)])
     _ F (λpre l X _ h=>by rw[h.1];exact List.Mem.head _) (by exact AR) ⟨rfl,by simp⟩ ?_ ?_ ?_
    ·rintro E r0 rec pre y l' T ⟨fn,tmps,D,rfl⟩ hT ⟨rfl,hpre⟩ hsp;have hy4:=y.isLt;have hgn:=hg (4*p+y.val) Af;have qr:=s.c_root p y.val hp hy4;have qg:=s.c_given (4*p+y.val) Af;simp only[Du,Ad,Ag];refine gz ?_;refine Cp (by exact Dw) ?_;refine gz ?_;have hsel:OA s p y=(s.root (4*p+y.val)==0&&decide (VT s (4*p+y.val)<=16777215)):=rfl;have hso:VT s (4*p+y.val)=((4*p+y.val:Nat):Int)+32*s.given (4*p+y.val):=rfl;have hno:OA s p y=false-> ∀j∈pre++[y],OA s p j=false:=by
      intro h j hj;rcases AF.1 hj with hj|hj
      ·exact hpre j hj
      ·simp at hj;subst hj;exact h
     rw[<-hso];obtain⟨q,hqe⟩: ∃q,VT s (4*p+y.val)=q:=⟨_,rfl⟩
     have e1:=s.s_given (4*p+y.val) Af (s.given (4*p+y.val)+1);obtain⟨s1,hs1⟩: ∃s1:ASt,{s with given:=upd s.given (4*p+y.val) (s.given (4*p+y.val)+1)}=s1:=⟨_,rfl⟩
     rw[hs1] at e1;have e2:=s1.s_root p y.val hp hy4 r;obtain⟨s2,hs2⟩: ∃s2:ASt,{s1 with root:=upd s1.root (4*p+y.val) r}=s2:=⟨_,rfl⟩
     rw[hs2] at e2;have e3:=s2.s_ser p y.val hp hy4 q;obtain⟨s3,hs3⟩: ∃s3:ASt,{s2 with ser:=upd s2.ser (4*p+y.val) q}=s3:=⟨_,rfl⟩
     rw[hs3] at e3;have hs3:s3=s.give (4*p+y.val) r:=by rw[<-hs3,<-hs2,<-hs1,<-hqe];rfl
     rw[hqe] at hsel hso⊢;by_cases hr0:s.root (4*p+y.val)=0
     ·refine Ce [] 14 _ ?_ (hR:=(λ_ h=>h));refine pz ?_;by_cases hq0:16777215<q
      ·refine gz ?_;refine B9 [(B,.cells #[.int .i64 (p:Nat)] 3 (0,0)),(b9,.cells #[.int .i64 (p:Nat)] 3 (0,0)),(b3,.cells #[.pointer (some ⟨b,0,none⟩)] 158 (0,0)),(b5,.cells #[.int .i64 r] 3 (0,0)),(b6,.cells #[.int .i64 0] 3 (0,0)),(b7,.cells #[.int .i64 0] 3 (0,0)),(b8,.cells #[.int .i64 0] 29 (0,0)),asA b s] (by exact AR) ⟨rfl,hno (by rw[hsel];simp[hr0];omega)⟩
      ·refine gz ?_;refine KH [(0,true),(1,true),(2,true),(3,true),(4,true),(7,true),(8,true),(5,false),(6,true),(9,true),(10,false)] [[],[],[0],[0,2],[0,1,2,3],[0,1,2,3,4],[0,1,2,3,4,5],[0],[0,7],[0,1,2,3,4,5,6,7,8],[0,1,2,3,4,5,6,7,8,9]] ([(B,.cells #[.int .i64 (p:Nat)] 3 (0,0)),(b9,.cells #[.int .i64 (p:Nat)] 3 (0,0)),(b3,.cells #[.pointer (some ⟨b,0,none⟩)] 158 (0,0)),(b5,.cells #[.int .i64 r] 3 (0,0))]) Bv Bv Gh Sn ?_;refine pz ?_;apply Mu
       ·exact C7 (cs:=s.cells) rfl rfl rfl (by exact Dw) (by rw[ASt.cells_size];omega)
       ·rfl
       ·rfl
       ·rintro _ _ ⟨rfl,rfl⟩;exact(BZ (by exact K5))
       rintro _ _ ⟨rfl,rfl⟩;rw[e1];refine pz ?_;refine gz ?_;refine KH [(0,true),(1,true),(2,true),(3,true),(4,true),(5,true),(6,true),(7,true),(8,true),(9,true),(10,true),(11,true),(12,true),(14,true),(15,true),(16,true),(17,true),(13,false),(18,true),(19,false)] [[],[],[],[],[],[],[],[],[0],[0,8],[0,1,8,9],[0,1,8,9,10],[0,1,2,6,8,9,10,11],[0,1,2,6,8,9,10,11,12],[3],[3,14],[3,4,14,15],[3,4,14,15,16],[0,1,2,3,4,5,6,7,8,9,10,11,12,13,14,15,16,17],[0,1,2,3,4,5,6,7,8,9,10,11,12,13,14,15,16,17,18]] ([(B,.cells #[.int .i64 (p:Nat)] 3 (0,0)),(b9,.cells #[.int .i64 (p:Nat)] 3 (0,0)),(b3,.cells #[.pointer (some ⟨b,0,none⟩)] 158 (0,0)),(b5,.cells #[.int .i64 r] 3 (0,0))]) Bv Bv Gh Sn ?_;refine pz ?_;apply Mu
       ·exact C7 (cs:=s1.cells) rfl rfl rfl (by exact Dw) (by rw[ASt.cells_size];omega)
       ·rfl
       ·rfl
       ·rintro _ _ ⟨rfl,rfl⟩;exact(BZ (by exact K5))
       rintro _ _ ⟨rfl,rfl⟩;rw[e2];refine pz ?_;apply Mu
       ·exact C7 (cs:=s2.cells) rfl rfl rfl (by exact Dw) (by rw[ASt.cells_size];omega)
       ·rfl
       ·rfl
       ·rintro _ _ ⟨rfl,rfl⟩;exact(BZ (by exact K5))
       rintro _ _ ⟨rfl,rfl⟩;rw[e3];refine pz ?_;refine gz ?_;refine D3 [(b6,.cells #[.int .i64 ((4*p+y.val:Nat):Int)] 3 (0,0)),(b7,.cells #[.int .i64 q] 3 (0,0)),(b8,.cells #[.int .i64 0] 29 (0,0)),asA b s3] (by exact AR) ⟨rfl,pre,y,rfl,hpre,by rw[hsel];simp[hr0];omega,?_⟩;rw[hs3,hqe]
     ·refine Ce [] 14 _ ?_ (hR:=(λ_ h=>h));refine pz ?_;refine gz ?_;refine B9 [(B,.cells #[.int .i64 (p:Nat)] 3 (0,0)),(b9,.cells #[.int .i64 (p:Nat)] 3 (0,0)),(b3,.cells #[.pointer (some ⟨b,0,none⟩)] 158 (0,0)),(b5,.cells #[.int .i64 r] 3 (0,0)),(b6,.cells #[.int .i64 0] 3 (0,0)),(b7,.cells #[.int .i64 0] 3 (0,0)),(b8,.cells #[.int .i64 0] 29 (0,0)),asA b s] (by exact AR) ⟨rfl,hno (by rw[hsel];simp[hr0])⟩
    ·rintro D xs l' rfl ⟨rfl,hpre⟩;have hno:(PY p).find? (OA s p)=none:=Bu.2 λj hj=>by simp[hpre j hj]
     simp only[Ad,Ag];refine gz ?_;exact AU [D] ((b6,.cells #[.int .i64 0] 3 (0,0))::(b7,.cells #[.int .i64 0] 3 (0,0))::(b8,.cells #[.int .i64 11] 29 (0,0))::asA b s::F) rfl (l':=asA b s::F) (by exact AR) (by exact A7) (by exact AR) ⟨by simp[Iw,assignP,hq,hr,hf,hno],by simp[assignP,hq,hr,hf,hno]⟩
    ·rintro D c pre l' hsp ⟨rfl,pre',i,rfl,hp',hi,rfl⟩;have hfd:=MI (OA s p) pre' _ i hsp hp' hi;simp only[Ad,Ag];refine gz ?_;exact AU [D] ((b6,.cells #[.int .i64 ((4*p+i.val:Nat):Int)] 3 (0,0))::(b7,.cells #[.int .i64 (VT s (4*p+i.val))] 3 (0,0))::(b8,.cells #[.int .i64 0] 29 (0,0))::asA b (s.give (4*p+i.val) r)::F) rfl (l':=asA b (s.give (4*p+i.val) r)::F) (by exact AR) (by exact A7) (by exact AR) ⟨by simp[Iw,assignP,hq,hr,hf,hfd],by simp[assignP,hq,hr,hf,hfd]⟩
end Go.Proofs.YtlkgekpmileobaaGreat.As
