/- Laws that the statement's proof leans on (joined out of several texts). -/
import Derived.Test.YtlifcingifodfaaGreatGc14
set_option maxHeartbeats 4000000
set_option linter.unusedVariables false
set_option linter.unusedSimpArgs false
namespace Go.Proofs.YtlifcingifodfaaGreat
open Tryz
namespace As
open Go.RowKit
set_option maxRecDepth 20000
def ASt.hit(s:ASt)(P:Int->Int->Bool)(n:Nat):Bool:=decide (s.root n≠0)&&P (s.root n) (s.ser n)
def KX(s:ASt)(P:Int->Int->Bool):Option Nat:=ED (λn=>decide (n≠0)&&s.hit P n) 32
def kQ:Option Nat->Ap
 |none=>[.int .i64 0,.int .i64 0,.int .i64 0]
 |some n=>[.int .i64 (n:Nat),.int .i64 ((n/4:Nat):Int),.int .i64 ((n%4:Nat):Int)]
theorem Tv(p:Nat)(i:Fin 4):i∈RU p<->4*p+i.val≠0:=by
 unfold RU Hw;rw[List.mem_filterMap];constructor
 ·rintro⟨j,hj,h⟩;have hj4:j<4:=by simpa using hj
  rw[dif_pos hj4] at h;by_cases h0:4*p+j=0
  ·rw[Ac h0] at h;cases h
  ·rw[Ab h0] at h;cases h;exact h0
 ·intro h;exact⟨i.val,by simp,by rw[dif_pos i.isLt,Ab h]⟩
theorem Yl(p:Nat):(RU p).Pairwise λa b=>a.val<b.val:=by
 have key: ∀k,k<=4->(Hw p k).Pairwise (λa b=>a.val<b.val)/\ ∀a∈Hw p k,a.val<k:=by
  intro k
  induction k with
  |zero=>intro _;exact⟨List.Pairwise.nil,by simp[Hw]⟩
  |succ k ih=>
   intro hk;obtain⟨h1,h2⟩:=ih Af;rw[LC _ _ Af];by_cases h0:4*p+k=0
   ·rw[Ac h0,Bi];exact⟨h1,λa ha=>by have:=h2 a ha;omega⟩
   ·rw[Ab h0];refine⟨Bp.2 ⟨h1,by simp,λa ha b hb=>?_⟩,λa ha=>?_⟩
    ·simp at hb;subst hb;exact h2 a ha
    ·rcases AH.1 ha with ha|ha
     ·have:=h2 a ha;omega
     ·simp at ha;subst ha;simp
 exact(key 4 Af).1
theorem Ym(p:Nat)(pre:List (Fin 4))(i:Fin 4)(h:pre++[i]<+:RU p):4*p+i.val≠0/\ ∀j:Fin 4,j.val<i.val->4*p+j.val≠0->j∈pre:=by
 obtain⟨A0,hr⟩:=h;refine⟨(Tv p i).1 (by rw[<-hr];simp),λj hj h0=>?_⟩;have hm:=(Tv p j).2 h0;have hs:=Yl p;rw[<-hr] at hm hs;rcases AH.1 hm with hm|hm
 ·rcases AH.1 hm with hm|hm
  ·exact hm
  ·simp at hm;subst hm;omega
 ·have:=(Bp.1 hs).2.2 i (by simp) j hm;omega
theorem Yn(b rb gf:Nat)[EN prog gf](s:ASt)(x:Int)(PP:Int->Int->Bool)(l:Ad)(hA:asA b s∈l)(hx:(rb,Obj.cells #[.int .i64 x] 3 (0,0))∈l)
 (hg: ∀(r q:Int) l,(rb,Obj.cells #[.int .i64 x] 3 (0,0))∈l->Fn prog gf [.int .i64 r,.int .i64 q,.pointer (some ⟨rb,0,none⟩)] l λv l'=>v= .bool (PP r q)/\l'=l):
 Fn prog 192 [.pointer (some ⟨b,0,none⟩),.func (.func gf) #[] #[.pointer (some ⟨rb,0,none⟩)]] l λv l'=>v= .tuple #[.agg (List.toArray (kQ (KX s PP))),.bool (KX s PP).isSome]/\l'=l:=by
 refine AO func192 ntmps192 λE=>?_;refine Ih λb2=>?_;refine Ih λb3=>?_;refine Ih λb4=>?_;refine Ih λb6=>?_;refine Ih λb7=>?_;refine vS (α:=Nat×List Nat) (λx=>[(2,.pointer (some ⟨b2,0,none⟩)),(3,.pointer (some ⟨b3,0,none⟩)),(4,.pointer (some ⟨b4,0,none⟩)),(6,.pointer (some ⟨b6,0,none⟩)),(7,.pointer (some ⟨b7,0,none⟩)),(16,.int .i64 x.1)]) (λx=>x.2.map Hq)
  (λx=>(b2,.cells #[.pointer (some ⟨b,0,none⟩)] 157 (0,0))::(b3,.cells #[.func (.func gf) #[] #[.pointer (some ⟨rb,0,none⟩)]] 265 (0,0))::(b4,.cells #[.int .i64 0,.int .i64 0,.int .i64 0] 360 (0,0))::(b6,.cells #[.int .i64 0,.int .i64 0,.int .i64 0] 360 (0,0))::(b7,.cells #[.bool false] 4 (0,0))::(x.2.map Cm++l))
  (λx=>x.1<=8/\ ∀n,n<4*x.1->(decide (n≠0)&&s.hit PP n)=false) (λx=>8-x.1) (0,[]) ⟨by simp,by simp⟩ ⟨rfl,rfl,rfl,rfl,rfl,rfl,trivial⟩ rfl (by exact AU) ?_
 rintro⟨k,Ds⟩ ⟨hk,hn⟩;simp only at hk hn⊢;have Nj:asA b s∈Ds.map Cm++l:=Aa _ hA;have jc:(rb,Obj.cells #[.int .i64 x] 3 (0,0))∈Ds.map Cm++l:=Aa _ hx;by_cases Dc:k<8
 ·refine gz ?_;refine Ih λb8=>?_;refine AR (AA rfl rfl (Od k _)) ?_;rintro v l' ⟨B,hB,rfl,rfl⟩;refine gz ?_;refine Df (α:=Fin 4) (ps:=[21,22]) (lb:=[.pointer (some ⟨B,0,none⟩)]) rfl (LW B k Dc) (λ_=>rfl) rfl
   (λpre l=>l=[(B,.cells #[.int .i64 (k:Nat)] 3 (0,0)),(b8,.cells #[.int .i64 (k:Nat)] 3 (0,0)),(b2,.cells #[.pointer (some ⟨b,0,none⟩)] 157 (0,0)),(b3,.cells #[.func (.func gf) #[] #[.pointer (some ⟨rb,0,none⟩)]] 265 (0,0)),(b4,.cells #[.int .i64 0,.int .i64 0,.int .i64 0] 360 (0,0)),(b6,.cells #[.int .i64 0,.int .i64 0,.int .i64 0] 360 (0,0)),(b7,.cells #[.bool false] 4 (0,0))]/\ ∀j∈pre,s.hit PP (4*k+j.val)=false)
   (λc pre l=>c= .exit 0/\ ∃(GW:List (Fin 4)) (i:Fin 4),pre=GW++[i]/\(∀j∈GW,s.hit PP (4*k+j.val)=false)/\s.hit PP (4*k+i.val)=true/\l=[(b4,.cells #[.int .i64 0,.int .i64 0,.int .i64 0] 360 (0,0)),(b6,.cells #[.int .i64 ((4*k+i.val:Nat):Int),.int .i64 (k:Nat),.int .i64 (i.val:Nat)] 360 (0,0)),(b7,.cells #[.bool true] 4 (0,0))])
   _ (Ds.map Cm++l) (λpre l X _ h=>by rw[h.1];exact List.Mem.head _) (by exact AU) ⟨rfl,by simp⟩ ?_ ?_ ?_
  ·rintro E r FS pre y l' T ⟨fn,tmps,D,rfl⟩ hT ⟨rfl,hp⟩ DB;have hAT:=hT _ Nj;have hxT:=hT _ jc;have ti:=y.isLt;have qr:=s.c_root k y.val Dc ti;have qs:=s.c_ser k y.val Dc ti;simp only[DU,Ae,Ag];refine gz ?_;refine CH (by exact DX) ?_;refine gz ?_;refine Cn [] 10 _ ?_ (hR:=(λ_ h=>h));refine pz ?_;have RM:s.hit PP (4*k+y.val)=(decide (s.root (4*k+y.val)≠0)&&PP (s.root (4*k+y.val)) (s.ser (4*k+y.val))):=rfl;by_cases hr:s.root (4*k+y.val)=0
   ·refine gz ?_;refine Cn [] 16 _ ?_ (hR:=(λ_ h=>h));refine pz ?_;refine gz ?_;refine Cg [(B,.cells #[.int .i64 (k:Nat)] 3 (0,0)),(b8,.cells #[.int .i64 (k:Nat)] 3 (0,0)),(b2,.cells #[.pointer (some ⟨b,0,none⟩)] 157 (0,0)),(b3,.cells #[.func (.func gf) #[] #[.pointer (some ⟨rb,0,none⟩)]] 265 (0,0)),(b4,.cells #[.int .i64 0,.int .i64 0,.int .i64 0] 360 (0,0)),(b6,.cells #[.int .i64 0,.int .i64 0,.int .i64 0] 360 (0,0)),(b7,.cells #[.bool false] 4 (0,0))] (by exact AU) ⟨rfl,?_⟩;intro j hj;rcases AH.1 hj with hj|hj
    ·exact hp j hj
    ·simp at hj;subst hj;rw[RM,Ax (by simp[hr])];rfl
   ·refine gz ?_;refine Cn [] 16 _ ?_ (hR:=(λ_ h=>h));refine pz ?_;apply XX
    ·exact FI (fs:=[]) rfl rfl (λl hl=>hg _ _ l (hl _ (by exact BW)))
    all_goals try rfl
    refine pz ?_;refine gz ?_;refine j8 rfl (λhP=>?_) (λhP=>?_)
    ·refine gz ?_;refine E2 [(b4,.cells #[.int .i64 0,.int .i64 0,.int .i64 0] 360 (0,0)),(b6,.cells #[.int .i64 ((4*k+y.val:Nat):Int),.int .i64 (k:Nat),.int .i64 (y.val:Nat)] 360 (0,0)),(b7,.cells #[.bool true] 4 (0,0))] (by exact AU) ⟨rfl,pre,y,rfl,hp,by rw[RM,hP,Av hr];rfl,rfl⟩
    ·refine gz ?_;refine Cg [(B,.cells #[.int .i64 (k:Nat)] 3 (0,0)),(b8,.cells #[.int .i64 (k:Nat)] 3 (0,0)),(b2,.cells #[.pointer (some ⟨b,0,none⟩)] 157 (0,0)),(b3,.cells #[.func (.func gf) #[] #[.pointer (some ⟨rb,0,none⟩)]] 265 (0,0)),(b4,.cells #[.int .i64 0,.int .i64 0,.int .i64 0] 360 (0,0)),(b6,.cells #[.int .i64 0,.int .i64 0,.int .i64 0] 360 (0,0)),(b7,.cells #[.bool false] 4 (0,0))] (by exact AU) ⟨rfl,?_⟩;intro j hj;rcases AH.1 hj with hj|hj
     ·exact hp j hj
     ·simp at hj;subst hj;rw[RM,hP,I7]
  ·rintro D xs l' rfl ⟨rfl,hp⟩;refine gz ?_;refine vT (k+1,D::Ds) ⟨by simp;omega,?_⟩ (by simp;omega) ⟨rfl,rfl,rfl,rfl,rfl,rfl,trivial⟩ rfl (by exact AU);intro n h;simp only at h;by_cases h4:n<4*k
   ·exact hn n h4
   ·obtain⟨j,hj,rfl⟩: ∃j,j<4/\n=4*k+j:=⟨n-4*k,Af,Af⟩
    by_cases h0:4*k+j=0
    ·simp[h0]
    ·have:=hp ⟨j,hj⟩ ((Tv k ⟨j,hj⟩).2 h0);simp only at this;rw[this,I7]
  ·rintro D c pre l' DB ⟨rfl,GW,i,rfl,jB,hi,rfl⟩;have hi4:=i.isLt;obtain⟨hi0,hbef⟩:=Ym k GW i DB;have hf:KX s PP=some (4*k+i.val):=by
    refine LB _ _ _ Af (by rw[hi];simp;omega) ((Qe _ _).2 λn h=>?_);by_cases h4:n<4*k
    ·exact hn n h4
    ·obtain⟨j,hj,rfl⟩: ∃j,j<4/\n=4*k+j:=⟨n-4*k,Af,Af⟩
     by_cases h0:4*k+j=0
     ·simp[h0]
     ·have:=jB ⟨j,hj⟩ (hbef ⟨j,hj⟩ (by simp only;omega) h0);simp only at this;rw[this,I7]
   simp only[Ae,Ag];refine gz ?_;refine Cn [2] 4 ([(b6,.cells #[.int .i64 ((4*k+i.val:Nat):Int),.int .i64 (k:Nat),.int .i64 (i.val:Nat)] 360 (0,0)),(b7,.cells #[.bool true] 4 (0,0))]) ?_;refine pz ?_;refine gz ?_;refine AV (D::Ds) ((b4,.cells #[.int .i64 ((4*k+i.val:Nat):Int),.int .i64 (k:Nat),.int .i64 (i.val:Nat)] 360 (0,0))::l) rfl (l':=l) (by(apply Keep.mid;exact AU)) (by exact Ba) (by exact AU) ⟨?_,rfl⟩;rw[hf];simp only[Jv,kQ,Iw];rw[show(4*k+i.val)/4=k by omega,show(4*k+i.val)%4=i.val by omega]
 ·obtain rfl:k=8:=by omega
  have hf:KX s PP=none:=(Qe _ _).2 λn h=>hn n Af;refine gz ?_;refine Cn [2] 4 ([(b6,.cells #[.int .i64 0,.int .i64 0,.int .i64 0] 360 (0,0)),(b7,.cells #[.bool false] 4 (0,0))]) ?_;refine pz ?_;refine gz ?_;refine AV Ds ((b4,.cells #[.int .i64 0,.int .i64 0,.int .i64 0] 360 (0,0))::l) rfl (l':=l) (by(apply Keep.mid;exact AU)) (by exact Ba) (by exact AU) ⟨?_,rfl⟩;rw[hf];rfl
open Go.RowKit
set_option maxRecDepth 20000
theorem OQ(b rb gf:Nat)[EN prog gf](s:ASt)(x:Int)(PP:Int->Int->Bool)(n:Nat)(hf:KX s PP=some n)(l:Ad)(hA:asA b s∈l)(hx:(rb,Obj.cells #[.int .i64 x] 3 (0,0))∈l)
 (hg: ∀(r q:Int) l,(rb,Obj.cells #[.int .i64 x] 3 (0,0))∈l->Fn prog gf [.int .i64 r,.int .i64 q,.pointer (some ⟨rb,0,none⟩)] l λv l'=>v= .bool (PP r q)/\l'=l):
 Fn prog 192 [.pointer (some ⟨b,0,none⟩),.func (.func gf) #[] #[.pointer (some ⟨rb,0,none⟩)]] l λv l'=>v= .tuple #[.agg #[.int .i64 (n:Nat),.int .i64 ((n/4:Nat):Int),.int .i64 ((n%4:Nat):Int)],.bool true]/\l'=l:=by
 have:=Yn b rb gf s x PP l hA hx hg;rw[hf] at this;exact this
theorem OR(b rb gf:Nat)[EN prog gf](s:ASt)(x:Int)(PP:Int->Int->Bool)(hf:KX s PP=none)(l:Ad)(hA:asA b s∈l)(hx:(rb,Obj.cells #[.int .i64 x] 3 (0,0))∈l)
 (hg: ∀(r q:Int) l,(rb,Obj.cells #[.int .i64 x] 3 (0,0))∈l->Fn prog gf [.int .i64 r,.int .i64 q,.pointer (some ⟨rb,0,none⟩)] l λv l'=>v= .bool (PP r q)/\l'=l):
 Fn prog 192 [.pointer (some ⟨b,0,none⟩),.func (.func gf) #[] #[.pointer (some ⟨rb,0,none⟩)]] l λv l'=>v= .tuple #[.agg #[.int .i64 0,.int .i64 0,.int .i64 0],.bool false]/\l'=l:=by
 have:=Yn b rb gf s x PP l hA hx hg;rw[hf] at this;exact this
def IB(x:Int):Int->Int->Bool:=λr _=>decide (r=x)
def Yo(x:Int):Int->Int->Bool:=λ_ q=>decide (q=x)
theorem kR(rb:Nat)(x r q:Int)(l:Ad)(hx:(rb,Obj.cells #[.int .i64 x] 3 (0,0))∈l):Fn prog 193 [.int .i64 r,.int .i64 q,.pointer (some ⟨rb,0,none⟩)] l λv l'=>v= .bool (IB x r q)/\l'=l:=by refine AO func193 ntmps193 λE=>?_;exact E4
theorem kS(rb:Nat)(x r q:Int)(l:Ad)(hx:(rb,Obj.cells #[.int .i64 x] 3 (0,0))∈l):Fn prog 230 [.int .i64 r,.int .i64 q,.pointer (some ⟨rb,0,none⟩)] l λv l'=>v= .bool (IB x r q)/\l'=l:=by refine AO func230 ntmps230 λE=>?_;exact E4
theorem Tw(s:ASt)(PP:Int->Int->Bool)(n:Nat)(h:KX s PP=some n):n<32/\n≠0/\s.root n≠0/\PP (s.root n) (s.ser n)=true:=by obtain⟨h1,h2,_⟩:=Qf _ _ _ h;simp[ASt.hit] at h2;exact⟨h1,h2.1,h2.2.1,h2.2.2⟩
def ofP(s:ASt)(r:Int):Int×Int×Bool:=match KX s (IB r) with|some n=>((n:Int),s.ser n,true)|none=>(0,0,false)
def rootP(s:ASt)(q:Int):Int×Int×Bool:=match KX s (Yo q) with|some n=>(s.root n,(n:Int),true)|none=>(0,0,false)
theorem of_any(b:Nat)(s:ASt)(r:Int)(l:Ad)(hA:asA b s∈l):Fn prog 166 [.pointer (some ⟨b,0,none⟩),.int .i64 r] l λv l'=>v= .tuple #[.int .i64 (ofP s r).1,.int .i64 (ofP s r).2.1,.bool (ofP s r).2.2]/\l'=l:=by
 refine AO func166 ntmps166 λE=>?_;refine Ih λrb=>?_;cases hf:KX s (IB r) with
 |none=>refine Be (AL rfl rfl (λl hl=>OR b rb _ s r (IB r) hf l (hl _ (by exact BW)) (hl _ (by exact BW)) (λr' q l h=>kS rb r r' q l h))) ?_;refine Ih λb7=>?_;exact AV [] l rfl (l':=l) (by exact AU) (by exact Ba) .refl ⟨by simp[Jv,ofP,hf],rfl⟩
 |some n=>have Dc:=(Tw s _ n hf).1;have qs:=s.c_ser (n/4) (n%4) Af Af;rw[show 4*(n/4)+n%4=n by omega] at qs;refine Be (AL rfl rfl (λl hl=>OQ b rb _ s r (IB r) n hf l (hl _ (by exact BW)) (hl _ (by exact BW)) (λr' q l h=>kS rb r r' q l h))) ?_;refine Ih λb7=>?_;refine Cn [] 16 _ ?_ (hR:=(λ_ h=>h));refine pz ?_;refine gz ?_;exact AV [] l rfl (l':=l) (by exact AU) (by exact Ba) .refl ⟨by simp[Jv,ofP,hf],rfl⟩
open Go.RowKit
set_option maxRecDepth 20000
theorem ASt.s_obj(s:ASt)(p:Nat)(hp:p<8)(v:Int):s.cells.setIfInBounds (p*10) (.int .i64 v)=({s with obj:=upd s.obj p v}:ASt).cells:=by
 refine OP _ _ _ _ Af ?_ λj hj G5=>?_
 ·unfold ASt.at;rw[Ac Af,Ac Af,show p*10/10=p by omega];exact BO _ (DK _ _ _)
 ·unfold ASt.at;simp only;by_cases h0:j%10=0
  ·rw[Ac h0,Ac h0];by_cases h8:j<80
   ·rw[Ac h8,Ac h8,Dk _ _ _ _ Af]
   ·rw[Ab h8,Ab h8]
  ·rw[Ab h0,Ab h0]
theorem ASt.s_root(s:ASt)(p i:Nat)(hp:p<8)(hi:i<4)(v:Int):s.cells.setIfInBounds (p*10+2+i*1) (.int .i64 v)=({s with root:=upd s.root (4*p+i) v}:ASt).cells:=by
 refine OP _ _ _ _ Af ?_ λj hj G5=>?_
 ·unfold ASt.at;rw[Ac Af,Ab Af,Ab Af,Ac Af,show 4*((p*10+2+i*1)/10)+((p*10+2+i*1)%10-2)=4*p+i by omega];exact BO _ (DK _ _ _)
 ·unfold ASt.at;simp only;by_cases h8:j<80
  ·rw[Ac h8,Ac h8];by_cases h0:j%10=0
   ·rw[Ac h0,Ac h0]
   ·rw[Ab h0,Ab h0];by_cases h1:j%10=1
    ·rw[Ac h1,Ac h1]
    ·rw[Ab h1,Ab h1];by_cases h6:j%10<6
     ·rw[Ac h6,Ac h6,Dk _ _ _ _ Af]
     ·rw[Ab h6,Ab h6]
  ·rw[Ab h8,Ab h8]
theorem ASt.s_ser(s:ASt)(p i:Nat)(hp:p<8)(hi:i<4)(v:Int):s.cells.setIfInBounds (p*10+6+i*1) (.int .i64 v)=({s with ser:=upd s.ser (4*p+i) v}:ASt).cells:=by
 refine OP _ _ _ _ Af ?_ λj hj G5=>?_
 ·unfold ASt.at;rw[Ac Af,Ab Af,Ab Af,Ab Af,show 4*((p*10+6+i*1)/10)+((p*10+6+i*1)%10-6)=4*p+i by omega];exact BO _ (DK _ _ _)
 ·unfold ASt.at;simp only;by_cases h8:j<80
  ·rw[Ac h8,Ac h8];by_cases h0:j%10=0
   ·rw[Ac h0,Ac h0]
   ·rw[Ab h0,Ab h0];by_cases h1:j%10=1
    ·rw[Ac h1,Ac h1]
    ·rw[Ab h1,Ab h1];by_cases h6:j%10<6
     ·rw[Ac h6,Ac h6]
     ·rw[Ab h6,Ab h6,Dk _ _ _ _ Af]
  ·rw[Ab h8,Ab h8]
theorem ASt.s_given(s:ASt)(n:Nat)(hn:n<32)(v:Int):s.cells.setIfInBounds (80+n*1) (.int .i64 v)=({s with given:=upd s.given n v}:ASt).cells:=by
 refine OP _ _ _ _ Af ?_ λj hj G5=>?_
 ·unfold ASt.at;rw[Ab Af,show 80+n*1-80=n by omega];exact BO _ (DK _ _ _)
 ·unfold ASt.at;simp only;by_cases h8:j<80
  ·rw[Ac h8,Ac h8]
  ·rw[Ab h8,Ab h8,Dk _ _ _ _ Af]
theorem Rt(vs:Ap): ∀(cs:Array Value) (off j:Nat),off+vs.length<=cs.size->(C8 cs off vs)[j]?=if off<=j/\j<off+vs.length then vs[j-off]? else cs[j]?:=by
 induction vs with
 |nil=>intro cs off j h;rw[Ab (by simp only[Ff];omega)];rfl
 |cons v vs ih=>
  intro cs off j h;simp only[BC] at h;rw[C8,ih _ _ _ (by simp;omega)];by_cases h1:off=j
  ·subst h1;rw[Ab Af,Ac (by simp),DR,He Af];rfl
  ·by_cases h2:off+1<=j/\j<off+1+vs.length
   ·rw[Ac h2,Ac (by simp;omega),show j-off=(j-(off+1))+1 by omega];rfl
   ·rw[Ab h2,Ab (by simp only[BC];omega),Gl h1]
def ASt.drop(s:ASt)(p:Nat):ASt:={s with obj:=upd s.obj p 0,dead:=upd s.dead p true,root:=λn=>if n/4=p then 0 else s.root n,ser:=λn=>if n/4=p then 0 else s.ser n}
theorem ASt.s_drop(s:ASt)(p:Nat)(hp:p<8):C8 s.cells (p*10) [.int .i64 0,.bool true,.int .i64 0,.int .i64 0,.int .i64 0,.int .i64 0,.int .i64 0,.int .i64 0,.int .i64 0,.int .i64 0]=(s.drop p).cells:=by
 apply DH;intro j;rw[Rt _ _ _ _ (by rw[s.cells_size];simp;omega)];by_cases hj:j<112
 ·rw[(s.drop p).cells_get j hj,s.cells_get j hj];simp only[BC,Ff];by_cases NO:p*10<=j/\j<p*10+10
  ·rw[Ac Af];obtain⟨i,hi,rfl⟩: ∃i,i<10/\j=p*10+i:=⟨j-p*10,Af,Af⟩
   rw[show p*10+i-p*10=i by omega];unfold ASt.at ASt.drop;simp only;have yk:p*10+i<80:=by omega
   have hd:(p*10+i)/10=p:=by omega
   have hm:(p*10+i)%10=i:=by omega
   rw[Ac yk,hd,hm]
   match i,hi with
   |0,_=>simp[upd]
   |1,_=>simp[upd]
   |2,_=>simp
   |3,_=>simp;omega
   |4,_=>simp;omega
   |5,_=>simp;omega
   |6,_=>simp
   |7,_=>simp;omega
   |8,_=>simp;omega
   |9,_=>simp;omega
  ·rw[Ab Af];congr 1;unfold ASt.at ASt.drop;simp only;by_cases yk:j<80
   ·rw[Ac yk,Ac yk];have hq:j/10≠p:=by omega
    rw[Dk _ _ _ _ hq,Dk _ _ _ _ hq];by_cases h0:j%10=0
    ·rw[Ac h0,Ac h0]
    ·rw[Ab h0,Ab h0];by_cases h1:j%10=1
     ·rw[Ac h1,Ac h1]
     ·rw[Ab h1,Ab h1];by_cases h6:j%10<6
      ·rw[Ac h6,Ac h6,Ab Af]
      ·rw[Ab h6,Ab h6,Ab Af]
   ·rw[Ab yk,Ab yk]
 ·rw[Ab (by simp;omega),Fj (by rw[s.cells_size];omega),Fj (by rw[(s.drop p).cells_size];omega)]
def ASt.zero:ASt:=⟨λ_=>0,λ_=>false,λ_=>0,λ_=>0,λ_=>0⟩
theorem al:ASt.zero.cells=List.toArray [.int .i64 0,.bool false,.int .i64 0,.int .i64 0,.int .i64 0,.int .i64 0,.int .i64 0,.int .i64 0,.int .i64 0,.int .i64 0,.int .i64 0,.bool false,.int .i64 0,.int .i64 0,.int .i64 0,.int .i64 0,.int .i64 0,.int .i64 0,.int .i64 0,.int .i64 0,.int .i64 0,.bool false,.int .i64 0,.int .i64 0,.int .i64 0,.int .i64 0,.int .i64 0,.int .i64 0,.int .i64 0,.int .i64 0,.int .i64 0,.bool false,.int .i64 0,.int .i64 0,.int .i64 0,.int .i64 0,.int .i64 0,.int .i64 0,.int .i64 0,.int .i64 0,.int .i64 0,.bool false,.int .i64 0,.int .i64 0,.int .i64 0,.int .i64 0,.int .i64 0,.int .i64 0,.int .i64 0,.int .i64 0,.int .i64 0,.bool false,.int .i64 0,.int .i64 0,.int .i64 0,.int .i64 0,.int .i64 0,.int .i64 0,.int .i64 0,.int .i64 0,.int .i64 0,.bool false,.int .i64 0,.int .i64 0,.int .i64 0,.int .i64 0,.int .i64 0,.int .i64 0,.int .i64 0,.int .i64 0,.int .i64 0,.bool false,.int .i64 0,.int .i64 0,.int .i64 0,.int .i64 0,.int .i64 0,.int .i64 0,.int .i64 0,.int .i64 0,.int .i64 0,.int .i64 0,.int .i64 0,.int .i64 0,.int .i64 0,.int .i64 0,.int .i64 0,.int .i64 0,.int .i64 0,.int .i64 0,.int .i64 0,.int .i64 0,.int .i64 0,.int .i64 0,.int .i64 0,.int .i64 0,.int .i64 0,.int .i64 0,.int .i64 0,.int .i64 0,.int .i64 0,.int .i64 0,.int .i64 0,.int .i64 0,.int .i64 0,.int .i64 0,.int .i64 0,.int .i64 0,.int .i64 0,.int .i64 0,.int .i64 0,.int .i64 0]:=BB
theorem new_any(l:Ad):Fn prog 130 [] l λv l'=> ∃b,(∀c,c∈l->c.1≠b)/\v= .pointer (some ⟨b,0,none⟩)/\l'=asA b ASt.zero::l:=by refine AO func130 ntmps130 λE=>?_;refine gz ?_;refine AR (C4 rfl) ?_;rintro _ _ ⟨b,hb,rfl,rfl⟩;refine gz ?_;exact BD [] rfl .refl (by exact Ba) ⟨b,hb,rfl,by rw[asA,al]⟩
def addP(s:ASt)(o:Int):Int×Int×ASt:=
 if o<1 then(0,2,s) else if(atO s o).isSome then(0,16,s) else
 match ED (λp=>s.obj p==0&&!s.dead p) 8 with
 |some p=>((p:Int),0,{s with obj:=upd s.obj p o})
 |none=>(0,11,s)
theorem OS(b:Nat)(s:ASt)(o i:Int)(h:Wy s o=i)(l:Ad)(hm:asA b s∈l):
 Fn prog 191 [.pointer (some ⟨b,0,none⟩),.int .i64 o] l λv l'=>v= .int .i64 i/\l'=l:=by rw[<-h];exact JI b s o l hm
theorem addPool_any(b:Nat)(s:ASt)(o:Int)(F:Ad):
 Fn prog 147 [.pointer (some ⟨b,0,none⟩),.int .i64 o] (asA b s::F) λv l'=>v= .tuple #[.int .i64 (addP s o).1,.int .i64 (addP s o).2.1]/\l'=asA b (addP s o).2.2::F:=by
 refine AO func147 ntmps147 λE=>?_;refine gz ?_;refine qj rfl (λho=>?_) (λho=>?_)
 ·refine gz ?_;exact BD [] rfl .refl (by exact Ba) ⟨by simp[Jv,addP,ho],by simp[addP,ho]⟩
 ·refine gz ?_;cases hq:atO s o with
  |some q=>refine Be (AL rfl rfl (λl hl=>OS b s o q (by simp[Wy,hq]) l (hl _ (by exact BW)))) ?_;refine gz ?_;exact BD [] rfl .refl (by exact Ba) ⟨by simp[Jv,addP,ho,hq],by simp[addP,ho,hq]⟩
  |none=>
   refine Be (AL rfl rfl (λl hl=>OS b s o (-1) (by simp[Wy,hq]) l (hl _ (by exact BW)))) ?_;refine gz ?_;refine CF (α:=Nat) (λk=>[(0,.pointer (some ⟨b,0,none⟩)),(1,.int .i64 o),(18,.int .i64 k)]) (λk=>asA b s::F) (λk=>k<=8/\ED (λp=>s.obj p==0&&!s.dead p) k=none) (λk=>8-k) 0 ⟨Af,rfl⟩ ⟨rfl,rfl,rfl,trivial⟩ .refl ?_;rintro k ⟨hk,hf⟩;by_cases Dc:k<8
   ·have hc:=s.c_obj k Dc;have hd:=s.c_dead k Dc;by_cases hz:s.obj k=0
    ·cases hdd:s.dead k with
     |true=>rw[hdd] at hd;refine gz ?_;exact BR (k+1) ⟨Af,by rw[HT,hf];simp[hz,hdd]⟩ Af ⟨rfl,rfl,rfl,trivial⟩ .refl
     |false=>rw[hdd] at hd;refine gz ?_;refine ME (Du (cs:=s.cells) rfl rfl rfl (by exact DX) (by rw[s.cells_size];omega)) rfl rfl ?_;rintro _ _ ⟨rfl,rfl⟩;rw[s.s_obj k Dc];refine gz ?_;have hft:=LB (λp=>s.obj p==0&&!s.dead p) 8 k Dc (by simp[hz,hdd]) hf;exact BD [] rfl .refl (by exact Ba) ⟨by simp[Jv,addP,ho,hq,hft],by simp[addP,ho,hq,hft]⟩
    ·refine gz ?_;exact BR (k+1) ⟨Af,by rw[HT,hf];simp[hz]⟩ Af ⟨rfl,rfl,rfl,trivial⟩ .refl
   ·obtain rfl:k=8:=by omega
    refine gz ?_;exact BD [] rfl .refl (by exact Ba) ⟨by simp[Jv,addP,ho,hq,hf],by simp[addP,ho,hq,hf]⟩
def ASt.give0(s:ASt)(n:Nat):ASt:={s with root:=upd s.root n 0,ser:=upd s.ser n 0}
def unP(s:ASt)(r:Int):Int×Int×ASt:=match KX s (IB r) with|some n=>((n:Int),0,s.give0 n)|none=>(0,15,s)
open Go.RowKit
set_option maxRecDepth 20000
def Yp(s:ASt)(n:Nat):Int:=(n:Int)+32*s.given n
def Qg(s:ASt)(p:Nat)(i:Fin 4):Bool:=s.root (4*p+i.val)==0&&decide (Yp s (4*p+i.val)<=16777215)
def ASt.give(s:ASt)(n:Nat)(r:Int):ASt:={s with root:=upd s.root n r,ser:=upd s.ser n (Yp s n),given:=upd s.given n (s.given n+1)}
def assignP(s:ASt)(o r:Int):Int×Int×Int×ASt:=
 match atO s o with
 |none=>(0,0,2,s)
 |some p=>if r<1 then(0,0,2,s) else if(KX s (IB r)).isSome then(0,0,13,s) else
  match(RU p).find? (Qg s p) with
  |some i=>((4*p+i.val:Nat),Yp s (4*p+i.val),0,s.give (4*p+i.val) r)
  |none=>(0,0,11,s)
theorem Oc{α:Type}(f:α->Bool)(pre l:List α)(i:α)(h:pre++[i]<+:l)(hp: ∀j∈pre,f j=false)(hi:f i=true):l.find? f=some i:=by obtain⟨A0,rfl⟩:=h;rw[Am,Eh,Br.2 (λj hj=>by simp[hp j hj])];simp[hi]
theorem kT(s:ASt)(o:Int)(p:Nat)(h:atO s o=some p):p<8:=by
 unfold atO at h
 split at h
 ·cases h
 ·exact(Qf _ _ _ h).1
theorem assign_any(b:Nat)(s:ASt)(o r:Int)(F:Ad)(hg: ∀n,n<32->0<=s.given n/\s.given n<=600000):
 Fn prog 148 [.pointer (some ⟨b,0,none⟩),.int .i64 o,.int .i64 r] (asA b s::F) λv l'=>v= .tuple #[.int .i64 (assignP s o r).1,.int .i64 (assignP s o r).2.1,.int .i64 (assignP s o r).2.2.1]/\l'=asA b (assignP s o r).2.2.2::F:=by
 refine AO func148 ntmps148 λE=>?_;refine Ih λb3=>?_;refine Ih λb5=>?_;refine Ih λb6=>?_;refine Ih λb7=>?_;refine Ih λb8=>?_;cases hq:atO s o with
 |none=>refine Be (AL rfl rfl (λl hl=>OS b s o (-1) (by simp[Wy,hq]) l (hl _ (by exact BW)))) ?_;refine Ih λb9=>?_;exact AV [] ((b6,.cells #[.int .i64 0] 3 (0,0))::(b7,.cells #[.int .i64 0] 3 (0,0))::(b8,.cells #[.int .i64 2] 29 (0,0))::asA b s::F) rfl (l':=asA b s::F) (by exact AU) (by exact Ba) (by exact AU) ⟨by simp[Jv,assignP,hq],by simp[assignP,hq]⟩
 |some p=>
  have hp:=kT s o p hq;refine Be (AL rfl rfl (λl hl=>OS b s o p (by simp[Wy,hq]) l (hl _ (by exact BW)))) ?_;refine Ih λb9=>?_;refine qj rfl (λhr=>?_) (λhr=>?_)
  ·refine gz ?_;exact AV [] ((b6,.cells #[.int .i64 0] 3 (0,0))::(b7,.cells #[.int .i64 0] 3 (0,0))::(b8,.cells #[.int .i64 2] 29 (0,0))::asA b s::F) rfl (l':=asA b s::F) (by exact AU) (by exact Ba) (by exact AU) ⟨by simp[Jv,assignP,hq,hr],by simp[assignP,hq,hr]⟩
  ·refine gz ?_;cases hf:KX s (IB r) with
   |some n=>refine Be (AL rfl rfl (λl hl=>OQ b b5 _ s r (IB r) n hf l (hl _ (by exact BW)) (hl _ (by exact BW)) (λr' q l h=>kR b5 r r' q l h))) ?_;refine Ih λGX=>?_;exact AV [] ((b6,.cells #[.int .i64 0] 3 (0,0))::(b7,.cells #[.int .i64 0] 3 (0,0))::(b8,.cells #[.int .i64 13] 29 (0,0))::asA b s::F) rfl (l':=asA b s::F) (by exact AU) (by exact Ba) (by exact AU) ⟨by simp[Jv,assignP,hq,hr,hf],by simp[assignP,hq,hr,hf]⟩
   |none=>
    refine Be (AL rfl rfl (λl hl=>OR b b5 _ s r (IB r) hf l (hl _ (by exact BW)) (hl _ (by exact BW)) (λr' q l h=>kR b5 r r' q l h))) ?_;refine Ih λGX=>?_;refine AR (AA rfl rfl (Od p _)) ?_;rintro v l' ⟨B,hB,rfl,rfl⟩;refine gz ?_;refine Df (α:=Fin 4) (ps:=[37,38]) (lb:=[.pointer (some ⟨B,0,none⟩)]) rfl (LW B p hp) (λ_=>rfl) rfl
     (λpre l=>l=[(B,.cells #[.int .i64 (p:Nat)] 3 (0,0)),(b9,.cells #[.int .i64 (p:Nat)] 3 (0,0)),(b3,.cells #[.pointer (some ⟨b,0,none⟩)] 157 (0,0)),(b5,.cells #[.int .i64 r] 3 (0,0)),(b6,.cells #[.int .i64 0] 3 (0,0)),(b7,.cells #[.int .i64 0] 3 (0,0)),(b8,.cells #[.int .i64 0] 29 (0,0)),asA b s]/\ ∀j∈pre,Qg s p j=false)
     (λc pre l=>c= .ret/\ ∃(GW:List (Fin 4)) (i:Fin 4),pre=GW++[i]/\(∀j∈GW,Qg s p j=false)/\Qg s p i=true/\l=[(b6,.cells #[.int .i64 ((4*p+i.val:Nat):Int)] 3 (0,0)),(b7,.cells #[.int .i64 (Yp s (4*p+i.val))] 3 (0,0)),(b8,.cells #[.int .i64 0] 29 (0,0)),asA b (s.give (4*p+i.val) r)])
     _ F (λpre l X _ h=>by rw[h.1];exact List.Mem.head _) (by exact AU) ⟨rfl,by simp⟩ ?_ ?_ ?_
    ·rintro E r0 FS pre y l' T ⟨fn,tmps,D,rfl⟩ hT ⟨rfl,Gg⟩ DB;have ti:=y.isLt;have hgn:=hg (4*p+y.val) Af;have qr:=s.c_root p y.val hp ti;have qg:=s.c_given (4*p+y.val) Af;simp only[DU,Ae,Ag];refine gz ?_;refine CH (by exact DX) ?_;refine gz ?_;have RM:Qg s p y=(s.root (4*p+y.val)==0&&decide (Yp s (4*p+y.val)<=16777215)):=rfl;have hso:Yp s (4*p+y.val)=((4*p+y.val:Nat):Int)+32*s.given (4*p+y.val):=rfl;have I8:Qg s p y=false-> ∀j∈pre++[y],Qg s p j=false:=by
      intro h j hj;rcases AH.1 hj with hj|hj
      ·exact Gg j hj
      ·simp at hj;subst hj;exact h
     rw[<-hso];obtain⟨q,hqe⟩: ∃q,Yp s (4*p+y.val)=q:=⟨_,rfl⟩
     have e1:=s.s_given (4*p+y.val) Af (s.given (4*p+y.val)+1);obtain⟨s1,R8⟩: ∃s1:ASt,{s with given:=upd s.given (4*p+y.val) (s.given (4*p+y.val)+1)}=s1:=⟨_,rfl⟩
     rw[R8] at e1;have e2:=s1.s_root p y.val hp ti r;obtain⟨s2,NM⟩: ∃s2:ASt,{s1 with root:=upd s1.root (4*p+y.val) r}=s2:=⟨_,rfl⟩
     rw[NM] at e2;have e3:=s2.s_ser p y.val hp ti q;obtain⟨s3,Ro⟩: ∃s3:ASt,{s2 with ser:=upd s2.ser (4*p+y.val) q}=s3:=⟨_,rfl⟩
     rw[Ro] at e3;have Ro:s3=s.give (4*p+y.val) r:=by rw[<-Ro,<-NM,<-R8,<-hqe];rfl
     rw[hqe] at RM hso⊢;by_cases cK:s.root (4*p+y.val)=0
     ·refine Cn [] 14 _ ?_ (hR:=(λ_ h=>h));refine pz ?_;by_cases MJ:16777215<q
      ·refine gz ?_;refine Cg [(B,.cells #[.int .i64 (p:Nat)] 3 (0,0)),(b9,.cells #[.int .i64 (p:Nat)] 3 (0,0)),(b3,.cells #[.pointer (some ⟨b,0,none⟩)] 157 (0,0)),(b5,.cells #[.int .i64 r] 3 (0,0)),(b6,.cells #[.int .i64 0] 3 (0,0)),(b7,.cells #[.int .i64 0] 3 (0,0)),(b8,.cells #[.int .i64 0] 29 (0,0)),asA b s] (by exact AU) ⟨rfl,I8 (by rw[RM];simp[cK];omega)⟩
      ·refine gz ?_;refine LV [(0,true),(1,true),(2,true),(3,true),(4,true),(7,true),(8,true),(5,false),(6,true),(9,true),(10,false)] [[],[],[0],[0,2],[0,1,2,3],[0,1,2,3,4],[0,1,2,3,4,5],[0],[0,7],[0,1,2,3,4,5,6,7,8],[0,1,2,3,4,5,6,7,8,9]] ([(B,.cells #[.int .i64 (p:Nat)] 3 (0,0)),(b9,.cells #[.int .i64 (p:Nat)] 3 (0,0)),(b3,.cells #[.pointer (some ⟨b,0,none⟩)] 157 (0,0)),(b5,.cells #[.int .i64 r] 3 (0,0))]) BB BB GZ UM ?_;refine pz ?_;apply NZ
       ·exact Du (cs:=s.cells) rfl rfl rfl (by exact DX) (by rw[ASt.cells_size];omega)
       ·rfl
       ·rfl
       ·rintro _ _ ⟨rfl,rfl⟩;exact(Ce (by exact Mq))
       rintro _ _ ⟨rfl,rfl⟩;rw[e1];refine pz ?_;refine gz ?_;refine LV [(0,true),(1,true),(2,true),(3,true),(4,true),(5,true),(6,true),(7,true),(8,true),(9,true),(10,true),(11,true),(12,true),(14,true),(15,true),(16,true),(17,true),(13,false),(18,true),(19,false)] [[],[],[],[],[],[],[],[],[0],[0,8],[0,1,8,9],[0,1,8,9,10],[0,1,2,6,8,9,10,11],[0,1,2,6,8,9,10,11,12],[3],[3,14],[3,4,14,15],[3,4,14,15,16],[0,1,2,3,4,5,6,7,8,9,10,11,12,13,14,15,16,17],[0,1,2,3,4,5,6,7,8,9,10,11,12,13,14,15,16,17,18]] ([(B,.cells #[.int .i64 (p:Nat)] 3 (0,0)),(b9,.cells #[.int .i64 (p:Nat)] 3 (0,0)),(b3,.cells #[.pointer (some ⟨b,0,none⟩)] 157 (0,0)),(b5,.cells #[.int .i64 r] 3 (0,0))]) BB BB GZ UM ?_;refine pz ?_;apply NZ
       ·exact Du (cs:=s1.cells) rfl rfl rfl (by exact DX) (by rw[ASt.cells_size];omega)
       ·rfl
       ·rfl
       ·rintro _ _ ⟨rfl,rfl⟩;exact(Ce (by exact Mq))
       rintro _ _ ⟨rfl,rfl⟩;rw[e2];refine pz ?_;apply NZ
       ·exact Du (cs:=s2.cells) rfl rfl rfl (by exact DX) (by rw[ASt.cells_size];omega)
       ·rfl
       ·rfl
       ·rintro _ _ ⟨rfl,rfl⟩;exact(Ce (by exact Mq))
       rintro _ _ ⟨rfl,rfl⟩;rw[e3];refine pz ?_;refine gz ?_;refine EC [(b6,.cells #[.int .i64 ((4*p+y.val:Nat):Int)] 3 (0,0)),(b7,.cells #[.int .i64 q] 3 (0,0)),(b8,.cells #[.int .i64 0] 29 (0,0)),asA b s3] (by exact AU) ⟨rfl,pre,y,rfl,Gg,by rw[RM];simp[cK];omega,?_⟩;rw[Ro,hqe]
     ·refine Cn [] 14 _ ?_ (hR:=(λ_ h=>h));refine pz ?_;refine gz ?_;refine Cg [(B,.cells #[.int .i64 (p:Nat)] 3 (0,0)),(b9,.cells #[.int .i64 (p:Nat)] 3 (0,0)),(b3,.cells #[.pointer (some ⟨b,0,none⟩)] 157 (0,0)),(b5,.cells #[.int .i64 r] 3 (0,0)),(b6,.cells #[.int .i64 0] 3 (0,0)),(b7,.cells #[.int .i64 0] 3 (0,0)),(b8,.cells #[.int .i64 0] 29 (0,0)),asA b s] (by exact AU) ⟨rfl,I8 (by rw[RM];simp[cK])⟩
    ·rintro D xs l' rfl ⟨rfl,Gg⟩;have I8:(RU p).find? (Qg s p)=none:=Br.2 λj hj=>by simp[Gg j hj]
     simp only[Ae,Ag];refine gz ?_;exact AV [D] ((b6,.cells #[.int .i64 0] 3 (0,0))::(b7,.cells #[.int .i64 0] 3 (0,0))::(b8,.cells #[.int .i64 11] 29 (0,0))::asA b s::F) rfl (l':=asA b s::F) (by exact AU) (by exact Ba) (by exact AU) ⟨by simp[Jv,assignP,hq,hr,hf,I8],by simp[assignP,hq,hr,hf,I8]⟩
    ·rintro D c pre l' DB ⟨rfl,GW,i,rfl,jB,hi,rfl⟩;have ZH:=Oc (Qg s p) GW _ i DB jB hi;simp only[Ae,Ag];refine gz ?_;exact AV [D] ((b6,.cells #[.int .i64 ((4*p+i.val:Nat):Int)] 3 (0,0))::(b7,.cells #[.int .i64 (Yp s (4*p+i.val))] 3 (0,0))::(b8,.cells #[.int .i64 0] 29 (0,0))::asA b (s.give (4*p+i.val) r)::F) rfl (l':=asA b (s.give (4*p+i.val) r)::F) (by exact AU) (by exact Ba) (by exact AU) ⟨by simp[Jv,assignP,hq,hr,hf,ZH],by simp[assignP,hq,hr,hf,ZH]⟩
end As
end Go.Proofs.YtlifcingifodfaaGreat
