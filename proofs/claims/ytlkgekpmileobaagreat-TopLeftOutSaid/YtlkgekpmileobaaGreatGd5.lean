/- Laws that the statement's proof leans on (joined out of several texts). -/
import Derived.Test.YtlkgekpmileobaaGreatGd4
import Derived.Shelf.SortM.Plain
import Derived.Shelf.SortM.SortNone
set_option maxHeartbeats 4000000
set_option linter.unusedVariables false
set_option linter.unusedSimpArgs false
namespace Go.Proofs.YtlkgekpmileobaaGreat
open Tryz
open List(toArray replicate)
variable{es:List KB}{clock k n b v m N:Nat}{a:Int}{lq R:List Ab}{α:Type}{P:Program}{ro:Option Nat}{ty t2:TypeId}{pos:String}{g:Option (Nat×Bool)}{y:Operand}
namespace As
open Go.RowKit
set_option maxRecDepth 20000
theorem ASt.s_obj(s:ASt)(p:Nat)(hp:p<8)(v:Int):s.cells.setIfInBounds (p*10) (.int .i64 v)=({s with obj:=upd s.obj p v}:ASt).cells:=by
 refine NN _ _ _ _ Af ?_ λj hj hne=>?_
 ·unfold ASt.at;rw[Ad Af,Ad Af,show p*10/10=p by omega];exact BN _ (Du _ _ _)
 ·unfold ASt.at;simp only;by_cases h0:j%10=0
  ·rw[Ad h0,Ad h0];by_cases h8:j<80
   ·rw[Ad h8,Ad h8,C7 _ _ _ _ Af]
   ·rw[Ac h8,Ac h8]
  ·rw[Ac h0,Ac h0]
theorem ASt.s_root(s:ASt)(p i:Nat)(hp:p<8)(hi:i<4)(v:Int):s.cells.setIfInBounds (p*10+2+i*1) (.int .i64 v)=({s with root:=upd s.root (4*p+i) v}:ASt).cells:=by
 refine NN _ _ _ _ Af ?_ λj hj hne=>?_
 ·unfold ASt.at;rw[Ad Af,Ac Af,Ac Af,Ad Af,show 4*((p*10+2+i*1)/10)+((p*10+2+i*1)%10-2)=4*p+i by omega];exact BN _ (Du _ _ _)
 ·unfold ASt.at;simp only;by_cases h8:j<80
  ·rw[Ad h8,Ad h8];by_cases h0:j%10=0
   ·rw[Ad h0,Ad h0]
   ·rw[Ac h0,Ac h0];by_cases h1:j%10=1
    ·rw[Ad h1,Ad h1]
    ·rw[Ac h1,Ac h1];by_cases h6:j%10<6
     ·rw[Ad h6,Ad h6,C7 _ _ _ _ Af]
     ·rw[Ac h6,Ac h6]
  ·rw[Ac h8,Ac h8]
theorem ASt.s_ser(s:ASt)(p i:Nat)(hp:p<8)(hi:i<4)(v:Int):s.cells.setIfInBounds (p*10+6+i*1) (.int .i64 v)=({s with ser:=upd s.ser (4*p+i) v}:ASt).cells:=by
 refine NN _ _ _ _ Af ?_ λj hj hne=>?_
 ·unfold ASt.at;rw[Ad Af,Ac Af,Ac Af,Ac Af,show 4*((p*10+6+i*1)/10)+((p*10+6+i*1)%10-6)=4*p+i by omega];exact BN _ (Du _ _ _)
 ·unfold ASt.at;simp only;by_cases h8:j<80
  ·rw[Ad h8,Ad h8];by_cases h0:j%10=0
   ·rw[Ad h0,Ad h0]
   ·rw[Ac h0,Ac h0];by_cases h1:j%10=1
    ·rw[Ad h1,Ad h1]
    ·rw[Ac h1,Ac h1];by_cases h6:j%10<6
     ·rw[Ad h6,Ad h6]
     ·rw[Ac h6,Ac h6,C7 _ _ _ _ Af]
  ·rw[Ac h8,Ac h8]
theorem ASt.s_given(s:ASt)(n:Nat)(hn:n<32)(v:Int):s.cells.setIfInBounds (80+n*1) (.int .i64 v)=({s with given:=upd s.given n v}:ASt).cells:=by
 refine NN _ _ _ _ Af ?_ λj hj hne=>?_
 ·unfold ASt.at;rw[Ac Af,show 80+n*1-80=n by omega];exact BN _ (Du _ _ _)
 ·unfold ASt.at;simp only;by_cases h8:j<80
  ·rw[Ad h8,Ad h8]
  ·rw[Ac h8,Ac h8,C7 _ _ _ _ Af]
theorem P8(vs:List Value): ∀(cs:Array Value) (off j:Nat),off+vs.length<=cs.size->(CV cs off vs)[j]?=if off<=j/\j<off+vs.length then vs[j-off]? else cs[j]?:=by
 induction vs with
 |nil=>intro cs off j h;rw[Ac (by simp only[ER];omega)];rfl
 |cons v vs ih=>
  intro cs off j h;simp only[Br] at h;rw[CV,ih _ _ _ (by simp;omega)];by_cases h1:off=j
  ·subst h1;rw[Ac Af,Ad (by simp),DD,GH Af];rfl
  ·by_cases h2:off+1<=j/\j<off+1+vs.length
   ·rw[Ad h2,Ad (by simp;omega),show j-off=(j-(off+1))+1 by omega];rfl
   ·rw[Ac h2,Ac (by simp only[Br];omega),FQ h1]
def ASt.drop(s:ASt)(p:Nat):ASt:={s with obj:=upd s.obj p 0,dead:=upd s.dead p true,root:=λn=>if n/4=p then 0 else s.root n,ser:=λn=>if n/4=p then 0 else s.ser n}
theorem ASt.s_drop(s:ASt)(p:Nat)(hp:p<8):CV s.cells (p*10) [.int .i64 0,.bool true,.int .i64 0,.int .i64 0,.int .i64 0,.int .i64 0,.int .i64 0,.int .i64 0,.int .i64 0,.int .i64 0]=(s.drop p).cells:=by
 apply Dq;intro j;rw[P8 _ _ _ _ (by rw[s.cells_size];simp;omega)];by_cases hj:j<112
 ·rw[(s.drop p).cells_get j hj,s.cells_get j hj];simp only[Br,ER];by_cases hin:p*10<=j/\j<p*10+10
  ·rw[Ad Af];obtain⟨i,hi,rfl⟩: ∃i,i<10/\j=p*10+i:=⟨j-p*10,Af,Af⟩
   rw[show p*10+i-p*10=i by omega];unfold ASt.at ASt.drop;simp only;have h80:p*10+i<80:=by omega
   have hd:(p*10+i)/10=p:=by omega
   have hm:(p*10+i)%10=i:=by omega
   rw[Ad h80,hd,hm]
   match i,hi with
   |0,_=>simp[upd]
   |1,_=>simp[upd]
   |2,_=>simp
   |3,_=>simp;omega
   |4,_=>simp;omega
   |5,_=>simp;omega
   |6,_=>simp
   |7,_=>simp;omega
   |8,_=>simp;omega
   |9,_=>simp;omega
  ·rw[Ac Af];congr 1;unfold ASt.at ASt.drop;simp only;by_cases h80:j<80
   ·rw[Ad h80,Ad h80];have hq:j/10≠p:=by omega
    rw[C7 _ _ _ _ hq,C7 _ _ _ _ hq];by_cases h0:j%10=0
    ·rw[Ad h0,Ad h0]
    ·rw[Ac h0,Ac h0];by_cases h1:j%10=1
     ·rw[Ad h1,Ad h1]
     ·rw[Ac h1,Ac h1];by_cases h6:j%10<6
      ·rw[Ad h6,Ad h6,Ac Af]
      ·rw[Ac h6,Ac h6,Ac Af]
   ·rw[Ac h80,Ac h80]
 ·rw[Ac (by simp;omega),EU (by rw[s.cells_size];omega),EU (by rw[(s.drop p).cells_size];omega)]
def ASt.zero:ASt:=⟨λ_=>0,λ_=>false,λ_=>0,λ_=>0,λ_=>0⟩
theorem Ye:ASt.zero.cells=toArray [.int .i64 0,.bool false,.int .i64 0,.int .i64 0,.int .i64 0,.int .i64 0,.int .i64 0,.int .i64 0,.int .i64 0,.int .i64 0,.int .i64 0,.bool false,.int .i64 0,.int .i64 0,.int .i64 0,.int .i64 0,.int .i64 0,.int .i64 0,.int .i64 0,.int .i64 0,.int .i64 0,.bool false,.int .i64 0,.int .i64 0,.int .i64 0,.int .i64 0,.int .i64 0,.int .i64 0,.int .i64 0,.int .i64 0,.int .i64 0,.bool false,.int .i64 0,.int .i64 0,.int .i64 0,.int .i64 0,.int .i64 0,.int .i64 0,.int .i64 0,.int .i64 0,.int .i64 0,.bool false,.int .i64 0,.int .i64 0,.int .i64 0,.int .i64 0,.int .i64 0,.int .i64 0,.int .i64 0,.int .i64 0,.int .i64 0,.bool false,.int .i64 0,.int .i64 0,.int .i64 0,.int .i64 0,.int .i64 0,.int .i64 0,.int .i64 0,.int .i64 0,.int .i64 0,.bool false,.int .i64 0,.int .i64 0,.int .i64 0,.int .i64 0,.int .i64 0,.int .i64 0,.int .i64 0,.int .i64 0,.int .i64 0,.bool false,.int .i64 0,.int .i64 0,.int .i64 0,.int .i64 0,.int .i64 0,.int .i64 0,.int .i64 0,.int .i64 0,.int .i64 0,.int .i64 0,.int .i64 0,.int .i64 0,.int .i64 0,.int .i64 0,.int .i64 0,.int .i64 0,.int .i64 0,.int .i64 0,.int .i64 0,.int .i64 0,.int .i64 0,.int .i64 0,.int .i64 0,.int .i64 0,.int .i64 0,.int .i64 0,.int .i64 0,.int .i64 0,.int .i64 0,.int .i64 0,.int .i64 0,.int .i64 0,.int .i64 0,.int .i64 0,.int .i64 0,.int .i64 0,.int .i64 0,.int .i64 0,.int .i64 0,.int .i64 0]:=Bs
theorem new_any(l:List Ab):Fn prog 131 [] l λv l'=> ∃b,(∀c,c∈l->c.1≠b)/\v= .pointer (some ⟨b,0,none⟩)/\l'=asA b ASt.zero::l:=by refine AM func131 ntmps131 λE=>?_;refine gz ?_;refine AP (CK rfl) ?_;rintro _ _ ⟨b,hb,rfl,rfl⟩;refine gz ?_;exact BA [] rfl .refl (by exact A8) ⟨b,hb,rfl,by rw[asA,Ye]⟩
def addP(s:ASt)(o:Int):Int×Int×ASt:=
 if o<1 then(0,2,s) else if(atO s o).isSome then(0,16,s) else
 match Eh (λp=>s.obj p==0&&!s.dead p) 8 with
 |some p=>((p:Int),0,{s with obj:=upd s.obj p o})
 |none=>(0,11,s)
theorem NQ(b:Nat)(s:ASt)(o i:Int)(h:UP s o=i)(l:List Ab)(hm:asA b s∈l):
 Fn prog 192 [.pointer (some ⟨b,0,none⟩),.int .i64 o] l λv l'=>v= .int .i64 i/\l'=l:=by rw[<-h];exact Jc b s o l hm
theorem addPool_any(b:Nat)(s:ASt)(o:Int)(F:List Ab):
 Fn prog 148 [.pointer (some ⟨b,0,none⟩),.int .i64 o] (asA b s::F) λv l'=>v= .tuple #[.int .i64 (addP s o).1,.int .i64 (addP s o).2.1]/\l'=asA b (addP s o).2.2::F:=by
 refine AM func148 ntmps148 λE=>?_;refine gz ?_;refine lK rfl (λho=>?_) (λho=>?_)
 ·refine gz ?_;exact BA [] rfl .refl (by exact A8) ⟨by simp[Iw,addP,ho],by simp[addP,ho]⟩
 ·refine gz ?_;cases hq:atO s o with
  |some q=>refine Bb (AJ rfl rfl (λl hl=>NQ b s o q (by simp[UP,hq]) l (hl _ (by exact BS)))) ?_;refine gz ?_;exact BA [] rfl .refl (by exact A8) ⟨by simp[Iw,addP,ho,hq],by simp[addP,ho,hq]⟩
  |none=>
   refine Bb (AJ rfl rfl (λl hl=>NQ b s o (-1) (by simp[UP,hq]) l (hl _ (by exact BS)))) ?_;refine gz ?_;refine CE (α:=Nat) (λk=>[(0,.pointer (some ⟨b,0,none⟩)),(1,.int .i64 o),(18,.int .i64 k)]) (λk=>asA b s::F) (λk=>k<=8/\Eh (λp=>s.obj p==0&&!s.dead p) k=none) (λk=>8-k) 0 ⟨Af,rfl⟩ ⟨rfl,rfl,rfl,trivial⟩ .refl ?_;rintro k ⟨hk,hf⟩;by_cases hlt:k<8
   ·have hc:=s.c_obj k hlt;have hd:=s.c_dead k hlt;by_cases hz:s.obj k=0
    ·cases hdd:s.dead k with
     |true=>rw[hdd] at hd;refine gz ?_;exact BV (k+1) ⟨Af,by rw[Ho,hf];simp[hz,hdd]⟩ Af ⟨rfl,rfl,rfl,trivial⟩ .refl
     |false=>rw[hdd] at hd;refine gz ?_;refine Mu (Dg (cs:=s.cells) rfl rfl rfl (by exact DI) (by rw[s.cells_size];omega)) rfl rfl ?_;rintro _ _ ⟨rfl,rfl⟩;rw[s.s_obj k hlt];refine gz ?_;have hft:=KV (λp=>s.obj p==0&&!s.dead p) 8 k hlt (by simp[hz,hdd]) hf;exact BA [] rfl .refl (by exact A8) ⟨by simp[Iw,addP,ho,hq,hft],by simp[addP,ho,hq,hft]⟩
    ·refine gz ?_;exact BV (k+1) ⟨Af,by rw[Ho,hf];simp[hz]⟩ Af ⟨rfl,rfl,rfl,trivial⟩ .refl
   ·obtain rfl:k=8:=by omega
    refine gz ?_;exact BA [] rfl .refl (by exact A8) ⟨by simp[Iw,addP,ho,hq,hf],by simp[addP,ho,hq,hf]⟩
def ASt.give0(s:ASt)(n:Nat):ASt:={s with root:=upd s.root n 0,ser:=upd s.ser n 0}
def unP(s:ASt)(r:Int):Int×Int×ASt:=match Kk s (Id r) with|some n=>((n:Int),0,s.give0 n)|none=>(0,15,s)
open Go.RowKit
set_option maxRecDepth 20000
def Wm(s:ASt)(n:Nat):Int:=(n:Int)+32*s.given n
def Pb(s:ASt)(p:Nat)(i:Fin 4):Bool:=s.root (4*p+i.val)==0&&decide (Wm s (4*p+i.val)<=16777215)
def ASt.give(s:ASt)(n:Nat)(r:Int):ASt:={s with root:=upd s.root n r,ser:=upd s.ser n (Wm s n),given:=upd s.given n (s.given n+1)}
def assignP(s:ASt)(o r:Int):Int×Int×Int×ASt:=
 match atO s o with
 |none=>(0,0,2,s)
 |some p=>if r<1 then(0,0,2,s) else if(Kk s (Id r)).isSome then(0,0,13,s) else
  match(Qn p).find? (Pb s p) with
  |some i=>((4*p+i.val:Nat),Wm s (4*p+i.val),0,s.give (4*p+i.val) r)
  |none=>(0,0,11,s)
theorem Ng{α:Type}(f:α->Bool)(pre l:List α)(i:α)(h:pre++[i]<+:l)(hp: ∀j∈pre,f j=false)(hi:f i=true):l.find? f=some i:=by obtain⟨rest,rfl⟩:=h;rw[Am,Dm,By.2 (λj hj=>by simp[hp j hj])];simp[hi]
theorem gE(s:ASt)(o:Int)(p:Nat)(h:atO s o=some p):p<8:=by
 unfold atO at h
 split at h
 ·cases h
 ·exact(Pa _ _ _ h).1
theorem assign_any(b:Nat)(s:ASt)(o r:Int)(F:List Ab)(hg: ∀n,n<32->0<=s.given n/\s.given n<=600000):
 Fn prog 149 [.pointer (some ⟨b,0,none⟩),.int .i64 o,.int .i64 r] (asA b s::F) λv l'=>v= .tuple #[.int .i64 (assignP s o r).1,.int .i64 (assignP s o r).2.1,.int .i64 (assignP s o r).2.2.1]/\l'=asA b (assignP s o r).2.2.2::F:=by
 refine AM func149 ntmps149 λE=>?_;refine HC λb3=>?_;refine HC λb5=>?_;refine HC λb6=>?_;refine HC λb7=>?_;refine HC λb8=>?_;cases hq:atO s o with
 |none=>refine Bb (AJ rfl rfl (λl hl=>NQ b s o (-1) (by simp[UP,hq]) l (hl _ (by exact BS)))) ?_;refine HC λb9=>?_;exact AW [] ((b6,.cells #[.int .i64 0] 3 (0,0))::(b7,.cells #[.int .i64 0] 3 (0,0))::(b8,.cells #[.int .i64 2] 29 (0,0))::asA b s::F) rfl (l':=asA b s::F) (by exact AS) (by exact A8) (by exact AS) ⟨by simp[Iw,assignP,hq],by simp[assignP,hq]⟩
 |some p=>
  have hp:=gE s o p hq;refine Bb (AJ rfl rfl (λl hl=>NQ b s o p (by simp[UP,hq]) l (hl _ (by exact BS)))) ?_;refine HC λb9=>?_;refine lK rfl (λhr=>?_) (λhr=>?_)
  ·refine gz ?_;exact AW [] ((b6,.cells #[.int .i64 0] 3 (0,0))::(b7,.cells #[.int .i64 0] 3 (0,0))::(b8,.cells #[.int .i64 2] 29 (0,0))::asA b s::F) rfl (l':=asA b s::F) (by exact AS) (by exact A8) (by exact AS) ⟨by simp[Iw,assignP,hq,hr],by simp[assignP,hq,hr]⟩
  ·refine gz ?_;cases hf:Kk s (Id r) with
   |some n=>refine Bb (AJ rfl rfl (λl hl=>NO b b5 _ s r (Id r) n hf l (hl _ (by exact BS)) (hl _ (by exact BS)) (λr' q l h=>gC b5 r r' q l h))) ?_;refine HC λb10=>?_;exact AW [] ((b6,.cells #[.int .i64 0] 3 (0,0))::(b7,.cells #[.int .i64 0] 3 (0,0))::(b8,.cells #[.int .i64 13] 29 (0,0))::asA b s::F) rfl (l':=asA b s::F) (by exact AS) (by exact A8) (by exact AS) ⟨by simp[Iw,assignP,hq,hr,hf],by simp[assignP,hq,hr,hf]⟩
   |none=>
    refine Bb (AJ rfl rfl (λl hl=>NP b b5 _ s r (Id r) hf l (hl _ (by exact BS)) (hl _ (by exact BS)) (λr' q l h=>gC b5 r r' q l h))) ?_;refine HC λb10=>?_;refine AP (Az rfl rfl (Nh p _)) ?_;rintro v l' ⟨B,hB,rfl,rfl⟩;refine gz ?_;refine C0 (α:=Fin 4) (ps:=[37,38]) (lb:=[.pointer (some ⟨B,0,none⟩)]) rfl (Le B p hp) (λ_=>rfl) rfl
     (λpre l=>l=[(B,.cells #[.int .i64 (p:Nat)] 3 (0,0)),(b9,.cells #[.int .i64 (p:Nat)] 3 (0,0)),(b3,.cells #[.pointer (some ⟨b,0,none⟩)] 158 (0,0)),(b5,.cells #[.int .i64 r] 3 (0,0)),(b6,.cells #[.int .i64 0] 3 (0,0)),(b7,.cells #[.int .i64 0] 3 (0,0)),(b8,.cells #[.int .i64 0] 29 (0,0)),asA b s]/\ ∀j∈pre,Pb s p j=false)
     (λc pre l=>c= .ret/\ ∃(pre':List (Fin 4)) (i:Fin 4),pre=pre'++[i]/\(∀j∈pre',Pb s p j=false)/\Pb s p i=true/\l=[(b6,.cells #[.int .i64 ((4*p+i.val:Nat):Int)] 3 (0,0)),(b7,.cells #[.int .i64 (Wm s (4*p+i.val))] 3 (0,0)),(b8,.cells #[.int .i64 0] 29 (0,0)),asA b (s.give (4*p+i.val) r)])
     _ F (λpre l X _ h=>by rw[h.1];exact List.Mem.head _) (by exact AS) ⟨rfl,by simp⟩ ?_ ?_ ?_
    ·rintro E r0 rec pre y l' T ⟨fn,tmps,D,rfl⟩ hT ⟨rfl,hpre⟩ hsp;have hy4:=y.isLt;have hgn:=hg (4*p+y.val) Af;have qr:=s.c_root p y.val hp hy4;have qg:=s.c_given (4*p+y.val) Af;simp only[DG,Ae,Ag];refine gz ?_;refine Cy (by exact DI) ?_;refine gz ?_;have hsel:Pb s p y=(s.root (4*p+y.val)==0&&decide (Wm s (4*p+y.val)<=16777215)):=rfl;have hso:Wm s (4*p+y.val)=((4*p+y.val:Nat):Int)+32*s.given (4*p+y.val):=rfl;have hno:Pb s p y=false-> ∀j∈pre++[y],Pb s p j=false:=by
      intro h j hj;rcases AE.1 hj with hj|hj
      ·exact hpre j hj
      ·simp at hj;subst hj;exact h
     rw[<-hso];obtain⟨q,hqe⟩: ∃q,Wm s (4*p+y.val)=q:=⟨_,rfl⟩
     have e1:=s.s_given (4*p+y.val) Af (s.given (4*p+y.val)+1);obtain⟨s1,hs1⟩: ∃s1:ASt,{s with given:=upd s.given (4*p+y.val) (s.given (4*p+y.val)+1)}=s1:=⟨_,rfl⟩
     rw[hs1] at e1;have e2:=s1.s_root p y.val hp hy4 r;obtain⟨s2,hs2⟩: ∃s2:ASt,{s1 with root:=upd s1.root (4*p+y.val) r}=s2:=⟨_,rfl⟩
     rw[hs2] at e2;have e3:=s2.s_ser p y.val hp hy4 q;obtain⟨s3,hs3⟩: ∃s3:ASt,{s2 with ser:=upd s2.ser (4*p+y.val) q}=s3:=⟨_,rfl⟩
     rw[hs3] at e3;have hs3:s3=s.give (4*p+y.val) r:=by rw[<-hs3,<-hs2,<-hs1,<-hqe];rfl
     rw[hqe] at hsel hso⊢;by_cases hr0:s.root (4*p+y.val)=0
     ·refine Ch [] 14 _ ?_ (hR:=(λ_ h=>h));refine pz ?_;by_cases hq0:16777215<q
      ·refine gz ?_;refine B0 [(B,.cells #[.int .i64 (p:Nat)] 3 (0,0)),(b9,.cells #[.int .i64 (p:Nat)] 3 (0,0)),(b3,.cells #[.pointer (some ⟨b,0,none⟩)] 158 (0,0)),(b5,.cells #[.int .i64 r] 3 (0,0)),(b6,.cells #[.int .i64 0] 3 (0,0)),(b7,.cells #[.int .i64 0] 3 (0,0)),(b8,.cells #[.int .i64 0] 29 (0,0)),asA b s] (by exact AS) ⟨rfl,hno (by rw[hsel];simp[hr0];omega)⟩
      ·refine gz ?_;refine Ld [(0,true),(1,true),(2,true),(3,true),(4,true),(7,true),(8,true),(5,false),(6,true),(9,true),(10,false)] [[],[],[0],[0,2],[0,1,2,3],[0,1,2,3,4],[0,1,2,3,4,5],[0],[0,7],[0,1,2,3,4,5,6,7,8],[0,1,2,3,4,5,6,7,8,9]] ([(B,.cells #[.int .i64 (p:Nat)] 3 (0,0)),(b9,.cells #[.int .i64 (p:Nat)] 3 (0,0)),(b3,.cells #[.pointer (some ⟨b,0,none⟩)] 158 (0,0)),(b5,.cells #[.int .i64 r] 3 (0,0))]) Bs Bs Gt SY ?_;refine pz ?_;apply M2
       ·exact Dg (cs:=s.cells) rfl rfl rfl (by exact DI) (by rw[ASt.cells_size];omega)
       ·rfl
       ·rfl
       ·rintro _ _ ⟨rfl,rfl⟩;exact(BZ (by exact Ly))
       rintro _ _ ⟨rfl,rfl⟩;rw[e1];refine pz ?_;refine gz ?_;refine Ld [(0,true),(1,true),(2,true),(3,true),(4,true),(5,true),(6,true),(7,true),(8,true),(9,true),(10,true),(11,true),(12,true),(14,true),(15,true),(16,true),(17,true),(13,false),(18,true),(19,false)] [[],[],[],[],[],[],[],[],[0],[0,8],[0,1,8,9],[0,1,8,9,10],[0,1,2,6,8,9,10,11],[0,1,2,6,8,9,10,11,12],[3],[3,14],[3,4,14,15],[3,4,14,15,16],[0,1,2,3,4,5,6,7,8,9,10,11,12,13,14,15,16,17],[0,1,2,3,4,5,6,7,8,9,10,11,12,13,14,15,16,17,18]] ([(B,.cells #[.int .i64 (p:Nat)] 3 (0,0)),(b9,.cells #[.int .i64 (p:Nat)] 3 (0,0)),(b3,.cells #[.pointer (some ⟨b,0,none⟩)] 158 (0,0)),(b5,.cells #[.int .i64 r] 3 (0,0))]) Bs Bs Gt SY ?_;refine pz ?_;apply M2
       ·exact Dg (cs:=s1.cells) rfl rfl rfl (by exact DI) (by rw[ASt.cells_size];omega)
       ·rfl
       ·rfl
       ·rintro _ _ ⟨rfl,rfl⟩;exact(BZ (by exact Ly))
       rintro _ _ ⟨rfl,rfl⟩;rw[e2];refine pz ?_;apply M2
       ·exact Dg (cs:=s2.cells) rfl rfl rfl (by exact DI) (by rw[ASt.cells_size];omega)
       ·rfl
       ·rfl
       ·rintro _ _ ⟨rfl,rfl⟩;exact(BZ (by exact Ly))
       rintro _ _ ⟨rfl,rfl⟩;rw[e3];refine pz ?_;refine gz ?_;refine Eg [(b6,.cells #[.int .i64 ((4*p+y.val:Nat):Int)] 3 (0,0)),(b7,.cells #[.int .i64 q] 3 (0,0)),(b8,.cells #[.int .i64 0] 29 (0,0)),asA b s3] (by exact AS) ⟨rfl,pre,y,rfl,hpre,by rw[hsel];simp[hr0];omega,?_⟩;rw[hs3,hqe]
     ·refine Ch [] 14 _ ?_ (hR:=(λ_ h=>h));refine pz ?_;refine gz ?_;refine B0 [(B,.cells #[.int .i64 (p:Nat)] 3 (0,0)),(b9,.cells #[.int .i64 (p:Nat)] 3 (0,0)),(b3,.cells #[.pointer (some ⟨b,0,none⟩)] 158 (0,0)),(b5,.cells #[.int .i64 r] 3 (0,0)),(b6,.cells #[.int .i64 0] 3 (0,0)),(b7,.cells #[.int .i64 0] 3 (0,0)),(b8,.cells #[.int .i64 0] 29 (0,0)),asA b s] (by exact AS) ⟨rfl,hno (by rw[hsel];simp[hr0])⟩
    ·rintro D xs l' rfl ⟨rfl,hpre⟩;have hno:(Qn p).find? (Pb s p)=none:=By.2 λj hj=>by simp[hpre j hj]
     simp only[Ae,Ag];refine gz ?_;exact AW [D] ((b6,.cells #[.int .i64 0] 3 (0,0))::(b7,.cells #[.int .i64 0] 3 (0,0))::(b8,.cells #[.int .i64 11] 29 (0,0))::asA b s::F) rfl (l':=asA b s::F) (by exact AS) (by exact A8) (by exact AS) ⟨by simp[Iw,assignP,hq,hr,hf,hno],by simp[assignP,hq,hr,hf,hno]⟩
    ·rintro D c pre l' hsp ⟨rfl,pre',i,rfl,hp',hi,rfl⟩;have hfd:=Ng (Pb s p) pre' _ i hsp hp' hi;simp only[Ae,Ag];refine gz ?_;exact AW [D] ((b6,.cells #[.int .i64 ((4*p+i.val:Nat):Int)] 3 (0,0))::(b7,.cells #[.int .i64 (Wm s (4*p+i.val))] 3 (0,0))::(b8,.cells #[.int .i64 0] 29 (0,0))::asA b (s.give (4*p+i.val) r)::F) rfl (l':=asA b (s.give (4*p+i.val) r)::F) (by exact AS) (by exact A8) (by exact AS) ⟨by simp[Iw,assignP,hq,hr,hf,hfd],by simp[assignP,hq,hr,hf,hfd]⟩
end As
open Go.RowKit
set_option maxRecDepth 20000
theorem Dl(x lo hi:Int)(l:List Ab):Fn prog 244 [.int .i64 x,.int .i64 lo,.int .i64 hi] l λv l'=>v= .bool (decide (lo<=x)&&decide (x<=hi))/\l'=l:=by
 refine AM func244 ntmps244 λE=>?_;by_cases h:lo<=x
 ·rw[At h,Bp];exact EA
 ·rw[Av h,Be];exact EA
theorem Yf(x:Int)(l:List Ab):Fn prog 246 [.int .i64 x] l λv l'=>v= .bool (decide (0<=x)&&decide (x<=7))/\l'=l:=by
 refine AM func246 ntmps246 λE=>?_;by_cases h:0<=x
 ·rw[At h,Bp];exact EA
 ·rw[Av h,Be];exact EA
def Gg(v k:Nat):List Nat:=(List.range k).filter λi=>v.testBit i
theorem RG(h:v.testBit k=true):Gg v (k+1)=Gg v k++[k]:=by unfold Gg;rw[Cu,Dr,List.filter_cons_of_pos h];rfl
theorem Wn(h:v.testBit k=false):Gg v (k+1)=Gg v k:=by unfold Gg;rw[Cu,Dr,Ih (by rw[h];simp)];simp
theorem RH(v k:Nat): ∀m,Gg v k<+:Gg v (k+m)
 |0=>Gl
 |m+1=>(RH v k m).trans (by
   show Gg v (k+m)<+:Gg v (k+m+1);cases h:v.testBit (k+m) with
   |true=>rw[RG h];exact Gc _ _
   |false=>rw[Wn h];exact Gl)
abbrev PL(B v:Nat):Ab:=(B,.cells #[.int .u64 (v:Nat)] 34 (0,0))
theorem gF(v:Nat)(l:List Ab):Fn prog 313 [.int .u64 (v:Nat)] l λr l'=> ∃B,r= .func (.func 358) #[] #[.pointer (some ⟨B,0,none⟩)]/\l'=PL B v::l:=by refine AM func313 ntmps313 λE=>?_;refine gz ?_;refine AP (Eb rfl rfl) ?_;rintro _ _ ⟨B,hB,rfl,rfl⟩;refine gz ?_;exact A9 .refl ⟨B,rfl,rfl⟩
theorem cx(B v:Nat)(hv:v<18446744073709551616):Fa prog 358 [.pointer (some ⟨B,0,none⟩)] (λi:Nat=>[.int .i64 i]) (λxs=>xs=Gg v 64) (λpre=>pre<+:Gg v 64)
 (λ_ l=>PL B v∈l):=by
 refine⟨λr I Ix G0 hneed hY l G hG h0=>?_⟩;refine AM func358 ntmps358 λE=>?_;refine gz ?_;refine CE (α:=Nat×List Ab) (λx=>[(0,.func (.yield r) #[] #[]),(1,.pointer (some ⟨B,0,none⟩)),(4,.int .i64 x.1)]) (λx=>x.2++G) (λx=>x.1<=64/\I (Gg v x.1) x.2) (λx=>64-x.1) (0,l) ⟨Bl _,h0⟩ ⟨rfl,rfl,rfl,trivial⟩ .refl ?_;rintro⟨k,l⟩ ⟨hk,hI⟩;simp only at hk hI⊢;have hm:=hneed _ _ G hG hI;by_cases hlt:k<64
 ·refine gz ?_;refine Bb (o6 (n:=k) rfl rfl (by show k<=64;omega)) ?_;have hsh:((v:Nat):Int)/2^k=((v/2^k:Nat):Int):=by norm_cast
  rw[hsh];refine Bb (o7 (b:=1) rfl rfl (D8 (Nat.div_le_self _ _) hv) Af) ?_;rw[Nat.and_one_is_mod];cases hb:v.testBit k with
  |true=>
   have hb2:v/2^k%2=1:=by rw[DF] at hb;simpa using hb
   have hp:Gg v k++[k]<+:Gg v 64:=by rw[<-RG hb];have:=RH v (k+1) (64-(k+1));rw[show k+1+(64-(k+1))=64 by omega] at this;exact this
   have hy:=hY (Gg v k) k l G hG hI hp;rw[hb2];refine gz ?_;refine Ia (CQ rfl rfl hy) rfl rfl rfl ?_;rintro w l' ⟨l1,rfl,⟨rfl,hI'⟩|⟨rfl,hx⟩⟩
   ·refine gz ?_;exact BV (k+1,l1) ⟨by simp only;omega,by simp only;rw[RG hb];exact hI'⟩ (by simp only;omega) ⟨rfl,rfl,rfl,trivial⟩ .refl
   ·refine gz ?_;exact A9 .refl ⟨l1,rfl,.inr ⟨_,hp,hx⟩⟩
  |false=>
   have hb2:v/2^k%2=0:=by rw[DF] at hb;simp at hb;omega
   rw[hb2];refine gz ?_;exact BV (k+1,l) ⟨by simp only;omega,by simp only;rw[Wn hb];exact hI⟩ (by simp only;omega) ⟨rfl,rfl,rfl,trivial⟩ .refl
 ·obtain rfl:k=64:=by omega
  refine gz ?_;exact A9 .refl ⟨l,rfl,.inl ⟨_,rfl,hI⟩⟩
def Kl(v:Nat)(n:Int):Bool:=(Gg v 64).all λj=>decide ((j:Int)<n)
abbrev bC(B:Nat)(x:Bool):Ab:=(B,.cells #[.bool x] 4 (0,0))
abbrev F6(B:Nat)(x:Int):Ab:=(B,.cells #[.int .i64 x] 3 (0,0))
theorem Pc(v:Nat)(hv:v<18446744073709551616)(n:Int)(l:List Ab):Fn prog 245 [.int .u64 (v:Nat),.int .i64 n] l λr l'=>r= .bool (Kl v n)/\l'=l:=by
 refine AM func245 ntmps245 λE=>?_;refine HC λb3=>?_;refine HC λb4=>?_;refine AP (Az rfl rfl (gF v _)) ?_;rintro _ _ ⟨B,rfl,rfl⟩;refine gz ?_;refine C0 (α:=Nat) (ps:=[8]) (lb:=[.pointer (some ⟨B,0,none⟩)]) rfl (cx B v hv) (λ_=>rfl) rfl
  (λpre l=>l=[PL B v,bC b4 false,F6 b3 n]/\ ∀j,j∈pre->(j:Int)<n)
  (λc pre l=>c= .ret/\(∃j,j∈pre/\¬(j:Int)<n)/\l=[bC b4 false])
  _ l (λpre l2 X2 hX h=>by rw[h.1];exact List.Mem.head _) (by exact AS) ⟨rfl,by simp⟩ ?_ ?_ ?_
 ·rintro E r0 rec pre y l' T ⟨fn,tmps,D,rfl⟩ hT ⟨rfl,hpre⟩ hsp;simp only[DG,Ae,Ag];refine gz ?_;refine Cy (by exact DI) ?_;by_cases hy:(y:Int)<n
  ·refine gz ?_;refine B0 _ .refl ⟨rfl,λj hj=>?_⟩;rcases AE.1 hj with hj|hj
   ·exact hpre j hj
   ·rw[Ax.1 hj];exact hy
  ·refine gz ?_;exact Eg [bC b4 false] (by exact AS) ⟨rfl,⟨y,by simp,hy⟩,rfl⟩
 ·rintro D xs l' rfl ⟨rfl,hpre⟩;have e:Kl v n=true:=by unfold Kl;exact AZ.2 λj hj=>by simpa using hpre j hj
  rw[e];simp only[Ae,Ag];refine gz ?_;exact AW [D] (bC b4 true::l) rfl (l':=l) (by exact AS) (by exact A8) (.drop .refl) ⟨rfl,rfl⟩
 ·rintro D c pre l' hsp ⟨rfl,⟨j,hj,hn⟩,rfl⟩;have e:Kl v n=false:=by
   cases h:Kl v n with
   |false=>rfl
   |true=>exact absurd (by simpa using AZ.1 h j (hsp.subset hj)) hn
  rw[e];simp only[Ae,Ag];refine gz ?_;exact AW [D] (bC b4 false::l) rfl (l':=l) (by exact AS) (by exact A8) (.drop .refl) ⟨rfl,rfl⟩
structure CapT where
 kind:Int
 obj:Int
 rights:Int
 badge:Int
 guard:Int
 bits:Int
 serial:Int
 page:Int
variable{c x:CapT}{C:List CapT}
abbrev BW(c:CapT):List Value:=[.int .i64 c.kind,.int .i64 c.obj,.int .i64 c.rights,.int .u64 c.badge,.int .i64 c.guard,.int .i64 c.bits,.int .i64 c.serial,.int .i64 c.page]
abbrev qq:List (Option IntKind):=[some .i64,some .i64,some .i64,some .u64,some .i64,some .i64,some .i64,some .i64]
theorem Ec(c:CapT):AllK qq (BW c):=⟨_,_,rfl,⟨_,rfl⟩,_,_,rfl,⟨_,rfl⟩,_,_,rfl,⟨_,rfl⟩,_,_,rfl,⟨_,rfl⟩,_,_,rfl,⟨_,rfl⟩,_,_,rfl,⟨_,rfl⟩,_,_,rfl,⟨_,rfl⟩,_,_,rfl,⟨_,rfl⟩,rfl⟩
theorem Wo: ∀x y,BW x=BW y->x=y:=λx y h=>by cases x;cases y;simp only[BW,Cc,Value.int.injEq,HF,IF] at h;simp only[CapT.mk.injEq];exact h
instance:EQ prog 74 qq:=⟨Bs⟩
abbrev Bq(B:Nat)(c:CapT):Ab:=(B,.cells (toArray (BW c)) 74 (0,0))
def Ln(a b:CapT):Bool:=BX (BW a) (BW b)
theorem UT{a b:CapT}:Ln a b=true<->a=b:=by unfold Ln;rw[F9 (Ec a) (Ec b)];exact⟨Wo a b,λh=>by rw[h]⟩
def Qo(x:Int):Nat:=(x%18446744073709551616).toNat
theorem mf(x:Int):Qo x<18446744073709551616:=by have h1:=Int.emod_nonneg x (b:=(18446744073709551616:Int)) Af;have h2:=Int.emod_lt_of_pos x (b:=(18446744073709551616:Int)) Af;unfold Qo;omega
theorem TT(x:Int):IntKind.u64.wrap x=((Qo x:Nat):Int):=by
 have h1:=Int.emod_nonneg x (b:=(18446744073709551616:Int)) Af;have:IntKind.u64.wrap x=x%18446744073709551616:=by simp[IntKind.wrap,IntKind.signed,IntKind.bits]
 rw[this];unfold Qo;omega
def Mw(x:Int):Bool:=decide (1<=x)&&decide (x<=65535)
abbrev Z0(c:CapT):CapT:=⟨c.kind,0,0,0,0,0,0,0⟩
abbrev Hv(c:CapT):CapT:=⟨c.kind,c.obj,0,0,0,0,0,0⟩
abbrev TU(c:CapT):CapT:=⟨c.kind,c.obj,0,0,c.guard,c.bits,0,0⟩
abbrev KX(c:CapT):CapT:=⟨c.kind,c.obj,c.rights,0,0,0,c.serial,c.page⟩
abbrev TV(c:CapT):CapT:=⟨c.kind,c.obj,c.rights,c.badge,0,0,0,0⟩
def Z1(c:CapT):Bool:=(decide (0<=c.bits)&&decide (c.bits<=12))&&(decide (0<=c.guard)&&Kl (Qo c.guard) c.bits)
def Mb(c:CapT):Bool:=(decide (1<=c.serial)&&decide (c.serial<=16777215))&&(decide (0<=c.page)&&decide (c.page<=511))
def Yg(c:CapT):Bool:=(decide (1<=c.rights)&&decide (c.rights<=3))&&(Mb c||(decide (c.serial=0)&&decide (c.page=0)))
def qt(c:CapT):Bool:=(decide (0<=c.rights)&&decide (c.rights<=7))&&decide (c.badge<=16777215)
def Fd(c:CapT):Bool:=
 if c.kind=0\/c.kind=7 then Ln c (Z0 c)
 else if c.kind=1\/c.kind=4\/c.kind=5\/c.kind=6\/c.kind=9 then Ln c (Hv c)&&Mw c.obj
 else if c.kind=2 then Z1 c&&(Ln c (TU c)&&Mw c.obj)
 else if c.kind=3 then Yg c&&(Ln c (KX c)&&Mw c.obj)
 else if c.kind=8 then qt c&&(Ln c (TV c)&&Mw c.obj)
 else false
set_option maxRecDepth 20000 in
theorem HL(c:CapT)(l:List Ab):Fn prog 186 [.agg (toArray (BW c))] l λv l'=>v= .bool (Fd c)/\l'=l:=by
 refine AM func186 ntmps186 λE=>?_;refine AO λb1=>?_;refine AP e_alloc ?_;rintro _ _ ⟨b3,_,rfl,rfl⟩;iterate 10 refine XY ?_
 by_cases h0:c.kind=0\/c.kind=7
 ·have e:Fd c=Ln c (Z0 c):=by unfold Fd;rw[Ad h0]
  rw[e];rcases h0 with h0|h0
  ·refine Aj ?_;refine Bb (FU (ys:=BW (Z0 c)) rfl rfl (Ec c) (Ec _)) ?_;exact EA
  ·refine Aj ?_;refine Bb (FU (ys:=BW (Z0 c)) rfl rfl (Ec c) (Ec _)) ?_;exact EA
 by_cases h1:c.kind=1\/c.kind=4\/c.kind=5\/c.kind=6\/c.kind=9
 ·have e:Fd c=(Ln c (Hv c)&&Mw c.obj):=by unfold Fd;rw[Ac h0,Ad h1]
  rw[e];unfold Mw;rcases h1 with h1|h1|h1|h1|h1
  ·refine Aj ?_;refine Bb (FU (ys:=BW (Hv c)) rfl rfl (Ec c) (Ec _)) ?_;rw[show BX (BW c) (BW (Hv c))=Ln c (Hv c) from rfl];cases he:Ln c (Hv c) with
   |false=>rw[Be];exact EA
   |true=>rw[Bp];refine Aj ?_;refine Mv (AJ rfl rfl λl2 _=>Dl c.obj 1 65535 l2) rfl rfl rfl ?_;exact EA
  ·refine Aj ?_;refine Bb (FU (ys:=BW (Hv c)) rfl rfl (Ec c) (Ec _)) ?_;rw[show BX (BW c) (BW (Hv c))=Ln c (Hv c) from rfl];cases he:Ln c (Hv c) with
   |false=>rw[Be];exact EA
   |true=>rw[Bp];refine Aj ?_;refine Mv (AJ rfl rfl λl2 _=>Dl c.obj 1 65535 l2) rfl rfl rfl ?_;exact EA
  ·refine Aj ?_;refine Bb (FU (ys:=BW (Hv c)) rfl rfl (Ec c) (Ec _)) ?_;rw[show BX (BW c) (BW (Hv c))=Ln c (Hv c) from rfl];cases he:Ln c (Hv c) with
   |false=>rw[Be];exact EA
   |true=>rw[Bp];refine Aj ?_;refine Mv (AJ rfl rfl λl2 _=>Dl c.obj 1 65535 l2) rfl rfl rfl ?_;exact EA
  ·refine Aj ?_;refine Bb (FU (ys:=BW (Hv c)) rfl rfl (Ec c) (Ec _)) ?_;rw[show BX (BW c) (BW (Hv c))=Ln c (Hv c) from rfl];cases he:Ln c (Hv c) with
   |false=>rw[Be];exact EA
   |true=>rw[Bp];refine Aj ?_;refine Mv (AJ rfl rfl λl2 _=>Dl c.obj 1 65535 l2) rfl rfl rfl ?_;exact EA
  ·refine Aj ?_;refine Bb (FU (ys:=BW (Hv c)) rfl rfl (Ec c) (Ec _)) ?_;rw[show BX (BW c) (BW (Hv c))=Ln c (Hv c) from rfl];cases he:Ln c (Hv c) with
   |false=>rw[Be];exact EA
   |true=>rw[Bp];refine Aj ?_;refine Mv (AJ rfl rfl λl2 _=>Dl c.obj 1 65535 l2) rfl rfl rfl ?_;exact EA
 by_cases h2:c.kind=2
 ·have e:Fd c=(Z1 c&&(Ln c (TU c)&&Mw c.obj)):=by unfold Fd;rw[Ac h0,Ac h1,Ad h2]
  rw[e];unfold Z1 Mw;refine Aj ?_;refine Ch [5,7] 8 ([Bq b1 c]) ?_;refine BM ?_;refine Aj ?_;refine Bb (AJ rfl rfl λl2 _=>Dl c.bits 0 12 l2) ?_;cases k1:(decide (0<=c.bits)&&decide (c.bits<=12)) with
  |false=>rw[Be,Be];exact EA
  |true=>
   rw[Bp];by_cases k2:0<=c.guard
   case neg=>rw[Av k2,Be,Be];exact EA
   rw[At k2,Bp];refine Aj ?_;refine Mv (OZ rfl) rfl rfl rfl ?_;rw[TT];refine Aj ?_;refine Mv (AJ rfl rfl λl2 _=>Pc (Qo c.guard) (mf _) c.bits l2) rfl rfl rfl ?_;cases k3:Kl (Qo c.guard) c.bits with
   |false=>rw[Be];exact EA
   |true=>
    rw[Bp];refine Aj ?_;refine Bb (FU (ys:=BW (TU c)) rfl rfl (Ec c) (Ec _)) ?_;rw[show BX (BW c) (BW (TU c))=Ln c (TU c) from rfl];cases he:Ln c (TU c) with
    |false=>rw[Be];exact EA
    |true=>rw[Bp];refine Aj ?_;refine Mv (AJ rfl rfl λl2 _=>Dl c.obj 1 65535 l2) rfl rfl rfl ?_;exact EA
 by_cases h3:c.kind=3
 ·have e:Fd c=(Yg c&&(Ln c (KX c)&&Mw c.obj)):=by unfold Fd;rw[Ac h0,Ac h1,Ac h2,Ad h3]
  rw[e];unfold Yg Mw;refine Aj ?_;refine Ch [7,9,11] 12 ([Bq b1 c]) ?_;refine BM ?_;refine Aj ?_;refine Bb (AJ rfl rfl λl2 _=>Dl c.serial 1 16777215 l2) ?_;cases k1:(decide (1<=c.serial)&&decide (c.serial<=16777215)) with
  |false=>
   have kp:Mb c=false:=by unfold Mb;rw[k1];rfl
   refine Aj ?_;refine Bb (AJ rfl rfl λl2 _=>Dl c.rights 1 3 l2) ?_;cases kr:(decide (1<=c.rights)&&decide (c.rights<=3)) with
   |false=>rw[Be,Be];exact EA
   |true=>
    rw[Bp];rw[kp,La];by_cases ks:c.serial=0
    case neg=>rw[Av ks,Be,Be];exact EA
    rw[At ks,Bp];by_cases kg:c.page=0
    case neg=>rw[Av kg,Be];exact EA
    rw[At kg,Bp];refine Aj ?_;refine Bb (FU (ys:=BW (KX c)) rfl rfl (Ec c) (Ec _)) ?_;rw[show BX (BW c) (BW (KX c))=Ln c (KX c) from rfl];cases he:Ln c (KX c) with
    |false=>rw[Be];exact EA
    |true=>rw[Bp];refine Aj ?_;refine Mv (AJ rfl rfl λl2 _=>Dl c.obj 1 65535 l2) rfl rfl rfl ?_;exact EA
  |true=>
   refine Aj ?_;refine Mv (AJ rfl rfl λl2 _=>Dl c.page 0 511 l2) rfl rfl rfl ?_;cases k2:(decide (0<=c.page)&&decide (c.page<=511)) with
   |false=>
    have kp:Mb c=false:=by unfold Mb;rw[k1,k2];rfl
    refine Aj ?_;refine Bb (AJ rfl rfl λl2 _=>Dl c.rights 1 3 l2) ?_;cases kr:(decide (1<=c.rights)&&decide (c.rights<=3)) with
    |false=>rw[Be,Be];exact EA
    |true=>
     rw[Bp];rw[kp,La];by_cases ks:c.serial=0
     case neg=>rw[Av ks,Be,Be];exact EA
     rw[At ks,Bp];by_cases kg:c.page=0
     case neg=>rw[Av kg,Be];exact EA
     rw[At kg,Bp];refine Aj ?_;refine Bb (FU (ys:=BW (KX c)) rfl rfl (Ec c) (Ec _)) ?_;rw[show BX (BW c) (BW (KX c))=Ln c (KX c) from rfl];cases he:Ln c (KX c) with
     |false=>rw[Be];exact EA
     |true=>rw[Bp];refine Aj ?_;refine Mv (AJ rfl rfl λl2 _=>Dl c.obj 1 65535 l2) rfl rfl rfl ?_;exact EA
   |true=>
    have kp:Mb c=true:=by unfold Mb;rw[k1,k2];rfl
    refine Aj ?_;refine Bb (AJ rfl rfl λl2 _=>Dl c.rights 1 3 l2) ?_;cases kr:(decide (1<=c.rights)&&decide (c.rights<=3)) with
    |false=>rw[Be,Be];exact EA
    |true=>
     rw[Bp];rw[kp,Bool.true_or,Bp];refine Aj ?_;refine Bb (FU (ys:=BW (KX c)) rfl rfl (Ec c) (Ec _)) ?_;rw[show BX (BW c) (BW (KX c))=Ln c (KX c) from rfl];cases he:Ln c (KX c) with
     |false=>rw[Be];exact EA
     |true=>rw[Bp];refine Aj ?_;refine Mv (AJ rfl rfl λl2 _=>Dl c.obj 1 65535 l2) rfl rfl rfl ?_;exact EA
 by_cases h8:c.kind=8
 ·have e:Fd c=(qt c&&(Ln c (TV c)&&Mw c.obj)):=by unfold Fd;rw[Ac h0,Ac h1,Ac h2,Ac h3,Ad h8]
  rw[e];unfold qt Mw;refine Aj ?_;refine Ch [5,7] 8 ([Bq b1 c]) ?_;refine BM ?_;refine Aj ?_;refine Bb (AJ rfl rfl λl2 _=>Yf c.rights l2) ?_;cases k1:(decide (0<=c.rights)&&decide (c.rights<=7)) with
  |false=>rw[Be,Be];exact EA
  |true=>
   rw[Bp];by_cases k2:c.badge<=16777215
   case neg=>rw[Av k2,Be];exact EA
   rw[At k2,Bp];refine Aj ?_;refine Bb (FU (ys:=BW (TV c)) rfl rfl (Ec c) (Ec _)) ?_;rw[show BX (BW c) (BW (TV c))=Ln c (TV c) from rfl];cases he:Ln c (TV c) with
   |false=>rw[Be];exact EA
   |true=>rw[Bp];refine Aj ?_;refine Mv (AJ rfl rfl λl2 _=>Dl c.obj 1 65535 l2) rfl rfl rfl ?_;exact EA
 have e:Fd c=false:=by unfold Fd;rw[Ac h0,Ac h1,Ac h2,Ac h3,Ac h8]
 rw[e];exact EA
theorem RI{j:Nat}:j∈Gg v k<->j<k/\v.testBit j=true:=by unfold Gg;rw[Ci,Er]
theorem Wp(hv:v<18446744073709551616)(hn:n<=64):Kl v n=decide (v<2^n):=by
 by_cases h:v<2^n
 ·rw[At h];unfold Kl;refine AZ.2 λj hj=>?_;obtain⟨h1,h2⟩:=RI.1 hj;refine At ?_;by_cases hjn:j<n
  ·omega
  ·exfalso;have h3:v<2^j:=Ea h (CN Af Af);rw[EW h3] at h2;cases h2
 ·rw[Av h];cases hf:Kl v n with
  |false=>rfl
  |true=>
   exfalso;refine h (Nat.lt_pow_two_of_testBit v λi hi=>?_);cases hb:v.testBit i with
   |false=>rfl
   |true=>
    exfalso;by_cases hi64:i<64
    ·have:=AZ.1 hf i (RI.2 ⟨hi64,hb⟩);simp at this;omega
    ·have h3:v<2^i:=Ea hv (by
      have:=CN (n:=2) Af (show 64<=i by omega);exact BP AX this)
     rw[EW h3] at hb;cases hb
structure IM(c:CapT):Prop where
 badge:0<=c.badge
 guard:c.guard<=9223372036854775807
def Ie(a b:CapT):Bool:=Fd a&&Fd b&&!decide (a.kind=0)&&decide (a.kind=b.kind)&&decide (a.obj=b.obj)
theorem JU(a:Int): ∀(es:List KB) (i:Nat),Gs a es i=Ez a es i
 |[],i=>rfl
 |e::es,i=>by unfold Gs Ez;rw[JU a es (i+1)]
theorem Jd(a:Int)(es:List KB):KC a es=Hl a es:=by unfold KC Hl;rw[JU]
theorem UU(a:Int)(v:Value)(clock:Nat)(es:List KB):M5 a v clock es=KE a v clock es:=by unfold M5 KE;rw[JU];rfl
theorem Yh(a:Int)(es:List KB):Ox a es=N9 a es:=by unfold Ox N9;rw[JU];rfl
theorem RJ:a∈es.map (·.1)<->(Hl a es).isSome=true:=by
 unfold Hl;cases h:Ez a es 0 with
 |none=>
  simp only[Dt,E8,Bi,iff_false];exact λhm=>by obtain⟨e,he,h2⟩:=Au.1 hm;exact Ib.1 h e he h2
 |some p=>obtain⟨A,e,B,rfl,_,h1,_⟩:=G1 (k:=p.1) (v:=p.2) h;simp[h1]
theorem E2{α:Type}(p:α->Bool): ∀(A B:List α),(A++B).find? p=(A.find? p).or (B.find? p)
 |[],B=>rfl
 |x::A,B=>by
  rw[Ae,BB,BB];cases p x with
  |true=>rfl
  |false=>exact E2 p A B
theorem Km{α:Type}{p q:α->Bool}: ∀{l:List α},(∀x,x∈l->p x=q x)->l.find? p=l.find? q
 |[],_=>rfl
 |x::l,h=>by rw[BB,BB,h x Ak,Km λy hy=>h y (An _ hy)]
section
variable{key:α->Int}{val:α->Value}
def DP(key:α->Int)(L:List α)(a:Int):Option α:=L.find? λt=>decide (key t=a)
structure MB(key:α->Int)(val:α->Value)(L:List α)(es:List KB)(clock:Nat):Prop where
 ok:KeysOk es clock
 get: ∀a,KC a es=(DP key L a).map val
 asc:L.Pairwise λx y=>key x<key y
theorem MB.zero:MB key val [] [] 0:=⟨⟨by simp,by simp,by simp⟩,λa=>rfl,by simp⟩
theorem ED{L:List α}{t:α}(h:DP key L a=some t):t∈L/\key t=a:=⟨Bz h,by simpa using DO h⟩
theorem FN{L:List α}:DP key L a=none<-> ∀t,t∈L->key t≠a:=by unfold DP;rw[By];simp
theorem MB.nd{L:List α}(h:MB key val L es clock):(L.map key).Nodup:=by refine(Cp.2 (h.asc.imp λhxy=>?_));omega
theorem MB.keys{L:List α}(h:MB key val L es clock):(es.map (·.1)).Perm (L.map key):=by
 refine(E9 h.ok.keys h.nd).2 λa=>?_;rw[RJ,<-Jd,h.get];cases hf:DP key L a with
 |none=>
  simp only[Dt,E8,Bi,false_iff];exact λhm=>by obtain⟨t,ht,h2⟩:=Au.1 hm;exact FN.1 hf t ht h2
 |some t=>obtain⟨h1,h2⟩:=ED hf;simp only[BL,HZ,true_iff];exact Au.2 ⟨t,h1,h2⟩
theorem MB.len{L:List α}(h:MB key val L es clock):es.length=L.length:=by simpa using h.keys.length_eq
theorem MB.at_{L:List α}(h:MB key val L es clock){t:α}(ht:t∈L):DP key L (key t)=some t:=by
 cases hf:DP key L (key t) with
 |none=>exact absurd rfl (FN.1 hf t ht)
 |some u=>obtain⟨h1,h2⟩:=ED hf;rw[Na h.nd h1 ht h2]
def LB(key:α->Int)(L:List α)(t:α):List α:=L.takeWhile (λx=>decide (key x<key t))++t::L.dropWhile λx=>decide (key x<key t)
theorem TX{L:List α}(hs:L.Pairwise λx y=>key x<key y)(hne: ∀x,x∈L->key x≠a): ∃W Z,L.takeWhile (λx=>decide (key x<a))=W/\L.dropWhile (λx=>decide (key x<a))=Z/\L=W++Z/\(∀x,x∈W->key x<a)/\(∀x,x∈Z->a<key x):=by
 have hL:L.takeWhile (λx=>decide (key x<a))++L.dropWhile (λx=>decide (key x<a))=L:=BI ..;refine⟨_,_,rfl,rfl,hL.symm,λx hx=>by simpa using AZ.1 (H0 (l:=L) (p:=λx=>decide (key x<a))) x hx,λx hx=>?_⟩;rw[<-hL,Bm] at hs;cases hd:L.dropWhile (λx=>decide (key x<a)) with
 |nil=>rw[hd] at hx;cases hx
 |cons y r=>
  have hy:¬key y<a:=by have:=List.head?_dropWhile_not (λx:α=>decide (key x<a)) L;rw[hd] at this;simpa using this
  have hyL:y∈L:=(ID _).subset (by rw[hd];exact Ak);have:=hne y hyL;rw[hd] at hx;rcases Ap.1 hx with rfl|hx
  ·omega
  ·have h2:=hs.2.1;rw[hd] at h2;have:=(BY.1 h2).1 x hx;omega
theorem MB.add{L:List α}(h:MB key val L es clock){t:α}(hn:DP key L (key t)=none):MB key val (LB key L t) (M5 (key t) (val t) clock es).1 (M5 (key t) (val t) clock es).2:=by
 have hne:=FN.1 hn;obtain⟨W,Z,e1,e2,hL,hall,hgt⟩:=TX h.asc hne;have hs:=h.asc;rw[hL,Bm] at hs;have hi:LB key L t=W++t::Z:=by unfold LB;rw[e1,e2]
 rw[UU,hi];refine⟨h.ok.set _ _,λa=>?_,?_⟩
 ·rw[Jd,Jv,<-Jd,h.get];unfold DP;rw[E2,BB];have e0:L.find? (λt=>decide (key t=a))=(W.find? (λt=>decide (key t=a))).or (Z.find? (λt=>decide (key t=a))):=by rw[<-E2,<-hL]
  rw[e0];by_cases ha:a=key t
  ·subst ha;rw[Ad rfl,At rfl];have:W.find? (λx=>decide (key x=key t))=none:=By.2 λx hx=>by have:=hall x hx;simp;omega
   rw[this];rfl
  ·rw[Ac ha,Av λe=>ha e.symm]
 ·refine Bm.2 ⟨hs.1,BY.2 ⟨λx hx=>hgt x hx,hs.2.1⟩,λx hx y hy=>?_⟩;have h1:=hall x hx;rcases Ap.1 hy with rfl|hy
  ·exact h1
  ·have:=hgt y hy;omega
theorem MB.drop{L:List α}(h:MB key val L es clock)(a:Int):MB key val (L.filter λx=>decide (key x≠a)) (Ox a es) clock:=by
 rw[Yh];refine⟨h.ok.del a,λc=>?_,h.asc.filter _⟩;rw[Jd,O0 h.ok,<-Jd,h.get];unfold DP;rw[List.find?_filter];by_cases hc:c=a
 ·subst hc;rw[Ad rfl];rw[show L.find? (λx=>decide (decide (key x≠c)=true/\decide (key x=c)=true))=none from By.2 λx _=>by simp];rfl
 ·rw[Ac hc];congr 1;apply Km;intro x _;by_cases hx:key x=c
  ·simp[hx,hc]
  ·simp[hx]
theorem RM{L:List α}{t:α}(h:DP key L a=some t): ∃A B,L=A++t::B/\key t=a/\ ∀x,x∈A->key x≠a:=by obtain⟨h1,A,B,rfl,h2⟩:=List.find?_eq_some_iff_append.1 h;exact⟨A,B,rfl,by simpa using h1,λx hx=>by simpa using h2 x hx⟩
theorem Yi{A B:List α}{x:α}(h:(A++x::B).Pairwise λx y=>key x<key y)(hx:key x=a):(A++x::B).filter (λx=>decide (key x≠a))=A++B:=by obtain⟨_,h2,h3⟩:=Bm.1 h;have h4:=(BY.1 h2).1;rw[Dr,Ih (by simpa using hx)];rw[List.filter_eq_self.2 λy hy=>by have:=h3 y hy x Ak;simp;omega,List.filter_eq_self.2 λy hy=>by have:=h4 y hy;simp;omega]
theorem MB.repl{A B:List α}{x y:α}(h:MB key val (A++x::B) es clock)(hk:key y=key x)(hv:val y=val x):MB key val (A++y::B) es clock:=by
 refine⟨h.ok,λa=>?_,?_⟩
 ·rw[h.get];unfold DP;rw[E2,E2,BB,BB,hk];cases A.find? (λt=>decide (key t=a)) with
  |some u=>rfl
  |none=>
   simp only[Option.none_or]
   split
   ·rw[BL,BL,hv]
   ·rfl
 ·have h1:=h.asc;obtain⟨h2,h3,h4⟩:=Bm.1 h1;obtain⟨h5,h6⟩:=BY.1 h3;refine Bm.2 ⟨h2,BY.2 ⟨λz hz=>by rw[hk];exact h5 z hz,h6⟩,λz hz w hw=>?_⟩;rcases Ap.1 hw with rfl|hw
  ·rw[hk];exact h4 z hz x Ak
  ·exact h4 z hz w (An _ hw)
end
structure NdS where
 id:Int
 C:List CapT
 gb:Nat
variable{S:List NdS}
def QN(C:List CapT):List Value:=C.flatMap BW
abbrev CA:CapT:=⟨0,0,0,0,0,0,0,0⟩
abbrev NdS.val(nd:NdS):Value:= .slice (some ⟨nd.gb,0,none⟩) nd.C.length nd.C.length
abbrev NdS.blk(nd:NdS):Ab:=(nd.gb,.cells (toArray (QN nd.C)) 74 (0,0))
abbrev NdS.d(nd:NdS):Int×List CapT:=(nd.id,nd.C)
abbrev xC(b m:Nat):Ab:=(b,.cells (toArray [.map (some m)]) 407 (0,0))
abbrev SD:=List (Int×List CapT)
structure SB(b:Nat)(S:List NdS)(m:Nat)(es:List KB)(clock:Nat)(lq:List Ab):Prop where
 eq:lq=xC b m::(m,Fq .i64 es clock)::S.map NdS.blk
 mb:MB NdS.id NdS.val S es clock
 sz: ∀nd,nd∈S->0<nd.C.length/\nd.C.length<=16
def IsS(b:Nat)(D:SD)(lq:List Ab):Prop:= ∃S m es clock,S.map NdS.d=D/\SB b S m es clock lq
abbrev Ce:=Int×Int
abbrev Co(s:Ce):List Value:=[.int .i64 s.1,.int .i64 s.2]
abbrev Dh(B:Nat)(s:Ce):Ab:=(B,.cells (toArray (Co s)) 61 (0,0))
theorem JH:DP Prod.fst (S.map NdS.d) a=(DP NdS.id S a).map NdS.d:=by unfold DP;rw[List.find?_map];rfl
theorem SB.m1(h:SB b S m es clock lq):xC b m∈lq:=by rw[h.eq];exact .head _
theorem SB.m2(h:SB b S m es clock lq):(m,Fq .i64 es clock)∈lq:=by rw[h.eq];exact .tail _ (.head _)
theorem SB.m3(h:SB b S m es clock lq){nd:NdS}(hn:nd∈S):nd.blk∈lq:=by rw[h.eq];exact .tail _ (.tail _ (Au.2 ⟨nd,hn,rfl⟩))
theorem SB.look(h:SB b S m es clock lq)(a:Int):(KC a es).getD (.slice none 0 0)=match DP NdS.id S a with
 |some nd=>nd.val
 |none=> .slice none 0 0:=by
 rw[h.mb.get];cases DP NdS.id S a<;>rfl
theorem tW(C:List CapT):(QN C).length=C.length*8:=by
 induction C with
 |nil=>rfl
 |cons x r ih=>rw[show QN (x::r)=BW x++QN r from rfl,Ai,ih];show 8+r.length*8=(r.length+1)*8;omega
theorem UV(h:C[k]?=some c):(toArray (QN C)).extract (k*8) (k*8+8)=toArray (BW c)/\k*8+8<=(toArray (QN C)).size:=by obtain⟨h1,h2⟩:=Kh (enc:=BW) (k:=8) (λ_=>rfl) [] C k c h;rw[Bf] at h1 h2;refine⟨?_,by rw[Bn];exact h2⟩;apply BO.1;rw[GM];simp only[List.extract,Cx];exact h1
def IY(D:SD)(a:Int):Int:=match DP Prod.fst D a with
 |some x=>(x.2.length:Nat)
 |none=>0
def Fi(D:SD)(s:Ce):Bool:=decide (0<=s.2)&&decide (s.2<IY D s.1)
def DJ(D:SD)(s:Ce):CapT:=match DP Prod.fst D s.1 with
 |some x=>x.2.getD s.2.toNat CA
 |none=>CA
def getD'(D:SD)(s:Ce):CapT×Int:=if Fi D s=true then(DJ D s,0) else(CA,3)
def GI(D:SD)(id n:Int):Int×SD:=if id<1\/n<1\/16<n then(2,D) else if(DP Prod.fst D id).isSome=true then(11,D) else(0,LB Prod.fst D (id,replicate n.toNat CA))
theorem mi{β:Type}{f:α->β}{key:α->Int}{key':β->Int}(hk: ∀x,key' (f x)=key x)(S:List α)(x:α):(LB key S x).map f=LB key' (S.map f) (f x):=by
 unfold LB;rw[Aq,AI,List.takeWhile_map,List.dropWhile_map];have e:(λy=>decide (key y<key x))=(λy=>decide (key' y<key' (f x)))∘f:=by funext y;simp[hk]
 rw[e]
theorem SB.look1(h:SB b S m es clock lq)(a:Int): ∃p n cap,(KC a es).getD (.slice none 0 0)= .slice p n cap/\IY (S.map NdS.d) a=((n:Nat):Int):=by
 rw[h.look];unfold IY;rw[JH];cases DP NdS.id S a with
 |none=>exact⟨none,0,0,rfl,rfl⟩
 |some nd=>exact⟨_,_,_,rfl,rfl⟩
theorem SB.look2(h:SB b S m es clock lq)(a:Int)(hn:IY (S.map NdS.d) a=((n:Nat):Int))(h0:0<n): ∃nd,DP NdS.id S a=some nd/\nd.C.length=n/\(KC a es).getD (.slice none 0 0)=nd.val:=by
 rw[h.look];unfold IY at hn;rw[JH] at hn;cases hf:DP NdS.id S a with
 |none=>rw[hf] at hn;simp at hn;omega
 |some nd=>rw[hf] at hn;simp at hn;exact⟨nd,rfl,Af,rfl⟩
theorem new_any(l:List Ab):Fn prog 179 [] l λv l'=> ∃b,v= .pointer (some ⟨b,0,none⟩)/\ ∃lq,IsS b [] lq/\l'=lq++l:=by refine AM func179 ntmps179 λE=>?_;refine gz ?_;refine AP NK ?_;rintro _ _ ⟨m,hm,rfl,rfl⟩;refine HC λb=>?_;exact BA [] rfl .refl (by exact A8) ⟨b,rfl,_,⟨[],m,[],0,rfl,rfl,MB.zero,by simp⟩,rfl⟩
def gG(S:List NdS)(s:Ce):Option Addr:=if Fi (S.map NdS.d) s=true then(DP NdS.id S s.1).map λnd=>⟨nd.gb,s.2.toNat*8,none⟩ else none
theorem Jc(b:Nat)(D:SD)(S:List NdS)(m clock:Nat)(es:List KB)(lq:List Ab)(hD:S.map NdS.d=D)(hS:SB b S m es clock lq)(s:Ce)(l:List Ab)(hsub: ∀c,c∈lq->c∈l):
 Fn prog 247 [.pointer (some ⟨b,0,none⟩),.agg (toArray (Co s))] l λv l'=>v= .tuple #[.pointer (gG S s),.int .i64 (if Fi D s=true then 0 else 3)]/\l'=l:=by
 subst hD;have hm1:=hsub _ hS.m1;have hm2:=hsub _ hS.m2;obtain⟨p,n,cap,hlk,hn⟩:=hS.look1 s.1;refine AM func247 ntmps247 λE=>?_;refine gz ?_
 (first|refine AP (Eb rfl rfl) ?_|refine AP (CK rfl) ?_);rintro _ _ ⟨b3,_,rfl,rfl⟩
 by_cases h0:s.2<0
 ·have hok:Fi (S.map NdS.d) s=false:=by unfold Fi;rw[Av (show ¬0<=s.2 by omega)];rfl
  rw[hok,show gG S s=none by unfold gG;rw[hok];rfl];refine gz ?_;refine Ch [] 17 _ ?_ (hR:=(λ_ h=>h));refine pz ?_;exact EA
 ·refine gz ?_;refine Ch [] 17 _ ?_ (hR:=(λ_ h=>h));refine pz ?_;rw[hlk];refine pz ?_;by_cases h1:s.2<(n:Int)
  ·have hok:Fi (S.map NdS.d) s=true:=by unfold Fi;rw[hn,At (show 0<=s.2 by omega),At h1];rfl
   obtain⟨nd,hf,hlen,hnd⟩:=hS.look2 s.1 hn Af;obtain⟨k,hk⟩: ∃k:Nat,s.2=(k:Nat):=⟨s.2.toNat,Af⟩
   rw[hok,show gG S s=some ⟨nd.gb,k*8,none⟩ by unfold gG;rw[hok,hf,hk];rfl];refine gz ?_;refine Ch [] 12 _ ?_ (hR:=(λ_ h=>h));refine pz ?_;rw[hnd,hk];refine pz ?_;exact EA
  ·have hok:Fi (S.map NdS.d) s=false:=by unfold Fi;rw[hn,Av h1];simp
   rw[hok,show gG S s=none by unfold gG;rw[hok];rfl];exact EA
theorem get_any(b:Nat)(D:SD)(lq:List Ab)(hq:IsS b D lq)(s:Ce)(l:List Ab)(hsub: ∀c,c∈lq->c∈l):
 Fn prog 230 [.pointer (some ⟨b,0,none⟩),.agg (toArray (Co s))] l λv l'=>v= .tuple #[.agg (toArray (BW (getD' D s).1)),.int .i64 (getD' D s).2]/\l'=l:=by
 obtain⟨S,m,es,clock,rfl,hS⟩:=hq;refine AM func230 ntmps230 λE=>?_;refine HC λb3=>?_;refine HC λb4=>?_;refine Bb (AJ rfl rfl λl2 hl=>Jc b _ S m clock es lq rfl hS s l2 λc hc=>hl c (.tail _ (.tail _ (hsub c hc)))) ?_;cases hok:Fi (S.map NdS.d) s with
 |false=>rw[show getD' (S.map NdS.d) s=(CA,3) by unfold getD';rw[hok];rfl];simp only[Bi,CR];refine gz ?_;exact CF (l':=l) (Bq b4 CA::Dh b3 s::l) .refl (.drop (.drop .refl)) ⟨rfl,rfl⟩
 |true=>
  have hok2:=hok;unfold Fi at hok2;rw[AR,Bg,Bg] at hok2;obtain⟨p,n,cap,hlk,hn⟩:=hS.look1 s.1;obtain⟨nd,hf,hlen,hnd⟩:=hS.look2 s.1 hn Af;obtain⟨k,hk⟩: ∃k:Nat,s.2=(k:Nat):=⟨s.2.toNat,Af⟩
  obtain⟨c,hc⟩: ∃c,nd.C[k]?=some c:=⟨_,Al Af⟩
  have hat:DJ (S.map NdS.d) s=c:=by unfold DJ;rw[JH,hf,hk];show nd.C.getD k CA=c;rw[Bd,hc];rfl
  rw[show gG S s=some ⟨nd.gb,k*8,none⟩ by unfold gG;rw[hok,hf,hk];rfl,show getD' (S.map NdS.d) s=(c,0) by unfold getD';rw[hok,hat];rfl];simp only[CT];obtain⟨g1,g2⟩:=UV hc;have hmb:nd.blk∈l:=hsub _ (hS.m3 (ED hf).1);refine gz ?_;refine Bb (Dn (n:=8) rfl (.tail _ (.tail _ hmb)) g2 g1) ?_;refine gz ?_;exact CF (l':=l) (Bq b4 c::Dh b3 s::l) .refl (.drop (.drop .refl)) ⟨rfl,rfl⟩
theorem setFrom_mid: ∀(us ws X Y:List Value),us.length=ws.length->CV (toArray (X++(us++Y))) X.length ws=toArray (X++(ws++Y))
 |[],[],X,Y,_=>rfl
 |u::us,w::ws,X,Y,h=>by
  have h1:(toArray (X++(u::us++Y))).setIfInBounds X.length w=toArray ((X++[w])++(us++Y)):=by apply BO.1;rw[Array.toList_setIfInBounds];show(X++(u::(us++Y))).set X.length w=_;rw[Cm _ _ Af,DD,E6];simp
  unfold CV;rw[h1];have h2:=setFrom_mid us ws (X++[w]) Y (by simpa using h);rw[Ai] at h2;rw[show X.length+1=X.length+[w].length from rfl,h2];simp
theorem mj(A B:List CapT):QN (A++B)=QN A++QN B:=DV
theorem Wq: ∀n:Nat,QN (replicate n CA)=(replicate n (BW CA)).flatten
 |0=>rfl
 |n+1=>by rw[BG,BG,Cq,<-Wq n];rfl
theorem TY(h:C[k]?=some x):C=C.take k++x::C.drop (k+1)/\(C.take k).length=k:=by
 have hk:=(Ay.1 h).1;have h1:=Cd k C;rw[C4 hk] at h1;have h2:C[k]=x:=by rw[Al hk] at h;exact AV h
 rw[h2] at h1;exact⟨h1.symm,by rw[C6];omega⟩
theorem cy(h:C[k]?=some x):C.set k c=C.take k++c::C.drop (k+1):=by
 obtain⟨h1,h2⟩:=TY h
 conv=>lhs;rw[h1]
 rw[Cm _ _ Af,h2,DD,E6]
theorem ml(h:C[k]?=some x):CV (toArray (QN C)) (k*8) (BW c)=toArray (QN (C.set k c)):=by
 obtain⟨h1,h2⟩:=TY h;rw[cy h];have e: ∀y:CapT,QN (C.take k++y::C.drop (k+1))=QN (C.take k)++(BW y++QN (C.drop (k+1))):=λy=>by rw[mj];rfl
 have hl:(QN (C.take k)).length=k*8:=by rw[tW,h2]
 rw[e c,<-hl]
 conv=>lhs;rw[show QN C=QN (C.take k)++(BW x++QN (C.drop (k+1))) by rw[<-e x,<-h1]]
 exact setFrom_mid _ _ _ _ rfl
theorem RN{key:α->Int}(S:List α)(x:α):(LB key S x).Perm (x::S):=by unfold LB;refine AH.trans (List.Perm.cons x ?_);rw[BI]
theorem NR{key:α->Int}{S:List α}{x y:α}:y∈LB key S x<->y=x\/y∈S:=by rw[(RN S x).mem_iff];simp
def G4(D:SD)(a:Int):Int×SD:=match DP Prod.fst D a with
 |none=>(2,D)
 |some x=>if x.2.all (λc=>Ln c CA)=true then(0,D.filter λx=>decide (x.1≠a)) else(16,D)
def FS(D:SD)(s:Ce)(c:CapT):SD:=D.map λx=>if x.1=s.1 then(x.1,x.2.set s.2.toNat c) else x
def setD(D:SD)(s:Ce)(c:CapT):Int×SD:=if Fi D s=true then(if Fd c=true then(0,FS D s c) else(5,D)) else(3,D)
theorem add_any(b:Nat)(D:SD)(lq:List Ab)(hq:IsS b D lq)(id n:Int)(G:List Ab):
 Fn prog 185 [.pointer (some ⟨b,0,none⟩),.int .i64 id,.int .i64 n] (lq++G) λv l'=>v= .int .i64 (GI D id n).1/\ ∃lq',IsS b (GI D id n).2 lq'/\l'=lq'++G:=by
 have hq0:=hq;obtain⟨S,m,es,clock,rfl,hS⟩:=hq;have hm1:xC b m∈lq++G:=Ah _ hS.m1;have hm2:(m,Fq .i64 es clock)∈lq++G:=Ah _ hS.m2;refine AM func185 ntmps185 λE=>?_;by_cases h1:id<1
 ·rw[show GI (S.map NdS.d) id n=(2,S.map NdS.d) by unfold GI;rw[Ad (.inl h1)]];refine gz ?_;exact A9 .refl ⟨rfl,_,hq0,rfl⟩
 by_cases h2:n<1
 ·rw[show GI (S.map NdS.d) id n=(2,S.map NdS.d) by unfold GI;rw[Ad (.inr (.inl h2))]];refine gz ?_;exact A9 .refl ⟨rfl,_,hq0,rfl⟩
 by_cases h3:16<n
 ·rw[show GI (S.map NdS.d) id n=(2,S.map NdS.d) by unfold GI;rw[Ad (.inr (.inr h3))]];refine gz ?_;exact A9 .refl ⟨rfl,_,hq0,rfl⟩
 have h123:¬(id<1\/n<1\/16<n):=by omega
 obtain⟨k,rfl⟩: ∃k:Nat,n=(k:Nat):=⟨n.toNat,Af⟩
 obtain⟨p,n0,cap,hlk,hn0⟩:=hS.look1 id;cases hf:DP NdS.id S id with
 |some nd=>
  rw[show GI (S.map NdS.d) id (k:Nat)=(11,S.map NdS.d) by unfold GI;rw[Ac h123,JH,hf];rfl];have hpos:0<n0:=by unfold IY at hn0;rw[JH,hf] at hn0;have:=(hS.sz nd (ED hf).1).1;simp at hn0;omega
  refine gz ?_;rw[hlk];refine gz ?_;exact A9 .refl ⟨rfl,_,hq0,rfl⟩
 |none=>
  rw[show GI (S.map NdS.d) id (k:Nat)=(0,LB Prod.fst (S.map NdS.d) (id,replicate k CA)) by unfold GI;rw[Ac h123,JH,hf];rfl];have hz:n0=0:=by unfold IY at hn0;rw[JH,hf] at hn0;simp at hn0;omega
  refine gz ?_;rw[hlk];refine gz ?_;refine Ch [6,7] 8 ([xC b m]) ?_ (hR:=(CS hm1));refine pz ?_;apply CM
  ·exact FG (n:=k) (kk:=8) (xs:=QN (replicate k CA)) rfl rfl Af Af AX (Wq k)
  ·rfl
  ·rfl
  ·rfl
  ·rintro _ _ ⟨gb,_,_,rfl⟩ c hc;rw[Ax.1 hc];exact .tail _ hm1
  rintro _ _ ⟨gb,hgb,rfl,rfl⟩;refine pz ?_;obtain⟨nd,hnd⟩: ∃nd:NdS,nd=⟨id,replicate k CA,gb⟩:=⟨_,rfl⟩
  have hvl:NdS.val nd= .slice (some ⟨gb,0,none⟩) k k:=by rw[hnd];simp[NdS.val]
  rw[hS.eq];simp only[Ae];apply M2
  ·exact KS (a:=id) (es:=es) (clock:=clock) rfl rfl rfl (.there (.there .here))
  ·rfl
  ·rfl
  ·rintro _ _ ⟨rfl,rfl⟩ c hc;rw[Ax.1 hc];exact .tail _ (.head _)
  rintro _ _ ⟨rfl,rfl⟩;refine pz ?_;refine gz ?_;have hMB:=hS.mb.add (t:=nd) (by rw[hnd];exact hf);rw[hvl,show nd.id=id by rw[hnd]] at hMB;refine A9 (l':=(xC b m::(m,Fq .i64 (M5 id (.slice (some ⟨gb,0,none⟩) k k) clock es).1 (M5 id (.slice (some ⟨gb,0,none⟩) k k) clock es).2)::(LB NdS.id S nd).map NdS.blk)++G) ?_ ⟨rfl,_,⟨LB NdS.id S nd,m,_,_,?_,rfl,hMB,?_⟩,rfl⟩
  ·have hp:((LB NdS.id S nd).map NdS.blk++G).Perm (nd.blk::(S.map NdS.blk++G)):=((RN S nd).map _).append_right G;refine Keep.of_perm ?_;have hb:(gb,Obj.cells (toArray (QN (replicate k CA))) 74 (0,0))=nd.blk:=by rw[hnd]
   rw[hb];exact(List.Perm.trans (List.Perm.swap _ _ _) (((List.Perm.swap _ _ _).trans (hp.symm.cons _)).cons _))
  ·rw[mi (key':=Prod.fst) (λx=>rfl),hnd]
  ·intro x hx;rcases NR.1 hx with rfl|hx
   ·rw[hnd];simp;omega
   ·exact hS.sz x hx
theorem gH(A B l:List Ab)(x:Ab):Keep ((A++x::B)++l) ((A++B)++l):=
 ⟨[x],by have h:(A++x::B).Perm (x::(A++B)):=AH;exact h.append_right l⟩
theorem gI:(S.filter λx=>decide (x.id≠a)).map NdS.d=(S.map NdS.d).filter λx=>decide (x.1≠a):=by rw[List.filter_map];rfl
theorem tX{A B:List NdS}{nd:NdS}(hs:(A++nd::B).Pairwise λx y=>x.id<y.id):FS ((A++nd::B).map NdS.d) (nd.id,(k:Nat)) c=(A++{nd with C:=nd.C.set k c}::B).map NdS.d:=by
 obtain⟨_,h2,h3⟩:=Bm.1 hs;have h4:=(BY.1 h2).1;unfold FS;simp only[Aq,AI,CJ];congr 1
 ·apply Bw;intro x hx;have:=h3 x hx nd Ak;show(if x.id=nd.id then _ else x.d)=x.d;rw[Ac Af]
 ·refine List.cons_eq_cons.2 ⟨?_,?_⟩
  ·rw[Ad trivial];rfl
  ·apply Bw;intro x hx;have:=h4 x hx;show(if x.id=nd.id then _ else x.d)=x.d;rw[Ac Af]
theorem set_any(b:Nat)(D:SD)(lq:List Ab)(hq:IsS b D lq)(s:Ce)(c:CapT)(G:List Ab):
 Fn prog 187 [.pointer (some ⟨b,0,none⟩),.agg (toArray (Co s)),.agg (toArray (BW c))] (lq++G) λv l'=>v= .int .i64 (setD D s c).1/\ ∃lq',IsS b (setD D s c).2 lq'/\l'=lq'++G:=by
 have hq0:=hq;obtain⟨S,m,es,clock,rfl,hS⟩:=hq;refine AM func187 ntmps187 λE=>?_;refine HC λb4=>?_;refine HC λb5=>?_;refine Bb (AJ rfl rfl λl2 hl=>Jc b _ S m clock es lq rfl hS s l2 λc hc=>hl c (.tail _ (.tail _ (Ah _ hc)))) ?_;cases hok:Fi (S.map NdS.d) s with
 |false=>rw[show setD (S.map NdS.d) s c=(3,S.map NdS.d) by unfold setD;rw[hok];rfl];simp only[Bi,CR];refine gz ?_;exact A9 (.drop (.drop .refl)) ⟨rfl,_,hq0,rfl⟩
 |true=>
  have hok2:=hok;unfold Fi at hok2;rw[AR,Bg,Bg] at hok2;obtain⟨p,n,cap,hlk,hn⟩:=hS.look1 s.1;obtain⟨nd,hf,hlen,hnd⟩:=hS.look2 s.1 hn Af;obtain⟨k,hk⟩: ∃k:Nat,s.2=(k:Nat):=⟨s.2.toNat,Af⟩
  obtain⟨x,hx⟩: ∃x,nd.C[k]?=some x:=⟨_,Al Af⟩
  rw[show gG S s=some ⟨nd.gb,k*8,none⟩ by unfold gG;rw[hok,hf,hk];rfl];simp only[CT];cases hM:Fd c with
  |false=>rw[show setD (S.map NdS.d) s c=(5,S.map NdS.d) by unfold setD;rw[hok,hM];rfl];refine gz ?_;refine Bb (AJ rfl rfl λl2 _=>HL c l2) ?_;rw[hM];refine gz ?_;exact A9 (.drop (.drop .refl)) ⟨rfl,_,hq0,rfl⟩
  |true=>
   rw[show setD (S.map NdS.d) s c=(0,FS (S.map NdS.d) s c) by unfold setD;rw[hok,hM];rfl];refine gz ?_;refine Bb (AJ rfl rfl λl2 _=>HL c l2) ?_;rw[hM];refine gz ?_;obtain⟨A,B,hAB,hid,_⟩:=RM hf;obtain⟨g1,g2⟩:=UV hx;have hmb:S.map NdS.blk=A.map NdS.blk++nd.blk::B.map NdS.blk:=by rw[hAB,Aq,AI]
   rw[hS.eq,hmb];simp only[Ae,Am];refine Mu (Et (b:=nd.gb) (off:=k*8) (cs:=toArray (QN nd.C)) (n:=8) rfl rfl rfl (by simp[Value.oneCell']) (.there (.there (.there (.there (Fg _ _ _ _ _))))) g2) rfl rfl ?_;rintro _ _ ⟨rfl,rfl⟩;rw[show CV (toArray (QN nd.C)) (k*8) (toArray (BW c)).toList=toArray (QN (nd.C.set k c)) from ml hx];refine gz ?_;have hs:s=(nd.id,((k:Nat):Int)):=by rw[hid,<-hk]
   refine A9 (l':=(xC b m::(m,Fq .i64 es clock)::(A++{nd with C:=nd.C.set k c}::B).map NdS.blk)++G) (.drop (.drop (by rw[Aq,AI];exact .of_perm (.of_eq (by simp))))) ⟨rfl,_,⟨A++{nd with C:=nd.C.set k c}::B,m,es,clock,?_,rfl,?_,?_⟩,rfl⟩
   ·rw[hs,hAB,tX (by rw[<-hAB];exact hS.mb.asc)]
   ·have hm:=hS.mb;rw[hAB] at hm;exact hm.repl rfl (by simp[NdS.val])
   ·intro y hy;have h1:=hS.sz;rw[hAB] at h1;rcases AE.1 hy with hy|hy
    ·exact h1 y (Ah _ hy)
    ·rcases Ap.1 hy with rfl|hy
     ·have:=h1 nd (Aa _ Ak);simpa using this
     ·exact h1 y (Aa _ (.tail _ hy))
theorem tY{a:Nat}(h:a<9223372036854775808):IntKind.i64.wrap ((a:Nat):Int)=((a:Nat):Int):=by simp[IntKind.wrap,IntKind.signed,IntKind.bits];omega
section
variable{fr:Fr}{l:List Ab}{d:Option Nat}{t:TypeId}{aft:Array Edge}{x:Operand}{a:Nat}
theorem qv(hx:ev fr x=some (.int .i64 (a:Nat)))(hy:ev fr y=some (.int .i64 (b:Nat)))(ha:a<2^63)(hb:b<2^63):OpQ P ro N fr R ⟨d,.binOp .and t x y t2,ty,pos,aft,g⟩ (.int .i64 ((a&&& b:Nat):Int)):=
 Ik hx hy (λ_ _=>CZ _ _ _ _ _) (by
  have e1:(BitVec.ofInt IntKind.i64.bits ((a:Nat):Int)).toNat=a:=by show(BitVec.ofInt 64 ((a:Nat):Int)).toNat=a;rw[DN,D9,Dj Af]
  have e2:(BitVec.ofInt IntKind.i64.bits ((b:Nat):Int)).toNat=b:=by show(BitVec.ofInt 64 ((b:Nat):Int)).toNat=b;rw[DN,D9,Dj Af]
  simp only[binOp,Op.intBits,Lq,e1,e2];rw[tY (D8 JB ha)];rfl)
end
def Tg(r:Int):Bool:=decide (0<=r)&&decide (r<=7)
def KY(a b:Int):Int:=if Tg a&&Tg b then((a.toNat&&& b.toNat:Nat):Int) else 0
def D4(c:CapT)(mask:Int):CapT×Int:=
 if Fd c=false\/Tg mask=false then(CA,2) else if c.kind=0 then(CA,10) else if c.kind=1\/c.kind=7 then(CA,8)
 else if c.kind=3 then(if KY c.rights mask=0 then(CA,9) else(⟨c.kind,c.obj,KY c.rights mask,c.badge,c.guard,c.bits,0,0⟩,0))
 else if c.kind=8 then(⟨c.kind,c.obj,KY c.rights mask,c.badge,c.guard,c.bits,c.serial,c.page⟩,0) else(c,0)
abbrev P9(d:CapT)(data:Nat):CapT:=⟨d.kind,d.obj,d.rights,d.badge,((data%4096:Nat):Int),((data/4096:Nat):Int),d.serial,d.page⟩
def RO(d:CapT)(data:Nat):CapT×Int:=
 if d.kind=8 then(if data>16777215 then(CA,3) else if d.badge≠0 then(CA,9) else(⟨d.kind,d.obj,d.rights,((data:Nat):Int),d.guard,d.bits,d.serial,d.page⟩,0))
 else if d.kind=2 then(if data>=65536 then(CA,3) else if Fd (P9 d data)=false then(CA,3) else(P9 d data,0))
 else if data≠0 then(CA,2) else(d,0)
def G5(c:CapT)(mask:Int)(data:Nat):CapT×Int:=if(D4 c mask).2≠0 then(CA,(D4 c mask).2) else RO (D4 c mask).1 data
theorem qw{c:CapT}{mask:Int}(h:(D4 c mask).2≠0):(D4 c mask).1=CA:=by
 unfold D4 at h⊢
 repeat' (split at h<;>first|exact absurd rfl h|(simp only[*,CT,CR,not_true,not_false_iff];done)|skip)
 all_goals first|rfl|(split<;>rfl)|skip
theorem RQ(r:Int)(l:List Ab):Fn prog 246 [.int .i64 r] l λv l'=>v= .bool (Tg r)/\l'=l:=by
 refine AM func246 ntmps246 λE=>?_;unfold Tg;by_cases h0:0<=r
 ·rw[At h0];exact EA
 ·rw[Av h0];exact EA
theorem Wr{r:Int}(h:Tg r=true): ∃n:Nat,r=n/\n<8:=by unfold Tg at h;rw[AR,Bg,Bg] at h;exact⟨r.toNat,Af,Af⟩
theorem TZ(a b:Int)(l:List Ab):Fn prog 252 [.int .i64 a,.int .i64 b] l λv l'=>v= .int .i64 (KY a b)/\l'=l:=by
 refine AM func252 ntmps252 λE=>?_;refine Aj ?_;refine Bb (AJ rfl rfl λl2 _=>RQ a l2) ?_;unfold KY;cases ha:Tg a with
 |false=>exact EA
 |true=>
 refine Aj ?_;refine Mv (AJ rfl rfl λl2 _=>RQ b l2) rfl rfl rfl ?_;cases hb:Tg b with
 |false=>exact EA
 |true=>
 obtain⟨a,rfl,ha8⟩:=Wr ha;obtain⟨b,rfl,hb8⟩:=Wr hb;refine Aj ?_;refine Bb (qv rfl rfl Af Af) ?_;exact EA
theorem Ni(h:IM c)(mask:Int):IM (D4 c mask).1:=by
 have hz:IM CA:=⟨by decide,by decide⟩
 unfold D4
 split
 ·exact hz
 split
 ·exact hz
 split
 ·exact hz
 split
 ·split
  ·exact hz
  ·exact⟨h.badge,h.guard⟩
 split
 ·exact⟨h.badge,h.guard⟩
 ·exact h
theorem Nj(c:CapT)(hw:IM c)(mask:Int)(l:List Ab):Fn prog 191 [.agg (toArray (BW c)),.int .i64 mask] l λv l'=>v= .tuple #[.agg (toArray (BW (D4 c mask).1)),.int .i64 (D4 c mask).2]/\l'=l:=by
 refine AM func191 ntmps191 λE=>?_;refine AO λb2=>?_;refine AO λb4=>?_;refine Bb (AJ rfl rfl λl2 _=>HL c l2) ?_;have hz: ∀(e:Int) (d:CapT),Keep (Bq b4 CA::Bq b2 d::l) l:=λ_ _=> .drop (.drop .refl);cases hm:Fd c with
 |false=>rw[show D4 c mask=(CA,2) by unfold D4;rw[Ad (.inl hm)]];refine Aj ?_;exact CF (l':=l) (Bq b4 CA::Bq b2 c::l) .refl (hz 0 _) ⟨rfl,rfl⟩
 |true=>
 refine Aj ?_;refine Mv (AJ rfl rfl λl2 _=>RQ mask l2) rfl rfl rfl ?_;cases hr:Tg mask with
 |false=>rw[show D4 c mask=(CA,2) by unfold D4;rw[Ad (.inr hr)]];refine Aj ?_;exact CF (l':=l) (Bq b4 CA::Bq b2 c::l) .refl (hz 0 _) ⟨rfl,rfl⟩
 |true=>
 have e0:D4 c mask=if c.kind=0 then(CA,10) else if c.kind=1\/c.kind=7 then(CA,8)
  else if c.kind=3 then(if KY c.rights mask=0 then(CA,9) else(⟨c.kind,c.obj,KY c.rights mask,c.badge,c.guard,c.bits,0,0⟩,0))
  else if c.kind=8 then(⟨c.kind,c.obj,KY c.rights mask,c.badge,c.guard,c.bits,c.serial,c.page⟩,0) else(c,0):=by
  unfold D4;rw[Ac (by rw[hm,hr];simp)]
 rw[e0];by_cases k0:c.kind=0
 ·rw[Ad k0];refine Aj ?_;exact CF (l':=l) (Bq b4 CA::Bq b2 c::l) .refl (hz 0 _) ⟨rfl,rfl⟩
 rw[Ac k0];by_cases k17:c.kind=1\/c.kind=7
 ·rw[Ad k17];by_cases k1:c.kind=1
  ·refine Aj ?_;exact CF (l':=l) (Bq b4 CA::Bq b2 c::l) .refl (hz 0 _) ⟨rfl,rfl⟩
  ·have k7:c.kind=7:=by omega
   refine Aj ?_;exact CF (l':=l) (Bq b4 CA::Bq b2 c::l) .refl (hz 0 _) ⟨rfl,rfl⟩
 rw[Ac k17];by_cases k3:c.kind=3
 ·rw[Ad k3];refine Aj ?_;refine Bb (AJ rfl rfl λl2 _=>TZ c.rights mask l2) ?_;by_cases hz0:KY c.rights mask=0
  ·rw[Ad hz0];refine Aj ?_;exact CF (l':=l) (Bq b4 CA::Bq b2 ⟨c.kind,c.obj,KY c.rights mask,c.badge,c.guard,c.bits,0,0⟩::l) .refl (hz 0 _) ⟨rfl,rfl⟩
  ·rw[Ac hz0];refine Aj ?_;exact CF (l':=l) (Bq b4 ⟨c.kind,c.obj,KY c.rights mask,c.badge,c.guard,c.bits,0,0⟩::Bq b2 ⟨c.kind,c.obj,KY c.rights mask,c.badge,c.guard,c.bits,0,0⟩::l) .refl (.drop (.drop .refl)) ⟨rfl,rfl⟩
 rw[Ac k3];by_cases k8:c.kind=8
 ·rw[Ad k8];refine Aj ?_;refine Bb (AJ rfl rfl λl2 _=>TZ c.rights mask l2) ?_;refine Aj ?_;exact CF (l':=l) (Bq b4 ⟨c.kind,c.obj,KY c.rights mask,c.badge,c.guard,c.bits,c.serial,c.page⟩::Bq b2 ⟨c.kind,c.obj,KY c.rights mask,c.badge,c.guard,c.bits,c.serial,c.page⟩::l) .refl (.drop (.drop .refl)) ⟨rfl,rfl⟩
 rw[Ac k8];refine Aj ?_;exact CF (l':=l) (Bq b4 c::Bq b2 c::l) .refl (.drop (.drop .refl)) ⟨rfl,rfl⟩
section
variable{fr:Fr}{l:List Ab}{d:Option Nat}{t:TypeId}{aft:Array Edge}{x:Operand}{k k':IntKind}{i:Int}{a:Nat}
theorem wH(hx:ev fr x=some (.int .u64 (a:Nat)))(hy:ev fr y=some (.int .u64 (b:Nat)))(ha:a<18446744073709551616)(hb:b<18446744073709551616):OpQ P ro N fr R ⟨d,.binOp .or t x y t2,ty,pos,aft,g⟩ (.int .u64 ((a|||b:Nat):Int)):=
 Ik hx hy (λ_ _=>CZ _ _ _ _ _) (by
  have e1:(BitVec.ofInt IntKind.u64.bits ((a:Nat):Int)).toNat=a:=by show(BitVec.ofInt 64 ((a:Nat):Int)).toNat=a;rw[DN,D9,Dj ha]
  have e2:(BitVec.ofInt IntKind.u64.bits ((b:Nat):Int)).toNat=b:=by show(BitVec.ofInt 64 ((b:Nat):Int)).toNat=b;rw[DN,D9,Dj hb]
  simp only[binOp,Op.intBits,BitVec.toNat_or,e1,e2];rw[TI (Nat.or_lt_two_pow (n:=64) ha hb)];rfl)
theorem gJ(hx:ev fr x=some (.int .u64 (a:Nat)))(hy:ev fr y=some (.int .u64 (b:Nat)))(ha:a<18446744073709551616)(hb:b<18446744073709551616):OpQ P ro N fr R ⟨d,.binOp .andNot t x y t2,ty,pos,aft,g⟩ (.int .u64 ((a&&& (2^64-(b+1)):Nat):Int)):=
 Ik hx hy (λ_ _=>CZ _ _ _ _ _) (by
  have e1:(BitVec.ofInt IntKind.u64.bits ((a:Nat):Int)).toNat=a:=by show(BitVec.ofInt 64 ((a:Nat):Int)).toNat=a;rw[DN,D9,Dj ha]
  have e2:(~~~ BitVec.ofInt IntKind.u64.bits ((b:Nat):Int)).toNat=2^64-(b+1):=by show(~~~ BitVec.ofInt 64 ((b:Nat):Int)).toNat=_;rw[BitVec.toNat_not,DN,D9,Dj hb];omega
  simp only[binOp,Op.intBits,Lq,e1,e2];rw[TI (D8 JB ha)];rfl)
end
def Ol(w at' n v:Nat):Nat:=2^at'*(2^n*(w/2^(at'+n))+v)+w%2^at'
def DX(w at' n:Nat):Nat:=w/2^at'%2^n
theorem Pd{at':Nat}(h:at'+n<=64):(2^n-1)*2^at'<18446744073709551616:=by
 have h1:2^n*2^at'<=2^64:=by rw[<-Nat.pow_add];exact CN Af Af
 have h2:0<2^at':=Gm _;have h3:0<2^n:=Gm _;have h4:(2^n-1)*2^at'<2^n*2^at':=Nat.mul_lt_mul_of_pos_right Af h2;exact Ea h4 h1
theorem Z2{at':Nat}(h:at'+n<=64)(hv:v<2^n):v*2^at'<18446744073709551616:=by have h1:(2^n-1)*2^at'<18446744073709551616:=Pd h;have h2:v*2^at'<=(2^n-1)*2^at':=FB _ Af;omega
theorem cA{w at':Nat}(hv:v<2^n)(i:Nat):(Ol w at' n v).testBit i=if i<at' then w.testBit i else if i<at'+n then v.testBit (i-at') else w.testBit i:=by
 unfold Ol;rw[Nat.testBit_two_pow_mul_add _ (GN _ (Gm _))]
 split
 ·rw[Ii];simp[*]
 ·rw[Nat.testBit_two_pow_mul_add _ hv];by_cases h:i<at'+n
  ·rw[Ad Af,Ad h]
  ·rw[Ac Af,Ac h,EL];congr 1;omega
theorem mm{w at':Nat}(hw:w<18446744073709551616)(h:at'+n<=64)(hv:v<2^n):(w&&& (2^64-((2^n-1)*2^at'+1)))|||v*2^at'=Ol w at' n v:=by
 apply Jp;intro i;rw[cA hv,Nat.testBit_or,Nat.testBit_and,Nat.testBit_two_pow_sub_succ (by exact Pd h),LP _ (2^at'),LP _ (2^at'),Nat.testBit_two_pow_mul,Nat.testBit_two_pow_mul,Nat.testBit_two_pow_sub_one];by_cases h1:i<at'
 ·rw[Ad h1,Av (show ¬at'<=i by omega),At (show i<64 by omega)];simp
 ·rw[Ac h1,At (show at'<=i by omega)];by_cases h2:i<at'+n
  ·rw[Ad h2,At (show i-at'<n by omega)];simp
  ·rw[Ac h2,Av (show ¬i-at'<n by omega)];have h3:v.testBit (i-at')=false:=EW (Ea hv (CN Af Af));rw[h3];by_cases h4:i<64
   ·rw[At h4];simp
   ·have:w.testBit i=false:=EW (Ea hw (by exact CN (n:=2) Af (show 64<=i by omega)));rw[this];simp
theorem gK{w at':Nat}:(w/2^at')&&& (2^n-1)=DX w at' n:=Nat.and_two_pow_sub_one_eq_mod _ _
theorem Ws(a n:Nat)(h1:1<=n)(h2:a+n<=64)(l:List Ab):Fn prog 315 [.int .i64 (a:Nat),.int .i64 (n:Nat)] l λv l'=>v= .bool true/\l'=l:=by refine AM func315 ntmps315 λE=>?_;refine gz ?_;refine A9 .refl ⟨?_,rfl⟩;rw[At Af];rfl
theorem T0(n:Nat)(h1:1<=n)(h2:n<=63)(l:List Ab):Fn prog 316 [.int .i64 (n:Nat)] l λv l'=>v= .int .u64 ((2^n-1:Nat):Int)/\l'=l:=by
 refine AM func316 ntmps316 λE=>?_;have hp:2^n<=2^63:=CN Af h2;have hp0:0<2^n:=Gm _;have hw:IntKind.u64.wrap (1*2^n)=((2^n:Nat):Int):=by rw[Int.one_mul,show(2:Int)^n=((2^n:Nat):Int) by simp,TI Af]
 refine gz ?_;refine Bb (Rs (n:=n) (i:=1) rfl rfl (by show n<=64;omega)) ?_;rw[hw];obtain⟨q,hq⟩: ∃q,2^n=q:=⟨_,rfl⟩
 rw[hq] at hp hp0⊢;refine Bb (oV (i:=((q:Nat):Int)) (j:=1) rfl rfl ⟨Af,Af⟩) ?_;refine gz ?_;refine A9 .refl ⟨?_,rfl⟩;rw[show((q:Nat):Int)-1=((q-1:Nat):Int) by omega];rfl
theorem Je(w a n:Nat)(hw:w<18446744073709551616)(h1:1<=n)(h2:n<=63)(h3:a+n<=64)(l:List Ab):
 Fn prog 254 [.int .u64 (w:Nat),.int .i64 (a:Nat),.int .i64 (n:Nat)] l λr l'=>r= .tuple #[.int .u64 (DX w a n:Nat),.int .i64 0]/\l'=l:=by
 have hp:2^n-1<18446744073709551616:=by have:2^n<=2^63:=CN Af h2;omega
 refine AM func254 ntmps254 λE=>?_;refine gz ?_;refine Bb (AJ rfl rfl λl2 _=>Ws a n h1 h3 l2) ?_;refine gz ?_;refine Bb (o6 (n:=a) rfl rfl (by show a<=64;omega)) ?_;rw[show((w:Nat):Int)/2^a=((w/2^a:Nat):Int) by norm_cast];refine gz ?_;refine Bb (AJ rfl rfl λl2 _=>T0 n h1 h2 l2) ?_;refine Bb (o7 rfl rfl (D8 (Nat.div_le_self _ _) hw) hp) ?_;rw[gK];exact EA
theorem RR(h:IM c)(mask:Int)(data:Nat):IM (G5 c mask data).1:=by
 have hz:IM CA:=⟨by decide,by decide⟩
 have hw:=Ni h mask;unfold G5
 split
 ·exact hz
 unfold RO
 split
 ·split
  ·exact hz
  ·split
   ·exact hz
   ·exact⟨by simp only;omega,hw.guard⟩
 split
 ·split
  ·exact hz
  ·split
   ·exact hz
   ·exact⟨hw.badge,by simp only;omega⟩
 split
 ·exact hz
 ·exact hw
theorem gM(c:CapT)(hw:IM c)(mask:Int)(data:Nat)(hd:data<18446744073709551616)(l:List Ab):Fn prog 197 [.agg (toArray (BW c)),.int .i64 mask,.int .u64 (data:Nat)] l λv l'=>v= .tuple #[.agg (toArray (BW (G5 c mask data).1)),.int .i64 (G5 c mask data).2]/\l'=l:=by
 refine AM func197 ntmps197 λE=>?_;refine AO λb3=>?_;refine AO λb6=>?_;refine Bb (AJ rfl rfl λl2 _=>Nj c hw mask l2) ?_;have hwd:=Ni hw mask;have hce:= @qw c mask;unfold G5;obtain⟨d,hd0⟩: ∃d,(D4 c mask).1=d:=⟨_,rfl⟩
 obtain⟨e,he0⟩: ∃e,(D4 c mask).2=e:=⟨_,rfl⟩
 rw[hd0] at hwd;rw[hd0,he0] at hce⊢;refine AO λb8=>?_;have hK: ∀(d2 c6:CapT),Keep (Bq b8 d2::Bq b6 c6::Bq b3 c::l) (Bq b6 c6::l):=λ_ _=> .drop (.pick .here (.drop .refl));by_cases he:e≠0
 ·rw[Ad he];refine Aj ?_;exact CF (l':=l) (Bq b6 CA::l) (hK d CA) (.drop .refl) ⟨rfl,rfl⟩
 rw[Ac he];have he':e=0:=by simpa using he
 clear he;subst he';refine Aj ?_;refine CE (α:=Unit) (λ_=>[(2,.int .u64 (data:Nat)),(6,.pointer (some ⟨b6,0,none⟩)),(8,.pointer (some ⟨b8,0,none⟩)),(9,.int .i64 0),(24,.int .i64 0)]) (λ_=>Bq b8 d::Bq b6 CA::Bq b3 c::l) (λ_=>True) (λ_=>0) () trivial ⟨rfl,rfl,rfl,rfl,rfl,trivial⟩ .refl ?_;rintro _ _;unfold RO;by_cases k8:d.kind=8
 ·rw[Ad k8];by_cases h1:data>16777215
  ·rw[Ad h1];refine Aj ?_;exact CF (l':=l) (Bq b6 CA::l) (hK d CA) (.drop .refl) ⟨rfl,rfl⟩
  rw[Ac h1];by_cases h2:d.badge≠0
  ·rw[Ad h2];refine Aj ?_;exact CF (l':=l) (Bq b6 CA::l) (hK d CA) (.drop .refl) ⟨rfl,rfl⟩
  rw[Ac h2];refine Aj ?_;exact CF (l':=l) (Bq b6 ⟨d.kind,d.obj,d.rights,((data:Nat):Int),d.guard,d.bits,d.serial,d.page⟩::l) (hK ⟨d.kind,d.obj,d.rights,((data:Nat):Int),d.guard,d.bits,d.serial,d.page⟩ ⟨d.kind,d.obj,d.rights,((data:Nat):Int),d.guard,d.bits,d.serial,d.page⟩) (.drop .refl) ⟨rfl,rfl⟩
 rw[Ac k8];by_cases k2:d.kind=2
 ·rw[Ad k2];refine Aj ?_;refine Bb (AJ rfl rfl λl2 _=>Je data 0 12 hd AX AX AX l2) ?_;refine Aj ?_;refine Bb (AJ rfl rfl λl2 _=>Je data 12 4 hd AX AX AX l2) ?_;have f1:DX data 0 12=data%4096:=by unfold DX;rw[Nat.pow_zero,Nat.div_one]
  have f2:DX data 12 4=data/4096%16:=rfl;rw[f1,f2];refine Aj ?_;refine Bb (AJ rfl rfl λl2 _=>Pc data hd 16 l2) ?_;have hfit:Kl data 16=decide (data<65536):=Wp hd (n:=16) AX;by_cases h1:data>=65536
  ·rw[Ad h1,hfit,Av Af];refine Aj ?_;exact CF (l':=l) (Bq b6 CA::l) (hK ⟨d.kind,d.obj,d.rights,d.badge,((data%4096:Nat):Int),((data/4096%16:Nat):Int),d.serial,d.page⟩ CA) (.drop .refl) ⟨rfl,rfl⟩
  rw[Ac h1,hfit,At Af];rw[show data/4096%16=data/4096 by omega];refine Aj ?_;refine Mv (AJ rfl rfl λl2 _=>HL (P9 d data) l2) rfl rfl rfl ?_;cases hm:Fd (P9 d data) with
  |false=>rw[Ad rfl];refine Aj ?_;exact CF (l':=l) (Bq b6 CA::l) (hK (P9 d data) CA) (.drop .refl) ⟨rfl,rfl⟩
  |true=>rw[Ac AX];refine Aj ?_;exact CF (l':=l) (Bq b6 (P9 d data)::l) (hK (P9 d data) (P9 d data)) (.drop .refl) ⟨rfl,rfl⟩
 rw[Ac k2];by_cases h1:data≠0
 ·rw[Ad h1];refine Aj ?_;exact CF (l':=l) (Bq b6 CA::l) (hK d CA) (.drop .refl) ⟨rfl,rfl⟩
 ·rw[Ac h1];refine Aj ?_;exact CF (l':=l) (Bq b6 d::l) (hK d d) (.drop .refl) ⟨rfl,rfl⟩
abbrev Pe:=Ce×CapT
abbrev Nk(h:Pe):List Value:=[.int .i64 h.1.1,.int .i64 h.1.2,.int .i64 h.2.kind,.int .i64 h.2.obj,.int .i64 h.2.rights,.int .u64 h.2.badge,.int .i64 h.2.guard,.int .i64 h.2.bits,.int .i64 h.2.serial,.int .i64 h.2.page]
abbrev wI(h:Pe):Value:= .agg (toArray (Nk h))
abbrev tZ(B:Nat)(h:Pe):Ab:=(B,.cells (toArray (Nk h)) 132 (0,0))
def Nl(L:List Pe):List Value:=L.flatMap Nk
theorem gN(L:List Pe)(t:Pe):Nl (L++[t])=Nl L++Nk t:=by simp[Nl]
abbrev xB(B:Nat)(v:Value):Ab:=(B,.cells #[v] 231 (0,0))
theorem gO(v:Value)(h1:v.oneCell'=true)(l:List Ab):Fn prog 171 [v] l λr l'=> ∃B,r= .func (.func 233) #[] #[.pointer (some ⟨B,0,none⟩)]/\l'=xB B v::l:=by refine AM func171 ntmps171 λE=>?_;refine gz ?_;refine AP (Eb rfl h1) ?_;rintro _ _ ⟨B,hB,rfl,rfl⟩;refine gz ?_;exact A9 .refl ⟨B,rfl,rfl⟩
theorem Wt(gf:Nat)[EN prog gf](lb:List Value)(S Sp:List Pe->Prop)(Need:List Pe->List Ab->Prop)(hit:Fa prog gf lb (λt:Pe=>[wI t]) S Sp Need)(n:Nat)(hsp: ∀pre,Sp pre->pre.length<=n)(hn:n<=900000)(l:List Ab)(hneed: ∀pre l2,(∀c,c∈l->c∈l2)->Need pre l2):
 Fn prog 232 [.slice none 0 0,.func (.func gf) #[] lb.toArray] l λv l'=> ∃xs cs,S xs/\OwnSl 132 10 v xs.length (Nl xs) cs/\l'=cs++l:=by
 refine AM func232 ntmps232 λE=>?_;refine gz ?_;refine AP (Eb rfl rfl) ?_;rintro _ _ ⟨b2,hb2,rfl,rfl⟩;refine gz ?_;refine C0 (α:=Pe) (ps:=[7]) (lb:=lb) rfl hit (λ_=>rfl) rfl
  (λpre l=> ∃v cs,OwnSl 132 10 v pre.length (Nl pre) cs/\l=[(b2,.cells #[v] 44 (0,0))]++cs)
  (λc pre l=>False)
  _ l (λpre l2 X2 hX h=>by obtain⟨v,cs,_,rfl⟩:=h;exact hneed _ _ λc hc=>Aa _ (hX _ hc)) (by exact AS) ⟨_,[],OwnSl.nil _ _,rfl⟩ ?_ ?_ ?_
 ·rintro E r0 rec pre y l' T ⟨fn,tmps,Dd,rfl⟩ hT0 ⟨v,cs',hown,rfl⟩ hsp0;have hpl:=hsp _ hsp0;rw[Ai] at hpl;simp only[DG,Ae,Ag];refine HC λb5=>?_;refine Cy (.there (.there (Fg _ _ _ _ _))) ?_;generalize hX1:(r0,Obj.loop (Dz fn tmps _ _ _ Dd .busy none))::T=X1;refine gz ?_;refine AP (Fb (k:=10) rfl rfl rfl AX AX) ?_;rintro _ _ ⟨bl,_,rfl,rfl⟩;refine AP (GX (k:=10) (X:=[tZ b5 y,(b2,.cells #[v] 44 (0,0))]) (cs:=cs') (F:=X1) (xs:=Nl pre) (n:=pre.length) (ws:=Nk y) rfl rfl rfl hown rfl (by simp[Value.oneCell']) Af AX) ?_;rintro v' _ ⟨c2,ho2,rfl⟩;have hv1:v'.oneCell'=true:=ho2.one;simp only[Ae,Ag];refine gz ?_;rw[<-hX1];refine B0 _ (.drop .refl) ⟨v',c2,?_,rfl⟩;rw[Ai,gN];exact ho2
 ·rintro Dd xs l' hS ⟨v,cs',hown,rfl⟩;have hv1:v.oneCell'=true:=hown.one;simp only[Ae,Ag];refine gz ?_;refine AW [Dd] (cs'++l) rfl (l':=cs'++l) (by exact AS) (by exact A8) .refl ?_;exact⟨xs,cs',hS,hown,rfl⟩
 ·rintro Dd c pre l' hsp h;exact h.elim
theorem UW(gf:Nat)[EN prog gf](lb:List Value)(S Sp:List Pe->Prop)(Need:List Pe->List Ab->Prop)(hit:Fa prog gf lb (λt:Pe=>[wI t]) S Sp Need)(n:Nat)(hsp: ∀pre,Sp pre->pre.length<=n)(hn:n<=900000)(l:List Ab)(hneed: ∀pre l2,(∀c,c∈l->c∈l2)->Need pre l2):
 Fn prog 170 [.func (.func gf) #[] lb.toArray] l λv l'=> ∃xs cs,S xs/\OwnSl 132 10 v xs.length (Nl xs) cs/\l'=cs++l:=by
 refine AM func170 ntmps170 λE=>?_;refine gz ?_;refine AP (Az rfl rfl (Wt gf lb S Sp Need hit n hsp hn l hneed)) ?_;rintro v _ ⟨xs,cs,hS,ho,rfl⟩;have hv1:v.oneCell'=true:=ho.one;refine gz ?_;refine A9 .refl ?_;exact⟨xs,cs,hS,ho,rfl⟩
end Go.Proofs.YtlkgekpmileobaaGreat
namespace Go.Proofs
open Tryz
open List(toArray replicate)
open Go.Shelf
def Tryz.sortA_ren:Go.Shelf.Ren:=⟨λ|5=>237|8=>310|7=>309|19=>355|20=>356|10=>346|11=>347|12=>348|13=>349|14=>350|15=>351|16=>352|17=>353|18=>354|30=>378|31=>379|32=>380|33=>381|34=>382|35=>383|40=>392|n=>n,λ|23=>40|25=>3|3=>3|32=>124|22=>40|0=>0|44=>529|46=>34|4=>4|36=>523|35=>522|41=>117|5=>5|9=>9|53=>542|57=>172|63=>547|64=>368|n=>n,λ|n=>n⟩
theorem Tryz.sortA:Go.Proofs.SlLaysM.n5 prog Tryz.sortA_ren:={
 mixed:=Bs
 f5:=⟨Tryz.f237.name,by decide,func237.trans (BN some Bs)⟩
 f7:=⟨Tryz.f309.name,by decide,func309.trans (BN some Bs)⟩
 f8:=func310.trans (BN some Bs)
 f10:=⟨Tryz.f346.name,by decide,func346.trans (BN some Bs)⟩
 f11:=⟨Tryz.f347.name,by decide,func347.trans (BN some Bs)⟩
 f12:=⟨Tryz.f348.name,by decide,func348.trans (BN some Bs)⟩
 f13:=⟨Tryz.f349.name,by decide,func349.trans (BN some Bs)⟩
 f14:=⟨Tryz.f350.name,by decide,func350.trans (BN some Bs)⟩
 f15:=⟨Tryz.f351.name,by decide,func351.trans (BN some Bs)⟩
 f16:=⟨Tryz.f352.name,by decide,func352.trans (BN some Bs)⟩
 f17:=⟨Tryz.f353.name,by decide,func353.trans (BN some Bs)⟩
 f18:=⟨Tryz.f354.name,by decide,func354.trans (BN some Bs)⟩
 f19:=func355.trans (BN some Bs)
 f20:=func356.trans (BN some Bs)
 f30:=⟨Tryz.f378.name,by decide,func378.trans (BN some Bs)⟩
 f31:=func379.trans (BN some Bs)
 f32:=func380.trans (BN some Bs)
 f33:=⟨Tryz.f381.name,by decide,func381.trans (BN some Bs)⟩
 f34:=⟨Tryz.f382.name,by decide,func382.trans (BN some Bs)⟩
 f35:=⟨Tryz.f383.name,by decide,func383.trans (BN some Bs)⟩
 f40:=⟨Tryz.f392.name,by decide,func392.trans (BN some Bs)⟩
 t0:=Tryz.underlying0
 a0:=Tryz.isAgg0
 z0:=Tryz.sizeOf0
 v0:=Tryz.zeroValue0
 t3:=Tryz.underlying3
 a3:=Tryz.isAgg3
 z3:=Tryz.sizeOf3
 v3:=Tryz.zeroValue3
 t4:=Tryz.underlying4
 a4:=Tryz.isAgg4
 z4:=Tryz.sizeOf4
 v4:=Tryz.zeroValue4
 t5:=Tryz.underlying5
 a5:=Tryz.isAgg5
 z5:=Tryz.sizeOf5
 v5:=Tryz.zeroValue5
 t9:=Tryz.underlying9
 a9:=Tryz.isAgg9
 z9:=Tryz.sizeOf9
 v9:=Tryz.zeroValue9
 t22:=Tryz.underlying40
 a22:=Tryz.isAgg40
 z22:=Tryz.sizeOf40
 v22:=Tryz.zeroValue40
 t23:=Tryz.underlying40
 a23:=Tryz.isAgg40
 z23:=Tryz.sizeOf40
 v23:=Tryz.zeroValue40
 t25:=Tryz.underlying3
 a25:=Tryz.isAgg3
 z25:=Tryz.sizeOf3
 v25:=Tryz.zeroValue3
 t32:=Tryz.underlying124
 a32:=Tryz.isAgg124
 z32:=Tryz.sizeOf124
 v32:=Tryz.zeroValue124
 t35:=Tryz.underlying522
 a35:=Tryz.isAgg522
 z35:=Tryz.sizeOf522
 v35:=Tryz.zeroValue522
 t36:=Tryz.underlying523
 a36:=Tryz.isAgg523
 z36:=Tryz.sizeOf523
 v36:=Tryz.zeroValue523
 t41:=Tryz.underlying117
 a41:=Tryz.isAgg117
 z41:=Tryz.sizeOf117
 v41:=Tryz.zeroValue117
 t44:=Tryz.underlying529
 a44:=Tryz.isAgg529
 z44:=Tryz.sizeOf529
 v44:=Tryz.zeroValue529
 t46:=Tryz.underlying34
 a46:=Tryz.isAgg34
 z46:=Tryz.sizeOf34
 v46:=Tryz.zeroValue34
 t53:=Tryz.underlying542
 a53:=Tryz.isAgg542
 z53:=Tryz.sizeOf542
 v53:=Tryz.zeroValue542
 t57:=Tryz.underlying172
 a57:=Tryz.isAgg172
 z57:=Tryz.sizeOf172
 v57:=Tryz.zeroValue172
 t63:=Tryz.underlying547
 a63:=Tryz.isAgg547
 z63:=Tryz.sizeOf547
 v63:=Tryz.zeroValue547
 t64:=Tryz.underlying368
 a64:=Tryz.isAgg368
 z64:=Tryz.sizeOf368
 v64:=Tryz.zeroValue368}
end Go.Proofs
namespace Go.Proofs.YtlkgekpmileobaaGreat
open Tryz
open List(toArray replicate)
open Go.RowKit Go.Sort
def LZ(x:Int):Value:= .int .i64 x
abbrev Ti(zs:List Int):List Int:=zs.mergeSort λx y=>decide (x<=y)
theorem gP(b cap:Nat)(zs:List Int)(sp:List Value)(hn:zs.length<=1000000)(l:List Ab):
 Fn prog 237 [.slice (some ⟨b,0,none⟩) zs.length cap] ((b,.cells (toArray (zs.map LZ++sp)) 3 (0,0))::l) λv l'=>v= .tuple #[]/\l'=(b,.cells (toArray ((Ti zs).map LZ++sp)) 3 (0,0))::l:=by
 refine⟨λE W hs=>?_⟩;have hH:Holds (Value.int .i64) W b 0 zs.toArray:=λj hj=>by
  simp only[Bn] at hj;refine⟨?_,?_⟩
  ·rw[hs.cell (.head _),BC,AC,AF (by simpa using hj),A0,Al hj];simp[hj,LZ]
  ·rw[hs.frz (.head _)];simp
 have h:=AnyM.slices_Sort_int Tryz.sortA b 0 cap zs W hH (hs.lt (.head _)) Af;refine(h:Calls prog 237 _ W _).mono ?_;rintro e w' ⟨rfl,n,os,rfl⟩;refine⟨_,_,rfl,⟨rfl,rfl⟩,?_⟩;refine⟨hs.os,hs.tape,hs.output,by simpa using hs.nodup,λc hc=>?_⟩;have hb:=hs.lt (.head _);simp only at hb;have hget: ∀k,k<W.heap.size->(Go.Sort.grow (putRow (Value.int .i64) (Go.Sort.ahead W n) b 0 (Ti zs).toArray) os).heap[k]?=(W.heap.modify b (onCells (putCells (Value.int .i64) 0 (Ti zs).toArray)))[k]?:=λk hk=>by show(((Go.Sort.ahead W n).heap.modify b _)++os)[k]?=_;rw[Array.getElem?_append_left (by simpa using hk)];rfl
 rcases Ap.1 hc with rfl|hc'
 ·rw[hget _ hb,Array.getElem?_modify,Ad rfl,hs.has _ (.head _)];simp only[BL,onCells];congr 2;apply BO.1;apply C9;intro j;unfold putCells;rw[Array.getElem?_toList,Array.getElem?_mapIdx,AC];have hl:(Ti zs).length=zs.length:=List.length_mergeSort ..;by_cases hj:j<zs.length
  ·rw[AF (by simpa using hj),AF (by simpa[hl] using hj),A0,A0,Al hj,Al Af];simp[hj,hl,LZ]
  ·rw[AU (by simpa using Lo hj),AU (by simpa[hl] using Lo hj)];simp only[A3,hl];cases sp[j-zs.length]? with
   |none=>rfl
   |some u=>simp[hl,hj]
 ·have hlt:=hs.lt (An _ hc');rw[hget _ hlt,Array.getElem?_modify,Ac,hs.has _ (An _ hc')];intro e;have:=hs.nodup;rw[AI,AN] at this;exact this.1 (Au.2 ⟨c,hc',e.symm⟩)
theorem UX(cap:Nat)(p:Option Addr)(l:List Ab):Fn prog 237 [.slice p 0 cap] l λv l'=>v= .tuple #[]/\l'=l:=by refine⟨λE W hs=>?_⟩;refine((AnyM.slices_Sort_int_none Tryz.sortA p cap W:Calls prog 237 _ W _)).mono ?_;rintro e w' ⟨rfl,rfl⟩;exact⟨_,_,rfl,⟨rfl,rfl⟩,hs⟩
theorem Wu(v:Value)(zs:List Int)(cs l:List Ab)(ho:OwnSl 3 1 v zs.length (zs.map LZ) cs)(hn:zs.length<=1000000):
 Fn prog 237 [v] (cs++l) λr l'=>r= .tuple #[]/\ ∃cs',OwnSl 3 1 v (Ti zs).length ((Ti zs).map LZ) cs'/\l'=cs'++l:=by
 have hl:(Ti zs).length=zs.length:=List.length_mergeSort ..;rcases ho.2 with⟨rfl,h0,rfl⟩|⟨gb,cap,sp,rfl,rfl,hnc,hcm,hcl⟩
 ·obtain rfl:zs=[]:=DY h0;exact(UX 0 none l).mono λr l' ⟨h1,h2⟩=>⟨h1,[],by rw[show Ti []=[] by simp[Ti]];exact OwnSl.nil _ _,h2⟩
 ·exact(gP gb cap zs sp hn l).mono λr l' ⟨h1,h2⟩=>⟨h1,_,⟨by simp,.inr ⟨gb,cap,sp,by rw[hl],rfl,Af,hcm,by rw[Ai,A3,hl,<-hcl,Ai,A3]⟩⟩,h2⟩
end Go.Proofs.YtlkgekpmileobaaGreat
namespace Go.Proofs.YtlkgekpmileobaaGreat
open Tryz
open List(toArray replicate)
open Go.RowKit
set_option maxRecDepth 20000
variable{D:SD}{es vis:List KB}{α:Type}{k:Nat}{c:CapT}{seen:Array Nat}{v:Value}{xs:List Int}{cs:List Ab}{a:Int}{C:List CapT}{s:Ce}
structure Came(es vis:List KB)(seen:Array Nat):Prop where
 eq:seen.toList=vis.map (·.2.2)
 nd:(vis.map (·.2.2)).Nodup
 sub: ∀e,e∈vis->e∈es
theorem Came.len(h:Came es vis seen)(hn:(es.map (·.2.2)).Nodup):vis.length<=es.length:=by
 classical
 have hv:vis.Nodup:=IJ h.nd;have he:(es.filter λe=>decide (e∈vis)).Nodup:=(IJ hn).filter _;have hp:vis.Perm (es.filter λe=>decide (e∈vis)):=(E9 hv he).2 λe=>by rw[Ci];simp only[Bg];exact⟨λhm=>⟨h.sub e hm,hm⟩,λhm=>hm.2⟩
 rw[hp.length_eq];exact CU ..
theorem Came.all(h:Came es vis seen)(hn:(es.map (·.2.2)).Nodup)(ha: ∀e,e∈es->e.2.2∈seen.toList):(vis.map (·.1)).Perm (es.map (·.1)):=by refine List.Perm.map _ ((E9 (IJ h.nd) (IJ hn)).2 λe=>⟨h.sub e,λhe=>?_⟩);have h1:=ha e he;rw[h.eq] at h1;obtain⟨e',he',h2⟩:=Au.1 h1;have h3:=Na hn (h.sub e' he') he h2;rw[<-h3];exact he'
theorem Came.push{e:KB}(h:Came es vis seen)(he:e∈es)(hs:e.2.2∉seen.toList):Came es (vis++[e]) (seen.push e.2.2):=by
 refine⟨by rw[KG,h.eq,Aq];rfl,?_,λx hx=>?_⟩
 ·rw[Aq,Bu];refine⟨h.nd,by simp,λa ha b hb hab=>hs ?_⟩;have:b=e.2.2:=by simpa using hb
  rw[h.eq,<-this,<-hab];exact ha
 ·rcases AE.1 hx with hx|hx
  ·exact h.sub x hx
  ·rw[Ax.1 hx];exact he
theorem RS(mb:Option Nat)(l:List Ab):Fn prog 234 [.map mb] l λv l'=> ∃B,v= .func (.func 307) #[] #[.pointer (some ⟨B,0,none⟩)]/\l'=(B,.cells #[.map mb] 404 (0,0))::l:=by refine AM func234 ntmps234 λE=>?_;refine gz ?_;refine AP (Eb rfl rfl) ?_;rintro _ _ ⟨B,hB,rfl,rfl⟩;refine gz ?_;exact A9 .refl ⟨B,rfl,rfl⟩
theorem xV{p:Prop}(h:p:=by
 obtain⟨hm1,hm2⟩:=hneed _ _ G hG h0;refine gz ?_;refine AP (ZJ rfl hm2) ?_;rintro _ _ ⟨b0,hb0,rfl,rfl⟩;refine gz ?_;refine CE (α:=Array Nat×List KB×List Ab) (λx=>[(0,.func (.yield q) #[] #[]),(1,.pointer (some ⟨B,0,none⟩)),(5,.pointer (some ⟨b0,0,none⟩))]) (λx=>(b0,.mapIter (some m) clock x.1 clock)::(x.2.2++G)) (λx=>I (x.2.1.map (·.1)) x.2.2/\Came es x.2.1 x.1) (λx=>es.length-x.2.1.length) (#[],[],l) ⟨h0,rfl,by simp,by simp⟩ ⟨rfl,rfl,rfl,trivial⟩ .refl ?_;clear hm1 hm2;rintro⟨seen,vis,l⟩ ⟨hI,hC⟩;simp only at hI hC⊢;obtain⟨hm1,hm2⟩:=hneed _ _ G hG hI;refine gz ?_;refine AP (fS rfl hm2 (λe he=>hst e he) (A7 _)) ?_;rintro _ _ (⟨rfl,rfl,hall⟩|⟨e,he,hns,rfl,rfl⟩)
 ·refine gz ?_;exact A9 (.drop .refl) ⟨l,rfl,.inl ⟨_,hC.all hnd hall,hI⟩⟩
 ·have hC2:=hC.push he hns;have hl2:=hC2.len hnd;have hy:=hY (vis.map (·.1)) e.1 l ((b0,.mapIter (some m) clock (seen.push e.2.2) clock)::G) (λc hc=> .tail _ (hG c hc)) hI (by simp at hl2⊢;exact hl2);refine gz ?_;refine Bb (ZK rfl (.head _) (.tail _ hm2) he hnd) ?_;refine gz ?_;refine Bk (Keep.of_perm AH.symm) ?_;refine AP (CQ rfl rfl hy) ?_;rintro v l' ⟨l1,rfl,⟨rfl,hI'⟩|⟨rfl,hx⟩⟩
  ·refine gz ?_;exact BV (seen.push e.2.2,vis++[e],l1) ⟨by simpa using hI',hC2⟩ (by simp at hl2⊢;omega) ⟨rfl,rfl,rfl,trivial⟩ (.of_perm AH)
  ·refine gz ?_;exact BA [] rfl (Keep.trans (.of_perm AH) (.drop .refl)) (by exact A8) ⟨l1,rfl,.inr ⟨_,by simp at hl2⊢;exact hl2,hx⟩⟩):p:=h
theorem PM(B m clock:Nat)(es:List KB)(hnd:(es.map (·.2.2)).Nodup)(hst: ∀e,e∈es->e.2.2<clock):
 Fa prog 307 [.pointer (some ⟨B,0,none⟩)] (λk:Int=>[.int .i64 k]) (λxs=>xs.Perm (es.map (·.1))) (λpre=>pre.length<=es.length)
  (λ_ l=>(B,.cells #[.map (some m)] 404 (0,0))∈l/\(m,Fq .i64 es clock)∈l):=by
 refine⟨λq I Ix G0 hneed hY l G hG h0=>?_⟩;refine AM func307 ntmps307 λE=>?_;exact xV
theorem Yj(gf:Nat)[EN prog gf](lb:List Value)(S:List Int->Prop)(n:Nat)(Need:List Int->List Ab->Prop)(hit:Fa prog gf lb (λk:Int=>[.int .i64 k]) S (λpre=>pre.length<=n) Need)(hn:n<=900000)(l:List Ab)(hneed: ∀pre l2,(∀c,c∈l->c∈l2)->Need pre l2):
 Fn prog 308 [.slice none 0 0,.func (.func gf) #[] lb.toArray] l λv l'=> ∃xs cs,S xs/\OwnSl 3 1 v xs.length (xs.map LZ) cs/\l'=cs++l:=by
 refine AM func308 ntmps308 λE=>?_;refine gz ?_;refine AP (Eb rfl rfl) ?_;rintro _ _ ⟨b2,hb2,rfl,rfl⟩;refine gz ?_;refine C0 (α:=Int) (ps:=[7]) (lb:=lb) rfl hit (λ_=>rfl) rfl
  (λpre l=> ∃v cs,OwnSl 3 1 v pre.length (pre.map LZ) cs/\pre.length<=n/\l=[(b2,.cells #[v] 40 (0,0))]++cs)
  (λc pre l=>False)
  _ l (λpre l2 X2 hX h=>by obtain⟨v,cs,_,_,rfl⟩:=h;exact hneed _ _ λc hc=>Aa _ (hX _ hc)) (by exact AS) ⟨_,[],OwnSl.nil _ _,Bl _,rfl⟩ ?_ ?_ ?_
 ·rintro E r0 rec pre y l' T ⟨fn,tmps,Dd,rfl⟩ hT0 ⟨v,cs',hown,hpl,rfl⟩ hsp;simp only[DG,Ae,Ag];refine gz ?_;refine Cy (.there (Fg _ _ _ _ _)) ?_;generalize hX1:(r0,Obj.loop (Dz fn tmps _ _ _ Dd .busy none))::T=X1;refine gz ?_;refine AP (Kg rfl rfl) ?_;rintro _ _ ⟨bl,_,rfl,rfl⟩;refine AP (GX (k:=1) (X:=[(b2,.cells #[v] 40 (0,0))]) (cs:=cs') (F:=X1) (xs:=pre.map LZ) (n:=pre.length) (zs:=[.int .i64 0]) (ws:=[LZ y]) rfl rfl rfl hown rfl (by simp[Value.oneCell',LZ]) Af AX) ?_;rintro v' _ ⟨c2,ho2,rfl⟩;have hv1:v'.oneCell'=true:=ho2.one;simp only[Ae,Ag];refine gz ?_;rw[<-hX1];refine B0 _ (.refl) ⟨v',c2,?_,hsp,rfl⟩;rw[Ai,Aq];exact ho2
 ·rintro Dd xs l' hS ⟨v,cs',hown,hpl,rfl⟩;have hv1:v.oneCell'=true:=hown.one;simp only[Ae,Ag];refine gz ?_;refine AW [Dd] (cs'++l) rfl (l':=cs'++l) (by exact AS) (by exact A8) .refl ?_;exact⟨xs,cs',hS,hown,rfl⟩
 ·rintro Dd c pre l' hsp h;exact h.elim
theorem Wv(gf:Nat)[EN prog gf](lb:List Value)(S:List Int->Prop)(n:Nat)(Need:List Int->List Ab->Prop)(hit:Fa prog gf lb (λk:Int=>[.int .i64 k]) S (λpre=>pre.length<=n) Need)(hn:n<=900000)(l:List Ab)(hneed: ∀pre l2,(∀c,c∈l->c∈l2)->Need pre l2):
 Fn prog 236 [.func (.func gf) #[] lb.toArray] l λv l'=> ∃xs cs,S xs/\OwnSl 3 1 v xs.length (xs.map LZ) cs/\l'=cs++l:=by
 refine AM func236 ntmps236 λE=>?_;refine gz ?_;refine AP (Az rfl rfl (Yj gf lb S n Need hit hn l hneed)) ?_;rintro v _ ⟨xs,cs,hS,ho,rfl⟩;have hv1:v.oneCell'=true:=ho.one;refine gz ?_;refine A9 .refl ?_;exact⟨xs,cs,hS,ho,rfl⟩
theorem RU(gf:Nat)[EN prog gf](lb:List Value)(S:List Int->Prop)(n:Nat)(Need:List Int->List Ab->Prop)(hit:Fa prog gf lb (λk:Int=>[.int .i64 k]) S (λpre=>pre.length<=n) Need)(hn:n<=900000)(hS: ∀xs,S xs->xs.length<=n)(l:List Ab)(hneed: ∀pre l2,(∀c,c∈l->c∈l2)->Need pre l2):
 Fn prog 175 [.func (.func gf) #[] lb.toArray] l λv l'=> ∃xs cs,S xs/\OwnSl 3 1 v (Ti xs).length ((Ti xs).map LZ) cs/\l'=cs++l:=by
 refine AM func175 ntmps175 λE=>?_;refine gz ?_;refine AP (Az rfl rfl (Wv gf lb S n Need hit hn l hneed)) ?_;rintro v _ ⟨xs,cs,hSx,ho,rfl⟩;have hv1:v.oneCell'=true:=ho.one;have hl:=hS xs hSx;refine gz ?_;refine AP (Az rfl rfl (Wu v xs cs l ho Af)) ?_;rintro _ _ ⟨rfl,cs',ho',rfl⟩;refine gz ?_;refine A9 .refl ?_;exact⟨xs,cs',hSx,ho',rfl⟩
theorem Nm(B m clock:Nat)(es:List KB)(hnd:(es.map (·.2.2)).Nodup)(hst: ∀e,e∈es->e.2.2<clock)(hn:es.length<=900000)(l:List Ab)(h1:(B,Obj.cells #[.map (some m)] 404 (0,0))∈l)(h2:(m,Fq .i64 es clock)∈l):
 Fn prog 175 [.func (.func 307) #[] #[.pointer (some ⟨B,0,none⟩)]] l λv l'=> ∃xs cs,xs.Perm (es.map (·.1))/\OwnSl 3 1 v (Ti xs).length ((Ti xs).map LZ) cs/\l'=cs++l:=
 RU 307 [.pointer (some ⟨B,0,none⟩)] _ es.length _ (PM B m clock es hnd hst) hn (λxs h=>by rw[h.length_eq];simp) l λ_ l2 hl=>⟨hl _ h1,hl _ h2⟩
theorem MB.sorted{key:α->Int}{val:α->Value}{L:List α}{clock:Nat}(h:MB key val L es clock)(hx:xs.Perm (es.map (·.1))):Ti xs=L.map key:=by
 have h1:(Ti xs).Perm (L.map key):=(List.mergeSort_perm ..).trans (hx.trans h.keys);have h2:(Ti xs).Pairwise (λx y=>x<=y):=by have:=List.pairwise_mergeSort (le:=λx y:Int=>decide (x<=y)) (λa b c h1 h2=>by simp at*;omega) (λa b=>by simp;omega) xs;exact this.imp λh=>by simpa using h
 have h3:(L.map key).Pairwise (λx y=>x<=y):=Cp.2 (h.asc.imp λhxy=>by omega);exact h1.eq_of_pairwise (λa b _ _ h1 h2=>by omega) h2 h3
theorem OwnSl.ints{e:Nat}{l:List Ab}(h:OwnSl e 1 v xs.length (xs.map LZ) cs)(hs: ∀c,c∈cs->c∈l): ∃p cap,v= .slice p xs.length cap/\(0<xs.length-> ∃b cl t fz,p=some ⟨b,0,none⟩/\(b,Obj.cells cl t fz)∈l/\ ∀i x,xs[i]?=some x->cl[i*1]?=some (.int .i64 x)):=by
 rcases h.2 with⟨rfl,h0,rfl⟩|⟨b,cap,sp,rfl,rfl,_⟩
 ·exact⟨none,0,by rw[h0],λh=>by omega⟩
 ·refine⟨_,cap,rfl,λh0=>⟨b,_,e,(0,0),rfl,hs _ Ak,λi x hx=>?_⟩⟩;have hlt:=(Ay.1 hx).1;rw[Df,AC,AF (by simpa using hlt),A0,hx];rfl
def G6(a:Int)(C:List CapT):Nat->List Pe
 |0=>[]
 |k+1=>G6 a C k++(match C[k]? with
  |some c=>if Ln c CA=true then[] else[((a,((k:Nat):Int)),c)]
  |none=>[])
def Dv(D:SD):List Pe:=D.flatMap λx=>G6 x.1 x.2 x.2.length
theorem Ww(hc:C[k]?=some c)(h:Ln c CA=false):G6 a C (k+1)=G6 a C k++[((a,((k:Nat):Int)),c)]:=by show G6 a C k++_=_;rw[hc];simp only;rw[h];rfl
theorem gQ(hc:C[k]?=some c)(h:Ln c CA=true):G6 a C (k+1)=G6 a C k:=by show G6 a C k++_=_;rw[hc];simp only;rw[h];simp
theorem RV(a:Int)(C:List CapT)(k:Nat): ∀m,G6 a C k<+:G6 a C (k+m)
 |0=>Gl
 |m+1=>(RV a C k m).trans (Gc _ _)
theorem RW(a:Int)(C:List CapT): ∀k,(G6 a C k).length<=k
 |0=>A7 _
 |k+1=>by
  show(G6 a C k++_).length<=k+1;have:=RW a C k;rw[Ai];have h2:(match C[k]? with
   |some c=>if Ln c CA=true then[] else[((a,((k:Nat):Int)),c)]
   |none=>[]:List Pe).length<=1:=by
   split
   ·split<;>simp
   ·simp
  omega
theorem PN(A B:SD):Dv (A++B)=Dv A++Dv B:=DV
theorem cC{i:Nat}{x:Int×List CapT}(hx:D[i]?=some x)(hk:k<=x.2.length):Dv (D.take i)++G6 x.1 x.2 k<+:Dv D:=by
 have hi:=(Ay.1 hx).1;have h1:=Cd i D;rw[C4 hi] at h1;have h2:D[i]=x:=by rw[Al hi] at hx;exact AV hx
 rw[h2] at h1
 conv=>rhs;rw[<-h1]
 rw[PN];refine(List.prefix_append_right_inj _).2 ?_;show _<+:G6 x.1 x.2 x.2.length++Dv (D.drop (i+1));have:=RV x.1 x.2 k (x.2.length-k);rw[show k+(x.2.length-k)=x.2.length by omega] at this;exact this.trans (Gc _ _)
theorem T1(h: ∀x,x∈D->x.2.length<=16):(Dv D).length<=D.length*16:=by
 induction D with
 |nil=>simp[Dv]
 |cons x r ih=>
  rw[show x::r=[x]++r from rfl,PN,Ai];have h1:=ih λy hy=>h y (An _ hy);have h2:=RW x.1 x.2 x.2.length;have h3:=h x Ak;have h4:(Dv [x]).length<=16:=by simp only[Dv,Cr,List.flatMap_nil,Bf];omega
  rw[Ai];show _<=(1+r.length)*16;omega
theorem IsS.sz{b:Nat}{lq:List Ab}(h:IsS b D lq): ∀x,x∈D->0<x.2.length/\x.2.length<=16:=by obtain⟨S,m,es,clock,rfl,hS⟩:=h;intro x hx;obtain⟨nd,hn,rfl⟩:=Au.1 hx;exact hS.sz nd hn
set_option maxRecDepth 20000 in
theorem cD(B b:Nat)(D:SD)(lq:List Ab)(hq:IsS b D lq)(hn:D.length<=50000):
 Fa prog 233 [.pointer (some ⟨B,0,none⟩)] (λh:Pe=>[wI h]) (λxs=>xs=Dv D) (λpre=>pre<+:Dv D)
  (λ_ l=>xB B (.pointer (some ⟨b,0,none⟩))∈l/\ ∀c,c∈lq->c∈l):=by
 refine⟨λr I Ix G0 hneed hY l G hG h0=>?_⟩;obtain⟨S,m,es,clock,rfl,hS⟩:=hq;obtain⟨n1,n2⟩:=hneed _ _ G hG h0;have n3:=n2 _ hS.m1;have n4:=n2 _ hS.m2;have hSl:S.length<=50000:=by simpa using hn
 refine AM func233 ntmps233 λE=>?_;refine gz ?_;refine AP (Az rfl rfl (RS (some m) _)) ?_;rintro _ _ ⟨B',rfl,rfl⟩;refine gz ?_;refine AP (Az rfl rfl (Nm B' m clock es hS.mb.ok.stamps hS.mb.ok.below (by rw[hS.mb.len];omega) _ (.head _) (.tail _ n4))) ?_;rintro v _ ⟨xs,cs,hxs,ho,rfl⟩;rw[hS.mb.sorted hxs] at ho;have hv1:v.oneCell'=true:=ho.one;obtain⟨p,cap,rfl,hR⟩:=ho.ints (l:=cs) λc hc=>hc;have hlen:(S.map NdS.id).length=S.length:=A3 ..;refine gz ?_;refine CE (α:=Nat×List Ab) (λx=>[(0,.func (.yield r) #[] #[]),(1,.pointer (some ⟨B,0,none⟩)),(14,.slice p (S.map NdS.id).length cap),(15,.int .i64 (S.map NdS.id).length),(16,.int .i64 x.1)]) (λx=>x.2++(cs++G)) (λx=>x.1<=S.length/\I (Dv ((S.map NdS.d).take x.1)) x.2) (λx=>S.length-x.1) (0,l) ⟨Bl _,h0⟩ ⟨rfl,rfl,rfl,rfl,rfl,trivial⟩ ?_ ?_
 ·exact Keep.trans (Keep.in_mid cs [_] (l++G)) (.drop (Keep.in_mid cs l G))
 clear n1 n2 n3 n4;rintro⟨i,l⟩ ⟨hi,hI⟩;simp only at hi hI⊢;obtain⟨n1,n2⟩:=hneed _ _ (cs++G) (λc hc=>Aa _ (hG c hc)) hI;have n3:=n2 _ hS.m1;have n4:=n2 _ hS.m2;by_cases hlt:i<S.length
 ·obtain⟨b9,cl,t9,fz,rfl,hmc,hcl⟩:=hR Af;have hm':(b9,Obj.cells cl t9 fz)∈l++(cs++G):=Aa _ (Ah _ hmc);obtain⟨nd,hnd⟩: ∃nd,S[i]?=some nd:=⟨_,Al hlt⟩
  have hmem:=A6 hnd;have hc:=hcl i nd.id (by rw[A0,hnd];rfl);have hlk:(KC nd.id es).getD (.slice none 0 0)=nd.val:=by rw[hS.look,hS.mb.at_ hmem]
  have hdi:(S.map NdS.d)[i]?=some nd.d:=by rw[A0,hnd];rfl
  have hsz:=hS.sz nd hmem;refine gz ?_;rw[hlk];refine gz ?_;refine CE (α:=Nat×List Ab) (λx=>[(0,.func (.yield r) #[] #[]),(1,.pointer (some ⟨B,0,none⟩)),(4,.int .i64 nd.id),(14,.slice (some ⟨b9,0,none⟩) (S.map NdS.id).length cap),(15,.int .i64 (S.map NdS.id).length),(16,.int .i64 i),(25,nd.val),(26,.int .i64 nd.C.length),(27,.int .i64 x.1)]) (λx=>x.2++(cs++G)) (λx=>x.1<=nd.C.length/\I (Dv ((S.map NdS.d).take i)++G6 nd.id nd.C x.1) x.2) (λx=>nd.C.length-x.1) (0,l) ⟨Bl _,by show I (_++[]) l;rw[Bf];exact hI⟩ ⟨rfl,rfl,rfl,rfl,rfl,rfl,rfl,rfl,rfl,trivial⟩ .refl ?_;clear n1 n2 n3 n4 hI hm';rintro⟨k,l⟩ ⟨hk,hI⟩;simp only at hk hI⊢;obtain⟨n1,n2⟩:=hneed _ _ (cs++G) (λc hc=>Aa _ (hG c hc)) hI;have hmb:=n2 _ (hS.m3 hmem);by_cases hkl:k<nd.C.length
  ·obtain⟨c,hcc⟩: ∃c,nd.C[k]?=some c:=⟨_,Al hkl⟩
   obtain⟨g1,g2⟩:=UV hcc;refine gz ?_;refine Bb (Dn (n:=8) rfl hmb g2 g1) ?_;refine HC λb6=>?_;refine Bb (QE (ys:=BW CA) rfl rfl (Ec c) (Ec _)) ?_;rw[show BX (BW c) (BW CA)=Ln c CA from rfl];cases he:Ln c CA with
   |true=>refine gz ?_;exact BV (k+1,l) ⟨by simp only;omega,by simp only;rw[gQ hcc he];exact hI⟩ (by simp only;omega) ⟨rfl,rfl,rfl,rfl,rfl,rfl,rfl,rfl,rfl,trivial⟩ (.drop .refl)
   |false=>
    have hpre:(Dv ((S.map NdS.d).take i)++G6 nd.id nd.C k)++[((nd.id,((k:Nat):Int)),c)]<+:Dv (S.map NdS.d):=by rw[Am,<-Ww hcc he];exact cC hdi (by show k+1<=nd.C.length;omega)
    have hy:=hY _ ((nd.id,((k:Nat):Int)),c) l (Bq b6 c::(cs++G)) (λx hx=> .tail _ (Aa _ (hG x hx))) hI hpre;refine gz ?_;refine Bk (Keep.of_perm (l':=l++(Bq b6 c::(cs++G))) AH.symm) ?_;refine Ia (CQ rfl rfl hy) rfl rfl rfl ?_;rintro w l' ⟨l1,rfl,⟨rfl,hI'⟩|⟨rfl,hx⟩⟩
    ·refine gz ?_;exact BV (k+1,l1) ⟨by simp only;omega,by simp only;rw[Ww hcc he,<-Am];exact hI'⟩ (by simp only;omega) ⟨rfl,rfl,rfl,rfl,rfl,rfl,rfl,rfl,rfl,trivial⟩ (Keep.trans (.of_perm AH) (.drop .refl))
    ·refine gz ?_;exact A9 (Keep.trans (.of_perm AH) (.drop (Keep.trans (Keep.in_mid l1 cs G) (Keep.dropL cs .refl)))) ⟨l1,rfl,.inr ⟨_,hpre,hx⟩⟩
  ·obtain rfl:k=nd.C.length:=by omega
   refine gz ?_;refine BV (i+1,l) ⟨by simp only;omega,?_⟩ (by simp only;omega) ⟨rfl,rfl,rfl,rfl,rfl,trivial⟩ .refl;simp only;rw[Cg,hdi,PN];show I (_++Dv [nd.d]) l;rw[show Dv [nd.d]=G6 nd.id nd.C nd.C.length by simp[Dv]];exact hI
 ·obtain rfl:i=S.length:=by omega
  rw[show(S.map NdS.d).take S.length=S.map NdS.d from Bv (by simp)] at hI;refine gz ?_;exact A9 (Keep.trans (Keep.in_mid l cs G) (Keep.dropL cs .refl)) ⟨l,rfl,.inl ⟨_,rfl,hI⟩⟩
theorem all_any(b:Nat)(D:SD)(lq:List Ab)(hq:IsS b D lq)(hn:D.length<=50000)(l:List Ab)(hsub: ∀c,c∈lq->c∈l):
 Fn prog 116 [.pointer (some ⟨b,0,none⟩)] l λv l'=> ∃cs,OwnSl 132 10 v (Dv D).length (Nl (Dv D)) cs/\l'=cs++l:=by
 have hlen:=T1 λx hx=>(hq.sz x hx).2;refine AM func116 ntmps116 λE=>?_;refine gz ?_;refine AP (Az rfl rfl (gO _ rfl _)) ?_;rintro _ _ ⟨B,rfl,rfl⟩;refine gz ?_;refine AP (Az rfl rfl (UW 233 [.pointer (some ⟨B,0,none⟩)] _ _ _ (cD B b D lq hq hn) (Dv D).length (λpre h=>h.length_le) Af _ λ_ l2 hl=>⟨hl _ (.head _),λc hc=>hl _ (.tail _ (hsub c hc))⟩)) ?_;rintro v _ ⟨_,cs,rfl,ho,rfl⟩;have hv1:v.oneCell'=true:=ho.one;refine gz ?_;refine A9 (l':=cs++l) (Keep.trans (.of_perm AH) (.drop .refl)) ?_;exact⟨cs,ho,rfl⟩
def Yk(l:List Ab)(a:Option Addr)(n k:Nat)(rows:List (List Value)):Prop:=
 0<n-> ∃bB off cs t fz,a=some ⟨bB,off,none⟩/\(bB,Obj.cells cs t fz)∈l/\ ∀i row,rows[i]?=some row->off+i*k+k<=cs.size/\cs.extract (off+i*k) (off+i*k+k)=toArray row/\ ∀j v,row[j]?=some v->cs[off+i*k+j]?=some v
theorem mn{W:World}{a:Option Addr}{n cap:Nat}{rows:List (List Value)}{ks:List (Option IntKind)}(h:UB ks W a n cap rows)(hk:0<ks.length):Yk (O4 W) a n ks.length rows:=by
 intro h0;obtain⟨b,off,rfl,hb,hcell⟩:=h.at_ h0;have hr0: ∃r0,rows[0]?=some r0:=⟨_,Al (by rw[h.size];exact h0)⟩
 obtain⟨r0,hr0⟩:=hr0;have c0:=hcell 0 0 h0 hk;rw[hr0,Di] at c0;have hl0:=(h.all r0 (A6 hr0)).len;have e0:r0[0]?=some (r0[0]'Af):=Al Af;unfold World.cell? at c0
 split at c0
 ·rename_i cs t fz hob;have hob':W.heap[b]?=some (.cells cs t fz):=hob;refine⟨b,off,cs,t,fz,rfl,(PI W b _).2 hob',λi row hrow=>?_⟩;have hi:i<n:=by have:=(Ay.1 hrow).1;rw[h.size] at this;exact this
  have hl:=(h.all row (A6 hrow)).len;have hc: ∀j,j<ks.length->cs[off+i*ks.length+j]?=row[j]?:=λj hj=>by have:=hcell i j hi hj;rw[VO hob',hrow,Di] at this;exact this
  have hlast:=hc (ks.length-1) Af;rw[Al (show ks.length-1<row.length by omega)] at hlast;have hlt:=(BD.1 hlast).1;refine⟨Af,?_,λj v hv=>?_⟩
  ·apply Dq;intro j;rw[EX];by_cases hj:j<ks.length
   ·rw[Ad Af,hc j hj,AC]
   ·rw[Ac Af,AC,Bc Af]
  ·have hj:=(Ay.1 hv).1;rw[hc j Af];exact hv
 ·rw[e0] at c0;cases c0
theorem Yl{key:α->Int}{L:List α}(h:L.Pairwise λx y=>key x<key y){t:α}(ht:t∈L):DP key L (key t)=some t:=by
 have hnd:(L.map key).Nodup:=Cp.2 (h.imp λhxy=>by omega);cases hf:DP key L (key t) with
 |none=>exact absurd rfl (FN.1 hf t ht)
 |some u=>obtain⟨h1,h2⟩:=ED hf;rw[Na hnd h1 ht h2]
theorem find_put(D:SD)(s:Ce)(c:CapT)(a:Int):DP Prod.fst (FS D s c) a=(DP Prod.fst D a).map λx=>if x.1=s.1 then(x.1,x.2.set s.2.toNat c) else x:=by
 unfold DP FS;rw[List.find?_map];have e:((λt:Int×List CapT=>decide (t.1=a))∘λx=>if x.1=s.1 then(x.1,x.2.set s.2.toNat c) else x)=λt=>decide (t.1=a):=by
  funext x;show decide ((if x.1=s.1 then(x.1,x.2.set s.2.toNat c) else x).1=a)=decide (x.1=a)
  split<;>rfl
 rw[e]
theorem gR(D:SD)(s:Ce)(c:CapT)(a:Int):IY (FS D s c) a=IY D a:=by
 unfold IY;rw[find_put];cases DP Prod.fst D a with
 |none=>rfl
 |some x=>
  simp only[BL]
  split
  ·simp
  ·rfl
theorem Nn(D:SD)(s:Ce)(c:CapT)(s':Ce):Fi (FS D s c) s'=Fi D s':=by unfold Fi;rw[gR]
theorem qx(h:Fi D s=true):DJ (FS D s c) s=c:=by
 unfold Fi IY at h;rw[AR,Bg,Bg] at h;unfold DJ;rw[find_put];cases hf:DP Prod.fst D s.1 with
 |none=>rw[hf] at h;simp at h;omega
 |some x=>rw[hf] at h;simp only at h;simp only[BL];rw[Ad (ED hf).2];show(x.2.set s.2.toNat c).getD s.2.toNat CA=c;rw[Bd,DR Af];rfl
theorem cE{s':Ce}(h0:0<=s.2)(h0':0<=s'.2)(h:s'≠s):DJ (FS D s c) s'=DJ D s':=by
 unfold DJ;rw[find_put];cases hf:DP Prod.fst D s'.1 with
 |none=>rfl
 |some x=>
  simp only[BL]
  split
  ·rename_i hx;have hx2:=(ED hf).2;have hne:s'.2≠s.2:=λe=>h (Gn (by rw[<-hx2,hx]) e);show(x.2.set s.2.toNat c).getD s'.2.toNat CA=x.2.getD s'.2.toNat CA;rw[Bd,Bd,FD Af]
  ·rfl
theorem OwnSl.hds{L:List Pe}{l:List Ab}(h:OwnSl 132 10 v L.length (Nl L) cs)(hs: ∀c,c∈cs->c∈l):RowSl l v 10 Nk L:=OwnSl.rowSl (enc:=Nk) h (λ_=>rfl) hs
theorem RX(s:Ce):AllK [some .i64,some .i64] (Co s):=⟨_,_,rfl,⟨_,rfl⟩,_,_,rfl,⟨_,rfl⟩,rfl⟩
theorem t6{x y:Ce}(h:x≠y):BX (Co x) (Co y)=false:=by
 cases h2:BX (Co x) (Co y) with
 |false=>rfl
 |true=>have:=(F9 (RX x) (RX y)).1 h2;simp only[Co,Cc,Value.int.injEq,HF,IF] at this;exact absurd (Gn this.1 this.2) h
section
variable{key:α->Int}
end
theorem QM{key:α->Int}{L:List α}{t:α}(h:L.Pairwise λx y=>key x<key y)(hn:DP key L (key t)=none):(LB key L t).Pairwise λx y=>key x<key y:=by
 obtain⟨W,Z,e1,e2,hL,hall,hgt⟩:=TX h (FN.1 hn);have hi:LB key L t=W++t::Z:=by unfold LB;rw[e1,e2]
 rw[hL,Bm] at h;rw[hi];refine Bm.2 ⟨h.1,BY.2 ⟨λx hx=>hgt x hx,h.2.1⟩,λx hx y hy=>?_⟩;have h1:=hall x hx;rcases Ap.1 hy with rfl|hy
 ·exact h1
 ·have:=hgt y hy;omega
theorem gS{xs:Array Value}{o j:Nat}{ys:List Value}(h:xs.extract o (o+k)=toArray ys)(hle:o+k<=xs.size)(hj:j<k)(hv:ys[j]?=some v):xs[o+j]?=some v:=by
 have h2:(toArray ys)[j]?=ys[j]?:=by simp
 rw[<-hv,<-h2,<-h,EX,Ad Af]
end Go.Proofs.YtlkgekpmileobaaGreat
