/- Laws that the statement's proof leans on (joined out of several texts). -/
import Derived.Test.YtlifcingifodfaaGreatGg6
set_option maxHeartbeats 4000000
set_option linter.unusedVariables false
set_option linter.unusedSimpArgs false
namespace Go.Proofs.YtlifcingifodfaaGreat
open Tryz
open List(toArray replicate)
variable{es:List LE}{clock k n b v m N:Nat}{a:Int}{lq R:Ac}{α:Type}{P:Program}{ro:Option Nat}{ty t2:TypeId}{pos:String}{g:Option (Nat×Bool)}{y:Operand}
namespace As
open Go.RowKit
set_option maxRecDepth 20000
theorem ASt.s_obj(s:ASt)(p:Nat)(hp:p<8)(v:Int):s.cells.setIfInBounds (p*10) (.int .i64 v)=({s with obj:=upd s.obj p v}:ASt).cells:=by
 refine O1 _ _ _ _ Af ?_ λj hj He=>?_
 ·unfold ASt.at;rw[Ad Af,Ad Af,show p*10/10=p by omega];exact BI _ (DL _ _ _)
 ·unfold ASt.at;simp only;by_cases h0:j%10=0
  ·rw[Ad h0,Ad h0];by_cases h8:j<80
   ·rw[Ad h8,Ad h8,Dl _ _ _ _ Af]
   ·rw[Ab h8,Ab h8]
  ·rw[Ab h0,Ab h0]
theorem ASt.s_root(s:ASt)(p i:Nat)(hp:p<8)(hi:i<4)(v:Int):s.cells.setIfInBounds (p*10+2+i*1) (.int .i64 v)=({s with root:=upd s.root (4*p+i) v}:ASt).cells:=by
 refine O1 _ _ _ _ Af ?_ λj hj He=>?_
 ·unfold ASt.at;rw[Ad Af,Ab Af,Ab Af,Ad Af,show 4*((p*10+2+i*1)/10)+((p*10+2+i*1)%10-2)=4*p+i by omega];exact BI _ (DL _ _ _)
 ·unfold ASt.at;simp only;by_cases h8:j<80
  ·rw[Ad h8,Ad h8];by_cases h0:j%10=0
   ·rw[Ad h0,Ad h0]
   ·rw[Ab h0,Ab h0];by_cases h1:j%10=1
    ·rw[Ad h1,Ad h1]
    ·rw[Ab h1,Ab h1];by_cases h6:j%10<6
     ·rw[Ad h6,Ad h6,Dl _ _ _ _ Af]
     ·rw[Ab h6,Ab h6]
  ·rw[Ab h8,Ab h8]
theorem ASt.s_ser(s:ASt)(p i:Nat)(hp:p<8)(hi:i<4)(v:Int):s.cells.setIfInBounds (p*10+6+i*1) (.int .i64 v)=({s with ser:=upd s.ser (4*p+i) v}:ASt).cells:=by
 refine O1 _ _ _ _ Af ?_ λj hj He=>?_
 ·unfold ASt.at;rw[Ad Af,Ab Af,Ab Af,Ab Af,show 4*((p*10+6+i*1)/10)+((p*10+6+i*1)%10-6)=4*p+i by omega];exact BI _ (DL _ _ _)
 ·unfold ASt.at;simp only;by_cases h8:j<80
  ·rw[Ad h8,Ad h8];by_cases h0:j%10=0
   ·rw[Ad h0,Ad h0]
   ·rw[Ab h0,Ab h0];by_cases h1:j%10=1
    ·rw[Ad h1,Ad h1]
    ·rw[Ab h1,Ab h1];by_cases h6:j%10<6
     ·rw[Ad h6,Ad h6]
     ·rw[Ab h6,Ab h6,Dl _ _ _ _ Af]
  ·rw[Ab h8,Ab h8]
theorem ASt.s_given(s:ASt)(n:Nat)(hn:n<32)(v:Int):s.cells.setIfInBounds (80+n*1) (.int .i64 v)=({s with given:=upd s.given n v}:ASt).cells:=by
 refine O1 _ _ _ _ Af ?_ λj hj He=>?_
 ·unfold ASt.at;rw[Ab Af,show 80+n*1-80=n by omega];exact BI _ (DL _ _ _)
 ·unfold ASt.at;simp only;by_cases h8:j<80
  ·rw[Ad h8,Ad h8]
  ·rw[Ab h8,Ab h8,Dl _ _ _ _ Af]
theorem RG(vs:Ap): ∀(cs:Array Value) (off j:Nat),off+vs.length<=cs.size->(Da cs off vs)[j]?=if off<=j/\j<off+vs.length then vs[j-off]? else cs[j]?:=by
 induction vs with
 |nil=>intro cs off j h;rw[Ab (by simp only[Fe];omega)];rfl
 |cons v vs ih=>
  intro cs off j h;simp only[Bu] at h;rw[Da,ih _ _ _ (by simp;omega)];by_cases h1:off=j
  ·subst h1;rw[Ab Af,Ad (by simp),DV,Hl Af];rfl
  ·by_cases h2:off+1<=j/\j<off+1+vs.length
   ·rw[Ad h2,Ad (by simp;omega),show j-off=(j-(off+1))+1 by omega];rfl
   ·rw[Ab h2,Ab (by simp only[Bu];omega),Gs h1]
def ASt.drop(s:ASt)(p:Nat):ASt:={s with obj:=upd s.obj p 0,dead:=upd s.dead p true,root:=λn=>if n/4=p then 0 else s.root n,ser:=λn=>if n/4=p then 0 else s.ser n}
theorem ASt.s_drop(s:ASt)(p:Nat)(hp:p<8):Da s.cells (p*10) [.int .i64 0,.bool true,.int .i64 0,.int .i64 0,.int .i64 0,.int .i64 0,.int .i64 0,.int .i64 0,.int .i64 0,.int .i64 0]=(s.drop p).cells:=by
 apply DI;intro j;rw[RG _ _ _ _ (by rw[s.cells_size];simp;omega)];by_cases hj:j<112
 ·rw[(s.drop p).cells_get j hj,s.cells_get j hj];simp only[Bu,Fe];by_cases M2:p*10<=j/\j<p*10+10
  ·rw[Ad Af];obtain⟨i,hi,rfl⟩: ∃i,i<10/\j=p*10+i:=⟨j-p*10,Af,Af⟩
   rw[show p*10+i-p*10=i by omega];unfold ASt.at ASt.drop;simp only;have wt:p*10+i<80:=by omega
   have hd:(p*10+i)/10=p:=by omega
   have hm:(p*10+i)%10=i:=by omega
   rw[Ad wt,hd,hm]
   match i,hi with
   |0,_=>simp[upd]
   |1,_=>simp[upd]
   |2,_=>simp
   |3,_=>simp;omega
   |4,_=>simp;omega
   |5,_=>simp;omega
   |6,_=>simp
   |7,_=>simp;omega
   |8,_=>simp;omega
   |9,_=>simp;omega
  ·rw[Ab Af];congr 1;unfold ASt.at ASt.drop;simp only;by_cases wt:j<80
   ·rw[Ad wt,Ad wt];have hq:j/10≠p:=by omega
    rw[Dl _ _ _ _ hq,Dl _ _ _ _ hq];by_cases h0:j%10=0
    ·rw[Ad h0,Ad h0]
    ·rw[Ab h0,Ab h0];by_cases h1:j%10=1
     ·rw[Ad h1,Ad h1]
     ·rw[Ab h1,Ab h1];by_cases h6:j%10<6
      ·rw[Ad h6,Ad h6,Ab Af]
      ·rw[Ab h6,Ab h6,Ab Af]
   ·rw[Ab wt,Ab wt]
 ·rw[Ab (by simp;omega),Fj (by rw[s.cells_size];omega),Fj (by rw[(s.drop p).cells_size];omega)]
def ASt.zero:ASt:=⟨λ_=>0,λ_=>false,λ_=>0,λ_=>0,λ_=>0⟩
theorem aS:ASt.zero.cells=toArray [.int .i64 0,.bool false,.int .i64 0,.int .i64 0,.int .i64 0,.int .i64 0,.int .i64 0,.int .i64 0,.int .i64 0,.int .i64 0,.int .i64 0,.bool false,.int .i64 0,.int .i64 0,.int .i64 0,.int .i64 0,.int .i64 0,.int .i64 0,.int .i64 0,.int .i64 0,.int .i64 0,.bool false,.int .i64 0,.int .i64 0,.int .i64 0,.int .i64 0,.int .i64 0,.int .i64 0,.int .i64 0,.int .i64 0,.int .i64 0,.bool false,.int .i64 0,.int .i64 0,.int .i64 0,.int .i64 0,.int .i64 0,.int .i64 0,.int .i64 0,.int .i64 0,.int .i64 0,.bool false,.int .i64 0,.int .i64 0,.int .i64 0,.int .i64 0,.int .i64 0,.int .i64 0,.int .i64 0,.int .i64 0,.int .i64 0,.bool false,.int .i64 0,.int .i64 0,.int .i64 0,.int .i64 0,.int .i64 0,.int .i64 0,.int .i64 0,.int .i64 0,.int .i64 0,.bool false,.int .i64 0,.int .i64 0,.int .i64 0,.int .i64 0,.int .i64 0,.int .i64 0,.int .i64 0,.int .i64 0,.int .i64 0,.bool false,.int .i64 0,.int .i64 0,.int .i64 0,.int .i64 0,.int .i64 0,.int .i64 0,.int .i64 0,.int .i64 0,.int .i64 0,.int .i64 0,.int .i64 0,.int .i64 0,.int .i64 0,.int .i64 0,.int .i64 0,.int .i64 0,.int .i64 0,.int .i64 0,.int .i64 0,.int .i64 0,.int .i64 0,.int .i64 0,.int .i64 0,.int .i64 0,.int .i64 0,.int .i64 0,.int .i64 0,.int .i64 0,.int .i64 0,.int .i64 0,.int .i64 0,.int .i64 0,.int .i64 0,.int .i64 0,.int .i64 0,.int .i64 0,.int .i64 0,.int .i64 0,.int .i64 0,.int .i64 0]:=BA
theorem new_any(l:Ac):Fn prog 130 [] l λv l'=> ∃b,(∀c,c∈l->c.1≠b)/\v= .pointer (some ⟨b,0,none⟩)/\l'=asA b ASt.zero::l:=by refine AN func130 ntmps130 λE=>?_;refine gz ?_;refine AS (CH rfl) ?_;rintro _ _ ⟨b,hb,rfl,rfl⟩;refine gz ?_;exact BE [] rfl .refl (by exact Ba) ⟨b,hb,rfl,by rw[asA,aS]⟩
def addP(s:ASt)(o:Int):Int×Int×ASt:=
 if o<1 then(0,2,s) else if(atO s o).isSome then(0,16,s) else
 match EJ (λp=>s.obj p==0&&!s.dead p) 8 with
 |some p=>((p:Int),0,{s with obj:=upd s.obj p o})
 |none=>(0,11,s)
theorem O4(b:Nat)(s:ASt)(o i:Int)(h:WQ s o=i)(l:Ac)(hm:asA b s∈l):
 Fn prog 191 [.pointer (some ⟨b,0,none⟩),.int .i64 o] l λv l'=>v= .int .i64 i/\l'=l:=by rw[<-h];exact JU b s o l hm
theorem addPool_any(b:Nat)(s:ASt)(o:Int)(F:Ac):
 Fn prog 147 [.pointer (some ⟨b,0,none⟩),.int .i64 o] (asA b s::F) λv l'=>v= .tuple #[.int .i64 (addP s o).1,.int .i64 (addP s o).2.1]/\l'=asA b (addP s o).2.2::F:=by
 refine AN func147 ntmps147 λE=>?_;refine gz ?_;refine q6 rfl (λho=>?_) (λho=>?_)
 ·refine gz ?_;exact BE [] rfl .refl (by exact Ba) ⟨by simp[JH,addP,ho],by simp[addP,ho]⟩
 ·refine gz ?_;cases hq:atO s o with
  |some q=>refine Bh (AL rfl rfl (λl hl=>O4 b s o q (by simp[WQ,hq]) l (hl _ (by exact BW)))) ?_;refine gz ?_;exact BE [] rfl .refl (by exact Ba) ⟨by simp[JH,addP,ho,hq],by simp[addP,ho,hq]⟩
  |none=>
   refine Bh (AL rfl rfl (λl hl=>O4 b s o (-1) (by simp[WQ,hq]) l (hl _ (by exact BW)))) ?_;refine gz ?_;refine CN (α:=Nat) (λk=>[(0,.pointer (some ⟨b,0,none⟩)),(1,.int .i64 o),(18,.int .i64 k)]) (λk=>asA b s::F) (λk=>k<=8/\EJ (λp=>s.obj p==0&&!s.dead p) k=none) (λk=>8-k) 0 ⟨Af,rfl⟩ ⟨rfl,rfl,rfl,trivial⟩ .refl ?_;rintro k ⟨hk,hf⟩;by_cases C9:k<8
   ·have hc:=s.c_obj k C9;have hd:=s.c_dead k C9;by_cases hz:s.obj k=0
    ·cases hdd:s.dead k with
     |true=>rw[hdd] at hd;refine gz ?_;exact BO (k+1) ⟨Af,by rw[HZ,hf];simp[hz,hdd]⟩ Af ⟨rfl,rfl,rfl,trivial⟩ .refl
     |false=>rw[hdd] at hd;refine gz ?_;refine M9 (Du (cs:=s.cells) rfl rfl rfl (by exact DY) (by rw[s.cells_size];omega)) rfl rfl ?_;rintro _ _ ⟨rfl,rfl⟩;rw[s.s_obj k C9];refine gz ?_;have hft:=LY (λp=>s.obj p==0&&!s.dead p) 8 k C9 (by simp[hz,hdd]) hf;exact BE [] rfl .refl (by exact Ba) ⟨by simp[JH,addP,ho,hq,hft],by simp[addP,ho,hq,hft]⟩
    ·refine gz ?_;exact BO (k+1) ⟨Af,by rw[HZ,hf];simp[hz]⟩ Af ⟨rfl,rfl,rfl,trivial⟩ .refl
   ·obtain rfl:k=8:=by omega
    refine gz ?_;exact BE [] rfl .refl (by exact Ba) ⟨by simp[JH,addP,ho,hq,hf],by simp[addP,ho,hq,hf]⟩
def ASt.give0(s:ASt)(n:Nat):ASt:={s with root:=upd s.root n 0,ser:=upd s.ser n 0}
def unP(s:ASt)(r:Int):Int×Int×ASt:=match Lm s (II r) with|some n=>((n:Int),0,s.give0 n)|none=>(0,15,s)
open Go.RowKit
set_option maxRecDepth 20000
def YI(s:ASt)(n:Nat):Int:=(n:Int)+32*s.given n
def Qr(s:ASt)(p:Nat)(i:Fin 4):Bool:=s.root (4*p+i.val)==0&&decide (YI s (4*p+i.val)<=16777215)
def ASt.give(s:ASt)(n:Nat)(r:Int):ASt:={s with root:=upd s.root n r,ser:=upd s.ser n (YI s n),given:=upd s.given n (s.given n+1)}
def assignP(s:ASt)(o r:Int):Int×Int×Int×ASt:=
 match atO s o with
 |none=>(0,0,2,s)
 |some p=>if r<1 then(0,0,2,s) else if(Lm s (II r)).isSome then(0,0,13,s) else
  match(Se p).find? (Qr s p) with
  |some i=>((4*p+i.val:Nat),YI s (4*p+i.val),0,s.give (4*p+i.val) r)
  |none=>(0,0,11,s)
theorem Ou{α:Type}(f:α->Bool)(pre l:List α)(i:α)(h:pre++[i]<+:l)(hp: ∀j∈pre,f j=false)(hi:f i=true):l.find? f=some i:=by obtain⟨A3,rfl⟩:=h;rw[Am,Eg,Bq.2 (λj hj=>by simp[hp j hj])];simp[hi]
theorem lU(s:ASt)(o:Int)(p:Nat)(h:atO s o=some p):p<8:=by
 unfold atO at h
 split at h
 ·cases h
 ·exact(Qq _ _ _ h).1
theorem assign_any(b:Nat)(s:ASt)(o r:Int)(F:Ac)(hg: ∀n,n<32->0<=s.given n/\s.given n<=600000):
 Fn prog 148 [.pointer (some ⟨b,0,none⟩),.int .i64 o,.int .i64 r] (asA b s::F) λv l'=>v= .tuple #[.int .i64 (assignP s o r).1,.int .i64 (assignP s o r).2.1,.int .i64 (assignP s o r).2.2.1]/\l'=asA b (assignP s o r).2.2.2::F:=by
 refine AN func148 ntmps148 λE=>?_;refine Im λb3=>?_;refine Im λb5=>?_;refine Im λb6=>?_;refine Im λb7=>?_;refine Im λb8=>?_;cases hq:atO s o with
 |none=>refine Bh (AL rfl rfl (λl hl=>O4 b s o (-1) (by simp[WQ,hq]) l (hl _ (by exact BW)))) ?_;refine Im λb9=>?_;exact AU [] ((b6,.cells #[.int .i64 0] 3 (0,0))::(b7,.cells #[.int .i64 0] 3 (0,0))::(b8,.cells #[.int .i64 2] 29 (0,0))::asA b s::F) rfl (l':=asA b s::F) (by exact AW) (by exact Ba) (by exact AW) ⟨by simp[JH,assignP,hq],by simp[assignP,hq]⟩
 |some p=>
  have hp:=lU s o p hq;refine Bh (AL rfl rfl (λl hl=>O4 b s o p (by simp[WQ,hq]) l (hl _ (by exact BW)))) ?_;refine Im λb9=>?_;refine q6 rfl (λhr=>?_) (λhr=>?_)
  ·refine gz ?_;exact AU [] ((b6,.cells #[.int .i64 0] 3 (0,0))::(b7,.cells #[.int .i64 0] 3 (0,0))::(b8,.cells #[.int .i64 2] 29 (0,0))::asA b s::F) rfl (l':=asA b s::F) (by exact AW) (by exact Ba) (by exact AW) ⟨by simp[JH,assignP,hq,hr],by simp[assignP,hq,hr]⟩
  ·refine gz ?_;cases hf:Lm s (II r) with
   |some n=>refine Bh (AL rfl rfl (λl hl=>O2 b b5 _ s r (II r) n hf l (hl _ (by exact BW)) (hl _ (by exact BW)) (λr' q l h=>lR b5 r r' q l h))) ?_;refine Im λGd=>?_;exact AU [] ((b6,.cells #[.int .i64 0] 3 (0,0))::(b7,.cells #[.int .i64 0] 3 (0,0))::(b8,.cells #[.int .i64 13] 29 (0,0))::asA b s::F) rfl (l':=asA b s::F) (by exact AW) (by exact Ba) (by exact AW) ⟨by simp[JH,assignP,hq,hr,hf],by simp[assignP,hq,hr,hf]⟩
   |none=>
    refine Bh (AL rfl rfl (λl hl=>O3 b b5 _ s r (II r) hf l (hl _ (by exact BW)) (hl _ (by exact BW)) (λr' q l h=>lR b5 r r' q l h))) ?_;refine Im λGd=>?_;refine AS (Az rfl rfl (Ov p _)) ?_;rintro v l' ⟨B,hB,rfl,rfl⟩;refine gz ?_;refine Dg (α:=Fin 4) (ps:=[37,38]) (lb:=[.pointer (some ⟨B,0,none⟩)]) rfl (Mk B p hp) (λ_=>rfl) rfl
     (λpre l=>l=[(B,.cells #[.int .i64 (p:Nat)] 3 (0,0)),(b9,.cells #[.int .i64 (p:Nat)] 3 (0,0)),(b3,.cells #[.pointer (some ⟨b,0,none⟩)] 157 (0,0)),(b5,.cells #[.int .i64 r] 3 (0,0)),(b6,.cells #[.int .i64 0] 3 (0,0)),(b7,.cells #[.int .i64 0] 3 (0,0)),(b8,.cells #[.int .i64 0] 29 (0,0)),asA b s]/\ ∀j∈pre,Qr s p j=false)
     (λc pre l=>c= .ret/\ ∃(G8:List (Fin 4)) (i:Fin 4),pre=G8++[i]/\(∀j∈G8,Qr s p j=false)/\Qr s p i=true/\l=[(b6,.cells #[.int .i64 ((4*p+i.val:Nat):Int)] 3 (0,0)),(b7,.cells #[.int .i64 (YI s (4*p+i.val))] 3 (0,0)),(b8,.cells #[.int .i64 0] 29 (0,0)),asA b (s.give (4*p+i.val) r)])
     _ F (λpre l X _ h=>by rw[h.1];exact List.Mem.head _) (by exact AW) ⟨rfl,by simp⟩ ?_ ?_ ?_
    ·rintro E r0 FU pre y l' T ⟨fn,tmps,D,rfl⟩ hT ⟨rfl,Gn⟩ Dw;have uv:=y.isLt;have hgn:=hg (4*p+y.val) Af;have qr:=s.c_root p y.val hp uv;have qg:=s.c_given (4*p+y.val) Af;simp only[DX,Ae,Ag];refine gz ?_;refine CK (by exact DY) ?_;refine gz ?_;have R6:Qr s p y=(s.root (4*p+y.val)==0&&decide (YI s (4*p+y.val)<=16777215)):=rfl;have hso:YI s (4*p+y.val)=((4*p+y.val:Nat):Int)+32*s.given (4*p+y.val):=rfl;have IU:Qr s p y=false-> ∀j∈pre++[y],Qr s p j=false:=by
      intro h j hj;rcases AF.1 hj with hj|hj
      ·exact Gn j hj
      ·simp at hj;subst hj;exact h
     rw[<-hso];obtain⟨q,hqe⟩: ∃q,YI s (4*p+y.val)=q:=⟨_,rfl⟩
     have e1:=s.s_given (4*p+y.val) Af (s.given (4*p+y.val)+1);obtain⟨s1,Sn⟩: ∃s1:ASt,{s with given:=upd s.given (4*p+y.val) (s.given (4*p+y.val)+1)}=s1:=⟨_,rfl⟩
     rw[Sn] at e1;have e2:=s1.s_root p y.val hp uv r;obtain⟨s2,M1⟩: ∃s2:ASt,{s1 with root:=upd s1.root (4*p+y.val) r}=s2:=⟨_,rfl⟩
     rw[M1] at e2;have e3:=s2.s_ser p y.val hp uv q;obtain⟨s3,RA⟩: ∃s3:ASt,{s2 with ser:=upd s2.ser (4*p+y.val) q}=s3:=⟨_,rfl⟩
     rw[RA] at e3;have RA:s3=s.give (4*p+y.val) r:=by rw[<-RA,<-M1,<-Sn,<-hqe];rfl
     rw[hqe] at R6 hso⊢;by_cases dz:s.root (4*p+y.val)=0
     ·refine Cm [] 14 _ ?_ (hR:=(λ_ h=>h));refine pz ?_;by_cases M3:16777215<q
      ·refine gz ?_;refine Ci [(B,.cells #[.int .i64 (p:Nat)] 3 (0,0)),(b9,.cells #[.int .i64 (p:Nat)] 3 (0,0)),(b3,.cells #[.pointer (some ⟨b,0,none⟩)] 157 (0,0)),(b5,.cells #[.int .i64 r] 3 (0,0)),(b6,.cells #[.int .i64 0] 3 (0,0)),(b7,.cells #[.int .i64 0] 3 (0,0)),(b8,.cells #[.int .i64 0] 29 (0,0)),asA b s] (by exact AW) ⟨rfl,IU (by rw[R6];simp[dz];omega)⟩
      ·refine gz ?_;refine Li [(0,true),(1,true),(2,true),(3,true),(4,true),(7,true),(8,true),(5,false),(6,true),(9,true),(10,false)] [[],[],[0],[0,2],[0,1,2,3],[0,1,2,3,4],[0,1,2,3,4,5],[0],[0,7],[0,1,2,3,4,5,6,7,8],[0,1,2,3,4,5,6,7,8,9]] ([(B,.cells #[.int .i64 (p:Nat)] 3 (0,0)),(b9,.cells #[.int .i64 (p:Nat)] 3 (0,0)),(b3,.cells #[.pointer (some ⟨b,0,none⟩)] 157 (0,0)),(b5,.cells #[.int .i64 r] 3 (0,0))]) BA BA GH UX ?_;refine pz ?_;apply Oe
       ·exact Du (cs:=s.cells) rfl rfl rfl (by exact DY) (by rw[ASt.cells_size];omega)
       ·rfl
       ·rfl
       ·rintro _ _ ⟨rfl,rfl⟩;exact(Cg (by exact MG))
       rintro _ _ ⟨rfl,rfl⟩;rw[e1];refine pz ?_;refine gz ?_;refine Li [(0,true),(1,true),(2,true),(3,true),(4,true),(5,true),(6,true),(7,true),(8,true),(9,true),(10,true),(11,true),(12,true),(14,true),(15,true),(16,true),(17,true),(13,false),(18,true),(19,false)] [[],[],[],[],[],[],[],[],[0],[0,8],[0,1,8,9],[0,1,8,9,10],[0,1,2,6,8,9,10,11],[0,1,2,6,8,9,10,11,12],[3],[3,14],[3,4,14,15],[3,4,14,15,16],[0,1,2,3,4,5,6,7,8,9,10,11,12,13,14,15,16,17],[0,1,2,3,4,5,6,7,8,9,10,11,12,13,14,15,16,17,18]] ([(B,.cells #[.int .i64 (p:Nat)] 3 (0,0)),(b9,.cells #[.int .i64 (p:Nat)] 3 (0,0)),(b3,.cells #[.pointer (some ⟨b,0,none⟩)] 157 (0,0)),(b5,.cells #[.int .i64 r] 3 (0,0))]) BA BA GH UX ?_;refine pz ?_;apply Oe
       ·exact Du (cs:=s1.cells) rfl rfl rfl (by exact DY) (by rw[ASt.cells_size];omega)
       ·rfl
       ·rfl
       ·rintro _ _ ⟨rfl,rfl⟩;exact(Cg (by exact MG))
       rintro _ _ ⟨rfl,rfl⟩;rw[e2];refine pz ?_;apply Oe
       ·exact Du (cs:=s2.cells) rfl rfl rfl (by exact DY) (by rw[ASt.cells_size];omega)
       ·rfl
       ·rfl
       ·rintro _ _ ⟨rfl,rfl⟩;exact(Cg (by exact MG))
       rintro _ _ ⟨rfl,rfl⟩;rw[e3];refine pz ?_;refine gz ?_;refine EI [(b6,.cells #[.int .i64 ((4*p+y.val:Nat):Int)] 3 (0,0)),(b7,.cells #[.int .i64 q] 3 (0,0)),(b8,.cells #[.int .i64 0] 29 (0,0)),asA b s3] (by exact AW) ⟨rfl,pre,y,rfl,Gn,by rw[R6];simp[dz];omega,?_⟩;rw[RA,hqe]
     ·refine Cm [] 14 _ ?_ (hR:=(λ_ h=>h));refine pz ?_;refine gz ?_;refine Ci [(B,.cells #[.int .i64 (p:Nat)] 3 (0,0)),(b9,.cells #[.int .i64 (p:Nat)] 3 (0,0)),(b3,.cells #[.pointer (some ⟨b,0,none⟩)] 157 (0,0)),(b5,.cells #[.int .i64 r] 3 (0,0)),(b6,.cells #[.int .i64 0] 3 (0,0)),(b7,.cells #[.int .i64 0] 3 (0,0)),(b8,.cells #[.int .i64 0] 29 (0,0)),asA b s] (by exact AW) ⟨rfl,IU (by rw[R6];simp[dz])⟩
    ·rintro D xs l' rfl ⟨rfl,Gn⟩;have IU:(Se p).find? (Qr s p)=none:=Bq.2 λj hj=>by simp[Gn j hj]
     simp only[Ae,Ag];refine gz ?_;exact AU [D] ((b6,.cells #[.int .i64 0] 3 (0,0))::(b7,.cells #[.int .i64 0] 3 (0,0))::(b8,.cells #[.int .i64 11] 29 (0,0))::asA b s::F) rfl (l':=asA b s::F) (by exact AW) (by exact Ba) (by exact AW) ⟨by simp[JH,assignP,hq,hr,hf,IU],by simp[assignP,hq,hr,hf,IU]⟩
    ·rintro D c pre l' Dw ⟨rfl,G8,i,rfl,km,hi,rfl⟩;have ae:=Ou (Qr s p) G8 _ i Dw km hi;simp only[Ae,Ag];refine gz ?_;exact AU [D] ((b6,.cells #[.int .i64 ((4*p+i.val:Nat):Int)] 3 (0,0))::(b7,.cells #[.int .i64 (YI s (4*p+i.val))] 3 (0,0))::(b8,.cells #[.int .i64 0] 29 (0,0))::asA b (s.give (4*p+i.val) r)::F) rfl (l':=asA b (s.give (4*p+i.val) r)::F) (by exact AW) (by exact Ba) (by exact AW) ⟨by simp[JH,assignP,hq,hr,hf,ae],by simp[assignP,hq,hr,hf,ae]⟩
end As
open Go.RowKit
set_option maxRecDepth 20000
theorem DB(x lo hi:Int)(l:Ac):Fn prog 243 [.int .i64 x,.int .i64 lo,.int .i64 hi] l λv l'=>v= .bool (decide (lo<=x)&&decide (x<=hi))/\l'=l:=by
 refine AN func243 ntmps243 λE=>?_;by_cases h:lo<=x
 ·rw[Au h,Bw];exact E3
 ·rw[Aw h,Bi];exact E3
theorem aT(x:Int)(l:Ac):Fn prog 245 [.int .i64 x] l λv l'=>v= .bool (decide (0<=x)&&decide (x<=7))/\l'=l:=by
 refine AN func245 ntmps245 λE=>?_;by_cases h:0<=x
 ·rw[Au h,Bw];exact E3
 ·rw[Aw h,Bi];exact E3
def GU(v k:Nat):List Nat:=(List.range k).filter λi=>v.testBit i
theorem TM(h:v.testBit k=true):GU v (k+1)=GU v k++[k]:=by unfold GU;rw[CC,DJ,List.filter_cons_of_pos h];rfl
theorem YJ(h:v.testBit k=false):GU v (k+1)=GU v k:=by unfold GU;rw[CC,DJ,IQ (by rw[h];simp)];simp
theorem TN(v k:Nat): ∀m,GU v k<+:GU v (k+m)
 |0=>GZ
 |m+1=>(TN v k m).trans (by
   show GU v (k+m)<+:GU v (k+m+1);cases h:v.testBit (k+m) with
   |true=>rw[TM h];exact GP _ _
   |false=>rw[YJ h];exact GZ)
abbrev Rj(B v:Nat):Bd:=(B,.cells #[.int .u64 (v:Nat)] 34 (0,0))
theorem lV(v:Nat)(l:Ac):Fn prog 312 [.int .u64 (v:Nat)] l λr l'=> ∃B,r= .func (.func 357) #[] #[.pointer (some ⟨B,0,none⟩)]/\l'=Rj B v::l:=by refine AN func312 ntmps312 λE=>?_;refine gz ?_;refine AS (Ez rfl rfl) ?_;rintro _ _ ⟨B,hB,rfl,rfl⟩;refine gz ?_;exact Bb .refl ⟨B,rfl,rfl⟩
theorem ia(B v:Nat)(hv:v<18446744073709551616):FC prog 357 [.pointer (some ⟨B,0,none⟩)] (λi:Nat=>[.int .i64 i]) (λxs=>xs=GU v 64) (λpre=>pre<+:GU v 64)
 (λ_ l=>Rj B v∈l):=by
 refine⟨λr I Ix G0 Cb hY l G hG h0=>?_⟩;refine AN func357 ntmps357 λE=>?_;refine gz ?_;refine CN (α:=Nat×Ac) (λx=>[(0,.func (.yield r) #[] #[]),(1,.pointer (some ⟨B,0,none⟩)),(4,.int .i64 x.1)]) (λx=>x.2++G) (λx=>x.1<=64/\I (GU v x.1) x.2) (λx=>64-x.1) (0,l) ⟨Bp _,h0⟩ ⟨rfl,rfl,rfl,trivial⟩ .refl ?_;rintro⟨k,l⟩ ⟨hk,hI⟩;simp only at hk hI⊢;have hm:=Cb _ _ G hG hI;by_cases C9:k<64
 ·refine gz ?_;refine Bh (uW (n:=k) rfl rfl (by show k<=64;omega)) ?_;have dA:((v:Nat):Int)/2^k=((v/2^k:Nat):Int):=by norm_cast
  rw[dA];refine Bh (uX (b:=1) rfl rfl (Ev (Nat.div_le_self _ _) hv) Af) ?_;rw[Nat.and_one_is_mod];cases hb:v.testBit k with
  |true=>
   have Ww:v/2^k%2=1:=by rw[DW] at hb;simpa using hb
   have hp:GU v k++[k]<+:GU v 64:=by rw[<-TM hb];have:=TN v (k+1) (64-(k+1));rw[show k+1+(64-(k+1))=64 by omega] at this;exact this
   have hy:=hY (GU v k) k l G hG hI hp;rw[Ww];refine gz ?_;refine JB (C5 rfl rfl hy) rfl rfl rfl ?_;rintro w l' ⟨l1,rfl,⟨rfl,LB⟩|⟨rfl,hx⟩⟩
   ·refine gz ?_;exact BO (k+1,l1) ⟨by simp only;omega,by simp only;rw[TM hb];exact LB⟩ (by simp only;omega) ⟨rfl,rfl,rfl,trivial⟩ .refl
   ·refine gz ?_;exact Bb .refl ⟨l1,rfl,.inr ⟨_,hp,hx⟩⟩
  |false=>
   have Ww:v/2^k%2=0:=by rw[DW] at hb;simp at hb;omega
   rw[Ww];refine gz ?_;exact BO (k+1,l) ⟨by simp only;omega,by simp only;rw[YJ hb];exact hI⟩ (by simp only;omega) ⟨rfl,rfl,rfl,trivial⟩ .refl
 ·obtain rfl:k=64:=by omega
  refine gz ?_;exact Bb .refl ⟨l,rfl,.inl ⟨_,rfl,hI⟩⟩
def Ln(v:Nat)(n:Int):Bool:=(GU v 64).all λj=>decide ((j:Int)<n)
abbrev bC(B:Nat)(x:Bool):Bd:=(B,.cells #[.bool x] 4 (0,0))
abbrev GJ(B:Nat)(x:Int):Bd:=(B,.cells #[.int .i64 x] 3 (0,0))
theorem Qs(v:Nat)(hv:v<18446744073709551616)(n:Int)(l:Ac):Fn prog 244 [.int .u64 (v:Nat),.int .i64 n] l λr l'=>r= .bool (Ln v n)/\l'=l:=by
 refine AN func244 ntmps244 λE=>?_;refine Im λb3=>?_;refine Im λb4=>?_;refine AS (Az rfl rfl (lV v _)) ?_;rintro _ _ ⟨B,rfl,rfl⟩;refine gz ?_;refine Dg (α:=Nat) (ps:=[8]) (lb:=[.pointer (some ⟨B,0,none⟩)]) rfl (ia B v hv) (λ_=>rfl) rfl
  (λpre l=>l=[Rj B v,bC b4 false,GJ b3 n]/\ ∀j,j∈pre->(j:Int)<n)
  (λc pre l=>c= .ret/\(∃j,j∈pre/\¬(j:Int)<n)/\l=[bC b4 false])
  _ l (λpre l2 X2 hX h=>by rw[h.1];exact List.Mem.head _) (by exact AW) ⟨rfl,by simp⟩ ?_ ?_ ?_
 ·rintro E r0 FU pre y l' T ⟨fn,tmps,D,rfl⟩ hT ⟨rfl,Gn⟩ Dw;simp only[DX,Ae,Ag];refine gz ?_;refine CK (by exact DY) ?_;by_cases hy:(y:Int)<n
  ·refine gz ?_;refine Ci _ .refl ⟨rfl,λj hj=>?_⟩;rcases AF.1 hj with hj|hj
   ·exact Gn j hj
   ·rw[AC.1 hj];exact hy
  ·refine gz ?_;exact EI [bC b4 false] (by exact AW) ⟨rfl,⟨y,by simp,hy⟩,rfl⟩
 ·rintro D xs l' rfl ⟨rfl,Gn⟩;have e:Ln v n=true:=by unfold Ln;exact A5.2 λj hj=>by simpa using Gn j hj
  rw[e];simp only[Ae,Ag];refine gz ?_;exact AU [D] (bC b4 true::l) rfl (l':=l) (by exact AW) (by exact Ba) (.drop .refl) ⟨rfl,rfl⟩
 ·rintro D c pre l' Dw ⟨rfl,⟨j,hj,hn⟩,rfl⟩;have e:Ln v n=false:=by
   cases h:Ln v n with
   |false=>rfl
   |true=>exact absurd (by simpa using A5.1 h j (Dw.subset hj)) hn
  rw[e];simp only[Ae,Ag];refine gz ?_;exact AU [D] (bC b4 false::l) rfl (l':=l) (by exact AW) (by exact Ba) (.drop .refl) ⟨rfl,rfl⟩
structure CapT where
 kind:Int
 obj:Int
 rights:Int
 badge:Int
 guard:Int
 bits:Int
 serial:Int
 page:Int
variable{c x:CapT}{C:List CapT}
abbrev B0(c:CapT):Ap:=[.int .i64 c.kind,.int .i64 c.obj,.int .i64 c.rights,.int .u64 c.badge,.int .i64 c.guard,.int .i64 c.bits,.int .i64 c.serial,.int .i64 c.page]
abbrev xD:List (Option IntKind):=[some .i64,some .i64,some .i64,some .u64,some .i64,some .i64,some .i64,some .i64]
theorem EA(c:CapT):AllK xD (B0 c):=⟨_,_,rfl,⟨_,rfl⟩,_,_,rfl,⟨_,rfl⟩,_,_,rfl,⟨_,rfl⟩,_,_,rfl,⟨_,rfl⟩,_,_,rfl,⟨_,rfl⟩,_,_,rfl,⟨_,rfl⟩,_,_,rfl,⟨_,rfl⟩,_,_,rfl,⟨_,rfl⟩,rfl⟩
theorem YK: ∀x y,B0 x=B0 y->x=y:=λx y h=>by cases x;cases y;simp only[B0,Co,Value.int.injEq,Io,Jg] at h;simp only[CapT.mk.injEq];exact h
instance:EQ prog 74 xD:=⟨BA⟩
abbrev Bz(B:Nat)(c:CapT):Bd:=(B,.cells (toArray (B0 c)) 74 (0,0))
def Ms(a b:CapT):Bool:=Ca (B0 a) (B0 b)
theorem WU{a b:CapT}:Ms a b=true<->a=b:=by unfold Ms;rw[GM (EA a) (EA b)];exact⟨YK a b,λh=>by rw[h]⟩
def Sf(x:Int):Nat:=(x%18446744073709551616).toNat
theorem rF(x:Int):Sf x<18446744073709551616:=by have h1:=Int.emod_nonneg x (b:=(18446744073709551616:Int)) Af;have h2:=Int.emod_lt_of_pos x (b:=(18446744073709551616:Int)) Af;unfold Sf;omega
theorem VQ(x:Int):IntKind.u64.wrap x=((Sf x:Nat):Int):=by
 have h1:=Int.emod_nonneg x (b:=(18446744073709551616:Int)) Af;have:IntKind.u64.wrap x=x%18446744073709551616:=by simp[IntKind.wrap,IntKind.signed,IntKind.bits]
 rw[this];unfold Sf;omega
def NH(x:Int):Bool:=decide (1<=x)&&decide (x<=65535)
abbrev eh(c:CapT):CapT:=⟨c.kind,0,0,0,0,0,0,0⟩
abbrev If(c:CapT):CapT:=⟨c.kind,c.obj,0,0,0,0,0,0⟩
abbrev VR(c:CapT):CapT:=⟨c.kind,c.obj,0,0,c.guard,c.bits,0,0⟩
abbrev L6(c:CapT):CapT:=⟨c.kind,c.obj,c.rights,0,0,0,c.serial,c.page⟩
abbrev VS(c:CapT):CapT:=⟨c.kind,c.obj,c.rights,c.badge,0,0,0,0⟩
def ei(c:CapT):Bool:=(decide (0<=c.bits)&&decide (c.bits<=12))&&(decide (0<=c.guard)&&Ln (Sf c.guard) c.bits)
def Nm(c:CapT):Bool:=(decide (1<=c.serial)&&decide (c.serial<=16777215))&&(decide (0<=c.page)&&decide (c.page<=511))
def aU(c:CapT):Bool:=(decide (1<=c.rights)&&decide (c.rights<=3))&&(Nm c||(decide (c.serial=0)&&decide (c.page=0)))
def xE(c:CapT):Bool:=(decide (0<=c.rights)&&decide (c.rights<=7))&&decide (c.badge<=16777215)
def FG(c:CapT):Bool:=
 if c.kind=0\/c.kind=7 then Ms c (eh c)
 else if c.kind=1\/c.kind=4\/c.kind=5\/c.kind=6\/c.kind=9 then Ms c (If c)&&NH c.obj
 else if c.kind=2 then ei c&&(Ms c (VR c)&&NH c.obj)
 else if c.kind=3 then aU c&&(Ms c (L6 c)&&NH c.obj)
 else if c.kind=8 then xE c&&(Ms c (VS c)&&NH c.obj)
 else false
set_option maxRecDepth 20000 in
theorem It(c:CapT)(l:Ac):Fn prog 185 [.agg (toArray (B0 c))] l λv l'=>v= .bool (FG c)/\l'=l:=by
 refine AN func185 ntmps185 λE=>?_;refine AQ λb1=>?_;refine AS e_alloc ?_;rintro _ _ ⟨b3,_,rfl,rfl⟩;iterate 10 refine aJ ?_
 by_cases h0:c.kind=0\/c.kind=7
 ·have e:FG c=Ms c (eh c):=by unfold FG;rw[Ad h0]
  rw[e];rcases h0 with h0|h0
  ·refine Aj ?_;refine Bh (Gx (ys:=B0 (eh c)) rfl rfl (EA c) (EA _)) ?_;exact E3
  ·refine Aj ?_;refine Bh (Gx (ys:=B0 (eh c)) rfl rfl (EA c) (EA _)) ?_;exact E3
 by_cases h1:c.kind=1\/c.kind=4\/c.kind=5\/c.kind=6\/c.kind=9
 ·have e:FG c=(Ms c (If c)&&NH c.obj):=by unfold FG;rw[Ab h0,Ad h1]
  rw[e];unfold NH;rcases h1 with h1|h1|h1|h1|h1
  ·refine Aj ?_;refine Bh (Gx (ys:=B0 (If c)) rfl rfl (EA c) (EA _)) ?_;rw[show Ca (B0 c) (B0 (If c))=Ms c (If c) from rfl];cases he:Ms c (If c) with
   |false=>rw[Bi];exact E3
   |true=>rw[Bw];refine Aj ?_;refine NY (AL rfl rfl λl2 _=>DB c.obj 1 65535 l2) rfl rfl rfl ?_;exact E3
  ·refine Aj ?_;refine Bh (Gx (ys:=B0 (If c)) rfl rfl (EA c) (EA _)) ?_;rw[show Ca (B0 c) (B0 (If c))=Ms c (If c) from rfl];cases he:Ms c (If c) with
   |false=>rw[Bi];exact E3
   |true=>rw[Bw];refine Aj ?_;refine NY (AL rfl rfl λl2 _=>DB c.obj 1 65535 l2) rfl rfl rfl ?_;exact E3
  ·refine Aj ?_;refine Bh (Gx (ys:=B0 (If c)) rfl rfl (EA c) (EA _)) ?_;rw[show Ca (B0 c) (B0 (If c))=Ms c (If c) from rfl];cases he:Ms c (If c) with
   |false=>rw[Bi];exact E3
   |true=>rw[Bw];refine Aj ?_;refine NY (AL rfl rfl λl2 _=>DB c.obj 1 65535 l2) rfl rfl rfl ?_;exact E3
  ·refine Aj ?_;refine Bh (Gx (ys:=B0 (If c)) rfl rfl (EA c) (EA _)) ?_;rw[show Ca (B0 c) (B0 (If c))=Ms c (If c) from rfl];cases he:Ms c (If c) with
   |false=>rw[Bi];exact E3
   |true=>rw[Bw];refine Aj ?_;refine NY (AL rfl rfl λl2 _=>DB c.obj 1 65535 l2) rfl rfl rfl ?_;exact E3
  ·refine Aj ?_;refine Bh (Gx (ys:=B0 (If c)) rfl rfl (EA c) (EA _)) ?_;rw[show Ca (B0 c) (B0 (If c))=Ms c (If c) from rfl];cases he:Ms c (If c) with
   |false=>rw[Bi];exact E3
   |true=>rw[Bw];refine Aj ?_;refine NY (AL rfl rfl λl2 _=>DB c.obj 1 65535 l2) rfl rfl rfl ?_;exact E3
 by_cases h2:c.kind=2
 ·have e:FG c=(ei c&&(Ms c (VR c)&&NH c.obj)):=by unfold FG;rw[Ab h0,Ab h1,Ad h2]
  rw[e];unfold ei NH;refine Aj ?_;refine Cm [5,7] 8 ([Bz b1 c]) ?_;refine BM ?_;refine Aj ?_;refine Bh (AL rfl rfl λl2 _=>DB c.bits 0 12 l2) ?_;cases k1:(decide (0<=c.bits)&&decide (c.bits<=12)) with
  |false=>rw[Bi,Bi];exact E3
  |true=>
   rw[Bw];by_cases k2:0<=c.guard
   case neg=>rw[Aw k2,Bi,Bi];exact E3
   rw[Au k2,Bw];refine Aj ?_;refine NY (Qe rfl) rfl rfl rfl ?_;rw[VQ];refine Aj ?_;refine NY (AL rfl rfl λl2 _=>Qs (Sf c.guard) (rF _) c.bits l2) rfl rfl rfl ?_;cases k3:Ln (Sf c.guard) c.bits with
   |false=>rw[Bi];exact E3
   |true=>
    rw[Bw];refine Aj ?_;refine Bh (Gx (ys:=B0 (VR c)) rfl rfl (EA c) (EA _)) ?_;rw[show Ca (B0 c) (B0 (VR c))=Ms c (VR c) from rfl];cases he:Ms c (VR c) with
    |false=>rw[Bi];exact E3
    |true=>rw[Bw];refine Aj ?_;refine NY (AL rfl rfl λl2 _=>DB c.obj 1 65535 l2) rfl rfl rfl ?_;exact E3
 by_cases h3:c.kind=3
 ·have e:FG c=(aU c&&(Ms c (L6 c)&&NH c.obj)):=by unfold FG;rw[Ab h0,Ab h1,Ab h2,Ad h3]
  rw[e];unfold aU NH;refine Aj ?_;refine Cm [7,9,11] 12 ([Bz b1 c]) ?_;refine BM ?_;refine Aj ?_;refine Bh (AL rfl rfl λl2 _=>DB c.serial 1 16777215 l2) ?_;cases k1:(decide (1<=c.serial)&&decide (c.serial<=16777215)) with
  |false=>
   have kp:Nm c=false:=by unfold Nm;rw[k1];rfl
   refine Aj ?_;refine Bh (AL rfl rfl λl2 _=>DB c.rights 1 3 l2) ?_;cases kr:(decide (1<=c.rights)&&decide (c.rights<=3)) with
   |false=>rw[Bi,Bi];exact E3
   |true=>
    rw[Bw];rw[kp,Mh];by_cases ks:c.serial=0
    case neg=>rw[Aw ks,Bi,Bi];exact E3
    rw[Au ks,Bw];by_cases kg:c.page=0
    case neg=>rw[Aw kg,Bi];exact E3
    rw[Au kg,Bw];refine Aj ?_;refine Bh (Gx (ys:=B0 (L6 c)) rfl rfl (EA c) (EA _)) ?_;rw[show Ca (B0 c) (B0 (L6 c))=Ms c (L6 c) from rfl];cases he:Ms c (L6 c) with
    |false=>rw[Bi];exact E3
    |true=>rw[Bw];refine Aj ?_;refine NY (AL rfl rfl λl2 _=>DB c.obj 1 65535 l2) rfl rfl rfl ?_;exact E3
  |true=>
   refine Aj ?_;refine NY (AL rfl rfl λl2 _=>DB c.page 0 511 l2) rfl rfl rfl ?_;cases k2:(decide (0<=c.page)&&decide (c.page<=511)) with
   |false=>
    have kp:Nm c=false:=by unfold Nm;rw[k1,k2];rfl
    refine Aj ?_;refine Bh (AL rfl rfl λl2 _=>DB c.rights 1 3 l2) ?_;cases kr:(decide (1<=c.rights)&&decide (c.rights<=3)) with
    |false=>rw[Bi,Bi];exact E3
    |true=>
     rw[Bw];rw[kp,Mh];by_cases ks:c.serial=0
     case neg=>rw[Aw ks,Bi,Bi];exact E3
     rw[Au ks,Bw];by_cases kg:c.page=0
     case neg=>rw[Aw kg,Bi];exact E3
     rw[Au kg,Bw];refine Aj ?_;refine Bh (Gx (ys:=B0 (L6 c)) rfl rfl (EA c) (EA _)) ?_;rw[show Ca (B0 c) (B0 (L6 c))=Ms c (L6 c) from rfl];cases he:Ms c (L6 c) with
     |false=>rw[Bi];exact E3
     |true=>rw[Bw];refine Aj ?_;refine NY (AL rfl rfl λl2 _=>DB c.obj 1 65535 l2) rfl rfl rfl ?_;exact E3
   |true=>
    have kp:Nm c=true:=by unfold Nm;rw[k1,k2];rfl
    refine Aj ?_;refine Bh (AL rfl rfl λl2 _=>DB c.rights 1 3 l2) ?_;cases kr:(decide (1<=c.rights)&&decide (c.rights<=3)) with
    |false=>rw[Bi,Bi];exact E3
    |true=>
     rw[Bw];rw[kp,Bool.true_or,Bw];refine Aj ?_;refine Bh (Gx (ys:=B0 (L6 c)) rfl rfl (EA c) (EA _)) ?_;rw[show Ca (B0 c) (B0 (L6 c))=Ms c (L6 c) from rfl];cases he:Ms c (L6 c) with
     |false=>rw[Bi];exact E3
     |true=>rw[Bw];refine Aj ?_;refine NY (AL rfl rfl λl2 _=>DB c.obj 1 65535 l2) rfl rfl rfl ?_;exact E3
 by_cases h8:c.kind=8
 ·have e:FG c=(xE c&&(Ms c (VS c)&&NH c.obj)):=by unfold FG;rw[Ab h0,Ab h1,Ab h2,Ab h3,Ad h8]
  rw[e];unfold xE NH;refine Aj ?_;refine Cm [5,7] 8 ([Bz b1 c]) ?_;refine BM ?_;refine Aj ?_;refine Bh (AL rfl rfl λl2 _=>aT c.rights l2) ?_;cases k1:(decide (0<=c.rights)&&decide (c.rights<=7)) with
  |false=>rw[Bi,Bi];exact E3
  |true=>
   rw[Bw];by_cases k2:c.badge<=16777215
   case neg=>rw[Aw k2,Bi];exact E3
   rw[Au k2,Bw];refine Aj ?_;refine Bh (Gx (ys:=B0 (VS c)) rfl rfl (EA c) (EA _)) ?_;rw[show Ca (B0 c) (B0 (VS c))=Ms c (VS c) from rfl];cases he:Ms c (VS c) with
   |false=>rw[Bi];exact E3
   |true=>rw[Bw];refine Aj ?_;refine NY (AL rfl rfl λl2 _=>DB c.obj 1 65535 l2) rfl rfl rfl ?_;exact E3
 have e:FG c=false:=by unfold FG;rw[Ab h0,Ab h1,Ab h2,Ab h3,Ab h8]
 rw[e];exact E3
theorem TO{j:Nat}:j∈GU v k<->j<k/\v.testBit j=true:=by unfold GU;rw[BY,Dz]
theorem YL(hv:v<18446744073709551616)(hn:n<=64):Ln v n=decide (v<2^n):=by
 by_cases h:v<2^n
 ·rw[Au h];unfold Ln;refine A5.2 λj hj=>?_;obtain⟨h1,h2⟩:=TO.1 hj;refine Au ?_;by_cases hjn:j<n
  ·omega
  ·exfalso;have h3:v<2^j:=Ex h (CZ Af Af);rw[Fk h3] at h2;cases h2
 ·rw[Aw h];cases hf:Ln v n with
  |false=>rfl
  |true=>
   exfalso;refine h (Nat.lt_pow_two_of_testBit v λi hi=>?_);cases hb:v.testBit i with
   |false=>rfl
   |true=>
    exfalso;by_cases AdO:i<64
    ·have:=A5.1 hf i (TO.2 ⟨AdO,hb⟩);simp at this;omega
    ·have h3:v<2^i:=Ex hv (by
      have:=CZ (n:=2) Af (show 64<=i by omega);exact BV AX this)
     rw[Fk h3] at hb;cases hb
structure Jn(c:CapT):Prop where
 badge:0<=c.badge
 guard:c.guard<=9223372036854775807
def IJ(a b:CapT):Bool:=FG a&&FG b&&!decide (a.kind=0)&&decide (a.kind=b.kind)&&decide (a.obj=b.obj)
theorem KS(a:Int): ∀(es:List LE) (i:Nat),Ha a es i=E0 a es i
 |[],i=>rfl
 |e::es,i=>by unfold Ha E0;rw[KS a es (i+1)]
theorem JV(a:Int)(es:List LE):LF a es=HW a es:=by unfold LF HW;rw[KS]
theorem WV(a:Int)(v:Value)(clock:Nat)(es:List LE):Og a v clock es=LI a v clock es:=by unfold Og LI;rw[KS]<;>rfl
theorem aV(a:Int)(es:List LE):PJ a es=Po a es:=by unfold PJ Po;rw[KS]<;>rfl
theorem TP:a∈es.map (·.1)<->(HW a es).isSome=true:=by
 unfold HW;cases h:E0 a es 0 with
 |none=>
  simp only[DK,FA,Bm,iff_false];exact λhm=>by obtain⟨e,he,h2⟩:=Av.1 hm;exact IH.1 h e he h2
 |some p=>obtain⟨A,e,B,rfl,_,h1,_⟩:=HC (k:=p.1) (v:=p.2) h;simp[h1]
theorem Fs{α:Type}(p:α->Bool): ∀(A B:List α),(A++B).find? p=(A.find? p).or (B.find? p)
 |[],B=>rfl
 |x::A,B=>by
  rw[Ae,BJ,BJ];cases p x with
  |true=>rfl
  |false=>exact Fs p A B
theorem Lo{α:Type}{p q:α->Bool}: ∀{l:List α},(∀x,x∈l->p x=q x)->l.find? p=l.find? q
 |[],_=>rfl
 |x::l,h=>by rw[BJ,BJ,h x Ak,Lo λy hy=>h y (An _ hy)]
section
variable{key:α->Int}{val:α->Value}
def D7(key:α->Int)(L:List α)(a:Int):Option α:=L.find? λt=>decide (key t=a)
structure MB(key:α->Int)(val:α->Value)(L:List α)(es:List LE)(clock:Nat):Prop where
 ok:KeysOk es clock
 get: ∀a,LF a es=(D7 key L a).map val
 asc:L.Pairwise λx y=>key x<key y
theorem MB.zero:MB key val [] [] 0:=⟨⟨by simp,by simp,by simp⟩,λa=>rfl,by simp⟩
theorem Ff{L:List α}{t:α}(h:D7 key L a=some t):t∈L/\key t=a:=⟨Bt h,by simpa using Et h⟩
theorem Gq{L:List α}:D7 key L a=none<-> ∀t,t∈L->key t≠a:=by unfold D7;rw[Bq];simp
theorem MB.nd{L:List α}(h:MB key val L es clock):(L.map key).Nodup:=by refine(Cx.2 (h.asc.imp λUT=>?_));omega
theorem MB.keys{L:List α}(h:MB key val L es clock):(es.map (·.1)).Perm (L.map key):=by
 refine(FB h.ok.keys h.nd).2 λa=>?_;rw[TP,<-JV,h.get];cases hf:D7 key L a with
 |none=>
  simp only[DK,FA,Bm,false_iff];exact λhm=>by obtain⟨t,ht,h2⟩:=Av.1 hm;exact Gq.1 hf t ht h2
 |some t=>obtain⟨h1,h2⟩:=Ff hf;simp only[BU,IE,true_iff];exact Av.2 ⟨t,h1,h2⟩
theorem MB.len{L:List α}(h:MB key val L es clock):es.length=L.length:=by simpa using h.keys.length_eq
theorem MB.at_{L:List α}(h:MB key val L es clock){t:α}(ht:t∈L):D7 key L (key t)=some t:=by
 cases hf:D7 key L (key t) with
 |none=>exact absurd rfl (Gq.1 hf t ht)
 |some u=>obtain⟨h1,h2⟩:=Ff hf;rw[Om h.nd h1 ht h2]
def MK(key:α->Int)(L:List α)(t:α):List α:=L.takeWhile (λx=>decide (key x<key t))++t::L.dropWhile λx=>decide (key x<key t)
theorem VT{L:List α}(hs:L.Pairwise λx y=>key x<key y)(He: ∀x,x∈L->key x≠a): ∃W Z,L.takeWhile (λx=>decide (key x<a))=W/\L.dropWhile (λx=>decide (key x<a))=Z/\L=W++Z/\(∀x,x∈W->key x<a)/\(∀x,x∈Z->a<key x):=by
 have hL:L.takeWhile (λx=>decide (key x<a))++L.dropWhile (λx=>decide (key x<a))=L:=Cd ..;refine⟨_,_,rfl,rfl,hL.symm,λx hx=>by simpa using A5.1 (IF (l:=L) (p:=λx=>decide (key x<a))) x hx,λx hx=>?_⟩;rw[<-hL,Br] at hs;cases hd:L.dropWhile (λx=>decide (key x<a)) with
 |nil=>rw[hd] at hx;cases hx
 |cons y r=>
  have hy:¬key y<a:=by have:=List.head?_dropWhile_not (λx:α=>decide (key x<a)) L;rw[hd] at this;simpa using this
  have hyL:y∈L:=(Je _).subset (by rw[hd];exact Ak);have:=He y hyL;rw[hd] at hx;rcases At.1 hx with rfl|hx
  ·omega
  ·have h2:=hs.2.1;rw[hd] at h2;have:=(Cf.1 h2).1 x hx;omega
theorem MB.add{L:List α}(h:MB key val L es clock){t:α}(hn:D7 key L (key t)=none):MB key val (MK key L t) (Og (key t) (val t) clock es).1 (Og (key t) (val t) clock es).2:=by
 have He:=Gq.1 hn;obtain⟨W,Z,e1,e2,hL,GD,XW⟩:=VT h.asc He;have hs:=h.asc;rw[hL,Br] at hs;have hi:MK key L t=W++t::Z:=by unfold MK;rw[e1,e2]
 rw[WV,hi];refine⟨h.ok.set _ _,λa=>?_,?_⟩
 ·rw[JV,Kh,<-JV,h.get];unfold D7;rw[Fs,BJ];have e0:L.find? (λt=>decide (key t=a))=(W.find? (λt=>decide (key t=a))).or (Z.find? (λt=>decide (key t=a))):=by rw[<-Fs,<-hL]
  rw[e0];by_cases ha:a=key t
  ·subst ha;rw[Ad rfl,Au rfl];have:W.find? (λx=>decide (key x=key t))=none:=Bq.2 λx hx=>by have:=GD x hx;simp;omega
   rw[this];rfl
  ·rw[Ab ha,Aw λe=>ha e.symm]
 ·refine Br.2 ⟨hs.1,Cf.2 ⟨λx hx=>XW x hx,hs.2.1⟩,λx hx y hy=>?_⟩;have h1:=GD x hx;rcases At.1 hy with rfl|hy
  ·exact h1
  ·have:=XW y hy;omega
theorem MB.drop{L:List α}(h:MB key val L es clock)(a:Int):MB key val (L.filter λx=>decide (key x≠a)) (PJ a es) clock:=by
 rw[aV];refine⟨h.ok.del a,λc=>?_,h.asc.filter _⟩;rw[JV,Qg h.ok,<-JV,h.get];unfold D7;rw[List.find?_filter];by_cases hc:c=a
 ·subst hc;rw[Ad rfl];rw[show L.find? (λx=>decide (decide (key x≠c)=true/\decide (key x=c)=true))=none from Bq.2 λx _=>by simp];rfl
 ·rw[Ab hc];congr 1;apply Lo;intro x _;by_cases hx:key x=c
  ·simp[hx,hc]
  ·simp[hx]
theorem TQ{L:List α}{t:α}(h:D7 key L a=some t): ∃A B,L=A++t::B/\key t=a/\ ∀x,x∈A->key x≠a:=by obtain⟨h1,A,B,rfl,h2⟩:=List.find?_eq_some_iff_append.1 h;exact⟨A,B,rfl,by simpa using h1,λx hx=>by simpa using h2 x hx⟩
theorem aW{A B:List α}{x:α}(h:(A++x::B).Pairwise λx y=>key x<key y)(hx:key x=a):(A++x::B).filter (λx=>decide (key x≠a))=A++B:=by obtain⟨_,h2,h3⟩:=Br.1 h;have h4:=(Cf.1 h2).1;rw[DJ,IQ (by simpa using hx)];rw[List.filter_eq_self.2 λy hy=>by have:=h3 y hy x Ak;simp;omega,List.filter_eq_self.2 λy hy=>by have:=h4 y hy;simp;omega]
theorem MB.repl{A B:List α}{x y:α}(h:MB key val (A++x::B) es clock)(hk:key y=key x)(hv:val y=val x):MB key val (A++y::B) es clock:=by
 refine⟨h.ok,λa=>?_,?_⟩
 ·rw[h.get];unfold D7;rw[Fs,Fs,BJ,BJ,hk];cases A.find? (λt=>decide (key t=a)) with
  |some u=>rfl
  |none=>
   simp only[Option.none_or]
   split
   ·rw[BU,BU,hv]
   ·rfl
 ·have h1:=h.asc;obtain⟨h2,h3,h4⟩:=Br.1 h1;obtain⟨h5,h6⟩:=Cf.1 h3;refine Br.2 ⟨h2,Cf.2 ⟨λz hz=>by rw[hk];exact h5 z hz,h6⟩,λz hz w hw=>?_⟩;rcases At.1 hw with rfl|hw
  ·rw[hk];exact h4 z hz x Ak
  ·exact h4 z hz w (An _ hw)
end
structure NdS where
 id:Int
 C:List CapT
 gb:Nat
variable{S:List NdS}
def SG(C:List CapT):Ap:=C.flatMap B0
abbrev CO:CapT:=⟨0,0,0,0,0,0,0,0⟩
abbrev NdS.val(nd:NdS):Value:= .slice (some ⟨nd.gb,0,none⟩) nd.C.length nd.C.length
abbrev NdS.blk(nd:NdS):Bd:=(nd.gb,.cells (toArray (SG nd.C)) 74 (0,0))
abbrev NdS.d(nd:NdS):Int×List CapT:=(nd.id,nd.C)
abbrev xC(b m:Nat):Bd:=(b,.cells (toArray [.map (some m)]) 406 (0,0))
abbrev SD:=List (Int×List CapT)
structure SB(b:Nat)(S:List NdS)(m:Nat)(es:List LE)(clock:Nat)(lq:Ac):Prop where
 eq:lq=xC b m::(m,FX .i64 es clock)::S.map NdS.blk
 mb:MB NdS.id NdS.val S es clock
 sz: ∀nd,nd∈S->0<nd.C.length/\nd.C.length<=16
def IsS(b:Nat)(D:SD)(lq:Ac):Prop:= ∃S m es clock,S.map NdS.d=D/\SB b S m es clock lq
abbrev Cs:=Int×Int
abbrev Cw(s:Cs):Ap:=[.int .i64 s.1,.int .i64 s.2]
abbrev Dv(B:Nat)(s:Cs):Bd:=(B,.cells (toArray (Cw s)) 61 (0,0))
theorem KA:D7 Prod.fst (S.map NdS.d) a=(D7 NdS.id S a).map NdS.d:=by unfold D7;rw[List.find?_map];rfl
theorem SB.m1(h:SB b S m es clock lq):xC b m∈lq:=by rw[h.eq];exact .head _
theorem SB.m2(h:SB b S m es clock lq):(m,FX .i64 es clock)∈lq:=by rw[h.eq];exact .tail _ (.head _)
theorem SB.m3(h:SB b S m es clock lq){nd:NdS}(hn:nd∈S):nd.blk∈lq:=by rw[h.eq];exact .tail _ (.tail _ (Av.2 ⟨nd,hn,rfl⟩))
theorem SB.look(h:SB b S m es clock lq)(a:Int):(LF a es).getD (.slice none 0 0)=match D7 NdS.id S a with
 |some nd=>nd.val
 |none=> .slice none 0 0:=by
 rw[h.mb.get];cases D7 NdS.id S a<;>rfl
theorem AbC(C:List CapT):(SG C).length=C.length*8:=by
 induction C with
 |nil=>rfl
 |cons x r ih=>rw[show SG (x::r)=B0 x++SG r from rfl,Ah,ih];show 8+r.length*8=(r.length+1)*8;omega
theorem WW(h:C[k]?=some c):(toArray (SG C)).extract (k*8) (k*8+8)=toArray (B0 c)/\k*8+8<=(toArray (SG C)).size:=by obtain⟨h1,h2⟩:=Lk (enc:=B0) (k:=8) (λ_=>rfl) [] C k c h;rw[Bj] at h1 h2;refine⟨?_,by rw[Bv];exact h2⟩;apply BP.1;rw[F8];simp only[List.extract,CJ];exact h1
def JI(D:SD)(a:Int):Int:=match D7 Prod.fst D a with
 |some x=>(x.2.length:Nat)
 |none=>0
def FM(D:SD)(s:Cs):Bool:=decide (0<=s.2)&&decide (s.2<JI D s.1)
def D5(D:SD)(s:Cs):CapT:=match D7 Prod.fst D s.1 with
 |some x=>x.2.getD s.2.toNat CO
 |none=>CO
def getD'(D:SD)(s:Cs):CapT×Int:=if FM D s=true then(D5 D s,0) else(CO,3)
def Hn(D:SD)(id n:Int):Int×SD:=if id<1\/n<1\/16<n then(2,D) else if(D7 Prod.fst D id).isSome=true then(11,D) else(0,MK Prod.fst D (id,replicate n.toNat CO))
theorem rG{β:Type}{f:α->β}{key:α->Int}{key':β->Int}(hk: ∀x,key' (f x)=key x)(S:List α)(x:α):(MK key S x).map f=MK key' (S.map f) (f x):=by
 unfold MK;rw[Aq,AJ,List.takeWhile_map,List.dropWhile_map];have e:(λy=>decide (key y<key x))=(λy=>decide (key' y<key' (f x)))∘f:=by funext y;simp[hk]
 rw[e]
theorem SB.look1(h:SB b S m es clock lq)(a:Int): ∃p n cap,(LF a es).getD (.slice none 0 0)= .slice p n cap/\JI (S.map NdS.d) a=((n:Nat):Int):=by
 rw[h.look];unfold JI;rw[KA];cases D7 NdS.id S a with
 |none=>exact⟨none,0,0,rfl,rfl⟩
 |some nd=>exact⟨_,_,_,rfl,rfl⟩
theorem SB.look2(h:SB b S m es clock lq)(a:Int)(hn:JI (S.map NdS.d) a=((n:Nat):Int))(h0:0<n): ∃nd,D7 NdS.id S a=some nd/\nd.C.length=n/\(LF a es).getD (.slice none 0 0)=nd.val:=by
 rw[h.look];unfold JI at hn;rw[KA] at hn;cases hf:D7 NdS.id S a with
 |none=>rw[hf] at hn;simp at hn;omega
 |some nd=>rw[hf] at hn;simp at hn;exact⟨nd,rfl,Af,rfl⟩
theorem new_any(l:Ac):Fn prog 178 [] l λv l'=> ∃b,v= .pointer (some ⟨b,0,none⟩)/\ ∃lq,IsS b [] lq/\l'=lq++l:=by refine AN func178 ntmps178 λE=>?_;refine gz ?_;refine AS OY ?_;rintro _ _ ⟨m,hm,rfl,rfl⟩;refine Im λb=>?_;exact BE [] rfl .refl (by exact Ba) ⟨b,rfl,_,⟨[],m,[],0,rfl,rfl,MB.zero,by simp⟩,rfl⟩
def lW(S:List NdS)(s:Cs):Option Addr:=if FM (S.map NdS.d) s=true then(D7 NdS.id S s.1).map λnd=>⟨nd.gb,s.2.toNat*8,none⟩ else none
theorem JU(b:Nat)(D:SD)(S:List NdS)(m clock:Nat)(es:List LE)(lq:Ac)(hD:S.map NdS.d=D)(hS:SB b S m es clock lq)(s:Cs)(l:Ac)(CG: ∀c,c∈lq->c∈l):
 Fn prog 246 [.pointer (some ⟨b,0,none⟩),.agg (toArray (Cw s))] l λv l'=>v= .tuple #[.pointer (lW S s),.int .i64 (if FM D s=true then 0 else 3)]/\l'=l:=by
 subst hD;have XK:=CG _ hS.m1;have UW:=CG _ hS.m2;obtain⟨p,n,cap,af,hn⟩:=hS.look1 s.1;refine AN func246 ntmps246 λE=>?_;refine gz ?_
 (first|refine AS (Ez rfl rfl) ?_|refine AS (CH rfl) ?_);rintro _ _ ⟨b3,_,rfl,rfl⟩
 by_cases h0:s.2<0
 ·have Dm:FM (S.map NdS.d) s=false:=by unfold FM;rw[Aw (show ¬0<=s.2 by omega)];rfl
  rw[Dm,show lW S s=none by unfold lW;rw[Dm];rfl];refine gz ?_;refine Cm [] 17 _ ?_ (hR:=(λ_ h=>h));refine pz ?_;exact E3
 ·refine gz ?_;refine Cm [] 17 _ ?_ (hR:=(λ_ h=>h));refine pz ?_;rw[af];refine pz ?_;by_cases h1:s.2<(n:Int)
  ·have Dm:FM (S.map NdS.d) s=true:=by unfold FM;rw[hn,Au (show 0<=s.2 by omega),Au h1];rfl
   obtain⟨nd,hf,Eh,Le⟩:=hS.look2 s.1 hn Af;obtain⟨k,hk⟩: ∃k:Nat,s.2=(k:Nat):=⟨s.2.toNat,Af⟩
   rw[Dm,show lW S s=some ⟨nd.gb,k*8,none⟩ by unfold lW;rw[Dm,hf,hk];rfl];refine gz ?_;refine Cm [] 12 _ ?_ (hR:=(λ_ h=>h));refine pz ?_;rw[Le,hk];refine pz ?_;exact E3
  ·have Dm:FM (S.map NdS.d) s=false:=by unfold FM;rw[hn,Aw h1];simp
   rw[Dm,show lW S s=none by unfold lW;rw[Dm];rfl];exact E3
theorem get_any(b:Nat)(D:SD)(lq:Ac)(hq:IsS b D lq)(s:Cs)(l:Ac)(CG: ∀c,c∈lq->c∈l):
 Fn prog 229 [.pointer (some ⟨b,0,none⟩),.agg (toArray (Cw s))] l λv l'=>v= .tuple #[.agg (toArray (B0 (getD' D s).1)),.int .i64 (getD' D s).2]/\l'=l:=by
 obtain⟨S,m,es,clock,rfl,hS⟩:=hq;refine AN func229 ntmps229 λE=>?_;refine Im λb3=>?_;refine Im λb4=>?_;refine Bh (AL rfl rfl λl2 hl=>JU b _ S m clock es lq rfl hS s l2 λc hc=>hl c (.tail _ (.tail _ (CG c hc)))) ?_;cases Dm:FM (S.map NdS.d) s with
 |false=>rw[show getD' (S.map NdS.d) s=(CO,3) by unfold getD';rw[Dm];rfl];simp only[Bm,C6];refine gz ?_;exact CT (l':=l) (Bz b4 CO::Dv b3 s::l) .refl (.drop (.drop .refl)) ⟨rfl,rfl⟩
 |true=>
  have kB:=Dm;unfold FM at kB;rw[AV,Bk,Bk] at kB;obtain⟨p,n,cap,af,hn⟩:=hS.look1 s.1;obtain⟨nd,hf,Eh,Le⟩:=hS.look2 s.1 hn Af;obtain⟨k,hk⟩: ∃k:Nat,s.2=(k:Nat):=⟨s.2.toNat,Af⟩
  obtain⟨c,hc⟩: ∃c,nd.C[k]?=some c:=⟨_,Al Af⟩
  have hat:D5 (S.map NdS.d) s=c:=by unfold D5;rw[KA,hf,hk];show nd.C.getD k CO=c;rw[AO,hc];rfl
  rw[show lW S s=some ⟨nd.gb,k*8,none⟩ by unfold lW;rw[Dm,hf,hk];rfl,show getD' (S.map NdS.d) s=(c,0) by unfold getD';rw[Dm,hat];rfl];simp only[CS];obtain⟨g1,g2⟩:=WW hc;have wv:nd.blk∈l:=CG _ (hS.m3 (Ff hf).1);refine gz ?_;refine Bh (Dt (n:=8) rfl (.tail _ (.tail _ wv)) g2 g1) ?_;refine gz ?_;exact CT (l':=l) (Bz b4 c::Dv b3 s::l) .refl (.drop (.drop .refl)) ⟨rfl,rfl⟩
theorem setFrom_mid: ∀(us ws X Y:Ap),us.length=ws.length->Da (toArray (X++(us++Y))) X.length ws=toArray (X++(ws++Y))
 |[],[],X,Y,_=>rfl
 |u::us,w::ws,X,Y,h=>by
  have h1:(toArray (X++(u::us++Y))).setIfInBounds X.length w=toArray ((X++[w])++(us++Y)):=by apply BP.1;rw[Array.toList_setIfInBounds];show(X++(u::(us++Y))).set X.length w=_;rw[Cv _ _ Af,DV,Fy];simp
  unfold Da;rw[h1];have h2:=setFrom_mid us ws (X++[w]) Y (by simpa using h);rw[Ah] at h2;rw[show X.length+1=X.length+[w].length from rfl,h2];simp
theorem rH(A B:List CapT):SG (A++B)=SG A++SG B:=Ec
theorem YM: ∀n:Nat,SG (replicate n CO)=(replicate n (B0 CO)).flatten
 |0=>rfl
 |n+1=>by rw[BL,BL,Cy,<-YM n];rfl
theorem VU(h:C[k]?=some x):C=C.take k++x::C.drop (k+1)/\(C.take k).length=k:=by
 have hk:=(Ay.1 h).1;have h1:=Cp k C;rw[Di hk] at h1;have h2:C[k]=x:=by rw[Al hk] at h;exact AZ h
 rw[h2] at h1;exact⟨h1.symm,by rw[Dk];omega⟩
theorem ib(h:C[k]?=some x):C.set k c=C.take k++c::C.drop (k+1):=by
 obtain⟨h1,h2⟩:=VU h
 conv=>lhs;rw[h1]
 rw[Cv _ _ Af,h2,DV,Fy]
theorem rI(h:C[k]?=some x):Da (toArray (SG C)) (k*8) (B0 c)=toArray (SG (C.set k c)):=by
 obtain⟨h1,h2⟩:=VU h;rw[ib h];have e: ∀y:CapT,SG (C.take k++y::C.drop (k+1))=SG (C.take k)++(B0 y++SG (C.drop (k+1))):=λy=>by rw[rH];rfl
 have hl:(SG (C.take k)).length=k*8:=by rw[AbC,h2]
 rw[e c,<-hl]
 conv=>lhs;rw[show SG C=SG (C.take k)++(B0 x++SG (C.drop (k+1))) by rw[<-e x,<-h1]]
 exact setFrom_mid _ _ _ _ rfl
theorem TR{key:α->Int}(S:List α)(x:α):(MK key S x).Perm (x::S):=by unfold MK;refine AI.trans (List.Perm.cons x ?_);rw[Cd]
theorem O5{key:α->Int}{S:List α}{x y:α}:y∈MK key S x<->y=x\/y∈S:=by rw[(TR S x).mem_iff];simp
def HF(D:SD)(a:Int):Int×SD:=match D7 Prod.fst D a with
 |none=>(2,D)
 |some x=>if x.2.all (λc=>Ms c CO)=true then(0,D.filter λx=>decide (x.1≠a)) else(16,D)
def Gu(D:SD)(s:Cs)(c:CapT):SD:=D.map λx=>if x.1=s.1 then(x.1,x.2.set s.2.toNat c) else x
def setD(D:SD)(s:Cs)(c:CapT):Int×SD:=if FM D s=true then(if FG c=true then(0,Gu D s c) else(5,D)) else(3,D)
theorem add_any(b:Nat)(D:SD)(lq:Ac)(hq:IsS b D lq)(id n:Int)(G:Ac):
 Fn prog 184 [.pointer (some ⟨b,0,none⟩),.int .i64 id,.int .i64 n] (lq++G) λv l'=>v= .int .i64 (Hn D id n).1/\ ∃DF,IsS b (Hn D id n).2 DF/\l'=DF++G:=by
 have M3:=hq;obtain⟨S,m,es,clock,rfl,hS⟩:=hq;have XK:xC b m∈lq++G:=Ai _ hS.m1;have UW:(m,FX .i64 es clock)∈lq++G:=Ai _ hS.m2;refine AN func184 ntmps184 λE=>?_;by_cases h1:id<1
 ·rw[show Hn (S.map NdS.d) id n=(2,S.map NdS.d) by unfold Hn;rw[Ad (.inl h1)]];refine gz ?_;exact Bb .refl ⟨rfl,_,M3,rfl⟩
 by_cases h2:n<1
 ·rw[show Hn (S.map NdS.d) id n=(2,S.map NdS.d) by unfold Hn;rw[Ad (.inr (.inl h2))]];refine gz ?_;exact Bb .refl ⟨rfl,_,M3,rfl⟩
 by_cases h3:16<n
 ·rw[show Hn (S.map NdS.d) id n=(2,S.map NdS.d) by unfold Hn;rw[Ad (.inr (.inr h3))]];refine gz ?_;exact Bb .refl ⟨rfl,_,M3,rfl⟩
 have Aax:¬(id<1\/n<1\/16<n):=by omega
 obtain⟨k,rfl⟩: ∃k:Nat,n=(k:Nat):=⟨n.toNat,Af⟩
 obtain⟨p,n0,cap,af,P2⟩:=hS.look1 id;cases hf:D7 NdS.id S id with
 |some nd=>
  rw[show Hn (S.map NdS.d) id (k:Nat)=(11,S.map NdS.d) by unfold Hn;rw[Ab Aax,KA,hf];rfl];have Aam:0<n0:=by unfold JI at P2;rw[KA,hf] at P2;have:=(hS.sz nd (Ff hf).1).1;simp at P2;omega
  refine gz ?_;rw[af];refine gz ?_;exact Bb .refl ⟨rfl,_,M3,rfl⟩
 |none=>
  rw[show Hn (S.map NdS.d) id (k:Nat)=(0,MK Prod.fst (S.map NdS.d) (id,replicate k CO)) by unfold Hn;rw[Ab Aax,KA,hf];rfl];have hz:n0=0:=by unfold JI at P2;rw[KA,hf] at P2;simp at P2;omega
  refine gz ?_;rw[af];refine gz ?_;refine Cm [6,7] 8 ([xC b m]) ?_ (hR:=(C7 XK));refine pz ?_;apply CM
  ·exact Gg (n:=k) (kk:=8) (xs:=SG (replicate k CO)) rfl rfl Af Af AX (YM k)
  ·rfl
  ·rfl
  ·rfl
  ·rintro _ _ ⟨gb,_,_,rfl⟩ c hc;rw[AC.1 hc];exact .tail _ XK
  rintro _ _ ⟨gb,Sa,rfl,rfl⟩;refine pz ?_;obtain⟨nd,Le⟩: ∃nd:NdS,nd=⟨id,replicate k CO,gb⟩:=⟨_,rfl⟩
  have ww:NdS.val nd= .slice (some ⟨gb,0,none⟩) k k:=by rw[Le];simp[NdS.val]
  rw[hS.eq];simp only[Ae];apply Oe
  ·exact LW (a:=id) (es:=es) (clock:=clock) rfl rfl rfl (.there (.there .here))
  ·rfl
  ·rfl
  ·rintro _ _ ⟨rfl,rfl⟩ c hc;rw[AC.1 hc];exact .tail _ (.head _)
  rintro _ _ ⟨rfl,rfl⟩;refine pz ?_;refine gz ?_;have hMB:=hS.mb.add (t:=nd) (by rw[Le];exact hf);rw[ww,show nd.id=id by rw[Le]] at hMB;refine Bb (l':=(xC b m::(m,FX .i64 (Og id (.slice (some ⟨gb,0,none⟩) k k) clock es).1 (Og id (.slice (some ⟨gb,0,none⟩) k k) clock es).2)::(MK NdS.id S nd).map NdS.blk)++G) ?_ ⟨rfl,_,⟨MK NdS.id S nd,m,_,_,?_,rfl,hMB,?_⟩,rfl⟩
  ·have hp:((MK NdS.id S nd).map NdS.blk++G).Perm (nd.blk::(S.map NdS.blk++G)):=((TR S nd).map _).append_right G;refine Keep.of_perm ?_;have hb:(gb,Obj.cells (toArray (SG (replicate k CO))) 74 (0,0))=nd.blk:=by rw[Le]
   rw[hb];exact(List.Perm.trans (List.Perm.swap _ _ _) (((List.Perm.swap _ _ _).trans (hp.symm.cons _)).cons _))
  ·rw[rG (key':=Prod.fst) (λx=>rfl),Le]
  ·intro x hx;rcases O5.1 hx with rfl|hx
   ·rw[Le];simp;omega
   ·exact hS.sz x hx
theorem lX(A B l:Ac)(x:Bd):Keep ((A++x::B)++l) ((A++B)++l):=
 ⟨[x],by have h:(A++x::B).Perm (x::(A++B)):=AI;exact h.append_right l⟩
theorem lY:(S.filter λx=>decide (x.id≠a)).map NdS.d=(S.map NdS.d).filter λx=>decide (x.1≠a):=by rw[List.filter_map];rfl
theorem AbD{A B:List NdS}{nd:NdS}(hs:(A++nd::B).Pairwise λx y=>x.id<y.id):Gu ((A++nd::B).map NdS.d) (nd.id,(k:Nat)) c=(A++{nd with C:=nd.C.set k c}::B).map NdS.d:=by
 obtain⟨_,h2,h3⟩:=Br.1 hs;have h4:=(Cf.1 h2).1;unfold Gu;simp only[Aq,AJ,CY];congr 1
 ·apply By;intro x hx;have:=h3 x hx nd Ak;show(if x.id=nd.id then _ else x.d)=x.d;rw[Ab Af]
 ·refine List.cons_eq_cons.2 ⟨?_,?_⟩
  ·rw[Ad trivial];rfl
  ·apply By;intro x hx;have:=h4 x hx;show(if x.id=nd.id then _ else x.d)=x.d;rw[Ab Af]
theorem set_any(b:Nat)(D:SD)(lq:Ac)(hq:IsS b D lq)(s:Cs)(c:CapT)(G:Ac):
 Fn prog 186 [.pointer (some ⟨b,0,none⟩),.agg (toArray (Cw s)),.agg (toArray (B0 c))] (lq++G) λv l'=>v= .int .i64 (setD D s c).1/\ ∃DF,IsS b (setD D s c).2 DF/\l'=DF++G:=by
 have M3:=hq;obtain⟨S,m,es,clock,rfl,hS⟩:=hq;refine AN func186 ntmps186 λE=>?_;refine Im λb4=>?_;refine Im λb5=>?_;refine Bh (AL rfl rfl λl2 hl=>JU b _ S m clock es lq rfl hS s l2 λc hc=>hl c (.tail _ (.tail _ (Ai _ hc)))) ?_;cases Dm:FM (S.map NdS.d) s with
 |false=>rw[show setD (S.map NdS.d) s c=(3,S.map NdS.d) by unfold setD;rw[Dm];rfl];simp only[Bm,C6];refine gz ?_;exact Bb (.drop (.drop .refl)) ⟨rfl,_,M3,rfl⟩
 |true=>
  have kB:=Dm;unfold FM at kB;rw[AV,Bk,Bk] at kB;obtain⟨p,n,cap,af,hn⟩:=hS.look1 s.1;obtain⟨nd,hf,Eh,Le⟩:=hS.look2 s.1 hn Af;obtain⟨k,hk⟩: ∃k:Nat,s.2=(k:Nat):=⟨s.2.toNat,Af⟩
  obtain⟨x,hx⟩: ∃x,nd.C[k]?=some x:=⟨_,Al Af⟩
  rw[show lW S s=some ⟨nd.gb,k*8,none⟩ by unfold lW;rw[Dm,hf,hk];rfl];simp only[CS];cases hM:FG c with
  |false=>rw[show setD (S.map NdS.d) s c=(5,S.map NdS.d) by unfold setD;rw[Dm,hM];rfl];refine gz ?_;refine Bh (AL rfl rfl λl2 _=>It c l2) ?_;rw[hM];refine gz ?_;exact Bb (.drop (.drop .refl)) ⟨rfl,_,M3,rfl⟩
  |true=>
   rw[show setD (S.map NdS.d) s c=(0,Gu (S.map NdS.d) s c) by unfold setD;rw[Dm,hM];rfl];refine gz ?_;refine Bh (AL rfl rfl λl2 _=>It c l2) ?_;rw[hM];refine gz ?_;obtain⟨A,B,aa,Vr,_⟩:=TQ hf;obtain⟨g1,g2⟩:=WW hx;have wv:S.map NdS.blk=A.map NdS.blk++nd.blk::B.map NdS.blk:=by rw[aa,Aq,AJ]
   rw[hS.eq,wv];simp only[Ae,Am];refine M9 (EH (b:=nd.gb) (off:=k*8) (cs:=toArray (SG nd.C)) (n:=8) rfl rfl rfl (by simp[Value.oneCell']) (.there (.there (.there (.there (FK _ _ _ _ _))))) g2) rfl rfl ?_;rintro _ _ ⟨rfl,rfl⟩;rw[show Da (toArray (SG nd.C)) (k*8) (toArray (B0 c)).toList=toArray (SG (nd.C.set k c)) from rI hx];refine gz ?_;have hs:s=(nd.id,((k:Nat):Int)):=by rw[Vr,<-hk]
   refine Bb (l':=(xC b m::(m,FX .i64 es clock)::(A++{nd with C:=nd.C.set k c}::B).map NdS.blk)++G) (.drop (.drop (by rw[Aq,AJ];exact .of_perm (.of_eq (by simp))))) ⟨rfl,_,⟨A++{nd with C:=nd.C.set k c}::B,m,es,clock,?_,rfl,?_,?_⟩,rfl⟩
   ·rw[hs,aa,AbD (by rw[<-aa];exact hS.mb.asc)]
   ·have hm:=hS.mb;rw[aa] at hm;exact hm.repl rfl (by simp[NdS.val])
   ·intro y hy;have h1:=hS.sz;rw[aa] at h1;rcases AF.1 hy with hy|hy
    ·exact h1 y (Ai _ hy)
    ·rcases At.1 hy with rfl|hy
     ·have:=h1 nd (Aa _ Ak);simpa using this
     ·exact h1 y (Aa _ (.tail _ hy))
theorem AbE{a:Nat}(h:a<9223372036854775808):IntKind.i64.wrap ((a:Nat):Int)=((a:Nat):Int):=by simp[IntKind.wrap,IntKind.signed,IntKind.bits];omega
section
variable{fr:Fr}{l:Ac}{d:Option Nat}{t:TypeId}{aft:Array Edge}{x:Operand}{a:Nat}
theorem xF(hx:ev fr x=some (.int .i64 (a:Nat)))(hy:ev fr y=some (.int .i64 (b:Nat)))(ha:a<2^63)(hb:b<2^63):OpQ P ro N fr R ⟨d,.binOp .and t x y t2,ty,pos,aft,g⟩ (.int .i64 ((a&&& b:Nat):Int)):=
 IV hx hy (λ_ _=>De _ _ _ _ _) (by
  have e1:(BitVec.ofInt IntKind.i64.bits ((a:Nat):Int)).toNat=a:=by show(BitVec.ofInt 64 ((a:Nat):Int)).toNat=a;rw[D4,Ew,Dy Af]
  have e2:(BitVec.ofInt IntKind.i64.bits ((b:Nat):Int)).toNat=b:=by show(BitVec.ofInt 64 ((b:Nat):Int)).toNat=b;rw[D4,Ew,Dy Af]
  simp only[binOp,Op.intBits,Mv,e1,e2];rw[AbE (Ev Kr ha)];rfl)
end
def Vc(r:Int):Bool:=decide (0<=r)&&decide (r<=7)
def L7(a b:Int):Int:=if Vc a&&Vc b then((a.toNat&&& b.toNat:Nat):Int) else 0
def Er(c:CapT)(DC:Int):CapT×Int:=
 if FG c=false\/Vc DC=false then(CO,2) else if c.kind=0 then(CO,10) else if c.kind=1\/c.kind=7 then(CO,8)
 else if c.kind=3 then(if L7 c.rights DC=0 then(CO,9) else(⟨c.kind,c.obj,L7 c.rights DC,c.badge,c.guard,c.bits,0,0⟩,0))
 else if c.kind=8 then(⟨c.kind,c.obj,L7 c.rights DC,c.badge,c.guard,c.bits,c.serial,c.page⟩,0) else(c,0)
abbrev RH(d:CapT)(Ey:Nat):CapT:=⟨d.kind,d.obj,d.rights,d.badge,((Ey%4096:Nat):Int),((Ey/4096:Nat):Int),d.serial,d.page⟩
def TS(d:CapT)(Ey:Nat):CapT×Int:=
 if d.kind=8 then(if Ey>16777215 then(CO,3) else if d.badge≠0 then(CO,9) else(⟨d.kind,d.obj,d.rights,((Ey:Nat):Int),d.guard,d.bits,d.serial,d.page⟩,0))
 else if d.kind=2 then(if Ey>=65536 then(CO,3) else if FG (RH d Ey)=false then(CO,3) else(RH d Ey,0))
 else if Ey≠0 then(CO,2) else(d,0)
def HH(c:CapT)(DC:Int)(Ey:Nat):CapT×Int:=if(Er c DC).2≠0 then(CO,(Er c DC).2) else TS (Er c DC).1 Ey
theorem xG{c:CapT}{DC:Int}(h:(Er c DC).2≠0):(Er c DC).1=CO:=by
 unfold Er at h⊢
 repeat' (split at h<;>first|exact absurd rfl h|(simp only[*,CS,C6,not_true,not_false_iff];done)|skip)
 all_goals first|rfl|(split<;>rfl)|skip
theorem TT(r:Int)(l:Ac):Fn prog 245 [.int .i64 r] l λv l'=>v= .bool (Vc r)/\l'=l:=by
 refine AN func245 ntmps245 λE=>?_;unfold Vc;by_cases h0:0<=r
 ·rw[Au h0];exact E3
 ·rw[Aw h0];exact E3
theorem YN{r:Int}(h:Vc r=true): ∃n:Nat,r=n/\n<8:=by unfold Vc at h;rw[AV,Bk,Bk] at h;exact⟨r.toNat,Af,Af⟩
theorem VV(a b:Int)(l:Ac):Fn prog 251 [.int .i64 a,.int .i64 b] l λv l'=>v= .int .i64 (L7 a b)/\l'=l:=by
 refine AN func251 ntmps251 λE=>?_;refine Aj ?_;refine Bh (AL rfl rfl λl2 _=>TT a l2) ?_;unfold L7;cases ha:Vc a with
 |false=>exact E3
 |true=>
 refine Aj ?_;refine NY (AL rfl rfl λl2 _=>TT b l2) rfl rfl rfl ?_;cases hb:Vc b with
 |false=>exact E3
 |true=>
 obtain⟨a,rfl,ha8⟩:=YN ha;obtain⟨b,rfl,hb8⟩:=YN hb;refine Aj ?_;refine Bh (xF rfl rfl Af Af) ?_;exact E3
theorem Ow(h:Jn c)(DC:Int):Jn (Er c DC).1:=by
 have hz:Jn CO:=⟨by decide,by decide⟩
 unfold Er
 split
 ·exact hz
 split
 ·exact hz
 split
 ·exact hz
 split
 ·split
  ·exact hz
  ·exact⟨h.badge,h.guard⟩
 split
 ·exact⟨h.badge,h.guard⟩
 ·exact h
theorem Ox(c:CapT)(hw:Jn c)(DC:Int)(l:Ac):Fn prog 190 [.agg (toArray (B0 c)),.int .i64 DC] l λv l'=>v= .tuple #[.agg (toArray (B0 (Er c DC).1)),.int .i64 (Er c DC).2]/\l'=l:=by
 refine AN func190 ntmps190 λE=>?_;refine AQ λb2=>?_;refine AQ λb4=>?_;refine Bh (AL rfl rfl λl2 _=>It c l2) ?_;have hz: ∀(e:Int) (d:CapT),Keep (Bz b4 CO::Bz b2 d::l) l:=λ_ _=> .drop (.drop .refl);cases hm:FG c with
 |false=>rw[show Er c DC=(CO,2) by unfold Er;rw[Ad (.inl hm)]];refine Aj ?_;exact CT (l':=l) (Bz b4 CO::Bz b2 c::l) .refl (hz 0 _) ⟨rfl,rfl⟩
 |true=>
 refine Aj ?_;refine NY (AL rfl rfl λl2 _=>TT DC l2) rfl rfl rfl ?_;cases hr:Vc DC with
 |false=>rw[show Er c DC=(CO,2) by unfold Er;rw[Ad (.inr hr)]];refine Aj ?_;exact CT (l':=l) (Bz b4 CO::Bz b2 c::l) .refl (hz 0 _) ⟨rfl,rfl⟩
 |true=>
 have e0:Er c DC=if c.kind=0 then(CO,10) else if c.kind=1\/c.kind=7 then(CO,8)
  else if c.kind=3 then(if L7 c.rights DC=0 then(CO,9) else(⟨c.kind,c.obj,L7 c.rights DC,c.badge,c.guard,c.bits,0,0⟩,0))
  else if c.kind=8 then(⟨c.kind,c.obj,L7 c.rights DC,c.badge,c.guard,c.bits,c.serial,c.page⟩,0) else(c,0):=by
  unfold Er;rw[Ab (by rw[hm,hr];simp)]
 rw[e0];by_cases k0:c.kind=0
 ·rw[Ad k0];refine Aj ?_;exact CT (l':=l) (Bz b4 CO::Bz b2 c::l) .refl (hz 0 _) ⟨rfl,rfl⟩
 rw[Ab k0];by_cases k17:c.kind=1\/c.kind=7
 ·rw[Ad k17];by_cases k1:c.kind=1
  ·refine Aj ?_;exact CT (l':=l) (Bz b4 CO::Bz b2 c::l) .refl (hz 0 _) ⟨rfl,rfl⟩
  ·have k7:c.kind=7:=by omega
   refine Aj ?_;exact CT (l':=l) (Bz b4 CO::Bz b2 c::l) .refl (hz 0 _) ⟨rfl,rfl⟩
 rw[Ab k17];by_cases k3:c.kind=3
 ·rw[Ad k3];refine Aj ?_;refine Bh (AL rfl rfl λl2 _=>VV c.rights DC l2) ?_;by_cases hz0:L7 c.rights DC=0
  ·rw[Ad hz0];refine Aj ?_;exact CT (l':=l) (Bz b4 CO::Bz b2 ⟨c.kind,c.obj,L7 c.rights DC,c.badge,c.guard,c.bits,0,0⟩::l) .refl (hz 0 _) ⟨rfl,rfl⟩
  ·rw[Ab hz0];refine Aj ?_;exact CT (l':=l) (Bz b4 ⟨c.kind,c.obj,L7 c.rights DC,c.badge,c.guard,c.bits,0,0⟩::Bz b2 ⟨c.kind,c.obj,L7 c.rights DC,c.badge,c.guard,c.bits,0,0⟩::l) .refl (.drop (.drop .refl)) ⟨rfl,rfl⟩
 rw[Ab k3];by_cases k8:c.kind=8
 ·rw[Ad k8];refine Aj ?_;refine Bh (AL rfl rfl λl2 _=>VV c.rights DC l2) ?_;refine Aj ?_;exact CT (l':=l) (Bz b4 ⟨c.kind,c.obj,L7 c.rights DC,c.badge,c.guard,c.bits,c.serial,c.page⟩::Bz b2 ⟨c.kind,c.obj,L7 c.rights DC,c.badge,c.guard,c.bits,c.serial,c.page⟩::l) .refl (.drop (.drop .refl)) ⟨rfl,rfl⟩
 rw[Ab k8];refine Aj ?_;exact CT (l':=l) (Bz b4 c::Bz b2 c::l) .refl (.drop (.drop .refl)) ⟨rfl,rfl⟩
section
variable{fr:Fr}{l:Ac}{d:Option Nat}{t:TypeId}{aft:Array Edge}{x:Operand}{k k':IntKind}{i:Int}{a:Nat}
theorem Ae2(hx:ev fr x=some (.int .u64 (a:Nat)))(hy:ev fr y=some (.int .u64 (b:Nat)))(ha:a<18446744073709551616)(hb:b<18446744073709551616):OpQ P ro N fr R ⟨d,.binOp .or t x y t2,ty,pos,aft,g⟩ (.int .u64 ((a|||b:Nat):Int)):=
 IV hx hy (λ_ _=>De _ _ _ _ _) (by
  have e1:(BitVec.ofInt IntKind.u64.bits ((a:Nat):Int)).toNat=a:=by show(BitVec.ofInt 64 ((a:Nat):Int)).toNat=a;rw[D4,Ew,Dy ha]
  have e2:(BitVec.ofInt IntKind.u64.bits ((b:Nat):Int)).toNat=b:=by show(BitVec.ofInt 64 ((b:Nat):Int)).toNat=b;rw[D4,Ew,Dy hb]
  simp only[binOp,Op.intBits,BitVec.toNat_or,e1,e2];rw[VG (Nat.or_lt_two_pow (n:=64) ha hb)];rfl)
theorem lZ(hx:ev fr x=some (.int .u64 (a:Nat)))(hy:ev fr y=some (.int .u64 (b:Nat)))(ha:a<18446744073709551616)(hb:b<18446744073709551616):OpQ P ro N fr R ⟨d,.binOp .andNot t x y t2,ty,pos,aft,g⟩ (.int .u64 ((a&&& (2^64-(b+1)):Nat):Int)):=
 IV hx hy (λ_ _=>De _ _ _ _ _) (by
  have e1:(BitVec.ofInt IntKind.u64.bits ((a:Nat):Int)).toNat=a:=by show(BitVec.ofInt 64 ((a:Nat):Int)).toNat=a;rw[D4,Ew,Dy ha]
  have e2:(~~~ BitVec.ofInt IntKind.u64.bits ((b:Nat):Int)).toNat=2^64-(b+1):=by show(~~~ BitVec.ofInt 64 ((b:Nat):Int)).toNat=_;rw[BitVec.toNat_not,D4,Ew,Dy hb];omega
  simp only[binOp,Op.intBits,Mv,e1,e2];rw[VG (Ev Kr ha)];rfl)
end
def PA(w at' n v:Nat):Nat:=2^at'*(2^n*(w/2^(at'+n))+v)+w%2^at'
def Ed(w at' n:Nat):Nat:=w/2^at'%2^n
theorem Qt{at':Nat}(h:at'+n<=64):(2^n-1)*2^at'<18446744073709551616:=by
 have h1:2^n*2^at'<=2^64:=by rw[<-Nat.pow_add];exact CZ Af Af
 have h2:0<2^at':=G1 _;have h3:0<2^n:=G1 _;have h4:(2^n-1)*2^at'<2^n*2^at':=Nat.mul_lt_mul_of_pos_right Af h2;exact Ex h4 h1
theorem ej{at':Nat}(h:at'+n<=64)(hv:v<2^n):v*2^at'<18446744073709551616:=by have h1:(2^n-1)*2^at'<18446744073709551616:=Qt h;have h2:v*2^at'<=(2^n-1)*2^at':=F9 _ Af;omega
theorem ic{w at':Nat}(hv:v<2^n)(i:Nat):(PA w at' n v).testBit i=if i<at' then w.testBit i else if i<at'+n then v.testBit (i-at') else w.testBit i:=by
 unfold PA;rw[Nat.testBit_two_pow_mul_add _ (Ho _ (G1 _))]
 split
 ·rw[IR];simp[*]
 ·rw[Nat.testBit_two_pow_mul_add _ hv];by_cases h:i<at'+n
  ·rw[Ad Af,Ad h]
  ·rw[Ab Af,Ab h,Fb];congr 1;omega
theorem rJ{w at':Nat}(hw:w<18446744073709551616)(h:at'+n<=64)(hv:v<2^n):(w&&& (2^64-((2^n-1)*2^at'+1)))|||v*2^at'=PA w at' n v:=by
 apply J9;intro i;rw[ic hv,Nat.testBit_or,Nat.testBit_and,Nat.testBit_two_pow_sub_succ (by exact Qt h),MZ _ (2^at'),MZ _ (2^at'),Nat.testBit_two_pow_mul,Nat.testBit_two_pow_mul,Nat.testBit_two_pow_sub_one];by_cases h1:i<at'
 ·rw[Ad h1,Aw (show ¬at'<=i by omega),Au (show i<64 by omega)];simp
 ·rw[Ab h1,Au (show at'<=i by omega)];by_cases h2:i<at'+n
  ·rw[Ad h2,Au (show i-at'<n by omega)];simp
  ·rw[Ab h2,Aw (show ¬i-at'<n by omega)];have h3:v.testBit (i-at')=false:=Fk (Ex hv (CZ Af Af));rw[h3];by_cases h4:i<64
   ·rw[Au h4];simp
   ·have:w.testBit i=false:=Fk (Ex hw (by exact CZ (n:=2) Af (show 64<=i by omega)));rw[this];simp
theorem l5{w at':Nat}:(w/2^at')&&& (2^n-1)=Ed w at' n:=Nat.and_two_pow_sub_one_eq_mod _ _
theorem YO(a n:Nat)(h1:1<=n)(h2:a+n<=64)(l:Ac):Fn prog 314 [.int .i64 (a:Nat),.int .i64 (n:Nat)] l λv l'=>v= .bool true/\l'=l:=by refine AN func314 ntmps314 λE=>?_;refine gz ?_;refine Bb .refl ⟨?_,rfl⟩;rw[Au Af];rfl
theorem VW(n:Nat)(h1:1<=n)(h2:n<=63)(l:Ac):Fn prog 315 [.int .i64 (n:Nat)] l λv l'=>v= .int .u64 ((2^n-1:Nat):Int)/\l'=l:=by
 refine AN func315 ntmps315 λE=>?_;have hp:2^n<=2^63:=CZ Af h2;have hp0:0<2^n:=G1 _;have hw:IntKind.u64.wrap (1*2^n)=((2^n:Nat):Int):=by rw[Int.one_mul,show(2:Int)^n=((2^n:Nat):Int) by simp,VG Af]
 refine gz ?_;refine Bh (Tx (n:=n) (i:=1) rfl rfl (by show n<=64;omega)) ?_;rw[hw];obtain⟨q,hq⟩: ∃q,2^n=q:=⟨_,rfl⟩
 rw[hq] at hp hp0⊢;refine Bh (uQ (i:=((q:Nat):Int)) (j:=1) rfl rfl ⟨Af,Af⟩) ?_;refine gz ?_;refine Bb .refl ⟨?_,rfl⟩;rw[show((q:Nat):Int)-1=((q-1:Nat):Int) by omega];rfl
theorem JW(w a n:Nat)(hw:w<18446744073709551616)(h1:1<=n)(h2:n<=63)(h3:a+n<=64)(l:Ac):
 Fn prog 253 [.int .u64 (w:Nat),.int .i64 (a:Nat),.int .i64 (n:Nat)] l λr l'=>r= .tuple #[.int .u64 (Ed w a n:Nat),.int .i64 0]/\l'=l:=by
 have hp:2^n-1<18446744073709551616:=by have:2^n<=2^63:=CZ Af h2;omega
 refine AN func253 ntmps253 λE=>?_;refine gz ?_;refine Bh (AL rfl rfl λl2 _=>YO a n h1 h3 l2) ?_;refine gz ?_;refine Bh (uW (n:=a) rfl rfl (by show a<=64;omega)) ?_;rw[show((w:Nat):Int)/2^a=((w/2^a:Nat):Int) by norm_cast];refine gz ?_;refine Bh (AL rfl rfl λl2 _=>VW n h1 h2 l2) ?_;refine Bh (uX rfl rfl (Ev (Nat.div_le_self _ _) hw) hp) ?_;rw[l5];exact E3
end Go.Proofs.YtlifcingifodfaaGreat
