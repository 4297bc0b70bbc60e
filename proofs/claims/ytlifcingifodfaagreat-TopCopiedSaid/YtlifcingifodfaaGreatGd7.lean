/- Laws. -/
import Derived.Test.YtlifcingifodfaaGreatGd6
set_option maxHeartbeats 4000000
set_option linter.all false
namespace Go.Proofs.YtlifcingifodfaaGreat
open Tryz
open List(replicate)
open List renaming toArray→τ
variable{es:List LK}{clock k n b v m N:Nat}{a:Int}{lq R:Ac}{α:Type}{P:Program}{ro:Option Nat}{ty t2:TypeId}{pos:String}{g:Option (Nat×Bool)}{y:Operand}
namespace As
open Go.RowKit
set_option maxRecDepth 20000
theorem ASt.s_obj(s:ASt)(p:Nat)(hp:p<8)(v:Int):s.cells.setIfInBounds (p*10) (ι v)=({s with obj:=upd s.obj p v}:ASt).cells:=by
 refine Pg _ _ _ _ Af ?_ λj hj GS=>?_
 ·unfold ASt.at;rw[Ad Af,Ad Af,show p*10/10=p by omega];exact BM _ (upd_same _ _ _)
 ·unfold ASt.at;simp only;by_cases h0:j%10=0
  ·rw[Ad h0,Ad h0];by_cases h8:j<80
   ·rw[Ad h8,Ad h8,upd_other _ _ _ _ Af]
   ·rw[Ab h8,Ab h8]
  ·rw[Ab h0,Ab h0]
theorem ASt.s_root(s:ASt)(p i:Nat)(hp:p<8)(hi:i<4)(v:Int):s.cells.setIfInBounds (p*10+2+i*1) (ι v)=({s with root:=upd s.root (4*p+i) v}:ASt).cells:=by
 refine Pg _ _ _ _ Af ?_ λj hj GS=>?_
 ·unfold ASt.at;rw[Ad Af,Ab Af,Ab Af,Ad Af,show 4*((p*10+2+i*1)/10)+((p*10+2+i*1)%10-2)=4*p+i by omega];exact BM _ (upd_same _ _ _)
 ·unfold ASt.at;simp only;by_cases h8:j<80
  ·rw[Ad h8,Ad h8];by_cases h0:j%10=0
   ·rw[Ad h0,Ad h0]
   ·rw[Ab h0,Ab h0];by_cases h1:j%10=1
    ·rw[Ad h1,Ad h1]
    ·rw[Ab h1,Ab h1];by_cases h6:j%10<6
     ·rw[Ad h6,Ad h6,upd_other _ _ _ _ Af]
     ·rw[Ab h6,Ab h6]
  ·rw[Ab h8,Ab h8]
theorem ASt.s_ser(s:ASt)(p i:Nat)(hp:p<8)(hi:i<4)(v:Int):s.cells.setIfInBounds (p*10+6+i*1) (ι v)=({s with ser:=upd s.ser (4*p+i) v}:ASt).cells:=by
 refine Pg _ _ _ _ Af ?_ λj hj GS=>?_
 ·unfold ASt.at;rw[Ad Af,Ab Af,Ab Af,Ab Af,show 4*((p*10+6+i*1)/10)+((p*10+6+i*1)%10-6)=4*p+i by omega];exact BM _ (upd_same _ _ _)
 ·unfold ASt.at;simp only;by_cases h8:j<80
  ·rw[Ad h8,Ad h8];by_cases h0:j%10=0
   ·rw[Ad h0,Ad h0]
   ·rw[Ab h0,Ab h0];by_cases h1:j%10=1
    ·rw[Ad h1,Ad h1]
    ·rw[Ab h1,Ab h1];by_cases h6:j%10<6
     ·rw[Ad h6,Ad h6]
     ·rw[Ab h6,Ab h6,upd_other _ _ _ _ Af]
  ·rw[Ab h8,Ab h8]
theorem ASt.s_given(s:ASt)(n:Nat)(hn:n<32)(v:Int):s.cells.setIfInBounds (80+n*1) (ι v)=({s with given:=upd s.given n v}:ASt).cells:=by
 refine Pg _ _ _ _ Af ?_ λj hj GS=>?_
 ·unfold ASt.at;rw[Ab Af,show 80+n*1-80=n by omega];exact BM _ (upd_same _ _ _)
 ·unfold ASt.at;simp only;by_cases h8:j<80
  ·rw[Ad h8,Ad h8]
  ·rw[Ab h8,Ab h8,upd_other _ _ _ _ Af]
theorem Sb(vs:Ap): ∀(cs:Array Value) (off j:Nat),off+vs.length<=cs.size->(Dc cs off vs)[j]?=if off<=j/\j<off+vs.length then vs[j-off]? else cs[j]?:=by
 induction vs with
 |nil=>intro cs off j h;rw[Ab (by simp only[EW];omega)];rfl
 |cons v vs ih=>
  intro cs off j h;simp only[By] at h;rw[Dc,ih _ _ _ (by simp;omega)];by_cases h1:off=j
  ·subst h1;rw[Ab Af,Ad (by simp),Dx,Ht Af];rfl
  ·by_cases h2:off+1<=j/\j<off+1+vs.length
   ·rw[Ad h2,Ad (by simp;omega),show j-off=(j-(off+1))+1 by omega];rfl
   ·rw[Ab h2,Ab (by simp only[By];omega),GC h1]
def ASt.drop(s:ASt)(p:Nat):ASt:={s with obj:=upd s.obj p 0,dead:=upd s.dead p true,root:=λn=>if n/4=p then 0 else s.root n,ser:=λn=>if n/4=p then 0 else s.ser n}
theorem ASt.s_drop(s:ASt)(p:Nat)(hp:p<8):Dc s.cells (p*10) [ι 0,.bool true,ι 0,ι 0,ι 0,ι 0,ι 0,ι 0,ι 0,ι 0]=(s.drop p).cells:=by
 apply Dq;intro j;rw[Sb _ _ _ _ (by rw[s.cells_size];simp;omega)];by_cases hj:j<112
 ·rw[(s.drop p).cells_get j hj,s.cells_get j hj];simp only[By,EW];by_cases MK:p*10<=j/\j<p*10+10
  ·rw[Ad Af];obtain⟨i,hi,rfl⟩: ∃i,i<10/\j=p*10+i:=⟨j-p*10,Af,Af⟩
   rw[show p*10+i-p*10=i by omega];unfold ASt.at ASt.drop;simp only;have h80:p*10+i<80:=by omega
   have hd:(p*10+i)/10=p:=by omega
   have hm:(p*10+i)%10=i:=by omega
   rw[Ad h80,hd,hm]
   match i,hi with
   |0,_=>simp[upd]
   |1,_=>simp[upd]
   |2,_=>simp
   |3,_=>simp;omega
   |4,_=>simp;omega
   |5,_=>simp;omega
   |6,_=>simp
   |7,_=>simp;omega
   |8,_=>simp;omega
   |9,_=>simp;omega
  ·rw[Ab Af];congr 1;unfold ASt.at ASt.drop;simp only;by_cases h80:j<80
   ·rw[Ad h80,Ad h80];have hq:j/10≠p:=by omega
    rw[upd_other _ _ _ _ hq,upd_other _ _ _ _ hq];by_cases h0:j%10=0
    ·rw[Ad h0,Ad h0]
    ·rw[Ab h0,Ab h0];by_cases h1:j%10=1
     ·rw[Ad h1,Ad h1]
     ·rw[Ab h1,Ab h1];by_cases h6:j%10<6
      ·rw[Ad h6,Ad h6,Ab Af]
      ·rw[Ab h6,Ab h6,Ab Af]
   ·rw[Ab h80,Ab h80]
 ·rw[Ab (by simp;omega),Fz (by rw[s.cells_size];omega),Fz (by rw[(s.drop p).cells_size];omega)]
def ASt.zero:ASt:=⟨λ_=>0,λ_=>false,λ_=>0,λ_=>0,λ_=>0⟩
theorem bT:ASt.zero.cells=τ [ι 0,.bool false,ι 0,ι 0,ι 0,ι 0,ι 0,ι 0,ι 0,ι 0,ι 0,.bool false,ι 0,ι 0,ι 0,ι 0,ι 0,ι 0,ι 0,ι 0,ι 0,.bool false,ι 0,ι 0,ι 0,ι 0,ι 0,ι 0,ι 0,ι 0,ι 0,.bool false,ι 0,ι 0,ι 0,ι 0,ι 0,ι 0,ι 0,ι 0,ι 0,.bool false,ι 0,ι 0,ι 0,ι 0,ι 0,ι 0,ι 0,ι 0,ι 0,.bool false,ι 0,ι 0,ι 0,ι 0,ι 0,ι 0,ι 0,ι 0,ι 0,.bool false,ι 0,ι 0,ι 0,ι 0,ι 0,ι 0,ι 0,ι 0,ι 0,.bool false,ι 0,ι 0,ι 0,ι 0,ι 0,ι 0,ι 0,ι 0,ι 0,ι 0,ι 0,ι 0,ι 0,ι 0,ι 0,ι 0,ι 0,ι 0,ι 0,ι 0,ι 0,ι 0,ι 0,ι 0,ι 0,ι 0,ι 0,ι 0,ι 0,ι 0,ι 0,ι 0,ι 0,ι 0,ι 0,ι 0,ι 0,ι 0,ι 0,ι 0]:=Bu
theorem new_any(l:Ac):Fn prog 130 [] l λv l'=> ∃b,(∀c,c∈l->c.1≠b)/\v= π b/\l'=asA b ASt.zero::l:=by refine AO func130 ntmps130 λE=>?_;refine gz ?_;refine AP (Cw rfl) ?_;rintro _ _ ⟨b,hb,rfl,rfl⟩;refine gz ?_;exact BF [] rfl .refl Ba ⟨b,hb,rfl,by rw[asA,bT]⟩
def addP(s:ASt)(o:Int):Int×Int×ASt:=
 if o<1 then(0,2,s) else if(atO s o).isSome then(0,16,s) else
 match EJ (λp=>s.obj p==0&&!s.dead p) 8 with
 |some p=>((p:Int),0,{s with obj:=upd s.obj p o})
 |none=>(0,11,s)
theorem Pj(b:Nat)(s:ASt)(o i:Int)(h:Xr s o=i)(l:Ac)(hm:asA b s∈l):
 Fn prog 191 [π b,ι o] l λv l'=>v= ι i/\l'=l:=by rw[<-h];exact J4 b s o l hm
theorem addPool_any(b:Nat)(s:ASt)(o:Int)(F:Ac):
 Fn prog 147 [π b,ι o] (asA b s::F) λv l'=>v= .tuple #[ι (addP s o).1,ι (addP s o).2.1]/\l'=asA b (addP s o).2.2::F:=by
 refine AO func147 ntmps147 λE=>?_;refine gz ?_;refine sn rfl (λho=>?_) (λho=>?_)
 ·refine gz ?_;exact BF [] rfl .refl Ba ⟨by simp[JQ,addP,ho],by simp[addP,ho]⟩
 ·refine gz ?_;cases hq:atO s o with
  |some q=>refine Be (AI rfl rfl (λl hl=>Pj b s o q (by simp[Xr,hq]) l (hl _ Ca))) ?_;refine gz ?_;exact BF [] rfl .refl Ba ⟨by simp[JQ,addP,ho,hq],by simp[addP,ho,hq]⟩
  |none=>
   refine Be (AI rfl rfl (λl hl=>Pj b s o (-1) (by simp[Xr,hq]) l (hl _ Ca))) ?_;refine gz ?_;refine CF (α:=Nat) (λk=>[(0,π b),(1,ι o),(18,ι k)]) (λk=>asA b s::F) (λk=>k<=8/\EJ (λp=>s.obj p==0&&!s.dead p) k=none) (λk=>8-k) 0 ⟨Af,rfl⟩ ⟨rfl,rfl,rfl,trivial⟩ .refl ?_;rintro k ⟨hk,hf⟩;by_cases C7:k<8
   ·have hc:=s.c_obj k C7;have hd:=s.c_dead k C7;by_cases hz:s.obj k=0
    ·cases hdd:s.dead k with
     |true=>rw[hdd] at hd;refine gz ?_;exact BZ (k+1) ⟨Af,by rw[Ij,hf];simp[hz,hdd]⟩ Af ⟨rfl,rfl,rfl,trivial⟩ .refl
     |false=>rw[hdd] at hd;refine gz ?_;refine Nk (Dy (cs:=s.cells) rfl rfl rfl D1 (by rw[s.cells_size];omega)) rfl rfl ?_;rintro _ _ ⟨rfl,rfl⟩;rw[s.s_obj k C7];refine gz ?_;have hft:=Mc (λp=>s.obj p==0&&!s.dead p) 8 k C7 (by simp[hz,hdd]) hf;exact BF [] rfl .refl Ba ⟨by simp[JQ,addP,ho,hq,hft],by simp[addP,ho,hq,hft]⟩
    ·refine gz ?_;exact BZ (k+1) ⟨Af,by rw[Ij,hf];simp[hz]⟩ Af ⟨rfl,rfl,rfl,trivial⟩ .refl
   ·obtain rfl:k=8:=by omega
    refine gz ?_;exact BF [] rfl .refl Ba ⟨by simp[JQ,addP,ho,hq,hf],by simp[addP,ho,hq,hf]⟩
def ASt.give0(s:ASt)(n:Nat):ASt:={s with root:=upd s.root n 0,ser:=upd s.ser n 0}
def unP(s:ASt)(r:Int):Int×Int×ASt:=match findN s (IY r) with|some n=>((n:Int),0,s.give0 n)|none=>(0,15,s)
open Go.RowKit
set_option maxRecDepth 20000
def serO(s:ASt)(n:Nat):Int:=(n:Int)+32*s.given n
def freeO(s:ASt)(p:Nat)(i:Fin 4):Bool:=s.root (4*p+i.val)==0&&decide (serO s (4*p+i.val)<=16777215)
def ASt.give(s:ASt)(n:Nat)(r:Int):ASt:={s with root:=upd s.root n r,ser:=upd s.ser n (serO s n),given:=upd s.given n (s.given n+1)}
def assignP(s:ASt)(o r:Int):Int×Int×Int×ASt:=
 match atO s o with
 |none=>(0,0,2,s)
 |some p=>if r<1 then(0,0,2,s) else if(findN s (IY r)).isSome then(0,0,13,s) else
  match(nums p).find? (freeO s p) with
  |some i=>((4*p+i.val:Nat),serO s (4*p+i.val),0,s.give (4*p+i.val) r)
  |none=>(0,0,11,s)
theorem OO{α:Type}(f:α->Bool)(pre l:List α)(i:α)(h:pre++[i]<+:l)(hp: ∀j∈pre,f j=false)(hi:f i=true):l.find? f=some i:=by obtain⟨A6,rfl⟩:=h;rw[Am,Ek,Bp.2 (λj hj=>by simp[hp j hj])];simp[hi]
theorem nf(s:ASt)(o:Int)(p:Nat)(h:atO s o=some p):p<8:=by
 unfold atO at h
 split at h
 ·cases h
 ·exact(QX _ _ _ h).1
theorem assign_any(b:Nat)(s:ASt)(o r:Int)(F:Ac)(hg: ∀n,n<32->0<=s.given n/\s.given n<=600000):
 Fn prog 148 [π b,ι o,ι r] (asA b s::F) λv l'=>v= .tuple #[ι (assignP s o r).1,ι (assignP s o r).2.1,ι (assignP s o r).2.2.1]/\l'=asA b (assignP s o r).2.2.2::F:=by
 refine AO func148 ntmps148 λE=>?_;refine Iy λb3=>?_;refine Iy λb5=>?_;refine Iy λb6=>?_;refine Iy λb7=>?_;refine Iy λb8=>?_;cases hq:atO s o with
 |none=>refine Be (AI rfl rfl (λl hl=>Pj b s o (-1) (by simp[Xr,hq]) l (hl _ Ca))) ?_;refine Iy λb9=>?_;exact AU [] ((b6,.cells #[ι 0] 3 (0,0))::(b7,.cells #[ι 0] 3 (0,0))::(b8,.cells #[ι 2] 29 (0,0))::asA b s::F) rfl (l':=asA b s::F) AY Ba AY ⟨by simp[JQ,assignP,hq],by simp[assignP,hq]⟩
 |some p=>
  have hp:=nf s o p hq;refine Be (AI rfl rfl (λl hl=>Pj b s o p (by simp[Xr,hq]) l (hl _ Ca))) ?_;refine Iy λb9=>?_;refine sn rfl (λhr=>?_) (λhr=>?_)
  ·refine gz ?_;exact AU [] ((b6,.cells #[ι 0] 3 (0,0))::(b7,.cells #[ι 0] 3 (0,0))::(b8,.cells #[ι 2] 29 (0,0))::asA b s::F) rfl (l':=asA b s::F) AY Ba AY ⟨by simp[JQ,assignP,hq,hr],by simp[assignP,hq,hr]⟩
  ·refine gz ?_;cases hf:findN s (IY r) with
   |some n=>refine Be (AI rfl rfl (λl hl=>Ph b b5 _ s r (IY r) n hf l (hl _ Ca) (hl _ Ca) (λr' q l h=>na b5 r r' q l h))) ?_;refine Iy λGW=>?_;exact AU [] ((b6,.cells #[ι 0] 3 (0,0))::(b7,.cells #[ι 0] 3 (0,0))::(b8,.cells #[ι 13] 29 (0,0))::asA b s::F) rfl (l':=asA b s::F) AY Ba AY ⟨by simp[JQ,assignP,hq,hr,hf],by simp[assignP,hq,hr,hf]⟩
   |none=>
    refine Be (AI rfl rfl (λl hl=>Pi b b5 _ s r (IY r) hf l (hl _ Ca) (hl _ Ca) (λr' q l h=>na b5 r r' q l h))) ?_;refine Iy λGW=>?_;refine AP (Az rfl rfl (OP p _)) ?_;rintro v l' ⟨B,hB,rfl,rfl⟩;refine gz ?_;refine Dj (α:=Fin 4) (ps:=[37,38]) (lb:=[π B]) rfl (Mu B p hp) (λ_=>rfl) rfl
     (λpre l=>l=[(B,.cells #[ι (p:Nat)] 3 (0,0)),(b9,.cells #[ι (p:Nat)] 3 (0,0)),(b3,.cells #[π b] 157 (0,0)),(b5,.cells #[ι r] 3 (0,0)),(b6,.cells #[ι 0] 3 (0,0)),(b7,.cells #[ι 0] 3 (0,0)),(b8,.cells #[ι 0] 29 (0,0)),asA b s]/\ ∀j∈pre,freeO s p j=false)
     (λc pre l=>c= .ret/\ ∃(Hh:List (Fin 4)) (i:Fin 4),pre=Hh++[i]/\(∀j∈Hh,freeO s p j=false)/\freeO s p i=true/\l=[(b6,.cells #[ι ((4*p+i.val:Nat):Int)] 3 (0,0)),(b7,.cells #[ι (serO s (4*p+i.val))] 3 (0,0)),(b8,.cells #[ι 0] 29 (0,0)),asA b (s.give (4*p+i.val) r)])
     _ F (λpre l X _ h=>by rw[h.1];exact List.Mem.head _) AY ⟨rfl,by simp⟩ ?_ ?_ ?_
    ·rintro E r0 Gb pre y l' T ⟨fn,tmps,D,rfl⟩ hT ⟨rfl,Gx⟩ DG;have vO:=y.isLt;have hgn:=hg (4*p+y.val) Af;have qr:=s.c_root p y.val hp vO;have qg:=s.c_given (4*p+y.val) Af;simp only[DY,Ae,Ag];refine gz ?_;refine CP D1 ?_;refine gz ?_;have Su:freeO s p y=(s.root (4*p+y.val)==0&&decide (serO s (4*p+y.val)<=16777215)):=rfl;have hso:serO s (4*p+y.val)=((4*p+y.val:Nat):Int)+32*s.given (4*p+y.val):=rfl;have HI:freeO s p y=false-> ∀j∈pre++[y],freeO s p j=false:=by
      intro h j hj;rcases AB.1 hj with hj|hj
      ·exact Gx j hj
      ·simp at hj;subst hj;exact h
     rw[<-hso];obtain⟨q,hqe⟩:=ξ (serO s (4*p+y.val))
     have e1:=s.s_given (4*p+y.val) Af (s.given (4*p+y.val)+1);obtain⟨s1,Nc⟩: ∃s1:ASt,{s with given:=upd s.given (4*p+y.val) (s.given (4*p+y.val)+1)}=s1:=⟨_,rfl⟩
     rw[Nc] at e1;have e2:=s1.s_root p y.val hp vO r;obtain⟨s2,Ol⟩: ∃s2:ASt,{s1 with root:=upd s1.root (4*p+y.val) r}=s2:=⟨_,rfl⟩
     rw[Ol] at e2;have e3:=s2.s_ser p y.val hp vO q;obtain⟨s3,R6⟩: ∃s3:ASt,{s2 with ser:=upd s2.ser (4*p+y.val) q}=s3:=⟨_,rfl⟩
     rw[R6] at e3;have R6:s3=s.give (4*p+y.val) r:=by rw[<-R6,<-Ol,<-Nc,<-hqe];rfl
     rw[hqe] at Su hso⊢;by_cases eh:s.root (4*p+y.val)=0
     ·refine Ct [] 14 _ ?_ (hR:=(λ_ h=>h));refine pz ?_;by_cases Nf:16777215<q
      ·refine gz ?_;refine Cn [(B,.cells #[ι (p:Nat)] 3 (0,0)),(b9,.cells #[ι (p:Nat)] 3 (0,0)),(b3,.cells #[π b] 157 (0,0)),(b5,.cells #[ι r] 3 (0,0)),(b6,.cells #[ι 0] 3 (0,0)),(b7,.cells #[ι 0] 3 (0,0)),(b8,.cells #[ι 0] 29 (0,0)),asA b s] AY ⟨rfl,HI (by rw[Su];simp[eh];omega)⟩
      ·refine gz ?_;refine J0 [(0,true),(1,true),(2,true),(3,true),(4,true),(7,true),(8,true),(5,false),(6,true),(9,true),(10,false)] [[],[],[0],[0,2],[0,1,2,3],[0,1,2,3,4],[0,1,2,3,4,5],[0],[0,7],[0,1,2,3,4,5,6,7,8],[0,1,2,3,4,5,6,7,8,9]] ([(B,.cells #[ι (p:Nat)] 3 (0,0)),(b9,.cells #[ι (p:Nat)] 3 (0,0)),(b3,.cells #[π b] 157 (0,0)),(b5,.cells #[ι r] 3 (0,0))]) Bu Bu GO Vq ?_;refine pz ?_;apply Oy
       ·exact Dy (cs:=s.cells) rfl rfl rfl D1 (by rw[ASt.cells_size];omega)
       ·rfl
       ·rfl
       ·rintro _ _ ⟨rfl,rfl⟩;exact(Cm MV)
       rintro _ _ ⟨rfl,rfl⟩;rw[e1];refine pz ?_;refine gz ?_;refine J0 [(0,true),(1,true),(2,true),(3,true),(4,true),(5,true),(6,true),(7,true),(8,true),(9,true),(10,true),(11,true),(12,true),(14,true),(15,true),(16,true),(17,true),(13,false),(18,true),(19,false)] [[],[],[],[],[],[],[],[],[0],[0,8],[0,1,8,9],[0,1,8,9,10],[0,1,2,6,8,9,10,11],[0,1,2,6,8,9,10,11,12],[3],[3,14],[3,4,14,15],[3,4,14,15,16],[0,1,2,3,4,5,6,7,8,9,10,11,12,13,14,15,16,17],[0,1,2,3,4,5,6,7,8,9,10,11,12,13,14,15,16,17,18]] ([(B,.cells #[ι (p:Nat)] 3 (0,0)),(b9,.cells #[ι (p:Nat)] 3 (0,0)),(b3,.cells #[π b] 157 (0,0)),(b5,.cells #[ι r] 3 (0,0))]) Bu Bu GO Vq ?_;refine pz ?_;apply Oy
       ·exact Dy (cs:=s1.cells) rfl rfl rfl D1 (by rw[ASt.cells_size];omega)
       ·rfl
       ·rfl
       ·rintro _ _ ⟨rfl,rfl⟩;exact(Cm MV)
       rintro _ _ ⟨rfl,rfl⟩;rw[e2];refine pz ?_;apply Oy
       ·exact Dy (cs:=s2.cells) rfl rfl rfl D1 (by rw[ASt.cells_size];omega)
       ·rfl
       ·rfl
       ·rintro _ _ ⟨rfl,rfl⟩;exact(Cm MV)
       rintro _ _ ⟨rfl,rfl⟩;rw[e3];refine pz ?_;refine gz ?_;refine EH [(b6,.cells #[ι ((4*p+y.val:Nat):Int)] 3 (0,0)),(b7,.cells #[ι q] 3 (0,0)),(b8,.cells #[ι 0] 29 (0,0)),asA b s3] AY ⟨rfl,pre,y,rfl,Gx,by rw[Su];simp[eh];omega,?_⟩;rw[R6,hqe]
     ·refine Ct [] 14 _ ?_ (hR:=(λ_ h=>h));refine pz ?_;refine gz ?_;refine Cn [(B,.cells #[ι (p:Nat)] 3 (0,0)),(b9,.cells #[ι (p:Nat)] 3 (0,0)),(b3,.cells #[π b] 157 (0,0)),(b5,.cells #[ι r] 3 (0,0)),(b6,.cells #[ι 0] 3 (0,0)),(b7,.cells #[ι 0] 3 (0,0)),(b8,.cells #[ι 0] 29 (0,0)),asA b s] AY ⟨rfl,HI (by rw[Su];simp[eh])⟩
    ·rintro D xs l' rfl ⟨rfl,Gx⟩;have HI:(nums p).find? (freeO s p)=none:=Bp.2 λj hj=>by simp[Gx j hj]
     simp only[Ae,Ag];refine gz ?_;exact AU [D] ((b6,.cells #[ι 0] 3 (0,0))::(b7,.cells #[ι 0] 3 (0,0))::(b8,.cells #[ι 11] 29 (0,0))::asA b s::F) rfl (l':=asA b s::F) AY Ba AY ⟨by simp[JQ,assignP,hq,hr,hf,HI],by simp[assignP,hq,hr,hf,HI]⟩
    ·rintro D c pre l' DG ⟨rfl,Hh,i,rfl,lj,hi,rfl⟩;have aO:=OO (freeO s p) Hh _ i DG lj hi;simp only[Ae,Ag];refine gz ?_;exact AU [D] ((b6,.cells #[ι ((4*p+i.val:Nat):Int)] 3 (0,0))::(b7,.cells #[ι (serO s (4*p+i.val))] 3 (0,0))::(b8,.cells #[ι 0] 29 (0,0))::asA b (s.give (4*p+i.val) r)::F) rfl (l':=asA b (s.give (4*p+i.val) r)::F) AY Ba AY ⟨by simp[JQ,assignP,hq,hr,hf,aO],by simp[assignP,hq,hr,hf,aO]⟩
end As
open Go.RowKit
set_option maxRecDepth 20000
theorem DD(x lo hi:Int)(l:Ac):Fn prog 243 [ι x,ι lo,ι hi] l λv l'=>v= .bool (decide (lo<=x)&&decide (x<=hi))/\l'=l:=by
 refine AO func243 ntmps243 λE=>?_;by_cases h:lo<=x
 ·rw[Aq h,BA];exact Fd
 ·rw[Av h,Bl];exact Fd
theorem bU(x:Int)(l:Ac):Fn prog 245 [ι x] l λv l'=>v= .bool (decide (0<=x)&&decide (x<=7))/\l'=l:=by
 refine AO func245 ntmps245 λE=>?_;by_cases h:0<=x
 ·rw[Aq h,BA];exact Fd
 ·rw[Av h,Bl];exact Fd
def GQ(v k:Nat):List Nat:=(List.range k).filter λi=>v.testBit i
theorem T7(h:v.testBit k=true):GQ v (k+1)=GQ v k++[k]:=by unfold GQ;rw[Cx,DM,List.filter_cons_of_pos h];rfl
theorem Zi(h:v.testBit k=false):GQ v (k+1)=GQ v k:=by unfold GQ;rw[Cx,DM,I4 (by rw[h];simp)];simp
theorem T8(v k:Nat): ∀m,GQ v k<+:GQ v (k+m)
 |0=>Hd
 |m+1=>(T8 v k m).trans (by
   show GQ v (k+m)<+:GQ v (k+m+1);cases h:v.testBit (k+m) with
   |true=>rw[T7 h];exact G5 _ _
   |false=>rw[Zi h];exact Hd)
abbrev RM(B v:Nat):Bh:=(B,.cells #[υ (v:Nat)] 34 (0,0))
theorem ng(v:Nat)(l:Ac):Fn prog 312 [υ (v:Nat)] l λr l'=> ∃B,r= .func (.func 357) #[] #[π B]/\l'=RM B v::l:=by refine AO func312 ntmps312 λE=>?_;refine gz ?_;refine AP (EA rfl rfl) ?_;rintro _ _ ⟨B,hB,rfl,rfl⟩;refine gz ?_;exact Bc .refl ⟨B,rfl,rfl⟩
theorem iY(B v:Nat)(hv:v<18446744073709551616):FN prog 357 [π B] (λi:Nat=>[ι i]) (λxs=>xs=GQ v 64) (λpre=>pre<+:GQ v 64)
 (λ_ l=>RM B v∈l):=by
 refine⟨λr I Ix G0 Cf hY l G hG h0=>?_⟩;refine AO func357 ntmps357 λE=>?_;refine gz ?_;refine CF (α:=Nat×Ac) (λx=>[(0,.func (.yield r) #[] #[]),(1,π B),(4,ι x.1)]) (λx=>x.2++G) (λx=>x.1<=64/\I (GQ v x.1) x.2) (λx=>64-x.1) (0,l) ⟨Bm _,h0⟩ ⟨rfl,rfl,rfl,trivial⟩ .refl ?_;rintro⟨k,l⟩ ⟨hk,hI⟩;simp only at hk hI⊢;have hm:=Cf _ _ G hG hI;by_cases C7:k<64
 ·refine gz ?_;refine Be (fe (n:=k) rfl rfl (by show k<=64;omega)) ?_;have ei:((v:Nat):Int)/2^k=((v/2^k:Nat):Int):=by norm_cast
  rw[ei];refine Be (wv (b:=1) rfl rfl (Ex (KC _ _) hv) Af) ?_;rw[Nat.and_one_is_mod];cases hb:v.testBit k with
  |true=>
   have W7:v/2^k%2=1:=by rw[DX] at hb;simpa using hb
   have hp:GQ v k++[k]<+:GQ v 64:=by rw[<-T7 hb];have:=T8 v (k+1) (64-(k+1));rw[show k+1+(64-(k+1))=64 by omega] at this;exact this
   have hy:=hY (GQ v k) k l G hG hI hp;rw[W7];refine gz ?_;refine IE (C8 rfl rfl hy) rfl rfl rfl ?_;rintro w l' ⟨l1,rfl,⟨rfl,Kz⟩|⟨rfl,hx⟩⟩
   ·refine gz ?_;exact BZ (k+1,l1) ⟨by simp only;omega,by simp only;rw[T7 hb];exact Kz⟩ (by simp only;omega) ⟨rfl,rfl,rfl,trivial⟩ .refl
   ·refine gz ?_;exact Bc .refl ⟨l1,rfl,.inr ⟨_,hp,hx⟩⟩
  |false=>
   have W7:v/2^k%2=0:=by rw[DX] at hb;simp at hb;omega
   rw[W7];refine gz ?_;exact BZ (k+1,l) ⟨by simp only;omega,by simp only;rw[Zi hb];exact hI⟩ (by simp only;omega) ⟨rfl,rfl,rfl,trivial⟩ .refl
 ·obtain rfl:k=64:=by omega
  refine gz ?_;exact Bc .refl ⟨l,rfl,.inl ⟨_,rfl,hI⟩⟩
def Jz(v:Nat)(n:Int):Bool:=(GQ v 64).all λj=>decide ((j:Int)<n)
abbrev bC(B:Nat)(x:Bool):Bh:=(B,.cells #[.bool x] 4 (0,0))
abbrev GT(B:Nat)(x:Int):Bh:=(B,.cells #[ι x] 3 (0,0))
theorem QZ(v:Nat)(hv:v<18446744073709551616)(n:Int)(l:Ac):Fn prog 244 [υ (v:Nat),ι n] l λr l'=>r= .bool (Jz v n)/\l'=l:=by
 refine AO func244 ntmps244 λE=>?_;refine Iy λb3=>?_;refine Iy λb4=>?_;refine AP (Az rfl rfl (ng v _)) ?_;rintro _ _ ⟨B,rfl,rfl⟩;refine gz ?_;refine Dj (α:=Nat) (ps:=[8]) (lb:=[π B]) rfl (iY B v hv) (λ_=>rfl) rfl
  (λpre l=>l=[RM B v,bC b4 false,GT b3 n]/\ ∀j,j∈pre->(j:Int)<n)
  (λc pre l=>c= .ret/\(∃j,j∈pre/\¬(j:Int)<n)/\l=[bC b4 false])
  _ l (λpre l2 X2 hX h=>by rw[h.1];exact List.Mem.head _) AY ⟨rfl,by simp⟩ ?_ ?_ ?_
 ·rintro E r0 Gb pre y l' T ⟨fn,tmps,D,rfl⟩ hT ⟨rfl,Gx⟩ DG;simp only[DY,Ae,Ag];refine gz ?_;refine CP D1 ?_;by_cases hy:(y:Int)<n
  ·refine gz ?_;refine Cn _ .refl ⟨rfl,λj hj=>?_⟩;rcases AB.1 hj with hj|hj
   ·exact Gx j hj
   ·rw[Ay.1 hj];exact hy
  ·refine gz ?_;exact EH [bC b4 false] AY ⟨rfl,⟨y,by simp,hy⟩,rfl⟩
 ·rintro D xs l' rfl ⟨rfl,Gx⟩;have e:Jz v n=true:=by unfold Jz;exact AS.2 λj hj=>by simpa using Gx j hj
  rw[e];simp only[Ae,Ag];refine gz ?_;exact AU [D] (bC b4 true::l) rfl (l':=l) AY Ba ζ ⟨rfl,rfl⟩
 ·rintro D c pre l' DG ⟨rfl,⟨j,hj,hn⟩,rfl⟩;have e:Jz v n=false:=by
   cases h:Jz v n with
   |false=>rfl
   |true=>exact absurd (by simpa using AS.1 h j (DG.subset hj)) hn
  rw[e];simp only[Ae,Ag];refine gz ?_;exact AU [D] (bC b4 false::l) rfl (l':=l) AY Ba ζ ⟨rfl,rfl⟩
structure CapT where
 kind:Int
 obj:Int
 rights:Int
 badge:Int
 guard:Int
 bits:Int
 serial:Int
 page:Int
variable{c x:CapT}{C:List CapT}
abbrev Cb(c:CapT):Ap:=[ι c.kind,ι c.obj,ι c.rights,υ c.badge,ι c.guard,ι c.bits,ι c.serial,ι c.page]
abbrev yO:List (Option IntKind):=[some .i64,some .i64,some .i64,some .u64,some .i64,some .i64,some .i64,some .i64]
theorem EC(c:CapT):AllK yO (Cb c):=⟨_,_,rfl,⟨_,rfl⟩,_,_,rfl,⟨_,rfl⟩,_,_,rfl,⟨_,rfl⟩,_,_,rfl,⟨_,rfl⟩,_,_,rfl,⟨_,rfl⟩,_,_,rfl,⟨_,rfl⟩,_,_,rfl,⟨_,rfl⟩,_,_,rfl,⟨_,rfl⟩,rfl⟩
theorem Zj: ∀x y,Cb x=Cb y->x=y:=λx y h=>by cases x;cases y;simp only[Cb,Cj,Value.int.injEq,GH,IC] at h;simp only[CapT.mk.injEq];exact h
instance:EQ prog 74 yO:=⟨Bu⟩
abbrev Bw(B:Nat)(c:CapT):Bh:=(B,.cells (τ (Cb c)) 74 (0,0))
def MD(a b:CapT):Bool:=BU (Cb a) (Cb b)
theorem Pk{a b:CapT}:MD a b=true<->a=b:=by unfold MD;rw[Gr (EC a) (EC b)];exact⟨Zj a b,λh=>by rw[h]⟩
def Ob(x:Int):Nat:=(x%18446744073709551616).toNat
theorem fu(x:Int):Ob x<18446744073709551616:=by have h1:=IN x (b:=(18446744073709551616:Int)) Af;have h2:=Int.emod_lt_of_pos x (b:=(18446744073709551616:Int)) Af;unfold Ob;omega
theorem Wj(x:Int):IntKind.u64.wrap x=((Ob x:Nat):Int):=by
 have h1:=IN x (b:=(18446744073709551616:Int)) Af;have:IntKind.u64.wrap x=x%18446744073709551616:=by simp[IntKind.wrap,IntKind.signed,IntKind.bits]
 rw[this];unfold Ob;omega
def NV(x:Int):Bool:=decide (1<=x)&&decide (x<=65535)
abbrev fA(c:CapT):CapT:=⟨c.kind,0,0,0,0,0,0,0⟩
abbrev Ip(c:CapT):CapT:=⟨c.kind,c.obj,0,0,0,0,0,0⟩
abbrev Wk(c:CapT):CapT:=⟨c.kind,c.obj,0,0,c.guard,c.bits,0,0⟩
abbrev Me(c:CapT):CapT:=⟨c.kind,c.obj,c.rights,0,0,0,c.serial,c.page⟩
abbrev Wl(c:CapT):CapT:=⟨c.kind,c.obj,c.rights,c.badge,0,0,0,0⟩
def fB(c:CapT):Bool:=(decide (0<=c.bits)&&decide (c.bits<=12))&&(decide (0<=c.guard)&&Jz (Ob c.guard) c.bits)
def Nv(c:CapT):Bool:=(decide (1<=c.serial)&&decide (c.serial<=16777215))&&(decide (0<=c.page)&&decide (c.page<=511))
def bV(c:CapT):Bool:=(decide (1<=c.rights)&&decide (c.rights<=3))&&(Nv c||(decide (c.serial=0)&&decide (c.page=0)))
def yP(c:CapT):Bool:=(decide (0<=c.rights)&&decide (c.rights<=7))&&decide (c.badge<=16777215)
def E5(c:CapT):Bool:=
 if c.kind=0\/c.kind=7 then MD c (fA c)
 else if c.kind=1\/c.kind=4\/c.kind=5\/c.kind=6\/c.kind=9 then MD c (Ip c)&&NV c.obj
 else if c.kind=2 then fB c&&(MD c (Wk c)&&NV c.obj)
 else if c.kind=3 then bV c&&(MD c (Me c)&&NV c.obj)
 else if c.kind=8 then yP c&&(MD c (Wl c)&&NV c.obj)
 else false
set_option maxRecDepth 20000 in
theorem IH(c:CapT)(l:Ac):Fn prog 185 [.agg (τ (Cb c))] l λv l'=>v= .bool (E5 c)/\l'=l:=by
 refine AO func185 ntmps185 λE=>?_;refine AR λb1=>?_;refine AP e_alloc ?_;rintro _ _ ⟨b3,_,rfl,rfl⟩;iterate 10 refine bJ ?_
 by_cases h0:c.kind=0\/c.kind=7
 ·have e:E5 c=MD c (fA c):=by unfold E5;rw[Ad h0]
  rw[e];rcases h0 with h0|h0
  ·refine Aj ?_;refine Be (FC (ys:=Cb (fA c)) rfl rfl (EC c) (EC _)) ?_;exact Fd
  ·refine Aj ?_;refine Be (FC (ys:=Cb (fA c)) rfl rfl (EC c) (EC _)) ?_;exact Fd
 by_cases h1:c.kind=1\/c.kind=4\/c.kind=5\/c.kind=6\/c.kind=9
 ·have e:E5 c=(MD c (Ip c)&&NV c.obj):=by unfold E5;rw[Ab h0,Ad h1]
  rw[e];unfold NV;rcases h1 with h1|h1|h1|h1|h1
  ·refine Aj ?_;refine Be (FC (ys:=Cb (Ip c)) rfl rfl (EC c) (EC _)) ?_;rw[show BU (Cb c) (Cb (Ip c))=MD c (Ip c) from rfl];cases he:MD c (Ip c) with
   |false=>rw[Bl];exact Fd
   |true=>rw[BA];refine Aj ?_;refine MU (AI rfl rfl λl2 _=>DD c.obj 1 65535 l2) rfl rfl rfl ?_;exact Fd
  ·refine Aj ?_;refine Be (FC (ys:=Cb (Ip c)) rfl rfl (EC c) (EC _)) ?_;rw[show BU (Cb c) (Cb (Ip c))=MD c (Ip c) from rfl];cases he:MD c (Ip c) with
   |false=>rw[Bl];exact Fd
   |true=>rw[BA];refine Aj ?_;refine MU (AI rfl rfl λl2 _=>DD c.obj 1 65535 l2) rfl rfl rfl ?_;exact Fd
  ·refine Aj ?_;refine Be (FC (ys:=Cb (Ip c)) rfl rfl (EC c) (EC _)) ?_;rw[show BU (Cb c) (Cb (Ip c))=MD c (Ip c) from rfl];cases he:MD c (Ip c) with
   |false=>rw[Bl];exact Fd
   |true=>rw[BA];refine Aj ?_;refine MU (AI rfl rfl λl2 _=>DD c.obj 1 65535 l2) rfl rfl rfl ?_;exact Fd
  ·refine Aj ?_;refine Be (FC (ys:=Cb (Ip c)) rfl rfl (EC c) (EC _)) ?_;rw[show BU (Cb c) (Cb (Ip c))=MD c (Ip c) from rfl];cases he:MD c (Ip c) with
   |false=>rw[Bl];exact Fd
   |true=>rw[BA];refine Aj ?_;refine MU (AI rfl rfl λl2 _=>DD c.obj 1 65535 l2) rfl rfl rfl ?_;exact Fd
  ·refine Aj ?_;refine Be (FC (ys:=Cb (Ip c)) rfl rfl (EC c) (EC _)) ?_;rw[show BU (Cb c) (Cb (Ip c))=MD c (Ip c) from rfl];cases he:MD c (Ip c) with
   |false=>rw[Bl];exact Fd
   |true=>rw[BA];refine Aj ?_;refine MU (AI rfl rfl λl2 _=>DD c.obj 1 65535 l2) rfl rfl rfl ?_;exact Fd
 by_cases h2:c.kind=2
 ·have e:E5 c=(fB c&&(MD c (Wk c)&&NV c.obj)):=by unfold E5;rw[Ab h0,Ab h1,Ad h2]
  rw[e];unfold fB NV;refine Aj ?_;refine Ct [5,7] 8 ([Bw b1 c]) ?_;refine BJ ?_;refine Aj ?_;refine Be (AI rfl rfl λl2 _=>DD c.bits 0 12 l2) ?_;cases k1:(decide (0<=c.bits)&&decide (c.bits<=12)) with
  |false=>rw[Bl,Bl];exact Fd
  |true=>
   rw[BA];by_cases k2:0<=c.guard
   case neg=>rw[Av k2,Bl,Bl];exact Fd
   rw[Aq k2,BA];refine Aj ?_;refine MU (Ow rfl) rfl rfl rfl ?_;rw[Wj];refine Aj ?_;refine MU (AI rfl rfl λl2 _=>QZ (Ob c.guard) (fu _) c.bits l2) rfl rfl rfl ?_;cases k3:Jz (Ob c.guard) c.bits with
   |false=>rw[Bl];exact Fd
   |true=>
    rw[BA];refine Aj ?_;refine Be (FC (ys:=Cb (Wk c)) rfl rfl (EC c) (EC _)) ?_;rw[show BU (Cb c) (Cb (Wk c))=MD c (Wk c) from rfl];cases he:MD c (Wk c) with
    |false=>rw[Bl];exact Fd
    |true=>rw[BA];refine Aj ?_;refine MU (AI rfl rfl λl2 _=>DD c.obj 1 65535 l2) rfl rfl rfl ?_;exact Fd
 by_cases h3:c.kind=3
 ·have e:E5 c=(bV c&&(MD c (Me c)&&NV c.obj)):=by unfold E5;rw[Ab h0,Ab h1,Ab h2,Ad h3]
  rw[e];unfold bV NV;refine Aj ?_;refine Ct [7,9,11] 12 ([Bw b1 c]) ?_;refine BJ ?_;refine Aj ?_;refine Be (AI rfl rfl λl2 _=>DD c.serial 1 16777215 l2) ?_;cases k1:(decide (1<=c.serial)&&decide (c.serial<=16777215)) with
  |false=>
   have kp:Nv c=false:=by unfold Nv;rw[k1];rfl
   refine Aj ?_;refine Be (AI rfl rfl λl2 _=>DD c.rights 1 3 l2) ?_;cases kr:(decide (1<=c.rights)&&decide (c.rights<=3)) with
   |false=>rw[Bl,Bl];exact Fd
   |true=>
    rw[BA];rw[kp,Mp];by_cases ks:c.serial=0
    case neg=>rw[Av ks,Bl,Bl];exact Fd
    rw[Aq ks,BA];by_cases kg:c.page=0
    case neg=>rw[Av kg,Bl];exact Fd
    rw[Aq kg,BA];refine Aj ?_;refine Be (FC (ys:=Cb (Me c)) rfl rfl (EC c) (EC _)) ?_;rw[show BU (Cb c) (Cb (Me c))=MD c (Me c) from rfl];cases he:MD c (Me c) with
    |false=>rw[Bl];exact Fd
    |true=>rw[BA];refine Aj ?_;refine MU (AI rfl rfl λl2 _=>DD c.obj 1 65535 l2) rfl rfl rfl ?_;exact Fd
  |true=>
   refine Aj ?_;refine MU (AI rfl rfl λl2 _=>DD c.page 0 511 l2) rfl rfl rfl ?_;cases k2:(decide (0<=c.page)&&decide (c.page<=511)) with
   |false=>
    have kp:Nv c=false:=by unfold Nv;rw[k1,k2];rfl
    refine Aj ?_;refine Be (AI rfl rfl λl2 _=>DD c.rights 1 3 l2) ?_;cases kr:(decide (1<=c.rights)&&decide (c.rights<=3)) with
    |false=>rw[Bl,Bl];exact Fd
    |true=>
     rw[BA];rw[kp,Mp];by_cases ks:c.serial=0
     case neg=>rw[Av ks,Bl,Bl];exact Fd
     rw[Aq ks,BA];by_cases kg:c.page=0
     case neg=>rw[Av kg,Bl];exact Fd
     rw[Aq kg,BA];refine Aj ?_;refine Be (FC (ys:=Cb (Me c)) rfl rfl (EC c) (EC _)) ?_;rw[show BU (Cb c) (Cb (Me c))=MD c (Me c) from rfl];cases he:MD c (Me c) with
     |false=>rw[Bl];exact Fd
     |true=>rw[BA];refine Aj ?_;refine MU (AI rfl rfl λl2 _=>DD c.obj 1 65535 l2) rfl rfl rfl ?_;exact Fd
   |true=>
    have kp:Nv c=true:=by unfold Nv;rw[k1,k2];rfl
    refine Aj ?_;refine Be (AI rfl rfl λl2 _=>DD c.rights 1 3 l2) ?_;cases kr:(decide (1<=c.rights)&&decide (c.rights<=3)) with
    |false=>rw[Bl,Bl];exact Fd
    |true=>
     rw[BA];rw[kp,Bool.true_or,BA];refine Aj ?_;refine Be (FC (ys:=Cb (Me c)) rfl rfl (EC c) (EC _)) ?_;rw[show BU (Cb c) (Cb (Me c))=MD c (Me c) from rfl];cases he:MD c (Me c) with
     |false=>rw[Bl];exact Fd
     |true=>rw[BA];refine Aj ?_;refine MU (AI rfl rfl λl2 _=>DD c.obj 1 65535 l2) rfl rfl rfl ?_;exact Fd
 by_cases h8:c.kind=8
 ·have e:E5 c=(yP c&&(MD c (Wl c)&&NV c.obj)):=by unfold E5;rw[Ab h0,Ab h1,Ab h2,Ab h3,Ad h8]
  rw[e];unfold yP NV;refine Aj ?_;refine Ct [5,7] 8 ([Bw b1 c]) ?_;refine BJ ?_;refine Aj ?_;refine Be (AI rfl rfl λl2 _=>bU c.rights l2) ?_;cases k1:(decide (0<=c.rights)&&decide (c.rights<=7)) with
  |false=>rw[Bl,Bl];exact Fd
  |true=>
   rw[BA];by_cases k2:c.badge<=16777215
   case neg=>rw[Av k2,Bl];exact Fd
   rw[Aq k2,BA];refine Aj ?_;refine Be (FC (ys:=Cb (Wl c)) rfl rfl (EC c) (EC _)) ?_;rw[show BU (Cb c) (Cb (Wl c))=MD c (Wl c) from rfl];cases he:MD c (Wl c) with
   |false=>rw[Bl];exact Fd
   |true=>rw[BA];refine Aj ?_;refine MU (AI rfl rfl λl2 _=>DD c.obj 1 65535 l2) rfl rfl rfl ?_;exact Fd
 have e:E5 c=false:=by unfold E5;rw[Ab h0,Ab h1,Ab h2,Ab h3,Ab h8]
 rw[e];exact Fd
theorem T9{j:Nat}:j∈GQ v k<->j<k/\v.testBit j=true:=by unfold GQ;rw[Cr,C9]
theorem Zk(hv:v<18446744073709551616)(hn:n<=64):Jz v n=decide (v<2^n):=by
 by_cases h:v<2^n
 ·rw[Aq h];unfold Jz;refine AS.2 λj hj=>?_;obtain⟨h1,h2⟩:=T9.1 hj;refine Aq ?_;by_cases hjn:j<n
  ·omega
  ·exfalso;have h3:v<2^j:=D8 h (Cp Af Af);rw[ER h3] at h2;cases h2
 ·rw[Av h];cases hf:Jz v n with
  |false=>rfl
  |true=>
   exfalso;refine h (Nat.lt_pow_two_of_testBit v λi hi=>?_);cases hb:v.testBit i with
   |false=>rfl
   |true=>
    exfalso;by_cases AeR:i<64
    ·have:=AS.1 hf i (T9.2 ⟨AeR,hb⟩);simp at this;omega
    ·have h3:v<2^i:=D8 hv (by
      have:=Cp (n:=2) Af (show 64<=i by omega);exact B9 A0 this)
     rw[ER h3] at hb;cases hb
abbrev wA:CapT:=⟨0,0,0,0,0,0,0,0⟩
theorem nh(h:E5 c=true)(hk:c.kind=0):c=wA:=by unfold E5 at h;rw[Ad (.inl hk)] at h;have:=Pk.1 h;rw[this];show(⟨c.kind,0,0,0,0,0,0,0⟩:CapT)=wA;rw[hk]
structure JA(c:CapT):Prop where
 badge:0<=c.badge
 guard:c.guard<=9223372036854775807
def HQ(a b:CapT):Bool:=E5 a&&E5 b&&!decide (a.kind=0)&&decide (a.kind=b.kind)&&decide (a.obj=b.obj)
theorem K4(a:Int): ∀(es:List LK) (i:Nat),Hj a es i=E4 a es i
 |[],i=>rfl
 |e::es,i=>by unfold Hj E4;rw[K4 a es (i+1)]
theorem J5(a:Int)(es:List LK):LL a es=Ih a es:=by unfold LL Ih;rw[K4]
theorem Xv(a:Int)(v:Value)(clock:Nat)(es:List LK):OD a v clock es=LN a v clock es:=by unfold OD LN;rw[K4]<;>rfl
theorem bW(a:Int)(es:List LK):P4 a es=PF a es:=by unfold P4 PF;rw[K4]<;>rfl
theorem Ua:a∈es.map (·.1)<->(Ih a es).isSome=true:=by
 unfold Ih;cases h:E4 a es 0 with
 |none=>
  simp only[DP,FL,Bn,iff_false];exact λhm=>by obtain⟨e,he,h2⟩:=Ax.1 hm;exact IX.1 h e he h2
 |some p=>obtain⟨A,e,B,rfl,_,h1,_⟩:=HO (k:=p.1) (v:=p.2) h;simp[h1]
theorem FG{α:Type}(p:α->Bool): ∀(A B:List α),(A++B).find? p=(A.find? p).or (B.find? p)
 |[],B=>rfl
 |x::A,B=>by
  rw[Ae,BH,BH];cases p x with
  |true=>rfl
  |false=>exact FG p A B
theorem Lt{α:Type}{p q:α->Bool}: ∀{l:List α},(∀x,x∈l->p x=q x)->l.find? p=l.find? q
 |[],_=>rfl
 |x::l,h=>by rw[BH,BH,h x Al,Lt λy hy=>h y (An _ hy)]
section
variable{key:α->Int}{val:α->Value}
def D9(key:α->Int)(L:List α)(a:Int):Option α:=L.find? λt=>decide (key t=a)
structure MB(key:α->Int)(val:α->Value)(L:List α)(es:List LK)(clock:Nat):Prop where
 ok:KeysOk es clock
 get: ∀a,LL a es=(D9 key L a).map val
 asc:L.Pairwise λx y=>key x<key y
theorem MB.zero:MB key val [] [] 0:=⟨⟨by simp,by simp,by simp⟩,λa=>rfl,by simp⟩
theorem Fb{L:List α}{t:α}(h:D9 key L a=some t):t∈L/\key t=a:=⟨BE h,by simpa using Eb h⟩
theorem Gz{L:List α}:D9 key L a=none<-> ∀t,t∈L->key t≠a:=by unfold D9;rw[Bp];simp
theorem MB.nd{L:List α}(h:MB key val L es clock):(L.map key).Nodup:=by refine(Cz.2 (h.asc.imp λVm=>?_));omega
theorem MB.keys{L:List α}(h:MB key val L es clock):(es.map (·.1)).Perm (L.map key):=by
 refine(FM h.ok.keys h.nd).2 λa=>?_;rw[Ua,<-J5,h.get];cases hf:D9 key L a with
 |none=>
  simp only[DP,FL,Bn,false_iff];exact λhm=>by obtain⟨t,ht,h2⟩:=Ax.1 hm;exact Gz.1 hf t ht h2
 |some t=>obtain⟨h1,h2⟩:=Fb hf;simp only[BY,IU,true_iff];exact Ax.2 ⟨t,h1,h2⟩
theorem MB.len{L:List α}(h:MB key val L es clock):es.length=L.length:=by simpa using h.keys.length_eq
theorem MB.at_{L:List α}(h:MB key val L es clock){t:α}(ht:t∈L):D9 key L (key t)=some t:=by
 cases hf:D9 key L (key t) with
 |none=>exact absurd rfl (Gz.1 hf t ht)
 |some u=>obtain⟨h1,h2⟩:=Fb hf;rw[OI h.nd h1 ht h2]
def MY(key:α->Int)(L:List α)(t:α):List α:=L.takeWhile (λx=>decide (key x<key t))++t::L.dropWhile λx=>decide (key x<key t)
theorem Wm{L:List α}(hs:L.Pairwise λx y=>key x<key y)(GS: ∀x,x∈L->key x≠a): ∃W Z,L.takeWhile (λx=>decide (key x<a))=W/\L.dropWhile (λx=>decide (key x<a))=Z/\L=W++Z/\(∀x,x∈W->key x<a)/\(∀x,x∈Z->a<key x):=by
 have hL:L.takeWhile (λx=>decide (key x<a))++L.dropWhile (λx=>decide (key x<a))=L:=Ci ..;refine⟨_,_,rfl,rfl,hL.symm,λx hx=>by simpa using AS.1 (IV (l:=L) (p:=λx=>decide (key x<a))) x hx,λx hx=>?_⟩;rw[<-hL,Br] at hs;cases hd:L.dropWhile (λx=>decide (key x<a)) with
 |nil=>rw[hd] at hx;cases hx
 |cons y r=>
  have hy:¬key y<a:=by have:=List.head?_dropWhile_not (λx:α=>decide (key x<a)) L;rw[hd] at this;simpa using this
  have hyL:y∈L:=(Jp _).subset (by rw[hd];exact Al);have:=GS y hyL;rw[hd] at hx;rcases Au.1 hx with rfl|hx
  ·omega
  ·have h2:=hs.2.1;rw[hd] at h2;have:=(Ck.1 h2).1 x hx;omega
theorem MB.add{L:List α}(h:MB key val L es clock){t:α}(hn:D9 key L (key t)=none):MB key val (MY key L t) (OD (key t) (val t) clock es).1 (OD (key t) (val t) clock es).2:=by
 have GS:=Gz.1 hn;obtain⟨W,Z,e1,e2,hL,GK,YB⟩:=Wm h.asc GS;have hs:=h.asc;rw[hL,Br] at hs;have hi:MY key L t=W++t::Z:=by unfold MY;rw[e1,e2]
 rw[Xv,hi];refine⟨h.ok.set _ _,λa=>?_,?_⟩
 ·rw[J5,Ko,<-J5,h.get];unfold D9;rw[FG,BH];have e0:L.find? (λt=>decide (key t=a))=(W.find? (λt=>decide (key t=a))).or (Z.find? (λt=>decide (key t=a))):=by rw[<-FG,<-hL]
  rw[e0];by_cases ha:a=key t
  ·subst ha;rw[Ad rfl,Aq rfl];have:W.find? (λx=>decide (key x=key t))=none:=Bp.2 λx hx=>by have:=GK x hx;simp;omega
   rw[this];rfl
  ·rw[Ab ha,Av λe=>ha e.symm]
 ·refine Br.2 ⟨hs.1,Ck.2 ⟨λx hx=>YB x hx,hs.2.1⟩,λx hx y hy=>?_⟩;have h1:=GK x hx;rcases Au.1 hy with rfl|hy
  ·exact h1
  ·have:=YB y hy;omega
theorem MB.drop{L:List α}(h:MB key val L es clock)(a:Int):MB key val (L.filter λx=>decide (key x≠a)) (P4 a es) clock:=by
 rw[bW];refine⟨h.ok.del a,λc=>?_,h.asc.filter _⟩;rw[J5,QJ h.ok,<-J5,h.get];unfold D9;rw[List.find?_filter];by_cases hc:c=a
 ·subst hc;rw[Ad rfl];rw[show L.find? (λx=>decide (decide (key x≠c)=true/\decide (key x=c)=true))=none from Bp.2 λx _=>by simp];rfl
 ·rw[Ab hc];congr 1;apply Lt;intro x _;by_cases hx:key x=c
  ·simp[hx,hc]
  ·simp[hx]
theorem Ub{L:List α}{t:α}(h:D9 key L a=some t): ∃A B,L=A++t::B/\key t=a/\ ∀x,x∈A->key x≠a:=by obtain⟨h1,A,B,rfl,h2⟩:=List.find?_eq_some_iff_append.1 h;exact⟨A,B,rfl,by simpa using h1,λx hx=>by simpa using h2 x hx⟩
theorem bX{A B:List α}{x:α}(h:(A++x::B).Pairwise λx y=>key x<key y)(hx:key x=a):(A++x::B).filter (λx=>decide (key x≠a))=A++B:=by obtain⟨_,h2,h3⟩:=Br.1 h;have h4:=(Ck.1 h2).1;rw[DM,I4 (by simpa using hx)];rw[List.filter_eq_self.2 λy hy=>by have:=h3 y hy x Al;simp;omega,List.filter_eq_self.2 λy hy=>by have:=h4 y hy;simp;omega]
theorem MB.repl{A B:List α}{x y:α}(h:MB key val (A++x::B) es clock)(hk:key y=key x)(hv:val y=val x):MB key val (A++y::B) es clock:=by
 refine⟨h.ok,λa=>?_,?_⟩
 ·rw[h.get];unfold D9;rw[FG,FG,BH,BH,hk];cases A.find? (λt=>decide (key t=a)) with
  |some u=>rfl
  |none=>
   simp only[Option.none_or]
   split
   ·rw[BY,BY,hv]
   ·rfl
 ·have h1:=h.asc;obtain⟨h2,h3,h4⟩:=Br.1 h1;obtain⟨h5,h6⟩:=Ck.1 h3;refine Br.2 ⟨h2,Ck.2 ⟨λz hz=>by rw[hk];exact h5 z hz,h6⟩,λz hz w hw=>?_⟩;rcases Au.1 hw with rfl|hw
  ·rw[hk];exact h4 z hz x Al
  ·exact h4 z hz w (An _ hw)
end
structure NdS where
 id:Int
 C:List CapT
 gb:Nat
variable{S:List NdS}
def Ta(C:List CapT):Ap:=C.flatMap Cb
abbrev Cu:CapT:=⟨0,0,0,0,0,0,0,0⟩
abbrev NdS.val(nd:NdS):Value:= .slice (some ⟨nd.gb,0,none⟩) nd.C.length nd.C.length
abbrev NdS.blk(nd:NdS):Bh:=(nd.gb,.cells (τ (Ta nd.C)) 74 (0,0))
abbrev NdS.d(nd:NdS):Int×List CapT:=(nd.id,nd.C)
abbrev xC(b m:Nat):Bh:=(b,.cells (τ [.map (some m)]) 406 (0,0))
abbrev SD:=List (Int×List CapT)
structure SB(b:Nat)(S:List NdS)(m:Nat)(es:List LK)(clock:Nat)(lq:Ac):Prop where
 eq:lq=xC b m::(m,Ge .i64 es clock)::S.map NdS.blk
 mb:MB NdS.id NdS.val S es clock
 sz: ∀nd,nd∈S->0<nd.C.length/\nd.C.length<=16
def IsS(b:Nat)(D:SD)(lq:Ac):Prop:= ∃S m es clock,S.map NdS.d=D/\SB b S m es clock lq
abbrev Ch:=Int×Int
abbrev Cd(s:Ch):Ap:=[ι s.1,ι s.2]
abbrev Dz(B:Nat)(s:Ch):Bh:=(B,.cells (τ (Cd s)) 61 (0,0))
theorem KI:D9 Prod.fst (S.map NdS.d) a=(D9 NdS.id S a).map NdS.d:=by unfold D9;rw[List.find?_map];rfl
theorem SB.m1(h:SB b S m es clock lq):xC b m∈lq:=by rw[h.eq];exact .head _
theorem SB.m2(h:SB b S m es clock lq):(m,Ge .i64 es clock)∈lq:=by rw[h.eq];exact .tail _ (.head _)
theorem SB.m3(h:SB b S m es clock lq){nd:NdS}(hn:nd∈S):nd.blk∈lq:=by rw[h.eq];exact .tail _ (.tail _ (Ax.2 ⟨nd,hn,rfl⟩))
theorem SB.look(h:SB b S m es clock lq)(a:Int):(LL a es).getD (.slice none 0 0)=match D9 NdS.id S a with
 |some nd=>nd.val
 |none=> .slice none 0 0:=by
 rw[h.mb.get];cases D9 NdS.id S a<;>rfl
theorem AcG(C:List CapT):(Ta C).length=C.length*8:=by
 induction C with
 |nil=>rfl
 |cons x r ih=>rw[show Ta (x::r)=Cb x++Ta r from rfl,Ah,ih];show 8+r.length*8=(r.length+1)*8;omega
theorem Xw(h:C[k]?=some c):(τ (Ta C)).extract (k*8) (k*8+8)=τ (Cb c)/\k*8+8<=(τ (Ta C)).size:=by obtain⟨h1,h2⟩:=Lr (enc:=Cb) (k:=8) (λ_=>rfl) [] C k c h;rw[Bj] at h1 h2;refine⟨?_,by rw[Bz];exact h2⟩;apply BQ.1;rw[Gk];simp only[List.extract,CN];exact h1
def II(D:SD)(a:Int):Int:=match D9 Prod.fst D a with
 |some x=>(x.2.length:Nat)
 |none=>0
def E0(D:SD)(s:Ch):Bool:=decide (0<=s.2)&&decide (s.2<II D s.1)
def Dv(D:SD)(s:Ch):CapT:=match D9 Prod.fst D s.1 with
 |some x=>x.2.getD s.2.toNat Cu
 |none=>Cu
def getD'(D:SD)(s:Ch):CapT×Int:=if E0 D s=true then(Dv D s,0) else(Cu,3)
def Hv(D:SD)(id n:Int):Int×SD:=if id<1\/n<1\/16<n then(2,D) else if(D9 Prod.fst D id).isSome=true then(11,D) else(0,MY Prod.fst D (id,replicate n.toNat Cu))
theorem sO{β:Type}{f:α->β}{key:α->Int}{key':β->Int}(hk: ∀x,key' (f x)=key x)(S:List α)(x:α):(MY key S x).map f=MY key' (S.map f) (f x):=by
 unfold MY;rw[At,AK,List.takeWhile_map,List.dropWhile_map];have e:(λy=>decide (key y<key x))=(λy=>decide (key' y<key' (f x)))∘f:=by funext y;simp[hk]
 rw[e]
theorem SB.look1(h:SB b S m es clock lq)(a:Int): ∃p n cap,(LL a es).getD (.slice none 0 0)= .slice p n cap/\II (S.map NdS.d) a=((n:Nat):Int):=by
 rw[h.look];unfold II;rw[KI];cases D9 NdS.id S a with
 |none=>exact⟨none,0,0,rfl,rfl⟩
 |some nd=>exact⟨_,_,_,rfl,rfl⟩
theorem SB.look2(h:SB b S m es clock lq)(a:Int)(hn:II (S.map NdS.d) a=((n:Nat):Int))(h0:0<n): ∃nd,D9 NdS.id S a=some nd/\nd.C.length=n/\(LL a es).getD (.slice none 0 0)=nd.val:=by
 rw[h.look];unfold II at hn;rw[KI] at hn;cases hf:D9 NdS.id S a with
 |none=>rw[hf] at hn;simp at hn;omega
 |some nd=>rw[hf] at hn;simp at hn;exact⟨nd,rfl,Af,rfl⟩
theorem new_any(l:Ac):Fn prog 178 [] l λv l'=> ∃b,v= π b/\ ∃lq,IsS b [] lq/\l'=lq++l:=by refine AO func178 ntmps178 λE=>?_;refine gz ?_;refine AP Pd ?_;rintro _ _ ⟨m,hm,rfl,rfl⟩;refine Iy λb=>?_;exact BF [] rfl .refl Ba ⟨b,rfl,_,⟨[],m,[],0,rfl,rfl,MB.zero,by simp⟩,rfl⟩
def nj(S:List NdS)(s:Ch):Option Addr:=if E0 (S.map NdS.d) s=true then(D9 NdS.id S s.1).map λnd=>⟨nd.gb,s.2.toNat*8,none⟩ else none
theorem J4(b:Nat)(D:SD)(S:List NdS)(m clock:Nat)(es:List LK)(lq:Ac)(hD:S.map NdS.d=D)(hS:SB b S m es clock lq)(s:Ch)(l:Ac)(CJ: ∀c,c∈lq->c∈l):
 Fn prog 246 [π b,.agg (τ (Cd s))] l λv l'=>v= .tuple #[.pointer (nj S s),ι (if E0 D s=true then 0 else 3)]/\l'=l:=by
 subst hD;have Ym:=CJ _ hS.m1;have Vo:=CJ _ hS.m2;obtain⟨p,n,cap,aP,hn⟩:=hS.look1 s.1;refine AO func246 ntmps246 λE=>?_;refine gz ?_
 (first|refine AP (EA rfl rfl) ?_|refine AP (Cw rfl) ?_);rintro _ _ ⟨b3,_,rfl,rfl⟩
 by_cases h0:s.2<0
 ·have Dh:E0 (S.map NdS.d) s=false:=by unfold E0;rw[Av (show ¬0<=s.2 by omega)];rfl
  rw[Dh,show nj S s=none by unfold nj;rw[Dh];rfl];refine gz ?_;refine Ct [] 17 _ ?_ (hR:=(λ_ h=>h));refine pz ?_;exact Fd
 ·refine gz ?_;refine Ct [] 17 _ ?_ (hR:=(λ_ h=>h));refine pz ?_;rw[aP];refine pz ?_;by_cases h1:s.2<(n:Int)
  ·have Dh:E0 (S.map NdS.d) s=true:=by unfold E0;rw[hn,Aq (show 0<=s.2 by omega),Aq h1];rfl
   obtain⟨nd,hf,Ef,Ln⟩:=hS.look2 s.1 hn Af;obtain⟨k,hk⟩: ∃k:Nat,s.2=(k:Nat):=⟨s.2.toNat,Af⟩
   rw[Dh,show nj S s=some ⟨nd.gb,k*8,none⟩ by unfold nj;rw[Dh,hf,hk];rfl];refine gz ?_;refine Ct [] 12 _ ?_ (hR:=(λ_ h=>h));refine pz ?_;rw[Ln,hk];refine pz ?_;exact Fd
  ·have Dh:E0 (S.map NdS.d) s=false:=by unfold E0;rw[hn,Av h1];simp
   rw[Dh,show nj S s=none by unfold nj;rw[Dh];rfl];exact Fd
theorem get_any(b:Nat)(D:SD)(lq:Ac)(hq:IsS b D lq)(s:Ch)(l:Ac)(CJ: ∀c,c∈lq->c∈l):
 Fn prog 229 [π b,.agg (τ (Cd s))] l λv l'=>v= .tuple #[.agg (τ (Cb (getD' D s).1)),ι (getD' D s).2]/\l'=l:=by
 obtain⟨S,m,es,clock,rfl,hS⟩:=hq;refine AO func229 ntmps229 λE=>?_;refine Iy λb3=>?_;refine Iy λb4=>?_;refine Be (AI rfl rfl λl2 hl=>J4 b _ S m clock es lq rfl hS s l2 λc hc=>hl c (.tail _ (.tail _ (CJ c hc)))) ?_;cases Dh:E0 (S.map NdS.d) s with
 |false=>rw[show getD' (S.map NdS.d) s=(Cu,3) by unfold getD';rw[Dh];rfl];simp only[Bn,C0];refine gz ?_;exact CY (l':=l) (Bw b4 Cu::Dz b3 s::l) .refl θ ⟨rfl,rfl⟩
 |true=>
  have lD:=Dh;unfold E0 at lD;rw[AM,A3,A3] at lD;obtain⟨p,n,cap,aP,hn⟩:=hS.look1 s.1;obtain⟨nd,hf,Ef,Ln⟩:=hS.look2 s.1 hn Af;obtain⟨k,hk⟩: ∃k:Nat,s.2=(k:Nat):=⟨s.2.toNat,Af⟩
  obtain⟨c,hc⟩: ∃c,nd.C[k]?=some c:=⟨_,Ak Af⟩
  have hat:Dv (S.map NdS.d) s=c:=by unfold Dv;rw[KI,hf,hk];show nd.C.getD k Cu=c;rw[A4,hc];rfl
  rw[show nj S s=some ⟨nd.gb,k*8,none⟩ by unfold nj;rw[Dh,hf,hk];rfl,show getD' (S.map NdS.d) s=(c,0) by unfold getD';rw[Dh,hat];rfl];simp only[CV];obtain⟨g1,g2⟩:=Xw hc;have xV:nd.blk∈l:=CJ _ (hS.m3 (Fb hf).1);refine gz ?_;refine Be (Dp (n:=8) rfl (.tail _ (.tail _ xV)) g2 g1) ?_;refine gz ?_;exact CY (l':=l) (Bw b4 c::Dz b3 s::l) .refl θ ⟨rfl,rfl⟩
theorem setFrom_mid: ∀(us ws X Y:Ap),us.length=ws.length->Dc (τ (X++(us++Y))) X.length ws=τ (X++(ws++Y))
 |[],[],X,Y,_=>rfl
 |u::us,w::ws,X,Y,h=>by
  have h1:(τ (X++(u::us++Y))).setIfInBounds X.length w=τ ((X++[w])++(us++Y)):=by apply BQ.1;rw[Array.toList_setIfInBounds];show(X++(u::(us++Y))).set X.length w=_;rw[Cq _ _ Af,Dx,E7];simp
  unfold Dc;rw[h1];have h2:=setFrom_mid us ws (X++[w]) Y (by simpa using h);rw[Ah] at h2;rw[show X.length+1=X.length+[w].length from rfl,h2];simp
theorem sP(A B:List CapT):Ta (A++B)=Ta A++Ta B:=Eg
theorem Zl: ∀n:Nat,Ta (replicate n Cu)=(replicate n (Cb Cu)).flatten
 |0=>rfl
 |n+1=>by rw[BN,BN,CA,<-Zl n];rfl
theorem Wn(h:C[k]?=some x):C=C.take k++x::C.drop (k+1)/\(C.take k).length=k:=by
 have hk:=(Aw.1 h).1;have h1:=Cs k C;rw[CR hk] at h1;have h2:C[k]=x:=by rw[Ak hk] at h;exact AZ h
 rw[h2] at h1;exact⟨h1.symm,by rw[C4];omega⟩
theorem iZ(h:C[k]?=some x):C.set k c=C.take k++c::C.drop (k+1):=by
 obtain⟨h1,h2⟩:=Wn h
 conv=>lhs;rw[h1]
 rw[Cq _ _ Af,h2,Dx,E7]
theorem sQ(h:C[k]?=some x):Dc (τ (Ta C)) (k*8) (Cb c)=τ (Ta (C.set k c)):=by
 obtain⟨h1,h2⟩:=Wn h;rw[iZ h];have e: ∀y:CapT,Ta (C.take k++y::C.drop (k+1))=Ta (C.take k)++(Cb y++Ta (C.drop (k+1))):=λy=>by rw[sP];rfl
 have hl:(Ta (C.take k)).length=k*8:=by rw[AcG,h2]
 rw[e c,<-hl]
 conv=>lhs;rw[show Ta C=Ta (C.take k)++(Cb x++Ta (C.drop (k+1))) by rw[<-e x,<-h1]]
 exact setFrom_mid _ _ _ _ rfl
theorem Uc{key:α->Int}(S:List α)(x:α):(MY key S x).Perm (x::S):=by unfold MY;refine AJ.trans (List.Perm.cons x ?_);rw[Ci]
theorem Pm{key:α->Int}{S:List α}{x y:α}:y∈MY key S x<->y=x\/y∈S:=by rw[(Uc S x).mem_iff];simp
def HR(D:SD)(a:Int):Int×SD:=match D9 Prod.fst D a with
 |none=>(2,D)
 |some x=>if x.2.all (λc=>MD c Cu)=true then(0,D.filter λx=>decide (x.1≠a)) else(16,D)
def Fc(D:SD)(s:Ch)(c:CapT):SD:=D.map λx=>if x.1=s.1 then(x.1,x.2.set s.2.toNat c) else x
def setD(D:SD)(s:Ch)(c:CapT):Int×SD:=if E0 D s=true then(if E5 c=true then(0,Fc D s c) else(5,D)) else(3,D)
theorem add_any(b:Nat)(D:SD)(lq:Ac)(hq:IsS b D lq)(id n:Int)(G:Ac):
 Fn prog 184 [π b,ι id,ι n] (lq++G) λv l'=>v= ι (Hv D id n).1/\ ∃DI,IsS b (Hv D id n).2 DI/\l'=DI++G:=by
 have Nf:=hq;obtain⟨S,m,es,clock,rfl,hS⟩:=hq;have Ym:xC b m∈lq++G:=Ai _ hS.m1;have Vo:(m,Ge .i64 es clock)∈lq++G:=Ai _ hS.m2;refine AO func184 ntmps184 λE=>?_;by_cases h1:id<1
 ·rw[show Hv (S.map NdS.d) id n=(2,S.map NdS.d) by unfold Hv;rw[Ad (.inl h1)]];refine gz ?_;exact Bc .refl ⟨rfl,_,Nf,rfl⟩
 by_cases h2:n<1
 ·rw[show Hv (S.map NdS.d) id n=(2,S.map NdS.d) by unfold Hv;rw[Ad (.inr (.inl h2))]];refine gz ?_;exact Bc .refl ⟨rfl,_,Nf,rfl⟩
 by_cases h3:16<n
 ·rw[show Hv (S.map NdS.d) id n=(2,S.map NdS.d) by unfold Hv;rw[Ad (.inr (.inr h3))]];refine gz ?_;exact Bc .refl ⟨rfl,_,Nf,rfl⟩
 have Abz:¬(id<1\/n<1\/16<n):=by omega
 obtain⟨k,rfl⟩: ∃k:Nat,n=(k:Nat):=⟨n.toNat,Af⟩
 obtain⟨p,n0,cap,aP,Qq⟩:=hS.look1 id;cases hf:D9 NdS.id S id with
 |some nd=>
  rw[show Hv (S.map NdS.d) id (k:Nat)=(11,S.map NdS.d) by unfold Hv;rw[Ab Abz,KI,hf];rfl];have xD:0<n0:=by unfold II at Qq;rw[KI,hf] at Qq;have:=(hS.sz nd (Fb hf).1).1;simp at Qq;omega
  refine gz ?_;rw[aP];refine gz ?_;exact Bc .refl ⟨rfl,_,Nf,rfl⟩
 |none=>
  rw[show Hv (S.map NdS.d) id (k:Nat)=(0,MY Prod.fst (S.map NdS.d) (id,replicate k Cu)) by unfold Hv;rw[Ab Abz,KI,hf];rfl];have hz:n0=0:=by unfold II at Qq;rw[KI,hf] at Qq;simp at Qq;omega
  refine gz ?_;rw[aP];refine gz ?_;refine Ct [6,7] 8 ([xC b m]) ?_ (hR:=(Da Ym));refine pz ?_;apply CX
  ·exact Gs (n:=k) (kk:=8) (xs:=Ta (replicate k Cu)) rfl rfl Af Af A0 (Zl k)
  ·rfl
  ·rfl
  ·rfl
  ·rintro _ _ ⟨gb,_,_,rfl⟩ c hc;rw[Ay.1 hc];exact .tail _ Ym
  rintro _ _ ⟨gb,Sz,rfl,rfl⟩;refine pz ?_;obtain⟨nd,Ln⟩: ∃nd:NdS,nd=⟨id,replicate k Cu,gb⟩:=⟨_,rfl⟩
  have xW:NdS.val nd= .slice (some ⟨gb,0,none⟩) k k:=by rw[Ln];simp[NdS.val]
  rw[hS.eq];simp only[Ae];apply Oy
  ·exact Ma (a:=id) (es:=es) (clock:=clock) rfl rfl rfl (.there (.there .here))
  ·rfl
  ·rfl
  ·rintro _ _ ⟨rfl,rfl⟩ c hc;rw[Ay.1 hc];exact .tail _ (.head _)
  rintro _ _ ⟨rfl,rfl⟩;refine pz ?_;refine gz ?_;have hMB:=hS.mb.add (t:=nd) (by rw[Ln];exact hf);rw[xW,show nd.id=id by rw[Ln]] at hMB;refine Bc (l':=(xC b m::(m,Ge .i64 (OD id (.slice (some ⟨gb,0,none⟩) k k) clock es).1 (OD id (.slice (some ⟨gb,0,none⟩) k k) clock es).2)::(MY NdS.id S nd).map NdS.blk)++G) ?_ ⟨rfl,_,⟨MY NdS.id S nd,m,_,_,?_,rfl,hMB,?_⟩,rfl⟩
  ·have hp:((MY NdS.id S nd).map NdS.blk++G).Perm (nd.blk::(S.map NdS.blk++G)):=((Uc S nd).map _).append_right G;refine Keep.of_perm ?_;have hb:(gb,Obj.cells (τ (Ta (replicate k Cu))) 74 (0,0))=nd.blk:=by rw[Ln]
   rw[hb];exact(List.Perm.trans (List.Perm.swap _ _ _) (((List.Perm.swap _ _ _).trans (hp.symm.cons _)).cons _))
  ·rw[sO (key':=Prod.fst) (λx=>rfl),Ln]
  ·intro x hx;rcases Pm.1 hx with rfl|hx
   ·rw[Ln];simp;omega
   ·exact hS.sz x hx
theorem nk(A B l:Ac)(x:Bh):Keep ((A++x::B)++l) ((A++B)++l):=
 ⟨[x],by have h:(A++x::B).Perm (x::(A++B)):=AJ;exact h.append_right l⟩
theorem nl:(S.filter λx=>decide (x.id≠a)).map NdS.d=(S.map NdS.d).filter λx=>decide (x.1≠a):=by rw[List.filter_map];rfl
theorem AcH{A B:List NdS}{nd:NdS}(hs:(A++nd::B).Pairwise λx y=>x.id<y.id):Fc ((A++nd::B).map NdS.d) (nd.id,(k:Nat)) c=(A++{nd with C:=nd.C.set k c}::B).map NdS.d:=by
 obtain⟨_,h2,h3⟩:=Br.1 hs;have h4:=(Ck.1 h2).1;unfold Fc;simp only[At,AK,CO];congr 1
 ·apply Bs;intro x hx;have:=h3 x hx nd Al;show(if x.id=nd.id then _ else x.d)=x.d;rw[Ab Af]
 ·refine List.cons_eq_cons.2 ⟨?_,?_⟩
  ·rw[Ad trivial];rfl
  ·apply Bs;intro x hx;have:=h4 x hx;show(if x.id=nd.id then _ else x.d)=x.d;rw[Ab Af]
theorem set_any(b:Nat)(D:SD)(lq:Ac)(hq:IsS b D lq)(s:Ch)(c:CapT)(G:Ac):
 Fn prog 186 [π b,.agg (τ (Cd s)),.agg (τ (Cb c))] (lq++G) λv l'=>v= ι (setD D s c).1/\ ∃DI,IsS b (setD D s c).2 DI/\l'=DI++G:=by
 have Nf:=hq;obtain⟨S,m,es,clock,rfl,hS⟩:=hq;refine AO func186 ntmps186 λE=>?_;refine Iy λb4=>?_;refine Iy λb5=>?_;refine Be (AI rfl rfl λl2 hl=>J4 b _ S m clock es lq rfl hS s l2 λc hc=>hl c (.tail _ (.tail _ (Ai _ hc)))) ?_;cases Dh:E0 (S.map NdS.d) s with
 |false=>rw[show setD (S.map NdS.d) s c=(3,S.map NdS.d) by unfold setD;rw[Dh];rfl];simp only[Bn,C0];refine gz ?_;exact Bc θ ⟨rfl,_,Nf,rfl⟩
 |true=>
  have lD:=Dh;unfold E0 at lD;rw[AM,A3,A3] at lD;obtain⟨p,n,cap,aP,hn⟩:=hS.look1 s.1;obtain⟨nd,hf,Ef,Ln⟩:=hS.look2 s.1 hn Af;obtain⟨k,hk⟩: ∃k:Nat,s.2=(k:Nat):=⟨s.2.toNat,Af⟩
  obtain⟨x,hx⟩: ∃x,nd.C[k]?=some x:=⟨_,Ak Af⟩
  rw[show nj S s=some ⟨nd.gb,k*8,none⟩ by unfold nj;rw[Dh,hf,hk];rfl];simp only[CV];cases hM:E5 c with
  |false=>rw[show setD (S.map NdS.d) s c=(5,S.map NdS.d) by unfold setD;rw[Dh,hM];rfl];refine gz ?_;refine Be (AI rfl rfl λl2 _=>IH c l2) ?_;rw[hM];refine gz ?_;exact Bc θ ⟨rfl,_,Nf,rfl⟩
  |true=>
   rw[show setD (S.map NdS.d) s c=(0,Fc (S.map NdS.d) s c) by unfold setD;rw[Dh,hM];rfl];refine gz ?_;refine Be (AI rfl rfl λl2 _=>IH c l2) ?_;rw[hM];refine gz ?_;obtain⟨A,B,aL,Vp,_⟩:=Ub hf;obtain⟨g1,g2⟩:=Xw hx;have xV:S.map NdS.blk=A.map NdS.blk++nd.blk::B.map NdS.blk:=by rw[aL,At,AK]
   rw[hS.eq,xV];simp only[Ae,Am];refine Nk (EG (b:=nd.gb) (off:=k*8) (cs:=τ (Ta nd.C)) (n:=8) rfl rfl rfl (by simp[Value.oneCell']) (.there (.there (.there (.there (FX _ _ _ _ _))))) g2) rfl rfl ?_;rintro _ _ ⟨rfl,rfl⟩;rw[show Dc (τ (Ta nd.C)) (k*8) (τ (Cb c)).toList=τ (Ta (nd.C.set k c)) from sQ hx];refine gz ?_;have hs:s=(nd.id,((k:Nat):Int)):=by rw[Vp,<-hk]
   refine Bc (l':=(xC b m::(m,Ge .i64 es clock)::(A++{nd with C:=nd.C.set k c}::B).map NdS.blk)++G) (.drop (.drop (by rw[At,AK];exact .of_perm (.of_eq (by simp))))) ⟨rfl,_,⟨A++{nd with C:=nd.C.set k c}::B,m,es,clock,?_,rfl,?_,?_⟩,rfl⟩
   ·rw[hs,aL,AcH (by rw[<-aL];exact hS.mb.asc)]
   ·have hm:=hS.mb;rw[aL] at hm;exact hm.repl rfl (by simp[NdS.val])
   ·intro y hy;have h1:=hS.sz;rw[aL] at h1;rcases AB.1 hy with hy|hy
    ·exact h1 y (Ai _ hy)
    ·rcases Au.1 hy with rfl|hy
     ·have:=h1 nd (Aa _ Al);simpa using this
     ·exact h1 y (Aa _ (.tail _ hy))
theorem wB{a:Nat}(h:a<9223372036854775808):IntKind.i64.wrap ((a:Nat):Int)=((a:Nat):Int):=by simp[IntKind.wrap,IntKind.signed,IntKind.bits];omega
section
variable{fr:Fr}{l:Ac}{d:Option Nat}{t:TypeId}{aft:Array Edge}{x:Operand}{a:Nat}
theorem bY(hx:ev fr x=some (ι (a:Nat)))(hy:ev fr y=some (ι (b:Nat)))(ha:a<2^63)(hb:b<2^63):OpQ P ro N fr R ⟨d,.binOp .and t x y t2,ty,pos,aft,g⟩ (ι ((a&&& b:Nat):Int)):=
 I7 hx hy (λ_ _=>Dg _ _ _ _ _) (by
  have e1:(BitVec.ofInt IntKind.i64.bits ((a:Nat):Int)).toNat=a:=by show(BitVec.ofInt 64 ((a:Nat):Int)).toNat=a;rw[D7,Ey,DB Af]
  have e2:(BitVec.ofInt IntKind.i64.bits ((b:Nat):Int)).toNat=b:=by show(BitVec.ofInt 64 ((b:Nat):Int)).toNat=b;rw[D7,Ey,DB Af]
  simp only[binOp,Op.intBits,MH,e1,e2];rw[wB (Ex KA ha)];rfl)
end
def VF(r:Int):Bool:=decide (0<=r)&&decide (r<=7)
def Mf(a b:Int):Int:=if VF a&&VF b then((a.toNat&&& b.toNat:Nat):Int) else 0
def Ea(c:CapT)(DH:Int):CapT×Int:=
 if E5 c=false\/VF DH=false then(Cu,2) else if c.kind=0 then(Cu,10) else if c.kind=1\/c.kind=7 then(Cu,8)
 else if c.kind=3 then(if Mf c.rights DH=0 then(Cu,9) else(⟨c.kind,c.obj,Mf c.rights DH,c.badge,c.guard,c.bits,0,0⟩,0))
 else if c.kind=8 then(⟨c.kind,c.obj,Mf c.rights DH,c.badge,c.guard,c.bits,c.serial,c.page⟩,0) else(c,0)
abbrev Sc(d:CapT)(Ez:Nat):CapT:=⟨d.kind,d.obj,d.rights,d.badge,((Ez%4096:Nat):Int),((Ez/4096:Nat):Int),d.serial,d.page⟩
def Ud(d:CapT)(Ez:Nat):CapT×Int:=
 if d.kind=8 then(if Ez>16777215 then(Cu,3) else if d.badge≠0 then(Cu,9) else(⟨d.kind,d.obj,d.rights,((Ez:Nat):Int),d.guard,d.bits,d.serial,d.page⟩,0))
 else if d.kind=2 then(if Ez>=65536 then(Cu,3) else if E5 (Sc d Ez)=false then(Cu,3) else(Sc d Ez,0))
 else if Ez≠0 then(Cu,2) else(d,0)
def HT(c:CapT)(DH:Int)(Ez:Nat):CapT×Int:=if(Ea c DH).2≠0 then(Cu,(Ea c DH).2) else Ud (Ea c DH).1 Ez
theorem yQ{c:CapT}{DH:Int}(h:(Ea c DH).2≠0):(Ea c DH).1=Cu:=by
 unfold Ea at h⊢
 repeat' (split at h<;>first|exact absurd rfl h|(simp only[*,CV,C0,not_true,not_false_iff];done)|skip)
 all_goals first|rfl|(split<;>rfl)|skip
theorem Ue(r:Int)(l:Ac):Fn prog 245 [ι r] l λv l'=>v= .bool (VF r)/\l'=l:=by
 refine AO func245 ntmps245 λE=>?_;unfold VF;by_cases h0:0<=r
 ·rw[Aq h0];exact Fd
 ·rw[Av h0];exact Fd
theorem Zm{r:Int}(h:VF r=true): ∃n:Nat,r=n/\n<8:=by unfold VF at h;rw[AM,A3,A3] at h;exact⟨r.toNat,Af,Af⟩
theorem Wo(a b:Int)(l:Ac):Fn prog 251 [ι a,ι b] l λv l'=>v= ι (Mf a b)/\l'=l:=by
 refine AO func251 ntmps251 λE=>?_;refine Aj ?_;refine Be (AI rfl rfl λl2 _=>Ue a l2) ?_;unfold Mf;cases ha:VF a with
 |false=>exact Fd
 |true=>
 refine Aj ?_;refine MU (AI rfl rfl λl2 _=>Ue b l2) rfl rfl rfl ?_;cases hb:VF b with
 |false=>exact Fd
 |true=>
 obtain⟨a,rfl,ha8⟩:=Zm ha;obtain⟨b,rfl,hb8⟩:=Zm hb;refine Aj ?_;refine Be (bY rfl rfl Af Af) ?_;exact Fd
theorem Nw(h:JA c)(DH:Int):JA (Ea c DH).1:=by
 have hz:JA Cu:=⟨by decide,by decide⟩
 unfold Ea
 split
 ·exact hz
 split
 ·exact hz
 split
 ·exact hz
 split
 ·split
  ·exact hz
  ·exact⟨h.badge,h.guard⟩
 split
 ·exact⟨h.badge,h.guard⟩
 ·exact h
theorem OQ(c:CapT)(hw:JA c)(DH:Int)(l:Ac):Fn prog 190 [.agg (τ (Cb c)),ι DH] l λv l'=>v= .tuple #[.agg (τ (Cb (Ea c DH).1)),ι (Ea c DH).2]/\l'=l:=by
 refine AO func190 ntmps190 λE=>?_;refine AR λb2=>?_;refine AR λb4=>?_;refine Be (AI rfl rfl λl2 _=>IH c l2) ?_;have hz: ∀(e:Int) (d:CapT),Keep (Bw b4 Cu::Bw b2 d::l) l:=λ_ _=> .drop ζ;cases hm:E5 c with
 |false=>rw[show Ea c DH=(Cu,2) by unfold Ea;rw[Ad (.inl hm)]];refine Aj ?_;exact CY (l':=l) (Bw b4 Cu::Bw b2 c::l) .refl (hz 0 _) ⟨rfl,rfl⟩
 |true=>
 refine Aj ?_;refine MU (AI rfl rfl λl2 _=>Ue DH l2) rfl rfl rfl ?_;cases hr:VF DH with
 |false=>rw[show Ea c DH=(Cu,2) by unfold Ea;rw[Ad (.inr hr)]];refine Aj ?_;exact CY (l':=l) (Bw b4 Cu::Bw b2 c::l) .refl (hz 0 _) ⟨rfl,rfl⟩
 |true=>
 have e0:Ea c DH=if c.kind=0 then(Cu,10) else if c.kind=1\/c.kind=7 then(Cu,8)
  else if c.kind=3 then(if Mf c.rights DH=0 then(Cu,9) else(⟨c.kind,c.obj,Mf c.rights DH,c.badge,c.guard,c.bits,0,0⟩,0))
  else if c.kind=8 then(⟨c.kind,c.obj,Mf c.rights DH,c.badge,c.guard,c.bits,c.serial,c.page⟩,0) else(c,0):=by
  unfold Ea;rw[Ab (by rw[hm,hr];simp)]
 rw[e0];by_cases k0:c.kind=0
 ·rw[Ad k0];refine Aj ?_;exact CY (l':=l) (Bw b4 Cu::Bw b2 c::l) .refl (hz 0 _) ⟨rfl,rfl⟩
 rw[Ab k0];by_cases k17:c.kind=1\/c.kind=7
 ·rw[Ad k17];by_cases k1:c.kind=1
  ·refine Aj ?_;exact CY (l':=l) (Bw b4 Cu::Bw b2 c::l) .refl (hz 0 _) ⟨rfl,rfl⟩
  ·have k7:c.kind=7:=by omega
   refine Aj ?_;exact CY (l':=l) (Bw b4 Cu::Bw b2 c::l) .refl (hz 0 _) ⟨rfl,rfl⟩
 rw[Ab k17];by_cases k3:c.kind=3
 ·rw[Ad k3];refine Aj ?_;refine Be (AI rfl rfl λl2 _=>Wo c.rights DH l2) ?_;by_cases hz0:Mf c.rights DH=0
  ·rw[Ad hz0];refine Aj ?_;exact CY (l':=l) (Bw b4 Cu::Bw b2 ⟨c.kind,c.obj,Mf c.rights DH,c.badge,c.guard,c.bits,0,0⟩::l) .refl (hz 0 _) ⟨rfl,rfl⟩
  ·rw[Ab hz0];refine Aj ?_;exact CY (l':=l) (Bw b4 ⟨c.kind,c.obj,Mf c.rights DH,c.badge,c.guard,c.bits,0,0⟩::Bw b2 ⟨c.kind,c.obj,Mf c.rights DH,c.badge,c.guard,c.bits,0,0⟩::l) .refl θ ⟨rfl,rfl⟩
 rw[Ab k3];by_cases k8:c.kind=8
 ·rw[Ad k8];refine Aj ?_;refine Be (AI rfl rfl λl2 _=>Wo c.rights DH l2) ?_;refine Aj ?_;exact CY (l':=l) (Bw b4 ⟨c.kind,c.obj,Mf c.rights DH,c.badge,c.guard,c.bits,c.serial,c.page⟩::Bw b2 ⟨c.kind,c.obj,Mf c.rights DH,c.badge,c.guard,c.bits,c.serial,c.page⟩::l) .refl θ ⟨rfl,rfl⟩
 rw[Ab k8];refine Aj ?_;exact CY (l':=l) (Bw b4 c::Bw b2 c::l) .refl θ ⟨rfl,rfl⟩
section
variable{fr:Fr}{l:Ac}{d:Option Nat}{t:TypeId}{aft:Array Edge}{x:Operand}{k k':IntKind}{i:Int}{a:Nat}
theorem Af6(hx:ev fr x=some (υ (a:Nat)))(hy:ev fr y=some (υ (b:Nat)))(ha:a<18446744073709551616)(hb:b<18446744073709551616):OpQ P ro N fr R ⟨d,.binOp .or t x y t2,ty,pos,aft,g⟩ (υ ((a|||b:Nat):Int)):=
 I7 hx hy (λ_ _=>Dg _ _ _ _ _) (by
  have e1:(BitVec.ofInt IntKind.u64.bits ((a:Nat):Int)).toNat=a:=by show(BitVec.ofInt 64 ((a:Nat):Int)).toNat=a;rw[D7,Ey,DB ha]
  have e2:(BitVec.ofInt IntKind.u64.bits ((b:Nat):Int)).toNat=b:=by show(BitVec.ofInt 64 ((b:Nat):Int)).toNat=b;rw[D7,Ey,DB hb]
  simp only[binOp,Op.intBits,BitVec.toNat_or,e1,e2];rw[V9 (Nat.or_lt_two_pow (n:=64) ha hb)];rfl)
theorem nm(hx:ev fr x=some (υ (a:Nat)))(hy:ev fr y=some (υ (b:Nat)))(ha:a<18446744073709551616)(hb:b<18446744073709551616):OpQ P ro N fr R ⟨d,.binOp .andNot t x y t2,ty,pos,aft,g⟩ (υ ((a&&& (2^64-(b+1)):Nat):Int)):=
 I7 hx hy (λ_ _=>Dg _ _ _ _ _) (by
  have e1:(BitVec.ofInt IntKind.u64.bits ((a:Nat):Int)).toNat=a:=by show(BitVec.ofInt 64 ((a:Nat):Int)).toNat=a;rw[D7,Ey,DB ha]
  have e2:(~~~ BitVec.ofInt IntKind.u64.bits ((b:Nat):Int)).toNat=2^64-(b+1):=by show(~~~ BitVec.ofInt 64 ((b:Nat):Int)).toNat=_;rw[BitVec.toNat_not,D7,Ey,DB hb];omega
  simp only[binOp,Op.intBits,MH,e1,e2];rw[V9 (Ex KA ha)];rfl)
end
def PS(w at' n v:Nat):Nat:=2^at'*(2^n*(w/2^(at'+n))+v)+w%2^at'
def DF(w at' n:Nat):Nat:=w/2^at'%2^n
theorem Q0{at':Nat}(h:at'+n<=64):(2^n-1)*2^at'<18446744073709551616:=by
 have h1:2^n*2^at'<=2^64:=by rw[<-Nat.pow_add];exact Cp Af Af
 have h2:0<2^at':=Fs _;have h3:0<2^n:=Fs _;have h4:(2^n-1)*2^at'<2^n*2^at':=Nat.mul_lt_mul_of_pos_right Af h2;exact D8 h4 h1
theorem fC{at':Nat}(h:at'+n<=64)(hv:v<2^n):v*2^at'<18446744073709551616:=by have h1:(2^n-1)*2^at'<18446744073709551616:=Q0 h;have h2:v*2^at'<=(2^n-1)*2^at':=Gl _ Af;omega
theorem i4{w at':Nat}(hv:v<2^n)(i:Nat):(PS w at' n v).testBit i=if i<at' then w.testBit i else if i<at'+n then v.testBit (i-at') else w.testBit i:=by
 unfold PS;rw[Nat.testBit_two_pow_mul_add _ (Hx _ (Fs _))]
 split
 ·rw[I5];simp[*]
 ·rw[Nat.testBit_two_pow_mul_add _ hv];by_cases h:i<at'+n
  ·rw[Ad Af,Ad h]
  ·rw[Ab Af,Ab h,Fo];congr 1;omega
theorem sR{w at':Nat}(hw:w<18446744073709551616)(h:at'+n<=64)(hv:v<2^n):(w&&& (2^64-((2^n-1)*2^at'+1)))|||v*2^at'=PS w at' n v:=by
 apply Kf;intro i;rw[i4 hv,Nat.testBit_or,Nat.testBit_and,Nat.testBit_two_pow_sub_succ (by exact Q0 h),Nb _ (2^at'),Nb _ (2^at'),Nat.testBit_two_pow_mul,Nat.testBit_two_pow_mul,Nat.testBit_two_pow_sub_one];by_cases h1:i<at'
 ·rw[Ad h1,Av (show ¬at'<=i by omega),Aq (show i<64 by omega)];simp
 ·rw[Ab h1,Aq (show at'<=i by omega)];by_cases h2:i<at'+n
  ·rw[Ad h2,Aq (show i-at'<n by omega)];simp
  ·rw[Ab h2,Av (show ¬i-at'<n by omega)];have h3:v.testBit (i-at')=false:=ER (D8 hv (Cp Af Af));rw[h3];by_cases h4:i<64
   ·rw[Aq h4];simp
   ·have:w.testBit i=false:=ER (D8 hw (by exact Cp (n:=2) Af (show 64<=i by omega)));rw[this];simp
theorem Zn{w at':Nat}:(w/2^at')&&& (2^n-1)=DF w at' n:=Nat.and_two_pow_sub_one_eq_mod _ _
theorem Zo(a n:Nat)(h1:1<=n)(h2:a+n<=64)(l:Ac):Fn prog 314 [ι (a:Nat),ι (n:Nat)] l λv l'=>v= .bool true/\l'=l:=by refine AO func314 ntmps314 λE=>?_;refine gz ?_;refine Bc .refl ⟨?_,rfl⟩;rw[Aq Af];rfl
theorem Wp(n:Nat)(h1:1<=n)(h2:n<=63)(l:Ac):Fn prog 315 [ι (n:Nat)] l λv l'=>v= υ ((2^n-1:Nat):Int)/\l'=l:=by
 refine AO func315 ntmps315 λE=>?_;have hp:2^n<=2^63:=Cp Af h2;have hp0:0<2^n:=Fs _;have hw:IntKind.u64.wrap (1*2^n)=((2^n:Nat):Int):=by rw[Int.one_mul,show(2:Int)^n=((2^n:Nat):Int) by simp,V9 Af]
 refine gz ?_;refine Be (QN (n:=n) (i:=1) rfl rfl (by show n<=64;omega)) ?_;rw[hw];obtain⟨q,hq⟩:=ξ (2^n)
 rw[hq] at hp hp0⊢;refine Be (wk (i:=((q:Nat):Int)) (j:=1) rfl rfl ⟨Af,Af⟩) ?_;refine gz ?_;refine Bc .refl ⟨?_,rfl⟩;rw[show((q:Nat):Int)-1=((q-1:Nat):Int) by omega];rfl
theorem J6(w a n:Nat)(hw:w<18446744073709551616)(h1:1<=n)(h2:n<=63)(h3:a+n<=64)(l:Ac):
 Fn prog 253 [υ (w:Nat),ι (a:Nat),ι (n:Nat)] l λr l'=>r= .tuple #[υ (DF w a n:Nat),ι 0]/\l'=l:=by
 have hp:2^n-1<18446744073709551616:=by have:2^n<=2^63:=Cp Af h2;omega
 refine AO func253 ntmps253 λE=>?_;refine gz ?_;refine Be (AI rfl rfl λl2 _=>Zo a n h1 h3 l2) ?_;refine gz ?_;refine Be (fe (n:=a) rfl rfl (by show a<=64;omega)) ?_;rw[show((w:Nat):Int)/2^a=((w/2^a:Nat):Int) by norm_cast];refine gz ?_;refine Be (AI rfl rfl λl2 _=>Wp n h1 h2 l2) ?_;refine Be (wv rfl rfl (Ex (KC _ _) hw) hp) ?_;rw[Zn];exact Fd
end Go.Proofs.YtlifcingifodfaaGreat
