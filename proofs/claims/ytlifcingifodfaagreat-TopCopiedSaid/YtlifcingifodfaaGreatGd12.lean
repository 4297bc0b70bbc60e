/- Laws. -/
import Derived.Test.YtlifcingifodfaaGreatGd11
set_option maxHeartbeats 4000000
set_option linter.all false
namespace Go.Proofs.YtlifcingifodfaaGreat
open Tryz
open List renaming toArray→τ
variable{p:RP}{F C k b m f k':Nat}{s:RL}{G L l0:Ac}{id t:Int}{Γ:Ac->Ac}{D:En.DE}{vs:Ap}{u:Th.ThT}{Y:A8×Bool}
namespace Qu
open Go.RowKit
set_option maxRecDepth 20000
variable{X:Nat->A8}{p:Nat}{id:Int}
theorem first_any(b:Nat)(X:Nat->A8)(lq:Ac)(hq:IsQ b X lq)(l:Ac)(CJ: ∀c,c∈lq->c∈l):
 Fn prog 102 [π b] l λv l'=>v= .tuple #[ι (firstQ X).1,.bool (firstQ X).2]/\l'=l:=by
 obtain⟨vs,cs,Pb,rfl⟩:=hq;have KU: ∀c,c∈IG cs 8->c∈l:=λc hc=>CJ c (An _ hc);refine AO func102 ntmps102 λE=>?_;refine Iy λb2=>?_;refine Iy λb3=>?_;refine AP (Dr rfl rfl (ON _ _)) ?_;rintro v l' ⟨B,hB,rfl,rfl⟩;refine gz ?_;refine Dj (α:=Nat) (ps:=[8,9]) (lb:=[π B]) rfl (RI B b vs (λp=>(X p).length) Pb.shape) (λ_=>rfl) rfl
  (λpre l=>l=[(B,.cells #[π b] 159 (0,0)),(b3,.cells #[.bool false] 4 (0,0)),(b2,.cells #[ι 0] 3 (0,0))]/\pre=[])
  (λc pre l=>c= .ret/\ ∃(p:Nat),pre=[p]/\l=[(b2,.cells #[ι ((X p).headD 0)] 3 (0,0)),(b3,.cells #[.bool true] 4 (0,0))])
  _ l (λpre l2 X2 hX h=>⟨by rw[h.1];exact List.Mem.head _,Aa _ (hX _ (CJ _ Al))⟩) AY ⟨rfl,rfl⟩ ?_ ?_ ?_
 ·rintro E r0 Gb pre y l' T ⟨fn,tmps,D,rfl⟩ hT ⟨rfl,rfl⟩ DG;have hy:=(fallT_mem _ _ _).1 (HF DG (Aa _ Al));have Qq:0<(X y).length:=by have:=hy.2.2;simp at this;exact List.length_pos_iff.2 this
  obtain⟨x,A6,hxr⟩: ∃x A6,X y=x::A6:=by
   cases h:X y with
   |nil=>rw[h] at Qq;simp at Qq
   |cons x r=>exact⟨x,r,rfl⟩
  obtain⟨a,cap,hv,hI⟩:=Pb.ints y hy.2.1 (IG cs 8) (λ_ h=>h);obtain⟨gb,off,cc,t,fz,rfl,hm,hc⟩:=hI Qq;have qO:cc[off+(0:Int).toNat*1]?=some (ι x):=hc 0 x (by rw[hxr];rfl);have W9: ∀c,c=(gb,Obj.cells cc t fz)->c∈T:=λc e=>by subst e;exact hT _ (KU _ hm)
  have vM:=W9 _ rfl;simp only[DY,Ae,Ag];rw[hv];refine gz ?_;refine CP D1 ?_;refine gz ?_;refine Be (DQ (cs:=cc) rfl (.tail _ (.tail _ (.tail _ (.tail _ vM)))) (by simpa using qO)) ?_;refine gz ?_;refine EH [(b2,.cells #[ι x] 3 (0,0)),(b3,.cells #[.bool true] 4 (0,0))] AY ⟨rfl,y,rfl,by rw[hxr];rfl⟩
 ·rintro D xs l' rfl ⟨rfl,Gx⟩;have hfn:fallT (neX X) 0=[]:=Gx;simp only[Ae,Ag];refine gz ?_;exact AU [D] ((b2,.cells #[ι 0] 3 (0,0))::(b3,.cells #[.bool false] 4 (0,0))::l) rfl (l':=l) AY Ba AY ⟨by simp[JQ,firstQ,hfn],rfl⟩
 ·rintro D c pre l' DG ⟨rfl,p,rfl,rfl⟩;have aO:firstQ X=((X p).headD 0,true):=by
   unfold firstQ;obtain⟨A6,hr⟩:=DG;rw[show fallT (neX X) 0=[p]++A6 from hr.symm];rfl
  simp only[Ae,Ag];refine gz ?_;exact AU [D] ((b2,.cells #[ι ((X p).headD 0)] 3 (0,0))::(b3,.cells #[.bool true] 4 (0,0))::l) rfl (l':=l) AY Ba AY ⟨by simp[JQ,aO],rfl⟩
open Go.RowKit
set_option maxRecDepth 20000
section
variable{ro:Option Nat}{N:Nat}{fr:Fr}{d:Option Nat}{ty:TypeId}{pos:String}{aft:Array Edge}{g:Option (Nat×Bool)}
end
open Go.RowKit
set_option maxRecDepth 20000
theorem Fn.re{P:Program}{f:FuncId}{args:Ap}{l l2:Ac}{K K':Value->Ac->Prop}(k:Keep l l2)(h:Fn P f args l2 K)(hk: ∀v l',K v l'-> ∃l3,Keep l' l3/\K' v l3):Fn P f args l K':=
 ⟨λE W hs=>(h.run E W (k.sat hs)).mono λe W' he=>by obtain⟨v,l',h1,h2,h3⟩:=he;obtain⟨l3,h4,h5⟩:=hk v l' h2;exact⟨v,l3,h1,h5,h4.sat h3⟩⟩
theorem AcR{vs:Nat->Value}{cs:Nat->Ac}{b i:Nat}{F:Ac}(Pb:QS X vs cs)(hp:p<8)(hi:i<(X p).length)(Ef:(X p).length<=1000000):
 Fn prog 199 [vs p,ι (i:Nat),ι ((i:Int)+1)] (qC b vs::(IG cs 8++F)) λv l'=> ∃c2,OwnSl 3 1 v ((X p).eraseIdx i).length (((X p).eraseIdx i).map CU) c2/\l'=qC b vs::(IG (upd cs p c2) 8++F):=by
 have qR:(qC b vs::(IG cs 8++F)).Perm (cs p++(qC b vs::(IG (upd cs p []) 8++F))):=by refine(List.Perm.cons _ ((Nt cs p 8 hp).append_right F)).trans ?_;rw[Am];exact AC [qC b vs] (cs p) _
 refine Fn.re (Keep.of_perm qR) (delete_any _ _ i hi _ _ (Pb.own p hp) Ef) ?_;rintro v _ ⟨c2,ho,rfl⟩;refine⟨_,Keep.of_perm ((AC c2 [qC b vs] _).trans ?_),c2,ho,rfl⟩;refine List.Perm.cons _ ?_;show List.Perm (c2++(IG (upd cs p []) 8++F)) _;rw[<-Am];exact(Wg cs p hp c2).append_right F
def dropQ(X:Nat->A8)(id:Int):Bool×(Nat->A8):=
 match findP X id with
 |some p=>(true,upd X p ((X p).eraseIdx ((X p).idxOf id)))
 |none=>(false,X)
def backQ(X:Nat->A8)(id:Int):Bool×(Nat->A8):=
 match findP X id with
 |some p=>(true,upd X p ((X p).eraseIdx ((X p).idxOf id)++[id]))
 |none=>(false,X)
theorem ZE(h:findP X id=none):kU X id=(-1,-1):=by unfold kU;rw[h]
theorem ZF(h:findP X id=some p):kU X id=(((p:Nat):Int),(((X p).idxOf id:Nat):Int)):=by unfold kU;rw[h]
theorem drop_any(b:Nat)(X:Nat->A8)(lq:Ac)(id:Int)(hq:IsQ b X lq)(hb: ∀p,p<8->(X p).length<=1000000)(F:Ac):
 Fn prog 152 [π b,ι id] (lq++F) λv l'=>v= .bool (dropQ X id).1/\ ∃DI,IsQ b (dropQ X id).2 DI/\l'=DI++F:=by
 have H:=J4 b X lq id hq hb;obtain⟨vs,cs,Pb,rfl⟩:=hq;refine AO func152 ntmps152 λE=>?_;cases hf:findP X id with
 |none=>
  rw[ZE hf] at H;dsimp only at H;have e:dropQ X id=(false,X):=by unfold dropQ;rw[hf]
  rw[e];simp only[Ae];refine gz ?_;refine Be (AI rfl rfl (λl2 hl=>H l2 λc hc=>hl c (Ai F hc))) ?_;refine gz ?_;exact Bc .refl ⟨rfl,_,⟨vs,cs,Pb,rfl⟩,rfl⟩
 |some p=>
  obtain⟨hp,Om,C7⟩:=T5 X id p hf;rw[ZF hf] at H;dsimp only at H;have e:dropQ X id=(true,upd X p ((X p).eraseIdx ((X p).idxOf id))):=by unfold dropQ;rw[hf]
  rw[e];obtain⟨i,hi⟩:=ξ ((X p).idxOf id)
  rw[hi] at C7 H⊢;have ej:=hb p hp;have hg:=Xu vs p hp;obtain⟨v,hv⟩:=ξ (vs p)
  rw[hv] at hg;simp only[Ae];refine gz ?_;refine Be (AI rfl rfl (λl2 hl=>H l2 λc hc=>hl c (Ai F hc))) ?_;refine gz ?_;refine J0 [(0,true),(1,true),(2,true),(3,true),(4,true),(5,true),(6,true),(7,true),(8,true),(9,true),(10,true),(12,true),(13,true),(11,false),(14,true),(15,false)] [[],[],[],[],[2],[2,4],[2,3,4,5],[2,3,4,5,6],[],[],[9],[2,3,4,5,6,7,8,9,10],[0],[0,12],[0,1,2,3,4,5,6,7,8,9,10,11,12,13],[0,1,2,3,4,5,6,7,8,9,10,11,12,13,14]] ([]) Bu Bu GO Vq ?_;refine pz ?_;apply Gy (S:=[qC b vs])
  ·exact DQ rfl Al hg
  ·intro c hc;cases hc with
   |head=>exact Al
   |tail _ h=>cases h
  ·rfl
  ·rfl
  ·rfl
  refine pz ?_;apply Hi
  ·exact Dr rfl rfl (by rw[<-hv];exact AcR Pb hp C7 ej)
  ·rfl
  ·rfl
  ·rfl
  ·intro _ _ _ c hc;cases hc
  ·exact λ_ _ _ x hx ha=>Dk Bu hx ha
  rintro v' _ ⟨c2,ho,rfl⟩;have Js:v'.oneCell'=true:=ho.one;refine pz ?_;apply HL
  ·exact Dy rfl rfl Js .here (by simp[hp])
  ·rfl
  ·rfl
  ·intro _ _ _ c hc;cases hc
  ·exact λ_ _ _ x hx ha=>Dk Bu hx ha
  rintro _ _ ⟨rfl,rfl⟩;rw[bR vs p hp v'];refine pz ?_;refine gz ?_;refine Bc .refl ⟨rfl,_,⟨_,_,Pb.upd p _ v' c2 ho,rfl⟩,rfl⟩
theorem back_any(b:Nat)(X:Nat->A8)(lq:Ac)(id:Int)(hq:IsQ b X lq)(hb: ∀p,p<8->(X p).length<=1000000)(F:Ac):
 Fn prog 302 [π b,ι id] (lq++F) λv l'=>v= .bool (backQ X id).1/\ ∃DI,IsQ b (backQ X id).2 DI/\l'=DI++F:=by
 have H:=J4 b X lq id hq hb;have HD:=drop_any b X lq id hq hb F;refine AO func302 ntmps302 λE=>?_;cases hf:findP X id with
 |none=>
  obtain⟨vs,cs,Pb,rfl⟩:=hq;rw[ZE hf] at H;dsimp only at H;have e:backQ X id=(false,X):=by unfold backQ;rw[hf]
  rw[e];simp only[Ae];refine gz ?_;refine Be (AI rfl rfl (λl2 hl=>H l2 λc hc=>hl c (Ai F hc))) ?_;refine gz ?_;exact Bc .refl ⟨rfl,_,⟨vs,cs,Pb,rfl⟩,rfl⟩
 |some p=>
  obtain⟨hp,Om,C7⟩:=T5 X id p hf;rw[ZF hf] at H;dsimp only at H;have e:backQ X id=(true,upd X p ((X p).eraseIdx ((X p).idxOf id)++[id])):=by unfold backQ;rw[hf]
  rw[e];have e2:dropQ X id=(true,upd X p ((X p).eraseIdx ((X p).idxOf id))):=by unfold dropQ;rw[hf]
  rw[e2] at HD;obtain⟨i,hi⟩:=ξ ((X p).idxOf id)
  rw[hi] at C7 H HD⊢;have ej:=hb p hp;refine gz ?_;refine Be (AI rfl rfl (λl2 hl=>H l2 λc hc=>hl c (Ai F hc))) ?_;refine gz ?_;refine AP (Dr rfl rfl HD) ?_;rintro _ _ ⟨rfl,DI,⟨vs,cs,Pb,rfl⟩,rfl⟩;simp only[Ae];have hg:=Xu vs p hp;obtain⟨v,hv⟩:=ξ (vs p)
  rw[hv] at hg;have JP:(upd X p ((X p).eraseIdx i) p).length<=1000000:=by rw[upd_same,Gm];split<;>omega
  refine gz ?_;refine J0 [(0,true),(1,true),(2,true),(3,true),(4,true),(5,true),(6,true),(7,true),(8,true),(11,true),(12,true),(9,false),(10,false),(13,true),(14,false)] [[],[],[],[],[2],[2,4],[2,3,4,5],[2,3,4,5,6],[],[8],[2,3,4,5,6,7,8,9],[0],[0,11],[0,1,2,3,4,5,6,7,8,9,10,11,12],[0,1,2,3,4,5,6,7,8,9,10,11,12,13]] ([]) Bu Bu GO Vq ?_;refine pz ?_;apply Gy (S:=[qC b vs])
  ·exact DQ rfl Al hg
  ·intro c hc;cases hc with
   |head=>exact Al
   |tail _ h=>cases h
  ·rfl
  ·rfl
  ·rfl
  refine pz ?_;apply Hi
  ·exact Lq rfl rfl
  ·rfl
  ·rfl
  ·rfl
  ·intro _ _ _ c hc;cases hc
  ·rintro _ _ ⟨bl,_,rfl,rfl⟩ x hx _ c hc;cases hx with
   |head=>cases hc with
    |head=>exact .tail _ (.head _)
    |tail _ h=>cases h
   |tail _ h=>cases h
  rintro _ _ ⟨bl,_,rfl,rfl⟩;refine pz ?_;apply Hi
  ·exact mW Pb hp JP (by rw[hv];rfl) rfl
  ·rfl
  ·rfl
  ·rfl
  ·intro _ _ _ c hc;cases hc
  ·exact λ_ _ _ x hx ha=>Dk Bu hx ha
  rintro v' _ ⟨c2,ho,rfl⟩;have Js:v'.oneCell'=true:=ho.one;refine pz ?_;apply HL
  ·exact Dy rfl rfl Js .here (by simp[hp])
  ·rfl
  ·rfl
  ·intro _ _ _ c hc;cases hc
  ·exact λ_ _ _ x hx ha=>Dk Bu hx ha
  rintro _ _ ⟨rfl,rfl⟩;rw[bR vs p hp v'];refine pz ?_;refine gz ?_;have hu:=Pb.upd p _ v' c2 ho;dsimp only at hu;rw[upd_same,fq] at hu;refine Bc .refl ⟨rfl,_,⟨_,_,hu,rfl⟩,rfl⟩
end Qu
namespace Th
open Go.RowKit
set_option maxRecDepth 20000
theorem drop_any(b:Nat)(L:TL)(lq:Ac)(hq:IsX b L lq)(id:Int)(G:Ac):
 Fn prog 367 [π b,ι id] (lq++G) λv l'=>v= ι (dropD L id).1/\ ∃DI,IsX b (dropD L id).2 DI/\l'=DI++G:=by
 have Nf:=hq;obtain⟨m,es,clock,rfl,hX⟩:=hq;refine AO func367 ntmps367 λE=>?_;simp only[Ae,Ag];refine gz ?_;rw[hX.look,hX.has];refine gz ?_;refine AP e_alloc ?_;rintro _ _ ⟨b5,_,rfl,rfl⟩;iterate 4 refine gzS ?_
 cases hf:findH L id with
 |some t=>rw[show dropD L id=(0,L.filter λx=>decide (x.id≠id)) by unfold dropD;rw[hf];rfl];refine gz ?_;refine Nk (TR (a:=id) (es:=es) (clock:=clock) rfl rfl D1) rfl rfl ?_;rintro _ _ ⟨rfl,rfl⟩;refine gz ?_;exact Bc ζ ⟨rfl,_,⟨m,_,_,rfl,hX.drop id⟩,rfl⟩
 |none=>rw[show dropD L id=(2,L) by unfold dropD;rw[hf];rfl];refine gz ?_;exact Bc ζ ⟨rfl,_,Nf,rfl⟩
open Go.RowKit
set_option maxRecDepth 20000
theorem server_any(b:Nat)(L:TL)(lq:Ac)(hq:IsX b L lq)(hn:L.length<=900000)(id:Int)(l:Ac)(CJ: ∀c,c∈lq->c∈l):
 Fn prog 260 [π b,ι id] l λv l'=>v= ι (serverD L id)/\l'=l:=by
 refine AO func260 ntmps260 λE=>?_;refine Iy λb3=>?_;refine Iy λb4=>?_;refine AP (Az rfl rfl (Jy _ rfl _)) ?_;rintro _ _ ⟨B,rfl,rfl⟩;refine gz ?_;refine Dj (α:=ThT) (ps:=[8]) (lb:=[π B]) rfl (Ii B b L lq hq hn) (λ_=>rfl) rfl
  (λpre l=>l=[xB B (π b),GT b4 0,GT b3 id]/\ ∀x,x∈pre->¬(id≠0/\x.ca=id))
  (λc pre l=>c= .ret/\ ∃(Hh:TL) (t:ThT),pre=Hh++[t]/\(∀x,x∈Hh->¬(id≠0/\x.ca=id))/\id≠0/\t.ca=id/\l=[GT b4 t.id])
  _ l (λpre l2 X2 hX h=>⟨by rw[h.1];exact List.Mem.head _,λc hc=>Aa _ (hX _ (CJ _ hc))⟩) AY ⟨rfl,by simp⟩ ?_ ?_ ?_
 ·rintro E r0 Gb pre y l' T ⟨fn,tmps,D,rfl⟩ hT ⟨rfl,Gx⟩ DG;simp only[DY,Ae,Ag];refine Iy λb5=>?_;refine CP D1 ?_;by_cases h0:id=0
  ·refine gz ?_;refine Cn _ ζ ⟨rfl,λx hx=>λh=>h.1 h0⟩
  by_cases hy:y.ca=id
  ·refine gz ?_;refine EH [GT b4 y.id] AY ⟨rfl,pre,y,rfl,Gx,h0,hy,rfl⟩
  ·refine gz ?_;refine Cn _ ζ ⟨rfl,λx hx=>?_⟩;rcases AB.1 hx with hx|hx
   ·exact Gx x hx
   ·rw[Ay.1 hx];exact λh=>hy h.2
 ·rintro D xs l' rfl ⟨rfl,Gx⟩;rw[je Gx];simp only[Ae,Ag];refine gz ?_;exact AU [D] (GT b4 0::l) rfl (l':=l) AY Ba ζ ⟨rfl,rfl⟩
 ·rintro D c pre l' DG ⟨rfl,Hh,t,rfl,lj,h0,ht,rfl⟩;rw[nO DG h0 (λx hx h=>lj x hx ⟨h0,h⟩) ht];simp only[Ae,Ag];refine gz ?_;exact AU [D] (GT b4 t.id::l) rfl (l':=l) AY Ba ζ ⟨rfl,rfl⟩
end Th
namespace As
open Go.RowKit
set_option maxRecDepth 20000
theorem nW(rb:Nat)(x r q:Int)(l:Ac)(hx:(rb,Obj.cells #[ι x] 3 (0,0))∈l):Fn prog 392 [ι r,ι q,π rb] l λv l'=>v= .bool (IY x r q)/\l'=l:=by refine AO func392 ntmps392 λE=>?_;exact Fd
theorem wC(rb:Nat)(x r q:Int)(l:Ac)(hx:(rb,Obj.cells #[ι x] 3 (0,0))∈l):Fn prog 393 [ι r,ι q,π rb] l λv l'=>v= .bool (isSer x r q)/\l'=l:=by refine AO func393 ntmps393 λE=>?_;exact Fd
theorem root_any(b:Nat)(s:ASt)(r:Int)(l:Ac)(hA:asA b s∈l):Fn prog 389 [π b,ι r] l λv l'=>v= .tuple #[ι (rootP s r).1,ι (rootP s r).2.1,.bool (rootP s r).2.2]/\l'=l:=by
 refine AO func389 ntmps389 λE=>?_;refine Iy λrb=>?_;cases hf:findN s (isSer r) with
 |none=>refine Be (AI rfl rfl (λl hl=>Pi b rb _ s r (isSer r) hf l (hl _ Ca) (hl _ Ca) (λr' q l h=>wC rb r r' q l h))) ?_;refine Iy λb7=>?_;exact AU [] l rfl (l':=l) AY Ba .refl ⟨by simp[JQ,rootP,hf],rfl⟩
 |some n=>have C7:=(findN_lt s _ n hf).1;have qs:=s.c_root (n/4) (n%4) Af Af;rw[show 4*(n/4)+n%4=n by omega] at qs;refine Be (AI rfl rfl (λl hl=>Ph b rb _ s r (isSer r) n hf l (hl _ Ca) (hl _ Ca) (λr' q l h=>wC rb r r' q l h))) ?_;refine Iy λb7=>?_;refine Ct [] 16 _ ?_ (hR:=(λ_ h=>h));refine pz ?_;refine gz ?_;exact AU [] l rfl (l':=l) AY Ba .refl ⟨by simp[JQ,rootP,hf],rfl⟩
open Go.RowKit
set_option maxRecDepth 20000
theorem unassign_any(b:Nat)(s:ASt)(r:Int)(F:Ac):
 Fn prog 385 [π b,ι r] (asA b s::F) λv l'=>v= .tuple #[ι (unP s r).1,ι (unP s r).2.1]/\l'=asA b (unP s r).2.2::F:=by
 refine AO func385 ntmps385 λE=>?_;refine Iy λrb=>?_;cases hf:findN s (IY r) with
 |none=>refine Be (AI rfl rfl (λl hl=>Pi b rb _ s r (IY r) hf l (hl _ Ca) (hl _ Ca) (λr' q l h=>nW rb r r' q l h))) ?_;refine Iy λb7=>?_;exact AU [] (asA b s::F) rfl (l':=asA b s::F) AY Ba .refl ⟨by simp[JQ,unP,hf],by simp[unP,hf]⟩
 |some n=>
  have C7:=(findN_lt s _ n hf).1;have e1:=s.s_root (n/4) (n%4) Af Af 0;rw[show 4*(n/4)+n%4=n by omega] at e1;have e2:=({s with root:=upd s.root n 0}:ASt).s_ser (n/4) (n%4) Af Af 0;rw[show 4*(n/4)+n%4=n by omega] at e2;refine Be (AI rfl rfl (λl hl=>Ph b rb _ s r (IY r) n hf l (hl _ Ca) (hl _ Ca) (λr' q l h=>nW rb r r' q l h))) ?_;refine Iy λb7=>?_;refine J0 [(0,true),(1,true),(2,true),(3,true),(4,true),(5,true),(6,true),(7,true),(8,true),(9,true),(10,true),(11,true),(12,true),(13,true),(14,true),(16,true),(17,true),(18,true),(19,true),(15,false),(20,true),(21,false)] [[],[],[1],[],[3],[],[],[6],[],[8],[0],[0,10],[0,1,2,10,11],[0,1,2,10,11,12],[0,1,2,3,4,10,11,12,13],[0,1,2,3,4,10,11,12,13,14],[5],[5,16],[5,6,7,16,17],[5,6,7,16,17,18],[0,1,2,3,4,5,6,7,8,9,10,11,12,13,14,15,16,17,18,19],[0,1,2,3,4,5,6,7,8,9,10,11,12,13,14,15,16,17,18,19,20]] ([(b7,.cells #[ι (n:Nat),ι ((n/4:Nat):Int),ι ((n%4:Nat):Int)] 360 (0,0))]) Bu Bu GO Vq ?_;refine pz ?_;apply Oy
  ·exact Dy (cs:=s.cells) rfl rfl rfl D1 (by rw[s.cells_size];omega)
  ·rfl
  ·rfl
  ·rintro _ _ ⟨rfl,rfl⟩;exact(Cm MV)
  rintro _ _ ⟨rfl,rfl⟩;rw[e1];refine pz ?_;apply Oy
  ·exact Dy (cs:=({s with root:=upd s.root n 0}:ASt).cells) rfl rfl rfl D1 (by rw[ASt.cells_size];omega)
  ·rfl
  ·rfl
  ·rintro _ _ ⟨rfl,rfl⟩;exact(Cm MV)
  rintro _ _ ⟨rfl,rfl⟩;rw[e2];refine pz ?_;refine gz ?_;exact AU [] (asA b (s.give0 n)::F) rfl (l':=asA b (s.give0 n)::F) AY Ba .refl ⟨by simp[JQ,unP,hf],by simp[unP,hf]⟩
open Go.RowKit
set_option maxRecDepth 20000
def yY(s:ASt)(p:Nat)(i:Fin 4):Bool:=decide (s.root (4*p+i.val)≠0)
def AcS(p:Nat)(i:Fin 4):Value:= ι ((4*p+i.val:Nat):Int)
def dropL(s:ASt)(p:Nat)(pre:List (Fin 4)):Ap:=(pre.filter (yY s p)).map (AcS p)
def dropP(s:ASt)(o:Int):Ap×Int×ASt:=
 match atO s o with
 |none=>([],2,s)
 |some p=>(dropL s p (nums p),0,s.drop p)
theorem nums_len(p:Nat):(nums p).length<=4:=by have:(nums p).length<=(List.range 4).length:=List.length_filterMap_le _ _;simpa using this
theorem dropL_len(s:ASt)(p:Nat)(pre:List (Fin 4)):(dropL s p pre).length<=pre.length:=by unfold dropL;rw[A5];exact Db _ _
theorem nX(s:ASt)(p:Nat)(pre:List (Fin 4))(i:Fin 4)(h:s.root (4*p+i.val)≠0):dropL s p (pre++[i])=dropL s p pre++[AcS p i]:=by simp[dropL,yY,h]
theorem jo(s:ASt)(p:Nat)(pre:List (Fin 4))(i:Fin 4)(h:s.root (4*p+i.val)=0):dropL s p (pre++[i])=dropL s p pre:=by simp[dropL,yY,h]
theorem dropPool_any(b:Nat)(s:ASt)(o:Int)(F:Ac):
 Fn prog 386 [π b,ι o] (asA b s::F) λv l'=> ∃sl cs,v= .tuple #[sl,ι (dropP s o).2.1]/\OwnSl 3 1 sl (dropP s o).1.length (dropP s o).1 cs/\l'=asA b (dropP s o).2.2::(cs++F):=by
 refine AO func386 ntmps386 λE=>?_;refine Iy λb2=>?_;cases hq:atO s o with
 |none=>refine Be (AI rfl rfl (λl hl=>Pj b s o (-1) (by simp[Xr,hq]) l (hl _ Ca))) ?_;refine Iy λb6=>?_;refine AU [] (asA b s::F) rfl (l':=asA b s::F) AY Ba AY ⟨_,[],by simp only[JQ,dropP,hq];rfl,by simp only[dropP,hq];exact OwnSl.nil _ _,by simp[dropP,hq]⟩
 |some p=>
  have hp:=nf s o p hq;refine Be (AI rfl rfl (λl hl=>Pj b s o p (by simp[Xr,hq]) l (hl _ Ca))) ?_;refine Iy λb6=>?_;refine Iy λb7=>?_;refine AP (Az rfl rfl (OP p _)) ?_;rintro v l' ⟨B,hB,rfl,rfl⟩;refine gz ?_;refine Dj (α:=Fin 4) (ps:=[21,22]) (lb:=[π B]) rfl (Mu B p hp) (λ_=>rfl) rfl
   (λpre l=> ∃v cs,OwnSl 3 1 v (dropL s p pre).length (dropL s p pre) cs/\l=[(B,.cells #[ι (p:Nat)] 3 (0,0)),(b6,.cells #[ι (p:Nat)] 3 (0,0)),(b2,.cells #[π b] 157 (0,0)),(b7,.cells #[v] 40 (0,0)),asA b s]++cs)
   (λc pre l=>False)
   _ F (λpre l X _ h=>by obtain⟨v,cs,_,rfl⟩:=h;exact List.Mem.head _) AY ⟨_,[],OwnSl.nil _ _,rfl⟩ ?_ ?_ ?_
  ·rintro E r0 Gb pre y l' T ⟨fn,tmps,D,rfl⟩ hT ⟨v,cs,EY,rfl⟩ DG;have vO:=y.isLt;have qr:=s.c_root p y.val hp vO;simp only[DY,Ae,Ag];refine gz ?_;refine CP (.there (.there (.there (.there (.there (FX _ _ _ _ _)))))) ?_;refine gz ?_;refine Ct [] 10 _ ?_ (hR:=(λ_ h=>h));refine pz ?_;by_cases hr:s.root (4*p+y.val)=0
   ·refine gz ?_;refine Cn _ (.refl) ⟨v,cs,?_,rfl⟩;rw[jo s p pre y hr];exact EY
   ·refine gz ?_;refine AP (Lq rfl rfl) ?_;rintro _ _ ⟨bl,_,rfl,rfl⟩;refine Bt (Keep.of_perm (AC [(bl,.cells (τ [ι ((4*p+y.val:Nat):Int)]) 3 (0,0)),(B,.cells #[ι (p:Nat)] 3 (0,0)),(b6,.cells #[ι (p:Nat)] 3 (0,0)),(b2,.cells #[π b] 157 (0,0)),(b7,.cells #[v] 40 (0,0)),asA b s] cs _)) ?_;have Ef:(dropL s p pre).length<=4:=B9 (dropL_len s p pre) (by have h1:=List.IsPrefix.length_le DG;have h2:=nums_len p;simp at h1;omega);apply kT
    ·apply GN (xs:=dropL s p pre) (news:=[ι ((4*p+y.val:Nat):Int)]) (zs:=[ι 0])
     ·rfl
     ·rfl
     ·rfl
     ·exact EY
     ·exact Aa _ Al
     ·intro j u hj;simpa using hj
     ·rfl
     ·simp[Value.oneCell']
     ·unfold maxLen;omega
     ·omega
    ·rfl
    ·rfl
    ·rfl
    rintro v' _ ⟨cs',hown',rfl⟩;have Js:v'.oneCell'=true:=hown'.one;refine Bt (Keep.of_perm (AC cs' [(bl,.cells (τ [ι ((4*p+y.val:Nat):Int)]) 3 (0,0)),(B,.cells #[ι (p:Nat)] 3 (0,0)),(b6,.cells #[ι (p:Nat)] 3 (0,0)),(b2,.cells #[π b] 157 (0,0)),(b7,.cells #[v] 40 (0,0)),asA b s] _)) ?_;simp only[Ae,Ag];refine gz ?_;refine Cn _ ζ ⟨v',cs',?_,rfl⟩;rw[nX s p pre y hr,Ah];exact hown'
  ·rintro D xs l' rfl ⟨v,cs,EY,rfl⟩;simp only[Ae,Ag];refine gz ?_;refine Ct [6] 7 ([(b6,.cells #[ι (p:Nat)] 3 (0,0)),(b2,.cells #[π b] 157 (0,0))]) ?_;refine pz ?_;apply Oy
   ·apply EG (cs:=s.cells)
    ·rfl
    ·rfl
    ·rfl
    ·simp[Value.oneCell']
    ·exact D1
    ·rw[s.cells_size];omega
   ·rfl
   ·rfl
   ·rintro _ _ ⟨rfl,rfl⟩;exact(Cm MV)
   rintro _ _ ⟨rfl,rfl⟩;rw[DU,s.s_drop p hp];refine pz ?_;refine gz ?_;refine AU [D] (asA b (s.drop p)::(cs++F)) rfl (l':=asA b (s.drop p)::(cs++F)) AY Ba .refl ⟨v,cs,by simp[JQ,dropP,hq],by simp only[dropP,hq];exact EY,by simp[dropP,hq]⟩
  ·rintro D c pre l' DG h;exact h.elim
end As
open Go.RowKit
set_option maxRecDepth 20000
abbrev Jj(x:Int):Prop:=0<=x/\x<18446744073709551616
abbrev Bb(x:Int):Value:= υ x
abbrev Uz(gb:Nat)(W:A8):Bh:=(gb,.cells (τ (W.map Bb)) 254 (0,0))
def AcU(b F:Nat)(W:A8)(lq:Ac):Prop:= ∃gb,1<=F/\F<=64/\W.length=F*8/\(∀w,w∈W->Jj w)/\lq=[PR b gb F,Uz gb W]
theorem G8:Jj 0:=⟨by decide,by decide⟩
class TW(t:Th.ThT):Prop where
 out:Jj t.va/\Jj t.vl
structure KT where
 A:Ar.ArT
 H:HS
 N:As.ASt
 T:Th.TL
 Q:Nat->A8
 E:En.DE
 W:A8
 K:List IQ
 U:A8
variable{S S':KT}
class IsK(F C k:outParam Nat)(S:KT)(p:RP)(s:RL):Prop where
 mem:AcU p.m F S.W s.M
 co:IsCos p.c S.K s.C
 kl:S.K.length=C
 ar:Ar.IsA p.a S.A s.A
 an:S.A.n=F
 rad:VH S.A
 ho:IsH p.h S.H s.H
 inv: ∃m,m+k<=900/\InvH S.H m
 giv: ∀n,n<32->0<=S.N.given n/\S.N.given n+k<=900
 th:Th.IsX p.t S.T s.T
 tl:S.T.length+k<=900
 tw: ∀t,t∈S.T->TW t/\Th.mayH t=true
 qu:Qu.IsQ p.q S.Q s.Q
 ql: ∀n,n<8->(S.Q n).length+k<=900
 en:En.IsE p.e S.E s.E
 el: ∀x,x∈S.E->x.2.1.length+k<=900
 eo: ∀t,En.OneAt S.E t
 ul:S.U.length=C
 cu:OwnSl 3 1 p.v C (S.U.map CU) s.V
 c1:1<=C/\C<=3
def AA(b:Nat)(p:RP)(s:RL)(S:KT)(G:Ac):Ac:=CH b p::As.asA p.n S.N::(s.M++(s.C++(s.A++(s.H++(s.T++(s.Q++(s.E++(s.V++G))))))))
theorem IsK.mono(h:IsK F C k S p s)(hm:m<=k):IsK F C m S p s:=
 {h with inv:=let⟨n,h1,h2⟩:=h.inv;⟨n,Af,h2⟩,giv:=λn hn=>by have:=h.giv n hn;omega,tl:=by have:=h.tl;omega,ql:=λn hn=>by have:=h.ql n hn;omega,el:=λx hx=>by have:=h.el x hx;omega}
def Tail(L G:Ac):Prop:= ∃X,L=X++G
theorem Tail.nil:Tail G G:=⟨[],rfl⟩
theorem Tail.step(X:Ac)(h:Tail L G):Tail (X++L) G:=by obtain⟨Y,rfl⟩:=h;exact⟨X++Y,by simp⟩
theorem Tail.cons{c:Bh}(h:Tail L G):Tail (c::L) G:=h.step [c]
theorem Tail.trans{M:Ac}(h:Tail L M)(h2:Tail M G):Tail L G:=by obtain⟨Y,rfl⟩:=h;exact h2.step Y
inductive Fr1(l0:Ac):Ac->(Ac->Ac)->Prop
 |nil:Fr1 l0 l0 λx=>x
 |cons {c:Bh} {l:Ac} {Γ:Ac->Ac}:Fr1 l0 l Γ->Fr1 l0 (c::l) λx=>c::Γ x
theorem Fr1.eq{l:Ac}(h:Fr1 l0 l Γ): ∃A,l=A++l0/\ ∀x,Γ x=A++x:=by
 induction h with
 |nil=>exact⟨[],rfl,λ_=>rfl⟩
 |cons _ ih=>obtain⟨A,h1,h2⟩:=ih;exact⟨_::A,by rw[h1];rfl,λx=>BM _ (h2 x)⟩
def KK(F C b:Nat)(p:RP)(k:Nat)(x:Value)(S:KT)(G:Ac):Value->Ac->Prop:=λv l'=>v=x/\ ∃s L,IsK F C k S p s/\Tail L G/\l'=AA b p s S L
class EK(P:Program)(F C b:Nat)(p:RP)(f:Nat)(vs:Ap)(k:Nat)(S:KT)(k':outParam Nat)(x:outParam Value)(S':outParam KT):Prop where
 out: ∀s G,IsK F C k S p s->Fn P f vs (AA b p s S G) (KK F C b p k' x S' G)
theorem Fv(b:Nat)(p:RP)(s:RL)(S:KT)(A G:Ac):(A++AA b p s S G).Perm (AA b p s S (A++G)):=by unfold AA;exact BV
theorem UA(b:Nat)(p:RP)(s:RL)(S:KT)(X A G:Ac):(AA b p s S (X++(A++G))).Perm (A++AA b p s S (X++G)):=by unfold AA;exact BV
section
variable{l:Ac}
theorem mG(h: ∀c,c∈AA b p s S G->c∈l): ∀c,c∈G->c∈l:=λc hc=>h c (by unfold AA;simp[hc])
theorem mR(h: ∀c,c∈AA b p s S G->c∈l):CH b p∈l:=h _ (.head _)
theorem mN(h: ∀c,c∈AA b p s S G->c∈l):As.asA p.n S.N∈l:=h _ ν
theorem mM(h: ∀c,c∈AA b p s S G->c∈l): ∀c,c∈s.M->c∈l:=λc hc=>h c (by unfold AA;simp[hc])
theorem mC(h: ∀c,c∈AA b p s S G->c∈l): ∀c,c∈s.C->c∈l:=λc hc=>h c (by unfold AA;simp[hc])
theorem mA(h: ∀c,c∈AA b p s S G->c∈l): ∀c,c∈s.A->c∈l:=λc hc=>h c (by unfold AA;simp[hc])
theorem mH(h: ∀c,c∈AA b p s S G->c∈l): ∀c,c∈s.H->c∈l:=λc hc=>h c (by unfold AA;simp[hc])
theorem mT(h: ∀c,c∈AA b p s S G->c∈l): ∀c,c∈s.T->c∈l:=λc hc=>h c (by unfold AA;simp[hc])
theorem mQ(h: ∀c,c∈AA b p s S G->c∈l): ∀c,c∈s.Q->c∈l:=λc hc=>h c (by unfold AA;simp[hc])
theorem mE(h: ∀c,c∈AA b p s S G->c∈l): ∀c,c∈s.E->c∈l:=λc hc=>h c (by unfold AA;simp[hc])
theorem mV(h: ∀c,c∈AA b p s S G->c∈l): ∀c,c∈s.V->c∈l:=λc hc=>h c (by unfold AA;simp[hc])
end
theorem fL{l:Ac}(h:Fr1 l0 l Γ:=by(repeat(first|exact .nil|apply Fr1.cons))):Fr1 l0 l Γ:=h
theorem zTl(h:Tail L G:=by(repeat(first|assumption|exact Tail.nil|apply Tail.cons|(refine Tail.trans (by assumption) ?_)))):Tail L G:=h
theorem zSt(h:S=S':=by first|rfl|(subst_vars;rfl)|(subst_vars;simp[*];done)|(simp_all;done)):S=S':=h
section
variable{P:Program}{ro:Option Nat}{N:Nat}{E:World}{ops:Array Oper}{Q:Exit->Act->World->Prop}{A6:List Oper}{fr:Fr}{ds:List Deferred}{l:Ac}{x0:Value}{d:Nat}{x:Operand}{xs:List Operand}{at_:Array TypeId}{ty:TypeId}{pos:String}{aft:Array Edge}{g:Option (Nat×Bool)}
theorem EK.on(q:EK P F C b p f vs k S k' x0 S')(hK:IsK F C k S p s)(hF:Fr1 (AA b p s S G) l Γ):Fn P f vs l λv l'=>v=x0/\ ∃s' L,IsK F C k' S' p s'/\Tail L G/\l'=Γ (AA b p s' S' L):=by
 obtain⟨A,rfl,hA⟩:=hF.eq;refine Fn.re (.of_perm (Fv b p s S A G)) (q.out s (A++G) hK) λv l' ⟨h1,s',L,h2,⟨X,h3⟩,h4⟩=>⟨Γ (AA b p s' S' (X++G)),?_,h1,s',_,h2,⟨X,rfl⟩,rfl⟩
 rw[h4,h3,hA];exact .of_perm (UA ..)
theorem Gt(hk: ∀S1 s' L,S1=S'->IsK F C k' S1 p s'->Tail L G->CH b p∈AA b p s' S1 L->DC P ro N E ops Q A6 ((d,x0)::fr) ds (Γ (AA b p s' S1 L)))(hx:ev fr x=some (.func (.func f) #[] #[]):=by rfl)(hy:SC fr xs=some vs:=by rfl)(hF:Fr1 (AA b p s S G) l Γ:=by exact fL)(c:EN P f:=by infer_instance)(hK:IsK F C k S p s:=by infer_instance)(q:EK P F C b p f vs k S k' x0 S':=by infer_instance)(hw:RD ops fr g=some true:=by rfl)(hb:Nat.blt d N=true:=by rfl):DC P ro N E ops Q (⟨some d,.call {callee:= .value x,args:=xs.toArray,argTypes:=at_},ty,pos,aft,g⟩::A6) fr ds l:=
 IE (Az hx hy (q.on hK hF)) hw rfl hb λv l' ⟨h1,s',L,h2,h3,h4⟩=>by rw[h1,h4];exact hk S' s' L rfl h2 h3 (mR λ_ h=>h)
variable{tbl:List (List Nat)}{sp:F5}{pl:List BI}{i:Nat}{gg:Bool}
theorem Na(hk: ∀S1 s' L,S1=S'->IsK F C k' S1 p s'->Tail L G->CH b p∈AA b p s' S1 L->MP P ro N E ops Q tbl false sp pl ((d,x0)::fr) ds (Γ (AA b p s' S1 L)))(hx:ev fr x=some (.func (.func f) #[] #[]):=by rfl)(hy:SC fr xs=some vs:=by rfl)(hF:Fr1 (AA b p s S G) l Γ:=by exact fL)(c:EN P f:=by infer_instance)(hK:IsK F C k S p s:=by infer_instance)(q:EK P F C b p f vs k S k' x0 S':=by infer_instance)(hb:Nat.blt d N=true:=by rfl)(ha:(sp.map Prod.fst).all (λq=>FP tbl i q)=true:=by kernel_rfl):MP P ro N E ops Q tbl gg sp ((i,false,⟨some d,.call {callee:= .value x,args:=xs.toArray,argTypes:=at_},ty,pos,aft,none⟩)::pl) fr ds l:=
 LP (Az hx hy (q.on hK hF)) (λv l' ⟨h1,s',L,h2,h3,h4⟩=>by rw[h1,h4];exact hk S' s' L rfl h2 h3 (mR λ_ h=>h)) rfl rfl hb ha
theorem Bd{fn:Func}{rs:List ResultVar}{S1:KT}{k1:Nat}{y:Value}(hr:fn.results=rs.toArray:=by rfl)(h:ResS P fr l rs vs:=by exact Ba)(hF:Fr1 (AA b p s S1 L) l Γ:=by exact fL)(hK:IsK F C k1 S1 p s:=by infer_instance)(ht:Tail L G:=by exact zTl)(hx:JQ vs=y:=by exact zLf)(hk:k<=k1:=by omega)(hS:S1=S:=by exact zSt):C3 N E (bodyPostM Fence.wide 0 P fn (RK E (KK F C b p k y S G))) .ret fr [] l:=by subst hS hx;obtain⟨A,rfl,_⟩:=hF.eq;exact AU [] _ hr .refl h (Keep.dropL' A .refl) ⟨rfl,s,L,hK.mono hk,ht,rfl⟩
end
def OZ(W:A8)(a:Int):Int:=if ¬a%8=0 then 4 else if a>=(W.length:Int)*8 then 3 else 0
def Pu(W:A8)(a:Int):Int×Int:=if OZ W a=0 then(W.getD (a/8).toNat 0,0) else(0,OZ W a)
def jp(W:A8)(a v:Int):Int×A8:=if OZ W a=0 then(0,W.set (a/8).toNat v) else(OZ W a,W)
abbrev nF(W:A8):Int:=(W.length/8:Nat)
def tk(W:A8)(f n:Int):Int×A8:=if f<0\/f>=nF W\/n<0\/n>nF W-f then(3,W) else(0,W.take (8*f.toNat)++(List.replicate (8*n.toNat) 0++W.drop (8*(f.toNat+n.toNat))))
structure Vr where
 vd:Bool
 lf:Bool
 rd:Bool
 wr:Bool
 fr:Int
deriving DecidableEq
abbrev UB(e:Vr):Ap:=[.bool e.vd,.bool e.lf,.bool e.rd,.bool e.wr,ι e.fr]
abbrev cM:Vr:=⟨false,false,false,false,0⟩
def VJ(e:Vr):Bool:=if e.vd=false then decide (e=cM) else if e.fr<0\/e.fr>=64 then false else e.lf==(e.rd||e.wr)
def Q6(e:Vr):Int×Int:=if VJ e=true then((e.vd.toNat+2*e.lf.toNat+4*e.rd.toNat+8*e.wr.toNat:Nat)+256*e.fr,0) else(0,5)
def jq(n:Nat):Vr:=⟨n.testBit 0,n.testBit 1,n.testBit 2,n.testBit 3,(n/256%64:Nat)⟩
def Lz(w:Int):Vr×Int:=if w.toNat/16%16=0/\w.toNat/16384=0/\VJ (jq w.toNat)=true then(jq w.toNat,0) else(cM,5)
def HU(W:A8)(a:Int)(N8:Bool):Vr×Int:=
 if ¬(Pu W a).2=0 then(cM,5) else if ¬(Lz (Pu W a).1).2=0 then(cM,5)
 else if(Lz (Pu W a).1).1.vd=false then(cM,6) else if ¬(Lz (Pu W a).1).1.lf=N8\/(Lz (Pu W a).1).1.fr>=nF W then(cM,5) else((Lz (Pu W a).1).1,0)
def to(page level:Int):Int:=if page<0\/page>=512\/level<1\/level>3 then-1 else if level=1 then page/64%8 else if level=2 then page/8%8 else page%8
abbrev GA(f page level:Int):Int:=f*64+8*to page level
def NG(W:A8)(root page:Int):List (Int×Int×Int):=
 (1,GA root page 1,0)::
 if ¬(HU W (GA root page 1) false).2=0 then[(2,0,(HU W (GA root page 1) false).2)] else
 (2,GA (HU W (GA root page 1) false).1.fr page 2,0)::
 if ¬(HU W (GA (HU W (GA root page 1) false).1.fr page 2) false).2=0 then[(3,0,(HU W (GA (HU W (GA root page 1) false).1.fr page 2) false).2)] else
 [(3,GA (HU W (GA (HU W (GA root page 1) false).1.fr page 2) false).1.fr page 3,0)]
def UC(W:A8)(root page level:Int):Int:=if root<0\/root>=nF W\/page<0\/page>=512\/level<1\/level>3 then 3 else 0
def Rr(W:A8)(root page level:Int):Int×Int:=
 if UC W root page level≠0 then(0,3) else
 match(NG W root page).find? λx=>decide (x.1=level)||!decide (x.2.2=0) with
 |some x=>x.2
 |none=>(0,0)
def O0(W:A8)(root page:Int):Vr×Int:=if ¬(Rr W root page 3).2=0 then(cM,(Rr W root page 3).2) else HU W (Rr W root page 3).1 true
def Mv(T:LQ):List Nat:=(List.range 8).filter λk=>!decide ((T.w k).sp=0)
def UD(T:LQ)(sp pg:Int):M9×Bool:=match(Mv T).find? λk=>decide ((T.w k).sp=sp)&&decide ((T.w k).pg=pg) with
 |some k=>(T.w k,true)
 |none=>(Rq,false)
def Q7(T:LQ)(k:Nat)(x:M9):LQ:={T with w:=Qu.upd T.w k x}
def VK(x:M9):Prop:=x.sp<1\/x.pg<0\/x.pg>=512\/x.fr<0\/x.fr>=64\/(x.rd=false/\x.wr=false)
instance(x:M9):Decidable (VK x):=by unfold VK;exact inferInstance
def cO(T:LQ)(x:M9):Option Nat:=
 let s:=(x.pg%4).toNat
 if(T.w (2*s)).sp=x.sp/\(T.w (2*s)).pg=x.pg then some (2*s) else if(T.w (2*s+1)).sp=x.sp/\(T.w (2*s+1)).pg=x.pg then some (2*s+1)
 else if(T.w (2*s)).sp=0 then some (2*s) else if(T.w (2*s+1)).sp=0 then some (2*s+1) else none
def KW(T:LQ)(x:M9):Int×LQ:=if VK x then(2,T) else match cO T x with
 |some k=>(0,Q7 T k x)
 |none=>(0,{w:=Qu.upd T.w (2*(x.pg%4).toNat+(T.d (x.pg%4).toNat).toNat) x,d:=Qu.upd T.d (x.pg%4).toNat ((T.d (x.pg%4).toNat+1)%2)})
def NH(T:LQ)(st wy:Int):Bool×LQ:=if st<0\/st>=4\/wy<0\/wy>=2 then(false,T) else(!decide ((T.w (2*st.toNat+wy.toNat)).sp=0),Q7 T (2*st.toNat+wy.toNat) Rq)
def tt(T:LQ)(f:M9->Bool)(k:Nat):Bool:=decide (k<8)&&!decide ((T.w k).sp=0)&&f (T.w k)
def PU(T:LQ)(f:M9->Bool):LQ:={T with w:=λk=>if tt T f k=true then Rq else T.w k}
def NX(T:LQ)(f:M9->Bool):Nat:=((List.range 8).filter (tt T f)).length
abbrev KJ(sp pg:Int):M9->Bool:=λx=>decide (x.sp=sp)&&decide (x.pg=pg)
abbrev Rs(sp:Int):M9->Bool:=λx=>decide (x.sp=sp)
abbrev NI(K:List IQ)(n:Int):Int:=if n<0\/n>=K.length then 3 else 0
def qZ:IQ:=⟨0,0,⟨λ_=>Rq,λ_=>0⟩⟩
abbrev Rt(K:List IQ)(n:Int):IQ:=K.getD n.toNat qZ
def Ml(root sp:Int):Prop:=(root= -1/\sp=0)\/(0<=root/\root<64/\1<=sp)
instance(root sp:Int):Decidable (Ml root sp):=by unfold Ml;exact inferInstance
def setC(K:List IQ)(n root sp:Int):Int×List IQ:=if ¬NI K n=0 then(3,K) else if ¬Ml root sp then(2,K) else(0,K.set n.toNat {Rt K n with ro:=root,sp:=sp})
def PV(K:List IQ)(n:Int):Int×Int×Int:=if ¬NI K n=0 then(0,0,3) else((Rt K n).ro,(Rt K n).sp,0)
def trW(W:A8)(c:IQ)(pg:Int):M9:=⟨c.sp,pg,(O0 W c.ro pg).1.fr,(O0 W c.ro pg).1.rd,(O0 W c.ro pg).1.wr⟩
def DW(K:List IQ)(W:A8)(n pg:Int):(M9×Bool×Int)×List IQ:=
 if ¬NI K n=0 then((Rq,false,3),K) else if pg<0\/pg>=512 then((Rq,false,3),K) else if(Rt K n).ro<0 then((Rq,false,19),K)
 else if(UD (Rt K n).tb (Rt K n).sp pg).2=true then(((UD (Rt K n).tb (Rt K n).sp pg).1,true,0),K)
 else if ¬(O0 W (Rt K n).ro pg).2=0 then((Rq,false,(O0 W (Rt K n).ro pg).2),K)
 else((trW W (Rt K n) pg,false,0),K.set n.toNat {Rt K n with tb:=(KW (Rt K n).tb (trW W (Rt K n) pg)).2})
def nY(K:List IQ)(n st wy:Int):Bool×List IQ:=if ¬NI K n=0 then(false,K) else((NH (Rt K n).tb st wy).1,K.set n.toNat {Rt K n with tb:=(NH (Rt K n).tb st wy).2})
def IZ(K:List IQ)(f:M9->Bool):List IQ:=K.map λc=>{c with tb:=PU c.tb f}
def RV(K:List IQ)(f:M9->Bool):Nat:=(K.map λc=>NX c.tb f).sum
namespace Ar
theorem ZG(v:Value)(i m:Nat)(A W B:Ap)(hA:A.length=i*9)(hW:W.length=9)(hB:B.length=m*9)(xS: ∀u∈B,u.oneCell'=true)(cs F:Ac)(h:OwnSl 100 9 v (i+m+1) (A++W++B) cs)(hn:i+m<=90000):
 Fn prog 388 [v,ι (i:Nat),ι ((i:Int)+1)] (cs++F) λr l'=> ∃cs',OwnSl 100 9 r (i+m) (A++B) cs'/\l'=cs'++F:=by
 obtain⟨Ef,h⟩:=h;rcases h with⟨rfl,h0,rfl⟩|⟨gb,cap,sp,rfl,rfl,im,Vn,N5⟩
 ·omega
 have AiI:sp.length+(i+m+1)*9=cap*9:=by rw[Ah,Ef] at N5;omega
 obtain⟨cur,hcur⟩:=ξ (A++W++B++sp)
 have AbP:cur.length=cap*9:=by rw[<-hcur];exact N5
 obtain⟨off',hoff⟩: ∃o,(if cap=i+1 then 0 else 0+(i+1)*9)=o:=⟨_,rfl⟩
 have rM:cur.take (i*9)=A:=by rw[<-hcur,Am,Am,Hb hA]
 obtain⟨T,hT⟩:=ξ (cur.drop (i*9+m*9))
 have hTl:T.length=cap*9-(i*9+m*9):=by rw[<-hT,DR,AbP]
 rw[hcur];refine AO func388 ntmps388 λE=>?_;simp only[Ae,Ag];refine gz ?_;refine Be (Gp (l0:=i) (h0:=i+1) (m0:=i+m+1) rfl (.some rfl Af rfl) (.some rfl Af Af) (.some rfl Af rfl) (λ_=>rfl) Af Af Af rfl rfl rfl) ?_;refine gz ?_;refine Ct [6] 8 ([]) ?_;refine pz ?_;apply EI
 ·exact Gp (l0:=0) (h0:=i) (m0:=cap) (off':=0) (n':=i) (c':=cap) rfl (.none) (.some rfl Af rfl) (.none) (by simp) Af Af Af (by simp) Af Af
 ·rfl
 ·rfl
 ·rfl
 refine pz ?_;apply EI
 ·exact Gp (l0:=i+1) (h0:=i+m+1) (m0:=cap) (off':=off') (n':=m) rfl (.some rfl Af Af) (.none) (.none) (by simp) Af Af Af hoff Af rfl
 ·rfl
 ·rfl
 ·rfl
 refine pz ?_;apply CX
 ·apply V3 (news:=B) (cl:=τ cur) (cur:=τ cur)
  ·rfl
  ·rfl
  ·exact Al
  ·intro j u hj;have lC:=(Aw.1 hj).1;rw[<-hoff,Ab Af,AF,<-hcur,AH (by simp;omega),AW (by simp;omega),show 0+(i+1)*9+j-(A++W).length=j by rw[Ah,hA,hW];omega];exact hj
  ·exact hB
  ·exact xS
  ·omega
  ·rw[hB];simp only[Bz];omega
 ·rfl
 ·rfl
 ·rfl
 ·intro _ _ _ c hc;cases hc
 rintro _ _ ⟨rfl,rfl⟩;have e1:(τ cur).toList.take (i*9)++B++(τ cur).toList.drop (i*9+B.length)=A++B++T:=by rw[hB];show cur.take (i*9)++B++cur.drop (i*9+m*9)=_;rw[rM,hT]
 rw[e1];refine pz ?_;refine gz ?_;refine Be (Gp (l0:=i+m) (h0:=i+m+1) (m0:=cap) (off':=i*9+m*9) (n':=1) rfl (.some rfl Af rfl) (.some rfl Af rfl) (.none) (by simp) Af Af Af (by rw[Ab Af];omega) Af rfl) ?_;refine gz ?_;have AbQ:(A++B).length=i*9+m*9:=by rw[Ah];omega
 have eS:Dc (τ (A++B++T)) (i*9+m*9) (List.replicate 1 qY).flatten=τ (A++B++(qY++T.drop 9)):=by rw[<-AbQ];have:=setFrom_mid (List.replicate 1 qY).flatten (A++B) (T.take 9) (T.drop 9) (by rw[C4];show 9=_;omega);rw[Am (A++B),Cs] at this;rw[this];show _=τ (A++B++(qY++List.drop 9 T));rw[Am (A++B)];rfl
 apply Nk
 ·apply eU (zs:=qY) (cs:=τ (A++B++T))
  ·rfl
  ·omega
  ·simp[Value.oneCell']
  ·rw[eS];exact .here
  ·simp;omega
 ·rfl
 ·rfl
 rintro _ _ ⟨rfl,rfl⟩;refine gz ?_;refine BF [] rfl .refl Ba ⟨[(gb,_)],⟨Af,.inr ⟨gb,cap,qY++T.drop 9,rfl,rfl,Af,Vn,?_⟩⟩,rfl⟩;rw[Ah,AbQ,Ah,DR];show i*9+m*9+(9+(T.length-9))=_;omega
theorem cP(X:Ac)(v:Value)(i m:Nat)(A W B:Ap)(hA:A.length=i*9)(hW:W.length=9)(hB:B.length=m*9)(xS: ∀u∈B,u.oneCell'=true)(cs F:Ac)(h:OwnSl 100 9 v (i+m+1) (A++W++B) cs)(hn:i+m<=90000):
 Fn prog 388 [v,ι (i:Nat),ι ((i:Int)+1)] (X++(cs++F)) λr l'=> ∃cs',OwnSl 100 9 r (i+m) (A++B) cs'/\l'=X++(cs'++F):=
 Fn.re (Keep.in_mid X cs F) (ZG v i m A W B hA hW hB xS cs (X++F) h hn) λr l' ⟨c2,h2,e⟩=>⟨X++(c2++F),by rw[e];exact Keep.in_mid c2 X F,c2,h2,rfl⟩
theorem drop_any(b:Nat)(S:ArT)(lq:Ac)(hA:IsA b S lq)(id:Int)(F:Ac):
 Fn prog 366 [π b,ι id] (lq++F) λv l'=>v= ι (dropD S id).1/\ ∃DI,IsA b (dropD S id).2 DI/\l'=DI++F:=by
 have NU:=hA;have Ef:=hA.ok.len;have Yl:=s8 hA.ok id;obtain⟨Dh,v,cs,rfl,ho⟩:=hA;have cl:=Wd S.n S.g v;refine AO func366 ntmps366 λE=>?_;simp only[Ae,Ag];refine Aj ?_;refine Be (AI rfl rfl λl2 hl=>J4 b S _ NU id l2 (λc hc=>hl _ (cI hc))) ?_;unfold dropD at Yl⊢;cases hk:atO S.os id with
 |none=>rw[OK hk];refine Aj ?_;exact Bc .refl ⟨rfl,_,NU,rfl⟩
 |some k=>rw[OM hk];rw[hk] at Yl;obtain⟨o,Gc,_⟩:=atO_some hk;have aB:=(Aw.1 Gc).1;have eg:=ho;rw[jl Gc,show S.os.length=k+(S.os.length-k-1)+1 by omega] at eg;refine Aj ?_;refine AP (Az rfl rfl (cP [TY b S.n S.g v] v k (S.os.length-k-1) (ocs (S.os.take k)) (obC o) (ocs (S.os.drop (k+1))) (by rw[OJ,C4];omega) rfl (by rw[OJ,DR];omega) (fh _) cs F eg Af)) ?_;rintro v' _ ⟨c2,F0,rfl⟩;have Js:v'.oneCell'=true:=F0.one;simp only[Ae,Ag];refine Aj ?_;refine Nk (Dy (b:=b) (off:=65) (cs:=τ (Y9 S.n S.g v)) rfl rfl Js (by rw[Za];exact D1) (by rw[Bz,Xq];omega)) rfl rfl ?_;rintro _ _ ⟨rfl,rfl⟩;refine Aj ?_;refine Bc .refl ⟨rfl,TY b S.n S.g v'::c2,⟨Yl,v',c2,rfl,?_⟩,rfl⟩;show OwnSl 100 9 v' (S.os.eraseIdx k).length (ocs (S.os.eraseIdx k)) c2;rw[jk _ _ aB,Nr,Ah,C4,DR,show min k S.os.length+(S.os.length-(k+1))=k+(S.os.length-k-1) by omega];exact F0
theorem mark_any(b:Nat)(S:ArT)(lq:Ac)(hA:IsA b S lq)(id m:Int)(F:Ac):
 Fn prog 285 [π b,ι id,ι m] (lq++F) λv l'=>v= ι (markD' S id m).1/\ ∃DI,IsA b (markD' S id m).2 DI/\l'=DI++F:=by
 have NU:=hA;have Ef:=hA.ok.len;have Yl:=s9 hA.ok id m;obtain⟨Dh,v,cs,rfl,ho⟩:=hA;have cl:=Wd S.n S.g v;refine AO func285 ntmps285 λE=>?_;simp only[Ae,Ag];refine Aj ?_;refine Be (AI rfl rfl λl2 hl=>J4 b S _ NU id l2 (λc hc=>hl _ (cI hc))) ?_;cases hk:atO S.os id with
 |none=>rw[OK hk];refine Aj ?_;exact BF [] rfl .refl Ba ⟨by rw[WA hk];rfl,_,by rw[WA hk];exact NU,rfl⟩
 |some k=>
  rw[OM hk];obtain⟨o,Gc,_⟩:=atO_some hk;have aB:=(Aw.1 Gc).1;rcases ho.2 with⟨_,h0,_⟩|⟨gb,cap,sp,rfl,rfl,im,Vn,N5⟩
  ·omega
  have c1:(τ (ocs S.os++sp))[k*9+1]?=some (ι o.kd):=P9 Gc sp 1 Af;have c4:(τ (ocs S.os++sp))[k*9+4]?=some (ι o.fr):=P9 Gc sp 4 Af;simp only[Ae,Ag];by_cases h1:o.kd=1
  ·by_cases h2:m<0
   ·refine Aj ?_;have e:=nT (m:=m) hk Gc h1 (.inl h2);exact BF [] rfl .refl Ba ⟨by rw[e];rfl,_,by rw[e];exact NU,rfl⟩
   by_cases h3:m>o.fr
   ·refine Aj ?_;have e:=nT hk Gc h1 (.inr h3);exact BF [] rfl .refl Ba ⟨by rw[e];rfl,_,by rw[e];exact NU,rfl⟩
   refine Aj ?_;have hs:=S7 (o':=setMa o m) Gc sp 5 (ι m) Af rfl;refine Nk (Dy (b:=gb) (off:=k*9+5) (cs:=τ (ocs S.os++sp)) rfl rfl rfl (by rw[hs];exact D1) (by rw[Bz,Ah,OJ];omega)) rfl rfl ?_;rintro _ _ ⟨rfl,rfl⟩;refine Aj ?_;have e:=yW (m:=m) hk Gc h1 Af;rw[e] at Yl⊢;exact Bc .refl ⟨rfl,[TY b S.n S.g (.slice (some ⟨gb,0,none⟩) S.os.length cap),(gb,.cells (τ (ocs (S.os.set k (setMa o m))++sp)) 100 (0,0))],fI Yl im Vn N5,rfl⟩
  ·refine Aj ?_;have e:=yV (m:=m) hk Gc h1;exact BF [] rfl .refl Ba ⟨by rw[e];rfl,_,by rw[e];exact NU,rfl⟩
theorem place_any(b:Nat)(S:ArT)(lq:Ac)(hA:IsA b S lq)(id s p w:Int)(F:Ac):
 Fn prog 295 [π b,ι id,ι s,ι p,ι w] (lq++F) λv l'=>v= ι (placeD S id s p w).1/\ ∃DI,IsA b (placeD S id s p w).2 DI/\l'=DI++F:=by
 have NU:=hA;have Ef:=hA.ok.len;have Yl:=nS hA.ok id s p w;obtain⟨Dh,v,cs,rfl,ho⟩:=hA;have cl:=Wd S.n S.g v;refine AO func295 ntmps295 λE=>?_;simp only[Ae,Ag];refine Aj ?_;refine Be (AI rfl rfl λl2 hl=>J4 b S _ NU id l2 (λc hc=>hl _ (cI hc))) ?_;cases hk:atO S.os id with
 |none=>
  rw[OK hk];by_cases z1:s=0<;>by_cases z2:p=0;all_goals
   refine Aj ?_;exact BF [] rfl .refl Ba ⟨by rw[Ux hk];rfl,_,by rw[Ux hk];exact NU,rfl⟩
 |some k=>
  rw[OM hk];obtain⟨o,Gc,_⟩:=atO_some hk;have aB:=(Aw.1 Gc).1;rcases ho.2 with⟨_,h0,_⟩|⟨gb,cap,sp,rfl,rfl,im,Vn,N5⟩
  ·omega
  have c1:(τ (ocs S.os++sp))[k*9+1]?=some (ι o.kd):=P9 Gc sp 1 Af;simp only[Ae,Ag];by_cases h1:o.kd=4
  case neg=>
   have e:=tc (s:=s) (p:=p) (v:=w) hk Gc h1;by_cases z1:s=0<;>by_cases z2:p=0;all_goals
    refine Aj ?_;exact BF [] rfl .refl Ba ⟨by rw[e];rfl,_,by rw[e];exact NU,rfl⟩
  have Nc:=S7 (o':={o with se:=s}) Gc sp 6 (ι s) Af rfl;have g1:(S.os.set k {o with se:=s})[k]?=some {o with se:=s}:=by rw[Ee aB]
  have Ol:=S7 (o':={o with se:=s,pg:=p}) g1 sp 7 (ι p) Af rfl;have g2:((S.os.set k {o with se:=s}).set k {o with se:=s,pg:=p})[k]?=some {o with se:=s,pg:=p}:=by rw[Ee (by rw[CE];exact aB)]
  have R6:=S7 (o':=setPl o s p w) g2 sp 8 (ι w) Af rfl;rw[Jr] at Ol R6;rw[Jr] at R6;by_cases hp:Tb s p w
  case neg=>
   have e:=tf hk Gc h1 hp;have hN1:¬(s=0/\p=0/\w=0):=λh=>hp (.inl h);have hN2:s<1\/16777215<s\/p<0\/512<=p\/w<1\/2<w:=by
    by_cases z:s<1\/16777215<s\/p<0\/512<=p\/w<1\/2<w
    ·exact z
    ·exact absurd (.inr Af) hp
   clear hp;by_cases z1:s=0
   ·by_cases z2:p=0
    ·have z3:¬w=0:=λh=>hN1 ⟨z1,z2,h⟩;refine Aj ?_;rw[Av z3,Hy];refine Aj ?_;exact BF [] rfl .refl Ba ⟨by rw[e];rfl,_,by rw[e];exact NU,rfl⟩
    ·refine Aj ?_;exact BF [] rfl .refl Ba ⟨by rw[e];rfl,_,by rw[e];exact NU,rfl⟩
   by_cases z4:s<1
   case pos=>refine Aj ?_;exact BF [] rfl .refl Ba ⟨by rw[e];rfl,_,by rw[e];exact NU,rfl⟩
   by_cases z5:s>16777215
   case pos=>refine Aj ?_;exact BF [] rfl .refl Ba ⟨by rw[e];rfl,_,by rw[e];exact NU,rfl⟩
   by_cases z6:p<0
   case pos=>refine Aj ?_;exact BF [] rfl .refl Ba ⟨by rw[e];rfl,_,by rw[e];exact NU,rfl⟩
   by_cases z7:p>=512
   case pos=>refine Aj ?_;exact BF [] rfl .refl Ba ⟨by rw[e];rfl,_,by rw[e];exact NU,rfl⟩
   by_cases z8:w<1
   case pos=>refine Aj ?_;exact BF [] rfl .refl Ba ⟨by rw[e];rfl,_,by rw[e];exact NU,rfl⟩
   have z9:w>2:=by omega
   refine Aj ?_;exact BF [] rfl .refl Ba ⟨by rw[e];rfl,_,by rw[e];exact NU,rfl⟩
  have e:=tg hk Gc h1 hp;rw[e] at Yl⊢;rcases hp with⟨z1,z2,z3⟩|z1
  case' inl=>
   refine Aj ?_;rw[Aq z3,Bool.not_true]
  all_goals
   refine Aj ?_;refine Ct [20,23,26] 27 ([TY b S.n S.g (.slice (some ⟨gb,0,none⟩) S.os.length cap)]) ?_ (hR:=(Da (.head _)));refine BJ ?_;apply HL
   ·exact Dy (b:=gb) (off:=k*9+6) (cs:=τ (ocs S.os++sp)) rfl rfl rfl (by rw[Nc];exact D1) (by rw[Bz,Ah,OJ];omega)
   ·rfl
   ·rfl
   ·rintro _ _ ⟨rfl,rfl⟩ c hc;cases hc with
    |head=>exact .head _
    |tail _ h=>cases h
   ·exact λ_ _ _ x hx ha=>Dk Bu hx ha
   rintro _ _ ⟨rfl,rfl⟩;refine BJ ?_;apply HL
   ·exact Dy (b:=gb) (off:=k*9+7) (cs:=τ (ocs (S.os.set k {o with se:=s})++sp)) rfl rfl rfl (by rw[Ol];exact D1) (by rw[Bz,Ah,OJ,CE];omega)
   ·rfl
   ·rfl
   ·rintro _ _ ⟨rfl,rfl⟩ c hc;cases hc with
    |head=>exact .head _
    |tail _ h=>cases h
   ·exact λ_ _ _ x hx ha=>Dk Bu hx ha
   rintro _ _ ⟨rfl,rfl⟩;refine BJ ?_;apply HL
   ·exact Dy (b:=gb) (off:=k*9+8) (cs:=τ (ocs (S.os.set k {o with se:=s,pg:=p})++sp)) rfl rfl rfl (by rw[R6];exact D1) (by rw[Bz,Ah,OJ,CE];omega)
   ·rfl
   ·rfl
   ·rintro _ _ ⟨rfl,rfl⟩ c hc;cases hc with
    |head=>exact .head _
    |tail _ h=>cases h
   ·exact λ_ _ _ x hx ha=>Dk Bu hx ha
   rintro _ _ ⟨rfl,rfl⟩;refine BJ ?_;refine Aj ?_;exact Bc .refl ⟨rfl,[TY b S.n S.g (.slice (some ⟨gb,0,none⟩) S.os.length cap),(gb,.cells (τ (ocs (S.os.set k (setPl o s p w))++sp)) 100 (0,0))],fI Yl im Vn N5,rfl⟩
end Ar
abbrev iV(x:Int):Value:= ι x
abbrev Fy(s:Ch):Value:= .agg (τ (Cd s))
abbrev Vs(c:CapT):Value:= .agg (τ (Cb c))
abbrev obV(o:Ar.ObT):Value:= .agg (τ (Ar.obC o))
abbrev DJ(S:KT)(id:Int):Th.ThT:=(Th.findH S.T id).getD Th.thZ
theorem IsK.tO(h:IsK F C k S p s)(id:Int):TW (DJ S id):=by
 unfold DJ;cases hf:Th.findH S.T id with
 |none=>exact⟨G8,G8⟩
 |some t=>exact(h.tw t (Th.findH_some hf).1).1
theorem IsK.tM(h:IsK F C k S p s)(hi:(Th.findH S.T id).isSome=true):Th.mayH (DJ S id)=true/\(DJ S id).id=id:=by
 unfold DJ;cases hf:Th.findH S.T id with
 |none=>rw[hf] at hi;cases hi
 |some t=>exact⟨(h.tw t (Th.findH_some hf).1).2,(Th.findH_some hf).2⟩
theorem IsK.tG(h:IsK F C k S p s)(id:Int):(0<=(DJ S id).gv/\(DJ S id).gv<=4096)/\0<=(DJ S id).inn/\(DJ S id).inn<=4096:=by
 cases hi:(Th.findH S.T id).isSome with
 |true=>have:=(h.tM hi).1;unfold Th.mayH at this;simp only[AM,A3] at this;omega
 |false=>
  have:DJ S id=Th.thZ:=by
   unfold DJ;cases hf:Th.findH S.T id with
   |none=>rfl
   |some t=>rw[hf] at hi;cases hi
  rw[this];exact⟨⟨by decide,by decide⟩,by decide,by decide⟩
section
theorem IsK.small(h:IsK F C k S p s): ∃m,m+k<=900/\InvH S.H m/\S.H.1.length<=2000/\S.H.2.length<=1000:=let⟨m,h1,h2⟩:=h.inv;⟨m,h1,h2,(h2.small Af).1,(h2.small Af).2.1⟩
theorem IsK.el9(h:IsK F C k S p s): ∀x,x∈S.E->x.2.1.length<=1000000:=λx hx=>by have:=h.el x hx;omega
theorem IsK.ql9(h:IsK F C k S p s): ∀n,n<8->(S.Q n).length<=1000000:=λx hx=>by have:=h.ql x hx;omega
instance[h:IsK F C k S p s]{id:Int}:QF prog 95 [pV p.t,ι id] (AA b p s S G) (.tuple #[Th.thV (DJ S id),.bool (Th.findH S.T id).isSome]):=⟨λl hl=>Th.get_any p.t S.T s.T h.th id l (mT hl)⟩
instance[h:IsK F C k S p s]{id:Int}:QF prog 260 [pV p.t,ι id] (AA b p s S G) (iV (Th.serverD S.T id)):=⟨λl hl=>Th.server_any p.t S.T s.T h.th (by have:=h.tl;omega) id l (mT hl)⟩
instance[h:IsK F C k S p s]{id:Int}:QF prog 112 [pV p.a,ι id] (AA b p s S G) (.tuple #[obV (Ar.getD' S.A id).1,.bool (Ar.getD' S.A id).2]):=⟨λl hl=>Ar.get_any p.a S.A s.A h.ar id l (mA hl)⟩
instance[h:IsK F C k S p s]{f:Int}:QF prog 181 [pV p.a,ι f] (AA b p s S G) (iV (Ar.nextD S.A f)):=⟨λl hl=>Ar.next_any p.a S.A s.A h.ar f l (mA hl)⟩
instance[h:IsK F C k S p s]{x:Ch}:QF prog 165 [pV p.h,Fy x] (AA b p s S G) (.tuple #[Vs (getD' S.H.1 x).1,iV (getD' S.H.1 x).2]):=⟨λl hl=>JB p.h S.H s.H h.ho x l (mH hl)⟩
instance[h:IsK F C k S p s]{i j:Int}:QF prog 165 [pV p.h,.agg (τ [ι i,ι j])] (AA b p s S G) (.tuple #[Vs (getD' S.H.1 (i,j)).1,iV (getD' S.H.1 (i,j)).2]):=⟨λl hl=>JB p.h S.H s.H h.ho (i,j) l (mH hl)⟩
theorem IsH.ulen{n:Nat}{H:HS}{lq:Ac}(hq:IsH b H lq)(hI:InvH H n)(hn:n<=1000):(CI H.1).length<=32000:=by obtain⟨bs,bt,ls,lt,hb⟩:=hq;have h1:=Wq λx hx=>(hb.s.sz x hx).2;have h2:=(hI.small hn).1;omega
instance[h:IsK F C k S p s]{x:Ch}:QF prog 326 [pV p.h,Fy x] (AA b p s S G) (.bool (J8 S.H x)):=⟨λl hl=>let⟨m,h1,h2⟩:=h.inv;cH p.h S.H m h2 Af s.H h.ho x (by have:=IsH.ulen h.ho h2 Af;omega) l (mH hl)⟩
instance[h:IsK F C k S p s]{r:Int}:QF prog 166 [pV p.n,ι r] (AA b p s S G) (.tuple #[iV (As.ofP S.N r).1,iV (As.ofP S.N r).2.1,.bool (As.ofP S.N r).2.2]):=⟨λl hl=>As.of_any p.n S.N r l (mN hl)⟩
instance[h:IsK F C k S p s]{r:Int}:QF prog 389 [pV p.n,ι r] (AA b p s S G) (.tuple #[iV (As.rootP S.N r).1,iV (As.rootP S.N r).2.1,.bool (As.rootP S.N r).2.2]):=⟨λl hl=>As.root_any p.n S.N r l (mN hl)⟩
instance[h:IsK F C k S p s]:QF prog 102 [pV p.q] (AA b p s S G) (.tuple #[iV (Qu.firstQ S.Q).1,.bool (Qu.firstQ S.Q).2]):=⟨λl hl=>Qu.first_any p.q S.Q s.Q h.qu l (mQ hl)⟩
end
section
variable{x:Value}
theorem lfT{T':Th.TL}(hK:IsK F C k S p s)(hl:T'.length+k'<=900)(hw: ∀t,t∈T'->TW t/\Th.mayH t=true)(hk:k'<=k)(h: ∀G,Fn prog f vs (s.T++G) λv l'=>v=x/\ ∃DI,Th.IsX p.t T' DI/\l'=DI++G):Fn prog f vs (AA b p s S G) (KK F C b p k' x {S with T:=T'} G):=
 Fn.re (.of_perm (by unfold AA;exact BV)) (h (CH b p::As.asA p.n S.N::(s.M++(s.C++(s.A++(s.H++(s.Q++(s.E++(s.V++G))))))))) λv l' ⟨h1,q,h2,h3⟩=>⟨AA b p {s with T:=q} {S with T:=T'} G,by rw[h3];unfold AA;exact A9 [],h1,{s with T:=q},G,{hK.mono hk with th:=h2,tl:=hl,tw:=hw},.nil,rfl⟩
theorem lfA{A':Ar.ArT}(hK:IsK F C k S p s)(hk:k'<=k)(ha:A'.n=S.A.n)(hr:VH A')(h: ∀G,Fn prog f vs (s.A++G) λv l'=>v=x/\ ∃DI,Ar.IsA p.a A' DI/\l'=DI++G):Fn prog f vs (AA b p s S G) (KK F C b p k' x {S with A:=A'} G):=
 Fn.re (.of_perm (by unfold AA;exact BV)) (h (CH b p::As.asA p.n S.N::(s.M++(s.C++(s.H++(s.T++(s.Q++(s.E++(s.V++G))))))))) λv l' ⟨h1,q,h2,h3⟩=>⟨AA b p {s with A:=q} {S with A:=A'} G,by rw[h3];unfold AA;exact A9 [],h1,{s with A:=q},G,{hK.mono hk with ar:=h2,an:=ha.trans hK.an,rad:=hr},.nil,rfl⟩
theorem tu{H':HS}(hK:IsK F C k S p s)(hk:k'<=k)(hi: ∀m,InvH S.H m->InvH H' (m+(k-k')))(h: ∀m G,InvH S.H m->m<=1000->Fn prog f vs (s.H++G) λv l'=>v=x/\ ∃DI,IsH p.h H' DI/\l'=DI++G):Fn prog f vs (AA b p s S G) (KK F C b p k' x {S with H:=H'} G):=by obtain⟨m,h1,h2⟩:=hK.inv;exact Fn.re (.of_perm (by unfold AA;exact BV)) (h m (CH b p::As.asA p.n S.N::(s.M++(s.C++(s.A++(s.T++(s.Q++(s.E++(s.V++G)))))))) h2 Af) λv l' ⟨g1,q,g2,g3⟩=>⟨AA b p {s with H:=q} {S with H:=H'} G,by rw[g3];unfold AA;exact A9 [],g1,{s with H:=q},G,{hK.mono hk with ho:=g2,inv:=⟨_,Af,hi m h2⟩},.nil,rfl⟩
theorem lfQ{Q':Nat->A8}(hK:IsK F C k S p s)(hk:k'<=k)(hl: ∀n,n<8->(Q' n).length<=(S.Q n).length+(k-k'))(h: ∀G,Fn prog f vs (s.Q++G) λv l'=>v=x/\ ∃DI,Qu.IsQ p.q Q' DI/\l'=DI++G):Fn prog f vs (AA b p s S G) (KK F C b p k' x {S with Q:=Q'} G):=
 Fn.re (.of_perm (by unfold AA;exact BV)) (h (CH b p::As.asA p.n S.N::(s.M++(s.C++(s.A++(s.H++(s.T++(s.E++(s.V++G))))))))) λv l' ⟨h1,q,h2,h3⟩=>⟨AA b p {s with Q:=q} {S with Q:=Q'} G,by rw[h3];unfold AA;exact A9 [],h1,{s with Q:=q},G,{hK.mono hk with qu:=h2,ql:=λn hn=>by have:=hl n hn;have:=hK.ql n hn;show(Q' n).length+k'<=900;omega},.nil,rfl⟩
theorem lfE{E':En.DE}(hK:IsK F C k S p s)(hk:k'<=k)(hl: ∀y,y∈E'->y.2.1.length+k'<=900)(ho: ∀t,En.OneAt E' t)(h: ∀G,Fn prog f vs (s.E++G) λv l'=>v=x/\ ∃DI,En.IsE p.e E' DI/\l'=DI++G):Fn prog f vs (AA b p s S G) (KK F C b p k' x {S with E:=E'} G):=
 Fn.re (.of_perm (by unfold AA;exact BV)) (h (CH b p::As.asA p.n S.N::(s.M++(s.C++(s.A++(s.H++(s.T++(s.Q++(s.V++G))))))))) λv l' ⟨h1,q,h2,h3⟩=>⟨AA b p {s with E:=q} {S with E:=E'} G,by rw[h3];unfold AA;exact A9 [],h1,{s with E:=q},G,{hK.mono hk with en:=h2,el:=hl,eo:=ho},.nil,rfl⟩
theorem lfN{N':As.ASt}(hK:IsK F C k S p s)(hk:k'<=k)(hg: ∀n,n<32->0<=N'.given n/\N'.given n+k'<=900)(h: ∀G,Fn prog f vs (As.asA p.n S.N::G) λv l'=>v=x/\l'=As.asA p.n N'::G):Fn prog f vs (AA b p s S G) (KK F C b p k' x {S with N:=N'} G):=
 Fn.re (.of_perm (by unfold AA;exact BV)) (h (CH b p::(s.M++(s.C++(s.A++(s.H++(s.T++(s.Q++(s.E++(s.V++G)))))))))) λv l' ⟨h1,h2⟩=>⟨AA b p s {S with N:=N'} G,by rw[h2];unfold AA;exact A9 [],h1,_,G,{hK.mono hk with giv:=hg},.nil,rfl⟩
end
section
theorem nZ(L:Th.TL)(t:Th.ThT):(Th.setD L t).2.length=L.length:=by unfold Th.setD Th.putH;split<;>simp
theorem n7(L:Th.TL)(t:Th.ThT):(Th.insH L t).length=L.length+1:=by unfold Th.insH;have:=BM List.length (Ci (p:=λx:Th.ThT=>decide (x.id<t.id)) (l:=L));simp only[Ah,By] at this⊢;omega
abbrev TWs(L:Th.TL):Prop:= ∀t,t∈L->TW t/\Th.mayH t=true
theorem yZ{L:Th.TL}{t:Th.ThT}(h:TWs L)(ht:TW t)(hu:u∈(Th.setD L t).2):TW u/\Th.mayH u=true:=by
 unfold Th.setD Th.putH at hu
 split at hu
 ·rename_i hm;obtain⟨y,hy,rfl⟩:=Ax.1 hu
  split
  ·exact⟨ht,hm.2⟩
  ·exact h y hy
 ·exact h u hu
theorem y0{L:Th.TL}(h:TWs L)(hu:u∈(Th.addD L id).2):TW u/\Th.mayH u=true:=by
 unfold Th.addD at hu
 split at hu
 ·exact h u hu
 rename_i h1
 split at hu
 ·exact h u hu
 unfold Th.insH at hu;rcases AB.1 hu with hu|hu
 ·exact h u (List.takeWhile_subset _ hu)
 ·rcases Au.1 hu with rfl|hu
  ·exact⟨⟨G8,G8⟩,by unfold Th.mayH;simp;omega⟩
  ·exact h u (List.dropWhile_subset _ hu)
theorem tv{L:Th.TL}(h:TWs L)(hu:u∈(Th.dropD L id).2):TW u/\Th.mayH u=true:=by
 unfold Th.dropD at hu
 split at hu
 ·exact h u (Cr.1 hu).1
 ·exact h u hu
instance{t:Th.ThT}[ht:TW t]:EK prog F C b p 96 [pV p.t,Th.thV t] k S k (iV (Th.setD S.T t).1) {S with T:=(Th.setD S.T t).2}:=⟨λs G h=>lfT h (by rw[nZ];exact h.tl) (λu hu=>yZ h.tw ht hu) (Bf _) λG=>Th.set_any p.t S.T s.T h.th t G⟩
instance{id:Int}:EK prog F C b p 367 [pV p.t,ι id] k S k (iV (Th.dropD S.T id).1) {S with T:=(Th.dropD S.T id).2}:=⟨λs G h=>lfT h (by have:=h.tl;have:=Db (λx:Th.ThT=>decide (x.id≠id)) S.T;unfold Th.dropD;split<;>(simp only;omega)) (λu hu=>tv h.tw hu) Af λG=>Th.drop_any p.t S.T s.T h.th id G⟩
theorem XI{X:Nat->A8}{q:Nat}{Y:A8}(h:Y.length<=(X q).length+m)(n:Nat):(Qu.upd X q Y n).length<=(X n).length+m:=by
 unfold Qu.upd;split
 ·rename_i e;subst e;exact h
 ·omega
instance{id pr:Int}:EK prog F C b p 151 [pV p.q,ι id,ι pr] (k+1) S k (iV (Qu.addQ S.Q id pr).1) {S with Q:=(Qu.addQ S.Q id pr).2}:=⟨λs G h=>lfQ h Af (λn _=>by unfold Qu.addQ;(repeat' split);all_goals first|(exact XI (by rw[Ah,Bk];omega) n)|(simp only;omega)) λG=>Qu.add_any p.q S.Q s.Q id pr h.qu h.ql9 G⟩
instance{id:Int}:EK prog F C b p 152 [pV p.q,ι id] k S k (.bool (Qu.dropQ S.Q id).1) {S with Q:=(Qu.dropQ S.Q id).2}:=⟨λs G h=>lfQ h Af (λn _=>by unfold Qu.dropQ;split;exact XI (by rw[Gm];split<;>omega) n;simp) λG=>Qu.drop_any p.q S.Q s.Q id h.qu h.ql9 G⟩
theorem n8(X:Nat->A8)(id:Int)(n:Nat):((Qu.backQ X id).2 n).length<=(X n).length:=by
 unfold Qu.backQ
 split
 ·rename_i q hq;have hm:id∈X q:=by unfold Qu.findP at hq;simpa using Eb hq
  have hi:=Hq hm;refine XI (m:=0) ?_ n;rw[Ah,Gm,Ad hi,Bk];omega
 ·simp
instance{id:Int}:EK prog F C b p 302 [pV p.q,ι id] k S k (.bool (Qu.backQ S.Q id).1) {S with Q:=(Qu.backQ S.Q id).2}:=⟨λs G h=>lfQ h Af (λn _=>by have:=n8 S.Q id n;omega) λG=>Qu.back_any p.q S.Q s.Q id h.qu h.ql9 G⟩
theorem tz(h:En.OneAt D t):En.OneAt (En.addD D id).2 t:=by
 unfold En.addD
 repeat' split
 ·exact h
 ·exact h
 ·intro x y hx hy h1 h2;rcases AB.1 hx with hx|hx
  ·rcases AB.1 hy with hy|hy
   ·exact h x y hx hy h1 h2
   ·rw[Ay.1 hy] at h2;cases h2
  ·rw[Ay.1 hx] at h1;cases h1
instance{id:Int}:EK prog F C b p 141 [pV p.e,ι id] k S k (iV (En.addD S.E id).1) {S with E:=(En.addD S.E id).2}:=⟨λs G h=>lfE h Af (λy hy=>by
 have h9:=h.tl;unfold En.addD at hy
 split at hy
 ·exact h.el y hy
 split at hy
 ·exact h.el y hy
 rcases AB.1 hy with hy|hy
 ·exact h.el y hy
 ·rw[Ay.1 hy];simp;omega) (λt=>tz (h.eo t)) λG=>En.add_any p.e S.E s.E id h.en G⟩
theorem fM(h:En.OneAt D t)(hY:t∈Y.1-> ∀x,x∈D->t∈x.2.1->x.1=id):En.OneAt (En.updD D id Y) t:=by
 have key: ∀x,x∈En.updD D id Y->t∈x.2.1->(∃y,y∈D/\y.1=x.1/\t∈y.2.1)\/(x.1=id/\t∈Y.1):=λx hx ht=>by
  obtain⟨y,hy,rfl⟩:=Ax.1 hx
  split at ht
  ·rename_i e;rw[Ad e];exact .inr ⟨e,ht⟩
  ·rename_i e;rw[Ab e];exact .inl ⟨y,hy,rfl,ht⟩
 intro x y hx hy h1 h2;rcases key x hx h1 with⟨a,a1,a2,a3⟩|⟨a2,a3⟩<;>rcases key y hy h2 with⟨c,c1,c2,c3⟩|⟨c2,c3⟩
 ·rw[<-a2,<-c2];exact h a c a1 c1 a3 c3
 ·rw[<-a2,c2];exact hY c3 a a1 a3
 ·rw[<-c2,a2];exact(hY a3 c c1 c3).symm
 ·rw[a2,c2]
theorem fO(h: ∀x,x∈D->x.2.1.length<=m)(hY:Y.1.length<=m): ∀x,x∈En.updD D id Y->x.2.1.length<=m:=λx hx=>by
 obtain⟨y,hy,rfl⟩:=Ax.1 hx
 split
 ·exact hY
 ·exact h y hy
theorem ZH(h:En.findD D id=some Y):(id,Y)∈D:=by
 unfold En.findD at h;obtain⟨x,h1,rfl⟩:=Ed.1 h;have:=Eb h1;have e:x.1=id:=by simpa using this
 rw[<-e];exact BE h1
instance{id t:Int}{sd:Bool}:EK prog F C b p 264 [pV p.e,ι id,ι t,.bool sd] (k+1) S k (iV (En.waitD S.E id t sd).1) {S with E:=(En.waitD S.E id t sd).2}:=⟨λs G h=>lfE h Af (λy hy=>by
 have h9:=λy hy=>h.el y hy;unfold En.waitD at hy
 split at hy
 ·have:=h9 y hy;omega
 rename_i x hx
 split at hy
 ·have:=h9 y hy;omega
 split at hy
 ·have:=h9 y hy;omega
 split at hy
 ·have:=h9 y hy;omega
 have:=fO (m:=900-k) (λx hx=>by have:=h9 x hx;omega) (by have:=h9 _ (ZH hx);simp at this⊢;omega) y hy;have:=h.tl;omega) (λu=>by
 unfold En.waitD
 split
 ·exact h.eo u
 rename_i x hx
 repeat' split
 any_goals exact h.eo u
 rename_i hn _;refine fM (h.eo u) λhu y hy Tw=>?_;rcases AB.1 hu with hu|hu
 ·exact h.eo u y _ hy (ZH hx) Tw hu
 ·rw[Ay] at hu;subst hu;exact absurd (Ia.2 ⟨y,hy,by simpa using Tw⟩) hn) λG=>En.wait_any p.e S.E s.E id t sd h.en h.el9 G⟩
end
theorem UE(b:Nat)(p:RP)(l:Ac)(hm:CH b p∈l):Fn prog 136 [pV b] l λv l'=>v=pV p.a/\l'=l:=by refine AO func136 ntmps136 λE=>?_;exact Fd
theorem D4(b:Nat)(p:RP)(l:Ac)(hm:CH b p∈l):Fn prog 143 [pV b] l λv l'=>v=pV p.h/\l'=l:=by refine AO func143 ntmps143 λE=>?_;exact Fd
theorem LA(b:Nat)(p:RP)(l:Ac)(hm:CH b p∈l):Fn prog 146 [pV b] l λv l'=>v=pV p.n/\l'=l:=by refine AO func146 ntmps146 λE=>?_;exact Fd
theorem NJ(b:Nat)(p:RP)(l:Ac)(hm:CH b p∈l):Fn prog 94 [pV b] l λv l'=>v=pV p.t/\l'=l:=by refine AO func94 ntmps94 λE=>?_;exact Fd
def JS(R:RT)(k s f:Int):(Int×Int)×RT:=
 if(Ar.addD R.A k s f).1.2=0 then
  (((Ar.addD R.A k s f).1.1,0),⟨(Ar.addD R.A k s f).2,(if 0<Ar.slotsD k s then((Hv R.H.1 (Ar.addD R.A k s f).1.1 (Ar.slotsD k s)).2,R.H.2) else R.H),R.N,(if k=9 then(Th.addD R.T (Ar.addD R.A k s f).1.1).2 else R.T),R.Q,(if k=8 then(En.addD R.E (Ar.addD R.A k s f).1.1).2 else R.E)⟩)
 else((0,(Ar.addD R.A k s f).1.2),{R with A:=(Ar.addD R.A k s f).2})
theorem AcV(S:Ar.ArT)(k s f:Int):(Ar.addD S k s f).2.n=S.n:=by unfold Ar.addD;split<;>rfl
theorem tA{S:Ar.ArT}{k s f:Int}(h:(Ar.addD S k s f).1.2=0):0<=f/\f<=S.n-Ar.framesD k s/\1<=Ar.framesD k s:=by
 have h1:=Ar.frames_rng k s;unfold Ar.addD at h;by_cases h0:Ar.addE S k s f=0
 ·unfold Ar.addE at h0;by_cases h2:Ar.framesD k s=0
  ·rw[Ad h2] at h0;omega
  ·rw[Ab h2] at h0;by_cases h3:f<0\/f>S.n-Ar.framesD k s
   ·rw[Ad h3] at h0;omega
   ·omega
 ·rw[Ab h0] at h;exact absurd h h0
theorem IsRl.mono{R:RT}(h:IsRl F C k R p s)(hm:k<=m):IsRl F C m R p s:=
 ⟨h.mem,h.co,h.ar,h.an,h.ho,h.inv.mono hm,λn hn=>by have:=h.giv n hn;omega,h.th,h.qu,λn hn=>B9 (h.ql n hn) hm,h.en,h.cu,h.c1⟩
theorem n9(F C n:Nat)(R:RT)(b:Nat)(p:RP)(s:RL)(hR:IsRl F C n R p s)(hn:n<=900)(k z f:Int)(G:Ac):Fn prog 91 [pV b,ι k,ι z,ι f] (CD b p s R G) λv l'=>
 v= .tuple #[ι (JS R k z f).1.1,ι (JS R k z f).1.2]/\ ∃s' X,IsRl F C (n+1) (JS R k z f).2 p s'/\l'=CD b p s' (JS R k z f).2 (X++G):=by
 have hF:=hR.mem.2.1;refine AO func91 ntmps91 λE=>?_;unfold CD;refine Aj ?_;refine AP (Az rfl rfl (UE b p _ (.head _))) ?_;rintro _ _ ⟨rfl,rfl⟩;refine Aj ?_;refine Bt (l':=s.A++(CH b p::As.asA p.n R.N::(s.M++(s.C++(s.H++(s.T++(s.Q++(s.E++(s.V++G))))))))) (A9 []) ?_;refine AP (Az rfl rfl (Ar.add_any p.a R.A s.A hR.ar k z f _)) ?_;rintro _ _ ⟨rfl,lA,hA,rfl⟩;refine Bt (l':=CH b p::As.asA p.n R.N::(s.M++(s.C++(lA++(s.H++(s.T++(s.Q++(s.E++(s.V++G))))))))) (A9 []) ?_;obtain⟨id,Vp⟩: ∃x,x=(Ar.addD R.A k z f).1.1:=⟨_,rfl⟩
 obtain⟨er,her⟩: ∃x,x=(Ar.addD R.A k z f).1.2:=⟨_,rfl⟩
 have vR:(Ar.addD R.A k z f).2.n=F:=by rw[AcV];exact hR.an
 rw[<-Vp,<-her];have kP:JS R k z f=if er=0 then((id,0),(⟨(Ar.addD R.A k z f).2,(if 0<Ar.slotsD k z then((Hv R.H.1 id (Ar.slotsD k z)).2,R.H.2) else R.H),R.N,(if k=9 then(Th.addD R.T id).2 else R.T),R.Q,(if k=8 then(En.addD R.E id).2 else R.E)⟩:RT)) else((0,er),{R with A:=(Ar.addD R.A k z f).2}):=by unfold JS;rw[<-Vp,<-her]
 by_cases he:er=0
 ·rw[Ad he] at kP;rw[kP];obtain⟨r1,r2,r3⟩:=tA (her.symm.trans he);rw[hR.an] at r2;obtain⟨f',rfl⟩: ∃f':Nat,f=f':=⟨f.toNat,Af⟩
  obtain⟨fr,qQ⟩: ∃fr:Nat,Ar.framesD k z=fr:=⟨(Ar.framesD k z).toNat,Af⟩
  refine Aj ?_;by_cases h1:k=1
  ·have qS:Ar.slotsD k z=0:=by unfold Ar.slotsD;rw[Ab Af,Ab Af]
   have hs:¬0<Ar.slotsD k z:=by omega
   have iv:(if 0<Ar.slotsD k z then((Hv R.H.1 id (Ar.slotsD k z)).2,R.H.2) else R.H)=R.H:=Ab hs;have Ry:(if k=9 then(Th.addD R.T id).2 else R.T)=R.T:=Ab Af;have iw:(if k=8 then(En.addD R.E id).2 else R.E)=R.E:=Ab Af;rw[iv,Ry,iw];refine Aj ?_;refine AP (Az rfl rfl (Ar.slots_any k z _)) ?_;rintro _ _ ⟨rfl,rfl⟩;refine Aj ?_;refine Aj ?_;refine Bc (l':=CD b p ⟨s.M,s.C,lA,s.H,s.T,s.Q,s.E,s.V⟩ ⟨(Ar.addD R.A k z (f':Nat)).2,R.H,R.N,R.T,R.Q,R.E⟩ (([])++G)) (by unfold CD;exact A9 []) ?_;refine⟨rfl,⟨s.M,s.C,lA,s.H,s.T,s.Q,s.E,s.V⟩,[],?_,rfl⟩;exact⟨hR.mem,hR.co,hA,vR,hR.ho,hR.inv.mono Af,λj hj=>by have:=hR.giv j hj;simp only;omega,hR.th,hR.qu,λj hj=>B9 (hR.ql j hj) Af,hR.en,hR.cu,hR.c1⟩
  refine Aj ?_;refine Eh (l':=s.M++(CH b p::As.asA p.n R.N::(s.C++(lA++(s.H++(s.T++(s.Q++(s.E++(s.V++G))))))))) (A9 []) ?_;refine Ct [8] 9 ([CH b p]) ?_ (hR:=(Da (Aa _ (.head _))));refine BJ ?_;apply EI
  ·exact AI rfl rfl (λl hl=>Ar.frames_any k z l)
  ·rfl
  ·rfl
  ·rfl
  refine BJ ?_;apply CX
  ·exact Az rfl rfl (by rw[qQ];exact iM p.m F f' fr s.M hR.mem Af Af _)
  ·rfl
  ·rfl
  ·rfl
  ·rintro _ _ ⟨_,X,rfl⟩;exact Da (Aa _ (Aa _ (.head _)))
  rintro _ _ ⟨rfl,X,rfl⟩;refine BJ ?_;refine Aj ?_;refine AP (Az rfl rfl (Ar.slots_any k z _)) ?_;rintro _ _ ⟨rfl,rfl⟩;refine Aj ?_;by_cases hs:0<Ar.slotsD k z
  ·by_cases h9:k=9
   ·have iv:(if 0<Ar.slotsD k z then((Hv R.H.1 id (Ar.slotsD k z)).2,R.H.2) else R.H)=((Hv R.H.1 id (Ar.slotsD k z)).2,R.H.2):=Ad hs;have Ry:(if k=9 then(Th.addD R.T id).2 else R.T)=(Th.addD R.T id).2:=Ad Af;have iw:(if k=8 then(En.addD R.E id).2 else R.E)=R.E:=Ab Af;rw[iv,Ry,iw];refine Aj ?_;refine Bt (l':=CH b p::As.asA p.n R.N::(s.M++(s.C++(lA++(s.H++(s.T++(s.Q++(s.E++(s.V++(X++G)))))))))) (A9 []) ?_;refine Aj ?_;refine Bt (l':=s.H++(CH b p::As.asA p.n R.N::(s.M++(s.C++(lA++(s.T++(s.Q++(s.E++(s.V++(X++G)))))))))) (A9 []) ?_;refine AP (Az rfl rfl (Pq p.h R.H s.H hR.ho id (Ar.slotsD k z) _)) ?_;rintro _ _ ⟨rfl,lH,hH,rfl⟩;refine Bt (l':=CH b p::As.asA p.n R.N::(s.M++(s.C++(lA++(lH++(s.T++(s.Q++(s.E++(s.V++(X++G)))))))))) (A9 []) ?_;refine Aj ?_;refine Bt (l':=s.T++(CH b p::As.asA p.n R.N::(s.M++(s.C++(lA++(lH++(s.Q++(s.E++(s.V++(X++G)))))))))) (A9 []) ?_;refine AP (Az rfl rfl (Th.add_any p.t R.T s.T hR.th id _)) ?_;rintro _ _ ⟨rfl,lT,hT,rfl⟩;refine Aj ?_;refine Bc (l':=CD b p ⟨s.M,s.C,lA,lH,lT,s.Q,s.E,s.V⟩ ⟨(Ar.addD R.A k z (f':Nat)).2,((Hv R.H.1 id (Ar.slotsD k z)).2,R.H.2),R.N,(Th.addD R.T id).2,R.Q,R.E⟩ ((X)++G)) (by unfold CD;exact A9 []) ?_;refine⟨rfl,⟨s.M,s.C,lA,lH,lT,s.Q,s.E,s.V⟩,X,?_,rfl⟩;exact⟨hR.mem,hR.co,hA,vR,hH,hR.inv.add _ _,λj hj=>by have:=hR.giv j hj;simp only;omega,hT,hR.qu,λj hj=>B9 (hR.ql j hj) Af,hR.en,hR.cu,hR.c1⟩
   by_cases h8:k=8
   ·have iv:(if 0<Ar.slotsD k z then((Hv R.H.1 id (Ar.slotsD k z)).2,R.H.2) else R.H)=((Hv R.H.1 id (Ar.slotsD k z)).2,R.H.2):=Ad hs;have Ry:(if k=9 then(Th.addD R.T id).2 else R.T)=R.T:=Ab Af;have iw:(if k=8 then(En.addD R.E id).2 else R.E)=(En.addD R.E id).2:=Ad Af;rw[iv,Ry,iw];refine Aj ?_;refine Bt (l':=CH b p::As.asA p.n R.N::(s.M++(s.C++(lA++(s.H++(s.T++(s.Q++(s.E++(s.V++(X++G)))))))))) (A9 []) ?_;refine Aj ?_;refine Bt (l':=s.H++(CH b p::As.asA p.n R.N::(s.M++(s.C++(lA++(s.T++(s.Q++(s.E++(s.V++(X++G)))))))))) (A9 []) ?_;refine AP (Az rfl rfl (Pq p.h R.H s.H hR.ho id (Ar.slotsD k z) _)) ?_;rintro _ _ ⟨rfl,lH,hH,rfl⟩;refine Bt (l':=CH b p::As.asA p.n R.N::(s.M++(s.C++(lA++(lH++(s.T++(s.Q++(s.E++(s.V++(X++G)))))))))) (A9 []) ?_;refine Aj ?_;refine Bt (l':=s.E++(CH b p::As.asA p.n R.N::(s.M++(s.C++(lA++(lH++(s.T++(s.Q++(s.V++(X++G)))))))))) (A9 []) ?_;refine AP (Az rfl rfl (En.add_any p.e R.E s.E id hR.en _)) ?_;rintro _ _ ⟨rfl,lE,hE,rfl⟩;refine Aj ?_;refine Bc (l':=CD b p ⟨s.M,s.C,lA,lH,s.T,s.Q,lE,s.V⟩ ⟨(Ar.addD R.A k z (f':Nat)).2,((Hv R.H.1 id (Ar.slotsD k z)).2,R.H.2),R.N,R.T,R.Q,(En.addD R.E id).2⟩ ((X)++G)) (by unfold CD;exact A9 []) ?_;refine⟨rfl,⟨s.M,s.C,lA,lH,s.T,s.Q,lE,s.V⟩,X,?_,rfl⟩;exact⟨hR.mem,hR.co,hA,vR,hH,hR.inv.add _ _,λj hj=>by have:=hR.giv j hj;simp only;omega,hR.th,hR.qu,λj hj=>B9 (hR.ql j hj) Af,hE,hR.cu,hR.c1⟩
   have iv:(if 0<Ar.slotsD k z then((Hv R.H.1 id (Ar.slotsD k z)).2,R.H.2) else R.H)=((Hv R.H.1 id (Ar.slotsD k z)).2,R.H.2):=Ad hs;have Ry:(if k=9 then(Th.addD R.T id).2 else R.T)=R.T:=Ab Af;have iw:(if k=8 then(En.addD R.E id).2 else R.E)=R.E:=Ab Af;rw[iv,Ry,iw];refine Aj ?_;refine Bt (l':=CH b p::As.asA p.n R.N::(s.M++(s.C++(lA++(s.H++(s.T++(s.Q++(s.E++(s.V++(X++G)))))))))) (A9 []) ?_;refine Aj ?_;refine Bt (l':=s.H++(CH b p::As.asA p.n R.N::(s.M++(s.C++(lA++(s.T++(s.Q++(s.E++(s.V++(X++G)))))))))) (A9 []) ?_;refine AP (Az rfl rfl (Pq p.h R.H s.H hR.ho id (Ar.slotsD k z) _)) ?_;rintro _ _ ⟨rfl,lH,hH,rfl⟩;refine Aj ?_;refine Bc (l':=CD b p ⟨s.M,s.C,lA,lH,s.T,s.Q,s.E,s.V⟩ ⟨(Ar.addD R.A k z (f':Nat)).2,((Hv R.H.1 id (Ar.slotsD k z)).2,R.H.2),R.N,R.T,R.Q,R.E⟩ ((X)++G)) (by unfold CD;exact A9 []) ?_;refine⟨rfl,⟨s.M,s.C,lA,lH,s.T,s.Q,s.E,s.V⟩,X,?_,rfl⟩;exact⟨hR.mem,hR.co,hA,vR,hH,hR.inv.add _ _,λj hj=>by have:=hR.giv j hj;simp only;omega,hR.th,hR.qu,λj hj=>B9 (hR.ql j hj) Af,hR.en,hR.cu,hR.c1⟩
  ·by_cases h9:k=9
   ·have iv:(if 0<Ar.slotsD k z then((Hv R.H.1 id (Ar.slotsD k z)).2,R.H.2) else R.H)=R.H:=Ab hs;have Ry:(if k=9 then(Th.addD R.T id).2 else R.T)=(Th.addD R.T id).2:=Ad Af;have iw:(if k=8 then(En.addD R.E id).2 else R.E)=R.E:=Ab Af;rw[iv,Ry,iw];refine Aj ?_;refine Bt (l':=CH b p::As.asA p.n R.N::(s.M++(s.C++(lA++(s.H++(s.T++(s.Q++(s.E++(s.V++(X++G)))))))))) (A9 []) ?_;refine Aj ?_;refine Bt (l':=s.T++(CH b p::As.asA p.n R.N::(s.M++(s.C++(lA++(s.H++(s.Q++(s.E++(s.V++(X++G)))))))))) (A9 []) ?_;refine AP (Az rfl rfl (Th.add_any p.t R.T s.T hR.th id _)) ?_;rintro _ _ ⟨rfl,lT,hT,rfl⟩;refine Aj ?_;refine Bc (l':=CD b p ⟨s.M,s.C,lA,s.H,lT,s.Q,s.E,s.V⟩ ⟨(Ar.addD R.A k z (f':Nat)).2,R.H,R.N,(Th.addD R.T id).2,R.Q,R.E⟩ ((X)++G)) (by unfold CD;exact A9 []) ?_;refine⟨rfl,⟨s.M,s.C,lA,s.H,lT,s.Q,s.E,s.V⟩,X,?_,rfl⟩;exact⟨hR.mem,hR.co,hA,vR,hR.ho,hR.inv.mono Af,λj hj=>by have:=hR.giv j hj;simp only;omega,hT,hR.qu,λj hj=>B9 (hR.ql j hj) Af,hR.en,hR.cu,hR.c1⟩
   by_cases h8:k=8
   ·have iv:(if 0<Ar.slotsD k z then((Hv R.H.1 id (Ar.slotsD k z)).2,R.H.2) else R.H)=R.H:=Ab hs;have Ry:(if k=9 then(Th.addD R.T id).2 else R.T)=R.T:=Ab Af;have iw:(if k=8 then(En.addD R.E id).2 else R.E)=(En.addD R.E id).2:=Ad Af;rw[iv,Ry,iw];refine Aj ?_;refine Bt (l':=CH b p::As.asA p.n R.N::(s.M++(s.C++(lA++(s.H++(s.T++(s.Q++(s.E++(s.V++(X++G)))))))))) (A9 []) ?_;refine Aj ?_;refine Bt (l':=s.E++(CH b p::As.asA p.n R.N::(s.M++(s.C++(lA++(s.H++(s.T++(s.Q++(s.V++(X++G)))))))))) (A9 []) ?_;refine AP (Az rfl rfl (En.add_any p.e R.E s.E id hR.en _)) ?_;rintro _ _ ⟨rfl,lE,hE,rfl⟩;refine Aj ?_;refine Bc (l':=CD b p ⟨s.M,s.C,lA,s.H,s.T,s.Q,lE,s.V⟩ ⟨(Ar.addD R.A k z (f':Nat)).2,R.H,R.N,R.T,R.Q,(En.addD R.E id).2⟩ ((X)++G)) (by unfold CD;exact A9 []) ?_;refine⟨rfl,⟨s.M,s.C,lA,s.H,s.T,s.Q,lE,s.V⟩,X,?_,rfl⟩;exact⟨hR.mem,hR.co,hA,vR,hR.ho,hR.inv.mono Af,λj hj=>by have:=hR.giv j hj;simp only;omega,hR.th,hR.qu,λj hj=>B9 (hR.ql j hj) Af,hE,hR.cu,hR.c1⟩
   have iv:(if 0<Ar.slotsD k z then((Hv R.H.1 id (Ar.slotsD k z)).2,R.H.2) else R.H)=R.H:=Ab hs;have Ry:(if k=9 then(Th.addD R.T id).2 else R.T)=R.T:=Ab Af;have iw:(if k=8 then(En.addD R.E id).2 else R.E)=R.E:=Ab Af;rw[iv,Ry,iw];refine Aj ?_;refine Aj ?_;refine Bc (l':=CD b p ⟨s.M,s.C,lA,s.H,s.T,s.Q,s.E,s.V⟩ ⟨(Ar.addD R.A k z (f':Nat)).2,R.H,R.N,R.T,R.Q,R.E⟩ ((X)++G)) (by unfold CD;exact A9 []) ?_;refine⟨rfl,⟨s.M,s.C,lA,s.H,s.T,s.Q,s.E,s.V⟩,X,?_,rfl⟩;exact⟨hR.mem,hR.co,hA,vR,hR.ho,hR.inv.mono Af,λj hj=>by have:=hR.giv j hj;simp only;omega,hR.th,hR.qu,λj hj=>B9 (hR.ql j hj) Af,hR.en,hR.cu,hR.c1⟩
 ·rw[Ab he] at kP;rw[kP];refine Aj ?_;exact BF [] rfl (l':=CD b p ⟨s.M,s.C,lA,s.H,s.T,s.Q,s.E,s.V⟩ {R with A:=(Ar.addD R.A k z f).2} ([]++G)) (by unfold CD;exact A9 []) Ba ⟨rfl,_,_,(⟨hR.mem,hR.co,hA,vR,hR.ho,hR.inv,hR.giv,hR.th,hR.qu,hR.ql,hR.en,hR.cu,hR.c1⟩:IsRl F C n {R with A:=(Ar.addD R.A k z f).2} p ⟨s.M,s.C,lA,s.H,s.T,s.Q,s.E,s.V⟩).mono Af,rfl⟩
end Go.Proofs.YtlifcingifodfaaGreat
