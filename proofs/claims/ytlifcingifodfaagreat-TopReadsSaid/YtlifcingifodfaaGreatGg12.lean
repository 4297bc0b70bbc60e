/- Laws that the statement's proof leans on (joined out of several texts). -/
import Derived.Test.YtlifcingifodfaaGreatGg11
set_option maxHeartbeats 4000000
set_option linter.unusedVariables false
set_option linter.unusedSimpArgs false
namespace Go.Proofs.YtlifcingifodfaaGreat
open Tryz
open List(toArray)
variable{p:RP}{F C k b m f k':Nat}{s:RL}{G L l0:Ac}{id t:Int}{Γ:Ac->Ac}{D:En.DE}{vs:Ap}{u:Th.ThT}{Y:A4×Bool}
namespace Qu
open Go.RowKit
set_option maxRecDepth 20000
variable{X:Nat->A4}{p:Nat}{id:Int}
theorem first_any(b:Nat)(X:Nat->A4)(lq:Ac)(hq:IsQ b X lq)(l:Ac)(CG: ∀c,c∈lq->c∈l):
 Fn prog 102 [.pointer (some ⟨b,0,none⟩)] l λv l'=>v= .tuple #[.int .i64 (firstQ X).1,.bool (firstQ X).2]/\l'=l:=by
 obtain⟨vs,cs,OW,rfl⟩:=hq;have KF: ∀c,c∈Is cs 8->c∈l:=λc hc=>CG c (An _ hc);refine AN func102 ntmps102 λE=>?_;refine Im λb2=>?_;refine Im λb3=>?_;refine AS (Dn rfl rfl (Ot _ _)) ?_;rintro v l' ⟨B,hB,rfl,rfl⟩;refine gz ?_;refine Dg (α:=Nat) (ps:=[8,9]) (lb:=[.pointer (some ⟨B,0,none⟩)]) rfl (Rh B b vs (λp=>(X p).length) OW.shape) (λ_=>rfl) rfl
  (λpre l=>l=[(B,.cells #[.pointer (some ⟨b,0,none⟩)] 159 (0,0)),(b3,.cells #[.bool false] 4 (0,0)),(b2,.cells #[.int .i64 0] 3 (0,0))]/\pre=[])
  (λc pre l=>c= .ret/\ ∃(p:Nat),pre=[p]/\l=[(b2,.cells #[.int .i64 ((X p).headD 0)] 3 (0,0)),(b3,.cells #[.bool true] 4 (0,0))])
  _ l (λpre l2 X2 hX h=>⟨by rw[h.1];exact List.Mem.head _,Aa _ (hX _ (CG _ Ak))⟩) (by exact AW) ⟨rfl,rfl⟩ ?_ ?_ ?_
 ·rintro E r0 FU pre y l' T ⟨fn,tmps,D,rfl⟩ hT ⟨rfl,rfl⟩ Dw;have hy:=(fallT_mem _ _ _).1 (Hu Dw (Aa _ Ak));have P2:0<(X y).length:=by have:=hy.2.2;simp at this;exact List.length_pos_iff.2 this
  obtain⟨x,A3,hxr⟩: ∃x A3,X y=x::A3:=by
   cases h:X y with
   |nil=>rw[h] at P2;simp at P2
   |cons x r=>exact⟨x,r,rfl⟩
  obtain⟨a,cap,hv,hI⟩:=OW.ints y hy.2.1 (Is cs 8) (λ_ h=>h);obtain⟨gb,off,cc,t,fz,rfl,hm,hc⟩:=hI P2;have vW:cc[off+(0:Int).toNat*1]?=some (.int .i64 x):=hc 0 x (by rw[hxr];rfl);have dy: ∀c,c=(gb,Obj.cells cc t fz)->c∈T:=λc e=>by subst e;exact hT _ (KF _ hm)
  have ut:=dy _ rfl;simp only[DX,Ae,Ag];rw[hv];refine gz ?_;refine CK (by exact DY) ?_;refine gz ?_;refine Bh (DS (cs:=cc) rfl (.tail _ (.tail _ (.tail _ (.tail _ ut)))) (by simpa using vW)) ?_;refine gz ?_;refine EI [(b2,.cells #[.int .i64 x] 3 (0,0)),(b3,.cells #[.bool true] 4 (0,0))] (by exact AW) ⟨rfl,y,rfl,by rw[hxr];rfl⟩
 ·rintro D xs l' rfl ⟨rfl,Gn⟩;have hfn:fallT (neX X) 0=[]:=Gn;simp only[Ae,Ag];refine gz ?_;exact AU [D] ((b2,.cells #[.int .i64 0] 3 (0,0))::(b3,.cells #[.bool false] 4 (0,0))::l) rfl (l':=l) (by exact AW) (by exact Ba) (by exact AW) ⟨by simp[JH,firstQ,hfn],rfl⟩
 ·rintro D c pre l' Dw ⟨rfl,p,rfl,rfl⟩;have ae:firstQ X=((X p).headD 0,true):=by
   unfold firstQ;obtain⟨A3,hr⟩:=Dw;rw[show fallT (neX X) 0=[p]++A3 from hr.symm];rfl
  simp only[Ae,Ag];refine gz ?_;exact AU [D] ((b2,.cells #[.int .i64 ((X p).headD 0)] 3 (0,0))::(b3,.cells #[.bool true] 4 (0,0))::l) rfl (l':=l) (by exact AW) (by exact Ba) (by exact AW) ⟨by simp[JH,ae],rfl⟩
open Go.RowKit
set_option maxRecDepth 20000
section
variable{ro:Option Nat}{N:Nat}{fr:Fr}{d:Option Nat}{ty:TypeId}{pos:String}{aft:Array Edge}{g:Option (Nat×Bool)}
end
open Go.RowKit
set_option maxRecDepth 20000
theorem Fn.re{P:Program}{f:FuncId}{args:Ap}{l l2:Ac}{K K':Value->Ac->Prop}(k:Keep l l2)(h:Fn P f args l2 K)(hk: ∀v l',K v l'-> ∃l3,Keep l' l3/\K' v l3):Fn P f args l K':=
 ⟨λE W hs=>(h.run E W (k.sat hs)).mono λe W' he=>by obtain⟨v,l',h1,h2,h3⟩:=he;obtain⟨l3,h4,h5⟩:=hk v l' h2;exact⟨v,l3,h1,h5,h4.sat h3⟩⟩
theorem AbO{vs:Nat->Value}{cs:Nat->Ac}{b i:Nat}{F:Ac}(OW:QS X vs cs)(hp:p<8)(hi:i<(X p).length)(Eh:(X p).length<=1000000):
 Fn prog 199 [vs p,.int .i64 (i:Nat),.int .i64 ((i:Int)+1)] (qC b vs::(Is cs 8++F)) λv l'=> ∃c2,OwnSl 3 1 v ((X p).eraseIdx i).length (((X p).eraseIdx i).map CU) c2/\l'=qC b vs::(Is (upd cs p c2) 8++F):=by
 have pQ:(qC b vs::(Is cs 8++F)).Perm (cs p++(qC b vs::(Is (upd cs p []) 8++F))):=by refine(List.Perm.cons _ ((Nk cs p 8 hp).append_right F)).trans ?_;rw[Am];exact AA [qC b vs] (cs p) _
 refine Fn.re (Keep.of_perm pQ) (delete_any _ _ i hi _ _ (OW.own p hp) Eh) ?_;rintro v _ ⟨c2,ho,rfl⟩;refine⟨_,Keep.of_perm ((AA c2 [qC b vs] _).trans ?_),c2,ho,rfl⟩;refine List.Perm.cons _ ?_;show List.Perm (c2++(Is (upd cs p []) 8++F)) _;rw[<-Am];exact(VN cs p hp c2).append_right F
def dropQ(X:Nat->A4)(id:Int):Bool×(Nat->A4):=
 match findP X id with
 |some p=>(true,upd X p ((X p).eraseIdx ((X p).idxOf id)))
 |none=>(false,X)
def backQ(X:Nat->A4)(id:Int):Bool×(Nat->A4):=
 match findP X id with
 |some p=>(true,upd X p ((X p).eraseIdx ((X p).idxOf id)++[id]))
 |none=>(false,X)
theorem Y5(h:findP X id=none):jT X id=(-1,-1):=by unfold jT;rw[h]
theorem Y6(h:findP X id=some p):jT X id=(((p:Nat):Int),(((X p).idxOf id:Nat):Int)):=by unfold jT;rw[h]
theorem drop_any(b:Nat)(X:Nat->A4)(lq:Ac)(id:Int)(hq:IsQ b X lq)(hb: ∀p,p<8->(X p).length<=1000000)(F:Ac):
 Fn prog 152 [.pointer (some ⟨b,0,none⟩),.int .i64 id] (lq++F) λv l'=>v= .bool (dropQ X id).1/\ ∃DF,IsQ b (dropQ X id).2 DF/\l'=DF++F:=by
 have H:=JU b X lq id hq hb;obtain⟨vs,cs,OW,rfl⟩:=hq;refine AN func152 ntmps152 λE=>?_;cases hf:findP X id with
 |none=>
  rw[Y5 hf] at H;dsimp only at H;have e:dropQ X id=(false,X):=by unfold dropQ;rw[hf]
  rw[e];simp only[Ae];refine gz ?_;refine Bh (AL rfl rfl (λl2 hl=>H l2 λc hc=>hl c (Ai F hc))) ?_;refine gz ?_;exact Bb .refl ⟨rfl,_,⟨vs,cs,OW,rfl⟩,rfl⟩
 |some p=>
  obtain⟨hp,N5,C9⟩:=TH X id p hf;rw[Y6 hf] at H;dsimp only at H;have e:dropQ X id=(true,upd X p ((X p).eraseIdx ((X p).idxOf id))):=by unfold dropQ;rw[hf]
  rw[e];obtain⟨i,hi⟩: ∃i,(X p).idxOf id=i:=⟨_,rfl⟩
  rw[hi] at C9 H⊢;have dB:=hb p hp;have hg:=WT vs p hp;obtain⟨v,hv⟩: ∃v,vs p=v:=⟨_,rfl⟩
  rw[hv] at hg;simp only[Ae];refine gz ?_;refine Bh (AL rfl rfl (λl2 hl=>H l2 λc hc=>hl c (Ai F hc))) ?_;refine gz ?_;refine Li [(0,true),(1,true),(2,true),(3,true),(4,true),(5,true),(6,true),(7,true),(8,true),(9,true),(10,true),(12,true),(13,true),(11,false),(14,true),(15,false)] [[],[],[],[],[2],[2,4],[2,3,4,5],[2,3,4,5,6],[],[],[9],[2,3,4,5,6,7,8,9,10],[0],[0,12],[0,1,2,3,4,5,6,7,8,9,10,11,12,13],[0,1,2,3,4,5,6,7,8,9,10,11,12,13,14]] ([]) BA BA GH UX ?_;refine pz ?_;apply Gp (S:=[qC b vs])
  ·exact DS rfl Ak hg
  ·intro c hc;cases hc with
   |head=>exact Ak
   |tail _ h=>cases h
  ·rfl
  ·rfl
  ·rfl
  refine pz ?_;apply G9
  ·exact Dn rfl rfl (by rw[<-hv];exact AbO OW hp C9 dB)
  ·rfl
  ·rfl
  ·rfl
  ·intro _ _ _ c hc;cases hc
  ·exact λ_ _ _ x hx ha=>Dh BA hx ha
  rintro v' _ ⟨c2,ho,rfl⟩;have Jz:v'.oneCell'=true:=ho.one;refine pz ?_;apply Hy
  ·exact Du rfl rfl Jz .here (by simp[hp])
  ·rfl
  ·rfl
  ·intro _ _ _ c hc;cases hc
  ·exact λ_ _ _ x hx ha=>Dh BA hx ha
  rintro _ _ ⟨rfl,rfl⟩;rw[aQ vs p hp v'];refine pz ?_;refine gz ?_;refine Bb .refl ⟨rfl,_,⟨_,_,OW.upd p _ v' c2 ho,rfl⟩,rfl⟩
theorem back_any(b:Nat)(X:Nat->A4)(lq:Ac)(id:Int)(hq:IsQ b X lq)(hb: ∀p,p<8->(X p).length<=1000000)(F:Ac):
 Fn prog 302 [.pointer (some ⟨b,0,none⟩),.int .i64 id] (lq++F) λv l'=>v= .bool (backQ X id).1/\ ∃DF,IsQ b (backQ X id).2 DF/\l'=DF++F:=by
 have H:=JU b X lq id hq hb;have HD:=drop_any b X lq id hq hb F;refine AN func302 ntmps302 λE=>?_;cases hf:findP X id with
 |none=>
  obtain⟨vs,cs,OW,rfl⟩:=hq;rw[Y5 hf] at H;dsimp only at H;have e:backQ X id=(false,X):=by unfold backQ;rw[hf]
  rw[e];simp only[Ae];refine gz ?_;refine Bh (AL rfl rfl (λl2 hl=>H l2 λc hc=>hl c (Ai F hc))) ?_;refine gz ?_;exact Bb .refl ⟨rfl,_,⟨vs,cs,OW,rfl⟩,rfl⟩
 |some p=>
  obtain⟨hp,N5,C9⟩:=TH X id p hf;rw[Y6 hf] at H;dsimp only at H;have e:backQ X id=(true,upd X p ((X p).eraseIdx ((X p).idxOf id)++[id])):=by unfold backQ;rw[hf]
  rw[e];have e2:dropQ X id=(true,upd X p ((X p).eraseIdx ((X p).idxOf id))):=by unfold dropQ;rw[hf]
  rw[e2] at HD;obtain⟨i,hi⟩: ∃i,(X p).idxOf id=i:=⟨_,rfl⟩
  rw[hi] at C9 H HD⊢;have dB:=hb p hp;refine gz ?_;refine Bh (AL rfl rfl (λl2 hl=>H l2 λc hc=>hl c (Ai F hc))) ?_;refine gz ?_;refine AS (Dn rfl rfl HD) ?_;rintro _ _ ⟨rfl,DF,⟨vs,cs,OW,rfl⟩,rfl⟩;simp only[Ae];have hg:=WT vs p hp;obtain⟨v,hv⟩: ∃v,vs p=v:=⟨_,rfl⟩
  rw[hv] at hg;have Lf:(upd X p ((X p).eraseIdx i) p).length<=1000000:=by rw[DL,Ga];split<;>omega
  refine gz ?_;refine Li [(0,true),(1,true),(2,true),(3,true),(4,true),(5,true),(6,true),(7,true),(8,true),(11,true),(12,true),(9,false),(10,false),(13,true),(14,false)] [[],[],[],[],[2],[2,4],[2,3,4,5],[2,3,4,5,6],[],[8],[2,3,4,5,6,7,8,9],[0],[0,11],[0,1,2,3,4,5,6,7,8,9,10,11,12],[0,1,2,3,4,5,6,7,8,9,10,11,12,13]] ([]) BA BA GH UX ?_;refine pz ?_;apply Gp (S:=[qC b vs])
  ·exact DS rfl Ak hg
  ·intro c hc;cases hc with
   |head=>exact Ak
   |tail _ h=>cases h
  ·rfl
  ·rfl
  ·rfl
  refine pz ?_;apply G9
  ·exact Lj rfl rfl
  ·rfl
  ·rfl
  ·rfl
  ·intro _ _ _ c hc;cases hc
  ·rintro _ _ ⟨bl,_,rfl,rfl⟩ x hx _ c hc;cases hx with
   |head=>cases hc with
    |head=>exact .tail _ (.head _)
    |tail _ h=>cases h
   |tail _ h=>cases h
  rintro _ _ ⟨bl,_,rfl,rfl⟩;refine pz ?_;apply G9
  ·exact lN OW hp Lf (by rw[hv];rfl) rfl
  ·rfl
  ·rfl
  ·rfl
  ·intro _ _ _ c hc;cases hc
  ·exact λ_ _ _ x hx ha=>Dh BA hx ha
  rintro v' _ ⟨c2,ho,rfl⟩;have Jz:v'.oneCell'=true:=ho.one;refine pz ?_;apply Hy
  ·exact Du rfl rfl Jz .here (by simp[hp])
  ·rfl
  ·rfl
  ·intro _ _ _ c hc;cases hc
  ·exact λ_ _ _ x hx ha=>Dh BA hx ha
  rintro _ _ ⟨rfl,rfl⟩;rw[aQ vs p hp v'];refine pz ?_;refine gz ?_;have hu:=OW.upd p _ v' c2 ho;dsimp only at hu;rw[DL,eg] at hu;refine Bb .refl ⟨rfl,_,⟨_,_,hu,rfl⟩,rfl⟩
end Qu
namespace Th
open Go.RowKit
set_option maxRecDepth 20000
theorem drop_any(b:Nat)(L:TL)(lq:Ac)(hq:IsX b L lq)(id:Int)(G:Ac):
 Fn prog 367 [.pointer (some ⟨b,0,none⟩),.int .i64 id] (lq++G) λv l'=>v= .int .i64 (dropD L id).1/\ ∃DF,IsX b (dropD L id).2 DF/\l'=DF++G:=by
 have M3:=hq;obtain⟨m,es,clock,rfl,hX⟩:=hq;refine AN func367 ntmps367 λE=>?_;simp only[Ae,Ag];refine gz ?_;rw[hX.look,hX.has];refine gz ?_;refine AS e_alloc ?_;rintro _ _ ⟨b5,_,rfl,rfl⟩;iterate 4 refine gzS ?_
 cases hf:findH L id with
 |some t=>rw[show dropD L id=(0,L.filter λx=>decide (x.id≠id)) by unfold dropD;rw[hf];rfl];refine gz ?_;refine M9 (Tu (a:=id) (es:=es) (clock:=clock) rfl rfl (by exact DY)) rfl rfl ?_;rintro _ _ ⟨rfl,rfl⟩;refine gz ?_;exact Bb (.drop .refl) ⟨rfl,_,⟨m,_,_,rfl,hX.drop id⟩,rfl⟩
 |none=>rw[show dropD L id=(2,L) by unfold dropD;rw[hf];rfl];refine gz ?_;exact Bb (.drop .refl) ⟨rfl,_,M3,rfl⟩
open Go.RowKit
set_option maxRecDepth 20000
theorem server_any(b:Nat)(L:TL)(lq:Ac)(hq:IsX b L lq)(hn:L.length<=900000)(id:Int)(l:Ac)(CG: ∀c,c∈lq->c∈l):
 Fn prog 260 [.pointer (some ⟨b,0,none⟩),.int .i64 id] l λv l'=>v= .int .i64 (serverD L id)/\l'=l:=by
 refine AN func260 ntmps260 λE=>?_;refine Im λb3=>?_;refine Im λb4=>?_;refine AS (Az rfl rfl (Jm _ rfl _)) ?_;rintro _ _ ⟨B,rfl,rfl⟩;refine gz ?_;refine Dg (α:=ThT) (ps:=[8]) (lb:=[.pointer (some ⟨B,0,none⟩)]) rfl (HY B b L lq hq hn) (λ_=>rfl) rfl
  (λpre l=>l=[xB B (.pointer (some ⟨b,0,none⟩)),GJ b4 0,GJ b3 id]/\ ∀x,x∈pre->¬(id≠0/\x.ca=id))
  (λc pre l=>c= .ret/\ ∃(G8:TL) (t:ThT),pre=G8++[t]/\(∀x,x∈G8->¬(id≠0/\x.ca=id))/\id≠0/\t.ca=id/\l=[GJ b4 t.id])
  _ l (λpre l2 X2 hX h=>⟨by rw[h.1];exact List.Mem.head _,λc hc=>Aa _ (hX _ (CG _ hc))⟩) (by exact AW) ⟨rfl,by simp⟩ ?_ ?_ ?_
 ·rintro E r0 FU pre y l' T ⟨fn,tmps,D,rfl⟩ hT ⟨rfl,Gn⟩ Dw;simp only[DX,Ae,Ag];refine Im λb5=>?_;refine CK (by exact DY) ?_;by_cases h0:id=0
  ·refine gz ?_;refine Ci _ (.drop .refl) ⟨rfl,λx hx=>λh=>h.1 h0⟩
  by_cases hy:y.ca=id
  ·refine gz ?_;refine EI [GJ b4 y.id] (by exact AW) ⟨rfl,pre,y,rfl,Gn,h0,hy,rfl⟩
  ·refine gz ?_;refine Ci _ (.drop .refl) ⟨rfl,λx hx=>?_⟩;rcases AF.1 hx with hx|hx
   ·exact Gn x hx
   ·rw[AC.1 hx];exact λh=>hy h.2
 ·rintro D xs l' rfl ⟨rfl,Gn⟩;rw[it Gn];simp only[Ae,Ag];refine gz ?_;exact AU [D] (GJ b4 0::l) rfl (l':=l) (by exact AW) (by exact Ba) (.drop .refl) ⟨rfl,rfl⟩
 ·rintro D c pre l' Dw ⟨rfl,G8,t,rfl,km,h0,ht,rfl⟩;rw[mK Dw h0 (λx hx h=>km x hx ⟨h0,h⟩) ht];simp only[Ae,Ag];refine gz ?_;exact AU [D] (GJ b4 t.id::l) rfl (l':=l) (by exact AW) (by exact Ba) (.drop .refl) ⟨rfl,rfl⟩
end Th
namespace As
open Go.RowKit
set_option maxRecDepth 20000
theorem mZ(rb:Nat)(x r q:Int)(l:Ac)(hx:(rb,Obj.cells #[.int .i64 x] 3 (0,0))∈l):Fn prog 392 [.int .i64 r,.int .i64 q,.pointer (some ⟨rb,0,none⟩)] l λv l'=>v= .bool (II x r q)/\l'=l:=by refine AN func392 ntmps392 λE=>?_;exact E3
theorem vf(rb:Nat)(x r q:Int)(l:Ac)(hx:(rb,Obj.cells #[.int .i64 x] 3 (0,0))∈l):Fn prog 393 [.int .i64 r,.int .i64 q,.pointer (some ⟨rb,0,none⟩)] l λv l'=>v= .bool (YH x r q)/\l'=l:=by refine AN func393 ntmps393 λE=>?_;exact E3
theorem root_any(b:Nat)(s:ASt)(r:Int)(l:Ac)(hA:asA b s∈l):Fn prog 389 [.pointer (some ⟨b,0,none⟩),.int .i64 r] l λv l'=>v= .tuple #[.int .i64 (rootP s r).1,.int .i64 (rootP s r).2.1,.bool (rootP s r).2.2]/\l'=l:=by
 refine AN func389 ntmps389 λE=>?_;refine Im λrb=>?_;cases hf:Lm s (YH r) with
 |none=>refine Bh (AL rfl rfl (λl hl=>O3 b rb _ s r (YH r) hf l (hl _ (by exact BW)) (hl _ (by exact BW)) (λr' q l h=>vf rb r r' q l h))) ?_;refine Im λb7=>?_;exact AU [] l rfl (l':=l) (by exact AW) (by exact Ba) .refl ⟨by simp[JH,rootP,hf],rfl⟩
 |some n=>have C9:=(TK s _ n hf).1;have qs:=s.c_root (n/4) (n%4) Af Af;rw[show 4*(n/4)+n%4=n by omega] at qs;refine Bh (AL rfl rfl (λl hl=>O2 b rb _ s r (YH r) n hf l (hl _ (by exact BW)) (hl _ (by exact BW)) (λr' q l h=>vf rb r r' q l h))) ?_;refine Im λb7=>?_;refine Cm [] 16 _ ?_ (hR:=(λ_ h=>h));refine pz ?_;refine gz ?_;exact AU [] l rfl (l':=l) (by exact AW) (by exact Ba) .refl ⟨by simp[JH,rootP,hf],rfl⟩
open Go.RowKit
set_option maxRecDepth 20000
theorem unassign_any(b:Nat)(s:ASt)(r:Int)(F:Ac):
 Fn prog 385 [.pointer (some ⟨b,0,none⟩),.int .i64 r] (asA b s::F) λv l'=>v= .tuple #[.int .i64 (unP s r).1,.int .i64 (unP s r).2.1]/\l'=asA b (unP s r).2.2::F:=by
 refine AN func385 ntmps385 λE=>?_;refine Im λrb=>?_;cases hf:Lm s (II r) with
 |none=>refine Bh (AL rfl rfl (λl hl=>O3 b rb _ s r (II r) hf l (hl _ (by exact BW)) (hl _ (by exact BW)) (λr' q l h=>mZ rb r r' q l h))) ?_;refine Im λb7=>?_;exact AU [] (asA b s::F) rfl (l':=asA b s::F) (by exact AW) (by exact Ba) .refl ⟨by simp[JH,unP,hf],by simp[unP,hf]⟩
 |some n=>
  have C9:=(TK s _ n hf).1;have e1:=s.s_root (n/4) (n%4) Af Af 0;rw[show 4*(n/4)+n%4=n by omega] at e1;have e2:=({s with root:=upd s.root n 0}:ASt).s_ser (n/4) (n%4) Af Af 0;rw[show 4*(n/4)+n%4=n by omega] at e2;refine Bh (AL rfl rfl (λl hl=>O2 b rb _ s r (II r) n hf l (hl _ (by exact BW)) (hl _ (by exact BW)) (λr' q l h=>mZ rb r r' q l h))) ?_;refine Im λb7=>?_;refine Li [(0,true),(1,true),(2,true),(3,true),(4,true),(5,true),(6,true),(7,true),(8,true),(9,true),(10,true),(11,true),(12,true),(13,true),(14,true),(16,true),(17,true),(18,true),(19,true),(15,false),(20,true),(21,false)] [[],[],[1],[],[3],[],[],[6],[],[8],[0],[0,10],[0,1,2,10,11],[0,1,2,10,11,12],[0,1,2,3,4,10,11,12,13],[0,1,2,3,4,10,11,12,13,14],[5],[5,16],[5,6,7,16,17],[5,6,7,16,17,18],[0,1,2,3,4,5,6,7,8,9,10,11,12,13,14,15,16,17,18,19],[0,1,2,3,4,5,6,7,8,9,10,11,12,13,14,15,16,17,18,19,20]] ([(b7,.cells #[.int .i64 (n:Nat),.int .i64 ((n/4:Nat):Int),.int .i64 ((n%4:Nat):Int)] 360 (0,0))]) BA BA GH UX ?_;refine pz ?_;apply Oe
  ·exact Du (cs:=s.cells) rfl rfl rfl (by exact DY) (by rw[s.cells_size];omega)
  ·rfl
  ·rfl
  ·rintro _ _ ⟨rfl,rfl⟩;exact(Cg (by exact MG))
  rintro _ _ ⟨rfl,rfl⟩;rw[e1];refine pz ?_;apply Oe
  ·exact Du (cs:=({s with root:=upd s.root n 0}:ASt).cells) rfl rfl rfl (by exact DY) (by rw[ASt.cells_size];omega)
  ·rfl
  ·rfl
  ·rintro _ _ ⟨rfl,rfl⟩;exact(Cg (by exact MG))
  rintro _ _ ⟨rfl,rfl⟩;rw[e2];refine pz ?_;refine gz ?_;exact AU [] (asA b (s.give0 n)::F) rfl (l':=asA b (s.give0 n)::F) (by exact AW) (by exact Ba) .refl ⟨by simp[JH,unP,hf],by simp[unP,hf]⟩
open Go.RowKit
set_option maxRecDepth 20000
def xQ(s:ASt)(p:Nat)(i:Fin 4):Bool:=decide (s.root (4*p+i.val)≠0)
def AbP(p:Nat)(i:Fin 4):Value:= .int .i64 ((4*p+i.val:Nat):Int)
def dropL(s:ASt)(p:Nat)(pre:List (Fin 4)):Ap:=(pre.filter (xQ s p)).map (AbP p)
def dropP(s:ASt)(o:Int):Ap×Int×ASt:=
 match atO s o with
 |none=>([],2,s)
 |some p=>(dropL s p (Se p),0,s.drop p)
theorem nums_len(p:Nat):(Se p).length<=4:=by have:(Se p).length<=(List.range 4).length:=List.length_filterMap_le _ _;simpa using this
theorem dropL_len(s:ASt)(p:Nat)(pre:List (Fin 4)):(dropL s p pre).length<=pre.length:=by unfold dropL;rw[A7];exact C8 _ _
theorem na(s:ASt)(p:Nat)(pre:List (Fin 4))(i:Fin 4)(h:s.root (4*p+i.val)≠0):dropL s p (pre++[i])=dropL s p pre++[AbP p i]:=by simp[dropL,xQ,h]
theorem iE(s:ASt)(p:Nat)(pre:List (Fin 4))(i:Fin 4)(h:s.root (4*p+i.val)=0):dropL s p (pre++[i])=dropL s p pre:=by simp[dropL,xQ,h]
theorem dropPool_any(b:Nat)(s:ASt)(o:Int)(F:Ac):
 Fn prog 386 [.pointer (some ⟨b,0,none⟩),.int .i64 o] (asA b s::F) λv l'=> ∃sl cs,v= .tuple #[sl,.int .i64 (dropP s o).2.1]/\OwnSl 3 1 sl (dropP s o).1.length (dropP s o).1 cs/\l'=asA b (dropP s o).2.2::(cs++F):=by
 refine AN func386 ntmps386 λE=>?_;refine Im λb2=>?_;cases hq:atO s o with
 |none=>refine Bh (AL rfl rfl (λl hl=>O4 b s o (-1) (by simp[WQ,hq]) l (hl _ (by exact BW)))) ?_;refine Im λb6=>?_;refine AU [] (asA b s::F) rfl (l':=asA b s::F) (by exact AW) (by exact Ba) (by exact AW) ⟨_,[],by simp only[JH,dropP,hq];rfl,by simp only[dropP,hq];exact OwnSl.nil _ _,by simp[dropP,hq]⟩
 |some p=>
  have hp:=lU s o p hq;refine Bh (AL rfl rfl (λl hl=>O4 b s o p (by simp[WQ,hq]) l (hl _ (by exact BW)))) ?_;refine Im λb6=>?_;refine Im λb7=>?_;refine AS (Az rfl rfl (Ov p _)) ?_;rintro v l' ⟨B,hB,rfl,rfl⟩;refine gz ?_;refine Dg (α:=Fin 4) (ps:=[21,22]) (lb:=[.pointer (some ⟨B,0,none⟩)]) rfl (Mk B p hp) (λ_=>rfl) rfl
   (λpre l=> ∃v cs,OwnSl 3 1 v (dropL s p pre).length (dropL s p pre) cs/\l=[(B,.cells #[.int .i64 (p:Nat)] 3 (0,0)),(b6,.cells #[.int .i64 (p:Nat)] 3 (0,0)),(b2,.cells #[.pointer (some ⟨b,0,none⟩)] 157 (0,0)),(b7,.cells #[v] 40 (0,0)),asA b s]++cs)
   (λc pre l=>False)
   _ F (λpre l X _ h=>by obtain⟨v,cs,_,rfl⟩:=h;exact List.Mem.head _) (by exact AW) ⟨_,[],OwnSl.nil _ _,rfl⟩ ?_ ?_ ?_
  ·rintro E r0 FU pre y l' T ⟨fn,tmps,D,rfl⟩ hT ⟨v,cs,EX,rfl⟩ Dw;have uv:=y.isLt;have qr:=s.c_root p y.val hp uv;simp only[DX,Ae,Ag];refine gz ?_;refine CK (.there (.there (.there (.there (.there (FK _ _ _ _ _)))))) ?_;refine gz ?_;refine Cm [] 10 _ ?_ (hR:=(λ_ h=>h));refine pz ?_;by_cases hr:s.root (4*p+y.val)=0
   ·refine gz ?_;refine Ci _ (.refl) ⟨v,cs,?_,rfl⟩;rw[iE s p pre y hr];exact EX
   ·refine gz ?_;refine AS (Lj rfl rfl) ?_;rintro _ _ ⟨bl,_,rfl,rfl⟩;refine Bs (Keep.of_perm (AA [(bl,.cells (toArray [.int .i64 ((4*p+y.val:Nat):Int)]) 3 (0,0)),(B,.cells #[.int .i64 (p:Nat)] 3 (0,0)),(b6,.cells #[.int .i64 (p:Nat)] 3 (0,0)),(b2,.cells #[.pointer (some ⟨b,0,none⟩)] 157 (0,0)),(b7,.cells #[v] 40 (0,0)),asA b s] cs _)) ?_;have Eh:(dropL s p pre).length<=4:=BV (dropL_len s p pre) (by have h1:=List.IsPrefix.length_le Dw;have h2:=nums_len p;simp at h1;omega);apply jS
    ·apply GG (xs:=dropL s p pre) (news:=[.int .i64 ((4*p+y.val:Nat):Int)]) (zs:=[.int .i64 0])
     ·rfl
     ·rfl
     ·rfl
     ·exact EX
     ·exact Aa _ Ak
     ·intro j u hj;simpa using hj
     ·rfl
     ·simp[Value.oneCell']
     ·unfold maxLen;omega
     ·omega
    ·rfl
    ·rfl
    ·rfl
    rintro v' _ ⟨cs',hown',rfl⟩;have Jz:v'.oneCell'=true:=hown'.one;refine Bs (Keep.of_perm (AA cs' [(bl,.cells (toArray [.int .i64 ((4*p+y.val:Nat):Int)]) 3 (0,0)),(B,.cells #[.int .i64 (p:Nat)] 3 (0,0)),(b6,.cells #[.int .i64 (p:Nat)] 3 (0,0)),(b2,.cells #[.pointer (some ⟨b,0,none⟩)] 157 (0,0)),(b7,.cells #[v] 40 (0,0)),asA b s] _)) ?_;simp only[Ae,Ag];refine gz ?_;refine Ci _ (.drop .refl) ⟨v',cs',?_,rfl⟩;rw[na s p pre y hr,Ah];exact hown'
  ·rintro D xs l' rfl ⟨v,cs,EX,rfl⟩;simp only[Ae,Ag];refine gz ?_;refine Cm [6] 7 ([(b6,.cells #[.int .i64 (p:Nat)] 3 (0,0)),(b2,.cells #[.pointer (some ⟨b,0,none⟩)] 157 (0,0))]) ?_;refine pz ?_;apply Oe
   ·apply EH (cs:=s.cells)
    ·rfl
    ·rfl
    ·rfl
    ·simp[Value.oneCell']
    ·exact DY
    ·rw[s.cells_size];omega
   ·rfl
   ·rfl
   ·rintro _ _ ⟨rfl,rfl⟩;exact(Cg (by exact MG))
   rintro _ _ ⟨rfl,rfl⟩;rw[DQ,s.s_drop p hp];refine pz ?_;refine gz ?_;refine AU [D] (asA b (s.drop p)::(cs++F)) rfl (l':=asA b (s.drop p)::(cs++F)) (by exact AW) (by exact Ba) .refl ⟨v,cs,by simp[JH,dropP,hq],by simp only[dropP,hq];exact EX,by simp[dropP,hq]⟩
  ·rintro D c pre l' Dw h;exact h.elim
end As
open Go.RowKit
set_option maxRecDepth 20000
abbrev Lt(x:Int):Prop:=0<=x/\x<18446744073709551616
abbrev Be(x:Int):Value:= .int .u64 x
abbrev Ug(gb:Nat)(W:A4):Bd:=(gb,.cells (toArray (W.map Be)) 254 (0,0))
def AbQ(b F:Nat)(W:A4)(lq:Ac):Prop:= ∃gb,1<=F/\F<=64/\W.length=F*8/\(∀w,w∈W->Lt w)/\lq=[Pz b gb F,Ug gb W]
theorem JC:Lt 0:=⟨by decide,by decide⟩
class TW(t:Th.ThT):Prop where
 out:Lt t.va/\Lt t.vl
structure KT where
 A:Ar.ArT
 H:HS
 N:As.ASt
 T:Th.TL
 Q:Nat->A4
 E:En.DE
 W:A4
 K:List HX
 U:A4
variable{S S':KT}
class IsK(F C k:outParam Nat)(S:KT)(p:RP)(s:RL):Prop where
 mem:AbQ p.m F S.W s.M
 co:IsCos p.c S.K s.C
 kl:S.K.length=C
 ar:Ar.IsA p.a S.A s.A
 an:S.A.n=F
 rad:rX S.A
 ho:IsH p.h S.H s.H
 inv: ∃m,m+k<=900/\InvH S.H m
 giv: ∀n,n<32->0<=S.N.given n/\S.N.given n+k<=900
 th:Th.IsX p.t S.T s.T
 tl:S.T.length+k<=900
 tw: ∀t,t∈S.T->TW t/\Th.mayH t=true
 qu:Qu.IsQ p.q S.Q s.Q
 ql: ∀n,n<8->(S.Q n).length+k<=900
 en:En.IsE p.e S.E s.E
 el: ∀x,x∈S.E->x.2.1.length+k<=900
 eo: ∀t,En.OneAt S.E t
 ul:S.U.length=C
 cu:OwnSl 3 1 p.v C (S.U.map CU) s.V
 c1:1<=C/\C<=3
def Ax(b:Nat)(p:RP)(s:RL)(S:KT)(G:Ac):Ac:=CF b p::As.asA p.n S.N::(s.M++(s.C++(s.A++(s.H++(s.T++(s.Q++(s.E++(s.V++G))))))))
theorem IsK.mono(h:IsK F C k S p s)(hm:m<=k):IsK F C m S p s:=
 {h with inv:=let⟨n,h1,h2⟩:=h.inv;⟨n,Af,h2⟩,giv:=λn hn=>by have:=h.giv n hn;omega,tl:=by have:=h.tl;omega,ql:=λn hn=>by have:=h.ql n hn;omega,el:=λx hx=>by have:=h.el x hx;omega}
def Tail(L G:Ac):Prop:= ∃X,L=X++G
theorem Tail.nil:Tail G G:=⟨[],rfl⟩
theorem Tail.step(X:Ac)(h:Tail L G):Tail (X++L) G:=by obtain⟨Y,rfl⟩:=h;exact⟨X++Y,by simp⟩
theorem Tail.cons{c:Bd}(h:Tail L G):Tail (c::L) G:=h.step [c]
theorem Tail.trans{M:Ac}(h:Tail L M)(h2:Tail M G):Tail L G:=by obtain⟨Y,rfl⟩:=h;exact h2.step Y
inductive Fr1(l0:Ac):Ac->(Ac->Ac)->Prop
 |nil:Fr1 l0 l0 λx=>x
 |cons {c:Bd} {l:Ac} {Γ:Ac->Ac}:Fr1 l0 l Γ->Fr1 l0 (c::l) λx=>c::Γ x
theorem Fr1.eq{l:Ac}(h:Fr1 l0 l Γ): ∃A,l=A++l0/\ ∀x,Γ x=A++x:=by
 induction h with
 |nil=>exact⟨[],rfl,λ_=>rfl⟩
 |cons _ ih=>obtain⟨A,h1,h2⟩:=ih;exact⟨_::A,by rw[h1];rfl,λx=>BI _ (h2 x)⟩
def KK(F C b:Nat)(p:RP)(k:Nat)(x:Value)(S:KT)(G:Ac):Value->Ac->Prop:=λv l'=>v=x/\ ∃s L,IsK F C k S p s/\Tail L G/\l'=Ax b p s S L
class EK(P:Program)(F C b:Nat)(p:RP)(f:Nat)(vs:Ap)(k:Nat)(S:KT)(k':outParam Nat)(x:outParam Value)(S':outParam KT):Prop where
 out: ∀s G,IsK F C k S p s->Fn P f vs (Ax b p s S G) (KK F C b p k' x S' G)
theorem Fi(b:Nat)(p:RP)(s:RL)(S:KT)(A G:Ac):(A++Ax b p s S G).Perm (Ax b p s S (A++G)):=by unfold Ax;exact BX
theorem Uh(b:Nat)(p:RP)(s:RL)(S:KT)(X A G:Ac):(Ax b p s S (X++(A++G))).Perm (A++Ax b p s S (X++G)):=by unfold Ax;exact BX
section
variable{l:Ac}
theorem mG(h: ∀c,c∈Ax b p s S G->c∈l): ∀c,c∈G->c∈l:=λc hc=>h c (by unfold Ax;simp[hc])
theorem mR(h: ∀c,c∈Ax b p s S G->c∈l):CF b p∈l:=h _ (.head _)
theorem mN(h: ∀c,c∈Ax b p s S G->c∈l):As.asA p.n S.N∈l:=h _ (.tail _ (.head _))
theorem mM(h: ∀c,c∈Ax b p s S G->c∈l): ∀c,c∈s.M->c∈l:=λc hc=>h c (by unfold Ax;simp[hc])
theorem mC(h: ∀c,c∈Ax b p s S G->c∈l): ∀c,c∈s.C->c∈l:=λc hc=>h c (by unfold Ax;simp[hc])
theorem mA(h: ∀c,c∈Ax b p s S G->c∈l): ∀c,c∈s.A->c∈l:=λc hc=>h c (by unfold Ax;simp[hc])
theorem mH(h: ∀c,c∈Ax b p s S G->c∈l): ∀c,c∈s.H->c∈l:=λc hc=>h c (by unfold Ax;simp[hc])
theorem mT(h: ∀c,c∈Ax b p s S G->c∈l): ∀c,c∈s.T->c∈l:=λc hc=>h c (by unfold Ax;simp[hc])
theorem mQ(h: ∀c,c∈Ax b p s S G->c∈l): ∀c,c∈s.Q->c∈l:=λc hc=>h c (by unfold Ax;simp[hc])
theorem mE(h: ∀c,c∈Ax b p s S G->c∈l): ∀c,c∈s.E->c∈l:=λc hc=>h c (by unfold Ax;simp[hc])
theorem mV(h: ∀c,c∈Ax b p s S G->c∈l): ∀c,c∈s.V->c∈l:=λc hc=>h c (by unfold Ax;simp[hc])
end
theorem eJ{l:Ac}(h:Fr1 l0 l Γ:=by(repeat(first|exact .nil|apply Fr1.cons))):Fr1 l0 l Γ:=h
theorem zTl(h:Tail L G:=by(repeat(first|assumption|exact Tail.nil|apply Tail.cons|(refine Tail.trans (by assumption) ?_)))):Tail L G:=h
theorem zSt(h:S=S':=by first|rfl|(subst_vars;rfl)|(subst_vars;simp[*];done)|(simp_all;done)):S=S':=h
section
variable{P:Program}{ro:Option Nat}{N:Nat}{E:World}{ops:Array Oper}{Q:Exit->Act->World->Prop}{A3:List Oper}{fr:Fr}{ds:List Deferred}{l:Ac}{x0:Value}{d:Nat}{x:Operand}{xs:List Operand}{at_:Array TypeId}{ty:TypeId}{pos:String}{aft:Array Edge}{g:Option (Nat×Bool)}
theorem EK.on(q:EK P F C b p f vs k S k' x0 S')(hK:IsK F C k S p s)(hF:Fr1 (Ax b p s S G) l Γ):Fn P f vs l λv l'=>v=x0/\ ∃s' L,IsK F C k' S' p s'/\Tail L G/\l'=Γ (Ax b p s' S' L):=by
 obtain⟨A,rfl,hA⟩:=hF.eq;refine Fn.re (.of_perm (Fi b p s S A G)) (q.out s (A++G) hK) λv l' ⟨h1,s',L,h2,⟨X,h3⟩,h4⟩=>⟨Γ (Ax b p s' S' (X++G)),?_,h1,s',_,h2,⟨X,rfl⟩,rfl⟩
 rw[h4,h3,hA];exact .of_perm (Uh ..)
theorem Gi(hk: ∀S1 s' L,S1=S'->IsK F C k' S1 p s'->Tail L G->CF b p∈Ax b p s' S1 L->DA P ro N E ops Q A3 ((d,x0)::fr) ds (Γ (Ax b p s' S1 L)))(hx:ev fr x=some (.func (.func f) #[] #[]):=by rfl)(hy:Sd fr xs=some vs:=by rfl)(hF:Fr1 (Ax b p s S G) l Γ:=by exact eJ)(c:EN P f:=by infer_instance)(hK:IsK F C k S p s:=by infer_instance)(q:EK P F C b p f vs k S k' x0 S':=by infer_instance)(hw:Rb ops fr g=some true:=by rfl)(hb:Nat.blt d N=true:=by rfl):DA P ro N E ops Q (⟨some d,.call {callee:= .value x,args:=xs.toArray,argTypes:=at_},ty,pos,aft,g⟩::A3) fr ds l:=
 JB (Az hx hy (q.on hK hF)) hw rfl hb λv l' ⟨h1,s',L,h2,h3,h4⟩=>by rw[h1,h4];exact hk S' s' L rfl h2 h3 (mR λ_ h=>h)
variable{tbl:List (List Nat)}{sp:FP}{pl:List BG}{i:Nat}{gg:Bool}
theorem MX(hk: ∀S1 s' L,S1=S'->IsK F C k' S1 p s'->Tail L G->CF b p∈Ax b p s' S1 L->MP P ro N E ops Q tbl false sp pl ((d,x0)::fr) ds (Γ (Ax b p s' S1 L)))(hx:ev fr x=some (.func (.func f) #[] #[]):=by rfl)(hy:Sd fr xs=some vs:=by rfl)(hF:Fr1 (Ax b p s S G) l Γ:=by exact eJ)(c:EN P f:=by infer_instance)(hK:IsK F C k S p s:=by infer_instance)(q:EK P F C b p f vs k S k' x0 S':=by infer_instance)(hb:Nat.blt d N=true:=by rfl)(ha:(sp.map Prod.fst).all (λq=>FD tbl i q)=true:=by kernel_rfl):MP P ro N E ops Q tbl gg sp ((i,false,⟨some d,.call {callee:= .value x,args:=xs.toArray,argTypes:=at_},ty,pos,aft,none⟩)::pl) fr ds l:=
 LJ (Az hx hy (q.on hK hF)) (λv l' ⟨h1,s',L,h2,h3,h4⟩=>by rw[h1,h4];exact hk S' s' L rfl h2 h3 (mR λ_ h=>h)) rfl rfl hb ha
theorem A9{fn:Func}{rs:List ResultVar}{S1:KT}{k1:Nat}{y:Value}(hr:fn.results=rs.toArray:=by rfl)(h:ResS P fr l rs vs:=by exact Ba)(hF:Fr1 (Ax b p s S1 L) l Γ:=by exact eJ)(hK:IsK F C k1 S1 p s:=by infer_instance)(ht:Tail L G:=by exact zTl)(hx:JH vs=y:=by exact zLf)(hk:k<=k1:=by omega)(hS:S1=S:=by exact zSt):C0 N E (bodyPostM Fence.wide 0 P fn (RK E (KK F C b p k y S G))) .ret fr [] l:=by subst hS hx;obtain⟨A,rfl,_⟩:=hF.eq;exact AU [] _ hr .refl h (Keep.dropL' A .refl) ⟨rfl,s,L,hK.mono hk,ht,rfl⟩
end
def KG(W:A4)(a:Int):Int:=if ¬a%8=0 then 4 else if a>=(W.length:Int)*8 then 3 else 0
def N1(W:A4)(a:Int):Int×Int:=if KG W a=0 then(W.getD (a/8).toNat 0,0) else(0,KG W a)
def V9(W:A4)(a v:Int):Int×A4:=if KG W a=0 then(0,W.set (a/8).toNat v) else(KG W a,W)
abbrev nF(W:A4):Int:=(W.length/8:Nat)
def r4(W:A4)(f n:Int):Int×A4:=if f<0\/f>=nF W\/n<0\/n>nF W-f then(3,W) else(0,W.take (8*f.toNat)++(List.replicate (8*n.toNat) 0++W.drop (8*(f.toNat+n.toNat))))
structure UY where
 vd:Bool
 lf:Bool
 rd:Bool
 wr:Bool
 fr:Int
deriving DecidableEq
abbrev Ui(e:UY):Ap:=[.bool e.vd,.bool e.lf,.bool e.rd,.bool e.wr,.int .i64 e.fr]
abbrev bL:UY:=⟨false,false,false,false,0⟩
def Ve(e:UY):Bool:=if e.vd=false then decide (e=bL) else if e.fr<0\/e.fr>=64 then false else e.lf==(e.rd||e.wr)
def QA(e:UY):Int×Int:=if Ve e=true then((e.vd.toNat+2*e.lf.toNat+4*e.rd.toNat+8*e.wr.toNat:Nat)+256*e.fr,0) else(0,5)
def bM(n:Nat):UY:=⟨n.testBit 0,n.testBit 1,n.testBit 2,n.testBit 3,(n/256%64:Nat)⟩
def Kl(w:Int):UY×Int:=if w.toNat/16%16=0/\w.toNat/16384=0/\Ve (bM w.toNat)=true then(bM w.toNat,0) else(bL,5)
def GV(W:A4)(a:Int)(NR:Bool):UY×Int:=
 if ¬(N1 W a).2=0 then(bL,5) else if ¬(Kl (N1 W a).1).2=0 then(bL,5)
 else if(Kl (N1 W a).1).1.vd=false then(bL,6) else if ¬(Kl (N1 W a).1).1.lf=NR\/(Kl (N1 W a).1).1.fr>=nF W then(bL,5) else((Kl (N1 W a).1).1,0)
def r5(page level:Int):Int:=if page<0\/page>=512\/level<1\/level>3 then-1 else if level=1 then page/64%8 else if level=2 then page/8%8 else page%8
abbrev Gr(f page level:Int):Int:=f*64+8*r5 page level
def Nt(W:A4)(root page:Int):List (Int×Int×Int):=
 (1,Gr root page 1,0)::
 if ¬(GV W (Gr root page 1) false).2=0 then[(2,0,(GV W (Gr root page 1) false).2)] else
 (2,Gr (GV W (Gr root page 1) false).1.fr page 2,0)::
 if ¬(GV W (Gr (GV W (Gr root page 1) false).1.fr page 2) false).2=0 then[(3,0,(GV W (Gr (GV W (Gr root page 1) false).1.fr page 2) false).2)] else
 [(3,Gr (GV W (Gr (GV W (Gr root page 1) false).1.fr page 2) false).1.fr page 3,0)]
def Uj(W:A4)(root page level:Int):Int:=if root<0\/root>=nF W\/page<0\/page>=512\/level<1\/level>3 then 3 else 0
def Q4(W:A4)(root page level:Int):Int×Int:=
 if Uj W root page level≠0 then(0,3) else
 match(Nt W root page).find? λx=>decide (x.1=level)||!decide (x.2.2=0) with
 |some x=>x.2
 |none=>(0,0)
def KH(W:A4)(root page:Int):UY×Int:=if ¬(Q4 W root page 3).2=0 then(bL,(Q4 W root page 3).2) else GV W (Q4 W root page 3).1 true
def IL(T:LC):List Nat:=(List.range 8).filter λk=>!decide ((T.w k).sp=0)
def KI(T:LC)(sp pg:Int):MJ×Bool:=match(IL T).find? λk=>decide ((T.w k).sp=sp)&&decide ((T.w k).pg=pg) with
 |some k=>(T.w k,true)
 |none=>(Q3,false)
def QB(T:LC)(k:Nat)(x:MJ):LC:={T with w:=Qu.upd T.w k x}
def Rp(x:MJ):Prop:=x.sp<1\/x.pg<0\/x.pg>=512\/x.fr<0\/x.fr>=64\/(x.rd=false/\x.wr=false)
instance(x:MJ):Decidable (Rp x):=by unfold Rp;exact inferInstance
def Y7(T:LC)(x:MJ):Option Nat:=
 let s:=(x.pg%4).toNat
 if(T.w (2*s)).sp=x.sp/\(T.w (2*s)).pg=x.pg then some (2*s) else if(T.w (2*s+1)).sp=x.sp/\(T.w (2*s+1)).pg=x.pg then some (2*s+1)
 else if(T.w (2*s)).sp=0 then some (2*s) else if(T.w (2*s+1)).sp=0 then some (2*s+1) else none
def Iv(T:LC)(x:MJ):Int×LC:=if Rp x then(2,T) else match Y7 T x with
 |some k=>(0,QB T k x)
 |none=>(0,{w:=Qu.upd T.w (2*(x.pg%4).toNat+(T.d (x.pg%4).toNat).toNat) x,d:=Qu.upd T.d (x.pg%4).toNat ((T.d (x.pg%4).toNat+1)%2)})
def Nu(T:LC)(st wy:Int):Bool×LC:=if st<0\/st>=4\/wy<0\/wy>=2 then(false,T) else(!decide ((T.w (2*st.toNat+wy.toNat)).sp=0),QB T (2*st.toNat+wy.toNat) Q3)
def r6(T:LC)(f:MJ->Bool)(k:Nat):Bool:=decide (k<8)&&!decide ((T.w k).sp=0)&&f (T.w k)
def PC(T:LC)(f:MJ->Bool):LC:={T with w:=λk=>if r6 T f k=true then Q3 else T.w k}
def NI(T:LC)(f:MJ->Bool):Nat:=((List.range 8).filter (r6 T f)).length
abbrev KB(sp pg:Int):MJ->Bool:=λx=>decide (x.sp=sp)&&decide (x.pg=pg)
abbrev Q5(sp:Int):MJ->Bool:=λx=>decide (x.sp=sp)
abbrev JD(K:List HX)(n:Int):Int:=if n<0\/n>=K.length then 3 else 0
def SI:HX:=⟨0,0,⟨λ_=>Q3,λ_=>0⟩⟩
abbrev K5(K:List HX)(n:Int):HX:=K.getD n.toNat SI
def KJ(root sp:Int):Prop:=(root= -1/\sp=0)\/(0<=root/\root<64/\1<=sp)
instance(root sp:Int):Decidable (KJ root sp):=by unfold KJ;exact inferInstance
def setC(K:List HX)(n root sp:Int):Int×List HX:=if ¬JD K n=0 then(3,K) else if ¬KJ root sp then(2,K) else(0,K.set n.toNat {K5 K n with ro:=root,sp:=sp})
def Km(K:List HX)(n:Int):Int×Int×Int:=if ¬JD K n=0 then(0,0,3) else((K5 K n).ro,(K5 K n).sp,0)
def xR(W:A4)(c:HX)(pg:Int):MJ:=⟨c.sp,pg,(KH W c.ro pg).1.fr,(KH W c.ro pg).1.rd,(KH W c.ro pg).1.wr⟩
def B9(K:List HX)(W:A4)(n pg:Int):(MJ×Bool×Int)×List HX:=
 if ¬JD K n=0 then((Q3,false,3),K) else if pg<0\/pg>=512 then((Q3,false,3),K) else if(K5 K n).ro<0 then((Q3,false,19),K)
 else if(KI (K5 K n).tb (K5 K n).sp pg).2=true then(((KI (K5 K n).tb (K5 K n).sp pg).1,true,0),K)
 else if ¬(KH W (K5 K n).ro pg).2=0 then((Q3,false,(KH W (K5 K n).ro pg).2),K)
 else((xR W (K5 K n) pg,false,0),K.set n.toNat {K5 K n with tb:=(Iv (K5 K n).tb (xR W (K5 K n) pg)).2})
def nc(K:List HX)(n st wy:Int):Bool×List HX:=if ¬JD K n=0 then(false,K) else((Nu (K5 K n).tb st wy).1,K.set n.toNat {K5 K n with tb:=(Nu (K5 K n).tb st wy).2})
def IM(K:List HX)(f:MJ->Bool):List HX:=K.map λc=>{c with tb:=PC c.tb f}
def Rq(K:List HX)(f:MJ->Bool):Nat:=(K.map λc=>NI c.tb f).sum
namespace Ar
theorem Y8(v:Value)(i m:Nat)(A W B:Ap)(hA:A.length=i*9)(hW:W.length=9)(hB:B.length=m*9)(wn: ∀u∈B,u.oneCell'=true)(cs F:Ac)(h:OwnSl 100 9 v (i+m+1) (A++W++B) cs)(hn:i+m<=90000):
 Fn prog 388 [v,.int .i64 (i:Nat),.int .i64 ((i:Int)+1)] (cs++F) λr l'=> ∃cs',OwnSl 100 9 r (i+m) (A++B) cs'/\l'=cs'++F:=by
 obtain⟨Eh,h⟩:=h;rcases h with⟨rfl,h0,rfl⟩|⟨gb,cap,sp,rfl,rfl,ZW,UV,NP⟩
 ·omega
 have AhE:sp.length+(i+m+1)*9=cap*9:=by rw[Ah,Eh] at NP;omega
 obtain⟨cur,hcur⟩: ∃cur,A++W++B++sp=cur:=⟨_,rfl⟩
 have AaM:cur.length=cap*9:=by rw[<-hcur];exact NP
 obtain⟨off',hoff⟩: ∃o,(if cap=i+1 then 0 else 0+(i+1)*9)=o:=⟨_,rfl⟩
 have qF:cur.take (i*9)=A:=by rw[<-hcur,Am,Am,GX hA]
 obtain⟨T,hT⟩: ∃T,cur.drop (i*9+m*9)=T:=⟨_,rfl⟩
 have hTl:T.length=cap*9-(i*9+m*9):=by rw[<-hT,DN,AaM]
 rw[hcur];refine AN func388 ntmps388 λE=>?_;simp only[Ae,Ag];refine gz ?_;refine Bh (Gf (l0:=i) (h0:=i+1) (m0:=i+m+1) rfl (.some rfl Af rfl) (.some rfl Af Af) (.some rfl Af rfl) (λ_=>rfl) Af Af Af rfl rfl rfl) ?_;refine gz ?_;refine Cm [6] 8 ([]) ?_;refine pz ?_;apply Eo
 ·exact Gf (l0:=0) (h0:=i) (m0:=cap) (off':=0) (n':=i) (c':=cap) rfl (.none) (.some rfl Af rfl) (.none) (by simp) Af Af Af (by simp) Af Af
 ·rfl
 ·rfl
 ·rfl
 refine pz ?_;apply Eo
 ·exact Gf (l0:=i+1) (h0:=i+m+1) (m0:=cap) (off':=off') (n':=m) rfl (.some rfl Af Af) (.none) (.none) (by simp) Af Af Af hoff Af rfl
 ·rfl
 ·rfl
 ·rfl
 refine pz ?_;apply CM
 ·apply VA (news:=B) (cl:=toArray cur) (cur:=toArray cur)
  ·rfl
  ·rfl
  ·exact Ak
  ·intro j u hj;have kA:=(Ay.1 hj).1;rw[<-hoff,Ab Af,AE,<-hcur,AH (by simp;omega),AY (by simp;omega),show 0+(i+1)*9+j-(A++W).length=j by rw[Ah,hA,hW];omega];exact hj
  ·exact hB
  ·exact wn
  ·omega
  ·rw[hB];simp only[Bv];omega
 ·rfl
 ·rfl
 ·rfl
 ·intro _ _ _ c hc;cases hc
 rintro _ _ ⟨rfl,rfl⟩;have e1:(toArray cur).toList.take (i*9)++B++(toArray cur).toList.drop (i*9+B.length)=A++B++T:=by rw[hB];show cur.take (i*9)++B++cur.drop (i*9+m*9)=_;rw[qF,hT]
 rw[e1];refine pz ?_;refine gz ?_;refine Bh (Gf (l0:=i+m) (h0:=i+m+1) (m0:=cap) (off':=i*9+m*9) (n':=1) rfl (.some rfl Af rfl) (.some rfl Af rfl) (.none) (by simp) Af Af Af (by rw[Ab Af];omega) Af rfl) ?_;refine gz ?_;have AaN:(A++B).length=i*9+m*9:=by rw[Ah];omega
 have eS:Da (toArray (A++B++T)) (i*9+m*9) (List.replicate 1 p7).flatten=toArray (A++B++(p7++T.drop 9)):=by rw[<-AaN];have:=setFrom_mid (List.replicate 1 p7).flatten (A++B) (T.take 9) (T.drop 9) (by rw[Dk];show 9=_;omega);rw[Am (A++B),Cp] at this;rw[this];show _=toArray (A++B++(p7++List.drop 9 T));rw[Am (A++B)];rfl
 apply M9
 ·apply dO (zs:=p7) (cs:=toArray (A++B++T))
  ·rfl
  ·omega
  ·simp[Value.oneCell']
  ·rw[eS];exact .here
  ·simp;omega
 ·rfl
 ·rfl
 rintro _ _ ⟨rfl,rfl⟩;refine gz ?_;refine BE [] rfl .refl (by exact Ba) ⟨[(gb,_)],⟨Af,.inr ⟨gb,cap,p7++T.drop 9,rfl,rfl,Af,UV,?_⟩⟩,rfl⟩;rw[Ah,AaN,Ah,DN];show i*9+m*9+(9+(T.length-9))=_;omega
theorem bN(X:Ac)(v:Value)(i m:Nat)(A W B:Ap)(hA:A.length=i*9)(hW:W.length=9)(hB:B.length=m*9)(wn: ∀u∈B,u.oneCell'=true)(cs F:Ac)(h:OwnSl 100 9 v (i+m+1) (A++W++B) cs)(hn:i+m<=90000):
 Fn prog 388 [v,.int .i64 (i:Nat),.int .i64 ((i:Int)+1)] (X++(cs++F)) λr l'=> ∃cs',OwnSl 100 9 r (i+m) (A++B) cs'/\l'=X++(cs'++F):=
 Fn.re (Keep.in_mid X cs F) (Y8 v i m A W B hA hW hB wn cs (X++F) h hn) λr l' ⟨c2,h2,e⟩=>⟨X++(c2++F),by rw[e];exact Keep.in_mid c2 X F,c2,h2,rfl⟩
theorem drop_any(b:Nat)(S:ArT)(lq:Ac)(hA:IsA b S lq)(id:Int)(F:Ac):
 Fn prog 366 [.pointer (some ⟨b,0,none⟩),.int .i64 id] (lq++F) λv l'=>v= .int .i64 (dropD S id).1/\ ∃DF,IsA b (dropD S id).2 DF/\l'=DF++F:=by
 have NG:=hA;have Eh:=hA.ok.len;have XJ:=rR hA.ok id;obtain⟨Dm,v,cs,rfl,ho⟩:=hA;have cl:=VK S.n S.g v;refine AN func366 ntmps366 λE=>?_;simp only[Ae,Ag];refine Aj ?_;refine Bh (AL rfl rfl λl2 hl=>JU b S _ NG id l2 (λc hc=>hl _ (bH hc))) ?_;unfold dropD at XJ⊢;cases hk:atO S.os id with
 |none=>rw[Oo hk];refine Aj ?_;exact Bb .refl ⟨rfl,_,NG,rfl⟩
 |some k=>rw[Oq hk];rw[hk] at XJ;obtain⟨o,Gc,_⟩:=atO_some hk;have ZT:=(Ay.1 Gc).1;have dv:=ho;rw[iB Gc,show S.os.length=k+(S.os.length-k-1)+1 by omega] at dv;refine Aj ?_;refine AS (Az rfl rfl (bN [TC b S.n S.g v] v k (S.os.length-k-1) (ocs (S.os.take k)) (obC o) (ocs (S.os.drop (k+1))) (by rw[On,Dk];omega) rfl (by rw[On,DN];omega) (dZ _) cs F dv Af)) ?_;rintro v' _ ⟨c2,Fg,rfl⟩;have Jz:v'.oneCell'=true:=Fg.one;simp only[Ae,Ag];refine Aj ?_;refine M9 (Du (b:=b) (off:=65) (cs:=toArray (Yx S.n S.g v)) rfl rfl Jz (by rw[Yy];exact DY) (by rw[Bv,WP];omega)) rfl rfl ?_;rintro _ _ ⟨rfl,rfl⟩;refine Aj ?_;refine Bb .refl ⟨rfl,TC b S.n S.g v'::c2,⟨XJ,v',c2,rfl,?_⟩,rfl⟩;show OwnSl 100 9 v' (S.os.eraseIdx k).length (ocs (S.os.eraseIdx k)) c2;rw[iA _ _ ZT,Ni,Ah,Dk,DN,show min k S.os.length+(S.os.length-(k+1))=k+(S.os.length-k-1) by omega];exact Fg
theorem mark_any(b:Nat)(S:ArT)(lq:Ac)(hA:IsA b S lq)(id m:Int)(F:Ac):
 Fn prog 285 [.pointer (some ⟨b,0,none⟩),.int .i64 id,.int .i64 m] (lq++F) λv l'=>v= .int .i64 (markD' S id m).1/\ ∃DF,IsA b (markD' S id m).2 DF/\l'=DF++F:=by
 have NG:=hA;have Eh:=hA.ok.len;have XJ:=rS hA.ok id m;obtain⟨Dm,v,cs,rfl,ho⟩:=hA;have cl:=VK S.n S.g v;refine AN func285 ntmps285 λE=>?_;simp only[Ae,Ag];refine Aj ?_;refine Bh (AL rfl rfl λl2 hl=>JU b S _ NG id l2 (λc hc=>hl _ (bH hc))) ?_;cases hk:atO S.os id with
 |none=>rw[Oo hk];refine Aj ?_;exact BE [] rfl .refl (by exact Ba) ⟨by rw[V6 hk];rfl,_,by rw[V6 hk];exact NG,rfl⟩
 |some k=>
  rw[Oq hk];obtain⟨o,Gc,_⟩:=atO_some hk;have ZT:=(Ay.1 Gc).1;rcases ho.2 with⟨_,h0,_⟩|⟨gb,cap,sp,rfl,rfl,ZW,UV,NP⟩
  ·omega
  have c1:(toArray (ocs S.os++sp))[k*9+1]?=some (.int .i64 o.kd):=PN Gc sp 1 Af;have c4:(toArray (ocs S.os++sp))[k*9+4]?=some (.int .i64 o.fr):=PN Gc sp 4 Af;simp only[Ae,Ag];by_cases h1:o.kd=1
  ·by_cases h2:m<0
   ·refine Aj ?_;have e:=mU (m:=m) hk Gc h1 (.inl h2);exact BE [] rfl .refl (by exact Ba) ⟨by rw[e];rfl,_,by rw[e];exact NG,rfl⟩
   by_cases h3:m>o.fr
   ·refine Aj ?_;have e:=mU hk Gc h1 (.inr h3);exact BE [] rfl .refl (by exact Ba) ⟨by rw[e];rfl,_,by rw[e];exact NG,rfl⟩
   refine Aj ?_;have hs:=SC (o':=setMa o m) Gc sp 5 (.int .i64 m) Af rfl;refine M9 (Du (b:=gb) (off:=k*9+5) (cs:=toArray (ocs S.os++sp)) rfl rfl rfl (by rw[hs];exact DY) (by rw[Bv,Ah,On];omega)) rfl rfl ?_;rintro _ _ ⟨rfl,rfl⟩;refine Aj ?_;have e:=xO (m:=m) hk Gc h1 Af;rw[e] at XJ⊢;exact Bb .refl ⟨rfl,[TC b S.n S.g (.slice (some ⟨gb,0,none⟩) S.os.length cap),(gb,.cells (toArray (ocs (S.os.set k (setMa o m))++sp)) 100 (0,0))],eC XJ ZW UV NP,rfl⟩
  ·refine Aj ?_;have e:=xN (m:=m) hk Gc h1;exact BE [] rfl .refl (by exact Ba) ⟨by rw[e];rfl,_,by rw[e];exact NG,rfl⟩
theorem place_any(b:Nat)(S:ArT)(lq:Ac)(hA:IsA b S lq)(id s p w:Int)(F:Ac):
 Fn prog 295 [.pointer (some ⟨b,0,none⟩),.int .i64 id,.int .i64 s,.int .i64 p,.int .i64 w] (lq++F) λv l'=>v= .int .i64 (placeD S id s p w).1/\ ∃DF,IsA b (placeD S id s p w).2 DF/\l'=DF++F:=by
 have NG:=hA;have Eh:=hA.ok.len;have XJ:=mS hA.ok id s p w;obtain⟨Dm,v,cs,rfl,ho⟩:=hA;have cl:=VK S.n S.g v;refine AN func295 ntmps295 λE=>?_;simp only[Ae,Ag];refine Aj ?_;refine Bh (AL rfl rfl λl2 hl=>JU b S _ NG id l2 (λc hc=>hl _ (bH hc))) ?_;cases hk:atO S.os id with
 |none=>
  rw[Oo hk];by_cases z1:s=0<;>by_cases z2:p=0;all_goals
   refine Aj ?_;exact BE [] rfl .refl (by exact Ba) ⟨by rw[Uc hk];rfl,_,by rw[Uc hk];exact NG,rfl⟩
 |some k=>
  rw[Oq hk];obtain⟨o,Gc,_⟩:=atO_some hk;have ZT:=(Ay.1 Gc).1;rcases ho.2 with⟨_,h0,_⟩|⟨gb,cap,sp,rfl,rfl,ZW,UV,NP⟩
  ·omega
  have c1:(toArray (ocs S.os++sp))[k*9+1]?=some (.int .i64 o.kd):=PN Gc sp 1 Af;simp only[Ae,Ag];by_cases h1:o.kd=4
  case neg=>
   have e:=rT (s:=s) (p:=p) (v:=w) hk Gc h1;by_cases z1:s=0<;>by_cases z2:p=0;all_goals
    refine Aj ?_;exact BE [] rfl .refl (by exact Ba) ⟨by rw[e];rfl,_,by rw[e];exact NG,rfl⟩
  have Sn:=SC (o':={o with se:=s}) Gc sp 6 (.int .i64 s) Af rfl;have g1:(S.os.set k {o with se:=s})[k]?=some {o with se:=s}:=by rw[CD ZT]
  have M1:=SC (o':={o with se:=s,pg:=p}) g1 sp 7 (.int .i64 p) Af rfl;have g2:((S.os.set k {o with se:=s}).set k {o with se:=s,pg:=p})[k]?=some {o with se:=s,pg:=p}:=by rw[CD (by rw[Ce];exact ZT)]
  have RA:=SC (o':=setPl o s p w) g2 sp 8 (.int .i64 w) Af rfl;rw[KO] at M1 RA;rw[KO] at RA;by_cases hp:SH s p w
  case neg=>
   have e:=rU hk Gc h1 hp;have hN1:¬(s=0/\p=0/\w=0):=λh=>hp (.inl h);have hN2:s<1\/16777215<s\/p<0\/512<=p\/w<1\/2<w:=by
    by_cases z:s<1\/16777215<s\/p<0\/512<=p\/w<1\/2<w
    ·exact z
    ·exact absurd (.inr Af) hp
   clear hp;by_cases z1:s=0
   ·by_cases z2:p=0
    ·have z3:¬w=0:=λh=>hN1 ⟨z1,z2,h⟩;refine Aj ?_;rw[Aw z3,Hp];refine Aj ?_;exact BE [] rfl .refl (by exact Ba) ⟨by rw[e];rfl,_,by rw[e];exact NG,rfl⟩
    ·refine Aj ?_;exact BE [] rfl .refl (by exact Ba) ⟨by rw[e];rfl,_,by rw[e];exact NG,rfl⟩
   by_cases z4:s<1
   case pos=>refine Aj ?_;exact BE [] rfl .refl (by exact Ba) ⟨by rw[e];rfl,_,by rw[e];exact NG,rfl⟩
   by_cases z5:s>16777215
   case pos=>refine Aj ?_;exact BE [] rfl .refl (by exact Ba) ⟨by rw[e];rfl,_,by rw[e];exact NG,rfl⟩
   by_cases z6:p<0
   case pos=>refine Aj ?_;exact BE [] rfl .refl (by exact Ba) ⟨by rw[e];rfl,_,by rw[e];exact NG,rfl⟩
   by_cases z7:p>=512
   case pos=>refine Aj ?_;exact BE [] rfl .refl (by exact Ba) ⟨by rw[e];rfl,_,by rw[e];exact NG,rfl⟩
   by_cases z8:w<1
   case pos=>refine Aj ?_;exact BE [] rfl .refl (by exact Ba) ⟨by rw[e];rfl,_,by rw[e];exact NG,rfl⟩
   have z9:w>2:=by omega
   refine Aj ?_;exact BE [] rfl .refl (by exact Ba) ⟨by rw[e];rfl,_,by rw[e];exact NG,rfl⟩
  have e:=rV hk Gc h1 hp;rw[e] at XJ⊢;rcases hp with⟨z1,z2,z3⟩|z1
  case' inl=>
   refine Aj ?_;rw[Au z3,Bool.not_true]
  all_goals
   refine Aj ?_;refine Cm [20,23,26] 27 ([TC b S.n S.g (.slice (some ⟨gb,0,none⟩) S.os.length cap)]) ?_ (hR:=(C7 (.head _)));refine BM ?_;apply Hy
   ·exact Du (b:=gb) (off:=k*9+6) (cs:=toArray (ocs S.os++sp)) rfl rfl rfl (by rw[Sn];exact DY) (by rw[Bv,Ah,On];omega)
   ·rfl
   ·rfl
   ·rintro _ _ ⟨rfl,rfl⟩ c hc;cases hc with
    |head=>exact .head _
    |tail _ h=>cases h
   ·exact λ_ _ _ x hx ha=>Dh BA hx ha
   rintro _ _ ⟨rfl,rfl⟩;refine BM ?_;apply Hy
   ·exact Du (b:=gb) (off:=k*9+7) (cs:=toArray (ocs (S.os.set k {o with se:=s})++sp)) rfl rfl rfl (by rw[M1];exact DY) (by rw[Bv,Ah,On,Ce];omega)
   ·rfl
   ·rfl
   ·rintro _ _ ⟨rfl,rfl⟩ c hc;cases hc with
    |head=>exact .head _
    |tail _ h=>cases h
   ·exact λ_ _ _ x hx ha=>Dh BA hx ha
   rintro _ _ ⟨rfl,rfl⟩;refine BM ?_;apply Hy
   ·exact Du (b:=gb) (off:=k*9+8) (cs:=toArray (ocs (S.os.set k {o with se:=s,pg:=p})++sp)) rfl rfl rfl (by rw[RA];exact DY) (by rw[Bv,Ah,On,Ce];omega)
   ·rfl
   ·rfl
   ·rintro _ _ ⟨rfl,rfl⟩ c hc;cases hc with
    |head=>exact .head _
    |tail _ h=>cases h
   ·exact λ_ _ _ x hx ha=>Dh BA hx ha
   rintro _ _ ⟨rfl,rfl⟩;refine BM ?_;refine Aj ?_;exact Bb .refl ⟨rfl,[TC b S.n S.g (.slice (some ⟨gb,0,none⟩) S.os.length cap),(gb,.cells (toArray (ocs (S.os.set k (setPl o s p w))++sp)) 100 (0,0))],eC XJ ZW UV NP,rfl⟩
end Ar
abbrev iV(x:Int):Value:= .int .i64 x
abbrev F6(s:Cs):Value:= .agg (toArray (Cw s))
abbrev Xb(c:CapT):Value:= .agg (toArray (B0 c))
abbrev obV(o:Ar.ObT):Value:= .agg (toArray (Ar.obC o))
abbrev Dq(S:KT)(id:Int):Th.ThT:=(Th.findH S.T id).getD Th.thZ
theorem IsK.tO(h:IsK F C k S p s)(id:Int):TW (Dq S id):=by
 unfold Dq;cases hf:Th.findH S.T id with
 |none=>exact⟨JC,JC⟩
 |some t=>exact(h.tw t (Th.findH_some hf).1).1
theorem IsK.tM(h:IsK F C k S p s)(hi:(Th.findH S.T id).isSome=true):Th.mayH (Dq S id)=true/\(Dq S id).id=id:=by
 unfold Dq;cases hf:Th.findH S.T id with
 |none=>rw[hf] at hi;cases hi
 |some t=>exact⟨(h.tw t (Th.findH_some hf).1).2,(Th.findH_some hf).2⟩
theorem IsK.tG(h:IsK F C k S p s)(id:Int):(0<=(Dq S id).gv/\(Dq S id).gv<=4096)/\0<=(Dq S id).inn/\(Dq S id).inn<=4096:=by
 cases hi:(Th.findH S.T id).isSome with
 |true=>have:=(h.tM hi).1;unfold Th.mayH at this;simp only[AV,Bk] at this;omega
 |false=>
  have:Dq S id=Th.thZ:=by
   unfold Dq;cases hf:Th.findH S.T id with
   |none=>rfl
   |some t=>rw[hf] at hi;cases hi
  rw[this];exact⟨⟨by decide,by decide⟩,by decide,by decide⟩
section
theorem IsK.small(h:IsK F C k S p s): ∃m,m+k<=900/\InvH S.H m/\S.H.1.length<=2000/\S.H.2.length<=1000:=let⟨m,h1,h2⟩:=h.inv;⟨m,h1,h2,(h2.small Af).1,(h2.small Af).2.1⟩
theorem IsK.el9(h:IsK F C k S p s): ∀x,x∈S.E->x.2.1.length<=1000000:=λx hx=>by have:=h.el x hx;omega
theorem IsK.ql9(h:IsK F C k S p s): ∀n,n<8->(S.Q n).length<=1000000:=λx hx=>by have:=h.ql x hx;omega
instance[h:IsK F C k S p s]{id:Int}:QF prog 95 [pV p.t,.int .i64 id] (Ax b p s S G) (.tuple #[Th.thV (Dq S id),.bool (Th.findH S.T id).isSome]):=⟨λl hl=>Th.get_any p.t S.T s.T h.th id l (mT hl)⟩
instance[h:IsK F C k S p s]{id:Int}:QF prog 260 [pV p.t,.int .i64 id] (Ax b p s S G) (iV (Th.serverD S.T id)):=⟨λl hl=>Th.server_any p.t S.T s.T h.th (by have:=h.tl;omega) id l (mT hl)⟩
instance[h:IsK F C k S p s]{id:Int}:QF prog 112 [pV p.a,.int .i64 id] (Ax b p s S G) (.tuple #[obV (Ar.getD' S.A id).1,.bool (Ar.getD' S.A id).2]):=⟨λl hl=>Ar.get_any p.a S.A s.A h.ar id l (mA hl)⟩
instance[h:IsK F C k S p s]{f:Int}:QF prog 181 [pV p.a,.int .i64 f] (Ax b p s S G) (iV (Ar.nextD S.A f)):=⟨λl hl=>Ar.next_any p.a S.A s.A h.ar f l (mA hl)⟩
instance[h:IsK F C k S p s]{x:Cs}:QF prog 165 [pV p.h,F6 x] (Ax b p s S G) (.tuple #[Xb (getD' S.H.1 x).1,iV (getD' S.H.1 x).2]):=⟨λl hl=>Jo p.h S.H s.H h.ho x l (mH hl)⟩
instance[h:IsK F C k S p s]{i j:Int}:QF prog 165 [pV p.h,.agg (toArray [.int .i64 i,.int .i64 j])] (Ax b p s S G) (.tuple #[Xb (getD' S.H.1 (i,j)).1,iV (getD' S.H.1 (i,j)).2]):=⟨λl hl=>Jo p.h S.H s.H h.ho (i,j) l (mH hl)⟩
theorem IsH.ulen{n:Nat}{H:HS}{lq:Ac}(hq:IsH b H lq)(hI:InvH H n)(hn:n<=1000):(DM H.1).length<=32000:=by obtain⟨bs,bt,ls,lt,hb⟩:=hq;have h1:=VX λx hx=>(hb.s.sz x hx).2;have h2:=(hI.small hn).1;omega
instance[h:IsK F C k S p s]{x:Cs}:QF prog 326 [pV p.h,F6 x] (Ax b p s S G) (.bool (Ml S.H x)):=⟨λl hl=>let⟨m,h1,h2⟩:=h.inv;bG p.h S.H m h2 Af s.H h.ho x (by have:=IsH.ulen h.ho h2 Af;omega) l (mH hl)⟩
instance[h:IsK F C k S p s]{r:Int}:QF prog 166 [pV p.n,.int .i64 r] (Ax b p s S G) (.tuple #[iV (As.ofP S.N r).1,iV (As.ofP S.N r).2.1,.bool (As.ofP S.N r).2.2]):=⟨λl hl=>As.of_any p.n S.N r l (mN hl)⟩
instance[h:IsK F C k S p s]{r:Int}:QF prog 389 [pV p.n,.int .i64 r] (Ax b p s S G) (.tuple #[iV (As.rootP S.N r).1,iV (As.rootP S.N r).2.1,.bool (As.rootP S.N r).2.2]):=⟨λl hl=>As.root_any p.n S.N r l (mN hl)⟩
instance[h:IsK F C k S p s]:QF prog 102 [pV p.q] (Ax b p s S G) (.tuple #[iV (Qu.firstQ S.Q).1,.bool (Qu.firstQ S.Q).2]):=⟨λl hl=>Qu.first_any p.q S.Q s.Q h.qu l (mQ hl)⟩
end
section
variable{x:Value}
theorem lfT{T':Th.TL}(hK:IsK F C k S p s)(hl:T'.length+k'<=900)(hw: ∀t,t∈T'->TW t/\Th.mayH t=true)(hk:k'<=k)(h: ∀G,Fn prog f vs (s.T++G) λv l'=>v=x/\ ∃DF,Th.IsX p.t T' DF/\l'=DF++G):Fn prog f vs (Ax b p s S G) (KK F C b p k' x {S with T:=T'} G):=
 Fn.re (.of_perm (by unfold Ax;exact BX)) (h (CF b p::As.asA p.n S.N::(s.M++(s.C++(s.A++(s.H++(s.Q++(s.E++(s.V++G))))))))) λv l' ⟨h1,q,h2,h3⟩=>⟨Ax b p {s with T:=q} {S with T:=T'} G,by rw[h3];unfold Ax;exact A8 [],h1,{s with T:=q},G,{hK.mono hk with th:=h2,tl:=hl,tw:=hw},.nil,rfl⟩
theorem lfA{A':Ar.ArT}(hK:IsK F C k S p s)(hk:k'<=k)(ha:A'.n=S.A.n)(hr:rX A')(h: ∀G,Fn prog f vs (s.A++G) λv l'=>v=x/\ ∃DF,Ar.IsA p.a A' DF/\l'=DF++G):Fn prog f vs (Ax b p s S G) (KK F C b p k' x {S with A:=A'} G):=
 Fn.re (.of_perm (by unfold Ax;exact BX)) (h (CF b p::As.asA p.n S.N::(s.M++(s.C++(s.H++(s.T++(s.Q++(s.E++(s.V++G))))))))) λv l' ⟨h1,q,h2,h3⟩=>⟨Ax b p {s with A:=q} {S with A:=A'} G,by rw[h3];unfold Ax;exact A8 [],h1,{s with A:=q},G,{hK.mono hk with ar:=h2,an:=ha.trans hK.an,rad:=hr},.nil,rfl⟩
theorem r7{H':HS}(hK:IsK F C k S p s)(hk:k'<=k)(hi: ∀m,InvH S.H m->InvH H' (m+(k-k')))(h: ∀m G,InvH S.H m->m<=1000->Fn prog f vs (s.H++G) λv l'=>v=x/\ ∃DF,IsH p.h H' DF/\l'=DF++G):Fn prog f vs (Ax b p s S G) (KK F C b p k' x {S with H:=H'} G):=by obtain⟨m,h1,h2⟩:=hK.inv;exact Fn.re (.of_perm (by unfold Ax;exact BX)) (h m (CF b p::As.asA p.n S.N::(s.M++(s.C++(s.A++(s.T++(s.Q++(s.E++(s.V++G)))))))) h2 Af) λv l' ⟨g1,q,g2,g3⟩=>⟨Ax b p {s with H:=q} {S with H:=H'} G,by rw[g3];unfold Ax;exact A8 [],g1,{s with H:=q},G,{hK.mono hk with ho:=g2,inv:=⟨_,Af,hi m h2⟩},.nil,rfl⟩
theorem lfQ{Q':Nat->A4}(hK:IsK F C k S p s)(hk:k'<=k)(hl: ∀n,n<8->(Q' n).length<=(S.Q n).length+(k-k'))(h: ∀G,Fn prog f vs (s.Q++G) λv l'=>v=x/\ ∃DF,Qu.IsQ p.q Q' DF/\l'=DF++G):Fn prog f vs (Ax b p s S G) (KK F C b p k' x {S with Q:=Q'} G):=
 Fn.re (.of_perm (by unfold Ax;exact BX)) (h (CF b p::As.asA p.n S.N::(s.M++(s.C++(s.A++(s.H++(s.T++(s.E++(s.V++G))))))))) λv l' ⟨h1,q,h2,h3⟩=>⟨Ax b p {s with Q:=q} {S with Q:=Q'} G,by rw[h3];unfold Ax;exact A8 [],h1,{s with Q:=q},G,{hK.mono hk with qu:=h2,ql:=λn hn=>by have:=hl n hn;have:=hK.ql n hn;show(Q' n).length+k'<=900;omega},.nil,rfl⟩
theorem lfE{E':En.DE}(hK:IsK F C k S p s)(hk:k'<=k)(hl: ∀y,y∈E'->y.2.1.length+k'<=900)(ho: ∀t,En.OneAt E' t)(h: ∀G,Fn prog f vs (s.E++G) λv l'=>v=x/\ ∃DF,En.IsE p.e E' DF/\l'=DF++G):Fn prog f vs (Ax b p s S G) (KK F C b p k' x {S with E:=E'} G):=
 Fn.re (.of_perm (by unfold Ax;exact BX)) (h (CF b p::As.asA p.n S.N::(s.M++(s.C++(s.A++(s.H++(s.T++(s.Q++(s.V++G))))))))) λv l' ⟨h1,q,h2,h3⟩=>⟨Ax b p {s with E:=q} {S with E:=E'} G,by rw[h3];unfold Ax;exact A8 [],h1,{s with E:=q},G,{hK.mono hk with en:=h2,el:=hl,eo:=ho},.nil,rfl⟩
theorem lfN{N':As.ASt}(hK:IsK F C k S p s)(hk:k'<=k)(hg: ∀n,n<32->0<=N'.given n/\N'.given n+k'<=900)(h: ∀G,Fn prog f vs (As.asA p.n S.N::G) λv l'=>v=x/\l'=As.asA p.n N'::G):Fn prog f vs (Ax b p s S G) (KK F C b p k' x {S with N:=N'} G):=
 Fn.re (.of_perm (by unfold Ax;exact BX)) (h (CF b p::(s.M++(s.C++(s.A++(s.H++(s.T++(s.Q++(s.E++(s.V++G)))))))))) λv l' ⟨h1,h2⟩=>⟨Ax b p s {S with N:=N'} G,by rw[h2];unfold Ax;exact A8 [],h1,_,G,{hK.mono hk with giv:=hg},.nil,rfl⟩
end
section
theorem nf(L:Th.TL)(t:Th.ThT):(Th.setD L t).2.length=L.length:=by unfold Th.setD Th.putH;split<;>simp
theorem ng(L:Th.TL)(t:Th.ThT):(Th.insH L t).length=L.length+1:=by unfold Th.insH;have:=BI List.length (Cd (p:=λx:Th.ThT=>decide (x.id<t.id)) (l:=L));simp only[Ah,Bu] at this⊢;omega
abbrev TWs(L:Th.TL):Prop:= ∀t,t∈L->TW t/\Th.mayH t=true
theorem xS{L:Th.TL}{t:Th.ThT}(h:TWs L)(ht:TW t)(hu:u∈(Th.setD L t).2):TW u/\Th.mayH u=true:=by
 unfold Th.setD Th.putH at hu
 split at hu
 ·rename_i hm;obtain⟨y,hy,rfl⟩:=Av.1 hu
  split
  ·exact⟨ht,hm.2⟩
  ·exact h y hy
 ·exact h u hu
theorem xT{L:Th.TL}(h:TWs L)(hu:u∈(Th.addD L id).2):TW u/\Th.mayH u=true:=by
 unfold Th.addD at hu
 split at hu
 ·exact h u hu
 rename_i h1
 split at hu
 ·exact h u hu
 unfold Th.insH at hu;rcases AF.1 hu with hu|hu
 ·exact h u (List.takeWhile_subset _ hu)
 ·rcases At.1 hu with rfl|hu
  ·exact⟨⟨JC,JC⟩,by unfold Th.mayH;simp;omega⟩
  ·exact h u (List.dropWhile_subset _ hu)
theorem r8{L:Th.TL}(h:TWs L)(hu:u∈(Th.dropD L id).2):TW u/\Th.mayH u=true:=by
 unfold Th.dropD at hu
 split at hu
 ·exact h u (BY.1 hu).1
 ·exact h u hu
instance{t:Th.ThT}[ht:TW t]:EK prog F C b p 96 [pV p.t,Th.thV t] k S k (iV (Th.setD S.T t).1) {S with T:=(Th.setD S.T t).2}:=⟨λs G h=>lfT h (by rw[nf];exact h.tl) (λu hu=>xS h.tw ht hu) (Bf _) λG=>Th.set_any p.t S.T s.T h.th t G⟩
instance{id:Int}:EK prog F C b p 367 [pV p.t,.int .i64 id] k S k (iV (Th.dropD S.T id).1) {S with T:=(Th.dropD S.T id).2}:=⟨λs G h=>lfT h (by have:=h.tl;have:=C8 (λx:Th.ThT=>decide (x.id≠id)) S.T;unfold Th.dropD;split<;>(simp only;omega)) (λu hu=>r8 h.tw hu) Af λG=>Th.drop_any p.t S.T s.T h.th id G⟩
theorem Xc{X:Nat->A4}{q:Nat}{Y:A4}(h:Y.length<=(X q).length+m)(n:Nat):(Qu.upd X q Y n).length<=(X n).length+m:=by
 unfold Qu.upd;split
 ·rename_i e;subst e;exact h
 ·omega
instance{id pr:Int}:EK prog F C b p 151 [pV p.q,.int .i64 id,.int .i64 pr] (k+1) S k (iV (Qu.addQ S.Q id pr).1) {S with Q:=(Qu.addQ S.Q id pr).2}:=⟨λs G h=>lfQ h Af (λn _=>by unfold Qu.addQ;(repeat' split);all_goals first|(exact Xc (by rw[Ah,Bl];omega) n)|(simp only;omega)) λG=>Qu.add_any p.q S.Q s.Q id pr h.qu h.ql9 G⟩
instance{id:Int}:EK prog F C b p 152 [pV p.q,.int .i64 id] k S k (.bool (Qu.dropQ S.Q id).1) {S with Q:=(Qu.dropQ S.Q id).2}:=⟨λs G h=>lfQ h Af (λn _=>by unfold Qu.dropQ;split;exact Xc (by rw[Ga];split<;>omega) n;simp) λG=>Qu.drop_any p.q S.Q s.Q id h.qu h.ql9 G⟩
theorem nh(X:Nat->A4)(id:Int)(n:Nat):((Qu.backQ X id).2 n).length<=(X n).length:=by
 unfold Qu.backQ
 split
 ·rename_i q hq;have hm:id∈X q:=by unfold Qu.findP at hq;simpa using Et hq
  have hi:=Hg hm;refine Xc (m:=0) ?_ n;rw[Ah,Ga,Ad hi,Bl];omega
 ·simp
instance{id:Int}:EK prog F C b p 302 [pV p.q,.int .i64 id] k S k (.bool (Qu.backQ S.Q id).1) {S with Q:=(Qu.backQ S.Q id).2}:=⟨λs G h=>lfQ h Af (λn _=>by have:=nh S.Q id n;omega) λG=>Qu.back_any p.q S.Q s.Q id h.qu h.ql9 G⟩
theorem sa(h:En.OneAt D t):En.OneAt (En.addD D id).2 t:=by
 unfold En.addD
 repeat' split
 ·exact h
 ·exact h
 ·intro x y hx hy h1 h2;rcases AF.1 hx with hx|hx
  ·rcases AF.1 hy with hy|hy
   ·exact h x y hx hy h1 h2
   ·rw[AC.1 hy] at h2;cases h2
  ·rw[AC.1 hx] at h1;cases h1
instance{id:Int}:EK prog F C b p 141 [pV p.e,.int .i64 id] k S k (iV (En.addD S.E id).1) {S with E:=(En.addD S.E id).2}:=⟨λs G h=>lfE h Af (λy hy=>by
 have h9:=h.tl;unfold En.addD at hy
 split at hy
 ·exact h.el y hy
 split at hy
 ·exact h.el y hy
 rcases AF.1 hy with hy|hy
 ·exact h.el y hy
 ·rw[AC.1 hy];simp;omega) (λt=>sa (h.eo t)) λG=>En.add_any p.e S.E s.E id h.en G⟩
theorem eK(h:En.OneAt D t)(hY:t∈Y.1-> ∀x,x∈D->t∈x.2.1->x.1=id):En.OneAt (En.updD D id Y) t:=by
 have key: ∀x,x∈En.updD D id Y->t∈x.2.1->(∃y,y∈D/\y.1=x.1/\t∈y.2.1)\/(x.1=id/\t∈Y.1):=λx hx ht=>by
  obtain⟨y,hy,rfl⟩:=Av.1 hx
  split at ht
  ·rename_i e;rw[Ad e];exact .inr ⟨e,ht⟩
  ·rename_i e;rw[Ab e];exact .inl ⟨y,hy,rfl,ht⟩
 intro x y hx hy h1 h2;rcases key x hx h1 with⟨a,a1,a2,a3⟩|⟨a2,a3⟩<;>rcases key y hy h2 with⟨c,c1,c2,c3⟩|⟨c2,c3⟩
 ·rw[<-a2,<-c2];exact h a c a1 c1 a3 c3
 ·rw[<-a2,c2];exact hY c3 a a1 a3
 ·rw[<-c2,a2];exact(hY a3 c c1 c3).symm
 ·rw[a2,c2]
theorem eM(h: ∀x,x∈D->x.2.1.length<=m)(hY:Y.1.length<=m): ∀x,x∈En.updD D id Y->x.2.1.length<=m:=λx hx=>by
 obtain⟨y,hy,rfl⟩:=Av.1 hx
 split
 ·exact hY
 ·exact h y hy
theorem Y9(h:En.findD D id=some Y):(id,Y)∈D:=by
 unfold En.findD at h;obtain⟨x,h1,rfl⟩:=Ea.1 h;have:=Et h1;have e:x.1=id:=by simpa using this
 rw[<-e];exact Bt h1
instance{id t:Int}{sd:Bool}:EK prog F C b p 264 [pV p.e,.int .i64 id,.int .i64 t,.bool sd] (k+1) S k (iV (En.waitD S.E id t sd).1) {S with E:=(En.waitD S.E id t sd).2}:=⟨λs G h=>lfE h Af (λy hy=>by
 have h9:=λy hy=>h.el y hy;unfold En.waitD at hy
 split at hy
 ·have:=h9 y hy;omega
 rename_i x hx
 split at hy
 ·have:=h9 y hy;omega
 split at hy
 ·have:=h9 y hy;omega
 split at hy
 ·have:=h9 y hy;omega
 have:=eM (m:=900-k) (λx hx=>by have:=h9 x hx;omega) (by have:=h9 _ (Y9 hx);simp at this⊢;omega) y hy;have:=h.tl;omega) (λu=>by
 unfold En.waitD
 split
 ·exact h.eo u
 rename_i x hx
 repeat' split
 any_goals exact h.eo u
 rename_i hn _;refine eK (h.eo u) λhu y hy S8=>?_;rcases AF.1 hu with hu|hu
 ·exact h.eo u y _ hy (Y9 hx) S8 hu
 ·rw[AC] at hu;subst hu;exact absurd (HP.2 ⟨y,hy,by simpa using S8⟩) hn) λG=>En.wait_any p.e S.E s.E id t sd h.en h.el9 G⟩
end
theorem Uk(b:Nat)(p:RP)(l:Ac)(hm:CF b p∈l):Fn prog 136 [pV b] l λv l'=>v=pV p.a/\l'=l:=by refine AN func136 ntmps136 λE=>?_;exact E3
theorem DZ(b:Nat)(p:RP)(l:Ac)(hm:CF b p∈l):Fn prog 143 [pV b] l λv l'=>v=pV p.h/\l'=l:=by refine AN func143 ntmps143 λE=>?_;exact E3
theorem Lu(b:Nat)(p:RP)(l:Ac)(hm:CF b p∈l):Fn prog 146 [pV b] l λv l'=>v=pV p.n/\l'=l:=by refine AN func146 ntmps146 λE=>?_;exact E3
theorem Nv(b:Nat)(p:RP)(l:Ac)(hm:CF b p∈l):Fn prog 94 [pV b] l λv l'=>v=pV p.t/\l'=l:=by refine AN func94 ntmps94 λE=>?_;exact E3
def JK(R:RT)(k s f:Int):(Int×Int)×RT:=
 if(Ar.addD R.A k s f).1.2=0 then
  (((Ar.addD R.A k s f).1.1,0),⟨(Ar.addD R.A k s f).2,(if 0<Ar.slotsD k s then((Hn R.H.1 (Ar.addD R.A k s f).1.1 (Ar.slotsD k s)).2,R.H.2) else R.H),R.N,(if k=9 then(Th.addD R.T (Ar.addD R.A k s f).1.1).2 else R.T),R.Q,(if k=8 then(En.addD R.E (Ar.addD R.A k s f).1.1).2 else R.E)⟩)
 else((0,(Ar.addD R.A k s f).1.2),{R with A:=(Ar.addD R.A k s f).2})
theorem AbR(S:Ar.ArT)(k s f:Int):(Ar.addD S k s f).2.n=S.n:=by unfold Ar.addD;split<;>rfl
theorem sc{S:Ar.ArT}{k s f:Int}(h:(Ar.addD S k s f).1.2=0):0<=f/\f<=S.n-Ar.framesD k s/\1<=Ar.framesD k s:=by
 have h1:=Ar.frames_rng k s;unfold Ar.addD at h;by_cases h0:Ar.addE S k s f=0
 ·unfold Ar.addE at h0;by_cases h2:Ar.framesD k s=0
  ·rw[Ad h2] at h0;omega
  ·rw[Ab h2] at h0;by_cases h3:f<0\/f>S.n-Ar.framesD k s
   ·rw[Ad h3] at h0;omega
   ·omega
 ·rw[Ab h0] at h;exact absurd h h0
theorem IsRl.mono{R:RT}(h:IsRl F C k R p s)(hm:k<=m):IsRl F C m R p s:=
 ⟨h.mem,h.co,h.ar,h.an,h.ho,h.inv.mono hm,λn hn=>by have:=h.giv n hn;omega,h.th,h.qu,λn hn=>BV (h.ql n hn) hm,h.en,h.cu,h.c1⟩
theorem ni(F C n:Nat)(R:RT)(b:Nat)(p:RP)(s:RL)(hR:IsRl F C n R p s)(hn:n<=900)(k z f:Int)(G:Ac):Fn prog 91 [pV b,.int .i64 k,.int .i64 z,.int .i64 f] (CB b p s R G) λv l'=>
 v= .tuple #[.int .i64 (JK R k z f).1.1,.int .i64 (JK R k z f).1.2]/\ ∃s' X,IsRl F C (n+1) (JK R k z f).2 p s'/\l'=CB b p s' (JK R k z f).2 (X++G):=by
 have hF:=hR.mem.2.1;refine AN func91 ntmps91 λE=>?_;unfold CB;refine Aj ?_;refine AS (Az rfl rfl (Uk b p _ (.head _))) ?_;rintro _ _ ⟨rfl,rfl⟩;refine Aj ?_;refine Bs (l':=s.A++(CF b p::As.asA p.n R.N::(s.M++(s.C++(s.H++(s.T++(s.Q++(s.E++(s.V++G))))))))) (A8 []) ?_;refine AS (Az rfl rfl (Ar.add_any p.a R.A s.A hR.ar k z f _)) ?_;rintro _ _ ⟨rfl,lA,hA,rfl⟩;refine Bs (l':=CF b p::As.asA p.n R.N::(s.M++(s.C++(lA++(s.H++(s.T++(s.Q++(s.E++(s.V++G))))))))) (A8 []) ?_;obtain⟨id,Vr⟩: ∃x,x=(Ar.addD R.A k z f).1.1:=⟨_,rfl⟩
 obtain⟨er,her⟩: ∃x,x=(Ar.addD R.A k z f).1.2:=⟨_,rfl⟩
 have uz:(Ar.addD R.A k z f).2.n=F:=by rw[AbR];exact hR.an
 rw[<-Vr,<-her];have jO:JK R k z f=if er=0 then((id,0),(⟨(Ar.addD R.A k z f).2,(if 0<Ar.slotsD k z then((Hn R.H.1 id (Ar.slotsD k z)).2,R.H.2) else R.H),R.N,(if k=9 then(Th.addD R.T id).2 else R.T),R.Q,(if k=8 then(En.addD R.E id).2 else R.E)⟩:RT)) else((0,er),{R with A:=(Ar.addD R.A k z f).2}):=by unfold JK;rw[<-Vr,<-her]
 by_cases he:er=0
 ·rw[Ad he] at jO;rw[jO];obtain⟨r1,r2,r3⟩:=sc (her.symm.trans he);rw[hR.an] at r2;obtain⟨f',rfl⟩: ∃f':Nat,f=f':=⟨f.toNat,Af⟩
  obtain⟨fr,pP⟩: ∃fr:Nat,Ar.framesD k z=fr:=⟨(Ar.framesD k z).toNat,Af⟩
  refine Aj ?_;by_cases h1:k=1
  ·have uk:Ar.slotsD k z=0:=by unfold Ar.slotsD;rw[Ab Af,Ab Af]
   have hs:¬0<Ar.slotsD k z:=by omega
   have gr:(if 0<Ar.slotsD k z then((Hn R.H.1 id (Ar.slotsD k z)).2,R.H.2) else R.H)=R.H:=Ab hs;have Q8:(if k=9 then(Th.addD R.T id).2 else R.T)=R.T:=Ab Af;have gA:(if k=8 then(En.addD R.E id).2 else R.E)=R.E:=Ab Af;rw[gr,Q8,gA];refine Aj ?_;refine AS (Az rfl rfl (Ar.slots_any k z _)) ?_;rintro _ _ ⟨rfl,rfl⟩;refine Aj ?_;refine Aj ?_;refine Bb (l':=CB b p ⟨s.M,s.C,lA,s.H,s.T,s.Q,s.E,s.V⟩ ⟨(Ar.addD R.A k z (f':Nat)).2,R.H,R.N,R.T,R.Q,R.E⟩ (([])++G)) (by unfold CB;exact A8 []) ?_;refine⟨rfl,⟨s.M,s.C,lA,s.H,s.T,s.Q,s.E,s.V⟩,[],?_,rfl⟩;exact⟨hR.mem,hR.co,hA,uz,hR.ho,hR.inv.mono Af,λj hj=>by have:=hR.giv j hj;simp only;omega,hR.th,hR.qu,λj hj=>BV (hR.ql j hj) Af,hR.en,hR.cu,hR.c1⟩
  refine Aj ?_;refine Em (l':=s.M++(CF b p::As.asA p.n R.N::(s.C++(lA++(s.H++(s.T++(s.Q++(s.E++(s.V++G))))))))) (A8 []) ?_;refine Cm [8] 9 ([CF b p]) ?_ (hR:=(C7 (Aa _ (.head _))));refine BM ?_;apply Eo
  ·exact AL rfl rfl (λl hl=>Ar.frames_any k z l)
  ·rfl
  ·rfl
  ·rfl
  refine BM ?_;apply CM
  ·exact Az rfl rfl (by rw[pP];exact gQ p.m F f' fr s.M hR.mem Af Af _)
  ·rfl
  ·rfl
  ·rfl
  ·rintro _ _ ⟨_,X,rfl⟩;exact C7 (Aa _ (Aa _ (.head _)))
  rintro _ _ ⟨rfl,X,rfl⟩;refine BM ?_;refine Aj ?_;refine AS (Az rfl rfl (Ar.slots_any k z _)) ?_;rintro _ _ ⟨rfl,rfl⟩;refine Aj ?_;by_cases hs:0<Ar.slotsD k z
  ·by_cases h9:k=9
   ·have gr:(if 0<Ar.slotsD k z then((Hn R.H.1 id (Ar.slotsD k z)).2,R.H.2) else R.H)=((Hn R.H.1 id (Ar.slotsD k z)).2,R.H.2):=Ad hs;have Q8:(if k=9 then(Th.addD R.T id).2 else R.T)=(Th.addD R.T id).2:=Ad Af;have gA:(if k=8 then(En.addD R.E id).2 else R.E)=R.E:=Ab Af;rw[gr,Q8,gA];refine Aj ?_;refine Bs (l':=CF b p::As.asA p.n R.N::(s.M++(s.C++(lA++(s.H++(s.T++(s.Q++(s.E++(s.V++(X++G)))))))))) (A8 []) ?_;refine Aj ?_;refine Bs (l':=s.H++(CF b p::As.asA p.n R.N::(s.M++(s.C++(lA++(s.T++(s.Q++(s.E++(s.V++(X++G)))))))))) (A8 []) ?_;refine AS (Az rfl rfl (O9 p.h R.H s.H hR.ho id (Ar.slotsD k z) _)) ?_;rintro _ _ ⟨rfl,lH,hH,rfl⟩;refine Bs (l':=CF b p::As.asA p.n R.N::(s.M++(s.C++(lA++(lH++(s.T++(s.Q++(s.E++(s.V++(X++G)))))))))) (A8 []) ?_;refine Aj ?_;refine Bs (l':=s.T++(CF b p::As.asA p.n R.N::(s.M++(s.C++(lA++(lH++(s.Q++(s.E++(s.V++(X++G)))))))))) (A8 []) ?_;refine AS (Az rfl rfl (Th.add_any p.t R.T s.T hR.th id _)) ?_;rintro _ _ ⟨rfl,lT,hT,rfl⟩;refine Aj ?_;refine Bb (l':=CB b p ⟨s.M,s.C,lA,lH,lT,s.Q,s.E,s.V⟩ ⟨(Ar.addD R.A k z (f':Nat)).2,((Hn R.H.1 id (Ar.slotsD k z)).2,R.H.2),R.N,(Th.addD R.T id).2,R.Q,R.E⟩ ((X)++G)) (by unfold CB;exact A8 []) ?_;refine⟨rfl,⟨s.M,s.C,lA,lH,lT,s.Q,s.E,s.V⟩,X,?_,rfl⟩;exact⟨hR.mem,hR.co,hA,uz,hH,hR.inv.add _ _,λj hj=>by have:=hR.giv j hj;simp only;omega,hT,hR.qu,λj hj=>BV (hR.ql j hj) Af,hR.en,hR.cu,hR.c1⟩
   by_cases h8:k=8
   ·have gr:(if 0<Ar.slotsD k z then((Hn R.H.1 id (Ar.slotsD k z)).2,R.H.2) else R.H)=((Hn R.H.1 id (Ar.slotsD k z)).2,R.H.2):=Ad hs;have Q8:(if k=9 then(Th.addD R.T id).2 else R.T)=R.T:=Ab Af;have gA:(if k=8 then(En.addD R.E id).2 else R.E)=(En.addD R.E id).2:=Ad Af;rw[gr,Q8,gA];refine Aj ?_;refine Bs (l':=CF b p::As.asA p.n R.N::(s.M++(s.C++(lA++(s.H++(s.T++(s.Q++(s.E++(s.V++(X++G)))))))))) (A8 []) ?_;refine Aj ?_;refine Bs (l':=s.H++(CF b p::As.asA p.n R.N::(s.M++(s.C++(lA++(s.T++(s.Q++(s.E++(s.V++(X++G)))))))))) (A8 []) ?_;refine AS (Az rfl rfl (O9 p.h R.H s.H hR.ho id (Ar.slotsD k z) _)) ?_;rintro _ _ ⟨rfl,lH,hH,rfl⟩;refine Bs (l':=CF b p::As.asA p.n R.N::(s.M++(s.C++(lA++(lH++(s.T++(s.Q++(s.E++(s.V++(X++G)))))))))) (A8 []) ?_;refine Aj ?_;refine Bs (l':=s.E++(CF b p::As.asA p.n R.N::(s.M++(s.C++(lA++(lH++(s.T++(s.Q++(s.V++(X++G)))))))))) (A8 []) ?_;refine AS (Az rfl rfl (En.add_any p.e R.E s.E id hR.en _)) ?_;rintro _ _ ⟨rfl,lE,hE,rfl⟩;refine Aj ?_;refine Bb (l':=CB b p ⟨s.M,s.C,lA,lH,s.T,s.Q,lE,s.V⟩ ⟨(Ar.addD R.A k z (f':Nat)).2,((Hn R.H.1 id (Ar.slotsD k z)).2,R.H.2),R.N,R.T,R.Q,(En.addD R.E id).2⟩ ((X)++G)) (by unfold CB;exact A8 []) ?_;refine⟨rfl,⟨s.M,s.C,lA,lH,s.T,s.Q,lE,s.V⟩,X,?_,rfl⟩;exact⟨hR.mem,hR.co,hA,uz,hH,hR.inv.add _ _,λj hj=>by have:=hR.giv j hj;simp only;omega,hR.th,hR.qu,λj hj=>BV (hR.ql j hj) Af,hE,hR.cu,hR.c1⟩
   have gr:(if 0<Ar.slotsD k z then((Hn R.H.1 id (Ar.slotsD k z)).2,R.H.2) else R.H)=((Hn R.H.1 id (Ar.slotsD k z)).2,R.H.2):=Ad hs;have Q8:(if k=9 then(Th.addD R.T id).2 else R.T)=R.T:=Ab Af;have gA:(if k=8 then(En.addD R.E id).2 else R.E)=R.E:=Ab Af;rw[gr,Q8,gA];refine Aj ?_;refine Bs (l':=CF b p::As.asA p.n R.N::(s.M++(s.C++(lA++(s.H++(s.T++(s.Q++(s.E++(s.V++(X++G)))))))))) (A8 []) ?_;refine Aj ?_;refine Bs (l':=s.H++(CF b p::As.asA p.n R.N::(s.M++(s.C++(lA++(s.T++(s.Q++(s.E++(s.V++(X++G)))))))))) (A8 []) ?_;refine AS (Az rfl rfl (O9 p.h R.H s.H hR.ho id (Ar.slotsD k z) _)) ?_;rintro _ _ ⟨rfl,lH,hH,rfl⟩;refine Aj ?_;refine Bb (l':=CB b p ⟨s.M,s.C,lA,lH,s.T,s.Q,s.E,s.V⟩ ⟨(Ar.addD R.A k z (f':Nat)).2,((Hn R.H.1 id (Ar.slotsD k z)).2,R.H.2),R.N,R.T,R.Q,R.E⟩ ((X)++G)) (by unfold CB;exact A8 []) ?_;refine⟨rfl,⟨s.M,s.C,lA,lH,s.T,s.Q,s.E,s.V⟩,X,?_,rfl⟩;exact⟨hR.mem,hR.co,hA,uz,hH,hR.inv.add _ _,λj hj=>by have:=hR.giv j hj;simp only;omega,hR.th,hR.qu,λj hj=>BV (hR.ql j hj) Af,hR.en,hR.cu,hR.c1⟩
  ·by_cases h9:k=9
   ·have gr:(if 0<Ar.slotsD k z then((Hn R.H.1 id (Ar.slotsD k z)).2,R.H.2) else R.H)=R.H:=Ab hs;have Q8:(if k=9 then(Th.addD R.T id).2 else R.T)=(Th.addD R.T id).2:=Ad Af;have gA:(if k=8 then(En.addD R.E id).2 else R.E)=R.E:=Ab Af;rw[gr,Q8,gA];refine Aj ?_;refine Bs (l':=CF b p::As.asA p.n R.N::(s.M++(s.C++(lA++(s.H++(s.T++(s.Q++(s.E++(s.V++(X++G)))))))))) (A8 []) ?_;refine Aj ?_;refine Bs (l':=s.T++(CF b p::As.asA p.n R.N::(s.M++(s.C++(lA++(s.H++(s.Q++(s.E++(s.V++(X++G)))))))))) (A8 []) ?_;refine AS (Az rfl rfl (Th.add_any p.t R.T s.T hR.th id _)) ?_;rintro _ _ ⟨rfl,lT,hT,rfl⟩;refine Aj ?_;refine Bb (l':=CB b p ⟨s.M,s.C,lA,s.H,lT,s.Q,s.E,s.V⟩ ⟨(Ar.addD R.A k z (f':Nat)).2,R.H,R.N,(Th.addD R.T id).2,R.Q,R.E⟩ ((X)++G)) (by unfold CB;exact A8 []) ?_;refine⟨rfl,⟨s.M,s.C,lA,s.H,lT,s.Q,s.E,s.V⟩,X,?_,rfl⟩;exact⟨hR.mem,hR.co,hA,uz,hR.ho,hR.inv.mono Af,λj hj=>by have:=hR.giv j hj;simp only;omega,hT,hR.qu,λj hj=>BV (hR.ql j hj) Af,hR.en,hR.cu,hR.c1⟩
   by_cases h8:k=8
   ·have gr:(if 0<Ar.slotsD k z then((Hn R.H.1 id (Ar.slotsD k z)).2,R.H.2) else R.H)=R.H:=Ab hs;have Q8:(if k=9 then(Th.addD R.T id).2 else R.T)=R.T:=Ab Af;have gA:(if k=8 then(En.addD R.E id).2 else R.E)=(En.addD R.E id).2:=Ad Af;rw[gr,Q8,gA];refine Aj ?_;refine Bs (l':=CF b p::As.asA p.n R.N::(s.M++(s.C++(lA++(s.H++(s.T++(s.Q++(s.E++(s.V++(X++G)))))))))) (A8 []) ?_;refine Aj ?_;refine Bs (l':=s.E++(CF b p::As.asA p.n R.N::(s.M++(s.C++(lA++(s.H++(s.T++(s.Q++(s.V++(X++G)))))))))) (A8 []) ?_;refine AS (Az rfl rfl (En.add_any p.e R.E s.E id hR.en _)) ?_;rintro _ _ ⟨rfl,lE,hE,rfl⟩;refine Aj ?_;refine Bb (l':=CB b p ⟨s.M,s.C,lA,s.H,s.T,s.Q,lE,s.V⟩ ⟨(Ar.addD R.A k z (f':Nat)).2,R.H,R.N,R.T,R.Q,(En.addD R.E id).2⟩ ((X)++G)) (by unfold CB;exact A8 []) ?_;refine⟨rfl,⟨s.M,s.C,lA,s.H,s.T,s.Q,lE,s.V⟩,X,?_,rfl⟩;exact⟨hR.mem,hR.co,hA,uz,hR.ho,hR.inv.mono Af,λj hj=>by have:=hR.giv j hj;simp only;omega,hR.th,hR.qu,λj hj=>BV (hR.ql j hj) Af,hE,hR.cu,hR.c1⟩
   have gr:(if 0<Ar.slotsD k z then((Hn R.H.1 id (Ar.slotsD k z)).2,R.H.2) else R.H)=R.H:=Ab hs;have Q8:(if k=9 then(Th.addD R.T id).2 else R.T)=R.T:=Ab Af;have gA:(if k=8 then(En.addD R.E id).2 else R.E)=R.E:=Ab Af;rw[gr,Q8,gA];refine Aj ?_;refine Aj ?_;refine Bb (l':=CB b p ⟨s.M,s.C,lA,s.H,s.T,s.Q,s.E,s.V⟩ ⟨(Ar.addD R.A k z (f':Nat)).2,R.H,R.N,R.T,R.Q,R.E⟩ ((X)++G)) (by unfold CB;exact A8 []) ?_;refine⟨rfl,⟨s.M,s.C,lA,s.H,s.T,s.Q,s.E,s.V⟩,X,?_,rfl⟩;exact⟨hR.mem,hR.co,hA,uz,hR.ho,hR.inv.mono Af,λj hj=>by have:=hR.giv j hj;simp only;omega,hR.th,hR.qu,λj hj=>BV (hR.ql j hj) Af,hR.en,hR.cu,hR.c1⟩
 ·rw[Ab he] at jO;rw[jO];refine Aj ?_;exact BE [] rfl (l':=CB b p ⟨s.M,s.C,lA,s.H,s.T,s.Q,s.E,s.V⟩ {R with A:=(Ar.addD R.A k z f).2} ([]++G)) (by unfold CB;exact A8 []) (by exact Ba) ⟨rfl,_,_,(⟨hR.mem,hR.co,hA,uz,hR.ho,hR.inv,hR.giv,hR.th,hR.qu,hR.ql,hR.en,hR.cu,hR.c1⟩:IsRl F C n {R with A:=(Ar.addD R.A k z f).2} p ⟨s.M,s.C,lA,s.H,s.T,s.Q,s.E,s.V⟩).mono Af,rfl⟩
end Go.Proofs.YtlifcingifodfaaGreat
