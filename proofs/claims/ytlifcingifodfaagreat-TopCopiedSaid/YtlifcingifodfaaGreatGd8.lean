/- Laws. -/
import Derived.Test.YtlifcingifodfaaGreatGd7
import Derived.Shelf.SortM.Plain
import Derived.Shelf.SortM.SortNone
set_option maxHeartbeats 4000000
set_option linter.all false
namespace Go.Proofs.YtlifcingifodfaaGreat
open Tryz
open List renaming toArray→τ
open Go.RowKit
set_option maxRecDepth 20000
theorem Uf{c:CapT}(h:JA c)(DH:Int)(Ez:Nat):JA (HT c DH Ez).1:=by
 have hz:JA Cu:=⟨by decide,by decide⟩
 have hw:=Nw h DH;unfold HT
 split
 ·exact hz
 unfold Ud
 split
 ·split
  ·exact hz
  ·split
   ·exact hz
   ·exact⟨by simp only;omega,hw.guard⟩
 split
 ·split
  ·exact hz
  ·split
   ·exact hz
   ·exact⟨hw.badge,by simp only;omega⟩
 split
 ·exact hz
 ·exact hw
theorem np(c:CapT)(hw:JA c)(DH:Int)(Ez:Nat)(hd:Ez<18446744073709551616)(l:Ac):Fn prog 196 [.agg (τ (Cb c)),ι DH,υ (Ez:Nat)] l λv l'=>v= .tuple #[.agg (τ (Cb (HT c DH Ez).1)),ι (HT c DH Ez).2]/\l'=l:=by
 refine AO func196 ntmps196 λE=>?_;refine AR λb3=>?_;refine AR λb6=>?_;refine Be (AI rfl rfl λl2 _=>OQ c hw DH l2) ?_;have rI:=Nw hw DH;have hce:= @yQ c DH;unfold HT;obtain⟨d,rx⟩:=ξ ((Ea c DH).1)
 obtain⟨e,he0⟩:=ξ ((Ea c DH).2)
 rw[rx] at rI;rw[rx,he0] at hce⊢;refine AR λb8=>?_;have hK: ∀(d2 c6:CapT),Keep (Bw b8 d2::Bw b6 c6::Bw b3 c::l) (Bw b6 c6::l):=λ_ _=> .drop (.pick .here ζ);by_cases he:e≠0
 ·rw[Ad he];refine Aj ?_;exact CY (l':=l) (Bw b6 Cu::l) (hK d Cu) ζ ⟨rfl,rfl⟩
 rw[Ab he];have xX:e=0:=by simpa using he
 clear he;subst xX;refine Aj ?_;refine CF (α:=Unit) (λ_=>[(2,υ (Ez:Nat)),(6,π b6),(8,π b8),(9,ι 0),(24,ι 0)]) (λ_=>Bw b8 d::Bw b6 Cu::Bw b3 c::l) (λ_=>True) (λ_=>0) () trivial ⟨rfl,rfl,rfl,rfl,rfl,trivial⟩ .refl ?_;rintro _ _;unfold Ud;by_cases k8:d.kind=8
 ·rw[Ad k8];by_cases h1:Ez>16777215
  ·rw[Ad h1];refine Aj ?_;exact CY (l':=l) (Bw b6 Cu::l) (hK d Cu) ζ ⟨rfl,rfl⟩
  rw[Ab h1];by_cases h2:d.badge≠0
  ·rw[Ad h2];refine Aj ?_;exact CY (l':=l) (Bw b6 Cu::l) (hK d Cu) ζ ⟨rfl,rfl⟩
  rw[Ab h2];refine Aj ?_;exact CY (l':=l) (Bw b6 ⟨d.kind,d.obj,d.rights,((Ez:Nat):Int),d.guard,d.bits,d.serial,d.page⟩::l) (hK ⟨d.kind,d.obj,d.rights,((Ez:Nat):Int),d.guard,d.bits,d.serial,d.page⟩ ⟨d.kind,d.obj,d.rights,((Ez:Nat):Int),d.guard,d.bits,d.serial,d.page⟩) ζ ⟨rfl,rfl⟩
 rw[Ab k8];by_cases k2:d.kind=2
 ·rw[Ad k2];refine Aj ?_;refine Be (AI rfl rfl λl2 _=>J6 Ez 0 12 hd A0 A0 A0 l2) ?_;refine Aj ?_;refine Be (AI rfl rfl λl2 _=>J6 Ez 12 4 hd A0 A0 A0 l2) ?_;have f1:DF Ez 0 12=Ez%4096:=by unfold DF;rw[Nat.pow_zero,Nat.div_one]
  have f2:DF Ez 12 4=Ez/4096%16:=rfl;rw[f1,f2];refine Aj ?_;refine Be (AI rfl rfl λl2 _=>QZ Ez hd 16 l2) ?_;have W6:Jz Ez 16=decide (Ez<65536):=Zk hd (n:=16) A0;by_cases h1:Ez>=65536
  ·rw[Ad h1,W6,Av Af];refine Aj ?_;exact CY (l':=l) (Bw b6 Cu::l) (hK ⟨d.kind,d.obj,d.rights,d.badge,((Ez%4096:Nat):Int),((Ez/4096%16:Nat):Int),d.serial,d.page⟩ Cu) ζ ⟨rfl,rfl⟩
  rw[Ab h1,W6,Aq Af];rw[show Ez/4096%16=Ez/4096 by omega];refine Aj ?_;refine MU (AI rfl rfl λl2 _=>IH (Sc d Ez) l2) rfl rfl rfl ?_;cases hm:E5 (Sc d Ez) with
  |false=>rw[Ad rfl];refine Aj ?_;exact CY (l':=l) (Bw b6 Cu::l) (hK (Sc d Ez) Cu) ζ ⟨rfl,rfl⟩
  |true=>rw[Ab A0];refine Aj ?_;exact CY (l':=l) (Bw b6 (Sc d Ez)::l) (hK (Sc d Ez) (Sc d Ez)) ζ ⟨rfl,rfl⟩
 rw[Ab k2];by_cases h1:Ez≠0
 ·rw[Ad h1];refine Aj ?_;exact CY (l':=l) (Bw b6 Cu::l) (hK d Cu) ζ ⟨rfl,rfl⟩
 ·rw[Ab h1];refine Aj ?_;exact CY (l':=l) (Bw b6 d::l) (hK d d) ζ ⟨rfl,rfl⟩
abbrev NW:=Ch×CapT
abbrev Ny(h:NW):Ap:=[ι h.1.1,ι h.1.2,ι h.2.kind,ι h.2.obj,ι h.2.rights,υ h.2.badge,ι h.2.guard,ι h.2.bits,ι h.2.serial,ι h.2.page]
abbrev hdV(h:NW):Value:= .agg (τ (Ny h))
abbrev hdC(B:Nat)(h:NW):Bh:=(B,.cells (τ (Ny h)) 131 (0,0))
def OR(L:List NW):Ap:=L.flatMap Ny
theorem nq(L:List NW)(t:NW):OR (L++[t])=OR L++Ny t:=by simp[OR]
abbrev xB(B:Nat)(v:Value):Bh:=(B,.cells #[v] 230 (0,0))
theorem nr(v:Value)(h1:v.oneCell'=true)(l:Ac):Fn prog 170 [v] l λr l'=> ∃B,r= .func (.func 232) #[] #[π B]/\l'=xB B v::l:=by refine AO func170 ntmps170 λE=>?_;refine gz ?_;refine AP (EA rfl h1) ?_;rintro _ _ ⟨B,hB,rfl,rfl⟩;refine gz ?_;exact Bc .refl ⟨B,rfl,rfl⟩
theorem Zp(gf:Nat)[EN prog gf](lb:Ap)(S Sp:List NW->Prop)(Need:List NW->Ac->Prop)(hit:FN prog gf lb (λt:NW=>[hdV t]) S Sp Need)(n:Nat)(DG: ∀pre,Sp pre->pre.length<=n)(hn:n<=900000)(l:Ac)(Cf: ∀pre l2,(∀c,c∈l->c∈l2)->Need pre l2):
 Fn prog 231 [.slice none 0 0,.func (.func gf) #[] lb.toArray] l λv l'=> ∃xs cs,S xs/\OwnSl 131 10 v xs.length (OR xs) cs/\l'=cs++l:=by
 refine AO func231 ntmps231 λE=>?_;refine gz ?_;refine AP (EA rfl rfl) ?_;rintro _ _ ⟨b2,W7,rfl,rfl⟩;refine gz ?_;refine Dj (α:=NW) (ps:=[7]) (lb:=lb) rfl hit (λ_=>rfl) rfl
  (λpre l=> ∃v cs,OwnSl 131 10 v pre.length (OR pre) cs/\l=[(b2,.cells #[v] 44 (0,0))]++cs)
  (λc pre l=>False)
  _ l (λpre l2 X2 hX h=>by obtain⟨v,cs,_,rfl⟩:=h;exact Cf _ _ λc hc=>Aa _ (hX _ hc)) AY ⟨_,[],OwnSl.nil _ _,rfl⟩ ?_ ?_ ?_
 ·rintro E r0 Gb pre y l' T ⟨fn,tmps,Dd,rfl⟩ Ry ⟨v,cs',EY,rfl⟩ hsp0;have Yj:=DG _ hsp0;rw[Ah] at Yj;simp only[DY,Ae,Ag];refine Iy λb5=>?_;refine CP (.there (.there (FX _ _ _ _ _))) ?_;generalize hX1:(r0,Obj.loop (DV fn tmps _ _ _ Dd .busy none))::T=X1;refine gz ?_;refine AP (FB (k:=10) rfl rfl rfl A0 A0) ?_;rintro _ _ ⟨bl,_,rfl,rfl⟩;refine AP (HM (k:=10) (X:=[hdC b5 y,(b2,.cells #[v] 44 (0,0))]) (cs:=cs') (F:=X1) (xs:=OR pre) (n:=pre.length) (ws:=Ny y) rfl rfl rfl EY rfl (by simp[Value.oneCell']) Af A0) ?_;rintro v' _ ⟨c2,F0,rfl⟩;have Js:v'.oneCell'=true:=F0.one;simp only[Ae,Ag];refine gz ?_;rw[<-hX1];refine Cn _ ζ ⟨v',c2,?_,rfl⟩;rw[Ah,nq];exact F0
 ·rintro Dd xs l' hS ⟨v,cs',EY,rfl⟩;have Js:v.oneCell'=true:=EY.one;simp only[Ae,Ag];refine gz ?_;refine AU [Dd] (cs'++l) rfl (l':=cs'++l) AY Ba .refl ?_;exact⟨xs,cs',hS,EY,rfl⟩
 ·rintro Dd c pre l' DG h;exact h.elim
theorem Xx(gf:Nat)[EN prog gf](lb:Ap)(S Sp:List NW->Prop)(Need:List NW->Ac->Prop)(hit:FN prog gf lb (λt:NW=>[hdV t]) S Sp Need)(n:Nat)(DG: ∀pre,Sp pre->pre.length<=n)(hn:n<=900000)(l:Ac)(Cf: ∀pre l2,(∀c,c∈l->c∈l2)->Need pre l2):
 Fn prog 169 [.func (.func gf) #[] lb.toArray] l λv l'=> ∃xs cs,S xs/\OwnSl 131 10 v xs.length (OR xs) cs/\l'=cs++l:=by
 refine AO func169 ntmps169 λE=>?_;refine gz ?_;refine AP (Az rfl rfl (Zp gf lb S Sp Need hit n DG hn l Cf)) ?_;rintro v _ ⟨xs,cs,hS,ho,rfl⟩;have Js:v.oneCell'=true:=ho.one;refine gz ?_;refine Bc .refl ?_;exact⟨xs,cs,hS,ho,rfl⟩
end Go.Proofs.YtlifcingifodfaaGreat
namespace Go.Proofs
open Tryz
open List renaming toArray→τ
open Go.Shelf
def Tryz.sortA_ren:Go.Shelf.Ren:=⟨λ|5=>236|8=>309|7=>308|19=>354|20=>355|10=>345|11=>346|12=>347|13=>348|14=>349|15=>350|16=>351|17=>352|18=>353|30=>377|31=>378|32=>379|33=>380|34=>381|35=>382|40=>391|n=>n,λ|23=>40|25=>3|3=>3|32=>123|22=>40|0=>0|44=>528|46=>34|4=>4|36=>522|35=>521|41=>116|5=>5|9=>9|53=>541|57=>171|63=>546|64=>367|n=>n,λ|n=>n⟩
theorem Tryz.sortA:Go.Proofs.SlLaysM.n5 prog Tryz.sortA_ren:={
 mixed:=Bu
 f5:=⟨Tryz.f236.name,by decide,func236.trans (BM some Bu)⟩
 f7:=⟨Tryz.f308.name,by decide,func308.trans (BM some Bu)⟩
 f8:=func309.trans (BM some Bu)
 f10:=⟨Tryz.f345.name,by decide,func345.trans (BM some Bu)⟩
 f11:=⟨Tryz.f346.name,by decide,func346.trans (BM some Bu)⟩
 f12:=⟨Tryz.f347.name,by decide,func347.trans (BM some Bu)⟩
 f13:=⟨Tryz.f348.name,by decide,func348.trans (BM some Bu)⟩
 f14:=⟨Tryz.f349.name,by decide,func349.trans (BM some Bu)⟩
 f15:=⟨Tryz.f350.name,by decide,func350.trans (BM some Bu)⟩
 f16:=⟨Tryz.f351.name,by decide,func351.trans (BM some Bu)⟩
 f17:=⟨Tryz.f352.name,by decide,func352.trans (BM some Bu)⟩
 f18:=⟨Tryz.f353.name,by decide,func353.trans (BM some Bu)⟩
 f19:=func354.trans (BM some Bu)
 f20:=func355.trans (BM some Bu)
 f30:=⟨Tryz.f377.name,by decide,func377.trans (BM some Bu)⟩
 f31:=func378.trans (BM some Bu)
 f32:=func379.trans (BM some Bu)
 f33:=⟨Tryz.f380.name,by decide,func380.trans (BM some Bu)⟩
 f34:=⟨Tryz.f381.name,by decide,func381.trans (BM some Bu)⟩
 f35:=⟨Tryz.f382.name,by decide,func382.trans (BM some Bu)⟩
 f40:=⟨Tryz.f391.name,by decide,func391.trans (BM some Bu)⟩
 t0:=Tryz.underlying0
 a0:=Tryz.isAgg0
 z0:=Tryz.sizeOf0
 v0:=Tryz.zeroValue0
 t3:=Tryz.underlying3
 a3:=Tryz.isAgg3
 z3:=Tryz.sizeOf3
 v3:=Tryz.zeroValue3
 t4:=Tryz.underlying4
 a4:=Tryz.isAgg4
 z4:=Tryz.sizeOf4
 v4:=Tryz.zeroValue4
 t5:=Tryz.underlying5
 a5:=Tryz.isAgg5
 z5:=Tryz.sizeOf5
 v5:=Tryz.zeroValue5
 t9:=Tryz.underlying9
 a9:=Tryz.isAgg9
 z9:=Tryz.sizeOf9
 v9:=Tryz.zeroValue9
 t22:=Tryz.underlying40
 a22:=Tryz.isAgg40
 z22:=Tryz.sizeOf40
 v22:=Tryz.zeroValue40
 t23:=Tryz.underlying40
 a23:=Tryz.isAgg40
 z23:=Tryz.sizeOf40
 v23:=Tryz.zeroValue40
 t25:=Tryz.underlying3
 a25:=Tryz.isAgg3
 z25:=Tryz.sizeOf3
 v25:=Tryz.zeroValue3
 t32:=Tryz.underlying123
 a32:=Tryz.isAgg123
 z32:=Tryz.sizeOf123
 v32:=Tryz.zeroValue123
 t35:=Tryz.underlying521
 a35:=Tryz.isAgg521
 z35:=Tryz.sizeOf521
 v35:=Tryz.zeroValue521
 t36:=Tryz.underlying522
 a36:=Tryz.isAgg522
 z36:=Tryz.sizeOf522
 v36:=Tryz.zeroValue522
 t41:=Tryz.underlying116
 a41:=Tryz.isAgg116
 z41:=Tryz.sizeOf116
 v41:=Tryz.zeroValue116
 t44:=Tryz.underlying528
 a44:=Tryz.isAgg528
 z44:=Tryz.sizeOf528
 v44:=Tryz.zeroValue528
 t46:=Tryz.underlying34
 a46:=Tryz.isAgg34
 z46:=Tryz.sizeOf34
 v46:=Tryz.zeroValue34
 t53:=Tryz.underlying541
 a53:=Tryz.isAgg541
 z53:=Tryz.sizeOf541
 v53:=Tryz.zeroValue541
 t57:=Tryz.underlying171
 a57:=Tryz.isAgg171
 z57:=Tryz.sizeOf171
 v57:=Tryz.zeroValue171
 t63:=Tryz.underlying546
 a63:=Tryz.isAgg546
 z63:=Tryz.sizeOf546
 v63:=Tryz.zeroValue546
 t64:=Tryz.underlying367
 a64:=Tryz.isAgg367
 z64:=Tryz.sizeOf367
 v64:=Tryz.zeroValue367}
end Go.Proofs
namespace Go.Proofs.YtlifcingifodfaaGreat
open Tryz
open List renaming toArray→τ
open Go.RowKit Go.Sort
def Nq(x:Int):Value:= ι x
abbrev VG(zs:A8):A8:=zs.mergeSort λx y=>decide (x<=y)
theorem nt(b cap:Nat)(zs:A8)(sp:Ap)(hn:zs.length<=1000000)(l:Ac):
 Fn prog 236 [.slice (some ⟨b,0,none⟩) zs.length cap] ((b,.cells (τ (zs.map Nq++sp)) 3 (0,0))::l) λv l'=>v= .tuple #[]/\l'=(b,.cells (τ ((VG zs).map Nq++sp)) 3 (0,0))::l:=by
 refine⟨λE W hs=>?_⟩;have hH:Holds (Value.int .i64) W b 0 zs.toArray:=λj hj=>by
  simp only[Bz] at hj;refine⟨?_,?_⟩
  ·rw[hs.cell (.head _),BG,AF,AH (by simpa using hj),A7,Ak hj];simp[hj,Nq]
  ·rw[hs.frz (.head _)];simp
 have h:=AnyM.slices_Sort_int Tryz.sortA b 0 cap zs W hH (hs.lt (.head _)) Af;refine(h:Calls prog 236 _ W _).mono ?_;rintro e w' ⟨rfl,n,os,rfl⟩;refine⟨_,_,rfl,⟨rfl,rfl⟩,?_⟩;refine⟨hs.os,hs.tape,hs.output,by simpa using hs.nodup,λc hc=>?_⟩;have hb:=hs.lt (.head _);simp only at hb;have Sy: ∀k,k<W.heap.size->(Go.Sort.grow (putRow (Value.int .i64) (Go.Sort.ahead W n) b 0 (VG zs).toArray) os).heap[k]?=(W.heap.modify b (onCells (putCells (Value.int .i64) 0 (VG zs).toArray)))[k]?:=λk hk=>by show(((Go.Sort.ahead W n).heap.modify b _)++os)[k]?=_;rw[Array.getElem?_append_left (by simpa using hk)];rfl
 rcases Au.1 hc with rfl|hc'
 ·rw[Sy _ hb,Array.getElem?_modify,Ad rfl,hs.has _ (.head _)];simp only[BY,onCells];congr 2;apply BQ.1;apply Dn;intro j;unfold putCells;rw[Array.getElem?_toList,Array.getElem?_mapIdx,AF];have hl:(VG zs).length=zs.length:=List.length_mergeSort ..;by_cases hj:j<zs.length
  ·rw[AH (by simpa using hj),AH (by simpa[hl] using hj),A7,A7,Ak hj,Ak Af];simp[hj,hl,Nq]
  ·rw[AW (by simpa using MF hj),AW (by simpa[hl] using MF hj)];simp only[A5,hl];cases sp[j-zs.length]? with
   |none=>rfl
   |some u=>simp[hl,hj]
 ·have C7:=hs.lt (An _ hc');rw[Sy _ C7,Array.getElem?_modify,Ab,hs.has _ (An _ hc')];intro e;have:=hs.nodup;rw[AK,AQ] at this;exact this.1 (Ax.2 ⟨c,hc',e.symm⟩)
theorem Xy(cap:Nat)(p:Option Addr)(l:Ac):Fn prog 236 [.slice p 0 cap] l λv l'=>v= .tuple #[]/\l'=l:=by refine⟨λE W hs=>?_⟩;refine((AnyM.slices_Sort_int_none Tryz.sortA p cap W:Calls prog 236 _ W _)).mono ?_;rintro e w' ⟨rfl,rfl⟩;exact⟨_,_,rfl,⟨rfl,rfl⟩,hs⟩
theorem Zq(v:Value)(zs:A8)(cs l:Ac)(ho:OwnSl 3 1 v zs.length (zs.map Nq) cs)(hn:zs.length<=1000000):
 Fn prog 236 [v] (cs++l) λr l'=>r= .tuple #[]/\ ∃cs',OwnSl 3 1 v (VG zs).length ((VG zs).map Nq) cs'/\l'=cs'++l:=by
 have hl:(VG zs).length=zs.length:=List.length_mergeSort ..;rcases ho.2 with⟨rfl,h0,rfl⟩|⟨gb,cap,sp,rfl,rfl,im,Vn,N5⟩
 ·obtain rfl:zs=[]:=Ej h0;exact(Xy 0 none l).mono λr l' ⟨h1,h2⟩=>⟨h1,[],by rw[show VG []=[] by simp[VG]];exact OwnSl.nil _ _,h2⟩
 ·exact(nt gb cap zs sp hn l).mono λr l' ⟨h1,h2⟩=>⟨h1,_,⟨by simp,.inr ⟨gb,cap,sp,by rw[hl],rfl,Af,Vn,by rw[Ah,A5,hl,<-N5,Ah,A5]⟩⟩,h2⟩
end Go.Proofs.YtlifcingifodfaaGreat
namespace Go.Proofs.YtlifcingifodfaaGreat
open Tryz
open List renaming toArray→τ
open Go.RowKit
set_option maxRecDepth 20000
variable{α:Type}{k n o j:Nat}{D:SD}{es vis:List LK}{v:Value}{c:CapT}{seen:Array Nat}{p:Prop}{xs:A8}{cs:Ac}{a:Int}{C:List CapT}{s:Ch}{ys:Ap}
structure Came(es vis:List LK)(seen:Array Nat):Prop where
 eq:seen.toList=vis.map (·.2.2)
 nd:(vis.map (·.2.2)).Nodup
 sub: ∀e,e∈vis->e∈es
theorem Came.len(h:Came es vis seen)(hn:(es.map (·.2.2)).Nodup):vis.length<=es.length:=by
 classical
 have hv:vis.Nodup:=Jw h.nd;have he:(es.filter λe=>decide (e∈vis)).Nodup:=(Jw hn).filter _;have hp:vis.Perm (es.filter λe=>decide (e∈vis)):=(FM hv he).2 λe=>by rw[Cr];simp only[A3];exact⟨λhm=>⟨h.sub e hm,hm⟩,λhm=>hm.2⟩
 rw[hp.length_eq];exact Db ..
theorem Came.all(h:Came es vis seen)(hn:(es.map (·.2.2)).Nodup)(ha: ∀e,e∈es->e.2.2∈seen.toList):(vis.map (·.1)).Perm (es.map (·.1)):=by refine List.Perm.map _ ((FM (Jw h.nd) (Jw hn)).2 λe=>⟨h.sub e,λhe=>?_⟩);have h1:=ha e he;rw[h.eq] at h1;obtain⟨e',xX,h2⟩:=Ax.1 h1;have h3:=OI hn (h.sub e' xX) he h2;rw[<-h3];exact xX
theorem Came.push{e:LK}(h:Came es vis seen)(he:e∈es)(hs:e.2.2∉seen.toList):Came es (vis++[e]) (seen.push e.2.2):=by
 refine⟨by rw[LT,h.eq,At];rfl,?_,λx hx=>?_⟩
 ·rw[At,BC];refine⟨h.nd,by simp,λa ha b hb hab=>hs ?_⟩;have:b=e.2.2:=by simpa using hb
  rw[h.eq,<-this,<-hab];exact ha
 ·rcases AB.1 hx with hx|hx
  ·exact h.sub x hx
  ·rw[Ay.1 hx];exact he
theorem Ug(mb:Option Nat)(l:Ac):Fn prog 233 [.map mb] l λv l'=> ∃B,v= .func (.func 306) #[] #[π B]/\l'=(B,.cells #[.map mb] 403 (0,0))::l:=by refine AO func233 ntmps233 λE=>?_;refine gz ?_;refine AP (EA rfl rfl) ?_;rintro _ _ ⟨B,hB,rfl,rfl⟩;refine gz ?_;exact Bc .refl ⟨B,rfl,rfl⟩
theorem zKI(h:p:=by
 obtain⟨Ym,Vo⟩:=Cf _ _ G hG h0;refine gz ?_;refine AP (eV rfl Vo) ?_;rintro _ _ ⟨b0,hb0,rfl,rfl⟩;refine gz ?_;refine CF (α:=Array Nat×List LK×Ac) (λx=>[(0,.func (.yield q) #[] #[]),(1,π B),(5,π b0)]) (λx=>(b0,.mapIter (some m) clock x.1 clock)::(x.2.2++G)) (λx=>I (x.2.1.map (·.1)) x.2.2/\Came es x.2.1 x.1) (λx=>es.length-x.2.1.length) (#[],[],l) ⟨h0,rfl,by simp,by simp⟩ ⟨rfl,rfl,rfl,trivial⟩ .refl ?_;clear Ym Vo;rintro⟨seen,vis,l⟩ ⟨hI,hC⟩;simp only at hI hC⊢;obtain⟨Ym,Vo⟩:=Cf _ _ G hG hI;refine gz ?_;refine AP (ml rfl Vo (λe he=>LF e he) (Bf _)) ?_;rintro _ _ (⟨rfl,rfl,GK⟩|⟨e,he,xR,rfl,rfl⟩)
 ·refine gz ?_;exact Bc ζ ⟨l,rfl,.inl ⟨_,hC.all Ln GK,hI⟩⟩
 ·have hC2:=hC.push he xR;have JP:=hC2.len Ln;have hy:=hY (vis.map (·.1)) e.1 l ((b0,.mapIter (some m) clock (seen.push e.2.2) clock)::G) (λc hc=> .tail _ (hG c hc)) hI (by simp at JP⊢;exact JP);refine gz ?_;refine Be (eW rfl (.head _) (.tail _ Vo) he Ln) ?_;refine gz ?_;refine Bt (Keep.of_perm AJ.symm) ?_;refine AP (C8 rfl rfl hy) ?_;rintro v l' ⟨l1,rfl,⟨rfl,Kz⟩|⟨rfl,hx⟩⟩
  ·refine gz ?_;exact BZ (seen.push e.2.2,vis++[e],l1) ⟨by simpa using Kz,hC2⟩ (by simp at JP⊢;omega) ⟨rfl,rfl,rfl,trivial⟩ (.of_perm AJ)
  ·refine gz ?_;exact BF [] rfl (Keep.trans (.of_perm AJ) ζ) Ba ⟨l1,rfl,.inr ⟨_,by simp at JP⊢;exact JP,hx⟩⟩):p:=h
theorem RN(B m clock:Nat)(es:List LK)(Ln:(es.map (·.2.2)).Nodup)(LF: ∀e,e∈es->e.2.2<clock):
 FN prog 306 [π B] (λk:Int=>[ι k]) (λxs=>xs.Perm (es.map (·.1))) (λpre=>pre.length<=es.length)
  (λ_ l=>(B,.cells #[.map (some m)] 403 (0,0))∈l/\(m,Ge .i64 es clock)∈l):=by
 refine⟨λq I Ix G0 Cf hY l G hG h0=>?_⟩;refine AO func306 ntmps306 λE=>?_;exact zKI
theorem bZ(gf:Nat)[EN prog gf](lb:Ap)(S:A8->Prop)(n:Nat)(Need:A8->Ac->Prop)(hit:FN prog gf lb (λk:Int=>[ι k]) S (λpre=>pre.length<=n) Need)(hn:n<=900000)(l:Ac)(Cf: ∀pre l2,(∀c,c∈l->c∈l2)->Need pre l2):
 Fn prog 307 [.slice none 0 0,.func (.func gf) #[] lb.toArray] l λv l'=> ∃xs cs,S xs/\OwnSl 3 1 v xs.length (xs.map Nq) cs/\l'=cs++l:=by
 refine AO func307 ntmps307 λE=>?_;refine gz ?_;refine AP (EA rfl rfl) ?_;rintro _ _ ⟨b2,W7,rfl,rfl⟩;refine gz ?_;refine Dj (α:=Int) (ps:=[7]) (lb:=lb) rfl hit (λ_=>rfl) rfl
  (λpre l=> ∃v cs,OwnSl 3 1 v pre.length (pre.map Nq) cs/\pre.length<=n/\l=[(b2,.cells #[v] 40 (0,0))]++cs)
  (λc pre l=>False)
  _ l (λpre l2 X2 hX h=>by obtain⟨v,cs,_,_,rfl⟩:=h;exact Cf _ _ λc hc=>Aa _ (hX _ hc)) AY ⟨_,[],OwnSl.nil _ _,Bm _,rfl⟩ ?_ ?_ ?_
 ·rintro E r0 Gb pre y l' T ⟨fn,tmps,Dd,rfl⟩ Ry ⟨v,cs',EY,Yj,rfl⟩ DG;simp only[DY,Ae,Ag];refine gz ?_;refine CP (.there (FX _ _ _ _ _)) ?_;generalize hX1:(r0,Obj.loop (DV fn tmps _ _ _ Dd .busy none))::T=X1;refine gz ?_;refine AP (Lq rfl rfl) ?_;rintro _ _ ⟨bl,_,rfl,rfl⟩;refine AP (HM (k:=1) (X:=[(b2,.cells #[v] 40 (0,0))]) (cs:=cs') (F:=X1) (xs:=pre.map Nq) (n:=pre.length) (zs:=[ι 0]) (ws:=[Nq y]) rfl rfl rfl EY rfl (by simp[Value.oneCell',Nq]) Af A0) ?_;rintro v' _ ⟨c2,F0,rfl⟩;have Js:v'.oneCell'=true:=F0.one;simp only[Ae,Ag];refine gz ?_;rw[<-hX1];refine Cn _ (.refl) ⟨v',c2,?_,DG,rfl⟩;rw[Ah,At];exact F0
 ·rintro Dd xs l' hS ⟨v,cs',EY,Yj,rfl⟩;have Js:v.oneCell'=true:=EY.one;simp only[Ae,Ag];refine gz ?_;refine AU [Dd] (cs'++l) rfl (l':=cs'++l) AY Ba .refl ?_;exact⟨xs,cs',hS,EY,rfl⟩
 ·rintro Dd c pre l' DG h;exact h.elim
theorem Zr(gf:Nat)[EN prog gf](lb:Ap)(S:A8->Prop)(n:Nat)(Need:A8->Ac->Prop)(hit:FN prog gf lb (λk:Int=>[ι k]) S (λpre=>pre.length<=n) Need)(hn:n<=900000)(l:Ac)(Cf: ∀pre l2,(∀c,c∈l->c∈l2)->Need pre l2):
 Fn prog 235 [.func (.func gf) #[] lb.toArray] l λv l'=> ∃xs cs,S xs/\OwnSl 3 1 v xs.length (xs.map Nq) cs/\l'=cs++l:=by
 refine AO func235 ntmps235 λE=>?_;refine gz ?_;refine AP (Az rfl rfl (bZ gf lb S n Need hit hn l Cf)) ?_;rintro v _ ⟨xs,cs,hS,ho,rfl⟩;have Js:v.oneCell'=true:=ho.one;refine gz ?_;refine Bc .refl ?_;exact⟨xs,cs,hS,ho,rfl⟩
theorem Uh(gf:Nat)[EN prog gf](lb:Ap)(S:A8->Prop)(n:Nat)(Need:A8->Ac->Prop)(hit:FN prog gf lb (λk:Int=>[ι k]) S (λpre=>pre.length<=n) Need)(hn:n<=900000)(hS: ∀xs,S xs->xs.length<=n)(l:Ac)(Cf: ∀pre l2,(∀c,c∈l->c∈l2)->Need pre l2):
 Fn prog 174 [.func (.func gf) #[] lb.toArray] l λv l'=> ∃xs cs,S xs/\OwnSl 3 1 v (VG xs).length ((VG xs).map Nq) cs/\l'=cs++l:=by
 refine AO func174 ntmps174 λE=>?_;refine gz ?_;refine AP (Az rfl rfl (Zr gf lb S n Need hit hn l Cf)) ?_;rintro v _ ⟨xs,cs,hSx,ho,rfl⟩;have Js:v.oneCell'=true:=ho.one;have hl:=hS xs hSx;refine gz ?_;refine AP (Az rfl rfl (Zq v xs cs l ho Af)) ?_;rintro _ _ ⟨rfl,cs',eg,rfl⟩;refine gz ?_;refine Bc .refl ?_;exact⟨xs,cs',hSx,eg,rfl⟩
theorem OS(B m clock:Nat)(es:List LK)(Ln:(es.map (·.2.2)).Nodup)(LF: ∀e,e∈es->e.2.2<clock)(hn:es.length<=900000)(l:Ac)(h1:(B,Obj.cells #[.map (some m)] 403 (0,0))∈l)(h2:(m,Ge .i64 es clock)∈l):
 Fn prog 174 [.func (.func 306) #[] #[π B]] l λv l'=> ∃xs cs,xs.Perm (es.map (·.1))/\OwnSl 3 1 v (VG xs).length ((VG xs).map Nq) cs/\l'=cs++l:=
 Uh 306 [π B] _ es.length _ (RN B m clock es Ln LF) hn (λxs h=>by rw[h.length_eq];simp) l λ_ l2 hl=>⟨hl _ h1,hl _ h2⟩
theorem MB.sorted{key:α->Int}{val:α->Value}{L:List α}{clock:Nat}(h:MB key val L es clock)(hx:xs.Perm (es.map (·.1))):VG xs=L.map key:=by
 have h1:(VG xs).Perm (L.map key):=(List.mergeSort_perm ..).trans (hx.trans h.keys);have h2:(VG xs).Pairwise (λx y=>x<=y):=by have:=List.pairwise_mergeSort (le:=λx y:Int=>decide (x<=y)) (λa b c h1 h2=>by simp at*;omega) (λa b=>by simp;omega) xs;exact this.imp λh=>by simpa using h
 have h3:(L.map key).Pairwise (λx y=>x<=y):=Cz.2 (h.asc.imp λVm=>by omega);exact h1.eq_of_pairwise (λa b _ _ h1 h2=>by omega) h2 h3
theorem OwnSl.ints{e:Nat}{l:Ac}(h:OwnSl e 1 v xs.length (xs.map Nq) cs)(hs: ∀c,c∈cs->c∈l): ∃p cap,v= .slice p xs.length cap/\(0<xs.length-> ∃b cl t fz,p=some ⟨b,0,none⟩/\(b,Obj.cells cl t fz)∈l/\ ∀i x,xs[i]?=some x->cl[i*1]?=some (ι x)):=by
 rcases h.2 with⟨rfl,h0,rfl⟩|⟨b,cap,sp,rfl,rfl,_⟩
 ·exact⟨none,0,by rw[h0],λh=>by omega⟩
 ·refine⟨_,cap,rfl,λh0=>⟨b,_,e,(0,0),rfl,hs _ Al,λi x hx=>?_⟩⟩;have C7:=(Aw.1 hx).1;rw[Dw,AF,AH (by simpa using C7),A7,hx];rfl
def GR(a:Int)(C:List CapT):Nat->List NW
 |0=>[]
 |k+1=>GR a C k++(match C[k]? with
  |some c=>if MD c Cu=true then[] else[((a,((k:Nat):Int)),c)]
  |none=>[])
def CI(D:SD):List NW:=D.flatMap λx=>GR x.1 x.2 x.2.length
theorem Zs(hc:C[k]?=some c)(h:MD c Cu=false):GR a C (k+1)=GR a C k++[((a,((k:Nat):Int)),c)]:=by show GR a C k++_=_;rw[hc];simp only;rw[h];rfl
theorem nu(hc:C[k]?=some c)(h:MD c Cu=true):GR a C (k+1)=GR a C k:=by show GR a C k++_=_;rw[hc];simp only;rw[h];simp
theorem Ui(a:Int)(C:List CapT)(k:Nat): ∀m,GR a C k<+:GR a C (k+m)
 |0=>Hd
 |m+1=>(Ui a C k m).trans (G5 _ _)
theorem Uj(a:Int)(C:List CapT): ∀k,(GR a C k).length<=k
 |0=>Bf _
 |k+1=>by
  show(GR a C k++_).length<=k+1;have:=Uj a C k;rw[Ah];have h2:(match C[k]? with
   |some c=>if MD c Cu=true then[] else[((a,((k:Nat):Int)),c)]
   |none=>[]:List NW).length<=1:=by
   split
   ·split<;>simp
   ·simp
  omega
theorem RO(A B:SD):CI (A++B)=CI A++CI B:=Eg
theorem i5{i:Nat}{x:Int×List CapT}(hx:D[i]?=some x)(hk:k<=x.2.length):CI (D.take i)++GR x.1 x.2 k<+:CI D:=by
 have hi:=(Aw.1 hx).1;have h1:=Cs i D;rw[CR hi] at h1;have h2:D[i]=x:=by rw[Ak hi] at hx;exact AZ hx
 rw[h2] at h1
 conv=>rhs;rw[<-h1]
 rw[RO];refine(List.prefix_append_right_inj _).2 ?_;show _<+:GR x.1 x.2 x.2.length++CI (D.drop (i+1));have:=Ui x.1 x.2 k (x.2.length-k);rw[show k+(x.2.length-k)=x.2.length by omega] at this;exact this.trans (G5 _ _)
theorem Wq(h: ∀x,x∈D->x.2.length<=16):(CI D).length<=D.length*16:=by
 induction D with
 |nil=>simp[CI]
 |cons x r ih=>
  rw[show x::r=[x]++r from rfl,RO,Ah];have h1:=ih λy hy=>h y (An _ hy);have h2:=Uj x.1 x.2 x.2.length;have h3:=h x Al;have h4:(CI [x]).length<=16:=by simp only[CI,CB,List.flatMap_nil,Bj];omega
  rw[Ah];show _<=(1+r.length)*16;omega
theorem IsS.sz{b:Nat}{lq:Ac}(h:IsS b D lq): ∀x,x∈D->0<x.2.length/\x.2.length<=16:=by obtain⟨S,m,es,clock,rfl,hS⟩:=h;intro x hx;obtain⟨nd,hn,rfl⟩:=Ax.1 hx;exact hS.sz nd hn
set_option maxRecDepth 20000 in
theorem i6(B b:Nat)(D:SD)(lq:Ac)(hq:IsS b D lq)(hn:D.length<=50000):
 FN prog 232 [π B] (λh:NW=>[hdV h]) (λxs=>xs=CI D) (λpre=>pre<+:CI D)
  (λ_ l=>xB B (π b)∈l/\ ∀c,c∈lq->c∈l):=by
 refine⟨λr I Ix G0 Cf hY l G hG h0=>?_⟩;obtain⟨S,m,es,clock,rfl,hS⟩:=hq;obtain⟨n1,n2⟩:=Cf _ _ G hG h0;have n3:=n2 _ hS.m1;have n4:=n2 _ hS.m2;have xJ:S.length<=50000:=by simpa using hn
 refine AO func232 ntmps232 λE=>?_;refine gz ?_;refine AP (Az rfl rfl (Ug (some m) _)) ?_;rintro _ _ ⟨B',rfl,rfl⟩;refine gz ?_;refine AP (Az rfl rfl (OS B' m clock es hS.mb.ok.stamps hS.mb.ok.below (by rw[hS.mb.len];omega) _ (.head _) (.tail _ n4))) ?_;rintro v _ ⟨xs,cs,Rx,ho,rfl⟩;rw[hS.mb.sorted Rx] at ho;have Js:v.oneCell'=true:=ho.one;obtain⟨p,cap,rfl,hR⟩:=ho.ints (l:=cs) λc hc=>hc;have Ef:(S.map NdS.id).length=S.length:=A5 ..;refine gz ?_;refine CF (α:=Nat×Ac) (λx=>[(0,.func (.yield r) #[] #[]),(1,π B),(14,.slice p (S.map NdS.id).length cap),(15,ι (S.map NdS.id).length),(16,ι x.1)]) (λx=>x.2++(cs++G)) (λx=>x.1<=S.length/\I (CI ((S.map NdS.d).take x.1)) x.2) (λx=>S.length-x.1) (0,l) ⟨Bm _,h0⟩ ⟨rfl,rfl,rfl,rfl,rfl,trivial⟩ ?_ ?_
 ·exact Keep.trans (Keep.in_mid cs [_] (l++G)) (.drop (Keep.in_mid cs l G))
 clear n1 n2 n3 n4;rintro⟨i,l⟩ ⟨hi,hI⟩;simp only at hi hI⊢;obtain⟨n1,n2⟩:=Cf _ _ (cs++G) (λc hc=>Aa _ (hG c hc)) hI;have n3:=n2 _ hS.m1;have n4:=n2 _ hS.m2;by_cases C7:i<S.length
 ·obtain⟨b9,cl,t9,fz,rfl,rJ,N5⟩:=hR Af;have W9:(b9,Obj.cells cl t9 fz)∈l++(cs++G):=Aa _ (Ai _ rJ);obtain⟨nd,Ln⟩: ∃nd,S[i]?=some nd:=⟨_,Ak C7⟩
  have Om:=Bg Ln;have hc:=N5 i nd.id (by rw[A7,Ln];rfl);have aP:(LL nd.id es).getD (.slice none 0 0)=nd.val:=by rw[hS.look,hS.mb.at_ Om]
  have hdi:(S.map NdS.d)[i]?=some nd.d:=by rw[A7,Ln];rfl
  have Vk:=hS.sz nd Om;refine gz ?_;rw[aP];refine gz ?_;refine CF (α:=Nat×Ac) (λx=>[(0,.func (.yield r) #[] #[]),(1,π B),(4,ι nd.id),(14,.slice (some ⟨b9,0,none⟩) (S.map NdS.id).length cap),(15,ι (S.map NdS.id).length),(16,ι i),(25,nd.val),(26,ι nd.C.length),(27,ι x.1)]) (λx=>x.2++(cs++G)) (λx=>x.1<=nd.C.length/\I (CI ((S.map NdS.d).take i)++GR nd.id nd.C x.1) x.2) (λx=>nd.C.length-x.1) (0,l) ⟨Bm _,by show I (_++[]) l;rw[Bj];exact hI⟩ ⟨rfl,rfl,rfl,rfl,rfl,rfl,rfl,rfl,rfl,trivial⟩ .refl ?_;clear n1 n2 n3 n4 hI W9;rintro⟨k,l⟩ ⟨hk,hI⟩;simp only at hk hI⊢;obtain⟨n1,n2⟩:=Cf _ _ (cs++G) (λc hc=>Aa _ (hG c hc)) hI;have xV:=n2 _ (hS.m3 Om);by_cases aB:k<nd.C.length
  ·obtain⟨c,hcc⟩: ∃c,nd.C[k]?=some c:=⟨_,Ak aB⟩
   obtain⟨g1,g2⟩:=Xw hcc;refine gz ?_;refine Be (Dp (n:=8) rfl xV g2 g1) ?_;refine Iy λb6=>?_;refine Be (SX (ys:=Cb Cu) rfl rfl (EC c) (EC _)) ?_;rw[show BU (Cb c) (Cb Cu)=MD c Cu from rfl];cases he:MD c Cu with
   |true=>refine gz ?_;exact BZ (k+1,l) ⟨by simp only;omega,by simp only;rw[nu hcc he];exact hI⟩ (by simp only;omega) ⟨rfl,rfl,rfl,rfl,rfl,rfl,rfl,rfl,rfl,trivial⟩ ζ
   |false=>
    have Gx:(CI ((S.map NdS.d).take i)++GR nd.id nd.C k)++[((nd.id,((k:Nat):Int)),c)]<+:CI (S.map NdS.d):=by rw[Am,<-Zs hcc he];exact i5 hdi (by show k+1<=nd.C.length;omega)
    have hy:=hY _ ((nd.id,((k:Nat):Int)),c) l (Bw b6 c::(cs++G)) (λx hx=> .tail _ (Aa _ (hG x hx))) hI Gx;refine gz ?_;refine Bt (Keep.of_perm (l':=l++(Bw b6 c::(cs++G))) AJ.symm) ?_;refine IE (C8 rfl rfl hy) rfl rfl rfl ?_;rintro w l' ⟨l1,rfl,⟨rfl,Kz⟩|⟨rfl,hx⟩⟩
    ·refine gz ?_;exact BZ (k+1,l1) ⟨by simp only;omega,by simp only;rw[Zs hcc he,<-Am];exact Kz⟩ (by simp only;omega) ⟨rfl,rfl,rfl,rfl,rfl,rfl,rfl,rfl,rfl,trivial⟩ (Keep.trans (.of_perm AJ) ζ)
    ·refine gz ?_;exact Bc (Keep.trans (.of_perm AJ) (.drop (Keep.trans (Keep.in_mid l1 cs G) (Keep.dropL cs .refl)))) ⟨l1,rfl,.inr ⟨_,Gx,hx⟩⟩
  ·obtain rfl:k=nd.C.length:=by omega
   refine gz ?_;refine BZ (i+1,l) ⟨by simp only;omega,?_⟩ (by simp only;omega) ⟨rfl,rfl,rfl,rfl,rfl,trivial⟩ .refl;simp only;rw[BP,hdi,RO];show I (_++CI [nd.d]) l;rw[show CI [nd.d]=GR nd.id nd.C nd.C.length by simp[CI]];exact hI
 ·obtain rfl:i=S.length:=by omega
  rw[show(S.map NdS.d).take S.length=S.map NdS.d from BD (by simp)] at hI;refine gz ?_;exact Bc (Keep.trans (Keep.in_mid l cs G) (Keep.dropL cs .refl)) ⟨l,rfl,.inl ⟨_,rfl,hI⟩⟩
theorem all_any(b:Nat)(D:SD)(lq:Ac)(hq:IsS b D lq)(hn:D.length<=50000)(l:Ac)(CJ: ∀c,c∈lq->c∈l):
 Fn prog 115 [π b] l λv l'=> ∃cs,OwnSl 131 10 v (CI D).length (OR (CI D)) cs/\l'=cs++l:=by
 have Ef:=Wq λx hx=>(hq.sz x hx).2;refine AO func115 ntmps115 λE=>?_;refine gz ?_;refine AP (Az rfl rfl (nr _ rfl _)) ?_;rintro _ _ ⟨B,rfl,rfl⟩;refine gz ?_;refine AP (Az rfl rfl (Xx 232 [π B] _ _ _ (i6 B b D lq hq hn) (CI D).length (λpre h=>h.length_le) Af _ λ_ l2 hl=>⟨hl _ (.head _),λc hc=>hl _ (.tail _ (CJ c hc))⟩)) ?_;rintro v _ ⟨_,cs,rfl,ho,rfl⟩;have Js:v.oneCell'=true:=ho.one;refine gz ?_;refine Bc (l':=cs++l) (Keep.trans (.of_perm AJ) ζ) ?_;exact⟨cs,ho,rfl⟩
def Qa(l:Ac)(a:Option Addr)(n k:Nat)(rows:List (Ap)):Prop:=
 0<n-> ∃bB off cs t fz,a=some ⟨bB,off,none⟩/\(bB,Obj.cells cs t fz)∈l/\ ∀i row,rows[i]?=some row->off+i*k+k<=cs.size/\cs.extract (off+i*k) (off+i*k+k)=τ row/\ ∀j v,row[j]?=some v->cs[off+i*k+j]?=some v
theorem sS{W:World}{a:Option Addr}{cap:Nat}{rows:List (Ap)}{ks:List (Option IntKind)}(h:Xd ks W a n cap rows)(hk:0<ks.length):Qa (QP W) a n ks.length rows:=by
 intro h0;obtain⟨b,off,rfl,hb,YA⟩:=h.at_ h0;have eh: ∃r0,rows[0]?=some r0:=⟨_,Ak (by rw[h.size];exact h0)⟩
 obtain⟨r0,eh⟩:=eh;have c0:=YA 0 0 h0 hk;rw[eh,Dl] at c0;have ru:=(h.all r0 (Bg eh)).len;have e0:r0[0]?=some (r0[0]'Af):=Ak Af;unfold World.cell? at c0
 split at c0
 ·rename_i cs t fz aM;have AbB:W.heap[b]?=some (.cells cs t fz):=aM;refine⟨b,off,cs,t,fz,rfl,(RH W b _).2 AbB,λi row KZ=>?_⟩;have hi:i<n:=by have:=(Aw.1 KZ).1;rw[h.size] at this;exact this
  have hl:=(h.all row (Bg KZ)).len;have hc: ∀j,j<ks.length->cs[off+i*ks.length+j]?=row[j]?:=λj hj=>by have:=YA i j hi hj;rw[YI AbB,KZ,Dl] at this;exact this
  have vP:=hc (ks.length-1) Af;rw[Ak (show ks.length-1<row.length by omega)] at vP;have C7:=(BK.1 vP).1;refine⟨Af,?_,λj v hv=>?_⟩
  ·apply Dq;intro j;rw[DN];by_cases hj:j<ks.length
   ·rw[Ad Af,hc j hj,AF]
   ·rw[Ab Af,AF,Bi Af]
  ·have hj:=(Aw.1 hv).1;rw[hc j Af];exact hv
 ·rw[e0] at c0;cases c0
theorem Uk{key:α->Int}{L:List α}(h:L.Pairwise λx y=>key x<key y){t:α}(ht:t∈L):D9 key L (key t)=some t:=by
 have Ln:(L.map key).Nodup:=Cz.2 (h.imp λVm=>by omega);cases hf:D9 key L (key t) with
 |none=>exact absurd rfl (Gz.1 hf t ht)
 |some u=>obtain⟨h1,h2⟩:=Fb hf;rw[OI Ln h1 ht h2]
theorem OT(D:SD)(s:Ch)(c:CapT)(a:Int):D9 Prod.fst (Fc D s c) a=(D9 Prod.fst D a).map λx=>if x.1=s.1 then(x.1,x.2.set s.2.toNat c) else x:=by
 unfold D9 Fc;rw[List.find?_map];have e:((λt:Int×List CapT=>decide (t.1=a))∘λx=>if x.1=s.1 then(x.1,x.2.set s.2.toNat c) else x)=λt=>decide (t.1=a):=by
  funext x;show decide ((if x.1=s.1 then(x.1,x.2.set s.2.toNat c) else x).1=a)=decide (x.1=a)
  split<;>rfl
 rw[e]
theorem nv(D:SD)(s:Ch)(c:CapT)(a:Int):II (Fc D s c) a=II D a:=by
 unfold II;rw[OT];cases D9 Prod.fst D a with
 |none=>rfl
 |some x=>
  simp only[BY]
  split
  ·simp
  ·rfl
theorem Nz(D:SD)(s:Ch)(c:CapT)(s':Ch):E0 (Fc D s c) s'=E0 D s':=by unfold E0;rw[nv]
theorem nw(h:E0 D s=true):Dv (Fc D s c) s=c:=by
 unfold E0 II at h;rw[AM,A3,A3] at h;unfold Dv;rw[OT];cases hf:D9 Prod.fst D s.1 with
 |none=>rw[hf] at h;simp at h;omega
 |some x=>rw[hf] at h;simp only at h;simp only[BY];rw[Ad (Fb hf).2];show(x.2.set s.2.toNat c).getD s.2.toNat Cu=c;rw[A4,Ee Af];rfl
theorem Wr{s':Ch}(h0:0<=s.2)(h0':0<=s'.2)(h:s'≠s):Dv (Fc D s c) s'=Dv D s':=by
 unfold Dv;rw[OT];cases hf:D9 Prod.fst D s'.1 with
 |none=>rfl
 |some x=>
  simp only[BY]
  split
  ·rename_i hx;have Yn:=(Fb hf).2;have GS:s'.2≠s.2:=λe=>h (Eu (by rw[<-Yn,hx]) e);show(x.2.set s.2.toNat c).getD s'.2.toNat Cu=x.2.getD s'.2.toNat Cu;rw[A4,A4,Gn Af]
  ·rfl
theorem Ul{a:Int}{C:List CapT}{h:NW}: ∀{k:Nat},h∈GR a C k-> ∃j:Nat,h.1=(a,(j:Int))/\C[j]?=some h.2
 |0,hm=>by cases hm
 |k+1,hm=>by
  rcases AB.1 hm with hm|hm
  ·exact Ul hm
  ·split at hm
   ·rename_i c hc
    split at hm
    ·cases hm
    ·rw[Ay.1 hm];exact⟨k,rfl,hc⟩
   ·cases hm
theorem sU(hs:D.Pairwise λx y=>x.1<y.1){h:NW}(hm:h∈CI D):E0 D h.1=true/\Dv D h.1=h.2/\0<=h.1.2:=by
 obtain⟨x,hx,h2⟩:=FI.1 hm;obtain⟨j,h3,h4⟩:=Ul h2;have hf:=Uk (key:=Prod.fst) hs hx;have hj:=(Aw.1 h4).1;rw[h3];refine⟨?_,?_,by simp⟩
 ·unfold E0 II;simp only;rw[hf];simp only;rw[Aq Af,Aq Af];rfl
 ·unfold Dv;simp only;rw[hf];show x.2.getD ((j:Nat):Int).toNat Cu=h.2;rw[A4,AV,h4];rfl
theorem Zt{xs:Array Value}(h:xs.extract o (o+k)=τ ys)(LJ:o+k<=xs.size)(hj:j+n<=k):xs.extract (o+j) (o+j+n)=τ ((ys.drop j).take n):=by
 apply Dq;intro i;have e:(τ ((ys.drop j).take n))[i]?=((ys.drop j).take n)[i]?:=by simp
 rw[DN,e];by_cases hi:i<n
 ·rw[Ad Af,List.getElem?_take_of_lt hi,G3];have e2:(τ ys)[j+i]?=ys[j+i]?:=by simp
  rw[<-e2,<-h,DN,Ad Af,Iz]
 ·rw[Ab Af,Bi (by simp;omega)]
theorem OwnSl.hds{L:List NW}{l:Ac}(h:OwnSl 131 10 v L.length (OR L) cs)(hs: ∀c,c∈cs->c∈l):RowSl l v 10 Ny L:=OwnSl.rowSl (enc:=Ny) h (λ_=>rfl) hs
theorem Um(s:Ch):AllK [some .i64,some .i64] (Cd s):=⟨_,_,rfl,⟨_,rfl⟩,_,_,rfl,⟨_,rfl⟩,rfl⟩
theorem AcJ{x y:Ch}(h:x≠y):BU (Cd x) (Cd y)=false:=by
 cases h2:BU (Cd x) (Cd y) with
 |false=>rfl
 |true=>have:=(Gr (Um x) (Um y)).1 h2;simp only[Cd,Cj,Value.int.injEq,GH,IC] at this;exact absurd (Eu this.1 this.2) h
section
variable{key:α->Int}
end
theorem S9{key:α->Int}{L:List α}{t:α}(h:L.Pairwise λx y=>key x<key y)(hn:D9 key L (key t)=none):(MY key L t).Pairwise λx y=>key x<key y:=by
 obtain⟨W,Z,e1,e2,hL,GK,YB⟩:=Wm h (Gz.1 hn);have hi:MY key L t=W++t::Z:=by unfold MY;rw[e1,e2]
 rw[hL,Br] at h;rw[hi];refine Br.2 ⟨h.1,Ck.2 ⟨λx hx=>YB x hx,h.2.1⟩,λx hx y hy=>?_⟩;have h1:=GK x hx;rcases Au.1 hy with rfl|hy
 ·exact h1
 ·have:=YB y hy;omega
theorem ny{xs:Array Value}(h:xs.extract o (o+k)=τ ys)(LJ:o+k<=xs.size)(hj:j<k)(hv:ys[j]?=some v):xs[o+j]?=some v:=by
 have h2:(τ ys)[j]?=ys[j]?:=by simp
 rw[<-hv,<-h2,<-h,DN,Ad Af]
theorem Zu(h:p:=by
 by_cases hl:xs.length=ys.length
 ·refine gz ?_;refine CF (α:=Nat) (λk=>[(0,.slice a xs.length ca),(1,.slice a' ys.length ca'),(5,ι k)]) (λk=>l) (λk=>k<=xs.length/\ ∀j,j<k->xs[j]?=ys[j]?) (λk=>xs.length-k) 0 ⟨Bm _,λj h=>by omega⟩ ⟨rfl,rfl,rfl,trivial⟩ .refl ?_;rintro k ⟨LH,hj⟩;by_cases C7:k<xs.length
  ·obtain⟨b,off,cs,t,fz,rfl,hm,hc⟩:=h1 Af;obtain⟨b',off',cs',t',fz',rfl,W9,hc'⟩:=h2 Af;obtain⟨x,e1⟩: ∃x,xs[k]?=some x:=⟨_,Ak C7⟩
   obtain⟨y,e2⟩: ∃y,ys[k]?=some y:=⟨_,Ak (show k<ys.length by omega)⟩
   obtain⟨g1,g2⟩:=hc k x e1;obtain⟨g1',g2'⟩:=hc' k y e2;refine gz ?_;refine Ct [] 9 _ ?_ (hR:=(λ_ h=>h));refine pz ?_;apply EI
   ·exact Dp rfl hm g1 g2
   ·rfl
   ·rfl
   ·rfl
   refine pz ?_;apply EI
   ·exact Dp rfl W9 g1' g2'
   ·rfl
   ·rfl
   ·rfl
   refine pz ?_;apply EI
   ·exact SX rfl rfl (hk x) (hk y)
   ·rfl
   ·rfl
   ·rfl
   by_cases Vm:x=y
   ·rw[show(!BU (enc x) (enc y))=false by rw[Vm,Gq (hk y)];rfl];refine pz ?_;refine gz ?_;exact BZ (k+1) ⟨Af,λj ly=>by
     by_cases e:j=k
     ·subst e;rw[e1,e2,Vm]
     ·exact hj j Af⟩ Af ⟨rfl,rfl,rfl,trivial⟩ .refl
   ·rw[show(!BU (enc x) (enc y))=true by
     cases h:BU (enc x) (enc y) with
     |false=>rfl
     |true=>exact absurd (MK _ _ ((Gr (hk x) (hk y)).1 h)) Vm]
    refine pz ?_;refine gz ?_;refine Bc .refl ⟨?_,rfl⟩;rw[show decide (xs=ys)=false from Av λe=>by subst e;rw[e1] at e2;exact Vm (by cases e2;rfl)];rfl
  ·obtain rfl:k=xs.length:=by omega
   refine gz ?_;refine Bc .refl ⟨?_,rfl⟩;rw[show decide (xs=ys)=true from Aq (Dn λj=>by
    by_cases h:j<xs.length
    ·exact hj j h
    ·rw[Bi Af,Bi Af])];rfl
 ·refine gz ?_;refine Bc .refl ⟨?_,rfl⟩;rw[show decide (xs=ys)=false from Av λe=>hl (by rw[e])];rfl):p:=h
abbrev hdK:List (Option IntKind):=some .i64::some .i64::yO
instance:EQ prog 131 hdK:=⟨Bu⟩
theorem yR(h:NW):AllK hdK (Ny h):=⟨_,_,rfl,⟨_,rfl⟩,_,_,rfl,⟨_,rfl⟩,EC h.2⟩
theorem nz(x y:NW)(h:Ny x=Ny y):x=y:=by have e: ∀z:NW,Ny z=[ι z.1.1,ι z.1.2]++Cb z.2:=λ_=>rfl;rw[e,e] at h;obtain⟨h1,h2⟩:=List.append_inj h rfl;simp only[Cj,Value.int.injEq,GH,IC] at h1;exact Eu (Eu h1.1 h1.2) (Zj _ _ h2)
set_option maxRecDepth 20000 in
theorem Xz[DecidableEq α](enc:α->Ap)(MK: ∀x y,enc x=enc y->x=y)(hk: ∀x,AllK hdK (enc x))(v u:Value)(xs ys:List α)(l:Ac)(h1:RowSl l v 10 enc xs)(h2:RowSl l u 10 enc ys)(hx:xs.length<=1000000):
 Fn prog 63 [v,u] l λr l'=>r= .bool (decide (xs=ys))/\l'=l:=by
 obtain⟨a,ca,rfl,h1⟩:=h1;obtain⟨a',ca',rfl,h2⟩:=h2;refine AO func63 ntmps63 λE=>?_;exact Zu
theorem Xt(D:SD)(x:Int×List CapT):(MY Prod.fst D x).length=D.length+1:=(Uc D x).length_eq
theorem RowSl.mono{l l':Ac}{enc:α->Ap}{xs:List α}(h:RowSl l v k enc xs)(hs: ∀c,c∈l->c∈l'):RowSl l' v k enc xs:=by
 obtain⟨a,cap,h1,h2⟩:=h;exact⟨a,cap,h1,λh0=>by obtain⟨b,off,cs,t,fz,k1,k2,k3⟩:=h2 h0;exact⟨b,off,cs,t,fz,k1,hs _ k2,k3⟩⟩
namespace Tr
variable{os X:List Nat}{p b rb m clock:Nat}{lq l':Ac}{α:Type}
abbrev SlotT:=Int×Int
variable{es:List (Hu SlotT)}{s:SlotT}
abbrev Cd(s:SlotT):Ap:=[ι s.1,ι s.2]
theorem NA:PN Cd [some .i64,some .i64]:=⟨λa=>⟨_,_,rfl,⟨_,rfl⟩,_,_,rfl,⟨_,rfl⟩,rfl⟩,λa b h=>by simp only[Cd,Cj,Value.int.injEq,GH,IC] at h;exact Eu h.1 h.2⟩
structure NdT where
 sl:SlotT
 dp:Int
 pv:Nat
 nx:Nat
variable{F:Nat->NdT}
abbrev NdT.cells(x:NdT):Ap:=[ι x.sl.1,ι x.sl.2,ι x.dp,π x.pv,π x.nx]
abbrev OU(p:Nat)(x:NdT):Bh:=(p,.cells (τ x.cells) 330 (0,0))
def OV(F:Nat->NdT)(all:List Nat):Ac:=all.map λp=>OU p (F p)
theorem Q3{all:List Nat}(h:p∈all):OU p (F p)∈OV F all:=Ax.2 ⟨p,h,rfl⟩
theorem RQ{F':Nat->NdT}{all:List Nat}(h: ∀p,p∈all->F p=F' p):OV F all=OV F' all:=Bs λp hp=>by rw[h p hp]
theorem Mg{all:List Nat}(x:NdT)(hn:all.Nodup)(hp:p∈all):Upd (OV F all) p (OU p (F p)).2 (OU p x).2 (OV (upd F p x) all):=by
 induction all with
 |nil=>cases hp
 |cons q all ih=>
  rw[AQ] at hn;by_cases e:q=p
  ·subst e;have h1:OV (upd F q x) all=OV F all:=RQ λr hr=>upd_other _ _ _ _ λe=>hn.1 (e▸hr);show Upd (OU q (F q)::OV F all) q _ _ (OU q (upd F q x q)::OV (upd F q x) all);rw[upd_same,h1];exact .here
  ·rcases Au.1 hp with h|h
   ·exact absurd h.symm e
   ·show Upd (OU q (F q)::OV F all) p _ _ (OU q (upd F p x q)::OV (upd F p x) all);rw[upd_other _ _ _ _ e];exact .there (ih hn.2 h)
instance:EQ prog 61 [some .i64,some .i64]:=⟨Bu⟩
abbrev DT:=List (SlotT×Int)
def sW(F:Nat->NdT):List Nat->Prop
 |[]=>True
 |[_]=>True
 |a::b::r=>(F a).nx=b/\(F b).pv=a/\sW F (b::r)
abbrev Lu(b rb m:Nat):Bh:=(b,.cells (τ [π rb,.map (some m)]) 328 (0,0))
structure TB(b rb m:Nat)(F:Nat->NdT)(all os:List Nat)(es:List (Hu SlotT))(clock:Nat)(lq:Ac):Prop where
 eq:lq=Lu b rb m::(m,Ir Cd es clock)::OV F all
 nd:all.Nodup
 rin:rb∈all
 sub: ∀p,p∈os->p∈all
 ond:(rb::os).Nodup
 adj:sW F (rb::(os++[rb]))
 snd:(os.map λp=>(F p).sl).Nodup
 keys:KeysOk es clock
 get: ∀s,Ih s es=(os.find? λp=>decide ((F p).sl=s)).map λp=> π p
def FH(F:Nat->NdT)(os:List Nat):DT:=os.map λp=>((F p).sl,(F p).dp)
def IsT(b:Nat)(D:DT)(lq:Ac):Prop:= ∃rb m F all os es clock,FH F os=D/\TB b rb m F all os es clock lq
theorem TB.m1{all:List Nat}(h:TB b rb m F all os es clock lq):Lu b rb m∈lq:=by rw[h.eq];exact .head _
theorem TB.m2{all:List Nat}(h:TB b rb m F all os es clock lq):(m,Ir Cd es clock)∈lq:=by rw[h.eq];exact .tail _ (.head _)
theorem TB.m3{all:List Nat}(h:TB b rb m F all os es clock lq)(hp:p∈all):OU p (F p)∈lq:=by rw[h.eq];exact .tail _ (.tail _ (Q3 hp))
def blk(F:Nat->NdT)(os:List Nat)(s:SlotT):Option Nat:=os.find? λp=>decide ((F p).sl=s)
theorem IJ(h:blk F os s=some p):p∈os/\(F p).sl=s:=
 ⟨BE h,by have:=Eb h;simpa using this⟩
def NB:Option Nat->Value
 |some p=> π p
 |none=> .pointer none
theorem of_any(b rb m:Nat)(F:Nat->NdT)(all os:List Nat)(es:List (Hu SlotT))(clock:Nat)(lq:Ac)(s:SlotT)(hT:TB b rb m F all os es clock lq)(l:Ac)(CJ: ∀c,c∈lq->c∈l):
 Fn prog 247 [π b,.agg (τ (Cd s))] l λv l'=>v=NB (blk F os s)/\l'=l:=by
 have h1:=CJ _ hT.m1;have h2:=CJ _ hT.m2;have hg:(Ih s es).getD (.pointer none)=NB (blk F os s):=by rw[hT.get];unfold blk;cases os.find? λp=>decide ((F p).sl=s)<;>rfl
 refine AO func247 ntmps247 λE=>?_;refine gz ?_;refine AP (Cw rfl) ?_;rintro _ _ ⟨b3,hb3,rfl,rfl⟩;refine gz ?_;refine Ct [] 7 _ ?_ (hR:=(λ_ h=>h));refine pz ?_;apply EI
 ·apply iL (enc:=Cd) (a:=s) (es:=es) (clock:=clock) (ks:=[some .i64,some .i64])
  ·rfl
  ·rfl
  ·exact NA
  ·exact .tail _ h2
 ·rfl
 ·rfl
 ·rfl
 rw[hg];refine pz ?_;exact Fd
theorem new_any(l:Ac):Fn prog 179 [] l λv l'=> ∃b,v= π b/\ ∃lq,IsT b [] lq/\l'=lq++l:=by refine AO func179 ntmps179 λE=>?_;refine gz ?_;refine AP (Cw rfl) ?_;rintro _ _ ⟨rb,hrb,rfl,rfl⟩;refine gz ?_;refine AP Pd ?_;rintro _ _ ⟨m,hm,rfl,rfl⟩;refine gz ?_;refine AP (Cw rfl) ?_;rintro _ _ ⟨b,hb,rfl,rfl⟩;refine gz ?_;exact BF [] rfl .refl Ba ⟨b,rfl,[Lu b rb m,(m,.map #[] 0),OU rb ⟨(0,0),0,rb,rb⟩],⟨rb,m,λ_=>⟨(0,0),0,rb,rb⟩,[rb],[],[],0,rfl,⟨rfl,by simp,by simp,by simp,by simp,⟨rfl,rfl,trivial⟩,by simp,⟨by simp,by simp,by simp⟩,λs=>rfl⟩⟩,rfl⟩
theorem OW{F F':Nat->NdT}: ∀{L:List Nat},sW F L->(∀u,u∈L.dropLast->(F' u).nx=(F u).nx)->(∀v,v∈L.tail->(F' v).pv=(F v).pv)->sW F' L
 |[],_,_,_=>trivial
 |[_],_,_,_=>trivial
 |a::b::r,⟨h1,h2,h3⟩,hn,hp=>by
  refine⟨by rw[hn a (by simp[List.dropLast]),h1],by rw[hp b (by simp),h2],OW h3 (λu hu=>hn u ?_) λv hv=>hp v ?_⟩
  ·simp only[He (MI b r),Au];exact .inr hu
  ·simp only[Jo] at hv⊢;exact An _ hv
theorem Qb{F F':Nat->NdT}{p n x:Nat}{Z:List Nat}: ∀{X:List Nat},sW F (X++p::n::Z)->(X++p::n::Z).dropLast.Nodup->(X++p::n::Z).tail.Nodup->x∉X++p::n::Z->
 (∀u,u≠x->u≠p->(F' u).nx=(F u).nx)->(∀v,v≠x->v≠n->(F' v).pv=(F v).pv)->(F' p).nx=x->(F' x).pv=p->(F' x).nx=n->(F' n).pv=x->sW F' (X++p::x::n::Z)
 |[],⟨h1,h2,h3⟩,hs,ht,hx,hn,hp,k1,k2,k3,k4=>by
  refine⟨k1,k2,k3,k4,OW h3 (λu hu=>hn u ?_ ?_) λv hv=>hp v ?_ ?_⟩
  ·rintro rfl;exact hx (An _ (List.dropLast_subset _ hu))
  ·rintro rfl;have:(u::(n::Z).dropLast).Nodup:=by simpa using hs
   exact(AQ.1 this).1 hu
  ·rintro rfl;exact hx (by simp only[Ag,Au,Jo] at hv⊢;exact .inr (.inr hv))
  ·rintro rfl;have:(v::Z).Nodup:=by simpa using ht
   exact(AQ.1 this).1 hv
 |[a],⟨h1,h2,h3⟩,hs,ht,hx,hn,hp,k1,k2,k3,k4=>by
  have Nc:(a::(p::n::Z).dropLast).Nodup:=by simpa using hs
  have Ol:=AQ.1 Nc;have aQ:(p::n::Z).Nodup:=by simpa using ht
  have aR:=AQ.1 aQ;refine⟨by rw[hn a (λe=>hx (by simp[e])) (λe=>Ol.1 (by rw[e];simp[List.dropLast]))];exact h1,by rw[hp p (λe=>hx (by simp[e])) (λe=>aR.1 (by rw[e];simp))];exact h2,?_⟩;exact Qb (X:=[]) h3 Ol.2 aR.2 (λh=>hx (An _ h)) hn hp k1 k2 k3 k4
 |a::b::X,⟨h1,h2,h3⟩,hs,ht,hx,hn,hp,k1,k2,k3,k4=>by
  have Nc:(a::((b::X)++p::n::Z).dropLast).Nodup:=by have:((a::b::X)++p::n::Z).dropLast=a::((b::X)++p::n::Z).dropLast:=He (by simp);rwa [this] at hs
  have Ol:=AQ.1 Nc;have aQ:(b::(X++p::n::Z)).Nodup:=ht;have aR:=AQ.1 aQ;have hpd:p∈((b::X)++p::n::Z).dropLast:=by rw[JV (by simp)];exact Aa _ (by simp[List.dropLast])
  refine⟨by rw[hn a (λe=>hx (by simp[e])) (λe=>Ol.1 (by rw[e];exact hpd))];exact h1,by rw[hp b (λe=>hx (by simp[e])) (λe=>aR.1 (by rw[e];simp))];exact h2,?_⟩;exact Qb (X:=b::X) h3 Ol.2 aR.2 (λh=>hx (An _ h)) hn hp k1 k2 k3 k4
theorem NC{F:Nat->NdT}{p n:Nat}{Z:List Nat}: ∀{X:List Nat},sW F (X++p::n::Z)->(F p).nx=n/\(F n).pv=p
 |[],⟨h1,h2,_⟩=>⟨h1,h2⟩
 |[a],⟨_,_,h⟩=>NC (X:=[]) h
 |a::b::X,⟨_,_,h⟩=>NC (X:=b::X) h
theorem Kp{l:Ac}{o o':Obj}(h:Upd l b o o' l')(r:Ac):Upd (l++r) b o o' (l'++r):=by
 induction h with
 |here=>exact .here
 |there _ ih=>exact .there ih
theorem Kq(h:blk F os s=none): ∀p,p∈os->(F p).sl≠s:=λp hp e=>by have:=Bp.1 h p hp;simp[e] at this
theorem fD(b rb m:Nat)(F:Nat->NdT)(all os:List Nat)(es:List (Hu SlotT))(clock:Nat)(lq:Ac)(hT:TB b rb m F all os es clock lq)(X Y:List Nat)(p:Nat)(hX:rb::os=X++p::Y)(s:SlotT)(dp:Int)(hs:blk F os s=none)(G:Ac):
 Fn prog 248 [π b,π p,.agg (τ (Cd s)),ι dp] (lq++G) λv l'=>v= .tuple #[]/\ ∃DI,IsT b ((FH F os).take X.length++(s,dp)::(FH F os).drop X.length) DI/\l'=DI++G:=by
 obtain⟨n,Z,hnZ⟩: ∃n Z,Y++[rb]=n::Z:=by cases Y with|nil=>exact⟨_,_,rfl⟩|cons y Y=>exact⟨_,_,rfl⟩
 have hL:rb::(os++[rb])=X++p::n::Z:=by rw[<-Ae,hX,Am,Ae,hnZ]
 have PC:=hT.adj;rw[hL] at PC;obtain⟨hpn,hnp⟩:=NC PC;have iq: ∀q,q∈X++p::n::Z->q∈all:=λq hq=>by
  rw[<-hL] at hq;rcases Au.1 hq with rfl|hq
  ·exact hT.rin
  ·rcases AB.1 hq with hq|hq
   ·exact hT.sub q hq
   ·rw[Ay.1 hq];exact hT.rin
 have xY:p∈all:=iq p (by simp);have ry:n∈all:=iq n (by simp);refine AO func248 ntmps248 λE=>?_;refine gz ?_;refine AP (Cw rfl) ?_;rintro _ _ ⟨b6,hb6,rfl,rfl⟩;have rH:=hT.eq;have xZ:OU p (F p)∈lq++G:=Ai _ (hT.m3 xY);refine gz ?_;refine Ct [8] 10 _ ?_ (hR:=(λ_ h=>h));refine pz ?_;apply CX
 ·exact Cw rfl
 ·rfl
 ·rfl
 ·rfl
 ·rintro _ _ ⟨x,_,_,rfl⟩ c hc;exact .tail _ hc
 rintro _ _ ⟨x,hx,rfl,rfl⟩;refine pz ?_;have qU:x∉all:=λh=>hx _ (.tail _ (Ai _ (hT.m3 h))) rfl;rw[hpn];obtain⟨F1,hF1⟩: ∃F1,F1=upd F x ⟨s,dp,p,n⟩:=⟨_,rfl⟩
 have e1x:F1 x=⟨s,dp,p,n⟩:=by rw[hF1,upd_same]
 have x5: ∀q,q≠x->F1 q=F q:=λq hq=>by rw[hF1,upd_other _ _ _ _ hq]
 have hpx:p≠x:=λe=>qU (e▸xY);have W8:n≠x:=λe=>qU (e▸ry);have x6:(x::all).Nodup:=AQ.2 ⟨qU,hT.nd⟩;have rv:OV F1 (x::all)=OU x ⟨s,dp,p,n⟩::OV F all:=by show OU x (F1 x)::OV F1 all=_;rw[e1x,RQ (F:=F1) (F':=F) λq hq=>x5 q λe=>qU (e▸hq)]
 refine KG (l':=Lu b rb m::(m,Ir Cd es clock)::(OV F1 (x::all)++((b6,.cells (τ (Cd s)) 61 (0,0))::G))) (Keep.of_perm ?_) ?_
 ·rw[rH,rv];refine(AC [(x,_),(b6,_)] [Lu b rb m,(m,Ir Cd es clock)] (OV F all++G)).trans ?_;refine List.Perm.cons _ (List.Perm.cons _ (List.Perm.cons _ ?_));exact(AJ (l₁:=OV F all)).symm
 have hmx:OU x (F1 x)∈Lu b rb m::(m,Ir Cd es clock)::(OV F1 (x::all)++((b6,.cells (τ (Cd s)) 61 (0,0))::G)):= .tail _ (.tail _ (Ai _ (Q3 (.head _))));rw[e1x] at hmx;refine gz ?_;refine Ct [12,15] 16 ([]) ?_;refine pz ?_;apply Gy (S:=[OU x ⟨s,dp,p,n⟩])
 ·exact DQ rfl (.head _) rfl
 ·intro c hc;cases hc with
  |head=>exact hmx
  |tail _ h=>cases h
 ·rfl
 ·rfl
 ·rfl
 refine pz ?_;apply Gy (S:=[OU x ⟨s,dp,p,n⟩])
 ·exact DQ rfl (.head _) rfl
 ·intro c hc;cases hc with
  |head=>exact hmx
  |tail _ h=>cases h
 ·rfl
 ·rfl
 ·rfl
 refine pz ?_;obtain⟨F2,Rz⟩: ∃F2,F2=upd F1 p {F1 p with nx:=x}:=⟨_,rfl⟩
 obtain⟨F3,hF3⟩: ∃F3,F3=upd F2 n {F2 n with pv:=x}:=⟨_,rfl⟩
 apply HL
 ·exact Dy (b:=p) (off:=4) (cs:=τ (F1 p).cells) rfl rfl rfl (.there (.there (Kp (Mg {F1 p with nx:=x} x6 (An _ xY)) _))) (by simp)
 ·rfl
 ·rfl
 ·intro _ _ _ c hc;cases hc
 ·exact λ_ _ _ x hx ha=>Dk Bu hx ha
 rintro _ _ ⟨rfl,rfl⟩;rw[<-Rz];refine pz ?_;apply HL
 ·exact Dy (b:=n) (off:=3) (cs:=τ (F2 n).cells) rfl rfl rfl (.there (.there (Kp (Mg {F2 n with pv:=x} x6 (An _ ry)) _))) (by simp)
 ·rfl
 ·rfl
 ·intro _ _ _ c hc;cases hc
 ·exact λ_ _ _ x hx ha=>Dk Bu hx ha
 rintro _ _ ⟨rfl,rfl⟩;rw[<-hF3];refine pz ?_;have hm6:(b6,Obj.cells (τ (Cd s)) 61 (0,0))∈OV F3 (x::all)++((b6,.cells (τ (Cd s)) 61 (0,0))::G):=Aa _ (.head _);refine gz ?_;refine Ct [6] 7 ([Lu b rb m]) ?_;refine pz ?_;apply Gy (S:=[(b6,.cells (τ (Cd s)) 61 (0,0))])
 ·exact E1 rfl (.head _) (by(repeat(first|with_reducible apply LSub.done|with_reducible apply LSub.take|with_reducible apply LSub.drop)))
 ·intro c hc;cases hc with
  |head=>exact .tail _ (.tail _ hm6)
  |tail _ h=>cases h
 ·rfl
 ·rfl
 ·rfl
 refine pz ?_;apply HL
 ·apply QM (enc:=Cd) (a:=s) (es:=es) (clock:=clock) (ks:=[some .i64,some .i64])
  ·rfl
  ·rfl
  ·rfl
  ·exact NA
  ·exact D1
 ·rfl
 ·rfl
 ·rintro _ _ ⟨rfl,rfl⟩ c hc;cases hc with
  |head=>exact .head _
  |tail _ h=>cases h
 ·exact λ_ _ _ x hx ha=>Dk Bu hx ha
 rintro _ _ ⟨rfl,rfl⟩;refine pz ?_;refine gz ?_;obtain⟨A,hA,N6⟩: ∃A,X++[p]=rb::A/\os=A++Y:=by
  have h:rb::os=(X++[p])++Y:=by rw[hX];simp
  cases hXp:X++[p] with
  |nil=>simp at hXp
  |cons a A=>rw[hXp,Ae,Cj] at h;exact⟨A,by rw[h.1],h.2⟩
 have vL:A.length=X.length:=by have:=BM List.length hA;simp at this;omega
 have e3: ∀q,(F3 q).sl=(F1 q).sl/\(F3 q).dp=(F1 q).dp:=λq=>by
  rw[hF3,Rz];unfold upd
  split<;>split<;>simp_all
 have e3n: ∀q,(F3 q).nx=if q=p then x else(F1 q).nx:=λq=>by
  rw[hF3,Rz];unfold upd
  split<;>split<;>simp_all
 have e3p: ∀q,(F3 q).pv=if q=n then x else(F1 q).pv:=λq=>by
  rw[hF3,Rz];unfold upd
  split<;>split<;>simp_all
 have AbD: ∀q,q∈os->q≠x:=λq hq e=>qU (e▸hT.sub q hq);have eo: ∀q,q∈os->(F3 q).sl=(F q).sl/\(F3 q).dp=(F q).dp:=λq hq=>by rw[(e3 q).1,(e3 q).2,x5 q (AbD q hq)];exact⟨rfl,rfl⟩
 have ex:(F3 x).sl=s/\(F3 x).dp=dp:=by rw[(e3 x).1,(e3 x).2,e1x];exact⟨rfl,rfl⟩
 have HI:=Kq hs;obtain⟨DI,RA⟩: ∃DI,DI=Lu b rb m::(m,Ir Cd (LN s (π x) clock es).1 (LN s (π x) clock es).2)::OV F3 (x::all):=⟨_,rfl⟩
 refine Bc (l':=DI++G) ?_ ⟨rfl,DI,⟨rb,m,F3,x::all,A++x::Y,_,_,?_,⟨RA,x6,An _ hT.rin,λq hq=>?_,?_,?_,?_,hT.keys.set _ _,λs'=>?_⟩⟩,rfl⟩
 ·rw[RA];refine⟨[(b6,.cells (τ (Cd s)) 61 (0,0))],?_⟩;refine((List.Perm.cons _ (List.Perm.cons _ AJ)).trans ?_);exact AC [_,_] [_] _
 ·unfold FH;rw[N6,At,AK,At,<-vL];rw[Hb (by simp),IM (by simp),ex.1,ex.2];congr 1
  ·apply Bs;intro q hq;have:=eo q (by rw[N6];exact Ai _ hq);rw[this.1,this.2]
  ·congr 1;apply Bs;intro q hq;have:=eo q (by rw[N6];exact Aa _ hq);rw[this.1,this.2]
 ·rcases AB.1 hq with hq|hq
  ·exact An _ (hT.sub q (by rw[N6];exact Ai _ hq))
  ·rcases Au.1 hq with rfl|hq
   ·exact .head _
   ·exact An _ (hT.sub q (by rw[N6];exact Aa _ hq))
 ·have P1:(rb::(A++x::Y)).Perm (x::(rb::os)):=by
   rw[N6];exact(List.Perm.cons _ AJ).trans (List.Perm.swap _ _ _)
  rw[P1.nodup_iff,AQ];refine⟨λh=>?_,hT.ond⟩;rcases Au.1 h with h|h
  ·exact qU (h▸hT.rin)
  ·exact AbD x h rfl
 ·have Qr:rb::((A++x::Y)++[rb])=X++p::x::n::Z:=by
   have:rb::((A++x::Y)++[rb])=(rb::A)++(x::(Y++[rb])):=by simp
   rw[this,<-hA,hnZ];simp
  rw[Qr];refine Qb PC ?_ ?_ (λh=>qU (iq x h)) (λu h1 h2=>?_) (λv h1 h2=>?_) ?_ ?_ ?_ ?_
  ·rw[<-hL,<-Ae,List.dropLast_concat];exact hT.ond
  ·rw[<-hL,Jo,BC];have:=AQ.1 hT.ond;exact⟨this.2,by simp,λa ha c hc e=>this.1 (by rw[Ay.1 hc] at e;rw[<-e];exact ha)⟩
  ·rw[e3n,Ab h2,x5 u h1]
  ·rw[e3p,Ab h2,x5 v h1]
  ·rw[e3n,Ad rfl]
  ·rw[e3p,Ab (λe=>W8 e.symm),e1x]
  ·rw[e3n,Ab (λe=>hpx e.symm),e1x]
  ·rw[e3p,Ad rfl]
 ·have AeW:((A++x::Y).map λq=>(F3 q).sl).Perm (s::os.map λq=>(F q).sl):=by
   rw[N6,At,AK,At,ex.1];have h1:A.map (λq=>(F3 q).sl)=A.map (λq=>(F q).sl):=Bs λq hq=>(eo q (by rw[N6];exact Ai _ hq)).1;have h2:Y.map (λq=>(F3 q).sl)=Y.map (λq=>(F q).sl):=Bs λq hq=>(eo q (by rw[N6];exact Aa _ hq)).1;rw[h1,h2];exact AJ
  rw[AeW.nodup_iff,AQ];exact⟨λh=>by obtain⟨q,hq,e⟩:=Ax.1 h;exact HI q hq e,hT.snd⟩
 ·rw[Ko];have hfA: ∀B:List Nat,(∀q,q∈B->q∈os)->B.find? (λq=>decide ((F3 q).sl=s'))=B.find? (λq=>decide ((F q).sl=s')):=λB hB=>by
   induction B with
   |nil=>rfl
   |cons z B ih=>rw[BH,BH,(eo z (hB z Al)).1,ih λq hq=>hB q (An _ hq)]
  rw[Ek,hfA A (λq hq=>by rw[N6];exact Ai _ hq),BH,ex.1];by_cases rK:s'=s
  ·rw[Ad rK,Aq rK.symm];have:A.find? (λq=>decide ((F q).sl=s'))=none:=Bp.2 λq hq=>by
    have:=HI q (by rw[N6];exact Ai _ hq);simpa[rK] using this
   rw[this];rfl
  ·rw[Ab rK,Av (λe=>rK e.symm),hT.get,N6,Ek,hfA Y (λq hq=>by rw[N6];exact Aa _ hq)]
section
variable{P:Program}{ro:Option Nat}{N:Nat}{E:World}{ops:Array Oper}{Q:Exit->Act->World->Prop}{R:Ac}{tbl:List (List Nat)}{sw:Sw}{sp:F5}{pl:List BI}{o:Oper}{fr fr':Fr}{ds:List Deferred}{l:Ac}{K:Value->Ac->Prop}{v:Value}{i:Nat}{k:Bool}
theorem P7{d:Nat}(h:OpE P ro N fr l o K)(hw:RD ops fr o.guard=some true)(hd:o.dst=some d)(hb:Nat.blt d N=true)(hR: ∀v l',K v l'->(∀c,c∈R->c∈l'))(hS: ∀v l',K v l'-> ∀x,x∈sp->FP tbl i x.1=false-> ∀c,c∈x.2->c∈l')(hk: ∀v l',K v l'->PlanS P ro N E ops Q R tbl none sp pl ((d,v)::fr) ds l'):PlanS P ro N E ops Q R tbl none sp ((i,false,o)::pl) fr ds l:=by
 rcases Km hw with⟨h1,_⟩|⟨j,b,oj,dj,b',h1,h2,h3,h4,h5⟩
 ·exact Hi h h1 hd hb hR hS hk
 ·have:b'=b:=by simpa using h5
  subst this;exact .ge h h1 h2 h3 h4 (by rw[hd];exact hb) hR hS λv l' hkv=>by rw[hd];exact hk v l' hkv
end
theorem AcK{q r:Nat}(h:q≠r):(!decide ((⟨q,0,none⟩:Addr)=⟨r,0,none⟩))=true:=by rw[Av (λe=>h (by injection e))];rfl
theorem AcL(q:Nat):(!decide ((⟨q,0,none⟩:Addr)=⟨q,0,none⟩))=false:=by rw[Aq rfl];rfl
theorem TB.nxt{all:List Nat}(h:TB b rb m F all os es clock lq){Y:List Nat}(hX:rb::os=X++p::Y):(F p).nx=Y.headD rb:=by
 have PC:=h.adj;rw[show rb::(os++[rb])=X++p::(Y++[rb]) by rw[<-Ae,hX,Am,Ae]] at PC;cases Y with
 |nil=>exact(NC (Z:=[]) PC).1
 |cons y Y=>exact(NC (Z:=Y++[rb]) PC).1
theorem TB.prv{all:List Nat}(h:TB b rb m F all os es clock lq){Y:List Nat}(hX:rb::os=X++p::Y):(F (Y.headD rb)).pv=p:=by
 have PC:=h.adj;rw[show rb::(os++[rb])=X++p::(Y++[rb]) by rw[<-Ae,hX,Am,Ae]] at PC;cases Y with
 |nil=>exact(NC (Z:=[]) PC).2
 |cons y Y=>exact(NC (Z:=Y++[rb]) PC).2
def splitD(s:SlotT):DT->Option (DT×Int×DT)
 |[]=>none
 |x::r=>if x.1=s then some ([],x.2,r) else(splitD s r).map λy=>(x::y.1,y.2.1,y.2.2)
theorem Hn{F:Nat->NdT}{s:SlotT}: ∀{os:List Nat} {p:Nat},blk F os s=some p-> ∃A B,os=A++p::B/\splitD s (FH F os)=some (FH F A,(F p).dp,FH F B)
 |[],_,h=>by cases h
 |q::os,p,h=>by
  unfold blk at h;rw[BH] at h;by_cases e:(F q).sl=s
  ·rw[Aq e] at h;cases h;exact⟨[],os,rfl,by show splitD s (((F q).sl,(F q).dp)::FH F os)=_;unfold splitD;rw[Ad e];rfl⟩
  ·rw[Av e] at h;obtain⟨A,B,rfl,h2⟩:=Hn (os:=os) h;exact⟨q::A,B,rfl,by show splitD s (((F q).sl,(F q).dp)::FH F _)=_;unfold splitD;rw[Ab e,h2];rfl⟩
theorem J7{F:Nat->NdT}{s:SlotT}: ∀{os:List Nat},blk F os s=none->splitD s (FH F os)=none
 |[],_=>rfl
 |q::os,h=>by
  unfold blk at h;rw[BH] at h;by_cases e:(F q).sl=s
  ·rw[Aq e] at h;cases h
  ·rw[Av e] at h;show splitD s (((F q).sl,(F q).dp)::FH F os)=none;unfold splitD;rw[Ab e,J7 (os:=os) h];rfl
abbrev aF(B b:Nat):Bh:=(B,.cells #[π b] 232 (0,0))
abbrev Zv(B p:Nat):Bh:=(B,.cells #[π p] 325 (0,0))
theorem Un(b p:Nat)(l:Ac):Fn prog 171 [π b,π p] l λv l'=> ∃B1 B2,v= .func (.func 234) #[] #[π B1,π B2]/\l'=Zv B1 p::aF B2 b::l:=by refine AO func171 ntmps171 λE=>?_;refine Iy λb2=>?_;refine Iy λb3=>?_;exact Bc .refl ⟨b3,b2,rfl,rfl⟩
def Nxs(F:Nat->NdT)(L:List Nat)(l:Ac):Prop:= ∀q,q∈L-> ∃x:NdT,OU q x∈l/\x.nx=(F q).nx
theorem Sd(B1 B2 b rb m p:Nat)(F:Nat->NdT)(all os:List Nat)(es:List (Hu SlotT))(clock:Nat)(lq:Ac)(hT:TB b rb m F all os es clock lq)(X Y:List Nat)(hX:rb::os=X++p::Y):
 FN prog 234 [π B1,π B2] (λq:Nat=>[π q]) (λxs=>xs=Y) (λpre=>pre<+:Y)
  (λpre l=>Zv B1 p∈l/\aF B2 b∈l/\Lu b rb m∈l/\Nxs F (rb::os) l):=by
 refine⟨λr I Ix G0 Cf hY l G hG h0=>?_⟩;have hpc:p∈rb::os:=by rw[hX];simp
 obtain⟨n1,n2,n3,n4⟩:=Cf _ _ G hG h0;obtain⟨xp,hxp,hxn⟩:=n4 p hpc;refine AO func234 ntmps234 λE=>?_;refine gz ?_;rw[hxn,hT.nxt hX];refine gz ?_;refine CF (α:=List Nat×List Nat×Ac) (λx=>[(0,.func (.yield r) #[] #[]),(1,π B1),(2,π B2),(4,.pointer (some ⟨x.2.1.headD rb,0,none⟩))]) (λx=>x.2.2++G) (λx=>x.1++x.2.1=Y/\I x.1 x.2.2) (λx=>x.2.1.length) ([],Y,l) ⟨rfl,h0⟩ ⟨rfl,rfl,rfl,rfl,trivial⟩ .refl ?_;rintro⟨pre,suf,l⟩ ⟨N3,hI⟩;simp only at N3 hI⊢;obtain⟨n1,n2,n3,n4⟩:=Cf _ _ G hG hI;obtain⟨xr,hxr,hxrn⟩:=n4 rb Al;cases suf with
 |nil=>rw[Bj] at N3;subst N3;simp only[List.headD_nil];refine gz ?_;refine Be (fc rfl rfl A0 hxr hxr) ?_;rw[AcL];refine gz ?_;exact Bc .refl ⟨l,rfl,.inl ⟨_,rfl,hI⟩⟩
 |cons q suf=>
  have hX2:rb::os=(X++p::pre)++q::suf:=by rw[hX,<-N3];simp
  have hqc:q∈rb::os:=by rw[hX2];simp
  have hqr:q≠rb:=λe=>by
   have Ln:=hT.ond;cases X with
   |nil=>rw[Ag,Cj] at hX;rw[hX.2,<-N3,<-e] at Ln;simp at Ln
   |cons x X=>rw[Ae,Cj] at hX;rw[hX.2,<-N3,<-e] at Ln;simp at Ln
  obtain⟨xq,hxq,hxqn⟩:=n4 q hqc;simp only[IL];refine gz ?_;refine Be (fc rfl rfl A0 hxq hxr) ?_;rw[AcK hqr];refine gz ?_;have DG:pre++[q]<+:Y:=⟨suf,by rw[<-N3];simp⟩
  refine AP (C8 rfl rfl (hY pre q l G hG hI DG)) ?_;rintro v l' ⟨l1,rfl,⟨rfl,Kz⟩|⟨rfl,hx⟩⟩
  ·obtain⟨k1,k2,k3,k4⟩:=Cf _ _ G hG Kz;obtain⟨xq2,hxq2,hxqn2⟩:=k4 q hqc;refine gz ?_;rw[hxqn2,hT.nxt hX2];refine gz ?_;exact BZ (pre++[q],suf,l1) ⟨by rw[<-N3];simp,Kz⟩ (by simp) ⟨rfl,rfl,rfl,rfl,trivial⟩ .refl
  ·refine gz ?_;exact Bc .refl ⟨l1,rfl,.inr ⟨_,DG,hx⟩⟩
theorem sX{P:α->Bool}{pre:List α}{y:α}{Y:List α}(h1:pre++[y]<+:Y)(h2:pre<+:Y.takeWhile P)(hy:P y=true):pre++[y]<+:Y.takeWhile P:=by obtain⟨r,rfl⟩:=h1;have hp: ∀x,x∈pre->P x=true:=λx hx=>AS.1 (IV (p:=P)) x (h2.subset hx);rw[Am,Hc hp];show pre++[y]<+:pre++List.takeWhile P (y::r);rw[HE hy];exact⟨r.takeWhile P,by simp⟩
theorem sY{P:α->Bool}{pre:List α}{y:α}{Y:List α}(h1:pre++[y]<+:Y)(h2:pre<+:Y.takeWhile P)(hy:P y=false):pre=Y.takeWhile P:=by obtain⟨r,rfl⟩:=h1;have hp: ∀x,x∈pre->P x=true:=λx hx=>AS.1 (IV (p:=P)) x (h2.subset hx);rw[Am,Hc hp];show pre=pre++List.takeWhile P (y::r);rw[FK (by rw[hy];simp),Bj]
theorem yS{P:α->Bool}{Y:List α}(h2:Y<+:Y.takeWhile P):Y=Y.takeWhile P:=(h2.sublist.eq_of_length_le (Es P).length_le)
theorem Keep.in_mid(A B C:Ac):Keep (A++(B++C)) (B++(A++C)):=Keep.of_perm (AC A B C)
def Dps(F:Nat->NdT)(L pre:List Nat)(l:Ac):Prop:= ∀q,q∈L-> ∃x:NdT,OU q x∈l/\x.nx=(F q).nx/\(q∉pre->x.dp=(F q).dp)
abbrev nV(x:SlotT×Int):Ap:=[ι x.1.1,ι x.1.2,ι x.2]
def ncs(D:DT):Ap:=D.flatMap nV
def scs(L:List SlotT):Ap:=L.flatMap Cd
theorem nA(D:DT)(x:SlotT×Int):ncs (D++[x])=ncs D++nV x:=by simp[ncs]
theorem scs_snoc(D:List SlotT)(x:SlotT):scs (D++[x])=scs D++Cd x:=by simp[scs]
theorem nB(F:Nat->NdT)(pre:List Nat)(y:Nat):FH F (pre++[y])=FH F pre++[((F y).sl,(F y).dp)]:=by simp[FH]
def belowD(D:DT)(s:SlotT):List SlotT:=match splitD s D with
 |none=>[]
 |some (_,d,B)=>(B.takeWhile λx=>decide (d<x.2)).map Prod.fst
theorem all_any(b:Nat)(D:DT)(lq:Ac)(hq:IsT b D lq)(hn:D.length<=1000000)(l:Ac)(CJ: ∀c,c∈lq->c∈l):
 Fn prog 116 [π b] l λv l'=> ∃cs,OwnSl 129 3 v D.length (ncs D) cs/\l'=cs++l:=by
 obtain⟨rb,m,F,all,os,es,clock,rfl,hT⟩:=hq;have lr:os.length<=1000000:=by simpa[FH] using hn
 have h1:=CJ _ hT.m1;have lF: ∀q,q∈rb::os->OU q (F q)∈l:=λq hq=>by
  rcases Au.1 hq with rfl|hq
  ·exact CJ _ (hT.m3 hT.rin)
  ·exact CJ _ (hT.m3 (hT.sub q hq))
 refine AO func116 ntmps116 λE=>?_;refine Iy λb3=>?_;refine AP (Dr rfl rfl (Un _ _ _)) ?_;rintro v l' ⟨C1,C2,rfl,rfl⟩;refine gz ?_;refine Dj (α:=Nat) (ps:=[13]) (lb:=[π C1,π C2]) rfl (Sd C1 C2 b rb m rb F all os es clock lq hT [] os rfl) (λ_=>rfl) rfl
  (λpre l=> ∃v cs,OwnSl 129 3 v pre.length (ncs (FH F pre)) cs/\l=[Zv C1 rb,aF C2 b,(b3,.cells #[v] 45 (0,0))]++cs)
  (λc pre l=>False)
  _ l (λpre l2 X2 hX h=>by obtain⟨v,cs,_,rfl⟩:=h;exact⟨.head _,.tail _ (.head _),Aa _ (hX _ h1),λq hq=>⟨F q,Aa _ (hX _ (lF q hq)),rfl⟩⟩) AY ⟨_,[],OwnSl.nil _ _,rfl⟩ ?_ ?_ ?_
 ·rintro E r0 Gb pre y l' T ⟨fn,tmps,Dd,rfl⟩ Ry ⟨v,cs',EY,rfl⟩ DG;have hy:y∈rb::os:=An _ (DG.subset (by simp));have hyT:=Ry _ (lF y hy);have Yj:pre.length<=1000000:=by have:=DG.length_le;simp at this;omega
  simp only[DY,Ae,Ag];refine gz ?_;refine CP (.there (.there (.there (FX _ _ _ _ _)))) ?_;generalize hX1:(r0,Obj.loop (DV fn tmps _ _ _ Dd .busy none))::T=X1;have x7:OU y (F y)∈X1:=by rw[<-hX1];exact .tail _ hyT
  refine gz ?_;refine Ct [10,11,12] 13 ([]) ?_;refine pz ?_;apply Gy (S:=[(b3,.cells #[v] 45 (0,0))])
  ·exact DQ rfl (.head _) rfl
  ·intro c hc;cases hc with
   |head=>exact .tail _ ν
   |tail _ h=>cases h
  ·rfl
  ·rfl
  ·rfl
  refine pz ?_;apply Gy (S:=[OU y (F y)])
  ·exact E1 rfl (.head _) (by(repeat(first|with_reducible apply LSub.done|with_reducible apply LSub.take|with_reducible apply LSub.drop)))
  ·intro c hc;cases hc with
   |head=>exact .tail _ (.tail _ (.tail _ (Aa _ x7)))
   |tail _ h=>cases h
  ·rfl
  ·rfl
  ·rfl
  refine pz ?_;apply Gy (S:=[OU y (F y)])
  ·exact DQ rfl (.head _) rfl
  ·intro c hc;cases hc with
   |head=>exact .tail _ (.tail _ (.tail _ (Aa _ x7)))
   |tail _ h=>cases h
  ·rfl
  ·rfl
  ·rfl
  refine pz ?_;apply Hi
  ·apply FB (ws:=nV ((F y).sl,(F y).dp)) (k:=3)
   ·rfl
   ·rfl
   ·rfl
   ·decide
   ·decide
  ·rfl
  ·rfl
  ·rfl
  ·intro _ _ _ c hc;cases hc
  ·rintro _ _ ⟨bl,_,rfl,rfl⟩ x hx _ c hc;have h3: ∀o:Obj,(b3,o)∈(bl,Obj.cells (τ (nV ((F y).sl,(F y).dp))) 129 (0,0))::Zv C1 rb::aF C2 b::(b3,o)::(cs'++X1):=λo=> .tail _ ω;simp only[Au,BR,EF] at hx;rcases hx with rfl|rfl|rfl<;>simp only[Au,BR,EF] at hc<;>subst hc
   ·exact .tail _ (.tail _ (.tail _ (.tail _ (Aa _ x7))))
   ·exact .tail _ (.tail _ (.tail _ (.tail _ (Aa _ x7))))
   ·exact h3 _
  rintro _ _ ⟨bl,_,rfl,rfl⟩;refine pz ?_;apply Hi
  ·apply HM (k:=3) (X:=[Zv C1 rb,aF C2 b,(b3,.cells #[v] 45 (0,0))]) (cs:=cs') (xs:=ncs (FH F pre)) (n:=pre.length) (zs:=[ι 0,ι 0,ι 0]) (ws:=nV ((F y).sl,(F y).dp))
   ·rfl
   ·rfl
   ·rfl
   ·exact EY
   ·rfl
   ·simp[Value.oneCell']
   ·omega
   ·decide
  ·rfl
  ·rfl
  ·rfl
  ·intro _ _ _ c hc;cases hc
  ·exact λ_ _ _ x hx ha=>Dk Bu hx ha
  rintro v' _ ⟨c2,F0,rfl⟩;have Js:v'.oneCell'=true:=F0.one;simp only[Ae,Ag];apply HL
  ·apply GM (cs:=[v])
   ·rfl
   ·rfl
   ·exact Js
   ·exact Ca
   ·exact .zero
   ·exact D1
  ·rfl
  ·rfl
  ·intro _ _ _ c hc;cases hc
  ·exact λ_ _ _ x hx ha=>Dk Bu hx ha
  rintro _ _ ⟨rfl,rfl⟩;refine pz ?_;refine gz ?_;rw[<-hX1];refine Cn _ (.refl) ⟨v',c2,?_,rfl⟩;rw[nB,nA,Ah];exact F0
 ·rintro Dd xs l' rfl ⟨v,cs',EY,rfl⟩;have Js:v.oneCell'=true:=EY.one;simp only[Ae,Ag];refine gz ?_;refine AU [Dd] (cs'++l) rfl (l':=cs'++l) AY Ba .refl ?_;exact⟨cs',by rw[show(FH F xs).length=xs.length by simp[FH]];exact EY,rfl⟩
 ·rintro Dd c pre l' DG h;exact h.elim
theorem Uo{F:Nat->NdT}{d:Int}: ∀(B:List Nat),((FH F B).takeWhile λx=>decide (d<x.2)).map Prod.fst=(B.takeWhile λq=>decide (d<(F q).dp)).map λq=>(F q).sl
 |[]=>rfl
 |q::B=>by
  show(List.takeWhile _ (((F q).sl,(F q).dp)::FH F B)).map Prod.fst=_;rw[KR,KR];by_cases h:d<(F q).dp
  ·rw[Aq h];show _::List.map Prod.fst _=_::List.map _ _;rw[Uo B]
  ·rw[Av h];rfl
end Tr
end Go.Proofs.YtlifcingifodfaaGreat
