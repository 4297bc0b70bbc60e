/- Laws that the statement's proof leans on (joined out of several texts). -/
import Derived.Test.YtlifcingifodfaaGreatGg7
import Derived.Shelf.SortM.Plain
import Derived.Shelf.SortM.SortNone
set_option maxHeartbeats 4000000
set_option linter.unusedVariables false
set_option linter.unusedSimpArgs false
namespace Go.Proofs.YtlifcingifodfaaGreat
open Tryz
open List(toArray)
open Go.RowKit
set_option maxRecDepth 20000
theorem TU{c:CapT}(h:Jn c)(DC:Int)(Ey:Nat):Jn (HH c DC Ey).1:=by
 have hz:Jn CO:=⟨by decide,by decide⟩
 have hw:=Ow h DC;unfold HH
 split
 ·exact hz
 unfold TS
 split
 ·split
  ·exact hz
  ·split
   ·exact hz
   ·exact⟨by simp only;omega,hw.guard⟩
 split
 ·split
  ·exact hz
  ·split
   ·exact hz
   ·exact⟨hw.badge,by simp only;omega⟩
 split
 ·exact hz
 ·exact hw
theorem l6(c:CapT)(hw:Jn c)(DC:Int)(Ey:Nat)(hd:Ey<18446744073709551616)(l:Ac):Fn prog 196 [.agg (toArray (B0 c)),.int .i64 DC,.int .u64 (Ey:Nat)] l λv l'=>v= .tuple #[.agg (toArray (B0 (HH c DC Ey).1)),.int .i64 (HH c DC Ey).2]/\l'=l:=by
 refine AN func196 ntmps196 λE=>?_;refine AQ λb3=>?_;refine AQ λb6=>?_;refine Bh (AL rfl rfl λl2 _=>Ox c hw DC l2) ?_;have qA:=Ow hw DC;have hce:= @xG c DC;unfold HH;obtain⟨d,v6⟩: ∃d,(Er c DC).1=d:=⟨_,rfl⟩
 obtain⟨e,zC⟩: ∃e,(Er c DC).2=e:=⟨_,rfl⟩
 rw[v6] at qA;rw[v6,zC] at hce⊢;refine AQ λb8=>?_;have hK: ∀(d2 c6:CapT),Keep (Bz b8 d2::Bz b6 c6::Bz b3 c::l) (Bz b6 c6::l):=λ_ _=> .drop (.pick .here (.drop .refl));by_cases he:e≠0
 ·rw[Ad he];refine Aj ?_;exact CT (l':=l) (Bz b6 CO::l) (hK d CO) (.drop .refl) ⟨rfl,rfl⟩
 rw[Ab he];have wx:e=0:=by simpa using he
 clear he;subst wx;refine Aj ?_;refine CN (α:=Unit) (λ_=>[(2,.int .u64 (Ey:Nat)),(6,.pointer (some ⟨b6,0,none⟩)),(8,.pointer (some ⟨b8,0,none⟩)),(9,.int .i64 0),(24,.int .i64 0)]) (λ_=>Bz b8 d::Bz b6 CO::Bz b3 c::l) (λ_=>True) (λ_=>0) () trivial ⟨rfl,rfl,rfl,rfl,rfl,trivial⟩ .refl ?_;rintro _ _;unfold TS;by_cases k8:d.kind=8
 ·rw[Ad k8];by_cases h1:Ey>16777215
  ·rw[Ad h1];refine Aj ?_;exact CT (l':=l) (Bz b6 CO::l) (hK d CO) (.drop .refl) ⟨rfl,rfl⟩
  rw[Ab h1];by_cases h2:d.badge≠0
  ·rw[Ad h2];refine Aj ?_;exact CT (l':=l) (Bz b6 CO::l) (hK d CO) (.drop .refl) ⟨rfl,rfl⟩
  rw[Ab h2];refine Aj ?_;exact CT (l':=l) (Bz b6 ⟨d.kind,d.obj,d.rights,((Ey:Nat):Int),d.guard,d.bits,d.serial,d.page⟩::l) (hK ⟨d.kind,d.obj,d.rights,((Ey:Nat):Int),d.guard,d.bits,d.serial,d.page⟩ ⟨d.kind,d.obj,d.rights,((Ey:Nat):Int),d.guard,d.bits,d.serial,d.page⟩) (.drop .refl) ⟨rfl,rfl⟩
 rw[Ab k8];by_cases k2:d.kind=2
 ·rw[Ad k2];refine Aj ?_;refine Bh (AL rfl rfl λl2 _=>JW Ey 0 12 hd AX AX AX l2) ?_;refine Aj ?_;refine Bh (AL rfl rfl λl2 _=>JW Ey 12 4 hd AX AX AX l2) ?_;have f1:Ed Ey 0 12=Ey%4096:=by unfold Ed;rw[Nat.pow_zero,Nat.div_one]
  have f2:Ed Ey 12 4=Ey/4096%16:=rfl;rw[f1,f2];refine Aj ?_;refine Bh (AL rfl rfl λl2 _=>Qs Ey hd 16 l2) ?_;have Wv:Ln Ey 16=decide (Ey<65536):=YL hd (n:=16) AX;by_cases h1:Ey>=65536
  ·rw[Ad h1,Wv,Aw Af];refine Aj ?_;exact CT (l':=l) (Bz b6 CO::l) (hK ⟨d.kind,d.obj,d.rights,d.badge,((Ey%4096:Nat):Int),((Ey/4096%16:Nat):Int),d.serial,d.page⟩ CO) (.drop .refl) ⟨rfl,rfl⟩
  rw[Ab h1,Wv,Au Af];rw[show Ey/4096%16=Ey/4096 by omega];refine Aj ?_;refine NY (AL rfl rfl λl2 _=>It (RH d Ey) l2) rfl rfl rfl ?_;cases hm:FG (RH d Ey) with
  |false=>rw[Ad rfl];refine Aj ?_;exact CT (l':=l) (Bz b6 CO::l) (hK (RH d Ey) CO) (.drop .refl) ⟨rfl,rfl⟩
  |true=>rw[Ab AX];refine Aj ?_;exact CT (l':=l) (Bz b6 (RH d Ey)::l) (hK (RH d Ey) (RH d Ey)) (.drop .refl) ⟨rfl,rfl⟩
 rw[Ab k2];by_cases h1:Ey≠0
 ·rw[Ad h1];refine Aj ?_;exact CT (l':=l) (Bz b6 CO::l) (hK d CO) (.drop .refl) ⟨rfl,rfl⟩
 ·rw[Ab h1];refine Aj ?_;exact CT (l':=l) (Bz b6 d::l) (hK d d) (.drop .refl) ⟨rfl,rfl⟩
abbrev Qv:=Cs×CapT
abbrev Oy(h:Qv):Ap:=[.int .i64 h.1.1,.int .i64 h.1.2,.int .i64 h.2.kind,.int .i64 h.2.obj,.int .i64 h.2.rights,.int .u64 h.2.badge,.int .i64 h.2.guard,.int .i64 h.2.bits,.int .i64 h.2.serial,.int .i64 h.2.page]
abbrev hdV(h:Qv):Value:= .agg (toArray (Oy h))
abbrev hdC(B:Nat)(h:Qv):Bd:=(B,.cells (toArray (Oy h)) 131 (0,0))
def Oz(L:List Qv):Ap:=L.flatMap Oy
theorem l9(L:List Qv)(t:Qv):Oz (L++[t])=Oz L++Oy t:=by simp[Oz]
abbrev xB(B:Nat)(v:Value):Bd:=(B,.cells #[v] 230 (0,0))
theorem md(v:Value)(h1:v.oneCell'=true)(l:Ac):Fn prog 170 [v] l λr l'=> ∃B,r= .func (.func 232) #[] #[.pointer (some ⟨B,0,none⟩)]/\l'=xB B v::l:=by refine AN func170 ntmps170 λE=>?_;refine gz ?_;refine AS (Ez rfl h1) ?_;rintro _ _ ⟨B,hB,rfl,rfl⟩;refine gz ?_;exact Bb .refl ⟨B,rfl,rfl⟩
theorem YP(gf:Nat)[EN prog gf](lb:Ap)(S Sp:List Qv->Prop)(Need:List Qv->Ac->Prop)(hit:FC prog gf lb (λt:Qv=>[hdV t]) S Sp Need)(n:Nat)(Dw: ∀pre,Sp pre->pre.length<=n)(hn:n<=900000)(l:Ac)(Cb: ∀pre l2,(∀c,c∈l->c∈l2)->Need pre l2):
 Fn prog 231 [.slice none 0 0,.func (.func gf) #[] lb.toArray] l λv l'=> ∃xs cs,S xs/\OwnSl 131 10 v xs.length (Oz xs) cs/\l'=cs++l:=by
 refine AN func231 ntmps231 λE=>?_;refine gz ?_;refine AS (Ez rfl rfl) ?_;rintro _ _ ⟨b2,Ww,rfl,rfl⟩;refine gz ?_;refine Dg (α:=Qv) (ps:=[7]) (lb:=lb) rfl hit (λ_=>rfl) rfl
  (λpre l=> ∃v cs,OwnSl 131 10 v pre.length (Oz pre) cs/\l=[(b2,.cells #[v] 44 (0,0))]++cs)
  (λc pre l=>False)
  _ l (λpre l2 X2 hX h=>by obtain⟨v,cs,_,rfl⟩:=h;exact Cb _ _ λc hc=>Aa _ (hX _ hc)) (by exact AW) ⟨_,[],OwnSl.nil _ _,rfl⟩ ?_ ?_ ?_
 ·rintro E r0 FU pre y l' T ⟨fn,tmps,Dd,rfl⟩ Q8 ⟨v,cs',EX,rfl⟩ hsp0;have XI:=Dw _ hsp0;rw[Ah] at XI;simp only[DX,Ae,Ag];refine Im λb5=>?_;refine CK (.there (.there (FK _ _ _ _ _))) ?_;generalize hX1:(r0,Obj.loop (DR fn tmps _ _ _ Dd .busy none))::T=X1;refine gz ?_;refine AS (FE (k:=10) rfl rfl rfl AX AX) ?_;rintro _ _ ⟨bl,_,rfl,rfl⟩;refine AS (Hz (k:=10) (X:=[hdC b5 y,(b2,.cells #[v] 44 (0,0))]) (cs:=cs') (F:=X1) (xs:=Oz pre) (n:=pre.length) (ws:=Oy y) rfl rfl rfl EX rfl (by simp[Value.oneCell']) Af AX) ?_;rintro v' _ ⟨c2,Fg,rfl⟩;have Jz:v'.oneCell'=true:=Fg.one;simp only[Ae,Ag];refine gz ?_;rw[<-hX1];refine Ci _ (.drop .refl) ⟨v',c2,?_,rfl⟩;rw[Ah,l9];exact Fg
 ·rintro Dd xs l' hS ⟨v,cs',EX,rfl⟩;have Jz:v.oneCell'=true:=EX.one;simp only[Ae,Ag];refine gz ?_;refine AU [Dd] (cs'++l) rfl (l':=cs'++l) (by exact AW) (by exact Ba) .refl ?_;exact⟨xs,cs',hS,EX,rfl⟩
 ·rintro Dd c pre l' Dw h;exact h.elim
theorem WX(gf:Nat)[EN prog gf](lb:Ap)(S Sp:List Qv->Prop)(Need:List Qv->Ac->Prop)(hit:FC prog gf lb (λt:Qv=>[hdV t]) S Sp Need)(n:Nat)(Dw: ∀pre,Sp pre->pre.length<=n)(hn:n<=900000)(l:Ac)(Cb: ∀pre l2,(∀c,c∈l->c∈l2)->Need pre l2):
 Fn prog 169 [.func (.func gf) #[] lb.toArray] l λv l'=> ∃xs cs,S xs/\OwnSl 131 10 v xs.length (Oz xs) cs/\l'=cs++l:=by
 refine AN func169 ntmps169 λE=>?_;refine gz ?_;refine AS (Az rfl rfl (YP gf lb S Sp Need hit n Dw hn l Cb)) ?_;rintro v _ ⟨xs,cs,hS,ho,rfl⟩;have Jz:v.oneCell'=true:=ho.one;refine gz ?_;refine Bb .refl ?_;exact⟨xs,cs,hS,ho,rfl⟩
end Go.Proofs.YtlifcingifodfaaGreat
namespace Go.Proofs
open Tryz
open List(toArray)
open Go.Shelf
def Tryz.sortA_ren:Go.Shelf.Ren:=⟨λ|5=>236|8=>309|7=>308|19=>354|20=>355|10=>345|11=>346|12=>347|13=>348|14=>349|15=>350|16=>351|17=>352|18=>353|30=>377|31=>378|32=>379|33=>380|34=>381|35=>382|40=>391|n=>n,λ|23=>40|25=>3|3=>3|32=>123|22=>40|0=>0|44=>528|46=>34|4=>4|36=>522|35=>521|41=>116|5=>5|9=>9|53=>541|57=>171|63=>546|64=>367|n=>n,λ|n=>n⟩
theorem Tryz.sortA:Go.Proofs.SlLaysM.n5 prog Tryz.sortA_ren:={
 mixed:=BA
 f5:=⟨Tryz.f236.name,by decide,func236.trans (BI some BA)⟩
 f7:=⟨Tryz.f308.name,by decide,func308.trans (BI some BA)⟩
 f8:=func309.trans (BI some BA)
 f10:=⟨Tryz.f345.name,by decide,func345.trans (BI some BA)⟩
 f11:=⟨Tryz.f346.name,by decide,func346.trans (BI some BA)⟩
 f12:=⟨Tryz.f347.name,by decide,func347.trans (BI some BA)⟩
 f13:=⟨Tryz.f348.name,by decide,func348.trans (BI some BA)⟩
 f14:=⟨Tryz.f349.name,by decide,func349.trans (BI some BA)⟩
 f15:=⟨Tryz.f350.name,by decide,func350.trans (BI some BA)⟩
 f16:=⟨Tryz.f351.name,by decide,func351.trans (BI some BA)⟩
 f17:=⟨Tryz.f352.name,by decide,func352.trans (BI some BA)⟩
 f18:=⟨Tryz.f353.name,by decide,func353.trans (BI some BA)⟩
 f19:=func354.trans (BI some BA)
 f20:=func355.trans (BI some BA)
 f30:=⟨Tryz.f377.name,by decide,func377.trans (BI some BA)⟩
 f31:=func378.trans (BI some BA)
 f32:=func379.trans (BI some BA)
 f33:=⟨Tryz.f380.name,by decide,func380.trans (BI some BA)⟩
 f34:=⟨Tryz.f381.name,by decide,func381.trans (BI some BA)⟩
 f35:=⟨Tryz.f382.name,by decide,func382.trans (BI some BA)⟩
 f40:=⟨Tryz.f391.name,by decide,func391.trans (BI some BA)⟩
 t0:=Tryz.underlying0
 a0:=Tryz.isAgg0
 z0:=Tryz.sizeOf0
 v0:=Tryz.zeroValue0
 t3:=Tryz.underlying3
 a3:=Tryz.isAgg3
 z3:=Tryz.sizeOf3
 v3:=Tryz.zeroValue3
 t4:=Tryz.underlying4
 a4:=Tryz.isAgg4
 z4:=Tryz.sizeOf4
 v4:=Tryz.zeroValue4
 t5:=Tryz.underlying5
 a5:=Tryz.isAgg5
 z5:=Tryz.sizeOf5
 v5:=Tryz.zeroValue5
 t9:=Tryz.underlying9
 a9:=Tryz.isAgg9
 z9:=Tryz.sizeOf9
 v9:=Tryz.zeroValue9
 t22:=Tryz.underlying40
 a22:=Tryz.isAgg40
 z22:=Tryz.sizeOf40
 v22:=Tryz.zeroValue40
 t23:=Tryz.underlying40
 a23:=Tryz.isAgg40
 z23:=Tryz.sizeOf40
 v23:=Tryz.zeroValue40
 t25:=Tryz.underlying3
 a25:=Tryz.isAgg3
 z25:=Tryz.sizeOf3
 v25:=Tryz.zeroValue3
 t32:=Tryz.underlying123
 a32:=Tryz.isAgg123
 z32:=Tryz.sizeOf123
 v32:=Tryz.zeroValue123
 t35:=Tryz.underlying521
 a35:=Tryz.isAgg521
 z35:=Tryz.sizeOf521
 v35:=Tryz.zeroValue521
 t36:=Tryz.underlying522
 a36:=Tryz.isAgg522
 z36:=Tryz.sizeOf522
 v36:=Tryz.zeroValue522
 t41:=Tryz.underlying116
 a41:=Tryz.isAgg116
 z41:=Tryz.sizeOf116
 v41:=Tryz.zeroValue116
 t44:=Tryz.underlying528
 a44:=Tryz.isAgg528
 z44:=Tryz.sizeOf528
 v44:=Tryz.zeroValue528
 t46:=Tryz.underlying34
 a46:=Tryz.isAgg34
 z46:=Tryz.sizeOf34
 v46:=Tryz.zeroValue34
 t53:=Tryz.underlying541
 a53:=Tryz.isAgg541
 z53:=Tryz.sizeOf541
 v53:=Tryz.zeroValue541
 t57:=Tryz.underlying171
 a57:=Tryz.isAgg171
 z57:=Tryz.sizeOf171
 v57:=Tryz.zeroValue171
 t63:=Tryz.underlying546
 a63:=Tryz.isAgg546
 z63:=Tryz.sizeOf546
 v63:=Tryz.zeroValue546
 t64:=Tryz.underlying367
 a64:=Tryz.isAgg367
 z64:=Tryz.sizeOf367
 v64:=Tryz.zeroValue367}
end Go.Proofs
namespace Go.Proofs.YtlifcingifodfaaGreat
open Tryz
open List(toArray)
open Go.RowKit Go.Sort
def Nh(x:Int):Value:= .int .i64 x
abbrev Vd(zs:A4):A4:=zs.mergeSort λx y=>decide (x<=y)
theorem me(b cap:Nat)(zs:A4)(sp:Ap)(hn:zs.length<=1000000)(l:Ac):
 Fn prog 236 [.slice (some ⟨b,0,none⟩) zs.length cap] ((b,.cells (toArray (zs.map Nh++sp)) 3 (0,0))::l) λv l'=>v= .tuple #[]/\l'=(b,.cells (toArray ((Vd zs).map Nh++sp)) 3 (0,0))::l:=by
 refine⟨λE W hs=>?_⟩;have hH:Holds (Value.int .i64) W b 0 zs.toArray:=λj hj=>by
  simp only[Bv] at hj;refine⟨?_,?_⟩
  ·rw[hs.cell (.head _),BF,AE,AH (by simpa using hj),A6,Al hj];simp[hj,Nh]
  ·rw[hs.frz (.head _)];simp
 have h:=AnyM.slices_Sort_int Tryz.sortA b 0 cap zs W hH (hs.lt (.head _)) Af;refine(h:Calls prog 236 _ W _).mono ?_;rintro e w' ⟨rfl,n,os,rfl⟩;refine⟨_,_,rfl,⟨rfl,rfl⟩,?_⟩;refine⟨hs.os,hs.tape,hs.output,by simpa using hs.nodup,λc hc=>?_⟩;have hb:=hs.lt (.head _);simp only at hb;have R9: ∀k,k<W.heap.size->(Go.Sort.grow (putRow (Value.int .i64) (Go.Sort.ahead W n) b 0 (Vd zs).toArray) os).heap[k]?=(W.heap.modify b (onCells (putCells (Value.int .i64) 0 (Vd zs).toArray)))[k]?:=λk hk=>by show(((Go.Sort.ahead W n).heap.modify b _)++os)[k]?=_;rw[Array.getElem?_append_left (by simpa using hk)];rfl
 rcases At.1 hc with rfl|hc'
 ·rw[R9 _ hb,Array.getElem?_modify,Ad rfl,hs.has _ (.head _)];simp only[BU,onCells];congr 2;apply BP.1;apply CI;intro j;unfold putCells;rw[Array.getElem?_toList,Array.getElem?_mapIdx,AE];have hl:(Vd zs).length=zs.length:=List.length_mergeSort ..;by_cases hj:j<zs.length
  ·rw[AH (by simpa using hj),AH (by simpa[hl] using hj),A6,A6,Al hj,Al Af];simp[hj,hl,Nh]
  ·rw[AY (by simpa using Mt hj),AY (by simpa[hl] using Mt hj)];simp only[A7,hl];cases sp[j-zs.length]? with
   |none=>rfl
   |some u=>simp[hl,hj]
 ·have C9:=hs.lt (An _ hc');rw[R9 _ C9,Array.getElem?_modify,Ab,hs.has _ (An _ hc')];intro e;have:=hs.nodup;rw[AJ,AP] at this;exact this.1 (Av.2 ⟨c,hc',e.symm⟩)
theorem WY(cap:Nat)(p:Option Addr)(l:Ac):Fn prog 236 [.slice p 0 cap] l λv l'=>v= .tuple #[]/\l'=l:=by refine⟨λE W hs=>?_⟩;refine((AnyM.slices_Sort_int_none Tryz.sortA p cap W:Calls prog 236 _ W _)).mono ?_;rintro e w' ⟨rfl,rfl⟩;exact⟨_,_,rfl,⟨rfl,rfl⟩,hs⟩
theorem YQ(v:Value)(zs:A4)(cs l:Ac)(ho:OwnSl 3 1 v zs.length (zs.map Nh) cs)(hn:zs.length<=1000000):
 Fn prog 236 [v] (cs++l) λr l'=>r= .tuple #[]/\ ∃cs',OwnSl 3 1 v (Vd zs).length ((Vd zs).map Nh) cs'/\l'=cs'++l:=by
 have hl:(Vd zs).length=zs.length:=List.length_mergeSort ..;rcases ho.2 with⟨rfl,h0,rfl⟩|⟨gb,cap,sp,rfl,rfl,ZW,UV,NP⟩
 ·obtain rfl:zs=[]:=Ef h0;exact(WY 0 none l).mono λr l' ⟨h1,h2⟩=>⟨h1,[],by rw[show Vd []=[] by simp[Vd]];exact OwnSl.nil _ _,h2⟩
 ·exact(me gb cap zs sp hn l).mono λr l' ⟨h1,h2⟩=>⟨h1,_,⟨by simp,.inr ⟨gb,cap,sp,by rw[hl],rfl,Af,UV,by rw[Ah,A7,hl,<-NP,Ah,A7]⟩⟩,h2⟩
end Go.Proofs.YtlifcingifodfaaGreat
namespace Go.Proofs.YtlifcingifodfaaGreat
open Tryz
open List(toArray)
open Go.RowKit
set_option maxRecDepth 20000
variable{α:Type}{k:Nat}{D:SD}{es vis:List LE}{v:Value}{c:CapT}{seen:Array Nat}{p:Prop}{xs:A4}{a:Int}{C:List CapT}{s:Cs}
structure Came(es vis:List LE)(seen:Array Nat):Prop where
 eq:seen.toList=vis.map (·.2.2)
 nd:(vis.map (·.2.2)).Nodup
 sub: ∀e,e∈vis->e∈es
theorem Came.len(h:Came es vis seen)(hn:(es.map (·.2.2)).Nodup):vis.length<=es.length:=by
 classical
 have hv:vis.Nodup:=Jk h.nd;have he:(es.filter λe=>decide (e∈vis)).Nodup:=(Jk hn).filter _;have hp:vis.Perm (es.filter λe=>decide (e∈vis)):=(FB hv he).2 λe=>by rw[BY];simp only[Bk];exact⟨λhm=>⟨h.sub e hm,hm⟩,λhm=>hm.2⟩
 rw[hp.length_eq];exact C8 ..
theorem Came.all(h:Came es vis seen)(hn:(es.map (·.2.2)).Nodup)(ha: ∀e,e∈es->e.2.2∈seen.toList):(vis.map (·.1)).Perm (es.map (·.1)):=by refine List.Perm.map _ ((FB (Jk h.nd) (Jk hn)).2 λe=>⟨h.sub e,λhe=>?_⟩);have h1:=ha e he;rw[h.eq] at h1;obtain⟨e',wx,h2⟩:=Av.1 h1;have h3:=Om hn (h.sub e' wx) he h2;rw[<-h3];exact wx
theorem Came.push{e:LE}(h:Came es vis seen)(he:e∈es)(hs:e.2.2∉seen.toList):Came es (vis++[e]) (seen.push e.2.2):=by
 refine⟨by rw[LL,h.eq,Aq];rfl,?_,λx hx=>?_⟩
 ·rw[Aq,BC];refine⟨h.nd,by simp,λa ha b hb zA=>hs ?_⟩;have:b=e.2.2:=by simpa using hb
  rw[h.eq,<-this,<-zA];exact ha
 ·rcases AF.1 hx with hx|hx
  ·exact h.sub x hx
  ·rw[AC.1 hx];exact he
theorem TV(mb:Option Nat)(l:Ac):Fn prog 233 [.map mb] l λv l'=> ∃B,v= .func (.func 306) #[] #[.pointer (some ⟨B,0,none⟩)]/\l'=(B,.cells #[.map mb] 403 (0,0))::l:=by refine AN func233 ntmps233 λE=>?_;refine gz ?_;refine AS (Ez rfl rfl) ?_;rintro _ _ ⟨B,hB,rfl,rfl⟩;refine gz ?_;exact Bb .refl ⟨B,rfl,rfl⟩
theorem zKI(h:p:=by
 obtain⟨XK,UW⟩:=Cb _ _ G hG h0;refine gz ?_;refine AS (dP rfl UW) ?_;rintro _ _ ⟨b0,hb0,rfl,rfl⟩;refine gz ?_;refine CN (α:=Array Nat×List LE×Ac) (λx=>[(0,.func (.yield q) #[] #[]),(1,.pointer (some ⟨B,0,none⟩)),(5,.pointer (some ⟨b0,0,none⟩))]) (λx=>(b0,.mapIter (some m) clock x.1 clock)::(x.2.2++G)) (λx=>I (x.2.1.map (·.1)) x.2.2/\Came es x.2.1 x.1) (λx=>es.length-x.2.1.length) (#[],[],l) ⟨h0,rfl,by simp,by simp⟩ ⟨rfl,rfl,rfl,trivial⟩ .refl ?_;clear XK UW;rintro⟨seen,vis,l⟩ ⟨hI,hC⟩;simp only at hI hC⊢;obtain⟨XK,UW⟩:=Cb _ _ G hG hI;refine gz ?_;refine AS (lg rfl UW (λe he=>K3 e he) (Bf _)) ?_;rintro _ _ (⟨rfl,rfl,GD⟩|⟨e,he,pS,rfl,rfl⟩)
 ·refine gz ?_;exact Bb (.drop .refl) ⟨l,rfl,.inl ⟨_,hC.all Le GD,hI⟩⟩
 ·have hC2:=hC.push he pS;have Lf:=hC2.len Le;have hy:=hY (vis.map (·.1)) e.1 l ((b0,.mapIter (some m) clock (seen.push e.2.2) clock)::G) (λc hc=> .tail _ (hG c hc)) hI (by simp at Lf⊢;exact Lf);refine gz ?_;refine Bh (dQ rfl (.head _) (.tail _ UW) he Le) ?_;refine gz ?_;refine Bs (Keep.of_perm AI.symm) ?_;refine AS (C5 rfl rfl hy) ?_;rintro v l' ⟨l1,rfl,⟨rfl,LB⟩|⟨rfl,hx⟩⟩
  ·refine gz ?_;exact BO (seen.push e.2.2,vis++[e],l1) ⟨by simpa using LB,hC2⟩ (by simp at Lf⊢;omega) ⟨rfl,rfl,rfl,trivial⟩ (.of_perm AI)
  ·refine gz ?_;exact BE [] rfl (Keep.trans (.of_perm AI) (.drop .refl)) (by exact Ba) ⟨l1,rfl,.inr ⟨_,by simp at Lf⊢;exact Lf,hx⟩⟩):p:=h
theorem Rk(B m clock:Nat)(es:List LE)(Le:(es.map (·.2.2)).Nodup)(K3: ∀e,e∈es->e.2.2<clock):
 FC prog 306 [.pointer (some ⟨B,0,none⟩)] (λk:Int=>[.int .i64 k]) (λxs=>xs.Perm (es.map (·.1))) (λpre=>pre.length<=es.length)
  (λ_ l=>(B,.cells #[.map (some m)] 403 (0,0))∈l/\(m,FX .i64 es clock)∈l):=by
 refine⟨λq I Ix G0 Cb hY l G hG h0=>?_⟩;refine AN func306 ntmps306 λE=>?_;exact zKI
theorem aX(gf:Nat)[EN prog gf](lb:Ap)(S:A4->Prop)(n:Nat)(Need:A4->Ac->Prop)(hit:FC prog gf lb (λk:Int=>[.int .i64 k]) S (λpre=>pre.length<=n) Need)(hn:n<=900000)(l:Ac)(Cb: ∀pre l2,(∀c,c∈l->c∈l2)->Need pre l2):
 Fn prog 307 [.slice none 0 0,.func (.func gf) #[] lb.toArray] l λv l'=> ∃xs cs,S xs/\OwnSl 3 1 v xs.length (xs.map Nh) cs/\l'=cs++l:=by
 refine AN func307 ntmps307 λE=>?_;refine gz ?_;refine AS (Ez rfl rfl) ?_;rintro _ _ ⟨b2,Ww,rfl,rfl⟩;refine gz ?_;refine Dg (α:=Int) (ps:=[7]) (lb:=lb) rfl hit (λ_=>rfl) rfl
  (λpre l=> ∃v cs,OwnSl 3 1 v pre.length (pre.map Nh) cs/\pre.length<=n/\l=[(b2,.cells #[v] 40 (0,0))]++cs)
  (λc pre l=>False)
  _ l (λpre l2 X2 hX h=>by obtain⟨v,cs,_,_,rfl⟩:=h;exact Cb _ _ λc hc=>Aa _ (hX _ hc)) (by exact AW) ⟨_,[],OwnSl.nil _ _,Bp _,rfl⟩ ?_ ?_ ?_
 ·rintro E r0 FU pre y l' T ⟨fn,tmps,Dd,rfl⟩ Q8 ⟨v,cs',EX,XI,rfl⟩ Dw;simp only[DX,Ae,Ag];refine gz ?_;refine CK (.there (FK _ _ _ _ _)) ?_;generalize hX1:(r0,Obj.loop (DR fn tmps _ _ _ Dd .busy none))::T=X1;refine gz ?_;refine AS (Lj rfl rfl) ?_;rintro _ _ ⟨bl,_,rfl,rfl⟩;refine AS (Hz (k:=1) (X:=[(b2,.cells #[v] 40 (0,0))]) (cs:=cs') (F:=X1) (xs:=pre.map Nh) (n:=pre.length) (zs:=[.int .i64 0]) (ws:=[Nh y]) rfl rfl rfl EX rfl (by simp[Value.oneCell',Nh]) Af AX) ?_;rintro v' _ ⟨c2,Fg,rfl⟩;have Jz:v'.oneCell'=true:=Fg.one;simp only[Ae,Ag];refine gz ?_;rw[<-hX1];refine Ci _ (.refl) ⟨v',c2,?_,Dw,rfl⟩;rw[Ah,Aq];exact Fg
 ·rintro Dd xs l' hS ⟨v,cs',EX,XI,rfl⟩;have Jz:v.oneCell'=true:=EX.one;simp only[Ae,Ag];refine gz ?_;refine AU [Dd] (cs'++l) rfl (l':=cs'++l) (by exact AW) (by exact Ba) .refl ?_;exact⟨xs,cs',hS,EX,rfl⟩
 ·rintro Dd c pre l' Dw h;exact h.elim
theorem YR(gf:Nat)[EN prog gf](lb:Ap)(S:A4->Prop)(n:Nat)(Need:A4->Ac->Prop)(hit:FC prog gf lb (λk:Int=>[.int .i64 k]) S (λpre=>pre.length<=n) Need)(hn:n<=900000)(l:Ac)(Cb: ∀pre l2,(∀c,c∈l->c∈l2)->Need pre l2):
 Fn prog 235 [.func (.func gf) #[] lb.toArray] l λv l'=> ∃xs cs,S xs/\OwnSl 3 1 v xs.length (xs.map Nh) cs/\l'=cs++l:=by
 refine AN func235 ntmps235 λE=>?_;refine gz ?_;refine AS (Az rfl rfl (aX gf lb S n Need hit hn l Cb)) ?_;rintro v _ ⟨xs,cs,hS,ho,rfl⟩;have Jz:v.oneCell'=true:=ho.one;refine gz ?_;refine Bb .refl ?_;exact⟨xs,cs,hS,ho,rfl⟩
theorem TX(gf:Nat)[EN prog gf](lb:Ap)(S:A4->Prop)(n:Nat)(Need:A4->Ac->Prop)(hit:FC prog gf lb (λk:Int=>[.int .i64 k]) S (λpre=>pre.length<=n) Need)(hn:n<=900000)(hS: ∀xs,S xs->xs.length<=n)(l:Ac)(Cb: ∀pre l2,(∀c,c∈l->c∈l2)->Need pre l2):
 Fn prog 174 [.func (.func gf) #[] lb.toArray] l λv l'=> ∃xs cs,S xs/\OwnSl 3 1 v (Vd xs).length ((Vd xs).map Nh) cs/\l'=cs++l:=by
 refine AN func174 ntmps174 λE=>?_;refine gz ?_;refine AS (Az rfl rfl (YR gf lb S n Need hit hn l Cb)) ?_;rintro v _ ⟨xs,cs,hSx,ho,rfl⟩;have Jz:v.oneCell'=true:=ho.one;have hl:=hS xs hSx;refine gz ?_;refine AS (Az rfl rfl (YQ v xs cs l ho Af)) ?_;rintro _ _ ⟨rfl,cs',dv,rfl⟩;refine gz ?_;refine Bb .refl ?_;exact⟨xs,cs',hSx,dv,rfl⟩
theorem OA(B m clock:Nat)(es:List LE)(Le:(es.map (·.2.2)).Nodup)(K3: ∀e,e∈es->e.2.2<clock)(hn:es.length<=900000)(l:Ac)(h1:(B,Obj.cells #[.map (some m)] 403 (0,0))∈l)(h2:(m,FX .i64 es clock)∈l):
 Fn prog 174 [.func (.func 306) #[] #[.pointer (some ⟨B,0,none⟩)]] l λv l'=> ∃xs cs,xs.Perm (es.map (·.1))/\OwnSl 3 1 v (Vd xs).length ((Vd xs).map Nh) cs/\l'=cs++l:=
 TX 306 [.pointer (some ⟨B,0,none⟩)] _ es.length _ (Rk B m clock es Le K3) hn (λxs h=>by rw[h.length_eq];simp) l λ_ l2 hl=>⟨hl _ h1,hl _ h2⟩
theorem MB.sorted{key:α->Int}{val:α->Value}{L:List α}{clock:Nat}(h:MB key val L es clock)(hx:xs.Perm (es.map (·.1))):Vd xs=L.map key:=by
 have h1:(Vd xs).Perm (L.map key):=(List.mergeSort_perm ..).trans (hx.trans h.keys);have h2:(Vd xs).Pairwise (λx y=>x<=y):=by have:=List.pairwise_mergeSort (le:=λx y:Int=>decide (x<=y)) (λa b c h1 h2=>by simp at*;omega) (λa b=>by simp;omega) xs;exact this.imp λh=>by simpa using h
 have h3:(L.map key).Pairwise (λx y=>x<=y):=Cx.2 (h.asc.imp λUT=>by omega);exact h1.eq_of_pairwise (λa b _ _ h1 h2=>by omega) h2 h3
theorem OwnSl.ints{e:Nat}{cs l:Ac}(h:OwnSl e 1 v xs.length (xs.map Nh) cs)(hs: ∀c,c∈cs->c∈l): ∃p cap,v= .slice p xs.length cap/\(0<xs.length-> ∃b cl t fz,p=some ⟨b,0,none⟩/\(b,Obj.cells cl t fz)∈l/\ ∀i x,xs[i]?=some x->cl[i*1]?=some (.int .i64 x)):=by
 rcases h.2 with⟨rfl,h0,rfl⟩|⟨b,cap,sp,rfl,rfl,_⟩
 ·exact⟨none,0,by rw[h0],λh=>by omega⟩
 ·refine⟨_,cap,rfl,λh0=>⟨b,_,e,(0,0),rfl,hs _ Ak,λi x hx=>?_⟩⟩;have C9:=(Ay.1 hx).1;rw[Dr,AE,AH (by simpa using C9),A6,hx];rfl
def HI(a:Int)(C:List CapT):Nat->List Qv
 |0=>[]
 |k+1=>HI a C k++(match C[k]? with
  |some c=>if Ms c CO=true then[] else[((a,((k:Nat):Int)),c)]
  |none=>[])
def DM(D:SD):List Qv:=D.flatMap λx=>HI x.1 x.2 x.2.length
theorem YS(hc:C[k]?=some c)(h:Ms c CO=false):HI a C (k+1)=HI a C k++[((a,((k:Nat):Int)),c)]:=by show HI a C k++_=_;rw[hc];simp only;rw[h];rfl
theorem mf(hc:C[k]?=some c)(h:Ms c CO=true):HI a C (k+1)=HI a C k:=by show HI a C k++_=_;rw[hc];simp only;rw[h];simp
theorem TY(a:Int)(C:List CapT)(k:Nat): ∀m,HI a C k<+:HI a C (k+m)
 |0=>GZ
 |m+1=>(TY a C k m).trans (GP _ _)
theorem TZ(a:Int)(C:List CapT): ∀k,(HI a C k).length<=k
 |0=>Bf _
 |k+1=>by
  show(HI a C k++_).length<=k+1;have:=TZ a C k;rw[Ah];have h2:(match C[k]? with
   |some c=>if Ms c CO=true then[] else[((a,((k:Nat):Int)),c)]
   |none=>[]:List Qv).length<=1:=by
   split
   ·split<;>simp
   ·simp
  omega
theorem Rl(A B:SD):DM (A++B)=DM A++DM B:=Ec
theorem ie{i:Nat}{x:Int×List CapT}(hx:D[i]?=some x)(hk:k<=x.2.length):DM (D.take i)++HI x.1 x.2 k<+:DM D:=by
 have hi:=(Ay.1 hx).1;have h1:=Cp i D;rw[Di hi] at h1;have h2:D[i]=x:=by rw[Al hi] at hx;exact AZ hx
 rw[h2] at h1
 conv=>rhs;rw[<-h1]
 rw[Rl];refine(List.prefix_append_right_inj _).2 ?_;show _<+:HI x.1 x.2 x.2.length++DM (D.drop (i+1));have:=TY x.1 x.2 k (x.2.length-k);rw[show k+(x.2.length-k)=x.2.length by omega] at this;exact this.trans (GP _ _)
theorem VX(h: ∀x,x∈D->x.2.length<=16):(DM D).length<=D.length*16:=by
 induction D with
 |nil=>simp[DM]
 |cons x r ih=>
  rw[show x::r=[x]++r from rfl,Rl,Ah];have h1:=ih λy hy=>h y (An _ hy);have h2:=TZ x.1 x.2 x.2.length;have h3:=h x Ak;have h4:(DM [x]).length<=16:=by simp only[DM,Cz,List.flatMap_nil,Bj];omega
  rw[Ah];show _<=(1+r.length)*16;omega
theorem IsS.sz{b:Nat}{lq:Ac}(h:IsS b D lq): ∀x,x∈D->0<x.2.length/\x.2.length<=16:=by obtain⟨S,m,es,clock,rfl,hS⟩:=h;intro x hx;obtain⟨nd,hn,rfl⟩:=Av.1 hx;exact hS.sz nd hn
set_option maxRecDepth 20000 in
theorem ig(B b:Nat)(D:SD)(lq:Ac)(hq:IsS b D lq)(hn:D.length<=50000):
 FC prog 232 [.pointer (some ⟨B,0,none⟩)] (λh:Qv=>[hdV h]) (λxs=>xs=DM D) (λpre=>pre<+:DM D)
  (λ_ l=>xB B (.pointer (some ⟨b,0,none⟩))∈l/\ ∀c,c∈lq->c∈l):=by
 refine⟨λr I Ix G0 Cb hY l G hG h0=>?_⟩;obtain⟨S,m,es,clock,rfl,hS⟩:=hq;obtain⟨n1,n2⟩:=Cb _ _ G hG h0;have n3:=n2 _ hS.m1;have n4:=n2 _ hS.m2;have v8:S.length<=50000:=by simpa using hn
 refine AN func232 ntmps232 λE=>?_;refine gz ?_;refine AS (Az rfl rfl (TV (some m) _)) ?_;rintro _ _ ⟨B',rfl,rfl⟩;refine gz ?_;refine AS (Az rfl rfl (OA B' m clock es hS.mb.ok.stamps hS.mb.ok.below (by rw[hS.mb.len];omega) _ (.head _) (.tail _ n4))) ?_;rintro v _ ⟨xs,cs,PG,ho,rfl⟩;rw[hS.mb.sorted PG] at ho;have Jz:v.oneCell'=true:=ho.one;obtain⟨p,cap,rfl,hR⟩:=ho.ints (l:=cs) λc hc=>hc;have Eh:(S.map NdS.id).length=S.length:=A7 ..;refine gz ?_;refine CN (α:=Nat×Ac) (λx=>[(0,.func (.yield r) #[] #[]),(1,.pointer (some ⟨B,0,none⟩)),(14,.slice p (S.map NdS.id).length cap),(15,.int .i64 (S.map NdS.id).length),(16,.int .i64 x.1)]) (λx=>x.2++(cs++G)) (λx=>x.1<=S.length/\I (DM ((S.map NdS.d).take x.1)) x.2) (λx=>S.length-x.1) (0,l) ⟨Bp _,h0⟩ ⟨rfl,rfl,rfl,rfl,rfl,trivial⟩ ?_ ?_
 ·exact Keep.trans (Keep.in_mid cs [_] (l++G)) (.drop (Keep.in_mid cs l G))
 clear n1 n2 n3 n4;rintro⟨i,l⟩ ⟨hi,hI⟩;simp only at hi hI⊢;obtain⟨n1,n2⟩:=Cb _ _ (cs++G) (λc hc=>Aa _ (hG c hc)) hI;have n3:=n2 _ hS.m1;have n4:=n2 _ hS.m2;by_cases C9:i<S.length
 ·obtain⟨b9,cl,t9,fz,rfl,qB,NP⟩:=hR Af;have dy:(b9,Obj.cells cl t9 fz)∈l++(cs++G):=Aa _ (Ai _ qB);obtain⟨nd,Le⟩: ∃nd,S[i]?=some nd:=⟨_,Al C9⟩
  have N5:=Bc Le;have hc:=NP i nd.id (by rw[A6,Le];rfl);have af:(LF nd.id es).getD (.slice none 0 0)=nd.val:=by rw[hS.look,hS.mb.at_ N5]
  have hdi:(S.map NdS.d)[i]?=some nd.d:=by rw[A6,Le];rfl
  have US:=hS.sz nd N5;refine gz ?_;rw[af];refine gz ?_;refine CN (α:=Nat×Ac) (λx=>[(0,.func (.yield r) #[] #[]),(1,.pointer (some ⟨B,0,none⟩)),(4,.int .i64 nd.id),(14,.slice (some ⟨b9,0,none⟩) (S.map NdS.id).length cap),(15,.int .i64 (S.map NdS.id).length),(16,.int .i64 i),(25,nd.val),(26,.int .i64 nd.C.length),(27,.int .i64 x.1)]) (λx=>x.2++(cs++G)) (λx=>x.1<=nd.C.length/\I (DM ((S.map NdS.d).take i)++HI nd.id nd.C x.1) x.2) (λx=>nd.C.length-x.1) (0,l) ⟨Bp _,by show I (_++[]) l;rw[Bj];exact hI⟩ ⟨rfl,rfl,rfl,rfl,rfl,rfl,rfl,rfl,rfl,trivial⟩ .refl ?_;clear n1 n2 n3 n4 hI dy;rintro⟨k,l⟩ ⟨hk,hI⟩;simp only at hk hI⊢;obtain⟨n1,n2⟩:=Cb _ _ (cs++G) (λc hc=>Aa _ (hG c hc)) hI;have wv:=n2 _ (hS.m3 N5);by_cases ZT:k<nd.C.length
  ·obtain⟨c,hcc⟩: ∃c,nd.C[k]?=some c:=⟨_,Al ZT⟩
   obtain⟨g1,g2⟩:=WW hcc;refine gz ?_;refine Bh (Dt (n:=8) rfl wv g2 g1) ?_;refine Im λb6=>?_;refine Bh (Sy (ys:=B0 CO) rfl rfl (EA c) (EA _)) ?_;rw[show Ca (B0 c) (B0 CO)=Ms c CO from rfl];cases he:Ms c CO with
   |true=>refine gz ?_;exact BO (k+1,l) ⟨by simp only;omega,by simp only;rw[mf hcc he];exact hI⟩ (by simp only;omega) ⟨rfl,rfl,rfl,rfl,rfl,rfl,rfl,rfl,rfl,trivial⟩ (.drop .refl)
   |false=>
    have Gn:(DM ((S.map NdS.d).take i)++HI nd.id nd.C k)++[((nd.id,((k:Nat):Int)),c)]<+:DM (S.map NdS.d):=by rw[Am,<-YS hcc he];exact ie hdi (by show k+1<=nd.C.length;omega)
    have hy:=hY _ ((nd.id,((k:Nat):Int)),c) l (Bz b6 c::(cs++G)) (λx hx=> .tail _ (Aa _ (hG x hx))) hI Gn;refine gz ?_;refine Bs (Keep.of_perm (l':=l++(Bz b6 c::(cs++G))) AI.symm) ?_;refine JB (C5 rfl rfl hy) rfl rfl rfl ?_;rintro w l' ⟨l1,rfl,⟨rfl,LB⟩|⟨rfl,hx⟩⟩
    ·refine gz ?_;exact BO (k+1,l1) ⟨by simp only;omega,by simp only;rw[YS hcc he,<-Am];exact LB⟩ (by simp only;omega) ⟨rfl,rfl,rfl,rfl,rfl,rfl,rfl,rfl,rfl,trivial⟩ (Keep.trans (.of_perm AI) (.drop .refl))
    ·refine gz ?_;exact Bb (Keep.trans (.of_perm AI) (.drop (Keep.trans (Keep.in_mid l1 cs G) (Keep.dropL cs .refl)))) ⟨l1,rfl,.inr ⟨_,Gn,hx⟩⟩
  ·obtain rfl:k=nd.C.length:=by omega
   refine gz ?_;refine BO (i+1,l) ⟨by simp only;omega,?_⟩ (by simp only;omega) ⟨rfl,rfl,rfl,rfl,rfl,trivial⟩ .refl;simp only;rw[Ch,hdi,Rl];show I (_++DM [nd.d]) l;rw[show DM [nd.d]=HI nd.id nd.C nd.C.length by simp[DM]];exact hI
 ·obtain rfl:i=S.length:=by omega
  rw[show(S.map NdS.d).take S.length=S.map NdS.d from BD (by simp)] at hI;refine gz ?_;exact Bb (Keep.trans (Keep.in_mid l cs G) (Keep.dropL cs .refl)) ⟨l,rfl,.inl ⟨_,rfl,hI⟩⟩
theorem all_any(b:Nat)(D:SD)(lq:Ac)(hq:IsS b D lq)(hn:D.length<=50000)(l:Ac)(CG: ∀c,c∈lq->c∈l):
 Fn prog 115 [.pointer (some ⟨b,0,none⟩)] l λv l'=> ∃cs,OwnSl 131 10 v (DM D).length (Oz (DM D)) cs/\l'=cs++l:=by
 have Eh:=VX λx hx=>(hq.sz x hx).2;refine AN func115 ntmps115 λE=>?_;refine gz ?_;refine AS (Az rfl rfl (md _ rfl _)) ?_;rintro _ _ ⟨B,rfl,rfl⟩;refine gz ?_;refine AS (Az rfl rfl (WX 232 [.pointer (some ⟨B,0,none⟩)] _ _ _ (ig B b D lq hq hn) (DM D).length (λpre h=>h.length_le) Af _ λ_ l2 hl=>⟨hl _ (.head _),λc hc=>hl _ (.tail _ (CG c hc))⟩)) ?_;rintro v _ ⟨_,cs,rfl,ho,rfl⟩;have Jz:v.oneCell'=true:=ho.one;refine gz ?_;refine Bb (l':=cs++l) (Keep.trans (.of_perm AI) (.drop .refl)) ?_;exact⟨cs,ho,rfl⟩
def aY(l:Ac)(a:Option Addr)(n k:Nat)(rows:List (Ap)):Prop:=
 0<n-> ∃bB off cs t fz,a=some ⟨bB,off,none⟩/\(bB,Obj.cells cs t fz)∈l/\ ∀i row,rows[i]?=some row->off+i*k+k<=cs.size/\cs.extract (off+i*k) (off+i*k+k)=toArray row/\ ∀j v,row[j]?=some v->cs[off+i*k+j]?=some v
theorem rK{W:World}{a:Option Addr}{n cap:Nat}{rows:List (Ap)}{ks:List (Option IntKind)}(h:WC ks W a n cap rows)(hk:0<ks.length):aY (Qk W) a n ks.length rows:=by
 intro h0;obtain⟨b,off,rfl,hb,XV⟩:=h.at_ h0;have dz: ∃r0,rows[0]?=some r0:=⟨_,Al (by rw[h.size];exact h0)⟩
 obtain⟨r0,dz⟩:=dz;have c0:=XV 0 0 h0 hk;rw[dz,Dx] at c0;have qn:=(h.all r0 (Bc dz)).len;have e0:r0[0]?=some (r0[0]'Af):=Al Af;unfold World.cell? at c0
 split at c0
 ·rename_i cs t fz gk;have Aaz:W.heap[b]?=some (.cells cs t fz):=gk;refine⟨b,off,cs,t,fz,rfl,(Rg W b _).2 Aaz,λi row LD=>?_⟩;have hi:i<n:=by have:=(Ay.1 LD).1;rw[h.size] at this;exact this
  have hl:=(h.all row (Bc LD)).len;have hc: ∀j,j<ks.length->cs[off+i*ks.length+j]?=row[j]?:=λj hj=>by have:=XV i j hi hj;rw[Ya Aaz,LD,Dx] at this;exact this
  have uw:=hc (ks.length-1) Af;rw[Al (show ks.length-1<row.length by omega)] at uw;have C9:=(BH.1 uw).1;refine⟨Af,?_,λj v hv=>?_⟩
  ·apply DI;intro j;rw[ES];by_cases hj:j<ks.length
   ·rw[Ad Af,hc j hj,AE]
   ·rw[Ab Af,AE,Bg Af]
  ·have hj:=(Ay.1 hv).1;rw[hc j Af];exact hv
 ·rw[e0] at c0;cases c0
theorem aZ{key:α->Int}{L:List α}(h:L.Pairwise λx y=>key x<key y){t:α}(ht:t∈L):D7 key L (key t)=some t:=by
 have Le:(L.map key).Nodup:=Cx.2 (h.imp λUT=>by omega);cases hf:D7 key L (key t) with
 |none=>exact absurd rfl (Gq.1 hf t ht)
 |some u=>obtain⟨h1,h2⟩:=Ff hf;rw[Om Le h1 ht h2]
theorem OD(D:SD)(s:Cs)(c:CapT)(a:Int):D7 Prod.fst (Gu D s c) a=(D7 Prod.fst D a).map λx=>if x.1=s.1 then(x.1,x.2.set s.2.toNat c) else x:=by
 unfold D7 Gu;rw[List.find?_map];have e:((λt:Int×List CapT=>decide (t.1=a))∘λx=>if x.1=s.1 then(x.1,x.2.set s.2.toNat c) else x)=λt=>decide (t.1=a):=by
  funext x;show decide ((if x.1=s.1 then(x.1,x.2.set s.2.toNat c) else x).1=a)=decide (x.1=a)
  split<;>rfl
 rw[e]
theorem mi(D:SD)(s:Cs)(c:CapT)(a:Int):JI (Gu D s c) a=JI D a:=by
 unfold JI;rw[OD];cases D7 Prod.fst D a with
 |none=>rfl
 |some x=>
  simp only[BU]
  split
  ·simp
  ·rfl
theorem OE(D:SD)(s:Cs)(c:CapT)(s':Cs):FM (Gu D s c) s'=FM D s':=by unfold FM;rw[mi]
theorem xH(h:FM D s=true):D5 (Gu D s c) s=c:=by
 unfold FM JI at h;rw[AV,Bk,Bk] at h;unfold D5;rw[OD];cases hf:D7 Prod.fst D s.1 with
 |none=>rw[hf] at h;simp at h;omega
 |some x=>rw[hf] at h;simp only at h;simp only[BU];rw[Ad (Ff hf).2];show(x.2.set s.2.toNat c).getD s.2.toNat CO=c;rw[AO,CD Af];rfl
theorem ii{s':Cs}(h0:0<=s.2)(jK:0<=s'.2)(h:s'≠s):D5 (Gu D s c) s'=D5 D s':=by
 unfold D5;rw[OD];cases hf:D7 Prod.fst D s'.1 with
 |none=>rfl
 |some x=>
  simp only[BU]
  split
  ·rename_i hx;have XL:=(Ff hf).2;have He:s'.2≠s.2:=λe=>h (G3 (by rw[<-XL,hx]) e);show(x.2.set s.2.toNat c).getD s'.2.toNat CO=x.2.getD s'.2.toNat CO;rw[AO,AO,Gb Af]
  ·rfl
theorem OwnSl.hds{L:List Qv}{cs l:Ac}(h:OwnSl 131 10 v L.length (Oz L) cs)(hs: ∀c,c∈cs->c∈l):RowSl l v 10 Oy L:=OwnSl.rowSl (enc:=Oy) h (λ_=>rfl) hs
theorem T0(s:Cs):AllK [some .i64,some .i64] (Cw s):=⟨_,_,rfl,⟨_,rfl⟩,_,_,rfl,⟨_,rfl⟩,rfl⟩
theorem AbG{x y:Cs}(h:x≠y):Ca (Cw x) (Cw y)=false:=by
 cases h2:Ca (Cw x) (Cw y) with
 |false=>rfl
 |true=>have:=(GM (T0 x) (T0 y)).1 h2;simp only[Cw,Co,Value.int.injEq,Io,Jg] at this;exact absurd (G3 this.1 this.2) h
section
variable{key:α->Int}
end
theorem SF{key:α->Int}{L:List α}{t:α}(h:L.Pairwise λx y=>key x<key y)(hn:D7 key L (key t)=none):(MK key L t).Pairwise λx y=>key x<key y:=by
 obtain⟨W,Z,e1,e2,hL,GD,XW⟩:=VT h (Gq.1 hn);have hi:MK key L t=W++t::Z:=by unfold MK;rw[e1,e2]
 rw[hL,Br] at h;rw[hi];refine Br.2 ⟨h.1,Cf.2 ⟨λx hx=>XW x hx,h.2.1⟩,λx hx y hy=>?_⟩;have h1:=GD x hx;rcases At.1 hy with rfl|hy
 ·exact h1
 ·have:=XW y hy;omega
theorem mj{xs:Array Value}{o j:Nat}{ys:Ap}(h:xs.extract o (o+k)=toArray ys)(LQ:o+k<=xs.size)(hj:j<k)(hv:ys[j]?=some v):xs[o+j]?=some v:=by
 have h2:(toArray ys)[j]?=ys[j]?:=by simp
 rw[<-hv,<-h2,<-h,ES,Ad Af]
theorem YT(h:p:=by
 by_cases hl:xs.length=ys.length
 ·refine gz ?_;refine CN (α:=Nat) (λk=>[(0,.slice a xs.length ca),(1,.slice a' ys.length ca'),(5,.int .i64 k)]) (λk=>l) (λk=>k<=xs.length/\ ∀j,j<k->xs[j]?=ys[j]?) (λk=>xs.length-k) 0 ⟨Bp _,λj h=>by omega⟩ ⟨rfl,rfl,rfl,trivial⟩ .refl ?_;rintro k ⟨LA,hj⟩;by_cases C9:k<xs.length
  ·obtain⟨b,off,cs,t,fz,rfl,hm,hc⟩:=h1 Af;obtain⟨b',off',cs',t',fz',rfl,dy,hc'⟩:=h2 Af;obtain⟨x,e1⟩: ∃x,xs[k]?=some x:=⟨_,Al C9⟩
   obtain⟨y,e2⟩: ∃y,ys[k]?=some y:=⟨_,Al (show k<ys.length by omega)⟩
   obtain⟨g1,g2⟩:=hc k x e1;obtain⟨g1',g2'⟩:=hc' k y e2;refine gz ?_;refine Cm [] 9 _ ?_ (hR:=(λ_ h=>h));refine pz ?_;apply Eo
   ·exact Dt rfl hm g1 g2
   ·rfl
   ·rfl
   ·rfl
   refine pz ?_;apply Eo
   ·exact Dt rfl dy g1' g2'
   ·rfl
   ·rfl
   ·rfl
   refine pz ?_;apply Eo
   ·exact Sy rfl rfl (hk x) (hk y)
   ·rfl
   ·rfl
   ·rfl
   by_cases UT:x=y
   ·rw[show(!Ca (enc x) (enc y))=false by rw[UT,GS (hk y)];rfl];refine pz ?_;refine gz ?_;exact BO (k+1) ⟨Af,λj kv=>by
     by_cases e:j=k
     ·subst e;rw[e1,e2,UT]
     ·exact hj j Af⟩ Af ⟨rfl,rfl,rfl,trivial⟩ .refl
   ·rw[show(!Ca (enc x) (enc y))=true by
     cases h:Ca (enc x) (enc y) with
     |false=>rfl
     |true=>exact absurd (M2 _ _ ((GM (hk x) (hk y)).1 h)) UT]
    refine pz ?_;refine gz ?_;refine Bb .refl ⟨?_,rfl⟩;rw[show decide (xs=ys)=false from Aw λe=>by subst e;rw[e1] at e2;exact UT (by cases e2;rfl)];rfl
  ·obtain rfl:k=xs.length:=by omega
   refine gz ?_;refine Bb .refl ⟨?_,rfl⟩;rw[show decide (xs=ys)=true from Au (CI λj=>by
    by_cases h:j<xs.length
    ·exact hj j h
    ·rw[Bg Af,Bg Af])];rfl
 ·refine gz ?_;refine Bb .refl ⟨?_,rfl⟩;rw[show decide (xs=ys)=false from Aw λe=>hl (by rw[e])];rfl):p:=h
abbrev hdK:List (Option IntKind):=some .i64::some .i64::xD
instance:EQ prog 131 hdK:=⟨BA⟩
theorem xI(h:Qv):AllK hdK (Oy h):=⟨_,_,rfl,⟨_,rfl⟩,_,_,rfl,⟨_,rfl⟩,EA h.2⟩
theorem ml(x y:Qv)(h:Oy x=Oy y):x=y:=by have e: ∀z:Qv,Oy z=[.int .i64 z.1.1,.int .i64 z.1.2]++B0 z.2:=λ_=>rfl;rw[e,e] at h;obtain⟨h1,h2⟩:=List.append_inj h rfl;simp only[Co,Value.int.injEq,Io,Jg] at h1;exact G3 (G3 h1.1 h1.2) (YK _ _ h2)
set_option maxRecDepth 20000 in
theorem WZ[DecidableEq α](enc:α->Ap)(M2: ∀x y,enc x=enc y->x=y)(hk: ∀x,AllK hdK (enc x))(v u:Value)(xs ys:List α)(l:Ac)(h1:RowSl l v 10 enc xs)(h2:RowSl l u 10 enc ys)(hx:xs.length<=1000000):
 Fn prog 63 [v,u] l λr l'=>r= .bool (decide (xs=ys))/\l'=l:=by
 obtain⟨a,ca,rfl,h1⟩:=h1;obtain⟨a',ca',rfl,h2⟩:=h2;refine AN func63 ntmps63 λE=>?_;exact YT
theorem WS(D:SD)(x:Int×List CapT):(MK Prod.fst D x).length=D.length+1:=(TR D x).length_eq
theorem RowSl.mono{l l':Ac}{enc:α->Ap}{xs:List α}(h:RowSl l v k enc xs)(hs: ∀c,c∈l->c∈l'):RowSl l' v k enc xs:=by
 obtain⟨a,cap,h1,h2⟩:=h;exact⟨a,cap,h1,λh0=>by obtain⟨b,off,cs,t,fz,k1,k2,k3⟩:=h2 h0;exact⟨b,off,cs,t,fz,k1,hs _ k2,k3⟩⟩
namespace Tr
variable{os X:List Nat}{p b rb m clock:Nat}{lq l':Ac}{α:Type}
abbrev SlotT:=Int×Int
variable{es:List (Hm SlotT)}{s:SlotT}
abbrev Cw(s:SlotT):Ap:=[.int .i64 s.1,.int .i64 s.2]
theorem Nn:Pw Cw [some .i64,some .i64]:=⟨λa=>⟨_,_,rfl,⟨_,rfl⟩,_,_,rfl,⟨_,rfl⟩,rfl⟩,λa b h=>by simp only[Cw,Co,Value.int.injEq,Io,Jg] at h;exact G3 h.1 h.2⟩
structure NdT where
 sl:SlotT
 dp:Int
 pv:Nat
 nx:Nat
variable{F:Nat->NdT}
abbrev NdT.cells(x:NdT):Ap:=[.int .i64 x.sl.1,.int .i64 x.sl.2,.int .i64 x.dp,.pointer (some ⟨x.pv,0,none⟩),.pointer (some ⟨x.nx,0,none⟩)]
abbrev OF(p:Nat)(x:NdT):Bd:=(p,.cells (toArray x.cells) 330 (0,0))
def OG(F:Nat->NdT)(all:List Nat):Ac:=all.map λp=>OF p (F p)
theorem Qw{all:List Nat}(h:p∈all):OF p (F p)∈OG F all:=Av.2 ⟨p,h,rfl⟩
theorem Rm{F':Nat->NdT}{all:List Nat}(h: ∀p,p∈all->F p=F' p):OG F all=OG F' all:=By λp hp=>by rw[h p hp]
theorem L8{all:List Nat}(x:NdT)(hn:all.Nodup)(hp:p∈all):Upd (OG F all) p (OF p (F p)).2 (OF p x).2 (OG (upd F p x) all):=by
 induction all with
 |nil=>cases hp
 |cons q all ih=>
  rw[AP] at hn;by_cases e:q=p
  ·subst e;have h1:OG (upd F q x) all=OG F all:=Rm λr hr=>Dl _ _ _ _ λe=>hn.1 (e▸hr);show Upd (OF q (F q)::OG F all) q _ _ (OF q (upd F q x q)::OG (upd F q x) all);rw[DL,h1];exact .here
  ·rcases At.1 hp with h|h
   ·exact absurd h.symm e
   ·show Upd (OF q (F q)::OG F all) p _ _ (OF q (upd F p x q)::OG (upd F p x) all);rw[Dl _ _ _ _ e];exact .there (ih hn.2 h)
instance:EQ prog 61 [some .i64,some .i64]:=⟨BA⟩
abbrev DT:=List (SlotT×Int)
def rL(F:Nat->NdT):List Nat->Prop
 |[]=>True
 |[_]=>True
 |a::b::r=>(F a).nx=b/\(F b).pv=a/\rL F (b::r)
abbrev Lp(b rb m:Nat):Bd:=(b,.cells (toArray [.pointer (some ⟨rb,0,none⟩),.map (some m)]) 328 (0,0))
structure TB(b rb m:Nat)(F:Nat->NdT)(all os:List Nat)(es:List (Hm SlotT))(clock:Nat)(lq:Ac):Prop where
 eq:lq=Lp b rb m::(m,Ii Cw es clock)::OG F all
 nd:all.Nodup
 rin:rb∈all
 sub: ∀p,p∈os->p∈all
 ond:(rb::os).Nodup
 adj:rL F (rb::(os++[rb]))
 snd:(os.map λp=>(F p).sl).Nodup
 keys:KeysOk es clock
 get: ∀s,HW s es=(os.find? λp=>decide ((F p).sl=s)).map λp=> .pointer (some ⟨p,0,none⟩)
def Ft(F:Nat->NdT)(os:List Nat):DT:=os.map λp=>((F p).sl,(F p).dp)
def IsT(b:Nat)(D:DT)(lq:Ac):Prop:= ∃rb m F all os es clock,Ft F os=D/\TB b rb m F all os es clock lq
theorem TB.m1{all:List Nat}(h:TB b rb m F all os es clock lq):Lp b rb m∈lq:=by rw[h.eq];exact .head _
theorem TB.m2{all:List Nat}(h:TB b rb m F all os es clock lq):(m,Ii Cw es clock)∈lq:=by rw[h.eq];exact .tail _ (.head _)
theorem TB.m3{all:List Nat}(h:TB b rb m F all os es clock lq)(hp:p∈all):OF p (F p)∈lq:=by rw[h.eq];exact .tail _ (.tail _ (Qw hp))
def blk(F:Nat->NdT)(os:List Nat)(s:SlotT):Option Nat:=os.find? λp=>decide ((F p).sl=s)
theorem Iu(h:blk F os s=some p):p∈os/\(F p).sl=s:=
 ⟨Bt h,by have:=Et h;simpa using this⟩
def No:Option Nat->Value
 |some p=> .pointer (some ⟨p,0,none⟩)
 |none=> .pointer none
theorem of_any(b rb m:Nat)(F:Nat->NdT)(all os:List Nat)(es:List (Hm SlotT))(clock:Nat)(lq:Ac)(s:SlotT)(hT:TB b rb m F all os es clock lq)(l:Ac)(CG: ∀c,c∈lq->c∈l):
 Fn prog 247 [.pointer (some ⟨b,0,none⟩),.agg (toArray (Cw s))] l λv l'=>v=No (blk F os s)/\l'=l:=by
 have h1:=CG _ hT.m1;have h2:=CG _ hT.m2;have hg:(HW s es).getD (.pointer none)=No (blk F os s):=by rw[hT.get];unfold blk;cases os.find? λp=>decide ((F p).sl=s)<;>rfl
 refine AN func247 ntmps247 λE=>?_;refine gz ?_;refine AS (CH rfl) ?_;rintro _ _ ⟨b3,hb3,rfl,rfl⟩;refine gz ?_;refine Cm [] 7 _ ?_ (hR:=(λ_ h=>h));refine pz ?_;apply Eo
 ·apply gP (enc:=Cw) (a:=s) (es:=es) (clock:=clock) (ks:=[some .i64,some .i64])
  ·rfl
  ·rfl
  ·exact Nn
  ·exact .tail _ h2
 ·rfl
 ·rfl
 ·rfl
 rw[hg];refine pz ?_;exact E3
theorem new_any(l:Ac):Fn prog 179 [] l λv l'=> ∃b,v= .pointer (some ⟨b,0,none⟩)/\ ∃lq,IsT b [] lq/\l'=lq++l:=by refine AN func179 ntmps179 λE=>?_;refine gz ?_;refine AS (CH rfl) ?_;rintro _ _ ⟨rb,hrb,rfl,rfl⟩;refine gz ?_;refine AS OY ?_;rintro _ _ ⟨m,hm,rfl,rfl⟩;refine gz ?_;refine AS (CH rfl) ?_;rintro _ _ ⟨b,hb,rfl,rfl⟩;refine gz ?_;exact BE [] rfl .refl (by exact Ba) ⟨b,rfl,[Lp b rb m,(m,.map #[] 0),OF rb ⟨(0,0),0,rb,rb⟩],⟨rb,m,λ_=>⟨(0,0),0,rb,rb⟩,[rb],[],[],0,rfl,⟨rfl,by simp,by simp,by simp,by simp,⟨rfl,rfl,trivial⟩,by simp,⟨by simp,by simp,by simp⟩,λs=>rfl⟩⟩,rfl⟩
theorem OH{F F':Nat->NdT}: ∀{L:List Nat},rL F L->(∀u,u∈L.dropLast->(F' u).nx=(F u).nx)->(∀v,v∈L.tail->(F' v).pv=(F v).pv)->rL F' L
 |[],_,_,_=>trivial
 |[_],_,_,_=>trivial
 |a::b::r,⟨h1,h2,h3⟩,hn,hp=>by
  refine⟨by rw[hn a (by simp[List.dropLast]),h1],by rw[hp b (by simp),h2],OH h3 (λu hu=>hn u ?_) λv hv=>hp v ?_⟩
  ·simp only[G5 (Mw b r),At];exact .inr hu
  ·simp only[Jd] at hv⊢;exact An _ hv
theorem PO{F F':Nat->NdT}{p n x:Nat}{Z:List Nat}: ∀{X:List Nat},rL F (X++p::n::Z)->(X++p::n::Z).dropLast.Nodup->(X++p::n::Z).tail.Nodup->x∉X++p::n::Z->
 (∀u,u≠x->u≠p->(F' u).nx=(F u).nx)->(∀v,v≠x->v≠n->(F' v).pv=(F v).pv)->(F' p).nx=x->(F' x).pv=p->(F' x).nx=n->(F' n).pv=x->rL F' (X++p::x::n::Z)
 |[],⟨h1,h2,h3⟩,hs,ht,hx,hn,hp,k1,k2,k3,k4=>by
  refine⟨k1,k2,k3,k4,OH h3 (λu hu=>hn u ?_ ?_) λv hv=>hp v ?_ ?_⟩
  ·rintro rfl;exact hx (An _ (List.dropLast_subset _ hu))
  ·rintro rfl;have:(u::(n::Z).dropLast).Nodup:=by simpa using hs
   exact(AP.1 this).1 hu
  ·rintro rfl;exact hx (by simp only[Ag,At,Jd] at hv⊢;exact .inr (.inr hv))
  ·rintro rfl;have:(v::Z).Nodup:=by simpa using ht
   exact(AP.1 this).1 hv
 |[a],⟨h1,h2,h3⟩,hs,ht,hx,hn,hp,k1,k2,k3,k4=>by
  have Sn:(a::(p::n::Z).dropLast).Nodup:=by simpa using hs
  have M1:=AP.1 Sn;have ag:(p::n::Z).Nodup:=by simpa using ht
  have ah:=AP.1 ag;refine⟨by rw[hn a (λe=>hx (by simp[e])) (λe=>M1.1 (by rw[e];simp[List.dropLast]))];exact h1,by rw[hp p (λe=>hx (by simp[e])) (λe=>ah.1 (by rw[e];simp))];exact h2,?_⟩;exact PO (X:=[]) h3 M1.2 ah.2 (λh=>hx (An _ h)) hn hp k1 k2 k3 k4
 |a::b::X,⟨h1,h2,h3⟩,hs,ht,hx,hn,hp,k1,k2,k3,k4=>by
  have Sn:(a::((b::X)++p::n::Z).dropLast).Nodup:=by have:((a::b::X)++p::n::Z).dropLast=a::((b::X)++p::n::Z).dropLast:=G5 (by simp);rwa [this] at hs
  have M1:=AP.1 Sn;have ag:(b::(X++p::n::Z)).Nodup:=ht;have ah:=AP.1 ag;have zD:p∈((b::X)++p::n::Z).dropLast:=by rw[JO (by simp)];exact Aa _ (by simp[List.dropLast])
  refine⟨by rw[hn a (λe=>hx (by simp[e])) (λe=>M1.1 (by rw[e];exact zD))];exact h1,by rw[hp b (λe=>hx (by simp[e])) (λe=>ah.1 (by rw[e];simp))];exact h2,?_⟩;exact PO (X:=b::X) h3 M1.2 ah.2 (λh=>hx (An _ h)) hn hp k1 k2 k3 k4
theorem Np{F:Nat->NdT}{p n:Nat}{Z:List Nat}: ∀{X:List Nat},rL F (X++p::n::Z)->(F p).nx=n/\(F n).pv=p
 |[],⟨h1,h2,_⟩=>⟨h1,h2⟩
 |[a],⟨_,_,h⟩=>Np (X:=[]) h
 |a::b::X,⟨_,_,h⟩=>Np (X:=b::X) h
theorem Ki{l:Ac}{o o':Obj}(h:Upd l b o o' l')(r:Ac):Upd (l++r) b o o' (l'++r):=by
 induction h with
 |here=>exact .here
 |there _ ih=>exact .there ih
theorem Kk(h:blk F os s=none): ∀p,p∈os->(F p).sl≠s:=λp hp e=>by have:=Bq.1 h p hp;simp[e] at this
theorem eu(b rb m:Nat)(F:Nat->NdT)(all os:List Nat)(es:List (Hm SlotT))(clock:Nat)(lq:Ac)(hT:TB b rb m F all os es clock lq)(X Y:List Nat)(p:Nat)(hX:rb::os=X++p::Y)(s:SlotT)(dp:Int)(hs:blk F os s=none)(G:Ac):
 Fn prog 248 [.pointer (some ⟨b,0,none⟩),.pointer (some ⟨p,0,none⟩),.agg (toArray (Cw s)),.int .i64 dp] (lq++G) λv l'=>v= .tuple #[]/\ ∃DF,IsT b ((Ft F os).take X.length++(s,dp)::(Ft F os).drop X.length) DF/\l'=DF++G:=by
 obtain⟨n,Z,hnZ⟩: ∃n Z,Y++[rb]=n::Z:=by cases Y with|nil=>exact⟨_,_,rfl⟩|cons y Y=>exact⟨_,_,rfl⟩
 have hL:rb::(os++[rb])=X++p::n::Z:=by rw[<-Ae,hX,Am,Ae,hnZ]
 have Pk:=hT.adj;rw[hL] at Pk;obtain⟨hpn,hnp⟩:=Np Pk;have gn: ∀q,q∈X++p::n::Z->q∈all:=λq hq=>by
  rw[<-hL] at hq;rcases At.1 hq with rfl|hq
  ·exact hT.rin
  ·rcases AF.1 hq with hq|hq
   ·exact hT.sub q hq
   ·rw[AC.1 hq];exact hT.rin
 have wz:p∈all:=gn p (by simp);have qo:n∈all:=gn n (by simp);refine AN func248 ntmps248 λE=>?_;refine gz ?_;refine AS (CH rfl) ?_;rintro _ _ ⟨b6,hb6,rfl,rfl⟩;have qz:=hT.eq;have wA:OF p (F p)∈lq++G:=Ai _ (hT.m3 wz);refine gz ?_;refine Cm [8] 10 _ ?_ (hR:=(λ_ h=>h));refine pz ?_;apply CM
 ·exact CH rfl
 ·rfl
 ·rfl
 ·rfl
 ·rintro _ _ ⟨x,_,_,rfl⟩ c hc;exact .tail _ hc
 rintro _ _ ⟨x,hx,rfl,rfl⟩;refine pz ?_;have pT:x∉all:=λh=>hx _ (.tail _ (Ai _ (hT.m3 h))) rfl;rw[hpn];obtain⟨F1,hF1⟩: ∃F1,F1=upd F x ⟨s,dp,p,n⟩:=⟨_,rfl⟩
 have e1x:F1 x=⟨s,dp,p,n⟩:=by rw[hF1,DL]
 have wB: ∀q,q≠x->F1 q=F q:=λq hq=>by rw[hF1,Dl _ _ _ _ hq]
 have hpx:p≠x:=λe=>pT (e▸wz);have Wx:n≠x:=λe=>pT (e▸qo);have wC:(x::all).Nodup:=AP.2 ⟨pT,hT.nd⟩;have jH:OG F1 (x::all)=OF x ⟨s,dp,p,n⟩::OG F all:=by show OF x (F1 x)::OG F1 all=_;rw[e1x,Rm (F:=F1) (F':=F) λq hq=>wB q λe=>pT (e▸hq)]
 refine Ky (l':=Lp b rb m::(m,Ii Cw es clock)::(OG F1 (x::all)++((b6,.cells (toArray (Cw s)) 61 (0,0))::G))) (Keep.of_perm ?_) ?_
 ·rw[qz,jH];refine(AA [(x,_),(b6,_)] [Lp b rb m,(m,Ii Cw es clock)] (OG F all++G)).trans ?_;refine List.Perm.cons _ (List.Perm.cons _ (List.Perm.cons _ ?_));exact(AI (l₁:=OG F all)).symm
 have hmx:OF x (F1 x)∈Lp b rb m::(m,Ii Cw es clock)::(OG F1 (x::all)++((b6,.cells (toArray (Cw s)) 61 (0,0))::G)):= .tail _ (.tail _ (Ai _ (Qw (.head _))));rw[e1x] at hmx;refine gz ?_;refine Cm [12,15] 16 ([]) ?_;refine pz ?_;apply Gp (S:=[OF x ⟨s,dp,p,n⟩])
 ·exact DS rfl (.head _) rfl
 ·intro c hc;cases hc with
  |head=>exact hmx
  |tail _ h=>cases h
 ·rfl
 ·rfl
 ·rfl
 refine pz ?_;apply Gp (S:=[OF x ⟨s,dp,p,n⟩])
 ·exact DS rfl (.head _) rfl
 ·intro c hc;cases hc with
  |head=>exact hmx
  |tail _ h=>cases h
 ·rfl
 ·rfl
 ·rfl
 refine pz ?_;obtain⟨F2,Ta⟩: ∃F2,F2=upd F1 p {F1 p with nx:=x}:=⟨_,rfl⟩
 obtain⟨F3,hF3⟩: ∃F3,F3=upd F2 n {F2 n with pv:=x}:=⟨_,rfl⟩
 apply Hy
 ·exact Du (b:=p) (off:=4) (cs:=toArray (F1 p).cells) rfl rfl rfl (.there (.there (Ki (L8 {F1 p with nx:=x} wC (An _ wz)) _))) (by simp)
 ·rfl
 ·rfl
 ·intro _ _ _ c hc;cases hc
 ·exact λ_ _ _ x hx ha=>Dh BA hx ha
 rintro _ _ ⟨rfl,rfl⟩;rw[<-Ta];refine pz ?_;apply Hy
 ·exact Du (b:=n) (off:=3) (cs:=toArray (F2 n).cells) rfl rfl rfl (.there (.there (Ki (L8 {F2 n with pv:=x} wC (An _ qo)) _))) (by simp)
 ·rfl
 ·rfl
 ·intro _ _ _ c hc;cases hc
 ·exact λ_ _ _ x hx ha=>Dh BA hx ha
 rintro _ _ ⟨rfl,rfl⟩;rw[<-hF3];refine pz ?_;have hm6:(b6,Obj.cells (toArray (Cw s)) 61 (0,0))∈OG F3 (x::all)++((b6,.cells (toArray (Cw s)) 61 (0,0))::G):=Aa _ (.head _);refine gz ?_;refine Cm [6] 7 ([Lp b rb m]) ?_;refine pz ?_;apply Gp (S:=[(b6,.cells (toArray (Cw s)) 61 (0,0))])
 ·exact Ge rfl (.head _) (by(repeat(first|with_reducible apply LSub.done|with_reducible apply LSub.take|with_reducible apply LSub.drop)))
 ·intro c hc;cases hc with
  |head=>exact .tail _ (.tail _ hm6)
  |tail _ h=>cases h
 ·rfl
 ·rfl
 ·rfl
 refine pz ?_;apply Hy
 ·apply Qi (enc:=Cw) (a:=s) (es:=es) (clock:=clock) (ks:=[some .i64,some .i64])
  ·rfl
  ·rfl
  ·rfl
  ·exact Nn
  ·exact DY
 ·rfl
 ·rfl
 ·rintro _ _ ⟨rfl,rfl⟩ c hc;cases hc with
  |head=>exact .head _
  |tail _ h=>cases h
 ·exact λ_ _ _ x hx ha=>Dh BA hx ha
 rintro _ _ ⟨rfl,rfl⟩;refine pz ?_;refine gz ?_;obtain⟨A,hA,NQ⟩: ∃A,X++[p]=rb::A/\os=A++Y:=by
  have h:rb::os=(X++[p])++Y:=by rw[hX];simp
  cases hXp:X++[p] with
  |nil=>simp at hXp
  |cons a A=>rw[hXp,Ae,Co] at h;exact⟨A,by rw[h.1],h.2⟩
 have ur:A.length=X.length:=by have:=BI List.length hA;simp at this;omega
 have e3: ∀q,(F3 q).sl=(F1 q).sl/\(F3 q).dp=(F1 q).dp:=λq=>by
  rw[hF3,Ta];unfold upd
  split<;>split<;>simp_all
 have zE: ∀q,(F3 q).nx=if q=p then x else(F1 q).nx:=λq=>by
  rw[hF3,Ta];unfold upd
  split<;>split<;>simp_all
 have zF: ∀q,(F3 q).pv=if q=n then x else(F1 q).pv:=λq=>by
  rw[hF3,Ta];unfold upd
  split<;>split<;>simp_all
 have AaB: ∀q,q∈os->q≠x:=λq hq e=>pT (e▸hT.sub q hq);have eo: ∀q,q∈os->(F3 q).sl=(F q).sl/\(F3 q).dp=(F q).dp:=λq hq=>by rw[(e3 q).1,(e3 q).2,wB q (AaB q hq)];exact⟨rfl,rfl⟩
 have ex:(F3 x).sl=s/\(F3 x).dp=dp:=by rw[(e3 x).1,(e3 x).2,e1x];exact⟨rfl,rfl⟩
 have IU:=Kk hs;obtain⟨DF,Q9⟩: ∃DF,DF=Lp b rb m::(m,Ii Cw (LI s (.pointer (some ⟨x,0,none⟩)) clock es).1 (LI s (.pointer (some ⟨x,0,none⟩)) clock es).2)::OG F3 (x::all):=⟨_,rfl⟩
 refine Bb (l':=DF++G) ?_ ⟨rfl,DF,⟨rb,m,F3,x::all,A++x::Y,_,_,?_,⟨Q9,wC,An _ hT.rin,λq hq=>?_,?_,?_,?_,hT.keys.set _ _,λs'=>?_⟩⟩,rfl⟩
 ·rw[Q9];refine⟨[(b6,.cells (toArray (Cw s)) 61 (0,0))],?_⟩;refine((List.Perm.cons _ (List.Perm.cons _ AI)).trans ?_);exact AA [_,_] [_] _
 ·unfold Ft;rw[NQ,Aq,AJ,Aq,<-ur];rw[GX (by simp),Iy (by simp),ex.1,ex.2];congr 1
  ·apply By;intro q hq;have:=eo q (by rw[NQ];exact Ai _ hq);rw[this.1,this.2]
  ·congr 1;apply By;intro q hq;have:=eo q (by rw[NQ];exact Aa _ hq);rw[this.1,this.2]
 ·rcases AF.1 hq with hq|hq
  ·exact An _ (hT.sub q (by rw[NQ];exact Ai _ hq))
  ·rcases At.1 hq with rfl|hq
   ·exact .head _
   ·exact An _ (hT.sub q (by rw[NQ];exact Aa _ hq))
 ·have Q0:(rb::(A++x::Y)).Perm (x::(rb::os)):=by
   rw[NQ];exact(List.Perm.cons _ AI).trans (List.Perm.swap _ _ _)
  rw[Q0.nodup_iff,AP];refine⟨λh=>?_,hT.ond⟩;rcases At.1 h with h|h
  ·exact pT (h▸hT.rin)
  ·exact AaB x h rfl
 ·have P3:rb::((A++x::Y)++[rb])=X++p::x::n::Z:=by
   have:rb::((A++x::Y)++[rb])=(rb::A)++(x::(Y++[rb])):=by simp
   rw[this,<-hA,hnZ];simp
  rw[P3];refine PO Pk ?_ ?_ (λh=>pT (gn x h)) (λu h1 h2=>?_) (λv h1 h2=>?_) ?_ ?_ ?_ ?_
  ·rw[<-hL,<-Ae,List.dropLast_concat];exact hT.ond
  ·rw[<-hL,Jd,BC];have:=AP.1 hT.ond;exact⟨this.2,by simp,λa ha c hc e=>this.1 (by rw[AC.1 hc] at e;rw[<-e];exact ha)⟩
  ·rw[zE,Ab h2,wB u h1]
  ·rw[zF,Ab h2,wB v h1]
  ·rw[zE,Ad rfl]
  ·rw[zF,Ab (λe=>Wx e.symm),e1x]
  ·rw[zE,Ab (λe=>hpx e.symm),e1x]
  ·rw[zF,Ad rfl]
 ·have AdT:((A++x::Y).map λq=>(F3 q).sl).Perm (s::os.map λq=>(F q).sl):=by
   rw[NQ,Aq,AJ,Aq,ex.1];have h1:A.map (λq=>(F3 q).sl)=A.map (λq=>(F q).sl):=By λq hq=>(eo q (by rw[NQ];exact Ai _ hq)).1;have h2:Y.map (λq=>(F3 q).sl)=Y.map (λq=>(F q).sl):=By λq hq=>(eo q (by rw[NQ];exact Aa _ hq)).1;rw[h1,h2];exact AI
  rw[AdT.nodup_iff,AP];exact⟨λh=>by obtain⟨q,hq,e⟩:=Av.1 h;exact IU q hq e,hT.snd⟩
 ·rw[Kh];have hfA: ∀B:List Nat,(∀q,q∈B->q∈os)->B.find? (λq=>decide ((F3 q).sl=s'))=B.find? (λq=>decide ((F q).sl=s')):=λB hB=>by
   induction B with
   |nil=>rfl
   |cons z B ih=>rw[BJ,BJ,(eo z (hB z Ak)).1,ih λq hq=>hB q (An _ hq)]
  rw[Eg,hfA A (λq hq=>by rw[NQ];exact Ai _ hq),BJ,ex.1];by_cases qD:s'=s
  ·rw[Ad qD,Au qD.symm];have:A.find? (λq=>decide ((F q).sl=s'))=none:=Bq.2 λq hq=>by
    have:=IU q (by rw[NQ];exact Ai _ hq);simpa[qD] using this
   rw[this];rfl
  ·rw[Ab qD,Aw (λe=>qD e.symm),hT.get,NQ,Eg,hfA Y (λq hq=>by rw[NQ];exact Aa _ hq)]
section
variable{P:Program}{ro:Option Nat}{N:Nat}{E:World}{ops:Array Oper}{Q:Exit->Act->World->Prop}{R:Ac}{tbl:List (List Nat)}{sw:Sw}{sp:FP}{pl:List BG}{o:Oper}{fr fr':Fr}{ds:List Deferred}{l:Ac}{K:Value->Ac->Prop}{v:Value}{i:Nat}{k:Bool}
theorem Rc{d:Nat}(h:OpE P ro N fr l o K)(hw:Rb ops fr o.guard=some true)(hd:o.dst=some d)(hb:Nat.blt d N=true)(hR: ∀v l',K v l'->(∀c,c∈R->c∈l'))(hS: ∀v l',K v l'-> ∀x,x∈sp->FD tbl i x.1=false-> ∀c,c∈x.2->c∈l')(hk: ∀v l',K v l'->PlanS P ro N E ops Q R tbl none sp pl ((d,v)::fr) ds l'):PlanS P ro N E ops Q R tbl none sp ((i,false,o)::pl) fr ds l:=by
 rcases Kf hw with⟨h1,_⟩|⟨j,b,oj,dj,b',h1,h2,h3,h4,h5⟩
 ·exact G9 h h1 hd hb hR hS hk
 ·have:b'=b:=by simpa using h5
  subst this;exact .ge h h1 h2 h3 h4 (by rw[hd];exact hb) hR hS λv l' hkv=>by rw[hd];exact hk v l' hkv
end
theorem AbH{q r:Nat}(h:q≠r):(!decide ((⟨q,0,none⟩:Addr)=⟨r,0,none⟩))=true:=by rw[Aw (λe=>h (by injection e))];rfl
theorem AbI(q:Nat):(!decide ((⟨q,0,none⟩:Addr)=⟨q,0,none⟩))=false:=by rw[Au rfl];rfl
theorem TB.nxt{all:List Nat}(h:TB b rb m F all os es clock lq){Y:List Nat}(hX:rb::os=X++p::Y):(F p).nx=Y.headD rb:=by
 have Pk:=h.adj;rw[show rb::(os++[rb])=X++p::(Y++[rb]) by rw[<-Ae,hX,Am,Ae]] at Pk;cases Y with
 |nil=>exact(Np (Z:=[]) Pk).1
 |cons y Y=>exact(Np (Z:=Y++[rb]) Pk).1
theorem TB.prv{all:List Nat}(h:TB b rb m F all os es clock lq){Y:List Nat}(hX:rb::os=X++p::Y):(F (Y.headD rb)).pv=p:=by
 have Pk:=h.adj;rw[show rb::(os++[rb])=X++p::(Y++[rb]) by rw[<-Ae,hX,Am,Ae]] at Pk;cases Y with
 |nil=>exact(Np (Z:=[]) Pk).2
 |cons y Y=>exact(Np (Z:=Y++[rb]) Pk).2
def splitD(s:SlotT):DT->Option (DT×Int×DT)
 |[]=>none
 |x::r=>if x.1=s then some ([],x.2,r) else(splitD s r).map λy=>(x::y.1,y.2.1,y.2.2)
theorem Hf{F:Nat->NdT}{s:SlotT}: ∀{os:List Nat} {p:Nat},blk F os s=some p-> ∃A B,os=A++p::B/\splitD s (Ft F os)=some (Ft F A,(F p).dp,Ft F B)
 |[],_,h=>by cases h
 |q::os,p,h=>by
  unfold blk at h;rw[BJ] at h;by_cases e:(F q).sl=s
  ·rw[Au e] at h;cases h;exact⟨[],os,rfl,by show splitD s (((F q).sl,(F q).dp)::Ft F os)=_;unfold splitD;rw[Ad e];rfl⟩
  ·rw[Aw e] at h;obtain⟨A,B,rfl,h2⟩:=Hf (os:=os) h;exact⟨q::A,B,rfl,by show splitD s (((F q).sl,(F q).dp)::Ft F _)=_;unfold splitD;rw[Ab e,h2];rfl⟩
theorem JY{F:Nat->NdT}{s:SlotT}: ∀{os:List Nat},blk F os s=none->splitD s (Ft F os)=none
 |[],_=>rfl
 |q::os,h=>by
  unfold blk at h;rw[BJ] at h;by_cases e:(F q).sl=s
  ·rw[Au e] at h;cases h
  ·rw[Aw e] at h;show splitD s (((F q).sl,(F q).dp)::Ft F os)=none;unfold splitD;rw[Ab e,JY (os:=os) h];rfl
abbrev Z1(B b:Nat):Bd:=(B,.cells #[.pointer (some ⟨b,0,none⟩)] 232 (0,0))
abbrev YU(B p:Nat):Bd:=(B,.cells #[.pointer (some ⟨p,0,none⟩)] 325 (0,0))
theorem T1(b p:Nat)(l:Ac):Fn prog 171 [.pointer (some ⟨b,0,none⟩),.pointer (some ⟨p,0,none⟩)] l λv l'=> ∃B1 B2,v= .func (.func 234) #[] #[.pointer (some ⟨B1,0,none⟩),.pointer (some ⟨B2,0,none⟩)]/\l'=YU B1 p::Z1 B2 b::l:=by refine AN func171 ntmps171 λE=>?_;refine Im λb2=>?_;refine Im λb3=>?_;exact Bb .refl ⟨b3,b2,rfl,rfl⟩
def Nxs(F:Nat->NdT)(L:List Nat)(l:Ac):Prop:= ∀q,q∈L-> ∃x:NdT,OF q x∈l/\x.nx=(F q).nx
theorem RI(B1 B2 b rb m p:Nat)(F:Nat->NdT)(all os:List Nat)(es:List (Hm SlotT))(clock:Nat)(lq:Ac)(hT:TB b rb m F all os es clock lq)(X Y:List Nat)(hX:rb::os=X++p::Y):
 FC prog 234 [.pointer (some ⟨B1,0,none⟩),.pointer (some ⟨B2,0,none⟩)] (λq:Nat=>[.pointer (some ⟨q,0,none⟩)]) (λxs=>xs=Y) (λpre=>pre<+:Y)
  (λpre l=>YU B1 p∈l/\Z1 B2 b∈l/\Lp b rb m∈l/\Nxs F (rb::os) l):=by
 refine⟨λr I Ix G0 Cb hY l G hG h0=>?_⟩;have hpc:p∈rb::os:=by rw[hX];simp
 obtain⟨n1,n2,n3,n4⟩:=Cb _ _ G hG h0;obtain⟨xp,ug,hxn⟩:=n4 p hpc;refine AN func234 ntmps234 λE=>?_;refine gz ?_;rw[hxn,hT.nxt hX];refine gz ?_;refine CN (α:=List Nat×List Nat×Ac) (λx=>[(0,.func (.yield r) #[] #[]),(1,.pointer (some ⟨B1,0,none⟩)),(2,.pointer (some ⟨B2,0,none⟩)),(4,.pointer (some ⟨x.2.1.headD rb,0,none⟩))]) (λx=>x.2.2++G) (λx=>x.1++x.2.1=Y/\I x.1 x.2.2) (λx=>x.2.1.length) ([],Y,l) ⟨rfl,h0⟩ ⟨rfl,rfl,rfl,rfl,trivial⟩ .refl ?_;rintro⟨pre,suf,l⟩ ⟨NO,hI⟩;simp only at NO hI⊢;obtain⟨n1,n2,n3,n4⟩:=Cb _ _ G hG hI;obtain⟨xr,hxr,hxrn⟩:=n4 rb Ak;cases suf with
 |nil=>rw[Bj] at NO;subst NO;simp only[List.headD_nil];refine gz ?_;refine Bh (dW rfl rfl AX hxr hxr) ?_;rw[AbI];refine gz ?_;exact Bb .refl ⟨l,rfl,.inl ⟨_,rfl,hI⟩⟩
 |cons q suf=>
  have hX2:rb::os=(X++p::pre)++q::suf:=by rw[hX,<-NO];simp
  have hqc:q∈rb::os:=by rw[hX2];simp
  have hqr:q≠rb:=λe=>by
   have Le:=hT.ond;cases X with
   |nil=>rw[Ag,Co] at hX;rw[hX.2,<-NO,<-e] at Le;simp at Le
   |cons x X=>rw[Ae,Co] at hX;rw[hX.2,<-NO,<-e] at Le;simp at Le
  obtain⟨xq,hxq,hxqn⟩:=n4 q hqc;simp only[Iw];refine gz ?_;refine Bh (dW rfl rfl AX hxq hxr) ?_;rw[AbH hqr];refine gz ?_;have Dw:pre++[q]<+:Y:=⟨suf,by rw[<-NO];simp⟩
  refine AS (C5 rfl rfl (hY pre q l G hG hI Dw)) ?_;rintro v l' ⟨l1,rfl,⟨rfl,LB⟩|⟨rfl,hx⟩⟩
  ·obtain⟨k1,k2,k3,k4⟩:=Cb _ _ G hG LB;obtain⟨xq2,hxq2,hxqn2⟩:=k4 q hqc;refine gz ?_;rw[hxqn2,hT.nxt hX2];refine gz ?_;exact BO (pre++[q],suf,l1) ⟨by rw[<-NO];simp,LB⟩ (by simp) ⟨rfl,rfl,rfl,rfl,trivial⟩ .refl
  ·refine gz ?_;exact Bb .refl ⟨l1,rfl,.inr ⟨_,Dw,hx⟩⟩
theorem rM{P:α->Bool}{pre:List α}{y:α}{Y:List α}(h1:pre++[y]<+:Y)(h2:pre<+:Y.takeWhile P)(hy:P y=true):pre++[y]<+:Y.takeWhile P:=by obtain⟨r,rfl⟩:=h1;have hp: ∀x,x∈pre->P x=true:=λx hx=>A5.1 (IF (p:=P)) x (h2.subset hx);rw[Am,GY hp];show pre++[y]<+:pre++List.takeWhile P (y::r);rw[Ht hy];exact⟨r.takeWhile P,by simp⟩
theorem rN{P:α->Bool}{pre:List α}{y:α}{Y:List α}(h1:pre++[y]<+:Y)(h2:pre<+:Y.takeWhile P)(hy:P y=false):pre=Y.takeWhile P:=by obtain⟨r,rfl⟩:=h1;have hp: ∀x,x∈pre->P x=true:=λx hx=>A5.1 (IF (p:=P)) x (h2.subset hx);rw[Am,GY hp];show pre=pre++List.takeWhile P (y::r);rw[Fz (by rw[hy];simp),Bj]
theorem xJ{P:α->Bool}{Y:List α}(h2:Y<+:Y.takeWhile P):Y=Y.takeWhile P:=(h2.sublist.eq_of_length_le (Ek P).length_le)
theorem Keep.in_mid(A B C:Ac):Keep (A++(B++C)) (B++(A++C)):=Keep.of_perm (AA A B C)
def Dps(F:Nat->NdT)(L pre:List Nat)(l:Ac):Prop:= ∀q,q∈L-> ∃x:NdT,OF q x∈l/\x.nx=(F q).nx/\(q∉pre->x.dp=(F q).dp)
abbrev nV(x:SlotT×Int):Ap:=[.int .i64 x.1.1,.int .i64 x.1.2,.int .i64 x.2]
def ncs(D:DT):Ap:=D.flatMap nV
def scs(L:List SlotT):Ap:=L.flatMap Cw
theorem mm(D:DT)(x:SlotT×Int):ncs (D++[x])=ncs D++nV x:=by simp[ncs]
theorem scs_snoc(D:List SlotT)(x:SlotT):scs (D++[x])=scs D++Cw x:=by simp[scs]
theorem mn(F:Nat->NdT)(pre:List Nat)(y:Nat):Ft F (pre++[y])=Ft F pre++[((F y).sl,(F y).dp)]:=by simp[Ft]
def belowD(D:DT)(s:SlotT):List SlotT:=match splitD s D with
 |none=>[]
 |some (_,d,B)=>(B.takeWhile λx=>decide (d<x.2)).map Prod.fst
theorem all_any(b:Nat)(D:DT)(lq:Ac)(hq:IsT b D lq)(hn:D.length<=1000000)(l:Ac)(CG: ∀c,c∈lq->c∈l):
 Fn prog 116 [.pointer (some ⟨b,0,none⟩)] l λv l'=> ∃cs,OwnSl 129 3 v D.length (ncs D) cs/\l'=cs++l:=by
 obtain⟨rb,m,F,all,os,es,clock,rfl,hT⟩:=hq;have ku:os.length<=1000000:=by simpa[Ft] using hn
 have h1:=CG _ hT.m1;have kC: ∀q,q∈rb::os->OF q (F q)∈l:=λq hq=>by
  rcases At.1 hq with rfl|hq
  ·exact CG _ (hT.m3 hT.rin)
  ·exact CG _ (hT.m3 (hT.sub q hq))
 refine AN func116 ntmps116 λE=>?_;refine Im λb3=>?_;refine AS (Dn rfl rfl (T1 _ _ _)) ?_;rintro v l' ⟨C1,C2,rfl,rfl⟩;refine gz ?_;refine Dg (α:=Nat) (ps:=[13]) (lb:=[.pointer (some ⟨C1,0,none⟩),.pointer (some ⟨C2,0,none⟩)]) rfl (RI C1 C2 b rb m rb F all os es clock lq hT [] os rfl) (λ_=>rfl) rfl
  (λpre l=> ∃v cs,OwnSl 129 3 v pre.length (ncs (Ft F pre)) cs/\l=[YU C1 rb,Z1 C2 b,(b3,.cells #[v] 45 (0,0))]++cs)
  (λc pre l=>False)
  _ l (λpre l2 X2 hX h=>by obtain⟨v,cs,_,rfl⟩:=h;exact⟨.head _,.tail _ (.head _),Aa _ (hX _ h1),λq hq=>⟨F q,Aa _ (hX _ (kC q hq)),rfl⟩⟩) (by exact AW) ⟨_,[],OwnSl.nil _ _,rfl⟩ ?_ ?_ ?_
 ·rintro E r0 FU pre y l' T ⟨fn,tmps,Dd,rfl⟩ Q8 ⟨v,cs',EX,rfl⟩ Dw;have hy:y∈rb::os:=An _ (Dw.subset (by simp));have hyT:=Q8 _ (kC y hy);have XI:pre.length<=1000000:=by have:=Dw.length_le;simp at this;omega
  simp only[DX,Ae,Ag];refine gz ?_;refine CK (.there (.there (.there (FK _ _ _ _ _)))) ?_;generalize hX1:(r0,Obj.loop (DR fn tmps _ _ _ Dd .busy none))::T=X1;have wD:OF y (F y)∈X1:=by rw[<-hX1];exact .tail _ hyT
  refine gz ?_;refine Cm [10,11,12] 13 ([]) ?_;refine pz ?_;apply Gp (S:=[(b3,.cells #[v] 45 (0,0))])
  ·exact DS rfl (.head _) rfl
  ·intro c hc;cases hc with
   |head=>exact .tail _ (.tail _ (.head _))
   |tail _ h=>cases h
  ·rfl
  ·rfl
  ·rfl
  refine pz ?_;apply Gp (S:=[OF y (F y)])
  ·exact Ge rfl (.head _) (by(repeat(first|with_reducible apply LSub.done|with_reducible apply LSub.take|with_reducible apply LSub.drop)))
  ·intro c hc;cases hc with
   |head=>exact .tail _ (.tail _ (.tail _ (Aa _ wD)))
   |tail _ h=>cases h
  ·rfl
  ·rfl
  ·rfl
  refine pz ?_;apply Gp (S:=[OF y (F y)])
  ·exact DS rfl (.head _) rfl
  ·intro c hc;cases hc with
   |head=>exact .tail _ (.tail _ (.tail _ (Aa _ wD)))
   |tail _ h=>cases h
  ·rfl
  ·rfl
  ·rfl
  refine pz ?_;apply G9
  ·apply FE (ws:=nV ((F y).sl,(F y).dp)) (k:=3)
   ·rfl
   ·rfl
   ·rfl
   ·decide
   ·decide
  ·rfl
  ·rfl
  ·rfl
  ·intro _ _ _ c hc;cases hc
  ·rintro _ _ ⟨bl,_,rfl,rfl⟩ x hx _ c hc;have h3: ∀o:Obj,(b3,o)∈(bl,Obj.cells (toArray (nV ((F y).sl,(F y).dp))) 129 (0,0))::YU C1 rb::Z1 C2 b::(b3,o)::(cs'++X1):=λo=> .tail _ (.tail _ (.tail _ (.head _)));simp only[At,BQ,EE] at hx;rcases hx with rfl|rfl|rfl<;>simp only[At,BQ,EE] at hc<;>subst hc
   ·exact .tail _ (.tail _ (.tail _ (.tail _ (Aa _ wD))))
   ·exact .tail _ (.tail _ (.tail _ (.tail _ (Aa _ wD))))
   ·exact h3 _
  rintro _ _ ⟨bl,_,rfl,rfl⟩;refine pz ?_;apply G9
  ·apply Hz (k:=3) (X:=[YU C1 rb,Z1 C2 b,(b3,.cells #[v] 45 (0,0))]) (cs:=cs') (xs:=ncs (Ft F pre)) (n:=pre.length) (zs:=[.int .i64 0,.int .i64 0,.int .i64 0]) (ws:=nV ((F y).sl,(F y).dp))
   ·rfl
   ·rfl
   ·rfl
   ·exact EX
   ·rfl
   ·simp[Value.oneCell']
   ·omega
   ·decide
  ·rfl
  ·rfl
  ·rfl
  ·intro _ _ _ c hc;cases hc
  ·exact λ_ _ _ x hx ha=>Dh BA hx ha
  rintro v' _ ⟨c2,Fg,rfl⟩;have Jz:v'.oneCell'=true:=Fg.one;simp only[Ae,Ag];apply Hy
  ·apply GF (cs:=[v])
   ·rfl
   ·rfl
   ·exact Jz
   ·exact BW
   ·exact .zero
   ·exact DY
  ·rfl
  ·rfl
  ·intro _ _ _ c hc;cases hc
  ·exact λ_ _ _ x hx ha=>Dh BA hx ha
  rintro _ _ ⟨rfl,rfl⟩;refine pz ?_;refine gz ?_;rw[<-hX1];refine Ci _ (.refl) ⟨v',c2,?_,rfl⟩;rw[mn,mm,Ah];exact Fg
 ·rintro Dd xs l' rfl ⟨v,cs',EX,rfl⟩;have Jz:v.oneCell'=true:=EX.one;simp only[Ae,Ag];refine gz ?_;refine AU [Dd] (cs'++l) rfl (l':=cs'++l) (by exact AW) (by exact Ba) .refl ?_;exact⟨cs',by rw[show(Ft F xs).length=xs.length by simp[Ft]];exact EX,rfl⟩
 ·rintro Dd c pre l' Dw h;exact h.elim
theorem T3{F:Nat->NdT}{d:Int}: ∀(B:List Nat),((Ft F B).takeWhile λx=>decide (d<x.2)).map Prod.fst=(B.takeWhile λq=>decide (d<(F q).dp)).map λq=>(F q).sl
 |[]=>rfl
 |q::B=>by
  show(List.takeWhile _ (((F q).sl,(F q).dp)::Ft F B)).map Prod.fst=_;rw[List.takeWhile_cons,List.takeWhile_cons];by_cases h:d<(F q).dp
  ·rw[Au h];show _::List.map Prod.fst _=_::List.map _ _;rw[T3 B]
  ·rw[Aw h];rfl
end Tr
end Go.Proofs.YtlifcingifodfaaGreat
