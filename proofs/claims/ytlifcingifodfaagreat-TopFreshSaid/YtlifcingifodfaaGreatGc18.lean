/- Laws that the statement's proof leans on (joined out of several texts). -/
import Derived.Test.YtlifcingifodfaaGreatGc17
import Derived.Shelf.SortM.Plain
import Derived.Shelf.SortM.SortNone
set_option maxHeartbeats 4000000
set_option linter.unusedVariables false
set_option linter.unusedSimpArgs false
namespace Go.Proofs
open Tryz
open List(toArray)
open Go.Shelf
def Tryz.sortA_ren:Go.Shelf.Ren:=⟨λ|5=>236|8=>309|7=>308|19=>354|20=>355|10=>345|11=>346|12=>347|13=>348|14=>349|15=>350|16=>351|17=>352|18=>353|30=>377|31=>378|32=>379|33=>380|34=>381|35=>382|40=>391|n=>n,λ|23=>40|25=>3|3=>3|32=>123|22=>40|0=>0|44=>528|46=>34|4=>4|36=>522|35=>521|41=>116|5=>5|9=>9|53=>541|57=>171|63=>546|64=>367|n=>n,λ|n=>n⟩
theorem Tryz.sortA:Go.Proofs.SlLaysM.n5 prog Tryz.sortA_ren:={
 mixed:=BB
 f5:=⟨Tryz.f236.name,by decide,func236.trans (BO some BB)⟩
 f7:=⟨Tryz.f308.name,by decide,func308.trans (BO some BB)⟩
 f8:=func309.trans (BO some BB)
 f10:=⟨Tryz.f345.name,by decide,func345.trans (BO some BB)⟩
 f11:=⟨Tryz.f346.name,by decide,func346.trans (BO some BB)⟩
 f12:=⟨Tryz.f347.name,by decide,func347.trans (BO some BB)⟩
 f13:=⟨Tryz.f348.name,by decide,func348.trans (BO some BB)⟩
 f14:=⟨Tryz.f349.name,by decide,func349.trans (BO some BB)⟩
 f15:=⟨Tryz.f350.name,by decide,func350.trans (BO some BB)⟩
 f16:=⟨Tryz.f351.name,by decide,func351.trans (BO some BB)⟩
 f17:=⟨Tryz.f352.name,by decide,func352.trans (BO some BB)⟩
 f18:=⟨Tryz.f353.name,by decide,func353.trans (BO some BB)⟩
 f19:=func354.trans (BO some BB)
 f20:=func355.trans (BO some BB)
 f30:=⟨Tryz.f377.name,by decide,func377.trans (BO some BB)⟩
 f31:=func378.trans (BO some BB)
 f32:=func379.trans (BO some BB)
 f33:=⟨Tryz.f380.name,by decide,func380.trans (BO some BB)⟩
 f34:=⟨Tryz.f381.name,by decide,func381.trans (BO some BB)⟩
 f35:=⟨Tryz.f382.name,by decide,func382.trans (BO some BB)⟩
 f40:=⟨Tryz.f391.name,by decide,func391.trans (BO some BB)⟩
 t0:=Tryz.underlying0
 a0:=Tryz.isAgg0
 z0:=Tryz.sizeOf0
 v0:=Tryz.zeroValue0
 t3:=Tryz.underlying3
 a3:=Tryz.isAgg3
 z3:=Tryz.sizeOf3
 v3:=Tryz.zeroValue3
 t4:=Tryz.underlying4
 a4:=Tryz.isAgg4
 z4:=Tryz.sizeOf4
 v4:=Tryz.zeroValue4
 t5:=Tryz.underlying5
 a5:=Tryz.isAgg5
 z5:=Tryz.sizeOf5
 v5:=Tryz.zeroValue5
 t9:=Tryz.underlying9
 a9:=Tryz.isAgg9
 z9:=Tryz.sizeOf9
 v9:=Tryz.zeroValue9
 t22:=Tryz.underlying40
 a22:=Tryz.isAgg40
 z22:=Tryz.sizeOf40
 v22:=Tryz.zeroValue40
 t23:=Tryz.underlying40
 a23:=Tryz.isAgg40
 z23:=Tryz.sizeOf40
 v23:=Tryz.zeroValue40
 t25:=Tryz.underlying3
 a25:=Tryz.isAgg3
 z25:=Tryz.sizeOf3
 v25:=Tryz.zeroValue3
 t32:=Tryz.underlying123
 a32:=Tryz.isAgg123
 z32:=Tryz.sizeOf123
 v32:=Tryz.zeroValue123
 t35:=Tryz.underlying521
 a35:=Tryz.isAgg521
 z35:=Tryz.sizeOf521
 v35:=Tryz.zeroValue521
 t36:=Tryz.underlying522
 a36:=Tryz.isAgg522
 z36:=Tryz.sizeOf522
 v36:=Tryz.zeroValue522
 t41:=Tryz.underlying116
 a41:=Tryz.isAgg116
 z41:=Tryz.sizeOf116
 v41:=Tryz.zeroValue116
 t44:=Tryz.underlying528
 a44:=Tryz.isAgg528
 z44:=Tryz.sizeOf528
 v44:=Tryz.zeroValue528
 t46:=Tryz.underlying34
 a46:=Tryz.isAgg34
 z46:=Tryz.sizeOf34
 v46:=Tryz.zeroValue34
 t53:=Tryz.underlying541
 a53:=Tryz.isAgg541
 z53:=Tryz.sizeOf541
 v53:=Tryz.zeroValue541
 t57:=Tryz.underlying171
 a57:=Tryz.isAgg171
 z57:=Tryz.sizeOf171
 v57:=Tryz.zeroValue171
 t63:=Tryz.underlying546
 a63:=Tryz.isAgg546
 z63:=Tryz.sizeOf546
 v63:=Tryz.zeroValue546
 t64:=Tryz.underlying367
 a64:=Tryz.isAgg367
 z64:=Tryz.sizeOf367
 v64:=Tryz.zeroValue367}
end Go.Proofs
namespace Go.Proofs.YtlifcingifodfaaGreat
open Tryz
open List(toArray)
open Go.RowKit Go.Sort
def MV(x:Int):Value:= .int .i64 x
abbrev UX(zs:A4):A4:=zs.mergeSort λx y=>decide (x<=y)
theorem lj(b cap:Nat)(zs:A4)(sp:Ap)(hn:zs.length<=1000000)(l:Ad):
 Fn prog 236 [.slice (some ⟨b,0,none⟩) zs.length cap] ((b,.cells (toArray (zs.map MV++sp)) 3 (0,0))::l) λv l'=>v= .tuple #[]/\l'=(b,.cells (toArray ((UX zs).map MV++sp)) 3 (0,0))::l:=by
 refine⟨λE W hs=>?_⟩;have hH:Holds (Value.int .i64) W b 0 zs.toArray:=λj hj=>by
  simp only[Bt] at hj;refine⟨?_,?_⟩
  ·rw[hs.cell (.head _),BE,AF,AB (by simpa using hj),A5,Al hj];simp[hj,MV]
  ·rw[hs.frz (.head _)];simp
 have h:=AnyM.slices_Sort_int Tryz.sortA b 0 cap zs W hH (hs.lt (.head _)) Af;refine(h:Calls prog 236 _ W _).mono ?_;rintro e w' ⟨rfl,n,os,rfl⟩;refine⟨_,_,rfl,⟨rfl,rfl⟩,?_⟩;refine⟨hs.os,hs.tape,hs.output,by simpa using hs.nodup,λc hc=>?_⟩;have hb:=hs.lt (.head _);simp only at hb;have RO: ∀k,k<W.heap.size->(Go.Sort.grow (putRow (Value.int .i64) (Go.Sort.ahead W n) b 0 (UX zs).toArray) os).heap[k]?=(W.heap.modify b (onCells (putCells (Value.int .i64) 0 (UX zs).toArray)))[k]?:=λk hk=>by show(((Go.Sort.ahead W n).heap.modify b _)++os)[k]?=_;rw[Array.getElem?_append_left (by simpa using hk)];rfl
 rcases At.1 hc with rfl|hc'
 ·rw[RO _ hb,Array.getElem?_modify,Ac rfl,hs.has _ (.head _)];simp only[BQ,onCells];congr 2;apply BU.1;apply Dl;intro j;unfold putCells;rw[Array.getElem?_toList,Array.getElem?_mapIdx,AF];have hl:(UX zs).length=zs.length:=List.length_mergeSort ..;by_cases hj:j<zs.length
  ·rw[AB (by simpa using hj),AB (by simpa[hl] using hj),A5,A5,Al hj,Al Af];simp[hj,hl,MV]
  ·rw[AN (by simpa using Mc hj),AN (by simpa[hl] using Mc hj)];simp only[A7,hl];cases sp[j-zs.length]? with
   |none=>rfl
   |some u=>simp[hl,hj]
 ·have Dc:=hs.lt (An _ hc');rw[RO _ Dc,Array.getElem?_modify,Ab,hs.has _ (An _ hc')];intro e;have:=hs.nodup;rw[AJ,AP] at this;exact this.1 (Au.2 ⟨c,hc',e.symm⟩)
theorem WH(cap:Nat)(p:Option Addr)(l:Ad):Fn prog 236 [.slice p 0 cap] l λv l'=>v= .tuple #[]/\l'=l:=by refine⟨λE W hs=>?_⟩;refine((AnyM.slices_Sort_int_none Tryz.sortA p cap W:Calls prog 236 _ W _)).mono ?_;rintro e w' ⟨rfl,rfl⟩;exact⟨_,_,rfl,⟨rfl,rfl⟩,hs⟩
theorem Yw(v:Value)(zs:A4)(cs l:Ad)(ho:OwnSl 3 1 v zs.length (zs.map MV) cs)(hn:zs.length<=1000000):
 Fn prog 236 [v] (cs++l) λr l'=>r= .tuple #[]/\ ∃cs',OwnSl 3 1 v (UX zs).length ((UX zs).map MV) cs'/\l'=cs'++l:=by
 have hl:(UX zs).length=zs.length:=List.length_mergeSort ..;rcases ho.2 with⟨rfl,h0,rfl⟩|⟨gb,cap,sp,rfl,rfl,fD,UK,Nu⟩
 ·obtain rfl:zs=[]:=Eg h0;exact(WH 0 none l).mono λr l' ⟨h1,h2⟩=>⟨h1,[],by rw[show UX []=[] by simp[UX]];exact OwnSl.nil _ _,h2⟩
 ·exact(lj gb cap zs sp hn l).mono λr l' ⟨h1,h2⟩=>⟨h1,_,⟨by simp,.inr ⟨gb,cap,sp,by rw[hl],rfl,Af,UK,by rw[Ah,A7,hl,<-Nu,Ah,A7]⟩⟩,h2⟩
end Go.Proofs.YtlifcingifodfaaGreat
namespace Go.Proofs.YtlifcingifodfaaGreat
open Tryz
open List(toArray)
open Go.RowKit
set_option maxRecDepth 20000
variable{α:Type}{k:Nat}{D:SD}{es vis:List Lx}{v:Value}{c:CapT}{seen:Array Nat}{l cs:Ad}{p:Prop}{xs:A4}{a:Int}{C:List CapT}{s:Ck}
structure Came(es vis:List Lx)(seen:Array Nat):Prop where
 eq:seen.toList=vis.map (·.2.2)
 nd:(vis.map (·.2.2)).Nodup
 sub: ∀e,e∈vis->e∈es
theorem Came.len(h:Came es vis seen)(hn:(es.map (·.2.2)).Nodup):vis.length<=es.length:=by
 classical
 have hv:vis.Nodup:=Jd h.nd;have he:(es.filter λe=>decide (e∈vis)).Nodup:=(Jd hn).filter _;have hp:vis.Perm (es.filter λe=>decide (e∈vis)):=(Fz hv he).2 λe=>by rw[Co];simp only[Bj];exact⟨λhm=>⟨h.sub e hm,hm⟩,λhm=>hm.2⟩
 rw[hp.length_eq];exact C7 ..
theorem Came.all(h:Came es vis seen)(hn:(es.map (·.2.2)).Nodup)(ha: ∀e,e∈es->e.2.2∈seen.toList):(vis.map (·.1)).Perm (es.map (·.1)):=by refine List.Perm.map _ ((Fz (Jd h.nd) (Jd hn)).2 λe=>⟨h.sub e,λhe=>?_⟩);have h1:=ha e he;rw[h.eq] at h1;obtain⟨e',u9,h2⟩:=Au.1 h1;have h3:=N7 hn (h.sub e' u9) he h2;rw[<-h3];exact u9
theorem Came.push{e:Lx}(h:Came es vis seen)(he:e∈es)(hs:e.2.2∉seen.toList):Came es (vis++[e]) (seen.push e.2.2):=by
 refine⟨by rw[Ln,h.eq,Aq];rfl,?_,λx hx=>?_⟩
 ·rw[Aq,By];refine⟨h.nd,by simp,λa ha b hb yi=>hs ?_⟩;have:b=e.2.2:=by simpa using hb
  rw[h.eq,<-this,<-yi];exact ha
 ·rcases AH.1 hx with hx|hx
  ·exact h.sub x hx
  ·rw[AE.1 hx];exact he
theorem TH(mb:Option Nat)(l:Ad):Fn prog 233 [.map mb] l λv l'=> ∃B,v= .func (.func 306) #[] #[.pointer (some ⟨B,0,none⟩)]/\l'=(B,.cells #[.map mb] 403 (0,0))::l:=by refine AO func233 ntmps233 λE=>?_;refine gz ?_;refine AR (Ex rfl rfl) ?_;rintro _ _ ⟨B,hB,rfl,rfl⟩;refine gz ?_;exact Bb .refl ⟨B,rfl,rfl⟩
theorem zKI(h:p:=by
 obtain⟨Xr,UL⟩:=Ca _ _ G hG h0;refine gz ?_;refine AR (dd rfl UL) ?_;rintro _ _ ⟨b0,hb0,rfl,rfl⟩;refine gz ?_;refine CF (α:=Array Nat×List Lx×Ad) (λx=>[(0,.func (.yield q) #[] #[]),(1,.pointer (some ⟨B,0,none⟩)),(5,.pointer (some ⟨b0,0,none⟩))]) (λx=>(b0,.mapIter (some m) clock x.1 clock)::(x.2.2++G)) (λx=>I (x.2.1.map (·.1)) x.2.2/\Came es x.2.1 x.1) (λx=>es.length-x.2.1.length) (#[],[],l) ⟨h0,rfl,by simp,by simp⟩ ⟨rfl,rfl,rfl,trivial⟩ .refl ?_;clear Xr UL;rintro⟨seen,vis,l⟩ ⟨hI,hC⟩;simp only at hI hC⊢;obtain⟨Xr,UL⟩:=Ca _ _ G hG hI;refine gz ?_;refine AR (ko rfl UL (λe he=>Mi e he) (Bd _)) ?_;rintro _ _ (⟨rfl,rfl,Gv⟩|⟨e,he,uX,rfl,rfl⟩)
 ·refine gz ?_;exact Bb (.drop .refl) ⟨l,rfl,.inl ⟨_,hC.all KP Gv,hI⟩⟩
 ·have hC2:=hC.push he uX;have Lf:=hC2.len KP;have hy:=hY (vis.map (·.1)) e.1 l ((b0,.mapIter (some m) clock (seen.push e.2.2) clock)::G) (λc hc=> .tail _ (hG c hc)) hI (by simp at Lf⊢;exact Lf);refine gz ?_;refine Be (de rfl (.head _) (.tail _ UL) he KP) ?_;refine gz ?_;refine Bq (Keep.of_perm AI.symm) ?_;refine AR (C0 rfl rfl hy) ?_;rintro v l' ⟨l1,rfl,⟨rfl,Lg⟩|⟨rfl,hx⟩⟩
  ·refine gz ?_;exact BR (seen.push e.2.2,vis++[e],l1) ⟨by simpa using Lg,hC2⟩ (by simp at Lf⊢;omega) ⟨rfl,rfl,rfl,trivial⟩ (.of_perm AI)
  ·refine gz ?_;exact BD [] rfl (Keep.trans (.of_perm AI) (.drop .refl)) (by exact Ba) ⟨l1,rfl,.inr ⟨_,by simp at Lf⊢;exact Lf,hx⟩⟩):p:=h
theorem Ra(B m clock:Nat)(es:List Lx)(KP:(es.map (·.2.2)).Nodup)(Mi: ∀e,e∈es->e.2.2<clock):
 FA prog 306 [.pointer (some ⟨B,0,none⟩)] (λk:Int=>[.int .i64 k]) (λxs=>xs.Perm (es.map (·.1))) (λpre=>pre.length<=es.length)
  (λ_ l=>(B,.cells #[.map (some m)] 403 (0,0))∈l/\(m,FU .i64 es clock)∈l):=by
 refine⟨λq I Ix G0 Ca hY l G hG h0=>?_⟩;refine AO func306 ntmps306 λE=>?_;exact zKI
theorem av(gf:Nat)[EN prog gf](lb:Ap)(S:A4->Prop)(n:Nat)(Need:A4->Ad->Prop)(hit:FA prog gf lb (λk:Int=>[.int .i64 k]) S (λpre=>pre.length<=n) Need)(hn:n<=900000)(l:Ad)(Ca: ∀pre l2,(∀c,c∈l->c∈l2)->Need pre l2):
 Fn prog 307 [.slice none 0 0,.func (.func gf) #[] lb.toArray] l λv l'=> ∃xs cs,S xs/\OwnSl 3 1 v xs.length (xs.map MV) cs/\l'=cs++l:=by
 refine AO func307 ntmps307 λE=>?_;refine gz ?_;refine AR (Ex rfl rfl) ?_;rintro _ _ ⟨b2,Wf,rfl,rfl⟩;refine gz ?_;refine Df (α:=Int) (ps:=[7]) (lb:=lb) rfl hit (λ_=>rfl) rfl
  (λpre l=> ∃v cs,OwnSl 3 1 v pre.length (pre.map MV) cs/\pre.length<=n/\l=[(b2,.cells #[v] 40 (0,0))]++cs)
  (λc pre l=>False)
  _ l (λpre l2 X2 hX h=>by obtain⟨v,cs,_,_,rfl⟩:=h;exact Ca _ _ λc hc=>Aa _ (hX _ hc)) (by exact AU) ⟨_,[],OwnSl.nil _ _,Bm _,rfl⟩ ?_ ?_ ?_
 ·rintro E r0 FS pre y l' T ⟨fn,tmps,Dd,rfl⟩ QY ⟨v,cs',ET,Xo,rfl⟩ DB;simp only[DU,Ae,Ag];refine gz ?_;refine CH (.there (FH _ _ _ _ _)) ?_;generalize hX1:(r0,Obj.loop (DN fn tmps _ _ _ Dd .busy none))::T=X1;refine gz ?_;refine AR (KU rfl rfl) ?_;rintro _ _ ⟨bl,_,rfl,rfl⟩;refine AR (Ht (k:=1) (X:=[(b2,.cells #[v] 40 (0,0))]) (cs:=cs') (F:=X1) (xs:=pre.map MV) (n:=pre.length) (zs:=[.int .i64 0]) (ws:=[MV y]) rfl rfl rfl ET rfl (by simp[Value.oneCell',MV]) Af AZ) ?_;rintro v' _ ⟨c2,FK,rfl⟩;have Ju:v'.oneCell'=true:=FK.one;simp only[Ae,Ag];refine gz ?_;rw[<-hX1];refine Cg _ (.refl) ⟨v',c2,?_,DB,rfl⟩;rw[Ah,Aq];exact FK
 ·rintro Dd xs l' hS ⟨v,cs',ET,Xo,rfl⟩;have Ju:v.oneCell'=true:=ET.one;simp only[Ae,Ag];refine gz ?_;refine AV [Dd] (cs'++l) rfl (l':=cs'++l) (by exact AU) (by exact Ba) .refl ?_;exact⟨xs,cs',hS,ET,rfl⟩
 ·rintro Dd c pre l' DB h;exact h.elim
theorem Yx(gf:Nat)[EN prog gf](lb:Ap)(S:A4->Prop)(n:Nat)(Need:A4->Ad->Prop)(hit:FA prog gf lb (λk:Int=>[.int .i64 k]) S (λpre=>pre.length<=n) Need)(hn:n<=900000)(l:Ad)(Ca: ∀pre l2,(∀c,c∈l->c∈l2)->Need pre l2):
 Fn prog 235 [.func (.func gf) #[] lb.toArray] l λv l'=> ∃xs cs,S xs/\OwnSl 3 1 v xs.length (xs.map MV) cs/\l'=cs++l:=by
 refine AO func235 ntmps235 λE=>?_;refine gz ?_;refine AR (AA rfl rfl (av gf lb S n Need hit hn l Ca)) ?_;rintro v _ ⟨xs,cs,hS,ho,rfl⟩;have Ju:v.oneCell'=true:=ho.one;refine gz ?_;refine Bb .refl ?_;exact⟨xs,cs,hS,ho,rfl⟩
theorem TI(gf:Nat)[EN prog gf](lb:Ap)(S:A4->Prop)(n:Nat)(Need:A4->Ad->Prop)(hit:FA prog gf lb (λk:Int=>[.int .i64 k]) S (λpre=>pre.length<=n) Need)(hn:n<=900000)(hS: ∀xs,S xs->xs.length<=n)(l:Ad)(Ca: ∀pre l2,(∀c,c∈l->c∈l2)->Need pre l2):
 Fn prog 174 [.func (.func gf) #[] lb.toArray] l λv l'=> ∃xs cs,S xs/\OwnSl 3 1 v (UX xs).length ((UX xs).map MV) cs/\l'=cs++l:=by
 refine AO func174 ntmps174 λE=>?_;refine gz ?_;refine AR (AA rfl rfl (Yx gf lb S n Need hit hn l Ca)) ?_;rintro v _ ⟨xs,cs,hSx,ho,rfl⟩;have Ju:v.oneCell'=true:=ho.one;have hl:=hS xs hSx;refine gz ?_;refine AR (AA rfl rfl (Yw v xs cs l ho Af)) ?_;rintro _ _ ⟨rfl,cs',cJ,rfl⟩;refine gz ?_;refine Bb .refl ?_;exact⟨xs,cs',hSx,cJ,rfl⟩
theorem Oh(B m clock:Nat)(es:List Lx)(KP:(es.map (·.2.2)).Nodup)(Mi: ∀e,e∈es->e.2.2<clock)(hn:es.length<=900000)(l:Ad)(h1:(B,Obj.cells #[.map (some m)] 403 (0,0))∈l)(h2:(m,FU .i64 es clock)∈l):
 Fn prog 174 [.func (.func 306) #[] #[.pointer (some ⟨B,0,none⟩)]] l λv l'=> ∃xs cs,xs.Perm (es.map (·.1))/\OwnSl 3 1 v (UX xs).length ((UX xs).map MV) cs/\l'=cs++l:=
 TI 306 [.pointer (some ⟨B,0,none⟩)] _ es.length _ (Ra B m clock es KP Mi) hn (λxs h=>by rw[h.length_eq];simp) l λ_ l2 hl=>⟨hl _ h1,hl _ h2⟩
theorem MB.sorted{key:α->Int}{val:α->Value}{L:List α}{clock:Nat}(h:MB key val L es clock)(hx:xs.Perm (es.map (·.1))):UX xs=L.map key:=by
 have h1:(UX xs).Perm (L.map key):=(List.mergeSort_perm ..).trans (hx.trans h.keys);have h2:(UX xs).Pairwise (λx y=>x<=y):=by have:=List.pairwise_mergeSort (le:=λx y:Int=>decide (x<=y)) (λa b c h1 h2=>by simp at*;omega) (λa b=>by simp;omega) xs;exact this.imp λh=>by simpa using h
 have h3:(L.map key).Pairwise (λx y=>x<=y):=Cu.2 (h.asc.imp λUJ=>by omega);exact h1.eq_of_pairwise (λa b _ _ h1 h2=>by omega) h2 h3
theorem OwnSl.ints{e:Nat}(h:OwnSl e 1 v xs.length (xs.map MV) cs)(hs: ∀c,c∈cs->c∈l): ∃p cap,v= .slice p xs.length cap/\(0<xs.length-> ∃b cl t fz,p=some ⟨b,0,none⟩/\(b,Obj.cells cl t fz)∈l/\ ∀i x,xs[i]?=some x->cl[i*1]?=some (.int .i64 x)):=by
 rcases h.2 with⟨rfl,h0,rfl⟩|⟨b,cap,sp,rfl,rfl,_⟩
 ·exact⟨none,0,by rw[h0],λh=>by omega⟩
 ·refine⟨_,cap,rfl,λh0=>⟨b,_,e,(0,0),rfl,hs _ Ak,λi x hx=>?_⟩⟩;have Dc:=(Ay.1 hx).1;rw[Dq,AF,AB (by simpa using Dc),A5,hx];rfl
def Hz(a:Int)(C:List CapT):Nat->List RW
 |0=>[]
 |k+1=>Hz a C k++(match C[k]? with
  |some c=>if Mb c CI=true then[] else[((a,((k:Nat):Int)),c)]
  |none=>[])
def DY(D:SD):List RW:=D.flatMap λx=>Hz x.1 x.2 x.2.length
theorem Yy(hc:C[k]?=some c)(h:Mb c CI=false):Hz a C (k+1)=Hz a C k++[((a,((k:Nat):Int)),c)]:=by show Hz a C k++_=_;rw[hc];simp only;rw[h];rfl
theorem lk(hc:C[k]?=some c)(h:Mb c CI=true):Hz a C (k+1)=Hz a C k:=by show Hz a C k++_=_;rw[hc];simp only;rw[h];simp
theorem TJ(a:Int)(C:List CapT)(k:Nat): ∀m,Hz a C k<+:Hz a C (k+m)
 |0=>GR
 |m+1=>(TJ a C k m).trans (GH _ _)
theorem TK(a:Int)(C:List CapT): ∀k,(Hz a C k).length<=k
 |0=>Bd _
 |k+1=>by
  show(Hz a C k++_).length<=k+1;have:=TK a C k;rw[Ah];have h2:(match C[k]? with
   |some c=>if Mb c CI=true then[] else[((a,((k:Nat):Int)),c)]
   |none=>[]:List RW).length<=1:=by
   split
   ·split<;>simp
   ·simp
  omega
theorem Rb(A B:SD):DY (A++B)=DY A++DY B:=Ed
theorem gC{i:Nat}{x:Int×List CapT}(hx:D[i]?=some x)(hk:k<=x.2.length):DY (D.take i)++Hz x.1 x.2 k<+:DY D:=by
 have hi:=(Ay.1 hx).1;have h1:=Cj i D;rw[Dh hi] at h1;have h2:D[i]=x:=by rw[Al hi] at hx;exact AX hx
 rw[h2] at h1
 conv=>rhs;rw[<-h1]
 rw[Rb];refine(List.prefix_append_right_inj _).2 ?_;show _<+:Hz x.1 x.2 x.2.length++DY (D.drop (i+1));have:=TJ x.1 x.2 k (x.2.length-k);rw[show k+(x.2.length-k)=x.2.length by omega] at this;exact this.trans (GH _ _)
theorem VI(h: ∀x,x∈D->x.2.length<=16):(DY D).length<=D.length*16:=by
 induction D with
 |nil=>simp[DY]
 |cons x r ih=>
  rw[show x::r=[x]++r from rfl,Rb,Ah];have h1:=ih λy hy=>h y (An _ hy);have h2:=TK x.1 x.2 x.2.length;have h3:=h x Ak;have h4:(DY [x]).length<=16:=by simp only[DY,Cw,List.flatMap_nil,Bi];omega
  rw[Ah];show _<=(1+r.length)*16;omega
theorem IsS.sz{b:Nat}{lq:Ad}(h:IsS b D lq): ∀x,x∈D->0<x.2.length/\x.2.length<=16:=by obtain⟨S,m,es,clock,rfl,hS⟩:=h;intro x hx;obtain⟨nd,hn,rfl⟩:=Au.1 hx;exact hS.sz nd hn
set_option maxRecDepth 20000 in
theorem gD(B b:Nat)(D:SD)(lq:Ad)(hq:IsS b D lq)(hn:D.length<=50000):
 FA prog 232 [.pointer (some ⟨B,0,none⟩)] (λh:RW=>[hdV h]) (λxs=>xs=DY D) (λpre=>pre<+:DY D)
  (λ_ l=>xB B (.pointer (some ⟨b,0,none⟩))∈l/\ ∀c,c∈lq->c∈l):=by
 refine⟨λr I Ix G0 Ca hY l G hG h0=>?_⟩;obtain⟨S,m,es,clock,rfl,hS⟩:=hq;obtain⟨n1,n2⟩:=Ca _ _ G hG h0;have n3:=n2 _ hS.m1;have n4:=n2 _ hS.m2;have uO:S.length<=50000:=by simpa using hn
 refine AO func232 ntmps232 λE=>?_;refine gz ?_;refine AR (AA rfl rfl (TH (some m) _)) ?_;rintro _ _ ⟨B',rfl,rfl⟩;refine gz ?_;refine AR (AA rfl rfl (Oh B' m clock es hS.mb.ok.stamps hS.mb.ok.below (by rw[hS.mb.len];omega) _ (.head _) (.tail _ n4))) ?_;rintro v _ ⟨xs,cs,QX,ho,rfl⟩;rw[hS.mb.sorted QX] at ho;have Ju:v.oneCell'=true:=ho.one;obtain⟨p,cap,rfl,hR⟩:=ho.ints (l:=cs) λc hc=>hc;have Ei:(S.map NdS.id).length=S.length:=A7 ..;refine gz ?_;refine CF (α:=Nat×Ad) (λx=>[(0,.func (.yield r) #[] #[]),(1,.pointer (some ⟨B,0,none⟩)),(14,.slice p (S.map NdS.id).length cap),(15,.int .i64 (S.map NdS.id).length),(16,.int .i64 x.1)]) (λx=>x.2++(cs++G)) (λx=>x.1<=S.length/\I (DY ((S.map NdS.d).take x.1)) x.2) (λx=>S.length-x.1) (0,l) ⟨Bm _,h0⟩ ⟨rfl,rfl,rfl,rfl,rfl,trivial⟩ ?_ ?_
 ·exact Keep.trans (Keep.in_mid cs [_] (l++G)) (.drop (Keep.in_mid cs l G))
 clear n1 n2 n3 n4;rintro⟨i,l⟩ ⟨hi,hI⟩;simp only at hi hI⊢;obtain⟨n1,n2⟩:=Ca _ _ (cs++G) (λc hc=>Aa _ (hG c hc)) hI;have n3:=n2 _ hS.m1;have n4:=n2 _ hS.m2;by_cases Dc:i<S.length
 ·obtain⟨b9,cl,t9,fz,rfl,pL,Nu⟩:=hR Af;have ji:(b9,Obj.cells cl t9 fz)∈l++(cs++G):=Aa _ (Ai _ pL);obtain⟨nd,KP⟩: ∃nd,S[i]?=some nd:=⟨_,Al Dc⟩
  have NN:=A6 KP;have hc:=Nu i nd.id (by rw[A5,KP];rfl);have ZI:(Li nd.id es).getD (.slice none 0 0)=nd.val:=by rw[hS.look,hS.mb.at_ NN]
  have hdi:(S.map NdS.d)[i]?=some nd.d:=by rw[A5,KP];rfl
  have UI:=hS.sz nd NN;refine gz ?_;rw[ZI];refine gz ?_;refine CF (α:=Nat×Ad) (λx=>[(0,.func (.yield r) #[] #[]),(1,.pointer (some ⟨B,0,none⟩)),(4,.int .i64 nd.id),(14,.slice (some ⟨b9,0,none⟩) (S.map NdS.id).length cap),(15,.int .i64 (S.map NdS.id).length),(16,.int .i64 i),(25,nd.val),(26,.int .i64 nd.C.length),(27,.int .i64 x.1)]) (λx=>x.2++(cs++G)) (λx=>x.1<=nd.C.length/\I (DY ((S.map NdS.d).take i)++Hz nd.id nd.C x.1) x.2) (λx=>nd.C.length-x.1) (0,l) ⟨Bm _,by show I (_++[]) l;rw[Bi];exact hI⟩ ⟨rfl,rfl,rfl,rfl,rfl,rfl,rfl,rfl,rfl,trivial⟩ .refl ?_;clear n1 n2 n3 n4 hI ji;rintro⟨k,l⟩ ⟨hk,hI⟩;simp only at hk hI⊢;obtain⟨n1,n2⟩:=Ca _ _ (cs++G) (λc hc=>Aa _ (hG c hc)) hI;have u6:=n2 _ (hS.m3 NN);by_cases Xn:k<nd.C.length
  ·obtain⟨c,hcc⟩: ∃c,nd.C[k]?=some c:=⟨_,Al Xn⟩
   obtain⟨g1,g2⟩:=WF hcc;refine gz ?_;refine Be (Dt (n:=8) rfl u6 g2 g1) ?_;refine Ih λb6=>?_;refine Be (Sh (ys:=B9 CI) rfl rfl (EH c) (EH _)) ?_;rw[show BZ (B9 c) (B9 CI)=Mb c CI from rfl];cases he:Mb c CI with
   |true=>refine gz ?_;exact BR (k+1,l) ⟨by simp only;omega,by simp only;rw[lk hcc he];exact hI⟩ (by simp only;omega) ⟨rfl,rfl,rfl,rfl,rfl,rfl,rfl,rfl,rfl,trivial⟩ (.drop .refl)
   |false=>
    have Gg:(DY ((S.map NdS.d).take i)++Hz nd.id nd.C k)++[((nd.id,((k:Nat):Int)),c)]<+:DY (S.map NdS.d):=by rw[Am,<-Yy hcc he];exact gC hdi (by show k+1<=nd.C.length;omega)
    have hy:=hY _ ((nd.id,((k:Nat):Int)),c) l (Bv b6 c::(cs++G)) (λx hx=> .tail _ (Aa _ (hG x hx))) hI Gg;refine gz ?_;refine Bq (Keep.of_perm (l':=l++(Bv b6 c::(cs++G))) AI.symm) ?_;refine Jr (C0 rfl rfl hy) rfl rfl rfl ?_;rintro w l' ⟨l1,rfl,⟨rfl,Lg⟩|⟨rfl,hx⟩⟩
    ·refine gz ?_;exact BR (k+1,l1) ⟨by simp only;omega,by simp only;rw[Yy hcc he,<-Am];exact Lg⟩ (by simp only;omega) ⟨rfl,rfl,rfl,rfl,rfl,rfl,rfl,rfl,rfl,trivial⟩ (Keep.trans (.of_perm AI) (.drop .refl))
    ·refine gz ?_;exact Bb (Keep.trans (.of_perm AI) (.drop (Keep.trans (Keep.in_mid l1 cs G) (Keep.dropL cs .refl)))) ⟨l1,rfl,.inr ⟨_,Gg,hx⟩⟩
  ·obtain rfl:k=nd.C.length:=by omega
   refine gz ?_;refine BR (i+1,l) ⟨by simp only;omega,?_⟩ (by simp only;omega) ⟨rfl,rfl,rfl,rfl,rfl,trivial⟩ .refl;simp only;rw[Cf,hdi,Rb];show I (_++DY [nd.d]) l;rw[show DY [nd.d]=Hz nd.id nd.C nd.C.length by simp[DY]];exact hI
 ·obtain rfl:i=S.length:=by omega
  rw[show(S.map NdS.d).take S.length=S.map NdS.d from Bz (by simp)] at hI;refine gz ?_;exact Bb (Keep.trans (Keep.in_mid l cs G) (Keep.dropL cs .refl)) ⟨l,rfl,.inl ⟨_,rfl,hI⟩⟩
theorem all_any(b:Nat)(D:SD)(lq:Ad)(hq:IsS b D lq)(hn:D.length<=50000)(l:Ad)(CE: ∀c,c∈lq->c∈l):
 Fn prog 115 [.pointer (some ⟨b,0,none⟩)] l λv l'=> ∃cs,OwnSl 131 10 v (DY D).length (Og (DY D)) cs/\l'=cs++l:=by
 have Ei:=VI λx hx=>(hq.sz x hx).2;refine AO func115 ntmps115 λE=>?_;refine gz ?_;refine AR (AA rfl rfl (li _ rfl _)) ?_;rintro _ _ ⟨B,rfl,rfl⟩;refine gz ?_;refine AR (AA rfl rfl (WG 232 [.pointer (some ⟨B,0,none⟩)] _ _ _ (gD B b D lq hq hn) (DY D).length (λpre h=>h.length_le) Af _ λ_ l2 hl=>⟨hl _ (.head _),λc hc=>hl _ (.tail _ (CE c hc))⟩)) ?_;rintro v _ ⟨_,cs,rfl,ho,rfl⟩;have Ju:v.oneCell'=true:=ho.one;refine gz ?_;refine Bb (l':=cs++l) (Keep.trans (.of_perm AI) (.drop .refl)) ?_;exact⟨cs,ho,rfl⟩
def aw(l:Ad)(a:Option Addr)(n k:Nat)(rows:List (Ap)):Prop:=
 0<n-> ∃bB off cs t fz,a=some ⟨bB,off,none⟩/\(bB,Obj.cells cs t fz)∈l/\ ∀i row,rows[i]?=some row->off+i*k+k<=cs.size/\cs.extract (off+i*k) (off+i*k+k)=toArray row/\ ∀j v,row[j]?=some v->cs[off+i*k+j]?=some v
theorem qM{W:World}{a:Option Addr}{n cap:Nat}{rows:List (Ap)}{ks:List (Option IntKind)}(h:Wk ks W a n cap rows)(hk:0<ks.length):aw (P9 W) a n ks.length rows:=by
 intro h0;obtain⟨b,off,rfl,hb,XE⟩:=h.at_ h0;have cK: ∃r0,rows[0]?=some r0:=⟨_,Al (by rw[h.size];exact h0)⟩
 obtain⟨r0,cK⟩:=cK;have c0:=XE 0 0 h0 hk;rw[cK,Di] at c0;have pB:=(h.all r0 (A6 cK)).len;have e0:r0[0]?=some (r0[0]'Af):=Al Af;unfold World.cell? at c0
 split at c0
 ·rename_i cs t fz fG;have zh:W.heap[b]?=some (.cells cs t fz):=fG;refine⟨b,off,cs,t,fz,rfl,(Q6 W b _).2 zh,λi row Mk=>?_⟩;have hi:i<n:=by have:=(Ay.1 Mk).1;rw[h.size] at this;exact this
  have hl:=(h.all row (A6 Mk)).len;have hc: ∀j,j<ks.length->cs[off+i*ks.length+j]?=row[j]?:=λj hj=>by have:=XE i j hi hj;rw[XL zh,Mk,Di] at this;exact this
  have tj:=hc (ks.length-1) Af;rw[Al (show ks.length-1<row.length by omega)] at tj;have Dc:=(BF.1 tj).1;refine⟨Af,?_,λj v hv=>?_⟩
  ·apply DH;intro j;rw[EM];by_cases hj:j<ks.length
   ·rw[Ac Af,hc j hj,AF]
   ·rw[Ab Af,AF,Bf Af]
  ·have hj:=(Ay.1 hv).1;rw[hc j Af];exact hv
 ·rw[e0] at c0;cases c0
theorem ax{key:α->Int}{L:List α}(h:L.Pairwise λx y=>key x<key y){t:α}(ht:t∈L):D6 key L (key t)=some t:=by
 have KP:(L.map key).Nodup:=Cu.2 (h.imp λUJ=>by omega);cases hf:D6 key L (key t) with
 |none=>exact absurd rfl (Gj.1 hf t ht)
 |some u=>obtain⟨h1,h2⟩:=Fg hf;rw[N7 KP h1 ht h2]
theorem Oi(D:SD)(s:Ck)(c:CapT)(a:Int):D6 Prod.fst (Gn D s c) a=(D6 Prod.fst D a).map λx=>if x.1=s.1 then(x.1,x.2.set s.2.toNat c) else x:=by
 unfold D6 Gn;rw[List.find?_map];have e:((λt:Int×List CapT=>decide (t.1=a))∘λx=>if x.1=s.1 then(x.1,x.2.set s.2.toNat c) else x)=λt=>decide (t.1=a):=by
  funext x;show decide ((if x.1=s.1 then(x.1,x.2.set s.2.toNat c) else x).1=a)=decide (x.1=a)
  split<;>rfl
 rw[e]
theorem ll(D:SD)(s:Ck)(c:CapT)(a:Int):Jw (Gn D s c) a=Jw D a:=by
 unfold Jw;rw[Oi];cases D6 Prod.fst D a with
 |none=>rfl
 |some x=>
  simp only[BQ]
  split
  ·simp
  ·rfl
theorem Oj(D:SD)(s:Ck)(c:CapT)(s':Ck):FJ (Gn D s c) s'=FJ D s':=by unfold FJ;rw[ll]
theorem wj(h:FJ D s=true):D5 (Gn D s c) s=c:=by
 unfold FJ Jw at h;rw[AW,Bj,Bj] at h;unfold D5;rw[Oi];cases hf:D6 Prod.fst D s.1 with
 |none=>rw[hf] at h;simp at h;omega
 |some x=>rw[hf] at h;simp only at h;simp only[BQ];rw[Ac (Fg hf).2];show(x.2.set s.2.toNat c).getD s.2.toNat CI=c;rw[Bk,Ea Af];rfl
theorem gE{s':Ck}(h0:0<=s.2)(h0':0<=s'.2)(h:s'≠s):D5 (Gn D s c) s'=D5 D s':=by
 unfold D5;rw[Oi];cases hf:D6 Prod.fst D s'.1 with
 |none=>rfl
 |some x=>
  simp only[BQ]
  split
  ·rename_i hx;have Xs:=(Fg hf).2;have G5:s'.2≠s.2:=λe=>h (JV (by rw[<-Xs,hx]) e);show(x.2.set s.2.toNat c).getD s'.2.toNat CI=x.2.getD s'.2.toNat CI;rw[Bk,Bk,F8 Af]
  ·rfl
theorem OwnSl.hds{L:List RW}(h:OwnSl 131 10 v L.length (Og L) cs)(hs: ∀c,c∈cs->c∈l):RowSl l v 10 RX L:=OwnSl.rowSl (enc:=RX) h (λ_=>rfl) hs
theorem TM(s:Ck):AllK [some .i64,some .i64] (Ct s):=⟨_,_,rfl,⟨_,rfl⟩,_,_,rfl,⟨_,rfl⟩,rfl⟩
theorem Aay{x y:Ck}(h:x≠y):BZ (Ct x) (Ct y)=false:=by
 cases h2:BZ (Ct x) (Ct y) with
 |false=>rfl
 |true=>have:=(GD (TM x) (TM y)).1 h2;simp only[Ct,CZ,Value.int.injEq,Md,NK] at this;exact absurd (JV this.1 this.2) h
section
variable{key:α->Int}
end
theorem Sm{key:α->Int}{L:List α}{t:α}(h:L.Pairwise λx y=>key x<key y)(hn:D6 key L (key t)=none):(Mt key L t).Pairwise λx y=>key x<key y:=by
 obtain⟨W,Z,e1,e2,hL,Gv,XF⟩:=VE h (Gj.1 hn);have hi:Mt key L t=W++t::Z:=by unfold Mt;rw[e1,e2]
 rw[hL,Bp] at h;rw[hi];refine Bp.2 ⟨h.1,Cd.2 ⟨λx hx=>XF x hx,h.2.1⟩,λx hx y hy=>?_⟩;have h1:=Gv x hx;rcases At.1 hy with rfl|hy
 ·exact h1
 ·have:=XF y hy;omega
theorem lr{xs:Array Value}{o j:Nat}{ys:Ap}(h:xs.extract o (o+k)=toArray ys)(Lr:o+k<=xs.size)(hj:j<k)(hv:ys[j]?=some v):xs[o+j]?=some v:=by
 have h2:(toArray ys)[j]?=ys[j]?:=by simp
 rw[<-hv,<-h2,<-h,EM,Ac Af]
theorem Aaz(h:p:=by
 by_cases hl:xs.length=ys.length
 ·refine gz ?_;refine CF (α:=Nat) (λk=>[(0,.slice a xs.length ca),(1,.slice a' ys.length ca'),(5,.int .i64 k)]) (λk=>l) (λk=>k<=xs.length/\ ∀j,j<k->xs[j]?=ys[j]?) (λk=>xs.length-k) 0 ⟨Bm _,λj h=>by omega⟩ ⟨rfl,rfl,rfl,trivial⟩ .refl ?_;rintro k ⟨Le,hj⟩;by_cases Dc:k<xs.length
  ·obtain⟨b,off,cs,t,fz,rfl,hm,hc⟩:=h1 Af;obtain⟨b',off',cs',t',fz',rfl,ji,hc'⟩:=h2 Af;obtain⟨x,e1⟩: ∃x,xs[k]?=some x:=⟨_,Al Dc⟩
   obtain⟨y,e2⟩: ∃y,ys[k]?=some y:=⟨_,Al (show k<ys.length by omega)⟩
   obtain⟨g1,g2⟩:=hc k x e1;obtain⟨g1',g2'⟩:=hc' k y e2;refine gz ?_;refine Cn [] 9 _ ?_ (hR:=(λ_ h=>h));refine pz ?_;apply EF
   ·exact Dt rfl hm g1 g2
   ·rfl
   ·rfl
   ·rfl
   refine pz ?_;apply EF
   ·exact Dt rfl ji g1' g2'
   ·rfl
   ·rfl
   ·rfl
   refine pz ?_;apply EF
   ·exact Sh rfl rfl (hk x) (hk y)
   ·rfl
   ·rfl
   ·rfl
   by_cases UJ:x=y
   ·rw[show(!BZ (enc x) (enc y))=false by rw[UJ,GK (hk y)];rfl];refine pz ?_;refine gz ?_;exact BR (k+1) ⟨Af,λj jF=>by
     by_cases e:j=k
     ·subst e;rw[e1,e2,UJ]
     ·exact hj j Af⟩ Af ⟨rfl,rfl,rfl,trivial⟩ .refl
   ·rw[show(!BZ (enc x) (enc y))=true by
     cases h:BZ (enc x) (enc y) with
     |false=>rfl
     |true=>exact absurd (NO _ _ ((GD (hk x) (hk y)).1 h)) UJ]
    refine pz ?_;refine gz ?_;refine Bb .refl ⟨?_,rfl⟩;rw[show decide (xs=ys)=false from Ax λe=>by subst e;rw[e1] at e2;exact UJ (by cases e2;rfl)];rfl
  ·obtain rfl:k=xs.length:=by omega
   refine gz ?_;refine Bb .refl ⟨?_,rfl⟩;rw[show decide (xs=ys)=true from Av (Dl λj=>by
    by_cases h:j<xs.length
    ·exact hj j h
    ·rw[Bf Af,Bf Af])];rfl
 ·refine gz ?_;refine Bb .refl ⟨?_,rfl⟩;rw[show decide (xs=ys)=false from Ax λe=>hl (by rw[e])];rfl):p:=h
theorem WA(D:SD)(x:Int×List CapT):(Mt Prod.fst D x).length=D.length+1:=(TD D x).length_eq
theorem RowSl.mono{l':Ad}{enc:α->Ap}{xs:List α}(h:RowSl l v k enc xs)(hs: ∀c,c∈l->c∈l'):RowSl l' v k enc xs:=by
 obtain⟨a,cap,h1,h2⟩:=h;exact⟨a,cap,h1,λh0=>by obtain⟨b,off,cs,t,fz,k1,k2,k3⟩:=h2 h0;exact⟨b,off,cs,t,fz,k1,hs _ k2,k3⟩⟩
end Go.Proofs.YtlifcingifodfaaGreat
