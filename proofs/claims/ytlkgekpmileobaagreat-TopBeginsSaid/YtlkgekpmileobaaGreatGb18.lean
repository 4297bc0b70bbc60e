/- Laws that the statement's proof leans on (joined out of several texts). -/
import Derived.Shelf.SortM.Plain
import Derived.Shelf.SortM.SortNone
import Derived.Test.YtlkgekpmileobaaGreatProg
import Derived.Test.YtlkgekpmileobaaGreatGb9
import Derived.Test.YtlkgekpmileobaaGreatGb8
import Derived.Test.YtlkgekpmileobaaGreatGb10
import Derived.Test.YtlkgekpmileobaaGreatGb17
import Derived.Test.YtlkgekpmileobaaGreatGb11
import Derived.Test.YtlkgekpmileobaaGreatGb16
set_option linter.unusedVariables false
set_option linter.unusedSimpArgs false
namespace Go.Proofs
open Tryz
open List(toArray)
open Go.Shelf
def Tryz.sortA_ren:Go.Shelf.Ren:=⟨λ|5=>237|8=>310|7=>309|19=>355|20=>356|10=>346|11=>347|12=>348|13=>349|14=>350|15=>351|16=>352|17=>353|18=>354|30=>378|31=>379|32=>380|33=>381|34=>382|35=>383|40=>392|n=>n,λ|23=>40|25=>3|3=>3|32=>124|22=>40|0=>0|44=>529|46=>34|4=>4|36=>523|35=>522|41=>117|5=>5|9=>9|53=>542|57=>172|63=>547|64=>368|n=>n,λ|n=>n⟩
theorem Tryz.sortA:Go.Proofs.SlLaysM.n5 prog Tryz.sortA_ren:={
 mixed:=Bv
 f5:=⟨Tryz.f237.name,by decide,func237.trans (BM some Bv)⟩
 f7:=⟨Tryz.f309.name,by decide,func309.trans (BM some Bv)⟩
 f8:=func310.trans (BM some Bv)
 f10:=⟨Tryz.f346.name,by decide,func346.trans (BM some Bv)⟩
 f11:=⟨Tryz.f347.name,by decide,func347.trans (BM some Bv)⟩
 f12:=⟨Tryz.f348.name,by decide,func348.trans (BM some Bv)⟩
 f13:=⟨Tryz.f349.name,by decide,func349.trans (BM some Bv)⟩
 f14:=⟨Tryz.f350.name,by decide,func350.trans (BM some Bv)⟩
 f15:=⟨Tryz.f351.name,by decide,func351.trans (BM some Bv)⟩
 f16:=⟨Tryz.f352.name,by decide,func352.trans (BM some Bv)⟩
 f17:=⟨Tryz.f353.name,by decide,func353.trans (BM some Bv)⟩
 f18:=⟨Tryz.f354.name,by decide,func354.trans (BM some Bv)⟩
 f19:=func355.trans (BM some Bv)
 f20:=func356.trans (BM some Bv)
 f30:=⟨Tryz.f378.name,by decide,func378.trans (BM some Bv)⟩
 f31:=func379.trans (BM some Bv)
 f32:=func380.trans (BM some Bv)
 f33:=⟨Tryz.f381.name,by decide,func381.trans (BM some Bv)⟩
 f34:=⟨Tryz.f382.name,by decide,func382.trans (BM some Bv)⟩
 f35:=⟨Tryz.f383.name,by decide,func383.trans (BM some Bv)⟩
 f40:=⟨Tryz.f392.name,by decide,func392.trans (BM some Bv)⟩
 t0:=Tryz.underlying0
 a0:=Tryz.isAgg0
 z0:=Tryz.sizeOf0
 v0:=Tryz.zeroValue0
 t3:=Tryz.underlying3
 a3:=Tryz.isAgg3
 z3:=Tryz.sizeOf3
 v3:=Tryz.zeroValue3
 t4:=Tryz.underlying4
 a4:=Tryz.isAgg4
 z4:=Tryz.sizeOf4
 v4:=Tryz.zeroValue4
 t5:=Tryz.underlying5
 a5:=Tryz.isAgg5
 z5:=Tryz.sizeOf5
 v5:=Tryz.zeroValue5
 t9:=Tryz.underlying9
 a9:=Tryz.isAgg9
 z9:=Tryz.sizeOf9
 v9:=Tryz.zeroValue9
 t22:=Tryz.underlying40
 a22:=Tryz.isAgg40
 z22:=Tryz.sizeOf40
 v22:=Tryz.zeroValue40
 t23:=Tryz.underlying40
 a23:=Tryz.isAgg40
 z23:=Tryz.sizeOf40
 v23:=Tryz.zeroValue40
 t25:=Tryz.underlying3
 a25:=Tryz.isAgg3
 z25:=Tryz.sizeOf3
 v25:=Tryz.zeroValue3
 t32:=Tryz.underlying124
 a32:=Tryz.isAgg124
 z32:=Tryz.sizeOf124
 v32:=Tryz.zeroValue124
 t35:=Tryz.underlying522
 a35:=Tryz.isAgg522
 z35:=Tryz.sizeOf522
 v35:=Tryz.zeroValue522
 t36:=Tryz.underlying523
 a36:=Tryz.isAgg523
 z36:=Tryz.sizeOf523
 v36:=Tryz.zeroValue523
 t41:=Tryz.underlying117
 a41:=Tryz.isAgg117
 z41:=Tryz.sizeOf117
 v41:=Tryz.zeroValue117
 t44:=Tryz.underlying529
 a44:=Tryz.isAgg529
 z44:=Tryz.sizeOf529
 v44:=Tryz.zeroValue529
 t46:=Tryz.underlying34
 a46:=Tryz.isAgg34
 z46:=Tryz.sizeOf34
 v46:=Tryz.zeroValue34
 t53:=Tryz.underlying542
 a53:=Tryz.isAgg542
 z53:=Tryz.sizeOf542
 v53:=Tryz.zeroValue542
 t57:=Tryz.underlying172
 a57:=Tryz.isAgg172
 z57:=Tryz.sizeOf172
 v57:=Tryz.zeroValue172
 t63:=Tryz.underlying547
 a63:=Tryz.isAgg547
 z63:=Tryz.sizeOf547
 v63:=Tryz.zeroValue547
 t64:=Tryz.underlying368
 a64:=Tryz.isAgg368
 z64:=Tryz.sizeOf368
 v64:=Tryz.zeroValue368}
end Go.Proofs
namespace Go.Proofs.YtlkgekpmileobaaGreat
open Tryz
open List(toArray)
open Go.RowKit Go.Sort
def Lu(x:Int):Value:= .int .i64 x
abbrev SE(zs:List Int):List Int:=zs.mergeSort λx y=>decide (x<=y)
theorem eF(b cap:Nat)(zs:List Int)(sp:List Value)(hn:zs.length<=1000000)(l:List Ab):
 Fn prog 237 [.slice (some ⟨b,0,none⟩) zs.length cap] ((b,.cells (toArray (zs.map Lu++sp)) 3 (0,0))::l) λv l'=>v= .tuple #[]/\l'=(b,.cells (toArray ((SE zs).map Lu++sp)) 3 (0,0))::l:=by
 refine⟨λE W hs=>?_⟩;have hH:Holds (Value.int .i64) W b 0 zs.toArray:=λj hj=>by
  simp only[Bm] at hj;refine⟨?_,?_⟩
  ·rw[hs.cell (.head _),Bw,AE,AC (by simpa using hj),A0,Am hj];simp[hj,Lu]
  ·rw[hs.frz (.head _)];simp
 have h:=AnyM.slices_Sort_int Tryz.sortA b 0 cap zs W hH (hs.lt (.head _)) Af;refine(h:Calls prog 237 _ W _).mono ?_;rintro e w' ⟨rfl,n,os,rfl⟩;refine⟨_,_,rfl,⟨rfl,rfl⟩,?_⟩;refine⟨hs.os,hs.tape,hs.output,by simpa using hs.nodup,λc hc=>?_⟩;have hb:=hs.lt (.head _);simp only at hb;have hget: ∀k,k<W.heap.size->(Go.Sort.grow (putRow (Value.int .i64) (Go.Sort.ahead W n) b 0 (SE zs).toArray) os).heap[k]?=(W.heap.modify b (onCells (putCells (Value.int .i64) 0 (SE zs).toArray)))[k]?:=λk hk=>by show(((Go.Sort.ahead W n).heap.modify b _)++os)[k]?=_;rw[Array.getElem?_append_left (by simpa using hk)];rfl
 rcases Aq.1 hc with rfl|hc'
 ·rw[hget _ hb,Array.getElem?_modify,Ae rfl,hs.has _ (.head _)];simp only[BH,onCells];congr 2;apply BJ.1;apply Dq;intro j;unfold putCells;rw[Array.getElem?_toList,Array.getElem?_mapIdx,AE];have hl:(SE zs).length=zs.length:=List.length_mergeSort ..;by_cases hj:j<zs.length
  ·rw[AC (by simpa using hj),AC (by simpa[hl] using hj),A0,A0,Am hj,Am Af];simp[hj,hl,Lu]
  ·rw[AP (by simpa using KS hj),AP (by simpa[hl] using KS hj)];simp only[AZ,hl];cases sp[j-zs.length]? with
   |none=>rfl
   |some u=>simp[hl,hj]
 ·have hlt:=hs.lt (An _ hc');rw[hget _ hlt,Array.getElem?_modify,Ac,hs.has _ (An _ hc')];intro e;have:=hs.nodup;rw[AJ,AM] at this;exact this.1 (Au.2 ⟨c,hc',e.symm⟩)
theorem Uy(cap:Nat)(p:Option Addr)(l:List Ab):Fn prog 237 [.slice p 0 cap] l λv l'=>v= .tuple #[]/\l'=l:=by refine⟨λE W hs=>?_⟩;refine((AnyM.slices_Sort_int_none Tryz.sortA p cap W:Calls prog 237 _ W _)).mono ?_;rintro e w' ⟨rfl,rfl⟩;exact⟨_,_,rfl,⟨rfl,rfl⟩,hs⟩
theorem V0(v:Value)(zs:List Int)(cs l:List Ab)(ho:OwnSl 3 1 v zs.length (zs.map Lu) cs)(hn:zs.length<=1000000):
 Fn prog 237 [v] (cs++l) λr l'=>r= .tuple #[]/\ ∃cs',OwnSl 3 1 v (SE zs).length ((SE zs).map Lu) cs'/\l'=cs'++l:=by
 have hl:(SE zs).length=zs.length:=List.length_mergeSort ..;rcases ho.2 with⟨rfl,h0,rfl⟩|⟨gb,cap,sp,rfl,rfl,hnc,hcm,hcl⟩
 ·obtain rfl:zs=[]:=DO h0;exact(Uy 0 none l).mono λr l' ⟨h1,h2⟩=>⟨h1,[],by rw[show SE []=[] by simp[SE]];exact OwnSl.nil _ _,h2⟩
 ·exact(eF gb cap zs sp hn l).mono λr l' ⟨h1,h2⟩=>⟨h1,_,⟨by simp,.inr ⟨gb,cap,sp,by rw[hl],rfl,Af,hcm,by rw[Ah,AZ,hl,<-hcl,Ah,AZ]⟩⟩,h2⟩
end Go.Proofs.YtlkgekpmileobaaGreat
namespace Go.Proofs.YtlkgekpmileobaaGreat
open Tryz
open List(toArray)
open Go.RowKit
set_option maxRecDepth 20000
set_option maxHeartbeats 400000
variable{α:Type}{k:Nat}{D:SD}{es vis:List Kl}{v:Value}{c:CapT}{seen:Array Nat}{l cs:List Ab}{p:Prop}{xs:List Int}{a:Int}{C:List CapT}{s:CB}
structure Came(es vis:List Kl)(seen:Array Nat):Prop where
 eq:seen.toList=vis.map (·.2.2)
 nd:(vis.map (·.2.2)).Nodup
 sub: ∀e,e∈vis->e∈es
theorem Came.len(h:Came es vis seen)(hn:(es.map (·.2.2)).Nodup):vis.length<=es.length:=by
 classical
 have hv:vis.Nodup:=Ih h.nd;have he:(es.filter λe=>decide (e∈vis)).Nodup:=(Ih hn).filter _;have hp:vis.Perm (es.filter λe=>decide (e∈vis)):=(E1 hv he).2 λe=>by rw[Cr];simp only[Br];exact⟨λhm=>⟨h.sub e hm,hm⟩,λhm=>hm.2⟩
 rw[hp.length_eq];exact C6 ..
theorem Came.all(h:Came es vis seen)(hn:(es.map (·.2.2)).Nodup)(ha: ∀e,e∈es->e.2.2∈seen.toList):(vis.map (·.1)).Perm (es.map (·.1)):=by refine List.Perm.map _ ((E1 (Ih h.nd) (Ih hn)).2 λe=>⟨h.sub e,λhe=>?_⟩);have h1:=ha e he;rw[h.eq] at h1;obtain⟨e',he',h2⟩:=Au.1 h1;have h3:=MC hn (h.sub e' he') he h2;rw[<-h3];exact he'
theorem Came.push{e:Kl}(h:Came es vis seen)(he:e∈es)(hs:e.2.2∉seen.toList):Came es (vis++[e]) (seen.push e.2.2):=by
 refine⟨by rw[Ka,h.eq,Ap];rfl,?_,λx hx=>?_⟩
 ·rw[Ap,Bs];refine⟨h.nd,by simp,λa ha b hb hab=>hs ?_⟩;have:b=e.2.2:=by simpa using hb
  rw[h.eq,<-this,<-hab];exact ha
 ·rcases AF.1 hx with hx|hx
  ·exact h.sub x hx
  ·rw[AA.1 hx];exact he
theorem Rp(mb:Option Nat)(l:List Ab):Fn prog 234 [.map mb] l λv l'=> ∃B,v= .func (.func 307) #[] #[.pointer (some ⟨B,0,none⟩)]/\l'=(B,.cells #[.map mb] 404 (0,0))::l:=by refine AO func234 ntmps234 λE=>?_;refine gz ?_;refine AS (DZ rfl rfl) ?_;rintro _ _ ⟨B,hB,rfl,rfl⟩;refine gz ?_;exact A8 .refl ⟨B,rfl,rfl⟩
theorem uL(h:p:=by
 obtain⟨hm1,hm2⟩:=hneed _ _ G hG h0;refine gz ?_;refine AS (Y0 rfl hm2) ?_;rintro _ _ ⟨b0,hb0,rfl,rfl⟩;refine gz ?_;refine Cu (α:=Array Nat×List Kl×List Ab) (λx=>[(0,.func (.yield q) #[] #[]),(1,.pointer (some ⟨B,0,none⟩)),(5,.pointer (some ⟨b0,0,none⟩))]) (λx=>(b0,.mapIter (some m) clock x.1 clock)::(x.2.2++G)) (λx=>I (x.2.1.map (·.1)) x.2.2/\Came es x.2.1 x.1) (λx=>es.length-x.2.1.length) (#[],[],l) ⟨h0,rfl,by simp,by simp⟩ ⟨rfl,rfl,rfl,trivial⟩ .refl ?_;clear hm1 hm2;rintro⟨seen,vis,l⟩ ⟨hI,hC⟩;simp only at hI hC⊢;obtain⟨hm1,hm2⟩:=hneed _ _ G hG hI;refine gz ?_;refine AS (dD rfl hm2 (λe he=>hst e he) (A5 _)) ?_;rintro _ _ (⟨rfl,rfl,hall⟩|⟨e,he,hns,rfl,rfl⟩)
 ·refine gz ?_;exact A8 (.drop .refl) ⟨l,rfl,.inl ⟨_,hC.all hnd hall,hI⟩⟩
 ·have hC2:=hC.push he hns;have hl2:=hC2.len hnd;have hy:=hY (vis.map (·.1)) e.1 l ((b0,.mapIter (some m) clock (seen.push e.2.2) clock)::G) (λc hc=> .tail _ (hG c hc)) hI (by simp at hl2⊢;exact hl2);refine gz ?_;refine Bc (Y1 rfl (.head _) (.tail _ hm2) he hnd) ?_;refine gz ?_;refine Bk (Keep.of_perm AH.symm) ?_;refine AS (CK rfl rfl hy) ?_;rintro v l' ⟨l1,rfl,⟨rfl,hI'⟩|⟨rfl,hx⟩⟩
  ·refine gz ?_;exact BS (seen.push e.2.2,vis++[e],l1) ⟨by simpa using hI',hC2⟩ (by simp at hl2⊢;omega) ⟨rfl,rfl,rfl,trivial⟩ (.of_perm AH)
  ·refine gz ?_;exact By [] rfl (Keep.trans (.of_perm AH) (.drop .refl)) (by exact A7) ⟨l1,rfl,.inr ⟨_,by simp at hl2⊢;exact hl2,hx⟩⟩):p:=h
theorem Pf(B m clock:Nat)(es:List Kl)(hnd:(es.map (·.2.2)).Nodup)(hst: ∀e,e∈es->e.2.2<clock):
 E2 prog 307 [.pointer (some ⟨B,0,none⟩)] (λk:Int=>[.int .i64 k]) (λxs=>xs.Perm (es.map (·.1))) (λpre=>pre.length<=es.length)
  (λ_ l=>(B,.cells #[.map (some m)] 404 (0,0))∈l/\(m,Fh .i64 es clock)∈l):=by
 refine⟨λq I Ix G0 hneed hY l G hG h0=>?_⟩;refine AO func307 ntmps307 λE=>?_;exact uL
theorem XD(gf:Nat)[EN prog gf](lb:List Value)(S:List Int->Prop)(n:Nat)(Need:List Int->List Ab->Prop)(hit:E2 prog gf lb (λk:Int=>[.int .i64 k]) S (λpre=>pre.length<=n) Need)(hn:n<=900000)(l:List Ab)(hneed: ∀pre l2,(∀c,c∈l->c∈l2)->Need pre l2):
 Fn prog 308 [.slice none 0 0,.func (.func gf) #[] lb.toArray] l λv l'=> ∃xs cs,S xs/\OwnSl 3 1 v xs.length (xs.map Lu) cs/\l'=cs++l:=by
 refine AO func308 ntmps308 λE=>?_;refine gz ?_;refine AS (DZ rfl rfl) ?_;rintro _ _ ⟨b2,hb2,rfl,rfl⟩;refine gz ?_;refine CU (α:=Int) (ps:=[7]) (lb:=lb) rfl hit (λ_=>rfl) rfl
  (λpre l=> ∃v cs,OwnSl 3 1 v pre.length (pre.map Lu) cs/\pre.length<=n/\l=[(b2,.cells #[v] 40 (0,0))]++cs)
  (λc pre l=>False)
  _ l (λpre l2 X2 hX h=>by obtain⟨v,cs,_,_,rfl⟩:=h;exact hneed _ _ λc hc=>Aa _ (hX _ hc)) (by exact AR) ⟨_,[],OwnSl.nil _ _,Bf _,rfl⟩ ?_ ?_ ?_
 ·rintro E r0 rec pre y l' T ⟨fn,tmps,Dd,rfl⟩ hT0 ⟨v,cs',hown,hpl,rfl⟩ hsp;simp only[Du,Ad,Ag];refine gz ?_;refine Cp (.there (Fa _ _ _ _ _)) ?_;generalize hX1:(r0,Obj.loop (Dp fn tmps _ _ _ Dd .busy none))::T=X1;refine gz ?_;refine AS (JL rfl rfl) ?_;rintro _ _ ⟨bl,_,rfl,rfl⟩;refine AS (GI (k:=1) (X:=[(b2,.cells #[v] 40 (0,0))]) (cs:=cs') (F:=X1) (xs:=pre.map Lu) (n:=pre.length) (zs:=[.int .i64 0]) (ws:=[Lu y]) rfl rfl rfl hown rfl (by simp[Value.oneCell',Lu]) Af AW) ?_;rintro v' _ ⟨c2,ho2,rfl⟩;have hv1:v'.oneCell'=true:=ho2.one;simp only[Ad,Ag];refine gz ?_;rw[<-hX1];refine B9 _ (.refl) ⟨v',c2,?_,hsp,rfl⟩;rw[Ah,Ap];exact ho2
 ·rintro Dd xs l' hS ⟨v,cs',hown,hpl,rfl⟩;have hv1:v.oneCell'=true:=hown.one;simp only[Ad,Ag];refine gz ?_;refine AU [Dd] (cs'++l) rfl (l':=cs'++l) (by exact AR) (by exact A7) .refl ?_;exact⟨xs,cs',hS,hown,rfl⟩
 ·rintro Dd c pre l' hsp h;exact h.elim
theorem V1(gf:Nat)[EN prog gf](lb:List Value)(S:List Int->Prop)(n:Nat)(Need:List Int->List Ab->Prop)(hit:E2 prog gf lb (λk:Int=>[.int .i64 k]) S (λpre=>pre.length<=n) Need)(hn:n<=900000)(l:List Ab)(hneed: ∀pre l2,(∀c,c∈l->c∈l2)->Need pre l2):
 Fn prog 236 [.func (.func gf) #[] lb.toArray] l λv l'=> ∃xs cs,S xs/\OwnSl 3 1 v xs.length (xs.map Lu) cs/\l'=cs++l:=by
 refine AO func236 ntmps236 λE=>?_;refine gz ?_;refine AS (Az rfl rfl (XD gf lb S n Need hit hn l hneed)) ?_;rintro v _ ⟨xs,cs,hS,ho,rfl⟩;have hv1:v.oneCell'=true:=ho.one;refine gz ?_;refine A8 .refl ?_;exact⟨xs,cs,hS,ho,rfl⟩
theorem Rq(gf:Nat)[EN prog gf](lb:List Value)(S:List Int->Prop)(n:Nat)(Need:List Int->List Ab->Prop)(hit:E2 prog gf lb (λk:Int=>[.int .i64 k]) S (λpre=>pre.length<=n) Need)(hn:n<=900000)(hS: ∀xs,S xs->xs.length<=n)(l:List Ab)(hneed: ∀pre l2,(∀c,c∈l->c∈l2)->Need pre l2):
 Fn prog 175 [.func (.func gf) #[] lb.toArray] l λv l'=> ∃xs cs,S xs/\OwnSl 3 1 v (SE xs).length ((SE xs).map Lu) cs/\l'=cs++l:=by
 refine AO func175 ntmps175 λE=>?_;refine gz ?_;refine AS (Az rfl rfl (V1 gf lb S n Need hit hn l hneed)) ?_;rintro v _ ⟨xs,cs,hSx,ho,rfl⟩;have hv1:v.oneCell'=true:=ho.one;have hl:=hS xs hSx;refine gz ?_;refine AS (Az rfl rfl (V0 v xs cs l ho Af)) ?_;rintro _ _ ⟨rfl,cs',ho',rfl⟩;refine gz ?_;refine A8 .refl ?_;exact⟨xs,cs',hSx,ho',rfl⟩
theorem MN(B m clock:Nat)(es:List Kl)(hnd:(es.map (·.2.2)).Nodup)(hst: ∀e,e∈es->e.2.2<clock)(hn:es.length<=900000)(l:List Ab)(h1:(B,Obj.cells #[.map (some m)] 404 (0,0))∈l)(h2:(m,Fh .i64 es clock)∈l):
 Fn prog 175 [.func (.func 307) #[] #[.pointer (some ⟨B,0,none⟩)]] l λv l'=> ∃xs cs,xs.Perm (es.map (·.1))/\OwnSl 3 1 v (SE xs).length ((SE xs).map Lu) cs/\l'=cs++l:=
 Rq 307 [.pointer (some ⟨B,0,none⟩)] _ es.length _ (Pf B m clock es hnd hst) hn (λxs h=>by rw[h.length_eq];simp) l λ_ l2 hl=>⟨hl _ h1,hl _ h2⟩
theorem MB.sorted{key:α->Int}{val:α->Value}{L:List α}{clock:Nat}(h:MB key val L es clock)(hx:xs.Perm (es.map (·.1))):SE xs=L.map key:=by
 have h1:(SE xs).Perm (L.map key):=(List.mergeSort_perm ..).trans (hx.trans h.keys);have h2:(SE xs).Pairwise (λx y=>x<=y):=by have:=List.pairwise_mergeSort (le:=λx y:Int=>decide (x<=y)) (λa b c h1 h2=>by simp at*;omega) (λa b=>by simp;omega) xs;exact this.imp λh=>by simpa using h
 have h3:(L.map key).Pairwise (λx y=>x<=y):=Ck.2 (h.asc.imp λhxy=>by omega);exact h1.eq_of_pairwise (λa b _ _ h1 h2=>by omega) h2 h3
theorem OwnSl.ints{e:Nat}(h:OwnSl e 1 v xs.length (xs.map Lu) cs)(hs: ∀c,c∈cs->c∈l): ∃p cap,v= .slice p xs.length cap/\(0<xs.length-> ∃b cl t fz,p=some ⟨b,0,none⟩/\(b,Obj.cells cl t fz)∈l/\ ∀i x,xs[i]?=some x->cl[i*1]?=some (.int .i64 x)):=by
 rcases h.2 with⟨rfl,h0,rfl⟩|⟨b,cap,sp,rfl,rfl,_⟩
 ·exact⟨none,0,by rw[h0],λh=>by omega⟩
 ·refine⟨_,cap,rfl,λh0=>⟨b,_,e,(0,0),rfl,hs _ Ak,λi x hx=>?_⟩⟩;have hlt:=(Ax.1 hx).1;rw[Dh,AE,AC (by simpa using hlt),A0,hx];rfl
def GM(a:Int)(C:List CapT):Nat->List P0
 |0=>[]
 |k+1=>GM a C k++(match C[k]? with
  |some c=>if KR c Cv=true then[] else[((a,((k:Nat):Int)),c)]
  |none=>[])
def DC(D:SD):List P0:=D.flatMap λx=>GM x.1 x.2 x.2.length
theorem V2(hc:C[k]?=some c)(h:KR c Cv=false):GM a C (k+1)=GM a C k++[((a,((k:Nat):Int)),c)]:=by show GM a C k++_=_;rw[hc];simp only;rw[h];rfl
theorem eG(hc:C[k]?=some c)(h:KR c Cv=true):GM a C (k+1)=GM a C k:=by show GM a C k++_=_;rw[hc];simp only;rw[h];simp
theorem Rr(a:Int)(C:List CapT)(k:Nat): ∀m,GM a C k<+:GM a C (k+m)
 |0=>Ga
 |m+1=>(Rr a C k m).trans (FZ _ _)
theorem Rs(a:Int)(C:List CapT): ∀k,(GM a C k).length<=k
 |0=>A5 _
 |k+1=>by
  show(GM a C k++_).length<=k+1;have:=Rs a C k;rw[Ah];have h2:(match C[k]? with
   |some c=>if KR c Cv=true then[] else[((a,((k:Nat):Int)),c)]
   |none=>[]:List P0).length<=1:=by
   split
   ·split<;>simp
   ·simp
  omega
theorem Pg(A B:SD):DC (A++B)=DC A++DC B:=DL
theorem aN{i:Nat}{x:Int×List CapT}(hx:D[i]?=some x)(hk:k<=x.2.length):DC (D.take i)++GM x.1 x.2 k<+:DC D:=by
 have hi:=(Ax.1 hx).1;have h1:=Cb i D;rw[CX hi] at h1;have h2:D[i]=x:=by rw[Am hi] at hx;exact AV hx
 rw[h2] at h1
 conv=>rhs;rw[<-h1]
 rw[Pg];refine(List.prefix_append_right_inj _).2 ?_;show _<+:GM x.1 x.2 x.2.length++DC (D.drop (i+1));have:=Rr x.1 x.2 k (x.2.length-k);rw[show k+(x.2.length-k)=x.2.length by omega] at this;exact this.trans (FZ _ _)
theorem Tx(h: ∀x,x∈D->x.2.length<=16):(DC D).length<=D.length*16:=by
 induction D with
 |nil=>simp[DC]
 |cons x r ih=>
  rw[show x::r=[x]++r from rfl,Pg,Ah];have h1:=ih λy hy=>h y (An _ hy);have h2:=Rs x.1 x.2 x.2.length;have h3:=h x Ak;have h4:(DC [x]).length<=16:=by simp only[DC,Cm,List.flatMap_nil,Be];omega
  rw[Ah];show _<=(1+r.length)*16;omega
theorem IsS.sz{b:Nat}{lq:List Ab}(h:IsS b D lq): ∀x,x∈D->0<x.2.length/\x.2.length<=16:=by obtain⟨S,m,es,clock,rfl,hS⟩:=h;intro x hx;obtain⟨nd,hn,rfl⟩:=Au.1 hx;exact hS.sz nd hn
set_option maxRecDepth 20000 in
theorem aO(B b:Nat)(D:SD)(lq:List Ab)(hq:IsS b D lq)(hn:D.length<=50000):
 E2 prog 233 [.pointer (some ⟨B,0,none⟩)] (λh:P0=>[tJ h]) (λxs=>xs=DC D) (λpre=>pre<+:DC D)
  (λ_ l=>xB B (.pointer (some ⟨b,0,none⟩))∈l/\ ∀c,c∈lq->c∈l):=by
 refine⟨λr I Ix G0 hneed hY l G hG h0=>?_⟩;obtain⟨S,m,es,clock,rfl,hS⟩:=hq;obtain⟨n1,n2⟩:=hneed _ _ G hG h0;have n3:=n2 _ hS.m1;have n4:=n2 _ hS.m2;have hSl:S.length<=50000:=by simpa using hn
 refine AO func233 ntmps233 λE=>?_;refine gz ?_;refine AS (Az rfl rfl (Rp (some m) _)) ?_;rintro _ _ ⟨B',rfl,rfl⟩;refine gz ?_;refine AS (Az rfl rfl (MN B' m clock es hS.mb.ok.stamps hS.mb.ok.below (by rw[hS.mb.len];omega) _ (.head _) (.tail _ n4))) ?_;rintro v _ ⟨xs,cs,hxs,ho,rfl⟩;rw[hS.mb.sorted hxs] at ho;have hv1:v.oneCell'=true:=ho.one;obtain⟨p,cap,rfl,hR⟩:=ho.ints (l:=cs) λc hc=>hc;have hlen:(S.map NdS.id).length=S.length:=AZ ..;refine gz ?_;refine Cu (α:=Nat×List Ab) (λx=>[(0,.func (.yield r) #[] #[]),(1,.pointer (some ⟨B,0,none⟩)),(14,.slice p (S.map NdS.id).length cap),(15,.int .i64 (S.map NdS.id).length),(16,.int .i64 x.1)]) (λx=>x.2++(cs++G)) (λx=>x.1<=S.length/\I (DC ((S.map NdS.d).take x.1)) x.2) (λx=>S.length-x.1) (0,l) ⟨Bf _,h0⟩ ⟨rfl,rfl,rfl,rfl,rfl,trivial⟩ ?_ ?_
 ·exact Keep.trans (Keep.in_mid cs [_] (l++G)) (.drop (Keep.in_mid cs l G))
 clear n1 n2 n3 n4;rintro⟨i,l⟩ ⟨hi,hI⟩;simp only at hi hI⊢;obtain⟨n1,n2⟩:=hneed _ _ (cs++G) (λc hc=>Aa _ (hG c hc)) hI;have n3:=n2 _ hS.m1;have n4:=n2 _ hS.m2;by_cases hlt:i<S.length
 ·obtain⟨b9,cl,t9,fz,rfl,hmc,hcl⟩:=hR Af;have hm':(b9,Obj.cells cl t9 fz)∈l++(cs++G):=Aa _ (Ai _ hmc);obtain⟨nd,hnd⟩: ∃nd,S[i]?=some nd:=⟨_,Am hlt⟩
  have hmem:=A9 hnd;have hc:=hcl i nd.id (by rw[A0,hnd];rfl);have hlk:(J4 nd.id es).getD (.slice none 0 0)=nd.val:=by rw[hS.look,hS.mb.at_ hmem]
  have hdi:(S.map NdS.d)[i]?=some nd.d:=by rw[A0,hnd];rfl
  have hsz:=hS.sz nd hmem;refine gz ?_;rw[hlk];refine gz ?_;refine Cu (α:=Nat×List Ab) (λx=>[(0,.func (.yield r) #[] #[]),(1,.pointer (some ⟨B,0,none⟩)),(4,.int .i64 nd.id),(14,.slice (some ⟨b9,0,none⟩) (S.map NdS.id).length cap),(15,.int .i64 (S.map NdS.id).length),(16,.int .i64 i),(25,nd.val),(26,.int .i64 nd.C.length),(27,.int .i64 x.1)]) (λx=>x.2++(cs++G)) (λx=>x.1<=nd.C.length/\I (DC ((S.map NdS.d).take i)++GM nd.id nd.C x.1) x.2) (λx=>nd.C.length-x.1) (0,l) ⟨Bf _,by show I (_++[]) l;rw[Be];exact hI⟩ ⟨rfl,rfl,rfl,rfl,rfl,rfl,rfl,rfl,rfl,trivial⟩ .refl ?_;clear n1 n2 n3 n4 hI hm';rintro⟨k,l⟩ ⟨hk,hI⟩;simp only at hk hI⊢;obtain⟨n1,n2⟩:=hneed _ _ (cs++G) (λc hc=>Aa _ (hG c hc)) hI;have hmb:=n2 _ (hS.m3 hmem);by_cases hkl:k<nd.C.length
  ·obtain⟨c,hcc⟩: ∃c,nd.C[k]?=some c:=⟨_,Am hkl⟩
   obtain⟨g1,g2⟩:=Uw hcc;refine gz ?_;refine Bc (Dm (n:=8) rfl hmb g2 g1) ?_;refine Hj λb6=>?_;refine Bc (Qe (ys:=BR Cv) rfl rfl (D9 c) (D9 _)) ?_;rw[show BQ (BR c) (BR Cv)=KR c Cv from rfl];cases he:KR c Cv with
   |true=>refine gz ?_;exact BS (k+1,l) ⟨by simp only;omega,by simp only;rw[eG hcc he];exact hI⟩ (by simp only;omega) ⟨rfl,rfl,rfl,rfl,rfl,rfl,rfl,rfl,rfl,trivial⟩ (.drop .refl)
   |false=>
    have hpre:(DC ((S.map NdS.d).take i)++GM nd.id nd.C k)++[((nd.id,((k:Nat):Int)),c)]<+:DC (S.map NdS.d):=by rw[Al,<-V2 hcc he];exact aN hdi (by show k+1<=nd.C.length;omega)
    have hy:=hY _ ((nd.id,((k:Nat):Int)),c) l (Bp b6 c::(cs++G)) (λx hx=> .tail _ (Aa _ (hG x hx))) hI hpre;refine gz ?_;refine Bk (Keep.of_perm (l':=l++(Bp b6 c::(cs++G))) AH.symm) ?_;refine It (CK rfl rfl hy) rfl rfl rfl ?_;rintro w l' ⟨l1,rfl,⟨rfl,hI'⟩|⟨rfl,hx⟩⟩
    ·refine gz ?_;exact BS (k+1,l1) ⟨by simp only;omega,by simp only;rw[V2 hcc he,<-Al];exact hI'⟩ (by simp only;omega) ⟨rfl,rfl,rfl,rfl,rfl,rfl,rfl,rfl,rfl,trivial⟩ (Keep.trans (.of_perm AH) (.drop .refl))
    ·refine gz ?_;exact A8 (Keep.trans (.of_perm AH) (.drop (Keep.trans (Keep.in_mid l1 cs G) (Keep.dropL cs .refl)))) ⟨l1,rfl,.inr ⟨_,hpre,hx⟩⟩
  ·obtain rfl:k=nd.C.length:=by omega
   refine gz ?_;refine BS (i+1,l) ⟨by simp only;omega,?_⟩ (by simp only;omega) ⟨rfl,rfl,rfl,rfl,rfl,trivial⟩ .refl;simp only;rw[B0,hdi,Pg];show I (_++DC [nd.d]) l;rw[show DC [nd.d]=GM nd.id nd.C nd.C.length by simp[DC]];exact hI
 ·obtain rfl:i=S.length:=by omega
  rw[show(S.map NdS.d).take S.length=S.map NdS.d from Bz (by simp)] at hI;refine gz ?_;exact A8 (Keep.trans (Keep.in_mid l cs G) (Keep.dropL cs .refl)) ⟨l,rfl,.inl ⟨_,rfl,hI⟩⟩
theorem all_any(b:Nat)(D:SD)(lq:List Ab)(hq:IsS b D lq)(hn:D.length<=50000)(l:List Ab)(hsub: ∀c,c∈lq->c∈l):
 Fn prog 116 [.pointer (some ⟨b,0,none⟩)] l λv l'=> ∃cs,OwnSl 132 10 v (DC D).length (MM (DC D)) cs/\l'=cs++l:=by
 have hlen:=Tx λx hx=>(hq.sz x hx).2;refine AO func116 ntmps116 λE=>?_;refine gz ?_;refine AS (Az rfl rfl (eD _ rfl _)) ?_;rintro _ _ ⟨B,rfl,rfl⟩;refine gz ?_;refine AS (Az rfl rfl (Ux 233 [.pointer (some ⟨B,0,none⟩)] _ _ _ (aO B b D lq hq hn) (DC D).length (λpre h=>h.length_le) Af _ λ_ l2 hl=>⟨hl _ (.head _),λc hc=>hl _ (.tail _ (hsub c hc))⟩)) ?_;rintro v _ ⟨_,cs,rfl,ho,rfl⟩;have hv1:v.oneCell'=true:=ho.one;refine gz ?_;refine A8 (l':=cs++l) (Keep.trans (.of_perm AH) (.drop .refl)) ?_;exact⟨cs,ho,rfl⟩
def MO(l:List Ab)(a:Option Addr)(n k:Nat)(rows:List (List Value)):Prop:=
 0<n-> ∃bB off cs t fz,a=some ⟨bB,off,none⟩/\(bB,Obj.cells cs t fz)∈l/\ ∀i row,rows[i]?=some row->off+i*k+k<=cs.size/\cs.extract (off+i*k) (off+i*k+k)=toArray row/\ ∀j v,row[j]?=some v->cs[off+i*k+j]?=some v
theorem jF{W:World}{a:Option Addr}{n cap:Nat}{rows:List (List Value)}{ks:List (Option IntKind)}(h:Ua ks W a n cap rows)(hk:0<ks.length):MO (Ot W) a n ks.length rows:=by
 intro h0;obtain⟨b,off,rfl,hb,hcell⟩:=h.at_ h0;have hr0: ∃r0,rows[0]?=some r0:=⟨_,Am (by rw[h.size];exact h0)⟩
 obtain⟨r0,hr0⟩:=hr0;have c0:=hcell 0 0 h0 hk;rw[hr0,Dn] at c0;have hl0:=(h.all r0 (A9 hr0)).len;have e0:r0[0]?=some (r0[0]'Af):=Am Af;unfold World.cell? at c0
 split at c0
 ·rename_i cs t fz hob;have hob':W.heap[b]?=some (.cells cs t fz):=hob;refine⟨b,off,cs,t,fz,rfl,(Pb W b _).2 hob',λi row hrow=>?_⟩;have hi:i<n:=by have:=(Ax.1 hrow).1;rw[h.size] at this;exact this
  have hl:=(h.all row (A9 hrow)).len;have hc: ∀j,j<ks.length->cs[off+i*ks.length+j]?=row[j]?:=λj hj=>by have:=hcell i j hi hj;rw[Vm hob',hrow,Dn] at this;exact this
  have hlast:=hc (ks.length-1) Af;rw[Am (show ks.length-1<row.length by omega)] at hlast;have hlt:=(BA.1 hlast).1;refine⟨Af,?_,λj v hv=>?_⟩
  ·apply Dk;intro j;rw[EI];by_cases hj:j<ks.length
   ·rw[Ae Af,hc j hj,AE]
   ·rw[Ac Af,AE,Bb Af]
  ·have hj:=(Ax.1 hv).1;rw[hc j Af];exact hv
 ·rw[e0] at c0;cases c0
theorem XE{key:α->Int}{L:List α}(h:L.Pairwise λx y=>key x<key y){t:α}(ht:t∈L):DG key L (key t)=some t:=by
 have hnd:(L.map key).Nodup:=Ck.2 (h.imp λhxy=>by omega);cases hf:DG key L (key t) with
 |none=>exact absurd rfl (FE.1 hf t ht)
 |some u=>obtain⟨h1,h2⟩:=E6 hf;rw[MC hnd h1 ht h2]
theorem MQ(D:SD)(s:CB)(c:CapT)(a:Int):DG Prod.fst (FS D s c) a=(DG Prod.fst D a).map λx=>if x.1=s.1 then(x.1,x.2.set s.2.toNat c) else x:=by
 unfold DG FS;rw[List.find?_map];have e:((λt:Int×List CapT=>decide (t.1=a))∘λx=>if x.1=s.1 then(x.1,x.2.set s.2.toNat c) else x)=λt=>decide (t.1=a):=by
  funext x;show decide ((if x.1=s.1 then(x.1,x.2.set s.2.toNat c) else x).1=a)=decide (x.1=a)
  split<;>rfl
 rw[e]
theorem eJ(D:SD)(s:CB)(c:CapT)(a:Int):Iy (FS D s c) a=Iy D a:=by
 unfold Iy;rw[MQ];cases DG Prod.fst D a with
 |none=>rfl
 |some x=>
  simp only[BH]
  split
  ·simp
  ·rfl
theorem MR(D:SD)(s:CB)(c:CapT)(s':CB):Fc (FS D s c) s'=Fc D s':=by unfold Fc;rw[eJ]
theorem nW(h:Fc D s=true):DH (FS D s c) s=c:=by
 unfold Fc Iy at h;rw[AX,Br,Br] at h;unfold DH;rw[MQ];cases hf:DG Prod.fst D s.1 with
 |none=>rw[hf] at h;simp at h;omega
 |some x=>rw[hf] at h;simp only at h;simp only[BH];rw[Ae (E6 hf).2];show(x.2.set s.2.toNat c).getD s.2.toNat Cv=c;rw[De,EJ Af];rfl
theorem aP{s':CB}(h0:0<=s.2)(h0':0<=s'.2)(h:s'≠s):DH (FS D s c) s'=DH D s':=by
 unfold DH;rw[MQ];cases hf:DG Prod.fst D s'.1 with
 |none=>rfl
 |some x=>
  simp only[BH]
  split
  ·rename_i hx;have hx2:=(E6 hf).2;have hne:s'.2≠s.2:=λe=>h (I0 (by rw[<-hx2,hx]) e);show(x.2.set s.2.toNat c).getD s'.2.toNat Cv=x.2.getD s'.2.toNat Cv;rw[De,De,I3 Af]
  ·rfl
theorem OwnSl.hds{L:List P0}(h:OwnSl 132 10 v L.length (MM L) cs)(hs: ∀c,c∈cs->c∈l):RowSl l v 10 P1 L:=OwnSl.rowSl (enc:=P1) h (λ_=>rfl) hs
theorem Rt(s:CB):AllK [some .i64,some .i64] (Cj s):=⟨_,_,rfl,⟨_,rfl⟩,_,_,rfl,⟨_,rfl⟩,rfl⟩
theorem q6{x y:CB}(h:x≠y):BQ (Cj x) (Cj y)=false:=by
 cases h2:BQ (Cj x) (Cj y) with
 |false=>rfl
 |true=>have:=(FW (Rt x) (Rt y)).1 h2;simp only[Cj,CJ,Value.int.injEq,KU,Ml] at this;exact absurd (I0 this.1 this.2) h
section
variable{key:α->Int}
end
theorem Qj{key:α->Int}{L:List α}{t:α}(h:L.Pairwise λx y=>key x<key y)(hn:DG key L (key t)=none):(K9 key L t).Pairwise λx y=>key x<key y:=by
 obtain⟨W,Z,e1,e2,hL,hall,hgt⟩:=Tt h (FE.1 hn);have hi:K9 key L t=W++t::Z:=by unfold K9;rw[e1,e2]
 rw[hL,Bh] at h;rw[hi];refine Bh.2 ⟨h.1,BY.2 ⟨λx hx=>hgt x hx,h.2.1⟩,λx hx y hy=>?_⟩;have h1:=hall x hx;rcases Aq.1 hy with rfl|hy
 ·exact h1
 ·have:=hgt y hy;omega
theorem eK{xs:Array Value}{o j:Nat}{ys:List Value}(h:xs.extract o (o+k)=toArray ys)(hle:o+k<=xs.size)(hj:j<k)(hv:ys[j]?=some v):xs[o+j]?=some v:=by
 have h2:(toArray ys)[j]?=ys[j]?:=by simp
 rw[<-hv,<-h2,<-h,EI,Ae Af]
theorem q8(h:p:=by
 by_cases hl:xs.length=ys.length
 ·refine gz ?_;refine Cu (α:=Nat) (λk=>[(0,.slice a xs.length ca),(1,.slice a' ys.length ca'),(5,.int .i64 k)]) (λk=>l) (λk=>k<=xs.length/\ ∀j,j<k->xs[j]?=ys[j]?) (λk=>xs.length-k) 0 ⟨Bf _,λj h=>by omega⟩ ⟨rfl,rfl,rfl,trivial⟩ .refl ?_;rintro k ⟨hk2,hj⟩;by_cases hlt:k<xs.length
  ·obtain⟨b,off,cs,t,fz,rfl,hm,hc⟩:=h1 Af;obtain⟨b',off',cs',t',fz',rfl,hm',hc'⟩:=h2 Af;obtain⟨x,e1⟩: ∃x,xs[k]?=some x:=⟨_,Am hlt⟩
   obtain⟨y,e2⟩: ∃y,ys[k]?=some y:=⟨_,Am (show k<ys.length by omega)⟩
   obtain⟨g1,g2⟩:=hc k x e1;obtain⟨g1',g2'⟩:=hc' k y e2;refine gz ?_;refine Ce [] 9 _ ?_ (hR:=(λ_ h=>h));refine pz ?_;apply D7
   ·exact Dm rfl hm g1 g2
   ·rfl
   ·rfl
   ·rfl
   refine pz ?_;apply D7
   ·exact Dm rfl hm' g1' g2'
   ·rfl
   ·rfl
   ·rfl
   refine pz ?_;apply D7
   ·exact Qe rfl rfl (hk x) (hk y)
   ·rfl
   ·rfl
   ·rfl
   by_cases hxy:x=y
   ·rw[show(!BQ (enc x) (enc y))=false by rw[hxy,F4 (hk y)];rfl];refine pz ?_;refine gz ?_;exact BS (k+1) ⟨Af,λj hjk=>by
     by_cases e:j=k
     ·subst e;rw[e1,e2,hxy]
     ·exact hj j Af⟩ Af ⟨rfl,rfl,rfl,trivial⟩ .refl
   ·rw[show(!BQ (enc x) (enc y))=true by
     cases h:BQ (enc x) (enc y) with
     |false=>rfl
     |true=>exact absurd (hin _ _ ((FW (hk x) (hk y)).1 h)) hxy]
    refine pz ?_;refine gz ?_;refine A8 .refl ⟨?_,rfl⟩;rw[show decide (xs=ys)=false from Aw λe=>by subst e;rw[e1] at e2;exact hxy (by cases e2;rfl)];rfl
  ·obtain rfl:k=xs.length:=by omega
   refine gz ?_;refine A8 .refl ⟨?_,rfl⟩;rw[show decide (xs=ys)=true from At (Dq λj=>by
    by_cases h:j<xs.length
    ·exact hj j h
    ·rw[Bb Af,Bb Af])];rfl
 ·refine gz ?_;refine A8 .refl ⟨?_,rfl⟩;rw[show decide (xs=ys)=false from Aw λe=>hl (by rw[e])];rfl):p:=h
theorem Ur(D:SD)(x:Int×List CapT):(K9 Prod.fst D x).length=D.length+1:=(Rm D x).length_eq
theorem RowSl.mono{l':List Ab}{enc:α->List Value}{xs:List α}(h:RowSl l v k enc xs)(hs: ∀c,c∈l->c∈l'):RowSl l' v k enc xs:=by
 obtain⟨a,cap,h1,h2⟩:=h;exact⟨a,cap,h1,λh0=>by obtain⟨b,off,cs,t,fz,k1,k2,k3⟩:=h2 h0;exact⟨b,off,cs,t,fz,k1,hs _ k2,k3⟩⟩
end Go.Proofs.YtlkgekpmileobaaGreat
