/- Laws that the statement's proof leans on (joined out of several texts). -/
import Derived.Test.YtlkgekpmileobaaGreatGb8
import Derived.Test.YtlkgekpmileobaaGreatGb30
import Derived.Test.YtlkgekpmileobaaGreatGb10
set_option linter.unusedVariables false
set_option linter.unusedSimpArgs false
namespace Go.Proofs.YtlkgekpmileobaaGreat
open Tryz
open List(toArray)
open Go.RowKit
set_option maxRecDepth 20000
variable{W:List Int}{w i:Nat}{page lv pg:Int}{x:RJ}
instance:EQ prog 390 [none,none,none,none,some .i64]:=⟨Bv⟩
abbrev Pd(B:Nat)(e:RJ):Ab:=(B,.cells (toArray (RM e)) 390 (0,0))
abbrev Wk(e:RJ):Value:= .agg (toArray (RM e))
theorem uO(e:RJ):AllK [none,none,none,none,some .i64] (RM e):=⟨_,_,rfl,⟨_,rfl⟩,_,_,rfl,⟨_,rfl⟩,_,_,rfl,⟨_,rfl⟩,_,_,rfl,⟨_,rfl⟩,_,_,rfl,⟨_,rfl⟩,rfl⟩
theorem vu(e f:RJ):BQ (RM e) (RM f)=decide (e=f):=by obtain⟨a,b,c,d,x⟩:=e;obtain⟨a',b',c',d',x'⟩:=f;rw[Jf];simp[BQ,Mx]
theorem Ya(e:RJ)(l:List Ab):Fn prog 333 [Wk e] l λv l'=>v= .bool (SF e)/\l'=l:=by
 unfold SF;refine AO func333 ntmps333 λE=>?_;refine AQ λb1=>?_;cases hv:e.vd with
 |false=>rw[Ae rfl];refine Aj ?_;refine Bc (FJ (xs:=RM e) (ys:=RM XU) rfl rfl (uO e) (uO XU)) ?_;rw[vu];refine Aj ?_;exact qr
 |true=>
  rw[Ac AW];refine Aj ?_;by_cases h:e.fr<0\/e.fr>=64
  ·rw[Ae h];by_cases h1:e.fr<0<;>by_cases h2:e.fr>=64;all_goals first
    |(exfalso;omega)
    |(refine Aj ?_
      exact qr)
  ·rw[Ac h];refine Aj ?_;cases hr:e.rd;all_goals
    refine Aj ?_;exact qr
theorem TO(b:Nat)(l:List Ab):Fn prog 335 [pV b] l λv l'=>v= .agg (toArray [.pointer (some ⟨b,0,none⟩),.pointer (some ⟨b,1,none⟩),.pointer (some ⟨b,2,none⟩),.pointer (some ⟨b,3,none⟩)])/\l'=l:=by
 refine AO func335 ntmps335 λE=>?_;refine AQ λb2=>?_;refine Ch (Cf [13] 0 14) ?_;iterate 12 refine Un ?_
 refine Un ?_ (F5 (zs:=[.pointer none,.pointer none,.pointer none,.pointer none]) (cs:=[.pointer (some ⟨b,0,none⟩),.pointer (some ⟨b,1,none⟩),.pointer (some ⟨b,2,none⟩),.pointer (some ⟨b,3,none⟩)]) rfl rfl);refine dJ ?_;refine O8 ?_;refine Aj ?_;exact qr
theorem mB(w:Nat)(a:Int)(h0:0<=a)(h1:a<64)(hw:w<18446744073709551616)(l:List Ab):Fn prog 334 [.int .u64 (w:Nat),.int .i64 a,.int .i64 1,.int .u64 1] l λr l'=>r= .tuple #[.int .u64 (NK w a.toNat 1 1:Nat),.int .i64 0]/\l'=l:=by
 obtain⟨a,rfl⟩: ∃q:Nat,a=q:=⟨a.toNat,Af⟩
 exact Wj w a 1 1 hw AW AW Af AW l
theorem ol(w a:Nat):NK w a 1 1=2^a*(2*(w/2^(a+1))+1)+w%2^a:=rfl
set_option maxHeartbeats 1000000 in
theorem om(vd lf rd wr:Bool)(f:Nat)(hf:f<64)(hm:SF ⟨vd,lf,rd,wr,f⟩=true)(l:List Ab):Fn prog 295 [.agg (toArray [.bool vd,.bool lf,.bool rd,.bool wr,.int .i64 (f:Nat)])] l λv l'=>v= .tuple #[Ba ((vd.toNat+2*lf.toNat+4*rd.toNat+8*wr.toNat:Nat)+256*(f:Int)),iV 0]/\l'=l:=by
 refine AO func295 ntmps295 λE=>?_;refine AQ λb1=>?_;refine Bc (AK rfl rfl λl2 _=>Ya ⟨vd,lf,rd,wr,f⟩ l2) ?_;rw[hm];refine Aj ?_;refine Bc (AK rfl rfl λl2 _=>Wj 0 8 6 f AW AW AW AW Af l2) ?_;refine Aj ?_;refine Bc (AK rfl rfl λl2 _=>TO b1 l2) ?_;refine Aj ?_;refine Hb 4 ?_;cases vd<;>cases lf<;>cases rd<;>cases wr;all_goals first
  |(exfalso;revert hm;simp[SF];done)
  |(iterate 4
     refine Aj ?_;refine Bc (X9 rfl rfl AW rfl) ?_;refine Aj ?_;try(refine Bc (AK rfl rfl λl2 _=>mB _ _ AW AW (by simp[NK];omega) l2) ?_)
     refine Aj ?_;refine Ew ?_
    refine Aj ?_;refine qr (hx:=?_)
    first|(simp[Iw,NK];done)|(simp[Iw,NK];omega))
theorem Wl(e:RJ)(l:List Ab):Fn prog 295 [Wk e] l λv l'=>v= .tuple #[Ba (OK e).1,iV (OK e).2]/\l'=l:=by
 unfold OK;cases hm:SF e with
 |true=>
  obtain⟨vd,lf,rd,wr,fr⟩:=e;obtain⟨f,rfl,hf⟩: ∃f:Nat,fr=f/\f<64:=by
   unfold SF at hm;cases vd
   ·simp at hm;exact⟨0,Af,Af⟩
   ·simp only[Bool.true_eq_false,CS] at hm
    split at hm
    ·cases hm
    ·exact⟨fr.toNat,Af,Af⟩
  exact om vd lf rd wr f hf hm l
 |false=>
 refine AO func295 ntmps295 λE=>?_;refine AQ λb1=>?_;refine Bc (AK rfl rfl λl2 _=>Ya e l2) ?_;rw[hm];refine Aj ?_;exact qr
def UO(w i:Nat):RJ:=⟨w.testBit 0&&decide (0<i),w.testBit 1&&decide (1<i),w.testBit 2&&decide (2<i),w.testBit 3&&decide (3<i),0⟩
def Zz(w i:Nat):Nat:=w/256%2^(min i 14-8)
abbrev Wm(j:Nat):Prop:=j<4\/(8<=j/\j<14)
theorem tS(h:w.testBit i=false):UO w (i+1)=UO w i:=by
 have key: ∀j,(w.testBit j&&decide (j<i+1))=(w.testBit j&&decide (j<i)):=λj=>by
  by_cases e:j=i
  ·subst e;rw[h];rfl
  ·congr 1;exact decide_eq_decide.2 Af
 unfold UO;rw[key,key,key,key]
theorem rD(h:4<=i):UO w (i+1)=UO w i:=by
 have key: ∀j,j<4->(w.testBit j&&decide (j<i+1))=(w.testBit j&&decide (j<i)):=λj hj=>by congr 1;exact decide_eq_decide.2 Af
 unfold UO;rw[key 0 Af,key 1 Af,key 2 Af,key 3 Af]
theorem tT(h:w.testBit i=true)(hi:i<4):(toArray (RM (UO w i))).setIfInBounds i (.bool true)=toArray (RM (UO w (i+1))):=by
 rcases i with _|_|_|_|i
 ·simp[UO,RM,h]
 ·simp[UO,RM,h]
 ·simp[UO,RM,h]
 ·simp[UO,RM,h]
 ·omega
theorem rE(h:w.testBit i=false\/i<8\/14<=i):Zz w (i+1)=Zz w i:=by
 unfold Zz;by_cases h1:i<8
 ·rw[show min (i+1) 14-8=0 by omega,show min i 14-8=0 by omega]
 by_cases h2:14<=i
 ·rw[show min (i+1) 14=min i 14 by omega]
 have hb:w.testBit i=false:=by rcases h with h|h|h;exact h;omega;omega
 rw[show min (i+1) 14-8=(i-8)+1 by omega,show min i 14-8=i-8 by omega];rw[Dt] at hb;have hb:¬w/2^i%2=1:=by simpa using hb
 have e:w/256/2^(i-8)=w/2^i:=by rw[Nat.div_div_eq_div_mul,show(256:Nat)=2^8 from rfl,<-Nat.pow_add,show 8+(i-8)=i by omega]
 rw[Nat.pow_succ,Nat.mod_mul,e,show w/2^i%2=0 by omega];simp
theorem tU(h:w.testBit i=true)(h1:8<=i)(h2:i<14):NK (Zz w i) (i-8) 1 1=Zz w (i+1)/\Zz w i<64:=by
 unfold Zz;rw[show min (i+1) 14-8=(i-8)+1 by omega,show min i 14-8=i-8 by omega];rw[Dt] at h;have h:w/2^i%2=1:=by simpa using h
 have e:w/256/2^(i-8)=w/2^i:=by rw[Nat.div_div_eq_div_mul,show(256:Nat)=2^8 from rfl,<-Nat.pow_add,show 8+(i-8)=i by omega]
 have hl:=Gy (w/256) (show 2^(i-8)>0 from Nat.pow_pos Af);have hp:2^(i-8)<=2^5:=CG Af Af;refine⟨?_,Af⟩;rw[ol,Nat.pow_succ,Nat.mod_mul,e,h,Nat.div_eq_of_lt Af,Db hl];omega
theorem bJ(w i:Nat):DN w i 1=if w.testBit i=true then 1 else 0:=by
 unfold DN;rw[Dt];by_cases h:w/2^i%2=1
 ·rw[Ae (by simpa using h)];simpa using h
 ·rw[Ac (by simpa using h)];simp;omega
theorem Wn(hw:w<18446744073709551616):(w/16%16=0/\w/16384=0)<-> ∀j,j<64->w.testBit j=true->Wm j:=by
 constructor
 ·rintro⟨h1,h2⟩ j hj hb;by_cases hg:Wm j
  ·exact hg
  exfalso;by_cases h8:j<8
  ·have:(w/2^4%2^4).testBit (j-4)=true:=by
    rw[HK,EA,show j-4+4=j by omega,hb];simp;omega
   rw[show w/2^4%2^4=0 from h1] at this;simp at this
  ·have:(w/2^14).testBit (j-14)=true:=by
    rw[EA,show j-14+14=j by omega,hb]
   rw[show w/2^14=0 from h2] at this;simp at this
 ·intro h;have key: ∀j,w.testBit j=true->Wm j:=λj hb=>by
   by_cases hj:j<64
   ·exact h j hj hb
   ·rw[EH (DY hw (show 2^64<=2^j from CG Af Af))] at hb;cases hb
  constructor
  ·refine IZ λj=>?_;rw[show w/16%16=w/2^4%2^4 from rfl,HK,EA,Nat.zero_testBit];by_cases hj:j<4
   ·cases hb:w.testBit (j+4) with
    |false=>simp
    |true=>have:=key _ hb;omega
   ·simp[hj]
  ·refine IZ λj=>?_;rw[show w/16384=w/2^14 from rfl,EA,Nat.zero_testBit];cases hb:w.testBit (j+14) with
   |false=>rfl
   |true=>have:=key _ hb;omega
theorem mD(w:Nat):({UO w 64 with fr:=(Zz w 64:Nat)}:RJ)=bE w:=by simp[UO,bE,Zz]
theorem ku(hw:w<18446744073709551616)(hi:i<64)(hb:w.testBit i=true)(hg:¬Wm i):JY (w:Int)=(XU,5):=by unfold JY;rw[Ac];rintro⟨h1,h2,_⟩;exact hg ((Wn hw).1 ⟨h1,h2⟩ i hi hb)
abbrev uP(B b:Nat):Ab:=(B,.cells (toArray [.pointer (some ⟨b,0,none⟩),.pointer (some ⟨b,1,none⟩),.pointer (some ⟨b,2,none⟩),.pointer (some ⟨b,3,none⟩)]) 505 (0,0))
set_option maxHeartbeats 1000000 in
theorem Wo(w:Nat)(hw:w<18446744073709551616)(l:List Ab):Fn prog 344 [.int .u64 (w:Nat)] l λv l'=>v= .tuple #[Wk (JY (w:Int)).1,iV (JY (w:Int)).2]/\l'=l:=by
 refine AO func344 ntmps344 λE=>?_;refine AQ λb2=>?_;refine AQ λb4=>?_;refine Bc (AK rfl rfl λl2 _=>TO b4 l2) ?_;refine AQ λb5=>?_;refine Cu (α:=Nat) (λi=>[(0,.int .u64 (w:Nat)),(2,pV b2),(4,pV b4),(5,pV b5),(6,.int .u64 (Zz w i:Nat)),(11,.int .i64 (i:Nat))]) (λi=>uP b5 b4::Pd b4 (UO w i)::Pd b2 XU::l) (λi=>i<=64/\ ∀j,j<i->w.testBit j=true->Wm j) (λi=>64-i) 0 ⟨Af,λj hj=>by omega⟩ ⟨rfl,rfl,rfl,rfl,by rw[show Zz w 0=0 from Nat.mod_one _];rfl,rfl,trivial⟩ (by rw[show UO w 0=XU by simp[UO]];exact .refl) ?_;rintro i ⟨hi,hg⟩;by_cases h64:i<64
 case neg=>
  obtain rfl:i=64:=by omega
  have hgood:=(Wn hw).2 hg;have hf6:Zz w 64<64:=Gy _ AW;refine Aj ?_;refine Bc (AK rfl rfl λl2 _=>Ya ({UO w 64 with fr:=(Zz w 64:Nat)}:RJ) l2) ?_;rw[mD];unfold JY;rw[A3];cases hm:SF (bE w) with
  |false=>rw[Ac (by simp)];refine Aj ?_;exact qr
  |true=>rw[Ae ⟨hgood.1,hgood.2,rfl⟩];refine Aj ?_;refine qr (hx:=?_);rw[<-mD];rfl
 refine Aj ?_;refine Bc (AK rfl rfl λl2 _=>Pj w hw i 1 Af Af Af Af l2) ?_;rw[show(1:Int).toNat=1 from rfl,A3,bJ];cases hb:w.testBit i with
 |false=>refine Aj ?_;exact BS (i+1) ⟨Af,λj hj h=>by by_cases e:j=i;subst e;rw[hb] at h;cases h;exact hg j Af h⟩ Af ⟨rfl,rfl,rfl,rfl,by rw[rE (.inl hb)];rfl,rfl,trivial⟩ (by rw[tS hb];exact .refl)
 |true=>
  rw[Ae rfl];by_cases h4:i<4
  ·refine Aj ?_;refine Bc (Dv (v:= .pointer (some ⟨b4,i,none⟩)) rfl (.head _) (by rcases i with _|_|_|_|i<;>first|rfl|omega)) ?_;refine Aj ?_;refine LV (C7 (l':=uP b5 b4::Pd b4 (UO w (i+1))::Pd b2 XU::l) rfl rfl rfl (by rw[tT hb h4];exact .there .here) (by simp;omega)) rfl rfl ?_;rintro _ _ ⟨rfl,rfl⟩;refine Aj ?_;exact BS (i+1) ⟨Af,λj hj h=>by by_cases e:j=i;subst e;exact .inl h4;exact hg j Af h⟩ Af ⟨rfl,rfl,rfl,rfl,by rw[rE (.inr (.inl Af))];rfl,rfl,trivial⟩ .refl
  by_cases h8:8<=i/\i<14
  ·obtain⟨h8,h14⟩:=h8;obtain⟨f1,f2⟩:=tU hb h8 h14;refine Aj ?_;refine Bc (AK rfl rfl λl2 _=>mB (Zz w i) ((i:Int)-8) Af Af Af l2) ?_;rw[show((i:Int)-8).toNat=i-8 by omega,f1];refine Aj ?_;exact BS (i+1) ⟨Af,λj hj h=>by by_cases e:j=i;subst e;exact .inr ⟨h8,h14⟩;exact hg j Af h⟩ Af ⟨rfl,rfl,rfl,rfl,rfl,rfl,trivial⟩ (by rw[rD Af];exact .refl)
  ·rw[ku hw h64 hb Af];by_cases h8':i<8;all_goals
    refine Aj ?_;exact qr
theorem oq(hu: ∀w,w∈W->JW w)(a:Int):JW (Np W a).1:=by
 unfold Np
 split
 ·rw[List.getD];cases h:W[(a/8).toNat]? with
  |none=>exact⟨by decide,by decide⟩
  |some w=>exact hu w (A9 h)
 ·show JW 0;exact⟨by decide,by decide⟩
theorem kv(w:Int):0<=(JY w).1.fr/\(JY w).1.fr<64:=by
 unfold JY
 split
 ·simp only[bE];omega
 ·exact⟨by decide,by decide⟩
theorem RS(b gb F:Nat)(W:List Int)(h1:F<=64)(hW:W.length=F*8)(hu: ∀w,w∈W->JW w)(a:Int)(a0:0<=a)(a1:a<18446744073709551616)(leaf:Bool)(l:List Ab)(m1:NW b gb F∈l)(m2:So gb W∈l):Fn prog 306 [pV b,Ba a,.bool leaf] l λv l'=>v= .tuple #[Wk (GO W a leaf).1,iV (GO W a leaf).2]/\l'=l:=by
 obtain⟨n,hn,hn6⟩: ∃n:Nat,(Np W a).1=n/\n<18446744073709551616:=⟨(Np W a).1.toNat,by have:=oq hu a;omega,by have:=oq hu a;omega⟩
 have hF:nF W=F:=by unfold nF;omega
 unfold GO;rw[hF,hn];refine AO func306 ntmps306 λE=>?_;refine AQ λb6=>?_;refine Bc (AK rfl rfl λl2 hl=>Zy b gb F W h1 hW a a0 a1 l2 (hl _ (.tail _ m1)) (hl _ (.tail _ m2))) ?_;rw[hn];by_cases he:(Np W a).2=0
 case neg=>rw[Ae he];refine Aj ?_;exact qr
 rw[Ac (FC he)];refine Aj ?_;refine Bc (AK rfl rfl λl2 hl=>Wo n hn6 l2) ?_;obtain⟨x,hx⟩: ∃x,(JY n).1=x:=⟨_,rfl⟩
 obtain⟨e,he2⟩: ∃e,(JY n).2=e:=⟨_,rfl⟩
 rw[hx,he2];refine Aj ?_;refine AS e_alloc ?_;rintro _ _ ⟨b10,_,rfl,rfl⟩;by_cases h0:e=0
 case neg=>rw[Ae h0];refine Aj ?_;exact qr
 rw[Ac (FC h0)];cases hv:x.vd with
 |false=>rw[Ae rfl];refine Aj ?_;rw[hv];refine Aj ?_;exact qr
 |true=>
 rw[Ac AW];refine Aj ?_;rw[hv];refine Aj ?_;refine Hw ?_;by_cases hl:x.lf=leaf
 case neg=>
  rw[Ae (.inl hl)];have:(x.lf==leaf)=false:=by simpa using hl
  refine BI ?_;rw[this];refine BI ?_;refine Aj ?_;exact qr
 have:(x.lf==leaf)=true:=by simpa using hl
 refine BI ?_;rw[this];refine BI ?_;refine pq (λl2 hl2=>PG b gb F l2 (hl2 _ (.tail _ (.tail _ m1)))) ?_;by_cases hf:x.fr>=F
 ·rw[Ae (.inr hf)];refine BI ?_;refine Aj ?_;exact qr
 ·rw[Ac (by rintro(h|h)<;>contradiction)];refine BI ?_;refine Aj ?_;exact qr
theorem fG(b gb F:Nat)(W:List Int)(hF:nF W=F)(root page lv:Int)(l:List Ab)(m1:NW b gb F∈l):Fn prog 338 [pV b,.int .i64 root,.int .i64 page,.int .i64 lv] l λv l'=>v=iV (RN W root page lv)/\l'=l:=by
 unfold RN;rw[hF];refine AO func338 ntmps338 λE=>?_;by_cases h1:root<0
 ·rw[Ae (.inl h1)];refine Aj ?_;exact qr
 refine Aj ?_;refine tq (λl2 hl=>PG b gb F l2 (hl _ m1)) ?_;by_cases hb:root>=F\/page<0\/page>=512\/lv<1\/lv>3
 ·rw[Ae (.inr hb)];by_cases h2:root>=F<;>by_cases h3:page<0<;>by_cases h4:page>=512<;>by_cases h5:lv<1<;>by_cases h6:lv>3;all_goals first
   |(exfalso;omega)
   |(refine Aj ?_
     exact qr)
 ·rw[Ac Af];refine Aj ?_;exact qr
theorem fH(b:Nat)(root page:Int)(l:List Ab):Fn prog 339 [pV b,.int .i64 root,.int .i64 page] l λv l'=> ∃B3 B4 B5,v= .func (.func 373) #[] #[pV B4,pV B5,pV B3]/\l'=BG B5 page::BG B4 root::Vd B3 b::l:=by refine AO func339 ntmps339 λE=>?_;refine AQ λb3=>?_;refine AQ λb4=>?_;refine AQ λb5=>?_;exact A8 .refl ⟨_,_,_,rfl,rfl⟩
abbrev sV(x:Int×Int×Int):List Value:=[iV x.1,.agg (toArray [Ba x.2.1,iV x.2.2])]
abbrev P3(B:Nat)(x:Int×Int):Ab:=(B,.cells (toArray [Ba x.1,iV x.2]) 511 (0,0))
theorem Pm(h1:0<=pg)(h2:pg<512)(h3:1<=lv)(h4:lv<=3):0<=jW pg lv/\jW pg lv<8:=by
 unfold jW;rw[Ac Af]
 (repeat' split)<;>omega
theorem Qm{a:Int}{lf:Bool}:0<=(GO W a lf).1.fr/\(GO W a lf).1.fr<64:=by
 unfold GO
 (repeat' split)
 all_goals first|exact⟨by decide,by decide⟩|exact kv _
theorem mF{root:Int}(h:¬(GO W (FF root page 1) false).2=0):LF W root page=[(1,FF root page 1,0),(2,0,(GO W (FF root page 1) false).2)]:=by unfold LF;rw[Ae h]
theorem mI{root:Int}{y:RJ}(h:GO W (FF root page 1) false=(x,0))(h2:¬(GO W (FF x.fr page 2) false).2=0):LF W root page=[(1,FF root page 1,0),(2,FF x.fr page 2,0),(3,0,(GO W (FF x.fr page 2) false).2)]:=by unfold LF;rw[h,Ac (by simp),Ae h2]
theorem mJ{root:Int}{y:RJ}(h:GO W (FF root page 1) false=(x,0))(h2:GO W (FF x.fr page 2) false=(y,0)):LF W root page=[(1,FF root page 1,0),(2,FF x.fr page 2,0),(3,FF y.fr page 3,0)]:=by unfold LF;rw[h,Ac (by simp),h2,Ac (by simp)]
set_option maxHeartbeats 2000000 in
theorem bK(B3 B4 B5 b gb F:Nat)(W:List Int)(h1:F<=64)(hW:W.length=F*8)(hu: ∀w,w∈W->JW w)(root page:Int)(r0:0<=root)(r1:root<64)(p0:0<=page)(p1:page<512):
 E2 prog 373 [pV B4,pV B5,pV B3] sV (λxs=>xs=LF W root page) (λpre=>pre<+:LF W root page)
  (λ_ l=>BG B5 page∈l/\BG B4 root∈l/\Vd B3 b∈l/\NW b gb F∈l/\So gb W∈l):=by
 refine⟨λr I Ix G0 hneed hY l G hG h0=>?_⟩;obtain⟨n1,n2,n3,n4,n5⟩:=hneed _ _ G hG h0;have i1:=Pm p0 p1 (lv:=1) Af Af;have i2:=Pm p0 p1 (lv:=2) Af Af;have i3:=Pm p0 p1 (lv:=3) Af Af;refine AO func373 ntmps373 λE=>?_;refine Aj ?_;refine Hb 3 ?_;refine Aj ?_;refine Ea ?_;refine AQ λb7=>?_;have hp1:[((1:Int),FF root page 1,(0:Int))]<+:LF W root page:=by unfold LF;exact⟨_,rfl⟩
 have hy:=hY [] (1,FF root page 1,0) l (P3 b7 (FF root page 1,0)::G) (λc hc=> .tail _ (hG c hc)) h0 hp1;refine Bk (Keep.of_perm AH.symm) ?_;refine It (CK rfl rfl hy) rfl rfl rfl ?_;rintro v _ ⟨l1,rfl,⟨rfl,hI⟩|⟨rfl,hx⟩⟩
 case' inr=>
  refine Aj ?_;exact A8 (Keep.appL l1 (.drop .refl)) ⟨l1,rfl,.inr ⟨_,hp1,hx⟩⟩
 obtain⟨n1,n2,n3,n4,n5⟩:=hneed _ _ (P3 b7 (FF root page 1,0)::G) (λc hc=> .tail _ (hG c hc)) hI;have q7:P3 b7 (FF root page 1,0)∈l1++P3 b7 (FF root page 1,0)::G:=Aa _ (.head _);refine Aj ?_;refine tq (λl2 hl=>RS b gb F W h1 hW hu (FF root page 1) (by unfold FF;omega) (by unfold FF;omega) false l2 (hl _ n4) (hl _ n5)) ?_;have xr:=Qm (W:=W) (a:=FF root page 1) (lf:=false);obtain⟨x,hx⟩: ∃x,(GO W (FF root page 1) false).1=x:=⟨_,rfl⟩
 obtain⟨e,he⟩: ∃e,(GO W (FF root page 1) false).2=e:=⟨_,rfl⟩
 rw[hx] at xr;rw[hx,he];refine AQ λb8=>?_;by_cases e0:e=0
 case neg=>
  have hs:=mF (W:=W) (root:=root) (page:=page) (by rw[he];exact e0);rw[he] at hs;have hp2:[(1,FF root page 1,0),(2,0,e)]<+:LF W root page:=by rw[hs];exact⟨[],rfl⟩
  have hy2:=hY [(1,FF root page 1,0)] (2,0,e) l1 ((b8,Obj.cells (toArray (RM x)) 390 (0,0))::P3 b7 (FF root page 1,0)::G) (λc hc=> .tail _ (.tail _ (hG c hc))) hI hp2;refine Aj ?_;refine Bk (Keep.of_perm AH.symm) ?_;refine It (CK rfl rfl hy2) rfl rfl rfl ?_;rintro v _ ⟨l2,rfl,⟨rfl,hI2⟩|⟨rfl,hx2⟩⟩
  ·refine Aj ?_;exact A8 (Keep.appL l2 (.drop (.drop .refl))) ⟨l2,rfl,.inl ⟨_,hs.symm,hI2⟩⟩
  ·refine Aj ?_;exact A8 (Keep.appL l2 (.drop (.drop .refl))) ⟨l2,rfl,.inr ⟨_,hp2,hx2⟩⟩
 have h1e:GO W (FF root page 1) false=(x,0):=I0 hx (he.trans e0);subst e0;have g8:(b8,Obj.cells (toArray (RM x)) 390 (0,0))∈(b8,Obj.cells (toArray (RM x)) 390 (0,0))::(l1++P3 b7 (FF root page 1,0)::G):= .head _;refine Aj ?_;refine Ew ?_;refine Aj ?_;rw[show(1:Int)+1=2 from rfl];refine Ea ?_;refine AQ λb9=>?_;have hp2:[(1,FF root page 1,0),(2,FF x.fr page 2,0)]<+:LF W root page:=by unfold LF;rw[h1e,Ac (by simp)];exact⟨_,rfl⟩
 obtain⟨T,hT⟩: ∃T,T=(b8,Obj.cells (toArray (RM x)) 390 (0,0))::P3 b7 (FF root page 1,0)::G:=⟨_,rfl⟩
 have hTG: ∀c,c∈G->c∈T:=λc hc=>by rw[hT];exact .tail _ (.tail _ hc)
 have hy2:=hY [(1,FF root page 1,0)] (2,FF x.fr page 2,0) l1 (P3 b9 (FF x.fr page 2,0)::T) (λc hc=> .tail _ (hTG c (hG c hc))) hI hp2;refine Bk (l':=l1++P3 b9 (FF x.fr page 2,0)::T) (by rw[hT];exact Keep.in_mid [_,_] l1 _) ?_;refine It (CK rfl rfl hy2) rfl rfl rfl ?_;rintro v _ ⟨l2,rfl,⟨rfl,hI2⟩|⟨rfl,hx2⟩⟩
 case' inr=>
  refine Aj ?_;exact A8 (Keep.appL l2 (by rw[hT];exact .drop (.drop (.drop .refl)))) ⟨l2,rfl,.inr ⟨_,hp2,hx2⟩⟩
 obtain⟨n1,n2,n3,n4,n5⟩:=hneed _ _ (P3 b9 (FF x.fr page 2,0)::T) (λc hc=> .tail _ (hTG c (hG c hc))) hI2;have q9:P3 b9 (FF x.fr page 2,0)∈l2++P3 b9 (FF x.fr page 2,0)::T:=Aa _ (.head _);refine Aj ?_;refine tq (λl3 hl=>RS b gb F W h1 hW hu (FF x.fr page 2) (by unfold FF;omega) (by unfold FF;omega) false l3 (hl _ n4) (hl _ n5)) ?_;have yr:=Qm (W:=W) (a:=FF x.fr page 2) (lf:=false);obtain⟨y,hy⟩: ∃y,(GO W (FF x.fr page 2) false).1=y:=⟨_,rfl⟩
 obtain⟨e,he⟩: ∃e,(GO W (FF x.fr page 2) false).2=e:=⟨_,rfl⟩
 rw[hy] at yr;rw[hy,he];refine AQ λb10=>?_;by_cases e0:e=0
 case neg=>
  have hs:=mI (y:=y) h1e (by rw[he];exact e0);rw[he] at hs;have hp3:[(1,FF root page 1,0),(2,FF x.fr page 2,0),(3,0,e)]<+:LF W root page:=by rw[hs];exact⟨[],rfl⟩
  have hy3:=hY [(1,FF root page 1,0),(2,FF x.fr page 2,0)] (3,0,e) l2 ((b10,Obj.cells (toArray (RM y)) 390 (0,0))::P3 b9 (FF x.fr page 2,0)::T) (λc hc=> .tail _ (.tail _ (hTG c (hG c hc)))) hI2 hp3;refine Aj ?_;refine Bk (Keep.of_perm AH.symm) ?_;refine It (CK rfl rfl hy3) rfl rfl rfl ?_;rintro v _ ⟨l3,rfl,⟨rfl,hI3⟩|⟨rfl,hx3⟩⟩
  ·refine Aj ?_;exact A8 (Keep.appL l3 (by rw[hT];exact .drop (.drop (.drop (.drop .refl))))) ⟨l3,rfl,.inl ⟨_,hs.symm,hI3⟩⟩
  ·refine Aj ?_;exact A8 (Keep.appL l3 (by rw[hT];exact .drop (.drop (.drop (.drop .refl))))) ⟨l3,rfl,.inr ⟨_,hp3,hx3⟩⟩
 have h2e:GO W (FF x.fr page 2) false=(y,0):=I0 hy (he.trans e0);subst e0;have hs:=mJ h1e h2e;refine Aj ?_;refine Ew ?_;refine Aj ?_;rw[show(2:Int)+1=3 from rfl];refine Ea ?_;refine AQ λb11=>?_;have hp3:[(1,FF root page 1,0),(2,FF x.fr page 2,0),(3,FF y.fr page 3,0)]<+:LF W root page:=by rw[hs];exact⟨[],rfl⟩
 have hy3:=hY [(1,FF root page 1,0),(2,FF x.fr page 2,0)] (3,FF y.fr page 3,0) l2 (P3 b11 (FF y.fr page 3,0)::(b10,Obj.cells (toArray (RM y)) 390 (0,0))::P3 b9 (FF x.fr page 2,0)::T) (λc hc=> .tail _ (.tail _ (.tail _ (hTG c (hG c hc))))) hI2 hp3;refine Bk (l':=l2++P3 b11 (FF y.fr page 3,0)::(b10,Obj.cells (toArray (RM y)) 390 (0,0))::P3 b9 (FF x.fr page 2,0)::T) (Keep.in_mid [_,_] l2 _) ?_;refine It (CK rfl rfl hy3) rfl rfl rfl ?_;have hK: ∀l3,Keep (l3++P3 b11 (FF y.fr page 3,0)::(b10,Obj.cells (toArray (RM y)) 390 (0,0))::P3 b9 (FF x.fr page 2,0)::T) (l3++G):=λl3=>Keep.appL l3 (by rw[hT];exact .drop (.drop (.drop (.drop (.drop .refl)))));rintro v _ ⟨l3,rfl,⟨rfl,hI3⟩|⟨rfl,hx3⟩⟩
 ·refine Aj ?_;exact A8 (hK l3) ⟨l3,rfl,.inl ⟨_,hs.symm,hI3⟩⟩
 ·refine Aj ?_;exact A8 (hK l3) ⟨l3,rfl,.inr ⟨_,hp3,hx3⟩⟩
theorem ou{root:Int}(h:¬RN W root page lv=0):RN W root page lv=3:=by
 unfold RN at h⊢
 split
 ·rfl
 ·rename_i hc;rw[Ac hc] at h;exact absurd rfl h
abbrev UP(lv:Int)(x:Int×Int×Int):Bool:=decide (x.1=lv)||!decide (x.2.2=0)
theorem kw(W:List Int)(root page lv:Int)(h1:1<=lv)(h3:lv<=3): ∃x,x∈LF W root page/\UP lv x=true:=by
 by_cases e1:(GO W (FF root page 1) false).2=0
 case neg=>rw[mF e1];exact⟨_,.tail _ (.head _),by simp[UP,e1]⟩
 have p1:GO W (FF root page 1) false=((GO W (FF root page 1) false).1,0):=I0 rfl e1;by_cases e2:(GO W (FF (GO W (FF root page 1) false).1.fr page 2) false).2=0
 case neg=>rw[mI (y:=XU) p1 e2];exact⟨_,.tail _ (.tail _ (.head _)),by simp[UP,e2]⟩
 rw[mJ p1 (I0 rfl e2)];obtain rfl|rfl|rfl:lv=1\/lv=2\/lv=3:=by omega
 ·exact⟨_,.head _,rfl⟩
 ·exact⟨_,.tail _ (.head _),rfl⟩
 ·exact⟨_,.tail _ (.tail _ (.head _)),rfl⟩
theorem Wp{α:Type}{q:α->Bool}{xs pre:List α}{x:α}(hp:pre++[x]<+:xs)(hn: ∀y,y∈pre->q y=false)(hx:q x=true):xs.find? q=some x:=by obtain⟨r,rfl⟩:=hp;rw[Al,DP,Bu.2 (λy hy=>by rw[hn y hy];decide)];simp[hx]
set_option maxHeartbeats 1000000 in
theorem UQ(b gb F:Nat)(W:List Int)(h1:F<=64)(hW:W.length=F*8)(hu: ∀w,w∈W->JW w)(root page lv:Int)(l:List Ab)(m1:NW b gb F∈l)(m2:So gb W∈l):Fn prog 299 [pV b,.int .i64 root,.int .i64 page,.int .i64 lv] l λv l'=>v= .tuple #[Ba (O5 W root page lv).1,iV (O5 W root page lv).2]/\l'=l:=by
 have hF:nF W=F:=by unfold nF;omega
 unfold O5;refine AO func299 ntmps299 λE=>?_;refine AQ λb7=>?_;refine tq (λl2 hl=>fG b gb F W hF root page lv l2 (hl _ (.tail _ m1))) ?_;by_cases hb:RN W root page lv=0
 case neg=>have h3:RN W root page lv=3:=ou hb;rw[Ae hb,h3];refine Aj ?_;exact qr
 rw[Ac (FC hb),hb];obtain⟨r0,r1,p0,p1,v1,v3⟩:0<=root/\root<F/\0<=page/\page<512/\1<=lv/\lv<=3:=by
  unfold RN at hb;rw[hF] at hb
  split at hb<;>omega
 obtain⟨z,hz,hz2⟩:=kw W root page lv v1 v3;refine AQ λb11=>?_;refine AS (Az rfl rfl (fH b root page _)) ?_;rintro _ _ ⟨B3,B4,B5,rfl,rfl⟩;refine Aj ?_;refine CU (α:=Int×Int×Int) (ps:=[26,27]) (lb:=[pV B4,pV B5,pV B3]) rfl (bK B3 B4 B5 b gb F W h1 hW hu root page r0 Af p0 p1) (λ_=>rfl) rfl
  (λpre l=>(∀x,x∈pre->UP lv x=false)/\ ∃y,l=[BG B5 page,BG B4 root,Vd B3 b,P3 b11 y,BG b7 lv])
  (λc pre l=>c= .exit 0/\ ∃pre' x,pre=pre'++[x]/\(∀x,x∈pre'->UP lv x=false)/\UP lv x=true/\l=[BG B5 page,BG B4 root,Vd B3 b,P3 b11 x.2,BG b7 lv])
  [BG B5 page,BG B4 root,Vd B3 b,P3 b11 (0,0),BG b7 lv] l (λpre l2 X2 hX h=>by obtain⟨y,rfl⟩:=h.2;exact⟨Ai _ (by exact BO),Ai _ (by exact BO),Ai _ (by exact BO),Aa _ (hX _ m1),Aa _ (hX _ m2)⟩) (by exact AR) ⟨λ_ h=>(nomatch h),(0,0),rfl⟩ ?_ ?_ ?_
 ·rintro E r0 rec pre ⟨x1,x2,x3⟩ l' T ⟨fn,tmps,D,rfl⟩ hT ⟨hn,⟨y1,y2⟩,rfl⟩ hsp;simp only[Du,Ad,Ag];refine AQ λb13=>?_;refine Cp (by exact Dw) ?_;refine Aj ?_;by_cases h1:x1=lv
  ·refine Aj ?_;exact Et [BG B5 page,BG B4 root,Vd B3 b,P3 b11 (x2,x3),BG b7 lv] (by exact AR) ⟨rfl,_,_,rfl,hn,by simp[UP,h1],rfl⟩
  by_cases h2:x3=0
  ·refine Aj ?_;exact B9 [BG B5 page,BG B4 root,Vd B3 b,P3 b11 (x2,x3),BG b7 lv] (by exact AR) ⟨λz hz=>by
    rcases AF.1 hz with hz|hz
    ·exact hn z hz
    ·rw[AA.1 hz];simp[UP,h1,h2],_,rfl⟩
  ·refine Aj ?_;exact Et [BG B5 page,BG B4 root,Vd B3 b,P3 b11 (x2,x3),BG b7 lv] (by exact AR) ⟨rfl,_,_,rfl,hn,by simp[UP,h2],rfl⟩
 ·rintro D xs l' rfl ⟨hn,_⟩;rw[hn z hz] at hz2;cases hz2
 ·rintro D c pre l' hsp ⟨rfl,pre',⟨x1,x2,x3⟩,rfl,hn,hx,rfl⟩;simp only[Ad,Ag];rw[Wp hsp hn hx];refine Aj ?_;refine Hw ?_;refine BI ?_;refine Aj ?_;exact AU [D] _ rfl (l':=l) (by exact AR) (by exact A7) (by exact AR) ⟨rfl,rfl⟩
theorem tV{f:Int}(h0:0<=f)(h1:f<64)(h2:0<=jW pg lv/\jW pg lv<8):JW (FF f pg lv):=⟨by unfold FF;omega,by unfold FF;omega⟩
theorem rF{root:Int}(r0:0<=root)(r1:root<64)(p0:0<=page)(p1:page<512): ∀x,x∈LF W root page->JW x.2.1:=by
 have i1:=Pm p0 p1 (lv:=1) Af Af;have i2:=Pm p0 p1 (lv:=2) Af Af;have i3:=Pm p0 p1 (lv:=3) Af Af;intro x hx;have e1:=Qm (W:=W) (a:=FF root page 1) (lf:=false);have e2:=Qm (W:=W) (a:=FF (GO W (FF root page 1) false).1.fr page 2) (lf:=false);unfold LF at hx;have z:JW 0:=⟨by decide,by decide⟩
 rcases Aq.1 hx with rfl|hx
 ·exact tV r0 r1 i1
 split at hx
 ·rw[AA.1 hx];exact z
 rcases Aq.1 hx with rfl|hx
 ·exact tV e1.1 e1.2 i2
 split at hx
 ·rw[AA.1 hx];exact z
 ·rw[AA.1 hx];exact tV e2.1 e2.2 i3
theorem fI(hW:W.length<=512){root:Int}:JW (O5 W root page lv).1:=by
 have z:JW 0:=⟨by decide,by decide⟩
 unfold O5
 split
 ·exact z
 ·rename_i hb;have hb:RN W root page lv=0:=by simpa using hb
  unfold RN at hb
  split at hb
  ·cases hb
  rename_i hc;have:nF W<=64:=by unfold nF;omega
  split
  ·rename_i x hx;exact rF Af Af Af Af x (BN hx)
  ·exact z
theorem bL(b gb F:Nat)(W:List Int)(h1:F<=64)(hW:W.length=F*8)(hu: ∀w,w∈W->JW w)(root page:Int)(l:List Ab)(m1:NW b gb F∈l)(m2:So gb W∈l):Fn prog 228 [pV b,.int .i64 root,.int .i64 page] l λv l'=>v= .tuple #[Wk (MZ W root page).1,iV (MZ W root page).2]/\l'=l:=by
 unfold MZ;refine AO func228 ntmps228 λE=>?_;refine AQ λb6=>?_;refine tq (λl2 hl=>UQ b gb F W h1 hW hu root page 3 l2 (hl _ (.tail _ m1)) (hl _ (.tail _ m2))) ?_;by_cases h0:(O5 W root page 3).2=0
 case neg=>rw[Ae h0];refine Aj ?_;exact qr
 rw[Ac (FC h0)];refine Aj ?_;have ar:=fI (W:=W) Af (root:=root) (page:=page) (lv:=3);refine tq (λl2 hl=>RS b gb F W h1 hW hu (O5 W root page 3).1 ar.1 ar.2 true l2 (hl _ (.tail _ m1)) (hl _ (.tail _ m2))) ?_;refine Aj ?_;exact qr
end Go.Proofs.YtlkgekpmileobaaGreat
