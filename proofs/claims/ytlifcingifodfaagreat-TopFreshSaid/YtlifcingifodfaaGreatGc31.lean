/- Laws that the statement's proof leans on (joined out of several texts). -/
import Derived.Test.YtlifcingifodfaaGreatGc30
import Derived.Laws.Externs
set_option maxHeartbeats 4000000
set_option linter.unusedVariables false
set_option linter.unusedSimpArgs false
namespace Go.Proofs.YtlifcingifodfaaGreat
open Tryz
open List(toArray)
open Go.RowKit
variable{i n e k:Nat}{W:A4}{page lv pg:Int}{cs:Ap}{ki:IntKind}{x:T5}
section
variable{P:Program}{ro:Option Nat}{N:Nat}{fr:Fr}{R l:Ad}{d:Option Nat}{ty:TypeId}{pos:String}{aft:Array Edge}{g:Option (Nat×Bool)}{x y z:Operand}{v u w:Value}{b m:Nat}{t t2 T kt et:TypeId}
theorem aV{k':Nat}{ws:Ap}(hx:ev fr x=some (.agg (toArray cs)))(hy:ev fr y=some (.int ki (i:Nat)))[c:AT P t n e k][c2:AG P e k'](hi:i<n)(hw:(cs.drop (i*k)).take k=ws):OpQ P ro N fr R ⟨d,.index t x y,ty,pos,aft,g⟩ (.agg (toArray ws)):=BM rfl λρ l hρ _=>by obtain⟨Hp,h1,h2,h3⟩:=Mn c.out;obtain⟨u,inf2,u1,u2,u3,u4⟩:=KR c2.out;rw[h2] at u3;cases u3;subst hw;simp only[execOp,hρ x _ hx,hρ y _ hy];rw[AC];unfold Instr.index;simp only[asIntOf,AC,Bn];rw[<-AC,Cc h1];simp only;rw[Ac ⟨Af,Af⟩,Fe h2];have:=Vn (P:=P) (f:=λv=>(pure v:Sem Value)) (l:=l) (Q:=λa l'=>sl P (pure (Next.value a)) l' λnx l'=>nx= .value (.agg (toArray ((cs.drop (i*k)).take k)))/\l'=l) u1 u2 h2 cs (i*k);rw[AC] at this;rw[AY,h3];rw[h3] at this;exact this.2 ⟨rfl,rfl⟩
theorem aW(hx:ev fr x=some (.agg (toArray cs)))(hy:ev fr y=some (.int ki (i:Nat)))[c:AT P t n e k][c2:OC P e](hi:i<n)(hv:cs[i*k]?=some v):OpQ P ro N fr R ⟨d,.index t x y,ty,pos,aft,g⟩ v:=BM rfl λρ l hρ _=>by obtain⟨Hp,h1,h2,h3⟩:=Mn c.out;obtain⟨u,inf2,u1,u2,_,_⟩:=Mo c2.out;simp only[execOp,hρ x _ hx,hρ y _ hy];rw[AC];unfold Instr.index;simp only[asIntOf,AC,Bn];rw[<-AC,Cc h1];simp only;rw[Ac ⟨Af,Af⟩,Fe h2];have:=Vo (P:=P) (f:=λv=>(pure v:Sem Value)) (l:=l) (Q:=λa l'=>sl P (pure (Next.value a)) l' λnx l'=>nx= .value v/\l'=l) u1 u2 cs (i*k) hv;rw[AC] at this;rw[AY,h3];exact this.2 ⟨rfl,rfl⟩
end
set_option maxRecDepth 20000
instance:EQ prog 389 [none,none,none,none,some .i64]:=⟨BB⟩
abbrev Q8(B:Nat)(e:T5):Bg:=(B,.cells (toArray (T6 e)) 389 (0,0))
abbrev YQ(e:T5):Value:= .agg (toArray (T6 e))
theorem enK(e:T5):AllK [none,none,none,none,some .i64] (T6 e):=⟨_,_,rfl,⟨_,rfl⟩,_,_,rfl,⟨_,rfl⟩,_,_,rfl,⟨_,rfl⟩,_,_,rfl,⟨_,rfl⟩,_,_,rfl,⟨_,rfl⟩,rfl⟩
theorem eqE(e f:T5):BZ (T6 e) (T6 f)=decide (e=f):=by obtain⟨a,b,c,d,x⟩:=e;obtain⟨a',b',c',d',x'⟩:=f;rw[Kc];simp[BZ,N3]
theorem aX(e:T5)(l:Ad):Fn prog 332 [YQ e] l λv l'=>v= .bool (UY e)/\l'=l:=by
 unfold UY;refine AO func332 ntmps332 λE=>?_;refine AQ λb1=>?_;cases hv:e.vd with
 |false=>rw[Ac rfl];refine Aj ?_;refine Be (Gr (xs:=T6 e) (ys:=T6 aN) rfl rfl (enK e) (enK aN)) ?_;rw[eqE];refine Aj ?_;exact qr
 |true=>
  rw[Ab AZ];refine Aj ?_;by_cases h:e.fr<0\/e.fr>=64
  ·rw[Ac h];by_cases h1:e.fr<0<;>by_cases h2:e.fr>=64;all_goals first
    |(exfalso;omega)
    |(refine Aj ?_
      exact qr)
  ·rw[Ab h];refine Aj ?_;cases hr:e.rd;all_goals
    refine Aj ?_;exact qr
theorem VW(b:Nat)(l:Ad):Fn prog 334 [pV b] l λv l'=>v= .agg (toArray [.pointer (some ⟨b,0,none⟩),.pointer (some ⟨b,1,none⟩),.pointer (some ⟨b,2,none⟩),.pointer (some ⟨b,3,none⟩)])/\l'=l:=by
 refine AO func334 ntmps334 λE=>?_;refine AQ λb2=>?_;refine Cx (Cr [13] 0 14) ?_;iterate 12 refine Yb ?_
 refine Yb ?_ (GL (zs:=[.pointer none,.pointer none,.pointer none,.pointer none]) (cs:=[.pointer (some ⟨b,0,none⟩),.pointer (some ⟨b,1,none⟩),.pointer (some ⟨b,2,none⟩),.pointer (some ⟨b,3,none⟩)]) rfl rfl);refine kA ?_;refine Q3 ?_;refine Aj ?_;exact qr
theorem t7(w:Nat)(a:Int)(h0:0<=a)(h1:a<64)(hw:w<18446744073709551616)(l:Ad):Fn prog 333 [.int .u64 (w:Nat),.int .i64 a,.int .i64 1,.int .u64 1] l λr l'=>r= .tuple #[.int .u64 (Po w a.toNat 1 1:Nat),.int .i64 0]/\l'=l:=by
 obtain⟨a,rfl⟩: ∃q:Nat,a=q:=⟨a.toNat,Af⟩
 exact YP w a 1 1 hw AZ AZ Af AZ l
theorem wA(w a:Nat):Po w a 1 1=2^a*(2*(w/2^(a+1))+1)+w%2^a:=rfl
theorem wB(vd lf rd wr:Bool)(f:Nat)(hf:f<64)(hm:UY ⟨vd,lf,rd,wr,f⟩=true)(l:Ad):Fn prog 294 [.agg (toArray [.bool vd,.bool lf,.bool rd,.bool wr,.int .i64 (f:Nat)])] l λv l'=>v= .tuple #[Bc ((vd.toNat+2*lf.toNat+4*rd.toNat+8*wr.toNat:Nat)+256*(f:Int)),iV 0]/\l'=l:=by
 refine AO func294 ntmps294 λE=>?_;refine AQ λb1=>?_;refine Be (AL rfl rfl λl2 _=>aX ⟨vd,lf,rd,wr,f⟩ l2) ?_;rw[hm];refine Aj ?_;refine Be (AL rfl rfl λl2 _=>YP 0 8 6 f AZ AZ AZ AZ Af l2) ?_;refine Aj ?_;refine Be (AL rfl rfl λl2 _=>VW b1 l2) ?_;refine Aj ?_;refine H9 4 ?_;cases vd<;>cases lf<;>cases rd<;>cases wr;all_goals first
  |(exfalso;revert hm;simp[UY];done)
  |(iterate 4
     refine Aj ?_;refine Be (aW rfl rfl AZ rfl) ?_;refine Aj ?_;try(refine Be (AL rfl rfl λl2 _=>t7 _ _ AZ AZ (by simp[Po];omega) l2) ?_)
     refine Aj ?_;refine E8 ?_
    refine Aj ?_;refine qr (hx:=?_)
    first|(simp[Jv,Po];done)|(simp[Jv,Po];omega))
theorem YR(e:T5)(l:Ad):Fn prog 294 [YQ e] l λv l'=>v= .tuple #[Bc (Qm e).1,iV (Qm e).2]/\l'=l:=by
 unfold Qm;cases hm:UY e with
 |true=>
  obtain⟨vd,lf,rd,wr,fr⟩:=e;obtain⟨f,rfl,hf⟩: ∃f:Nat,fr=f/\f<64:=by
   unfold UY at hm;cases vd
   ·simp at hm;exact⟨0,Af,Af⟩
   ·simp only[Bool.true_eq_false,C3] at hm
    split at hm
    ·cases hm
    ·exact⟨fr.toNat,Af,Af⟩
  exact wB vd lf rd wr f hf hm l
 |false=>
 refine AO func294 ntmps294 λE=>?_;refine AQ λb1=>?_;refine Be (AL rfl rfl λl2 _=>aX e l2) ?_;rw[hm];refine Aj ?_;exact qr
def WX(w i:Nat):T5:=⟨w.testBit 0&&decide (0<i),w.testBit 1&&decide (1<i),w.testBit 2&&decide (2<i),w.testBit 3&&decide (3<i),0⟩
def dQ(w i:Nat):Nat:=w/256%2^(min i 14-8)
abbrev YS(j:Nat):Prop:=j<4\/(8<=j/\j<14)
theorem AdP{w:Nat}(h:w.testBit i=false):WX w (i+1)=WX w i:=by
 have key: ∀j,(w.testBit j&&decide (j<i+1))=(w.testBit j&&decide (j<i)):=λj=>by
  by_cases e:j=i
  ·subst e;rw[h];rfl
  ·congr 1;exact decide_eq_decide.2 Af
 unfold WX;rw[key,key,key,key]
theorem AaQ{w:Nat}(h:4<=i):WX w (i+1)=WX w i:=by
 have key: ∀j,j<4->(w.testBit j&&decide (j<i+1))=(w.testBit j&&decide (j<i)):=λj hj=>by congr 1;exact decide_eq_decide.2 Af
 unfold WX;rw[key 0 Af,key 1 Af,key 2 Af,key 3 Af]
theorem AdQ{w:Nat}(h:w.testBit i=true)(hi:i<4):(toArray (T6 (WX w i))).setIfInBounds i (.bool true)=toArray (T6 (WX w (i+1))):=by
 rcases i with _|_|_|_|i
 ·simp[WX,T6,h]
 ·simp[WX,T6,h]
 ·simp[WX,T6,h]
 ·simp[WX,T6,h]
 ·omega
theorem AaR{w:Nat}(h:w.testBit i=false\/i<8\/14<=i):dQ w (i+1)=dQ w i:=by
 unfold dQ;by_cases h1:i<8
 ·rw[show min (i+1) 14-8=0 by omega,show min i 14-8=0 by omega]
 by_cases h2:14<=i
 ·rw[show min (i+1) 14=min i 14 by omega]
 have hb:w.testBit i=false:=by rcases h with h|h|h;exact h;omega;omega
 rw[show min (i+1) 14-8=(i-8)+1 by omega,show min i 14-8=i-8 by omega];rw[DS] at hb;have hb:¬w/2^i%2=1:=by simpa using hb
 have e:w/256/2^(i-8)=w/2^i:=by rw[Nat.div_div_eq_div_mul,show(256:Nat)=2^8 from rfl,<-Nat.pow_add,show 8+(i-8)=i by omega]
 rw[Nat.pow_succ,Nat.mod_mul,e,show w/2^i%2=0 by omega];simp
theorem AdR{w:Nat}(h:w.testBit i=true)(h1:8<=i)(h2:i<14):Po (dQ w i) (i-8) 1 1=dQ w (i+1)/\dQ w i<64:=by
 unfold dQ;rw[show min (i+1) 14-8=(i-8)+1 by omega,show min i 14-8=i-8 by omega];rw[DS] at h;have h:w/2^i%2=1:=by simpa using h
 have e:w/256/2^(i-8)=w/2^i:=by rw[Nat.div_div_eq_div_mul,show(256:Nat)=2^8 from rfl,<-Nat.pow_add,show 8+(i-8)=i by omega]
 have hl:=Hi (w/256) (show 2^(i-8)>0 from Nat.pow_pos Af);have hp:2^(i-8)<=2^5:=CT Af Af;refine⟨?_,Af⟩;rw[wA,Nat.pow_succ,Nat.mod_mul,e,h,Nat.div_eq_of_lt Af,Dx hl];omega
theorem ie(w i:Nat):Ee w i 1=if w.testBit i=true then 1 else 0:=by
 unfold Ee;rw[DS];by_cases h:w/2^i%2=1
 ·rw[Ac (by simpa using h)];simpa using h
 ·rw[Ab (by simpa using h)];simp;omega
theorem YT{w:Nat}(hw:w<18446744073709551616):(w/16%16=0/\w/16384=0)<-> ∀j,j<64->w.testBit j=true->YS j:=by
 constructor
 ·rintro⟨h1,h2⟩ j hj hb;by_cases hg:YS j
  ·exact hg
  exfalso;by_cases h8:j<8
  ·have:(w/2^4%2^4).testBit (j-4)=true:=by
    rw[II,Fa,show j-4+4=j by omega,hb];simp;omega
   rw[show w/2^4%2^4=0 from h1] at this;simp at this
  ·have:(w/2^14).testBit (j-14)=true:=by
    rw[Fa,show j-14+14=j by omega,hb]
   rw[show w/2^14=0 from h2] at this;simp at this
 ·intro h;have key: ∀j,w.testBit j=true->YS j:=λj hb=>by
   by_cases hj:j<64
   ·exact h j hj hb
   ·rw[Fk (Ev hw (show 2^64<=2^j from CT Af Af))] at hb;cases hb
  constructor
  ·refine JU λj=>?_;rw[show w/16%16=w/2^4%2^4 from rfl,II,Fa,Nat.zero_testBit];by_cases hj:j<4
   ·cases hb:w.testBit (j+4) with
    |false=>simp
    |true=>have:=key _ hb;omega
   ·simp[hj]
  ·refine JU λj=>?_;rw[show w/16384=w/2^14 from rfl,Fa,Nat.zero_testBit];cases hb:w.testBit (j+14) with
   |false=>rfl
   |true=>have:=key _ hb;omega
theorem t8(w:Nat):({WX w 64 with fr:=(dQ w 64:Nat)}:T5)=gY w:=by simp[WX,gY,dQ]
theorem ry{w:Nat}(hw:w<18446744073709551616)(hi:i<64)(hb:w.testBit i=true)(hg:¬YS i):K7 (w:Int)=(aN,5):=by unfold K7;rw[Ab];rintro⟨h1,h2,_⟩;exact hg ((YT hw).1 ⟨h1,h2⟩ i hi hb)
abbrev flC(B b:Nat):Bg:=(B,.cells (toArray [.pointer (some ⟨b,0,none⟩),.pointer (some ⟨b,1,none⟩),.pointer (some ⟨b,2,none⟩),.pointer (some ⟨b,3,none⟩)]) 504 (0,0))
theorem YU(w:Nat)(hw:w<18446744073709551616)(l:Ad):Fn prog 343 [.int .u64 (w:Nat)] l λv l'=>v= .tuple #[YQ (K7 (w:Int)).1,iV (K7 (w:Int)).2]/\l'=l:=by
 refine AO func343 ntmps343 λE=>?_;refine AQ λb2=>?_;refine AQ λb4=>?_;refine Be (AL rfl rfl λl2 _=>VW b4 l2) ?_;refine AQ λb5=>?_;refine CF (α:=Nat) (λi=>[(0,.int .u64 (w:Nat)),(2,pV b2),(4,pV b4),(5,pV b5),(6,.int .u64 (dQ w i:Nat)),(11,.int .i64 (i:Nat))]) (λi=>flC b5 b4::Q8 b4 (WX w i)::Q8 b2 aN::l) (λi=>i<=64/\ ∀j,j<i->w.testBit j=true->YS j) (λi=>64-i) 0 ⟨Af,λj hj=>by omega⟩ ⟨rfl,rfl,rfl,rfl,by rw[show dQ w 0=0 from Nat.mod_one _];rfl,rfl,trivial⟩ (by rw[show WX w 0=aN by simp[WX]];exact .refl) ?_;rintro i ⟨hi,hg⟩;by_cases h64:i<64
 case neg=>
  obtain rfl:i=64:=by omega
  have tt:=(YT hw).2 hg;have hf6:dQ w 64<64:=Hi _ AZ;refine Aj ?_;refine Be (AL rfl rfl λl2 _=>aX ({WX w 64 with fr:=(dQ w 64:Nat)}:T5) l2) ?_;rw[t8];unfold K7;rw[AY];cases hm:UY (gY w) with
  |false=>rw[Ab (by simp)];refine Aj ?_;exact qr
  |true=>rw[Ac ⟨tt.1,tt.2,rfl⟩];refine Aj ?_;refine qr (hx:=?_);rw[<-t8];rfl
 refine Aj ?_;refine Be (AL rfl rfl λl2 _=>Re w hw i 1 Af Af Af Af l2) ?_;rw[show(1:Int).toNat=1 from rfl,AY,ie];cases hb:w.testBit i with
 |false=>refine Aj ?_;exact BR (i+1) ⟨Af,λj hj h=>by by_cases e:j=i;subst e;rw[hb] at h;cases h;exact hg j Af h⟩ Af ⟨rfl,rfl,rfl,rfl,by rw[AaR (.inl hb)];rfl,rfl,trivial⟩ (by rw[AdP hb];exact .refl)
 |true=>
  rw[Ac rfl];by_cases h4:i<4
  ·refine Aj ?_;refine Be (DP (v:= .pointer (some ⟨b4,i,none⟩)) rfl (.head _) (by rcases i with _|_|_|_|i<;>first|rfl|omega)) ?_;refine Aj ?_;refine ME (Du (l':=flC b5 b4::Q8 b4 (WX w (i+1))::Q8 b2 aN::l) rfl rfl rfl (by rw[AdQ hb h4];exact .there .here) (by simp;omega)) rfl rfl ?_;rintro _ _ ⟨rfl,rfl⟩;refine Aj ?_;exact BR (i+1) ⟨Af,λj hj h=>by by_cases e:j=i;subst e;exact .inl h4;exact hg j Af h⟩ Af ⟨rfl,rfl,rfl,rfl,by rw[AaR (.inr (.inl Af))];rfl,rfl,trivial⟩ .refl
  by_cases h8:8<=i/\i<14
  ·obtain⟨h8,tu⟩:=h8;obtain⟨f1,f2⟩:=AdR hb h8 tu;refine Aj ?_;refine Be (AL rfl rfl λl2 _=>t7 (dQ w i) ((i:Int)-8) Af Af Af l2) ?_;rw[show((i:Int)-8).toNat=i-8 by omega,f1];refine Aj ?_;exact BR (i+1) ⟨Af,λj hj h=>by by_cases e:j=i;subst e;exact .inr ⟨h8,tu⟩;exact hg j Af h⟩ Af ⟨rfl,rfl,rfl,rfl,rfl,rfl,trivial⟩ (by rw[AaQ Af];exact .refl)
  ·rw[ry hw h64 hb Af];by_cases h8':i<8;all_goals
    refine Aj ?_;exact qr
theorem wC(hu: ∀w,w∈W->K6 w)(a:Int):K6 (O1 W a).1:=by
 unfold O1
 split
 ·rw[List.getD];cases h:W[(a/8).toNat]? with
  |none=>exact⟨by decide,by decide⟩
  |some w=>exact hu w (A6 h)
 ·show K6 0;exact⟨by decide,by decide⟩
theorem rC(w:Int):0<=(K7 w).1.fr/\(K7 w).1.fr<64:=by
 unfold K7
 split
 ·simp only[gY];omega
 ·exact⟨by decide,by decide⟩
theorem Uc(b gb F:Nat)(W:A4)(h1:F<=64)(hW:W.length=F*8)(hu: ∀w,w∈W->K6 w)(a:Int)(a0:0<=a)(a1:a<18446744073709551616)(Nw:Bool)(l:Ad)(m1:Pn b gb F∈l)(m2:T3 gb W∈l):Fn prog 305 [pV b,Bc a,.bool Nw] l λv l'=>v= .tuple #[YQ (HC W a Nw).1,iV (HC W a Nw).2]/\l'=l:=by
 obtain⟨n,hn,hn6⟩: ∃n:Nat,(O1 W a).1=n/\n<18446744073709551616:=⟨(O1 W a).1.toNat,by have:=wC hu a;omega,by have:=wC hu a;omega⟩
 have hF:nF W=F:=by unfold nF;omega
 unfold HC;rw[hF,hn];refine AO func305 ntmps305 λE=>?_;refine AQ λb6=>?_;refine Be (AL rfl rfl λl2 hl=>dP b gb F W h1 hW a a0 a1 l2 (hl _ (.tail _ m1)) (hl _ (.tail _ m2))) ?_;rw[hn];by_cases he:(O1 W a).2=0
 case neg=>rw[Ac he];refine Aj ?_;exact qr
 rw[Ab (Gf he)];refine Aj ?_;refine Be (AL rfl rfl λl2 hl=>YU n hn6 l2) ?_;obtain⟨x,hx⟩: ∃x,(K7 n).1=x:=⟨_,rfl⟩
 obtain⟨e,he2⟩: ∃e,(K7 n).2=e:=⟨_,rfl⟩
 rw[hx,he2];refine Aj ?_;refine AR e_alloc ?_;rintro _ _ ⟨GX,_,rfl,rfl⟩;by_cases h0:e=0
 case neg=>rw[Ac h0];refine Aj ?_;exact qr
 rw[Ab (Gf h0)];cases hv:x.vd with
 |false=>rw[Ac rfl];refine Aj ?_;rw[hv];refine Aj ?_;exact qr
 |true=>
 rw[Ab AZ];refine Aj ?_;rw[hv];refine Aj ?_;refine It ?_;by_cases hl:x.lf=Nw
 case neg=>
  rw[Ac (.inl hl)];have:(x.lf==Nw)=false:=by simpa using hl
  refine BS ?_;rw[this];refine BS ?_;refine Aj ?_;exact qr
 have:(x.lf==Nw)=true:=by simpa using hl
 refine BS ?_;rw[this];refine BS ?_;refine pq (λl2 Lf=>Rx b gb F l2 (Lf _ (.tail _ (.tail _ m1)))) ?_;by_cases hf:x.fr>=F
 ·rw[Ac (.inr hf)];refine BS ?_;refine Aj ?_;exact qr
 ·rw[Ab (by rintro(h|h)<;>contradiction)];refine BS ?_;refine Aj ?_;exact qr
theorem mj(b gb F:Nat)(W:A4)(hF:nF W=F)(root page lv:Int)(l:Ad)(m1:Pn b gb F∈l):Fn prog 337 [pV b,.int .i64 root,.int .i64 page,.int .i64 lv] l λv l'=>v=iV (T7 W root page lv)/\l'=l:=by
 unfold T7;rw[hF];refine AO func337 ntmps337 λE=>?_;by_cases h1:root<0
 ·rw[Ac (.inl h1)];refine Aj ?_;exact qr
 refine Aj ?_;refine tq (λl2 hl=>Rx b gb F l2 (hl _ m1)) ?_;by_cases hb:root>=F\/page<0\/page>=512\/lv<1\/lv>3
 ·rw[Ac (.inr hb)];by_cases h2:root>=F<;>by_cases h3:page<0<;>by_cases h4:page>=512<;>by_cases h5:lv<1<;>by_cases h6:lv>3;all_goals first
   |(exfalso;omega)
   |(refine Aj ?_
     exact qr)
 ·rw[Ab Af];refine Aj ?_;exact qr
theorem ml(b:Nat)(root page:Int)(l:Ad):Fn prog 338 [pV b,.int .i64 root,.int .i64 page] l λv l'=> ∃B3 B4 B5,v= .func (.func 372) #[] #[pV B4,pV B5,pV B3]/\l'=BP B5 page::BP B4 root::Xt B3 b::l:=by refine AO func338 ntmps338 λE=>?_;refine AQ λb3=>?_;refine AQ λb4=>?_;refine AQ λb5=>?_;exact Bb .refl ⟨_,_,_,rfl,rfl⟩
abbrev sV(x:Int×Int×Int):Ap:=[iV x.1,.agg (toArray [Bc x.2.1,iV x.2.2])]
abbrev RY(B:Nat)(x:Int×Int):Bg:=(B,.cells (toArray [Bc x.1,iV x.2]) 510 (0,0))
theorem Rg(h1:0<=pg)(h2:pg<512)(h3:1<=lv)(h4:lv<=3):0<=rc pg lv/\rc pg lv<8:=by
 unfold rc;rw[Ab Af]
 (repeat' split)<;>omega
theorem Sq{a:Int}{lf:Bool}:0<=(HC W a lf).1.fr/\(HC W a lf).1.fr<64:=by
 unfold HC
 (repeat' split)
 all_goals first|exact⟨by decide,by decide⟩|exact rC _
theorem ua{root:Int}(h:¬(HC W (Gk root page 1) false).2=0):M6 W root page=[(1,Gk root page 1,0),(2,0,(HC W (Gk root page 1) false).2)]:=by unfold M6;rw[Ac h]
theorem ub{root:Int}{y:T5}(h:HC W (Gk root page 1) false=(x,0))(h2:¬(HC W (Gk x.fr page 2) false).2=0):M6 W root page=[(1,Gk root page 1,0),(2,Gk x.fr page 2,0),(3,0,(HC W (Gk x.fr page 2) false).2)]:=by unfold M6;rw[h,Ab (by simp),Ac h2]
theorem uc{root:Int}{y:T5}(h:HC W (Gk root page 1) false=(x,0))(h2:HC W (Gk x.fr page 2) false=(y,0)):M6 W root page=[(1,Gk root page 1,0),(2,Gk x.fr page 2,0),(3,Gk y.fr page 3,0)]:=by unfold M6;rw[h,Ab (by simp),h2,Ab (by simp)]
theorem ig(B3 B4 B5 b gb F:Nat)(W:A4)(h1:F<=64)(hW:W.length=F*8)(hu: ∀w,w∈W->K6 w)(root page:Int)(r0:0<=root)(r1:root<64)(p0:0<=page)(p1:page<512):
 FA prog 372 [pV B4,pV B5,pV B3] sV (λxs=>xs=M6 W root page) (λpre=>pre<+:M6 W root page)
  (λ_ l=>BP B5 page∈l/\BP B4 root∈l/\Xt B3 b∈l/\Pn b gb F∈l/\T3 gb W∈l):=by
 refine⟨λr I Ix G0 Ca hY l G hG h0=>?_⟩;obtain⟨n1,n2,n3,n4,n5⟩:=Ca _ _ G hG h0;have i1:=Rg p0 p1 (lv:=1) Af Af;have i2:=Rg p0 p1 (lv:=2) Af Af;have i3:=Rg p0 p1 (lv:=3) Af Af;refine AO func372 ntmps372 λE=>?_;refine Aj ?_;refine H9 3 ?_;refine Aj ?_;refine EI ?_;refine AQ λb7=>?_;have jN:[((1:Int),Gk root page 1,(0:Int))]<+:M6 W root page:=by unfold M6;exact⟨_,rfl⟩
 have hy:=hY [] (1,Gk root page 1,0) l (RY b7 (Gk root page 1,0)::G) (λc hc=> .tail _ (hG c hc)) h0 jN;refine Bq (Keep.of_perm AI.symm) ?_;refine Jr (C0 rfl rfl hy) rfl rfl rfl ?_;rintro v _ ⟨l1,rfl,⟨rfl,hI⟩|⟨rfl,hx⟩⟩
 case' inr=>
  refine Aj ?_;exact Bb (Keep.appL l1 (.drop .refl)) ⟨l1,rfl,.inr ⟨_,jN,hx⟩⟩
 obtain⟨n1,n2,n3,n4,n5⟩:=Ca _ _ (RY b7 (Gk root page 1,0)::G) (λc hc=> .tail _ (hG c hc)) hI;have q7:RY b7 (Gk root page 1,0)∈l1++RY b7 (Gk root page 1,0)::G:=Aa _ (.head _);refine Aj ?_;refine tq (λl2 hl=>Uc b gb F W h1 hW hu (Gk root page 1) (by unfold Gk;omega) (by unfold Gk;omega) false l2 (hl _ n4) (hl _ n5)) ?_;have xr:=Sq (W:=W) (a:=Gk root page 1) (lf:=false);obtain⟨x,hx⟩: ∃x,(HC W (Gk root page 1) false).1=x:=⟨_,rfl⟩
 obtain⟨e,he⟩: ∃e,(HC W (Gk root page 1) false).2=e:=⟨_,rfl⟩
 rw[hx] at xr;rw[hx,he];refine AQ λb8=>?_;by_cases e0:e=0
 case neg=>
  have hs:=ua (W:=W) (root:=root) (page:=page) (by rw[he];exact e0);rw[he] at hs;have QN:[(1,Gk root page 1,0),(2,0,e)]<+:M6 W root page:=by rw[hs];exact⟨[],rfl⟩
  have SM:=hY [(1,Gk root page 1,0)] (2,0,e) l1 ((b8,Obj.cells (toArray (T6 x)) 389 (0,0))::RY b7 (Gk root page 1,0)::G) (λc hc=> .tail _ (.tail _ (hG c hc))) hI QN;refine Aj ?_;refine Bq (Keep.of_perm AI.symm) ?_;refine Jr (C0 rfl rfl SM) rfl rfl rfl ?_;rintro v _ ⟨l2,rfl,⟨rfl,NP⟩|⟨rfl,Xs⟩⟩
  ·refine Aj ?_;exact Bb (Keep.appL l2 (.drop (.drop .refl))) ⟨l2,rfl,.inl ⟨_,hs.symm,NP⟩⟩
  ·refine Aj ?_;exact Bb (Keep.appL l2 (.drop (.drop .refl))) ⟨l2,rfl,.inr ⟨_,QN,Xs⟩⟩
 have h1e:HC W (Gk root page 1) false=(x,0):=JV hx (he.trans e0);subst e0;have g8:(b8,Obj.cells (toArray (T6 x)) 389 (0,0))∈(b8,Obj.cells (toArray (T6 x)) 389 (0,0))::(l1++RY b7 (Gk root page 1,0)::G):= .head _;refine Aj ?_;refine E8 ?_;refine Aj ?_;rw[show(1:Int)+1=2 from rfl];refine EI ?_;refine AQ λb9=>?_;have QN:[(1,Gk root page 1,0),(2,Gk x.fr page 2,0)]<+:M6 W root page:=by unfold M6;rw[h1e,Ab (by simp)];exact⟨_,rfl⟩
 obtain⟨T,hT⟩: ∃T,T=(b8,Obj.cells (toArray (T6 x)) 389 (0,0))::RY b7 (Gk root page 1,0)::G:=⟨_,rfl⟩
 have hTG: ∀c,c∈G->c∈T:=λc hc=>by rw[hT];exact .tail _ (.tail _ hc)
 have SM:=hY [(1,Gk root page 1,0)] (2,Gk x.fr page 2,0) l1 (RY b9 (Gk x.fr page 2,0)::T) (λc hc=> .tail _ (hTG c (hG c hc))) hI QN;refine Bq (l':=l1++RY b9 (Gk x.fr page 2,0)::T) (by rw[hT];exact Keep.in_mid [_,_] l1 _) ?_;refine Jr (C0 rfl rfl SM) rfl rfl rfl ?_;rintro v _ ⟨l2,rfl,⟨rfl,NP⟩|⟨rfl,Xs⟩⟩
 case' inr=>
  refine Aj ?_;exact Bb (Keep.appL l2 (by rw[hT];exact .drop (.drop (.drop .refl)))) ⟨l2,rfl,.inr ⟨_,QN,Xs⟩⟩
 obtain⟨n1,n2,n3,n4,n5⟩:=Ca _ _ (RY b9 (Gk x.fr page 2,0)::T) (λc hc=> .tail _ (hTG c (hG c hc))) NP;have q9:RY b9 (Gk x.fr page 2,0)∈l2++RY b9 (Gk x.fr page 2,0)::T:=Aa _ (.head _);refine Aj ?_;refine tq (λl3 hl=>Uc b gb F W h1 hW hu (Gk x.fr page 2) (by unfold Gk;omega) (by unfold Gk;omega) false l3 (hl _ n4) (hl _ n5)) ?_;have yr:=Sq (W:=W) (a:=Gk x.fr page 2) (lf:=false);obtain⟨y,hy⟩: ∃y,(HC W (Gk x.fr page 2) false).1=y:=⟨_,rfl⟩
 obtain⟨e,he⟩: ∃e,(HC W (Gk x.fr page 2) false).2=e:=⟨_,rfl⟩
 rw[hy] at yr;rw[hy,he];refine AQ λGX=>?_;by_cases e0:e=0
 case neg=>
  have hs:=ub (y:=y) h1e (by rw[he];exact e0);rw[he] at hs;have XH:[(1,Gk root page 1,0),(2,Gk x.fr page 2,0),(3,0,e)]<+:M6 W root page:=by rw[hs];exact⟨[],rfl⟩
  have hy3:=hY [(1,Gk root page 1,0),(2,Gk x.fr page 2,0)] (3,0,e) l2 ((GX,Obj.cells (toArray (T6 y)) 389 (0,0))::RY b9 (Gk x.fr page 2,0)::T) (λc hc=> .tail _ (.tail _ (hTG c (hG c hc)))) NP XH;refine Aj ?_;refine Bq (Keep.of_perm AI.symm) ?_;refine Jr (C0 rfl rfl hy3) rfl rfl rfl ?_;rintro v _ ⟨l3,rfl,⟨rfl,ZR⟩|⟨rfl,hx3⟩⟩
  ·refine Aj ?_;exact Bb (Keep.appL l3 (by rw[hT];exact .drop (.drop (.drop (.drop .refl))))) ⟨l3,rfl,.inl ⟨_,hs.symm,ZR⟩⟩
  ·refine Aj ?_;exact Bb (Keep.appL l3 (by rw[hT];exact .drop (.drop (.drop (.drop .refl))))) ⟨l3,rfl,.inr ⟨_,XH,hx3⟩⟩
 have h2e:HC W (Gk x.fr page 2) false=(y,0):=JV hy (he.trans e0);subst e0;have hs:=uc h1e h2e;refine Aj ?_;refine E8 ?_;refine Aj ?_;rw[show(2:Int)+1=3 from rfl];refine EI ?_;refine AQ λLT=>?_;have XH:[(1,Gk root page 1,0),(2,Gk x.fr page 2,0),(3,Gk y.fr page 3,0)]<+:M6 W root page:=by rw[hs];exact⟨[],rfl⟩
 have hy3:=hY [(1,Gk root page 1,0),(2,Gk x.fr page 2,0)] (3,Gk y.fr page 3,0) l2 (RY LT (Gk y.fr page 3,0)::(GX,Obj.cells (toArray (T6 y)) 389 (0,0))::RY b9 (Gk x.fr page 2,0)::T) (λc hc=> .tail _ (.tail _ (.tail _ (hTG c (hG c hc))))) NP XH;refine Bq (l':=l2++RY LT (Gk y.fr page 3,0)::(GX,Obj.cells (toArray (T6 y)) 389 (0,0))::RY b9 (Gk x.fr page 2,0)::T) (Keep.in_mid [_,_] l2 _) ?_;refine Jr (C0 rfl rfl hy3) rfl rfl rfl ?_;have hK: ∀l3,Keep (l3++RY LT (Gk y.fr page 3,0)::(GX,Obj.cells (toArray (T6 y)) 389 (0,0))::RY b9 (Gk x.fr page 2,0)::T) (l3++G):=λl3=>Keep.appL l3 (by rw[hT];exact .drop (.drop (.drop (.drop (.drop .refl)))));rintro v _ ⟨l3,rfl,⟨rfl,ZR⟩|⟨rfl,hx3⟩⟩
 ·refine Aj ?_;exact Bb (hK l3) ⟨l3,rfl,.inl ⟨_,hs.symm,ZR⟩⟩
 ·refine Aj ?_;exact Bb (hK l3) ⟨l3,rfl,.inr ⟨_,XH,hx3⟩⟩
theorem wD{root:Int}(h:¬T7 W root page lv=0):T7 W root page lv=3:=by
 unfold T7 at h⊢
 split
 ·rfl
 ·rename_i hc;rw[Ab hc] at h;exact absurd rfl h
abbrev WY(lv:Int)(x:Int×Int×Int):Bool:=decide (x.1=lv)||!decide (x.2.2=0)
theorem rD(W:A4)(root page lv:Int)(h1:1<=lv)(h3:lv<=3): ∃x,x∈M6 W root page/\WY lv x=true:=by
 by_cases e1:(HC W (Gk root page 1) false).2=0
 case neg=>rw[ua e1];exact⟨_,.tail _ (.head _),by simp[WY,e1]⟩
 have p1:HC W (Gk root page 1) false=((HC W (Gk root page 1) false).1,0):=JV rfl e1;by_cases e2:(HC W (Gk (HC W (Gk root page 1) false).1.fr page 2) false).2=0
 case neg=>rw[ub (y:=aN) p1 e2];exact⟨_,.tail _ (.tail _ (.head _)),by simp[WY,e2]⟩
 rw[uc p1 (JV rfl e2)];obtain rfl|rfl|rfl:lv=1\/lv=2\/lv=3:=by omega
 ·exact⟨_,.head _,rfl⟩
 ·exact⟨_,.tail _ (.head _),rfl⟩
 ·exact⟨_,.tail _ (.tail _ (.head _)),rfl⟩
theorem YV{α:Type}{q:α->Bool}{xs pre:List α}{x:α}(hp:pre++[x]<+:xs)(hn: ∀y,y∈pre->q y=false)(hx:q x=true):xs.find? q=some x:=by obtain⟨r,rfl⟩:=hp;rw[Am,Eh,Br.2 (λy hy=>by rw[hn y hy];decide)];simp[hx]
theorem WZ(b gb F:Nat)(W:A4)(h1:F<=64)(hW:W.length=F*8)(hu: ∀w,w∈W->K6 w)(root page lv:Int)(l:Ad)(m1:Pn b gb F∈l)(m2:T3 gb W∈l):Fn prog 298 [pV b,.int .i64 root,.int .i64 page,.int .i64 lv] l λv l'=>v= .tuple #[Bc (QQ W root page lv).1,iV (QQ W root page lv).2]/\l'=l:=by
 have hF:nF W=F:=by unfold nF;omega
 unfold QQ;refine AO func298 ntmps298 λE=>?_;refine AQ λb7=>?_;refine tq (λl2 hl=>mj b gb F W hF root page lv l2 (hl _ (.tail _ m1))) ?_;by_cases hb:T7 W root page lv=0
 case neg=>have h3:T7 W root page lv=3:=wD hb;rw[Ac hb,h3];refine Aj ?_;exact qr
 rw[Ab (Gf hb),hb];obtain⟨r0,r1,p0,p1,v1,v3⟩:0<=root/\root<F/\0<=page/\page<512/\1<=lv/\lv<=3:=by
  unfold T7 at hb;rw[hF] at hb
  split at hb<;>omega
 obtain⟨z,hz,tv⟩:=rD W root page lv v1 v3;refine AQ λLT=>?_;refine AR (AA rfl rfl (ml b root page _)) ?_;rintro _ _ ⟨B3,B4,B5,rfl,rfl⟩;refine Aj ?_;refine Df (α:=Int×Int×Int) (ps:=[26,27]) (lb:=[pV B4,pV B5,pV B3]) rfl (ig B3 B4 B5 b gb F W h1 hW hu root page r0 Af p0 p1) (λ_=>rfl) rfl
  (λpre l=>(∀x,x∈pre->WY lv x=false)/\ ∃y,l=[BP B5 page,BP B4 root,Xt B3 b,RY LT y,BP b7 lv])
  (λc pre l=>c= .exit 0/\ ∃GW x,pre=GW++[x]/\(∀x,x∈GW->WY lv x=false)/\WY lv x=true/\l=[BP B5 page,BP B4 root,Xt B3 b,RY LT x.2,BP b7 lv])
  [BP B5 page,BP B4 root,Xt B3 b,RY LT (0,0),BP b7 lv] l (λpre l2 X2 hX h=>by obtain⟨y,rfl⟩:=h.2;exact⟨Ai _ (by exact BW),Ai _ (by exact BW),Ai _ (by exact BW),Aa _ (hX _ m1),Aa _ (hX _ m2)⟩) (by exact AU) ⟨λ_ h=>(nomatch h),(0,0),rfl⟩ ?_ ?_ ?_
 ·rintro E r0 FS pre ⟨x1,x2,x3⟩ l' T ⟨fn,tmps,D,rfl⟩ hT ⟨hn,⟨y1,y2⟩,rfl⟩ DB;simp only[DU,Ae,Ag];refine AQ λZP=>?_;refine CH (by exact DX) ?_;refine Aj ?_;by_cases h1:x1=lv
  ·refine Aj ?_;exact E2 [BP B5 page,BP B4 root,Xt B3 b,RY LT (x2,x3),BP b7 lv] (by exact AU) ⟨rfl,_,_,rfl,hn,by simp[WY,h1],rfl⟩
  by_cases h2:x3=0
  ·refine Aj ?_;exact Cg [BP B5 page,BP B4 root,Xt B3 b,RY LT (x2,x3),BP b7 lv] (by exact AU) ⟨λz hz=>by
    rcases AH.1 hz with hz|hz
    ·exact hn z hz
    ·rw[AE.1 hz];simp[WY,h1,h2],_,rfl⟩
  ·refine Aj ?_;exact E2 [BP B5 page,BP B4 root,Xt B3 b,RY LT (x2,x3),BP b7 lv] (by exact AU) ⟨rfl,_,_,rfl,hn,by simp[WY,h2],rfl⟩
 ·rintro D xs l' rfl ⟨hn,_⟩;rw[hn z hz] at tv;cases tv
 ·rintro D c pre l' DB ⟨rfl,GW,⟨x1,x2,x3⟩,rfl,hn,hx,rfl⟩;simp only[Ae,Ag];rw[YV DB hn hx];refine Aj ?_;refine It ?_;refine BS ?_;refine Aj ?_;exact AV [D] _ rfl (l':=l) (by exact AU) (by exact Ba) (by exact AU) ⟨rfl,rfl⟩
theorem adU{f:Int}(h0:0<=f)(h1:f<64)(h2:0<=rc pg lv/\rc pg lv<8):K6 (Gk f pg lv):=⟨by unfold Gk;omega,by unfold Gk;omega⟩
theorem AaS{root:Int}(r0:0<=root)(r1:root<64)(p0:0<=page)(p1:page<512): ∀x,x∈M6 W root page->K6 x.2.1:=by
 have i1:=Rg p0 p1 (lv:=1) Af Af;have i2:=Rg p0 p1 (lv:=2) Af Af;have i3:=Rg p0 p1 (lv:=3) Af Af;intro x hx;have e1:=Sq (W:=W) (a:=Gk root page 1) (lf:=false);have e2:=Sq (W:=W) (a:=Gk (HC W (Gk root page 1) false).1.fr page 2) (lf:=false);unfold M6 at hx;have z:K6 0:=⟨by decide,by decide⟩
 rcases At.1 hx with rfl|hx
 ·exact adU r0 r1 i1
 split at hx
 ·rw[AE.1 hx];exact z
 rcases At.1 hx with rfl|hx
 ·exact adU e1.1 e1.2 i2
 split at hx
 ·rw[AE.1 hx];exact z
 ·rw[AE.1 hx];exact adU e2.1 e2.2 i3
theorem mm(hW:W.length<=512){root:Int}:K6 (QQ W root page lv).1:=by
 have z:K6 0:=⟨by decide,by decide⟩
 unfold QQ
 split
 ·exact z
 ·rename_i hb;have hb:T7 W root page lv=0:=by simpa using hb
  unfold T7 at hb
  split at hb
  ·cases hb
  rename_i hc;have:nF W<=64:=by unfold nF;omega
  split
  ·rename_i x hx;exact AaS Af Af Af Af x (BK hx)
  ·exact z
theorem ii(b gb F:Nat)(W:A4)(h1:F<=64)(hW:W.length=F*8)(hu: ∀w,w∈W->K6 w)(root page:Int)(l:Ad)(m1:Pn b gb F∈l)(m2:T3 gb W∈l):Fn prog 227 [pV b,.int .i64 root,.int .i64 page] l λv l'=>v= .tuple #[YQ (Ou W root page).1,iV (Ou W root page).2]/\l'=l:=by
 unfold Ou;refine AO func227 ntmps227 λE=>?_;refine AQ λb6=>?_;refine tq (λl2 hl=>WZ b gb F W h1 hW hu root page 3 l2 (hl _ (.tail _ m1)) (hl _ (.tail _ m2))) ?_;by_cases h0:(QQ W root page 3).2=0
 case neg=>rw[Ac h0];refine Aj ?_;exact qr
 rw[Ab (Gf h0)];refine Aj ?_;have ar:=mm (W:=W) Af (root:=root) (page:=page) (lv:=3);refine tq (λl2 hl=>Uc b gb F W h1 hW hu (QQ W root page 3).1 ar.1 ar.2 true l2 (hl _ (.tail _ m1)) (hl _ (.tail _ m2))) ?_;refine Aj ?_;exact qr
end Go.Proofs.YtlifcingifodfaaGreat
