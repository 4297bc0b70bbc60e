/- Laws that the statement's proof leans on (joined out of several texts). -/
import Derived.Test.YtlkgekpmileobaaGreatGb8
import Derived.Test.YtlkgekpmileobaaGreatGb37
import Derived.Test.YtlkgekpmileobaaGreatGb33
import Derived.Test.YtlkgekpmileobaaGreatGb10
import Derived.Test.YtlkgekpmileobaaGreatGb30
set_option linter.unusedVariables false
set_option linter.unusedSimpArgs false
namespace Go.Proofs.YtlkgekpmileobaaGreat
open Tryz
open List(toArray)
open Go.RowKit
set_option maxRecDepth 20000
variable{k F C b e n:Nat}{S:KT}{p:RP}{s:RL}{G:List Ab}
class U6(a:Int):Prop where
 out:JW a
section
theorem IsK.wl(h:IsK F C k S p s):S.W.length<=512:=by obtain⟨gb,f1,f2,hW,hu,hM⟩:=h.mem;omega
theorem IsK.wu(h:IsK F C k S p s): ∀w,w∈S.W->JW w:=by obtain⟨gb,f1,f2,hW,hu,hM⟩:=h.mem;exact hu
theorem IsK.ldU(h:IsK F C k S p s)(a:Int):U6 (Np S.W a).1:=⟨oq h.wu a⟩
theorem IsK.atU(h:IsK F C k S p s)(r pg lv:Int):U6 (O5 S.W r pg lv).1:=⟨fI h.wl⟩
instance[h:IsK F C k S p s]{a:Int}[hu:U6 a]:QF prog 203 [pV p.m,Ba a] (Av b p s S G) (.tuple #[Ba (Np S.W a).1,iV (Np S.W a).2]):=⟨λl hl=>bG h a hu.out.1 hu.out.2 l hl⟩
instance[h:IsK F C k S p s]{r pg lv:Int}:QF prog 299 [pV p.m,.int .i64 r,.int .i64 pg,.int .i64 lv] (Av b p s S G) (.tuple #[Ba (O5 S.W r pg lv).1,iV (O5 S.W r pg lv).2]):=⟨λl hl=>by obtain⟨gb,f1,f2,hW,hu,hM⟩:=h.mem;exact UQ p.m gb F S.W f2 hW hu r pg lv l (mM hl _ (by rw[hM];simp)) (mM hl _ (by rw[hM];simp))⟩
instance{w:Int}[hu:U6 w]{l:List Ab}:QF prog 344 [Ba w] l (.tuple #[Wk (JY w).1,iV (JY w).2]):=⟨λl _=>by
 obtain⟨n,rfl⟩: ∃n:Nat,w=n:=⟨w.toNat,by have:=hu.out.1;omega⟩
 exact Wo n (by have:=hu.out.2;omega) l⟩
instance{w:Int}[hu:U6 w]{l:List Ab}:QF prog 258 [Ba w] l (.tuple #[iV (Gr w).1,iV (Gr w).2]):=⟨λl _=>bI w hu.out.1 hu.out.2 l⟩
def LM(S:KT)(id:Int):Int:=if(Ar.getD' S.A id).2=false then-1 else(Ar.getD' S.A id).1.fi
def GQ(S:KT)(se pg lv:Int):(Int×Int)×Bool:=
 if(As.rootP S.N se).2.2=false then((0,0),false)
 else(((O5 S.W (LM S (As.rootP S.N se).1) pg lv).1,(As.rootP S.N se).2.1),decide ((O5 S.W (LM S (As.rootP S.N se).1) pg lv).2=0))
def R8(S:KT)(a:Int)(leaf:Bool)(f:Int):Bool:=decide ((JY (Np S.W a).1).2=0)&&(JY (Np S.W a).1).1.vd&&((JY (Np S.W a).1).1.lf==leaf)&&decide ((JY (Np S.W a).1).1.fr=f)
def Fi(S:KT)(id:Int):(Int×Int)×Bool:=
 if(Ar.getD' S.A id).2=false\/¬(Ar.getD' S.A id).1.kd=4\/(Ar.getD' S.A id).1.lv=0 then((0,0),false)
 else((GQ S (Ar.getD' S.A id).1.se (Ar.getD' S.A id).1.pg (Ar.getD' S.A id).1.lv).1,(GQ S (Ar.getD' S.A id).1.se (Ar.getD' S.A id).1.pg (Ar.getD' S.A id).1.lv).2&&R8 S (GQ S (Ar.getD' S.A id).1.se (Ar.getD' S.A id).1.pg (Ar.getD' S.A id).1.lv).1.1 false (Ar.getD' S.A id).1.fi)
def Fj(S:KT)(c:CapT):(Int×Int)×Bool:=
 if(Ar.getD' S.A c.obj).2=false\/¬c.kind=3\/E5 c=false then((0,0),false)
 else((GQ S c.serial c.page 3).1,(GQ S c.serial c.page 3).2&&R8 S (GQ S c.serial c.page 3).1.1 true (Ar.getD' S.A c.obj).1.fi)
theorem kL(hK:IsK F C k S p s)(id:Int)(l:List Ab)(hl: ∀c,c∈Av b p s S G->c∈l):Fn prog 293 [pV b,.int .i64 id] l λv l'=>v=iV (LM S id)/\l'=l:=by
 have mr:Co b p∈l:=mR hl;have I: ∀{f:Nat} {vs:List Value} {v:Value} [QF prog f vs (Av b p s S G) v],QF prog f vs l v:=W5 hl;unfold LM;refine AO func293 ntmps293 λE=>?_;refine Aj ?_;refine Ea ?_;refine Aj ?_;refine Ea ?_;obtain⟨o,ho⟩: ∃o,(Ar.getD' S.A id).1=o:=⟨_,rfl⟩
 obtain⟨ok,hok⟩: ∃ok,(Ar.getD' S.A id).2=ok:=⟨_,rfl⟩
 rw[ho,hok];refine AQ λb5=>?_;cases ok with
 |false=>rw[Ae rfl];refine Aj ?_;exact qr
 |true=>
 rw[Ac AW];refine Aj ?_;exact qr
instance[h:IsK F C k S p s]{id:Int}:QF prog 293 [pV b,.int .i64 id] (Av b p s S G) (iV (LM S id)):=⟨λl hl=>kL h id l hl⟩
theorem kM(hK:IsK F C k S p s)(se pg lv:Int)(l:List Ab)(hl: ∀c,c∈Av b p s S G->c∈l):Fn prog 370 [pV b,.int .i64 se,.int .i64 pg,.int .i64 lv] l λv l'=>v= .tuple #[Ba (GQ S se pg lv).1.1,iV (GQ S se pg lv).1.2,.bool (GQ S se pg lv).2]/\l'=l:=by
 have mr:Co b p∈l:=mR hl;have I: ∀{f:Nat} {vs:List Value} {v:Value} [QF prog f vs (Av b p s S G) v],QF prog f vs l v:=W5 hl;unfold GQ;refine AO func370 ntmps370 λE=>?_;refine Aj ?_;refine Ea ?_;refine Aj ?_;refine Ea ?_;obtain⟨q,hq⟩: ∃q,As.rootP S.N se=q:=⟨_,rfl⟩
 rw[hq];refine Aj ?_;cases hf:q.2.2 with
 |false=>rw[Ae rfl];refine Aj ?_;exact qr
 |true=>
 rw[Ac AW];refine Aj ?_;simp only[AL,AI,AN];refine Ea ?_;refine Aj ?_;refine Ea ?_;refine Aj ?_;refine Ea ?_;obtain⟨u,hu⟩: ∃u,O5 S.W (LM S q.1) pg lv=u:=⟨_,rfl⟩
 rw[hu];by_cases h1:u.2=0
 ·rw[h1];refine Aj ?_;exact qr
 ·rw[show decide (u.2=0)=false by simp[h1]];refine Aj ?_;exact qr
instance[h:IsK F C k S p s]{se pg lv:Int}:QF prog 370 [pV b,.int .i64 se,.int .i64 pg,.int .i64 lv] (Av b p s S G) (.tuple #[Ba (GQ S se pg lv).1.1,iV (GQ S se pg lv).1.2,.bool (GQ S se pg lv).2]):=⟨λl hl=>kM h se pg lv l hl⟩
theorem IsK.plU(h:IsK F C k S p s)(se pg lv:Int):U6 (GQ S se pg lv).1.1:=by
 unfold GQ
 split
 ·exact⟨by decide,by decide⟩
 ·exact h.atU _ _ _
theorem kN(hK:IsK F C k S p s)(a:Int)[ha:U6 a](leaf:Bool)(f:Int)(l:List Ab)(hl: ∀c,c∈Av b p s S G->c∈l):Fn prog 371 [pV b,Ba a,.bool leaf,.int .i64 f] l λv l'=>v= .bool (R8 S a leaf f)/\l'=l:=by
 have mr:Co b p∈l:=mR hl;have I: ∀{f:Nat} {vs:List Value} {v:Value} [QF prog f vs (Av b p s S G) v],QF prog f vs l v:=W5 hl;have hu:=hK.ldU a;unfold R8;refine AO func371 ntmps371 λE=>?_;refine Aj ?_;refine Ea ?_;refine Aj ?_;refine Ea ?_;obtain⟨w,hw⟩: ∃w,(Np S.W a).1=w:=⟨_,rfl⟩
 rw[hw] at hu⊢;refine Aj ?_;simp only[AL,AI,AN];refine Ea ?_;obtain⟨e,he⟩: ∃e,(JY w).1=e:=⟨_,rfl⟩
 obtain⟨er,her⟩: ∃er,(JY w).2=er:=⟨_,rfl⟩
 rw[he,her];refine AQ λb11=>?_;obtain⟨vd,lf,rd,wr,fr⟩:=e;by_cases h1:er=0<;>cases vd<;>cases lf<;>cases leaf<;>by_cases h2:fr=f;all_goals
  refine Aj ?_;simp only[h1,h2,FT,GY,Bool.and_true,Bn,Id,Bd];exact qr
end
section
instance[h:IsK F C k S p s]{a f:Int}{leaf:Bool}[ha:U6 a]:QF prog 371 [pV b,Ba a,.bool leaf,.int .i64 f] (Av b p s S G) (.bool (R8 S a leaf f)):=⟨λl hl=>kN h a leaf f l hl⟩
theorem kO(hK:IsK F C k S p s)(id:Int)(l:List Ab)(hl: ∀c,c∈Av b p s S G->c∈l):Fn prog 331 [pV b,.int .i64 id] l λv l'=>v= .tuple #[Ba (Fi S id).1.1,iV (Fi S id).1.2,.bool (Fi S id).2]/\l'=l:=by
 have mr:Co b p∈l:=mR hl;have I: ∀{f:Nat} {vs:List Value} {v:Value} [QF prog f vs (Av b p s S G) v],QF prog f vs l v:=W5 hl;unfold Fi;refine AO func331 ntmps331 λE=>?_;refine Aj ?_;refine Ea ?_;refine Aj ?_;refine Ea ?_;obtain⟨o,ho⟩: ∃o,(Ar.getD' S.A id).1=o:=⟨_,rfl⟩
 obtain⟨ok,hok⟩: ∃ok,(Ar.getD' S.A id).2=ok:=⟨_,rfl⟩
 rw[ho,hok];refine AQ λb7=>?_;by_cases h0:ok=false\/¬o.kd=4\/o.lv=0
 ·rw[Ae h0];cases ok<;>by_cases h1:o.kd=4<;>by_cases h2:o.lv=0;all_goals first
   |(exfalso;simp[h1,h2] at h0;done)
   |(refine Aj ?_
     exact qr)
 rw[Ac h0];obtain⟨h1,h2,h3⟩:ok=true/\o.kd=4/\¬o.lv=0:=by simp at h0;exact h0
 subst h1;refine Aj ?_;refine Ea ?_;have hu:=hK.plU o.se o.pg o.lv;obtain⟨q,hq⟩: ∃q,GQ S o.se o.pg o.lv=q:=⟨_,rfl⟩
 rw[hq] at hu⊢;refine Aj ?_;try simp only[AL,AI,AN]
 cases hf:q.2 with
 |false=>refine Aj ?_;rw[Bd];exact qr
 |true=>
 refine Aj ?_;try simp only[AL,AI,AN]
 refine Ea ?_;refine Aj ?_;rw[Bn];exact qr
instance[h:IsK F C k S p s]{id:Int}:QF prog 331 [pV b,.int .i64 id] (Av b p s S G) (.tuple #[Ba (Fi S id).1.1,iV (Fi S id).1.2,.bool (Fi S id).2]):=⟨λl hl=>kO h id l hl⟩
theorem kP(hK:IsK F C k S p s)(c:CapT)(l:List Ab)(hl: ∀c,c∈Av b p s S G->c∈l):Fn prog 337 [pV b,UH c] l λv l'=>v= .tuple #[Ba (Fj S c).1.1,iV (Fj S c).1.2,.bool (Fj S c).2]/\l'=l:=by
 have mr:Co b p∈l:=mR hl;have I: ∀{f:Nat} {vs:List Value} {v:Value} [QF prog f vs (Av b p s S G) v],QF prog f vs l v:=W5 hl;unfold Fj;refine AO func337 ntmps337 λE=>?_;refine AQ λb3=>?_;refine Ch (Cf [8,9] 0 11) ?_;refine Ci ?_;refine Hf e_alloc (by rintro _ _ ⟨_,_,_,rfl⟩ c hc;exact .tail _ hc) ?_;rintro _ _ ⟨b7,_,rfl,rfl⟩;obtain⟨o,ho⟩: ∃o,(Ar.getD' S.A c.obj).1=o:=⟨_,rfl⟩
 obtain⟨ok,hok⟩: ∃ok,(Ar.getD' S.A c.obj).2=ok:=⟨_,rfl⟩
 rw[ho,hok];refine Ci ?_;by_cases h0:ok=false\/¬c.kind=3\/E5 c=false
 ·rw[Ae h0];by_cases h9:ok=true/\c.kind=3
  ·obtain⟨rfl,h1⟩:=h9;have h2:E5 c=false:=by simp[h1] at h0;exact h0
   refine Aj ?_;refine Ea ?_;rw[h2];refine Aj ?_;exact qr
  cases ok<;>by_cases h1:c.kind=3;all_goals first
   |(exfalso;simp[h1] at h9;done)
   |(refine Aj ?_
     exact qr)
 rw[Ac h0];obtain⟨h1,h2,h3⟩:ok=true/\c.kind=3/\E5 c=true:=by simp at h0;exact h0
 subst h1;refine Aj ?_;refine Ea ?_;rw[h3];refine Aj ?_;refine Ea ?_;have hu:=hK.plU c.serial c.page 3;obtain⟨q,hq⟩: ∃q,GQ S c.serial c.page 3=q:=⟨_,rfl⟩
 rw[hq] at hu⊢;refine Aj ?_;try simp only[AL,AI,AN]
 cases hf:q.2 with
 |false=>refine Aj ?_;rw[Bd];exact qr
 |true=>
 refine Aj ?_;try simp only[AL,AI,AN]
 refine Ea ?_;refine Aj ?_;rw[Bn];exact qr
instance[h:IsK F C k S p s]{c:CapT}:QF prog 337 [pV b,UH c] (Av b p s S G) (.tuple #[Ba (Fj S c).1.1,iV (Fj S c).1.2,.bool (Fj S c).2]):=⟨λl hl=>kP h c l hl⟩
theorem kQ(hK:IsK F C k S p s)(id:Int)(l:List Ab)(hl: ∀c,c∈Av b p s S G->c∈l):Fn prog 292 [pV b,.int .i64 id] l λv l'=>v= .bool (Fi S id).2/\l'=l:=by have mr:Co b p∈l:=mR hl;have I: ∀{f:Nat} {vs:List Value} {v:Value} [QF prog f vs (Av b p s S G) v],QF prog f vs l v:=W5 hl;refine AO func292 ntmps292 λE=>?_;refine Aj ?_;refine Ea ?_;refine Aj ?_;exact qr
instance[h:IsK F C k S p s]{id:Int}:QF prog 292 [pV b,.int .i64 id] (Av b p s S G) (.bool (Fi S id).2):=⟨λl hl=>kQ h id l hl⟩
theorem kR(hK:IsK F C k S p s)(c:CapT)(l:List Ab)(hl: ∀c,c∈Av b p s S G->c∈l):Fn prog 298 [pV b,UH c] l λv l'=>v= .bool (Fj S c).2/\l'=l:=by have mr:Co b p∈l:=mR hl;have I: ∀{f:Nat} {vs:List Value} {v:Value} [QF prog f vs (Av b p s S G) v],QF prog f vs l v:=W5 hl;refine AO func298 ntmps298 λE=>?_;refine AQ λb3=>?_;refine Ea ?_;refine Aj ?_;exact qr
instance[h:IsK F C k S p s]{c:CapT}:QF prog 298 [pV b,UH c] (Av b p s S G) (.bool (Fj S c).2):=⟨λl hl=>kR h c l hl⟩
end
section
instance:U6 0:=⟨by decide,by decide⟩
instance{a v:Int}[ha:U6 a][hv:U6 v]:EK prog F C b p 202 [pV p.m,Ba a,Ba v] k S k (iV (bD S.W a v).1) {S with W:=(bD S.W a v).2}:=⟨λs G h=>XZ h a v ha.out.1 ha.out.2 hv.out⟩
def Wy(S:KT)(id:Int):KT:={S with W:=(bD S.W (Fi S id).1.1 0).2,K:=IN S.K (PF (Fi S id).1.2),A:=(Ar.placeD S.A id 0 0 0).2}
theorem IsK.tbU(h:IsK F C k S p s)(id:Int):U6 (Fi S id).1.1:=by
 unfold Fi
 split
 ·exact⟨by decide,by decide⟩
 ·exact h.plU _ _ _
theorem IsK.frU(h:IsK F C k S p s)(c:CapT):U6 (Fj S c).1.1:=by
 unfold Fj
 split
 ·exact⟨by decide,by decide⟩
 ·exact h.plU _ _ _
theorem oJ(hK:IsK F C k S p s)(id:Int):Fn prog 297 [pV b,.int .i64 id] (Av b p s S G) (KK F C b p k (.bool (Fi S id).2) (if(Fi S id).2=true then Wy S id else S) G):=by
 have mr:Co b p∈Av b p s S G:=mR λ_ h=>h;have hu:=hK.tbU id;unfold Wy;refine AO func297 ntmps297 λE=>?_;refine Aj ?_;refine Ea ?_;obtain⟨q,hq⟩: ∃q,Fi S id=q:=⟨_,rfl⟩
 rw[hq] at hu⊢;cases hf:q.2 with
 |false=>rw[Ac AW];refine Aj ?_;exact A4
 |true=>
 rw[Ae rfl];refine Aj ?_;refine Ea ?_;refine Aj ?_;try simp only[AL,AI,AN]
 refine Fy ?_;intro S1 s1 L1 hS1 hK1 hT1 mr1;refine Aj ?_;refine Ea ?_;refine Aj ?_;try simp only[AL,AI,AN]
 refine Fy ?_;intro S2 s2 L2 hS2 hK2 hT2 mr2;refine Aj ?_;refine Ea ?_;refine Aj ?_;refine Fy ?_;intro S3 s3 L3 hS3 hK3 hT3 mr3;refine Aj ?_;exact A4
instance{id:Int}:EK prog F C b p 297 [pV b,.int .i64 id] k S k (.bool (Fi S id).2) (if(Fi S id).2=true then Wy S id else S):=⟨λs G h=>oJ h id⟩
def gj(S:KT)(c:CapT):KT:={S with W:=(bD S.W (Fj S c).1.1 0).2,K:=IN S.K (Jk (Fj S c).1.2 c.page)}
theorem gk(hK:IsK F C k S p s)(c:CapT):Fn prog 302 [pV b,UH c] (Av b p s S G) (KK F C b p k (.bool (Fj S c).2) (if(Fj S c).2=true then gj S c else S) G):=by
 have mr:Co b p∈Av b p s S G:=mR λ_ h=>h;have hu:=hK.frU c;unfold gj;refine AO func302 ntmps302 λE=>?_;refine AQ λb3=>?_;refine Ea ?_;obtain⟨q,hq⟩: ∃q,Fj S c=q:=⟨_,rfl⟩
 rw[hq] at hu⊢;cases hf:q.2 with
 |false=>rw[Ac AW];refine Aj ?_;exact A4
 |true=>
 rw[Ae rfl];refine Aj ?_;refine Ea ?_;refine Aj ?_;try simp only[AL,AI,AN]
 refine Fy ?_;intro S1 s1 L1 hS1 hK1 hT1 mr1;refine Aj ?_;refine Ch (Cf [5] 0 6) ?_;refine Ci ?_;refine Lj ?_;intro S2 s2 L2 hS2 hK2 hT2 mr2;refine Ci ?_;refine Aj ?_;exact A4
instance{c:CapT}:EK prog F C b p 302 [pV b,UH c] k S k (.bool (Fj S c).2) (if(Fj S c).2=true then gj S c else S):=⟨λs G h=>gk h c⟩
end
abbrev Mk(x:CB)(k:Int):List Value:=[iV x.1,iV x.2,iV k]
def E7(S:KT)(x:CB)(k:Int):Prop:=(getD' S.H.1 x).2=0/\(D5 S x).kind=k
instance(S:KT)(x:CB)(k:Int):Decidable (E7 S x k):=by unfold E7;exact inferInstance
section
theorem ZN(hK:IsK F C k S p s)(bw:Nat)(x:CB)(kd:Int)(l:List Ab)(hl: ∀c,c∈Av b p s S G->c∈l)(mw:(bw,Obj.cells (toArray (Mk x kd)) 458 (0,0))∈l):Fn prog 291 [pV b,.slice (some ⟨bw,0,none⟩) 1 1] l λv l'=>
 (E7 S x kd/\ ∃u cs,OwnSl 74 8 u 1 (BR (D5 S x)) cs/\v= .tuple #[u,iV 0]/\l'=cs++l)\/(¬E7 S x kd/\v= .tuple #[.slice none 0 0,iV 8]/\l'=l):=by
 have mr:Co b p∈l:=mR hl;have I: ∀{f:Nat} {vs:List Value} {v:Value} [QF prog f vs (Av b p s S G) v],QF prog f vs l v:=W5 hl;have w1:(toArray (Mk x kd)).extract (0+(0:Int).toNat*3) (0+(0:Int).toNat*3+3)=toArray (Mk x kd):=rfl;refine AO func291 ntmps291 λE=>?_;refine Aj ?_;refine Hb 1 ?_;refine Aj ?_;refine Bc (Dm rfl mw (by show 0+(0:Int).toNat*3+3<=3;decide) w1) ?_;refine AQ λb8=>?_;refine Ch (Cf [8,9] 0 11) ?_;refine Ci ?_;refine Hf e_alloc (by rintro _ _ ⟨_,_,_,rfl⟩ c hc;exact .tail _ hc) ?_;rintro _ _ ⟨b9,_,rfl,rfl⟩;unfold E7;obtain⟨c,hc⟩: ∃c,(getD' S.H.1 x).1=c:=⟨_,rfl⟩
 obtain⟨e,he⟩: ∃e,(getD' S.H.1 x).2=e:=⟨_,rfl⟩
 rw[show D5 S x=c from hc,hc,he];refine Ci ?_;by_cases h0:e=0/\c.kind=kd
 case neg=>
  by_cases h1:e=0<;>by_cases h2:c.kind=kd
  ·exact absurd ⟨h1,h2⟩ h0
  all_goals
   refine Aj ?_;exact Cy _ .refl (.drop (.drop .refl)) (.inr ⟨h0,rfl,rfl⟩)
 obtain⟨h1,h2⟩:=h0;refine Aj ?_;refine AS (E3 (ws:=BR c) (k:=8) rfl rfl rfl AW AW) ?_;rintro _ _ ⟨bl,_,rfl,rfl⟩;refine Aj ?_;refine AS (GI (k:=8) (X:=[(b9,Obj.cells (toArray (BR c)) 74 (0,0)),(b8,Obj.cells (toArray (Mk x kd)) 458 (0,0))]) (cs:=[]) (xs:=[]) (n:=0) (zs:=BR ⟨0,0,0,0,0,0,0,0⟩) (ws:=BR c) rfl rfl rfl (OwnSl.nil _ _) rfl (by simp[Value.oneCell']) Af AW) ?_;rintro v' _ ⟨c2,ho2,rfl⟩;simp only[Ad,Ag] at ho2⊢;refine Aj ?_;refine Ew ?_;refine Aj ?_;exact Cy _ .refl (.drop (.drop .refl)) (.inl ⟨⟨h1,h2⟩,v',c2,ho2,rfl,rfl⟩)
theorem Qv(hK:IsK F C k S p s)(bw:Nat)(x y:CB)(kd kd2:Int)(l:List Ab)(hl: ∀c,c∈Av b p s S G->c∈l)(mw:(bw,Obj.cells (toArray (Mk x kd++Mk y kd2)) 458 (0,0))∈l):Fn prog 291 [pV b,.slice (some ⟨bw,0,none⟩) 2 2] l λv l'=>
 ((E7 S x kd/\E7 S y kd2)/\ ∃u cs,OwnSl 74 8 u 2 (BR (D5 S x)++BR (D5 S y)) cs/\v= .tuple #[u,iV 0]/\l'=cs++l)\/(¬(E7 S x kd/\E7 S y kd2)/\v= .tuple #[.slice none 0 0,iV 8]/\l'=l):=by
 have mr:Co b p∈l:=mR hl;have I: ∀{f:Nat} {vs:List Value} {v:Value} [QF prog f vs (Av b p s S G) v],QF prog f vs l v:=W5 hl;have w1:(toArray (Mk x kd++Mk y kd2)).extract (0+(0:Int).toNat*3) (0+(0:Int).toNat*3+3)=toArray (Mk x kd):=rfl;have w2:(toArray (Mk x kd++Mk y kd2)).extract (0+(1:Int).toNat*3) (0+(1:Int).toNat*3+3)=toArray (Mk y kd2):=rfl;refine AO func291 ntmps291 λE=>?_;refine Aj ?_;refine Hb 2 ?_;refine Aj ?_;refine Bc (Dm rfl mw (by show 0+(0:Int).toNat*3+3<=6;decide) w1) ?_;refine AQ λb8=>?_;refine Ch (Cf [8,9] 0 11) ?_;refine Ci ?_;refine Hf e_alloc (by rintro _ _ ⟨_,_,_,rfl⟩ c hc;exact .tail _ hc) ?_;rintro _ _ ⟨b9,_,rfl,rfl⟩;unfold E7;obtain⟨c,hc⟩: ∃c,(getD' S.H.1 x).1=c:=⟨_,rfl⟩
 obtain⟨e,he⟩: ∃e,(getD' S.H.1 x).2=e:=⟨_,rfl⟩
 obtain⟨c',hc'⟩: ∃c,(getD' S.H.1 y).1=c:=⟨_,rfl⟩
 obtain⟨e',he'⟩: ∃e,(getD' S.H.1 y).2=e:=⟨_,rfl⟩
 rw[show D5 S x=c from hc,show D5 S y=c' from hc',hc,he,he'];refine Ci ?_;by_cases h0:e=0/\c.kind=kd
 case neg=>
  by_cases h1:e=0<;>by_cases h2:c.kind=kd
  ·exact absurd ⟨h1,h2⟩ h0
  all_goals
   refine Aj ?_;exact Cy _ .refl (.drop (.drop .refl)) (.inr ⟨λh=>h0 h.1,rfl,rfl⟩)
 obtain⟨h1,h2⟩:=h0;refine Aj ?_;refine AS (E3 (ws:=BR c) (k:=8) rfl rfl rfl AW AW) ?_;rintro _ _ ⟨bl,_,rfl,rfl⟩;refine Aj ?_;refine AS (GI (k:=8) (X:=[(b9,Obj.cells (toArray (BR c)) 74 (0,0)),(b8,Obj.cells (toArray (Mk x kd)) 458 (0,0))]) (cs:=[]) (xs:=[]) (n:=0) (zs:=BR ⟨0,0,0,0,0,0,0,0⟩) (ws:=BR c) rfl rfl rfl (OwnSl.nil _ _) rfl (by simp[Value.oneCell']) Af AW) ?_;rintro v' _ ⟨c2,ho2,rfl⟩;simp only[Ad,Ag] at ho2⊢;refine Aj ?_;refine Ew ?_;refine Aj ?_;rw[show(0:Int)+1=1 from rfl];refine Bc (Dm rfl (.tail _ (.tail _ (Aa _ mw))) (by show 0+(1:Int).toNat*3+3<=6;decide) w2) ?_;refine AQ λd8=>?_;refine Ch (Cf [8,9] 0 11) ?_;have I2: ∀{f:Nat} {vs:List Value} {v:Value} [QF prog f vs (Av b p s S G) v],QF prog f vs (c2++l) v:=W5 λc hc=>Aa _ (hl c hc);refine Ci ?_;rw[hc',he'];refine Hf e_alloc (by rintro _ _ ⟨_,_,_,rfl⟩ c hc;exact .tail _ hc) ?_;rintro _ _ ⟨d9,_,rfl,rfl⟩;refine Ci ?_;by_cases h0:e'=0/\c'.kind=kd2
 case neg=>
  by_cases h3:e'=0<;>by_cases h4:c'.kind=kd2
  ·exact absurd ⟨h3,h4⟩ h0
  all_goals
   refine Aj ?_;exact Cy _ .refl (.drop (.drop (.drop (.drop (Keep.dropL' c2 .refl))))) (.inr ⟨λh=>h0 h.2,rfl,rfl⟩)
 obtain⟨h3,h4⟩:=h0;refine Aj ?_;refine AS (E3 (ws:=BR c') (k:=8) rfl rfl rfl AW AW) ?_;rintro _ _ ⟨bl2,_,rfl,rfl⟩;refine Aj ?_;refine AS (GI (k:=8) (X:=[(d9,Obj.cells (toArray (BR c')) 74 (0,0)),(d8,Obj.cells (toArray (Mk y kd2)) 458 (0,0)),(b9,Obj.cells (toArray (BR c)) 74 (0,0)),(b8,Obj.cells (toArray (Mk x kd)) 458 (0,0))]) (cs:=c2) (xs:=BR c) (n:=1) (zs:=BR ⟨0,0,0,0,0,0,0,0⟩) (ws:=BR c') rfl rfl rfl ho2 rfl (by simp[Value.oneCell']) Af AW) ?_;rintro v2 _ ⟨c3,ho3,rfl⟩;simp only[Ad,Ag];refine Aj ?_;refine Ew ?_;refine Aj ?_;exact Cy _ .refl (.drop (.drop (.drop (.drop .refl)))) (.inl ⟨⟨⟨h1,h2⟩,h3,h4⟩,v2,c3,ho3,rfl,rfl⟩)
end
section
def TX(S:KT)(id:Int):KT:=if(Fi S id).2=true then Wy S id else S
def TY(S:KT)(x:CB):Int×KT:=if E7 S x 4 then(0,{TX S (D5 S x).obj with A:=(Ar.placeD (TX S (D5 S x).obj).A (D5 S x).obj 0 0 0).2}) else(8,S)
theorem Mg{u:Value}{xs:List Value}{cs:List Ab}{m:Nat}(h:OwnSl e m u n xs cs)(h1:1<=n): ∃gb cap sp,u= .slice (some ⟨gb,0,none⟩) n cap/\cs=[(gb,.cells (toArray (xs++sp)) e (0,0))]:=by
 obtain⟨_,⟨_,h0,_⟩|⟨gb,cap,sp,h2,h3,_⟩⟩:=h
 ·omega
 ·exact⟨gb,cap,sp,h2,h3⟩
theorem oK(hK:IsK F C k S p s)(x:CB):Fn prog 216 [pV b,Fp x] (Av b p s S G) (KK F C b p k (iV (TY S x).1) (TY S x).2 G):=by
 have mr:Co b p∈Av b p s S G:=mR λ_ h=>h;unfold TY;refine AO func216 ntmps216 λE=>?_;refine AQ λb3=>?_;refine AS (E3 (ws:=Mk x 4) (k:=3) rfl rfl rfl AW AW) ?_;rintro _ _ ⟨bw,_,rfl,rfl⟩;refine Aj ?_;refine AS (Az rfl rfl (ZN hK bw x 4 _ (λc hc=> .tail _ (.tail _ hc)) (.head _))) ?_;rintro _ _ (⟨hk,u,cs,ho,rfl,rfl⟩|⟨hk,rfl,rfl⟩)
 case' inr=>
  rw[Ac hk];refine Aj ?_;exact A4
 rw[Ae hk];obtain⟨gb,cap,sp,rfl,rfl⟩:=Mg ho Af;rw[Ca];obtain⟨c,hc⟩: ∃c,D5 S x=c:=⟨_,rfl⟩
 rw[hc];have z1:(toArray (BR c++sp))[0+(0:Int).toNat*8+1]?=some (.int .i64 c.obj):=rfl;refine Aj ?_;refine Fy ?_;intro S1 s1 L1 hS1 hK1 hT1 mr1;refine Aj ?_;refine Ch (Cf [6] 0 7) ?_;refine Ci ?_;refine Lj ?_;intro S2 s2 L2 hS2 hK2 hT2 mr2;refine Ci ?_;refine Aj ?_;have hS:S2={TX S c.obj with A:=(Ar.placeD (TX S c.obj).A c.obj 0 0 0).2}:=by rw[hS2,hS1];rfl
 exact A4
instance{x:CB}:EK prog F C b p 216 [pV b,Fp x] k S k (iV (TY S x).1) (TY S x).2:=⟨λs G h=>oK h x⟩
end
theorem OS: ∀(us ws X Y:List Value),us.length=ws.length->CO (toArray (X++(us++Y))) X.length ws=toArray (X++(ws++Y))
 |[],[],X,Y,_=>rfl
 |u::us,w::ws,X,Y,h=>by
  have h1:(toArray (X++(u::us++Y))).setIfInBounds X.length w=toArray ((X++[w])++(us++Y)):=by apply BJ.1;rw[Array.toList_setIfInBounds];show(X++(u::(us++Y))).set X.length w=_;rw[Cg _ _ Af,Dr,EX];simp
  unfold CO;rw[h1];have h2:=OS us ws (X++[w]) Y (by simpa using h);rw[Ah] at h2;rw[show X.length+1=X.length+[w].length from rfl,h2];simp
def Ef:Nat->List (List Value)->List (Nat×Value)
 |_,[]=>[]
 |i,r::rs=>(i,.agg (toArray r))::Ef (i+1) rs
theorem Pp{zs:List Value}{k:Nat}(hz:zs.length=k): ∀(rows:List (List Value)) (done:List Value) (i:Nat),(∀r,r∈rows->r.length=k)->done.length=i*k->
 Instr.fill (λi=>some (i*k,k)) (toArray (done++(List.replicate rows.length zs).flatten)) (Ef i rows)=some (toArray (done++rows.flatten))
 |[],done,i,_,_=>by simp[Ef,Instr.fill]
 |r::rs,done,i,hr,hd=>by have h1:r.length=k:=hr r Ak;unfold Ef Instr.fill;have e2:(Value.agg (toArray r)).cells=toArray r:=rfl;simp only[e2];rw[Bi,BE,Cl];rw[Ac (by simp[h1,hz,hd])];rw[IU,<-hd,OS zs r done _ (by rw[hz,h1]),<-Al];rw[Pp hz rs (done++r) (i+1) (λr' h=>hr r' (An _ h)) (by rw[Ah,hd,h1,Fq])];rw[Al,Cl]
section
variable{P:Program}{ro:Option Nat}{N:Nat}{fr:Fr}{l:List Ab}{d:Option Nat}{ty:TypeId}{pos:String}{aft:Array Edge}{g:Option (Nat×Bool)}
theorem Dy{T yb:Nat}{zs:List Value}{ps:List (Nat×Operand)}{pvs:List (Nat×Value)}{cs:List Value}(hps:Xh fr ps=some pvs)(h0:0<n*k)(hn:n*k<=16777216)[c:ST P T e k yb][cz:ZV P e zs](hzs:zs.length=k)(hfill:Instr.fill (λi=>some (i*k,k)) (toArray (List.replicate n zs).flatten) pvs=some (toArray cs)):
 OpE P ro N fr l ⟨d,.buildSlice T n ps.toArray,ty,pos,aft,g⟩ (λv' l'=> ∃b,(∀c,c∈l->c.1≠b)/\v'= .slice (some ⟨b,0,none⟩) n n/\l'=(b,.cells (toArray cs) e (0,0))::l):=Do rfl λρ hρ=>by
 simp only[execOp,AB];have e:ps.toArray.map (λ(i,x)=>(i,ρ x))=toArray pvs:=by rw[<-hρ.parts hps];simp
 rw[e];exact IV (cs:=cs) c.out cz.out hzs h0 hn hfill λb hb=>⟨b,hb,rfl,rfl⟩
end
section
abbrev uS(x:CB)(k:Int):Value:= .agg (toArray (Mk x k))
theorem Qw(x y:CB)(k1 k2:Int):Instr.fill (λi=>some (i*3,3)) (toArray (List.replicate 2 (Mk (0,0) 0)).flatten) [(0,uS x k1),(1,uS y k2)]=some (toArray (Mk x k1++Mk y k2)):=
 Pp (zs:=Mk (0,0) 0) rfl [Mk x k1,Mk y k2] [] 0 (by simp) rfl
def TZ(S:KT)(x y:CB):Int×KT:=if E7 S x 7/\E7 S y 6 then((As.addP S.N (D5 S y).obj).2.1,{S with N:=(As.addP S.N (D5 S y).obj).2.2}) else(8,S)
theorem oL(hK:IsK F C k S p s)(x y:CB):Fn prog 219 [pV b,Fp x,Fp y] (Av b p s S G) (KK F C b p k (iV (TZ S x y).1) (TZ S x y).2 G):=by
 have mr:Co b p∈Av b p s S G:=mR λ_ h=>h;unfold TZ;refine AO func219 ntmps219 λE=>?_;refine AQ λb3=>?_;refine AQ λb4=>?_;refine AS (Dy (k:=3) (n:=2) (e:=458) (zs:=Mk (0,0) 0) (cs:=Mk x 7++Mk y 6) rfl AW AW rfl (Qw x y 7 6)) ?_;rintro _ _ ⟨bw,_,rfl,rfl⟩;refine Aj ?_;refine AS (Az rfl rfl (Qv hK bw x y 7 6 _ (λc hc=> .tail _ (.tail _ (.tail _ hc))) (.head _))) ?_;rintro _ _ (⟨hk,u,cs,ho,rfl,rfl⟩|⟨hk,rfl,rfl⟩)
 case' inr=>
  rw[Ac hk];refine Aj ?_;exact A4
 rw[Ae hk];obtain⟨gb,cap,sp,rfl,rfl⟩:=Mg ho Af;rw[Ca];obtain⟨c,hc⟩: ∃c,D5 S x=c:=⟨_,rfl⟩
 obtain⟨d,hd⟩: ∃d,D5 S y=d:=⟨_,rfl⟩
 rw[hc,hd];have z1:(toArray (BR c++BR d++sp))[0+(1:Int).toNat*8+1]?=some (.int .i64 d.obj):=rfl;refine Aj ?_;refine Ch (Cf [6] 0 11) ?_;refine Ci ?_;refine Lj ?_;intro S1 s1 L1 hS1 hK1 hT1 mr1;refine Ci ?_;refine Aj ?_;exact A4
instance{x y:CB}:EK prog F C b p 219 [pV b,Fp x,Fp y] k S k (iV (TZ S x y).1) (TZ S x y).2:=⟨λs G h=>oL h x y⟩
def T0(S:KT)(x y:CB):Int×KT:=
 if E7 S x 6/\E7 S y 5 then((As.assignP S.N (D5 S x).obj (D5 S y).obj).2.2.1,{S with N:=(As.assignP S.N (D5 S x).obj (D5 S y).obj).2.2.2,W:=if(As.assignP S.N (D5 S x).obj (D5 S y).obj).2.2.1=0 then(jV S.W (LM S (D5 S y).obj) 1).2 else S.W}) else(8,S)
theorem oM(hK:IsK F C (k+1) S p s)(x y:CB):Fn prog 220 [pV b,Fp x,Fp y] (Av b p s S G) (KK F C b p k (iV (T0 S x y).1) (T0 S x y).2 G):=by
 have mr:Co b p∈Av b p s S G:=mR λ_ h=>h;unfold T0;refine AO func220 ntmps220 λE=>?_;refine AQ λb3=>?_;refine AQ λb4=>?_;refine AS (Dy (k:=3) (n:=2) (e:=458) (zs:=Mk (0,0) 0) (cs:=Mk x 6++Mk y 5) rfl AW AW rfl (Qw x y 6 5)) ?_;rintro _ _ ⟨bw,_,rfl,rfl⟩;refine Aj ?_;refine AS (Az rfl rfl (Qv hK bw x y 6 5 _ (λc hc=> .tail _ (.tail _ (.tail _ hc))) (.head _))) ?_;rintro _ _ (⟨hk,u,cs,ho,rfl,rfl⟩|⟨hk,rfl,rfl⟩)
 case' inr=>
  rw[Ac hk];refine Aj ?_;exact A4
 rw[Ae hk];obtain⟨gb,cap,sp,rfl,rfl⟩:=Mg ho Af;rw[Ca];obtain⟨c,hc⟩: ∃c,D5 S x=c:=⟨_,rfl⟩
 obtain⟨d,hd⟩: ∃d,D5 S y=d:=⟨_,rfl⟩
 rw[hc,hd];have z0:(toArray (BR c++BR d++sp))[0+(0:Int).toNat*8+1]?=some (.int .i64 c.obj):=rfl;have z1:(toArray (BR c++BR d++sp))[0+(1:Int).toNat*8+1]?=some (.int .i64 d.obj):=rfl;refine Aj ?_;refine Ch (Cf [10] 0 16) ?_;refine Ci ?_;refine Lj ?_;intro S1 s1 L1 hS1 hK1 hT1 mr1;obtain⟨r,hr⟩: ∃r,As.assignP S.N c.obj d.obj=r:=⟨_,rfl⟩
 rw[hr] at hS1⊢;refine Ci ?_;by_cases h0:r.2.2.1=0
 case neg=>rw[Ac h0];refine Aj ?_;exact A4
 rw[Ae h0];refine Aj ?_;refine Ch (Cf [8] 0 9) ?_;refine Ci ?_;refine Lj ?_;intro S2 s2 L2 hS2 hK2 hT2 mr2;refine Ci ?_;refine Aj ?_;have hS:S2={S with N:=r.2.2.2,W:=(jV S.W (LM S d.obj) 1).2}:=by rw[hS2,hS1];rfl
 exact A4
instance{x y:CB}:EK prog F C b p 220 [pV b,Fp x,Fp y] (k+1) S k (iV (T0 S x y).1) (T0 S x y).2:=⟨λs G h=>oM h x y⟩
end
class CW(c:CapT):Prop where
 out:Ik c
section
instance mY{x:CB}{c:CapT}[hc:CW c]:EK prog F C b p 300 [pV p.h,Fp x,UH c] k S k (iV (OH S.H x c).1) {S with H:=(OH S.H x c).2}:=⟨λs G h=>jZ h Af (λm hm=>(hm.set x c hc.out).mono Af) λm G hm _=>fh p.h S.H m hm s.H h.ho x c G⟩
theorem IsK.cw(h:IsK F C k S p s)(x:CB):CW (D5 S x):=by
 obtain⟨m,h1,h2⟩:=h.inv;unfold D5 getD'
 split
 ·exact⟨(h2.at x).2⟩
 ·exact⟨Kw.2⟩
theorem ZP(c:CapT)(sp:List Value):(toArray (BR c++sp)).extract (0+(0:Int).toNat*8) (0+(0:Int).toNat*8+8)=toArray (BR c):=by apply BJ.1;simp
def PM(S:KT)(c:CapT):KT:=if(Fj S c).2=true then gj S c else S
def T1(S:KT)(x:CB):Int×KT:=if E7 S x 3 then(0,{PM S (D5 S x) with H:=(OH (PM S (D5 S x)).H x {D5 S x with serial:=0,page:=0}).2}) else(8,S)
theorem oN(hK:IsK F C k S p s)(x:CB):Fn prog 218 [pV b,Fp x] (Av b p s S G) (KK F C b p k (iV (T1 S x).1) (T1 S x).2 G):=by
 have mr:Co b p∈Av b p s S G:=mR λ_ h=>h;have hw:=hK.cw x;unfold T1;refine AO func218 ntmps218 λE=>?_;refine AQ λb3=>?_;refine AS (E3 (ws:=Mk x 3) (k:=3) rfl rfl rfl AW AW) ?_;rintro _ _ ⟨bw,_,rfl,rfl⟩;refine Aj ?_;refine AS (Az rfl rfl (ZN hK bw x 3 _ (λc hc=> .tail _ (.tail _ hc)) (.head _))) ?_;rintro _ _ (⟨hk,u,cs,ho,rfl,rfl⟩|⟨hk,rfl,rfl⟩)
 case' inr=>
  rw[Ac hk];refine Aj ?_;exact A4
 rw[Ae hk];obtain⟨gb,cap,sp,rfl,rfl⟩:=Mg ho Af;rw[Ca];obtain⟨c,hc⟩: ∃c,D5 S x=c:=⟨_,rfl⟩
 rw[hc] at hw⊢;have hw2:CW {c with serial:=0,page:=0}:=⟨hw.out.1,hw.out.2⟩
 have z1:=ZP c sp;refine Aj ?_;refine Bc (Dm rfl (.head _) (by show 0+(0:Int).toNat*8+8<=(BR c++sp).length;simp) z1) ?_;refine AQ λb7=>?_;refine Fy ?_;intro S1 s1 L1 hS1 hK1 hT1 mr1;refine Aj ?_;refine Ch (Cf [4] 0 5) ?_;refine Ci ?_;refine Lj (q:=mY (x:=x) (c:={c with serial:=0,page:=0})) ?_;intro S2 s2 L2 hS2 hK2 hT2 mr2;refine Ci ?_;refine Aj ?_;have hS:S2={PM S c with H:=(OH (PM S c).H x {c with serial:=0,page:=0}).2}:=by rw[hS2,hS1];rfl
 exact A4
instance{x:CB}:EK prog F C b p 218 [pV b,Fp x] k S k (iV (T1 S x).1) (T1 S x).2:=⟨λs G h=>oN h x⟩
end
section
def R9(S:KT)(x:CB):Int:=if(getD' S.H.1 x).2=0/\(D5 S x).kind=0 then 10 else(getD' S.H.1 x).2
theorem rP(hK:IsK F C k S p s)(x:CB)(l:List Ab)(hl: ∀c,c∈Av b p s S G->c∈l):Fn prog 289 [pV b,Fp x] l λv l'=>v=iV (R9 S x)/\l'=l:=by
 have mr:Co b p∈l:=mR hl;have I: ∀{f:Nat} {vs:List Value} {v:Value} [QF prog f vs (Av b p s S G) v],QF prog f vs l v:=W5 hl;unfold R9;refine AO func289 ntmps289 λE=>?_;refine AQ λb3=>?_;refine Ch (Cf [7,8] 0 10) ?_;refine Ci ?_;refine Hf e_alloc (by rintro _ _ ⟨_,_,_,rfl⟩ c hc;exact .tail _ hc) ?_;rintro _ _ ⟨b5,_,rfl,rfl⟩;obtain⟨c,hc⟩: ∃c,(getD' S.H.1 x).1=c:=⟨_,rfl⟩
 obtain⟨e,he⟩: ∃e,(getD' S.H.1 x).2=e:=⟨_,rfl⟩
 rw[show D5 S x=c from hc,hc,he];refine Ci ?_;by_cases h0:e=0/\c.kind=0
 ·rw[Ae h0];obtain⟨h1,h2⟩:=h0;refine Aj ?_;exact qr
 rw[Ac h0];by_cases h1:e=0
 case pos=>have h2:¬c.kind=0:=λh=>h0 ⟨h1,h⟩;refine Aj ?_;exact qr
 refine Aj ?_;exact qr
instance[h:IsK F C k S p s]{x:CB}:QF prog 289 [pV b,Fp x] (Av b p s S G) (iV (R9 S x)):=⟨λl hl=>rP h x l hl⟩
def mZ(W:List Int)(root page:Int):List (Int×Int):=
 if ¬(O5 W root page 1).2=0 then[] else(1,(O5 W root page 1).1)::if ¬(O5 W root page 2).2=0 then[] else[(2,(O5 W root page 2).1)]
theorem gl(root page:Int)(l:List Ab):Fn prog 294 [pV b,.int .i64 root,.int .i64 page] l λv l'=> ∃B3 B4 B5,v= .func (.func 332) #[] #[pV B3,pV B4,pV B5]/\l'=BG B5 page::BG B4 root::rB B3 b::l:=by refine AO func294 ntmps294 λE=>?_;refine AQ λb3=>?_;refine AQ λb4=>?_;refine AQ λb5=>?_;exact A8 .refl ⟨_,_,_,rfl,rfl⟩
end
section
def Lg(S:KT)(core:Int):Th.ThT×Int:=
 if core<0\/core>=S.K.length then(Th.thZ,3) else if Oa S (KM S.U core)=false\/¬(Er S (KM S.U core)).st=1 then(Th.thZ,19) else(Er S (KM S.U core),0)
theorem rQ(hK:IsK F C k S p s)(core:Int)(l:List Ab)(hl: ∀c,c∈Av b p s S G->c∈l):Fn prog 154 [pV b,.int .i64 core] l λv l'=>v= .tuple #[Th.thV (Lg S core).1,iV (Lg S core).2]/\l'=l:=by
 have mr:Co b p∈l:=mR hl;have I: ∀{f:Nat} {vs:List Value} {v:Value} [QF prog f vs (Av b p s S G) v],QF prog f vs l v:=W5 hl;unfold Lg Oa;refine AO func154 ntmps154 λE=>?_;refine AQ λb4=>?_;by_cases h1:core<0
 ·rw[Ae (.inl h1)];refine Aj ?_;exact AU [] _ rfl .refl (Cq rfl (.head _) (As.LSub.of_all (n:=24) (Th.encH Th.thZ) rfl) (by exact A7)) (.drop .refl) ⟨rfl,rfl⟩
 refine Aj ?_;refine Ea ?_;refine Aj ?_;refine Ea ?_;by_cases h2:core>=S.K.length
 ·rw[Ae (.inr h2)];refine Aj ?_;exact AU [] _ rfl .refl (Cq rfl (.head _) (As.LSub.of_all (n:=24) (Th.encH Th.thZ) rfl) (by exact A7)) (.drop .refl) ⟨rfl,rfl⟩
 rw[Ac Af];refine Aj ?_;refine Ea ?_;refine Aj ?_;refine Ea ?_;refine Aj ?_;refine Ea ?_;obtain⟨t,ht⟩: ∃t,Er S (KM S.U core)=t:=⟨_,rfl⟩
 obtain⟨ok,hok⟩: ∃ok,(Th.findH S.T (KM S.U core)).isSome=ok:=⟨_,rfl⟩
 rw[ht,hok];refine AQ λb6=>?_;by_cases h3:ok=false\/¬t.st=1
 ·rw[Ae h3];cases ok<;>by_cases h4:t.st=1;all_goals first
   |(exfalso;simp[h4] at h3;done)
   |(refine Aj ?_
     exact AU [] _ rfl .refl (Cq rfl (.tail _ (.head _)) (As.LSub.of_all (n:=24) (Th.encH Th.thZ) rfl) (by exact A7)) (.drop (.drop .refl)) ⟨rfl,rfl⟩)
 rw[Ac h3];obtain⟨h4,h5⟩:ok=true/\t.st=1:=by simp at h3;exact h3
 subst h4;refine Aj ?_;exact AU [] _ rfl .refl (Cq rfl (.tail _ (.head _)) (As.LSub.of_all (n:=24) (Th.encH t) rfl) (by exact A7)) (.drop (.drop .refl)) ⟨rfl,rfl⟩
instance[h:IsK F C k S p s]{core:Int}:QF prog 154 [pV b,.int .i64 core] (Av b p s S G) (.tuple #[Th.thV (Lg S core).1,iV (Lg S core).2]):=⟨λl hl=>rQ h core l hl⟩
end
end Go.Proofs.YtlkgekpmileobaaGreat
