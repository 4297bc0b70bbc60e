/- Laws that the statement's proof leans on (joined out of several texts). -/
import Derived.Test.YtlifcingifodfaaGreatGc37
set_option maxHeartbeats 4000000
set_option linter.unusedVariables false
set_option linter.unusedSimpArgs false
namespace Go.Proofs.YtlifcingifodfaaGreat
open Tryz
open List(toArray)
open Go.RowKit
set_option maxRecDepth 20000
variable{k F C b e n:Nat}{S:KT}{p:RP}{s:RL}{G:Ad}
class U6(a:Int):Prop where
 out:K6 a
section
theorem IsK.wl(h:IsK F C k S p s):S.W.length<=512:=by obtain⟨gb,f1,f2,hW,hu,hM⟩:=h.mem;omega
theorem IsK.wu(h:IsK F C k S p s): ∀w,w∈S.W->K6 w:=by obtain⟨gb,f1,f2,hW,hu,hM⟩:=h.mem;exact hu
theorem IsK.ldU(h:IsK F C k S p s)(a:Int):U6 (O1 S.W a).1:=⟨wC h.wu a⟩
theorem IsK.atU(h:IsK F C k S p s)(r pg lv:Int):U6 (QQ S.W r pg lv).1:=⟨mm h.wl⟩
instance[h:IsK F C k S p s]{a:Int}[hu:U6 a]:QF prog 202 [pV p.m,Bc a] (Aw b p s S G) (.tuple #[Bc (O1 S.W a).1,iV (O1 S.W a).2]):=⟨λl hl=>ia h a hu.out.1 hu.out.2 l hl⟩
instance[h:IsK F C k S p s]{r pg lv:Int}:QF prog 298 [pV p.m,.int .i64 r,.int .i64 pg,.int .i64 lv] (Aw b p s S G) (.tuple #[Bc (QQ S.W r pg lv).1,iV (QQ S.W r pg lv).2]):=⟨λl hl=>by obtain⟨gb,f1,f2,hW,hu,hM⟩:=h.mem;exact WZ p.m gb F S.W f2 hW hu r pg lv l (mM hl _ (by rw[hM];simp)) (mM hl _ (by rw[hM];simp))⟩
instance{w:Int}[hu:U6 w]{l:Ad}:QF prog 343 [Bc w] l (.tuple #[YQ (K7 w).1,iV (K7 w).2]):=⟨λl _=>by
 obtain⟨n,rfl⟩: ∃n:Nat,w=n:=⟨w.toNat,by have:=hu.out.1;omega⟩
 exact YU n (by have:=hu.out.2;omega) l⟩
instance{w:Int}[hu:U6 w]{l:Ad}:QF prog 257 [Bc w] l (.tuple #[iV (G1 w).1,iV (G1 w).2]):=⟨λl _=>ic w hu.out.1 hu.out.2 l⟩
def Nd(S:KT)(id:Int):Int:=if(Ar.getD' S.A id).2=false then-1 else(Ar.getD' S.A id).1.fi
def HF(S:KT)(se pg lv:Int):(Int×Int)×Bool:=
 if(As.rootP S.N se).2.2=false then((0,0),false)
 else(((QQ S.W (Nd S (As.rootP S.N se).1) pg lv).1,(As.rootP S.N se).2.1),decide ((QQ S.W (Nd S (As.rootP S.N se).1) pg lv).2=0))
def Up(S:KT)(a:Int)(Nw:Bool)(f:Int):Bool:=decide ((K7 (O1 S.W a).1).2=0)&&(K7 (O1 S.W a).1).1.vd&&((K7 (O1 S.W a).1).1.lf==Nw)&&decide ((K7 (O1 S.W a).1).1.fr=f)
def FX(S:KT)(id:Int):(Int×Int)×Bool:=
 if(Ar.getD' S.A id).2=false\/¬(Ar.getD' S.A id).1.kd=4\/(Ar.getD' S.A id).1.lv=0 then((0,0),false)
 else((HF S (Ar.getD' S.A id).1.se (Ar.getD' S.A id).1.pg (Ar.getD' S.A id).1.lv).1,(HF S (Ar.getD' S.A id).1.se (Ar.getD' S.A id).1.pg (Ar.getD' S.A id).1.lv).2&&Up S (HF S (Ar.getD' S.A id).1.se (Ar.getD' S.A id).1.pg (Ar.getD' S.A id).1.lv).1.1 false (Ar.getD' S.A id).1.fi)
def FY(S:KT)(c:CapT):(Int×Int)×Bool:=
 if(Ar.getD' S.A c.obj).2=false\/¬c.kind=3\/FD c=false then((0,0),false)
 else((HF S c.serial c.page 3).1,(HF S c.serial c.page 3).2&&Up S (HF S c.serial c.page 3).1.1 true (Ar.getD' S.A c.obj).1.fi)
theorem rQ(hK:IsK F C k S p s)(id:Int)(l:Ad)(hl: ∀c,c∈Aw b p s S G->c∈l):Fn prog 292 [pV b,.int .i64 id] l λv l'=>v=iV (Nd S id)/\l'=l:=by
 have mr:CD b p∈l:=mR hl;have I: ∀{f:Nat} {vs:Ap} {v:Value} [QF prog f vs (Aw b p s S G) v],QF prog f vs l v:=Zz hl;unfold Nd;refine AO func292 ntmps292 λE=>?_;refine Aj ?_;refine EI ?_;refine Aj ?_;refine EI ?_;obtain⟨o,ho⟩: ∃o,(Ar.getD' S.A id).1=o:=⟨_,rfl⟩
 obtain⟨ok,Dm⟩: ∃ok,(Ar.getD' S.A id).2=ok:=⟨_,rfl⟩
 rw[ho,Dm];refine AQ λb5=>?_;cases ok with
 |false=>rw[Ac rfl];refine Aj ?_;exact qr
 |true=>
 rw[Ab AZ];refine Aj ?_;exact qr
instance[h:IsK F C k S p s]{id:Int}:QF prog 292 [pV b,.int .i64 id] (Aw b p s S G) (iV (Nd S id)):=⟨λl hl=>rQ h id l hl⟩
theorem rR(hK:IsK F C k S p s)(se pg lv:Int)(l:Ad)(hl: ∀c,c∈Aw b p s S G->c∈l):Fn prog 369 [pV b,.int .i64 se,.int .i64 pg,.int .i64 lv] l λv l'=>v= .tuple #[Bc (HF S se pg lv).1.1,iV (HF S se pg lv).1.2,.bool (HF S se pg lv).2]/\l'=l:=by
 have mr:CD b p∈l:=mR hl;have I: ∀{f:Nat} {vs:Ap} {v:Value} [QF prog f vs (Aw b p s S G) v],QF prog f vs l v:=Zz hl;unfold HF;refine AO func369 ntmps369 λE=>?_;refine Aj ?_;refine EI ?_;refine Aj ?_;refine EI ?_;obtain⟨q,hq⟩: ∃q,As.rootP S.N se=q:=⟨_,rfl⟩
 rw[hq];refine Aj ?_;cases hf:q.2.2 with
 |false=>rw[Ac rfl];refine Aj ?_;exact qr
 |true=>
 rw[Ab AZ];refine Aj ?_;simp only[AM,AK,AS];refine EI ?_;refine Aj ?_;refine EI ?_;refine Aj ?_;refine EI ?_;obtain⟨u,hu⟩: ∃u,QQ S.W (Nd S q.1) pg lv=u:=⟨_,rfl⟩
 rw[hu];by_cases h1:u.2=0
 ·rw[h1];refine Aj ?_;exact qr
 ·rw[show decide (u.2=0)=false by simp[h1]];refine Aj ?_;exact qr
instance[h:IsK F C k S p s]{se pg lv:Int}:QF prog 369 [pV b,.int .i64 se,.int .i64 pg,.int .i64 lv] (Aw b p s S G) (.tuple #[Bc (HF S se pg lv).1.1,iV (HF S se pg lv).1.2,.bool (HF S se pg lv).2]):=⟨λl hl=>rR h se pg lv l hl⟩
theorem IsK.plU(h:IsK F C k S p s)(se pg lv:Int):U6 (HF S se pg lv).1.1:=by
 unfold HF
 split
 ·exact⟨by decide,by decide⟩
 ·exact h.atU _ _ _
theorem rS(hK:IsK F C k S p s)(a:Int)[ha:U6 a](Nw:Bool)(f:Int)(l:Ad)(hl: ∀c,c∈Aw b p s S G->c∈l):Fn prog 370 [pV b,Bc a,.bool Nw,.int .i64 f] l λv l'=>v= .bool (Up S a Nw f)/\l'=l:=by
 have mr:CD b p∈l:=mR hl;have I: ∀{f:Nat} {vs:Ap} {v:Value} [QF prog f vs (Aw b p s S G) v],QF prog f vs l v:=Zz hl;have hu:=hK.ldU a;unfold Up;refine AO func370 ntmps370 λE=>?_;refine Aj ?_;refine EI ?_;refine Aj ?_;refine EI ?_;obtain⟨w,hw⟩: ∃w,(O1 S.W a).1=w:=⟨_,rfl⟩
 rw[hw] at hu⊢;refine Aj ?_;simp only[AM,AK,AS];refine EI ?_;obtain⟨e,he⟩: ∃e,(K7 w).1=e:=⟨_,rfl⟩
 obtain⟨er,her⟩: ∃er,(K7 w).2=er:=⟨_,rfl⟩
 rw[he,her];refine AQ λLT=>?_;obtain⟨vd,lf,rd,wr,fr⟩:=e;by_cases h1:er=0<;>cases vd<;>cases lf<;>cases Nw<;>by_cases h2:fr=f;all_goals
  refine Aj ?_;simp only[h1,h2,GB,HO,Bool.and_true,Bu,I7,Bh];exact qr
end
section
instance[h:IsK F C k S p s]{a f:Int}{Nw:Bool}[ha:U6 a]:QF prog 370 [pV b,Bc a,.bool Nw,.int .i64 f] (Aw b p s S G) (.bool (Up S a Nw f)):=⟨λl hl=>rS h a Nw f l hl⟩
theorem rT(hK:IsK F C k S p s)(id:Int)(l:Ad)(hl: ∀c,c∈Aw b p s S G->c∈l):Fn prog 330 [pV b,.int .i64 id] l λv l'=>v= .tuple #[Bc (FX S id).1.1,iV (FX S id).1.2,.bool (FX S id).2]/\l'=l:=by
 have mr:CD b p∈l:=mR hl;have I: ∀{f:Nat} {vs:Ap} {v:Value} [QF prog f vs (Aw b p s S G) v],QF prog f vs l v:=Zz hl;unfold FX;refine AO func330 ntmps330 λE=>?_;refine Aj ?_;refine EI ?_;refine Aj ?_;refine EI ?_;obtain⟨o,ho⟩: ∃o,(Ar.getD' S.A id).1=o:=⟨_,rfl⟩
 obtain⟨ok,Dm⟩: ∃ok,(Ar.getD' S.A id).2=ok:=⟨_,rfl⟩
 rw[ho,Dm];refine AQ λb7=>?_;by_cases h0:ok=false\/¬o.kd=4\/o.lv=0
 ·rw[Ac h0];cases ok<;>by_cases h1:o.kd=4<;>by_cases h2:o.lv=0;all_goals first
   |(exfalso;simp[h1,h2] at h0;done)
   |(refine Aj ?_
     exact qr)
 rw[Ab h0];obtain⟨h1,h2,h3⟩:ok=true/\o.kd=4/\¬o.lv=0:=by simp at h0;exact h0
 subst h1;refine Aj ?_;refine EI ?_;have hu:=hK.plU o.se o.pg o.lv;obtain⟨q,hq⟩: ∃q,HF S o.se o.pg o.lv=q:=⟨_,rfl⟩
 rw[hq] at hu⊢;refine Aj ?_;try simp only[AM,AK,AS]
 cases hf:q.2 with
 |false=>refine Aj ?_;rw[Bh];exact qr
 |true=>
 refine Aj ?_;try simp only[AM,AK,AS]
 refine EI ?_;refine Aj ?_;rw[Bu];exact qr
instance[h:IsK F C k S p s]{id:Int}:QF prog 330 [pV b,.int .i64 id] (Aw b p s S G) (.tuple #[Bc (FX S id).1.1,iV (FX S id).1.2,.bool (FX S id).2]):=⟨λl hl=>rT h id l hl⟩
theorem rU(hK:IsK F C k S p s)(c:CapT)(l:Ad)(hl: ∀c,c∈Aw b p s S G->c∈l):Fn prog 336 [pV b,WQ c] l λv l'=>v= .tuple #[Bc (FY S c).1.1,iV (FY S c).1.2,.bool (FY S c).2]/\l'=l:=by
 have mr:CD b p∈l:=mR hl;have I: ∀{f:Nat} {vs:Ap} {v:Value} [QF prog f vs (Aw b p s S G) v],QF prog f vs l v:=Zz hl;unfold FY;refine AO func336 ntmps336 λE=>?_;refine AQ λb3=>?_;refine Cx (Cr [8,9] 0 11) ?_;refine CC ?_;refine Id e_alloc (by rintro _ _ ⟨_,_,_,rfl⟩ c hc;exact .tail _ hc) ?_;rintro _ _ ⟨b7,_,rfl,rfl⟩;obtain⟨o,ho⟩: ∃o,(Ar.getD' S.A c.obj).1=o:=⟨_,rfl⟩
 obtain⟨ok,Dm⟩: ∃ok,(Ar.getD' S.A c.obj).2=ok:=⟨_,rfl⟩
 rw[ho,Dm];refine CC ?_;by_cases h0:ok=false\/¬c.kind=3\/FD c=false
 ·rw[Ac h0];by_cases h9:ok=true/\c.kind=3
  ·obtain⟨rfl,h1⟩:=h9;have h2:FD c=false:=by simp[h1] at h0;exact h0
   refine Aj ?_;refine EI ?_;rw[h2];refine Aj ?_;exact qr
  cases ok<;>by_cases h1:c.kind=3;all_goals first
   |(exfalso;simp[h1] at h9;done)
   |(refine Aj ?_
     exact qr)
 rw[Ab h0];obtain⟨h1,h2,h3⟩:ok=true/\c.kind=3/\FD c=true:=by simp at h0;exact h0
 subst h1;refine Aj ?_;refine EI ?_;rw[h3];refine Aj ?_;refine EI ?_;have hu:=hK.plU c.serial c.page 3;obtain⟨q,hq⟩: ∃q,HF S c.serial c.page 3=q:=⟨_,rfl⟩
 rw[hq] at hu⊢;refine Aj ?_;try simp only[AM,AK,AS]
 cases hf:q.2 with
 |false=>refine Aj ?_;rw[Bh];exact qr
 |true=>
 refine Aj ?_;try simp only[AM,AK,AS]
 refine EI ?_;refine Aj ?_;rw[Bu];exact qr
instance[h:IsK F C k S p s]{c:CapT}:QF prog 336 [pV b,WQ c] (Aw b p s S G) (.tuple #[Bc (FY S c).1.1,iV (FY S c).1.2,.bool (FY S c).2]):=⟨λl hl=>rU h c l hl⟩
theorem rV(hK:IsK F C k S p s)(id:Int)(l:Ad)(hl: ∀c,c∈Aw b p s S G->c∈l):Fn prog 291 [pV b,.int .i64 id] l λv l'=>v= .bool (FX S id).2/\l'=l:=by have mr:CD b p∈l:=mR hl;have I: ∀{f:Nat} {vs:Ap} {v:Value} [QF prog f vs (Aw b p s S G) v],QF prog f vs l v:=Zz hl;refine AO func291 ntmps291 λE=>?_;refine Aj ?_;refine EI ?_;refine Aj ?_;exact qr
instance[h:IsK F C k S p s]{id:Int}:QF prog 291 [pV b,.int .i64 id] (Aw b p s S G) (.bool (FX S id).2):=⟨λl hl=>rV h id l hl⟩
theorem rW(hK:IsK F C k S p s)(c:CapT)(l:Ad)(hl: ∀c,c∈Aw b p s S G->c∈l):Fn prog 297 [pV b,WQ c] l λv l'=>v= .bool (FY S c).2/\l'=l:=by have mr:CD b p∈l:=mR hl;have I: ∀{f:Nat} {vs:Ap} {v:Value} [QF prog f vs (Aw b p s S G) v],QF prog f vs l v:=Zz hl;refine AO func297 ntmps297 λE=>?_;refine AQ λb3=>?_;refine EI ?_;refine Aj ?_;exact qr
instance[h:IsK F C k S p s]{c:CapT}:QF prog 297 [pV b,WQ c] (Aw b p s S G) (.bool (FY S c).2):=⟨λl hl=>rW h c l hl⟩
end
section
instance:U6 0:=⟨by decide,by decide⟩
instance{a v:Int}[ha:U6 a][hv:U6 v]:EK prog F C b p 201 [pV p.m,Bc a,Bc v] k S k (iV (gX S.W a v).1) {S with W:=(gX S.W a v).2}:=⟨λs G h=>aS h a v ha.out.1 ha.out.2 hv.out⟩
def Y5(S:KT)(id:Int):KT:={S with W:=(gX S.W (FX S id).1.1 0).2,K:=IE S.K (QR (FX S id).1.2),A:=(Ar.placeD S.A id 0 0 0).2}
theorem IsK.tbU(h:IsK F C k S p s)(id:Int):U6 (FX S id).1.1:=by
 unfold FX
 split
 ·exact⟨by decide,by decide⟩
 ·exact h.plU _ _ _
theorem IsK.frU(h:IsK F C k S p s)(c:CapT):U6 (FY S c).1.1:=by
 unfold FY
 split
 ·exact⟨by decide,by decide⟩
 ·exact h.plU _ _ _
theorem wR(hK:IsK F C k S p s)(id:Int):Fn prog 296 [pV b,.int .i64 id] (Aw b p s S G) (KK F C b p k (.bool (FX S id).2) (if(FX S id).2=true then Y5 S id else S) G):=by
 have mr:CD b p∈Aw b p s S G:=mR λ_ h=>h;have hu:=hK.tbU id;unfold Y5;refine AO func296 ntmps296 λE=>?_;refine Aj ?_;refine EI ?_;obtain⟨q,hq⟩: ∃q,FX S id=q:=⟨_,rfl⟩
 rw[hq] at hu⊢;cases hf:q.2 with
 |false=>rw[Ab AZ];refine Aj ?_;exact A9
 |true=>
 rw[Ac rfl];refine Aj ?_;refine EI ?_;refine Aj ?_;try simp only[AM,AK,AS]
 refine Gc ?_;intro S1 s1 L1 EA Ey DL GI;refine Aj ?_;refine EI ?_;refine Aj ?_;try simp only[AM,AK,AS]
 refine Gc ?_;intro S2 s2 L2 hS2 FT FL HP;refine Aj ?_;refine EI ?_;refine Aj ?_;refine Gc ?_;intro S3 s3 L3 hS3 MD KQ PV;refine Aj ?_;exact A9
instance{id:Int}:EK prog F C b p 296 [pV b,.int .i64 id] k S k (.bool (FX S id).2) (if(FX S id).2=true then Y5 S id else S):=⟨λs G h=>wR h id⟩
def ni(S:KT)(c:CapT):KT:={S with W:=(gX S.W (FY S c).1.1 0).2,K:=IE S.K (Ki (FY S c).1.2 c.page)}
theorem nj(hK:IsK F C k S p s)(c:CapT):Fn prog 301 [pV b,WQ c] (Aw b p s S G) (KK F C b p k (.bool (FY S c).2) (if(FY S c).2=true then ni S c else S) G):=by
 have mr:CD b p∈Aw b p s S G:=mR λ_ h=>h;have hu:=hK.frU c;unfold ni;refine AO func301 ntmps301 λE=>?_;refine AQ λb3=>?_;refine EI ?_;obtain⟨q,hq⟩: ∃q,FY S c=q:=⟨_,rfl⟩
 rw[hq] at hu⊢;cases hf:q.2 with
 |false=>rw[Ab AZ];refine Aj ?_;exact A9
 |true=>
 rw[Ac rfl];refine Aj ?_;refine EI ?_;refine Aj ?_;try simp only[AM,AK,AS]
 refine Gc ?_;intro S1 s1 L1 EA Ey DL GI;refine Aj ?_;refine Cx (Cr [5] 0 6) ?_;refine CC ?_;refine MG ?_;intro S2 s2 L2 hS2 FT FL HP;refine CC ?_;refine Aj ?_;exact A9
instance{c:CapT}:EK prog F C b p 301 [pV b,WQ c] k S k (.bool (FY S c).2) (if(FY S c).2=true then ni S c else S):=⟨λs G h=>nj h c⟩
end
abbrev NJ(x:Ck)(k:Int):Ap:=[iV x.1,iV x.2,iV k]
def FE(S:KT)(x:Ck)(k:Int):Prop:=(getD' S.H.1 x).2=0/\(Ec S x).kind=k
instance(S:KT)(x:Ck)(k:Int):Decidable (FE S x k):=by unfold FE;exact inferInstance
section
theorem ei(hK:IsK F C k S p s)(bw:Nat)(x:Ck)(kd:Int)(l:Ad)(hl: ∀c,c∈Aw b p s S G->c∈l)(mw:(bw,Obj.cells (toArray (NJ x kd)) 457 (0,0))∈l):Fn prog 290 [pV b,.slice (some ⟨bw,0,none⟩) 1 1] l λv l'=>
 (FE S x kd/\ ∃u cs,OwnSl 74 8 u 1 (B9 (Ec S x)) cs/\v= .tuple #[u,iV 0]/\l'=cs++l)\/(¬FE S x kd/\v= .tuple #[.slice none 0 0,iV 8]/\l'=l):=by
 have mr:CD b p∈l:=mR hl;have I: ∀{f:Nat} {vs:Ap} {v:Value} [QF prog f vs (Aw b p s S G) v],QF prog f vs l v:=Zz hl;have w1:(toArray (NJ x kd)).extract (0+(0:Int).toNat*3) (0+(0:Int).toNat*3+3)=toArray (NJ x kd):=rfl;refine AO func290 ntmps290 λE=>?_;refine Aj ?_;refine H9 1 ?_;refine Aj ?_;refine Be (Dt rfl mw (by show 0+(0:Int).toNat*3+3<=3;decide) w1) ?_;refine AQ λb8=>?_;refine Cx (Cr [8,9] 0 11) ?_;refine CC ?_;refine Id e_alloc (by rintro _ _ ⟨_,_,_,rfl⟩ c hc;exact .tail _ hc) ?_;rintro _ _ ⟨b9,_,rfl,rfl⟩;unfold FE;obtain⟨c,hc⟩: ∃c,(getD' S.H.1 x).1=c:=⟨_,rfl⟩
 obtain⟨e,he⟩: ∃e,(getD' S.H.1 x).2=e:=⟨_,rfl⟩
 rw[show Ec S x=c from hc,hc,he];refine CC ?_;by_cases h0:e=0/\c.kind=kd
 case neg=>
  by_cases h1:e=0<;>by_cases h2:c.kind=kd
  ·exact absurd ⟨h1,h2⟩ h0
  all_goals
   refine Aj ?_;exact CM _ .refl (.drop (.drop .refl)) (.inr ⟨h0,rfl,rfl⟩)
 obtain⟨h1,h2⟩:=h0;refine Aj ?_;refine AR (FB (ws:=B9 c) (k:=8) rfl rfl rfl AZ AZ) ?_;rintro _ _ ⟨bl,_,rfl,rfl⟩;refine Aj ?_;refine AR (Ht (k:=8) (X:=[(b9,Obj.cells (toArray (B9 c)) 74 (0,0)),(b8,Obj.cells (toArray (NJ x kd)) 457 (0,0))]) (cs:=[]) (xs:=[]) (n:=0) (zs:=B9 ⟨0,0,0,0,0,0,0,0⟩) (ws:=B9 c) rfl rfl rfl (OwnSl.nil _ _) rfl (by simp[Value.oneCell']) Af AZ) ?_;rintro v' _ ⟨c2,FK,rfl⟩;simp only[Ae,Ag] at FK⊢;refine Aj ?_;refine E8 ?_;refine Aj ?_;exact CM _ .refl (.drop (.drop .refl)) (.inl ⟨⟨h1,h2⟩,v',c2,FK,rfl,rfl⟩)
theorem SA(hK:IsK F C k S p s)(bw:Nat)(x y:Ck)(kd kd2:Int)(l:Ad)(hl: ∀c,c∈Aw b p s S G->c∈l)(mw:(bw,Obj.cells (toArray (NJ x kd++NJ y kd2)) 457 (0,0))∈l):Fn prog 290 [pV b,.slice (some ⟨bw,0,none⟩) 2 2] l λv l'=>
 ((FE S x kd/\FE S y kd2)/\ ∃u cs,OwnSl 74 8 u 2 (B9 (Ec S x)++B9 (Ec S y)) cs/\v= .tuple #[u,iV 0]/\l'=cs++l)\/(¬(FE S x kd/\FE S y kd2)/\v= .tuple #[.slice none 0 0,iV 8]/\l'=l):=by
 have mr:CD b p∈l:=mR hl;have I: ∀{f:Nat} {vs:Ap} {v:Value} [QF prog f vs (Aw b p s S G) v],QF prog f vs l v:=Zz hl;have w1:(toArray (NJ x kd++NJ y kd2)).extract (0+(0:Int).toNat*3) (0+(0:Int).toNat*3+3)=toArray (NJ x kd):=rfl;have w2:(toArray (NJ x kd++NJ y kd2)).extract (0+(1:Int).toNat*3) (0+(1:Int).toNat*3+3)=toArray (NJ y kd2):=rfl;refine AO func290 ntmps290 λE=>?_;refine Aj ?_;refine H9 2 ?_;refine Aj ?_;refine Be (Dt rfl mw (by show 0+(0:Int).toNat*3+3<=6;decide) w1) ?_;refine AQ λb8=>?_;refine Cx (Cr [8,9] 0 11) ?_;refine CC ?_;refine Id e_alloc (by rintro _ _ ⟨_,_,_,rfl⟩ c hc;exact .tail _ hc) ?_;rintro _ _ ⟨b9,_,rfl,rfl⟩;unfold FE;obtain⟨c,hc⟩: ∃c,(getD' S.H.1 x).1=c:=⟨_,rfl⟩
 obtain⟨e,he⟩: ∃e,(getD' S.H.1 x).2=e:=⟨_,rfl⟩
 obtain⟨c',hc'⟩: ∃c,(getD' S.H.1 y).1=c:=⟨_,rfl⟩
 obtain⟨e',u9⟩: ∃e,(getD' S.H.1 y).2=e:=⟨_,rfl⟩
 rw[show Ec S x=c from hc,show Ec S y=c' from hc',hc,he,u9];refine CC ?_;by_cases h0:e=0/\c.kind=kd
 case neg=>
  by_cases h1:e=0<;>by_cases h2:c.kind=kd
  ·exact absurd ⟨h1,h2⟩ h0
  all_goals
   refine Aj ?_;exact CM _ .refl (.drop (.drop .refl)) (.inr ⟨λh=>h0 h.1,rfl,rfl⟩)
 obtain⟨h1,h2⟩:=h0;refine Aj ?_;refine AR (FB (ws:=B9 c) (k:=8) rfl rfl rfl AZ AZ) ?_;rintro _ _ ⟨bl,_,rfl,rfl⟩;refine Aj ?_;refine AR (Ht (k:=8) (X:=[(b9,Obj.cells (toArray (B9 c)) 74 (0,0)),(b8,Obj.cells (toArray (NJ x kd)) 457 (0,0))]) (cs:=[]) (xs:=[]) (n:=0) (zs:=B9 ⟨0,0,0,0,0,0,0,0⟩) (ws:=B9 c) rfl rfl rfl (OwnSl.nil _ _) rfl (by simp[Value.oneCell']) Af AZ) ?_;rintro v' _ ⟨c2,FK,rfl⟩;simp only[Ae,Ag] at FK⊢;refine Aj ?_;refine E8 ?_;refine Aj ?_;rw[show(0:Int)+1=1 from rfl];refine Be (Dt rfl (.tail _ (.tail _ (Aa _ mw))) (by show 0+(1:Int).toNat*3+3<=6;decide) w2) ?_;refine AQ λd8=>?_;refine Cx (Cr [8,9] 0 11) ?_;have I2: ∀{f:Nat} {vs:Ap} {v:Value} [QF prog f vs (Aw b p s S G) v],QF prog f vs (c2++l) v:=Zz λc hc=>Aa _ (hl c hc);refine CC ?_;rw[hc',u9];refine Id e_alloc (by rintro _ _ ⟨_,_,_,rfl⟩ c hc;exact .tail _ hc) ?_;rintro _ _ ⟨d9,_,rfl,rfl⟩;refine CC ?_;by_cases h0:e'=0/\c'.kind=kd2
 case neg=>
  by_cases h3:e'=0<;>by_cases h4:c'.kind=kd2
  ·exact absurd ⟨h3,h4⟩ h0
  all_goals
   refine Aj ?_;exact CM _ .refl (.drop (.drop (.drop (.drop (Keep.dropL' c2 .refl))))) (.inr ⟨λh=>h0 h.2,rfl,rfl⟩)
 obtain⟨h3,h4⟩:=h0;refine Aj ?_;refine AR (FB (ws:=B9 c') (k:=8) rfl rfl rfl AZ AZ) ?_;rintro _ _ ⟨bl2,_,rfl,rfl⟩;refine Aj ?_;refine AR (Ht (k:=8) (X:=[(d9,Obj.cells (toArray (B9 c')) 74 (0,0)),(d8,Obj.cells (toArray (NJ y kd2)) 457 (0,0)),(b9,Obj.cells (toArray (B9 c)) 74 (0,0)),(b8,Obj.cells (toArray (NJ x kd)) 457 (0,0))]) (cs:=c2) (xs:=B9 c) (n:=1) (zs:=B9 ⟨0,0,0,0,0,0,0,0⟩) (ws:=B9 c') rfl rfl rfl FK rfl (by simp[Value.oneCell']) Af AZ) ?_;rintro v2 _ ⟨c3,ho3,rfl⟩;simp only[Ae,Ag];refine Aj ?_;refine E8 ?_;refine Aj ?_;exact CM _ .refl (.drop (.drop (.drop (.drop .refl)))) (.inl ⟨⟨⟨h1,h2⟩,h3,h4⟩,v2,c3,ho3,rfl,rfl⟩)
end
section
def RC(S:KT)(id:Int):KT:=if(FX S id).2=true then Y5 S id else S
def RD(S:KT)(x:Ck):Int×KT:=if FE S x 4 then(0,{RC S (Ec S x).obj with A:=(Ar.placeD (RC S (Ec S x).obj).A (Ec S x).obj 0 0 0).2}) else(8,S)
theorem ND{u:Value}{xs:Ap}{cs:Ad}{m:Nat}(h:OwnSl e m u n xs cs)(h1:1<=n): ∃gb cap sp,u= .slice (some ⟨gb,0,none⟩) n cap/\cs=[(gb,.cells (toArray (xs++sp)) e (0,0))]:=by
 obtain⟨_,⟨_,h0,_⟩|⟨gb,cap,sp,h2,h3,_⟩⟩:=h
 ·omega
 ·exact⟨gb,cap,sp,h2,h3⟩
theorem wS(hK:IsK F C k S p s)(x:Ck):Fn prog 215 [pV b,F4 x] (Aw b p s S G) (KK F C b p k (iV (RD S x).1) (RD S x).2 G):=by
 have mr:CD b p∈Aw b p s S G:=mR λ_ h=>h;unfold RD;refine AO func215 ntmps215 λE=>?_;refine AQ λb3=>?_;refine AR (FB (ws:=NJ x 4) (k:=3) rfl rfl rfl AZ AZ) ?_;rintro _ _ ⟨bw,_,rfl,rfl⟩;refine Aj ?_;refine AR (AA rfl rfl (ei hK bw x 4 _ (λc hc=> .tail _ (.tail _ hc)) (.head _))) ?_;rintro _ _ (⟨hk,u,cs,ho,rfl,rfl⟩|⟨hk,rfl,rfl⟩)
 case' inr=>
  rw[Ab hk];refine Aj ?_;exact A9
 rw[Ac hk];obtain⟨gb,cap,sp,rfl,rfl⟩:=ND ho Af;rw[Ci];obtain⟨c,hc⟩: ∃c,Ec S x=c:=⟨_,rfl⟩
 rw[hc];have z1:(toArray (B9 c++sp))[0+(0:Int).toNat*8+1]?=some (.int .i64 c.obj):=rfl;refine Aj ?_;refine Gc ?_;intro S1 s1 L1 EA Ey DL GI;refine Aj ?_;refine Cx (Cr [6] 0 7) ?_;refine CC ?_;refine MG ?_;intro S2 s2 L2 hS2 FT FL HP;refine CC ?_;refine Aj ?_;have hS:S2={RC S c.obj with A:=(Ar.placeD (RC S c.obj).A c.obj 0 0 0).2}:=by rw[hS2,EA];rfl
 exact A9
instance{x:Ck}:EK prog F C b p 215 [pV b,F4 x] k S k (iV (RD S x).1) (RD S x).2:=⟨λs G h=>wS h x⟩
end
theorem Qs: ∀(us ws X Y:Ap),us.length=ws.length->C8 (toArray (X++(us++Y))) X.length ws=toArray (X++(ws++Y))
 |[],[],X,Y,_=>rfl
 |u::us,w::ws,X,Y,h=>by
  have h1:(toArray (X++(u::us++Y))).setIfInBounds X.length w=toArray ((X++[w])++(us++Y)):=by apply BU.1;rw[Array.toList_setIfInBounds];show(X++(u::(us++Y))).set X.length w=_;rw[Cs _ _ Af,DR,Fv];simp
  unfold C8;rw[h1];have h2:=Qs us ws (X++[w]) Y (by simpa using h);rw[Ah] at h2;rw[show X.length+1=X.length+[w].length from rfl,h2];simp
def EP:Nat->List (Ap)->List (Nat×Value)
 |_,[]=>[]
 |i,r::rs=>(i,.agg (toArray r))::EP (i+1) rs
theorem Rj{zs:Ap}{k:Nat}(hz:zs.length=k): ∀(rows:List (Ap)) (done:Ap) (i:Nat),(∀r,r∈rows->r.length=k)->done.length=i*k->
 Instr.fill (λi=>some (i*k,k)) (toArray (done++(List.replicate rows.length zs).flatten)) (EP i rows)=some (toArray (done++rows.flatten))
 |[],done,i,_,_=>by simp[EP,Instr.fill]
 |r::rs,done,i,hr,hd=>by have h1:r.length=k:=hr r Ak;unfold EP Instr.fill;have e2:(Value.agg (toArray r)).cells=toArray r:=rfl;simp only[e2];rw[BC,BJ,Cv];rw[Ab (by simp[h1,hz,hd])];rw[JP,<-hd,Qs zs r done _ (by rw[hz,h1]),<-Am];rw[Rj hz rs (done++r) (i+1) (λr' h=>hr r' (An _ h)) (by rw[Ah,hd,h1,F5])];rw[Am,Cv]
section
variable{P:Program}{ro:Option Nat}{N:Nat}{fr:Fr}{l:Ad}{d:Option Nat}{ty:TypeId}{pos:String}{aft:Array Edge}{g:Option (Nat×Bool)}
theorem D1{T yb:Nat}{zs:Ap}{ps:List (Nat×Operand)}{pvs:List (Nat×Value)}{cs:Ap}(Nt:Z4 fr ps=some pvs)(h0:0<n*k)(hn:n*k<=16777216)[c:ST P T e k yb][cz:ZV P e zs](RN:zs.length=k)(Pg:Instr.fill (λi=>some (i*k,k)) (toArray (List.replicate n zs).flatten) pvs=some (toArray cs)):
 OpE P ro N fr l ⟨d,.buildSlice T n ps.toArray,ty,pos,aft,g⟩ (λv' l'=> ∃b,(∀c,c∈l->c.1≠b)/\v'= .slice (some ⟨b,0,none⟩) n n/\l'=(b,.cells (toArray cs) e (0,0))::l):=DM rfl λρ hρ=>by
 simp only[execOp,AC];have e:ps.toArray.map (λ(i,x)=>(i,ρ x))=toArray pvs:=by rw[<-hρ.parts Nt];simp
 rw[e];exact JQ (cs:=cs) c.out cz.out RN h0 hn Pg λb hb=>⟨b,hb,rfl,rfl⟩
end
section
abbrev waA(x:Ck)(k:Int):Value:= .agg (toArray (NJ x k))
theorem SC(x y:Ck)(k1 k2:Int):Instr.fill (λi=>some (i*3,3)) (toArray (List.replicate 2 (NJ (0,0) 0)).flatten) [(0,waA x k1),(1,waA y k2)]=some (toArray (NJ x k1++NJ y k2)):=
 Rj (zs:=NJ (0,0) 0) rfl [NJ x k1,NJ y k2] [] 0 (by simp) rfl
def RE(S:KT)(x y:Ck):Int×KT:=if FE S x 7/\FE S y 6 then((As.addP S.N (Ec S y).obj).2.1,{S with N:=(As.addP S.N (Ec S y).obj).2.2}) else(8,S)
theorem wT(hK:IsK F C k S p s)(x y:Ck):Fn prog 218 [pV b,F4 x,F4 y] (Aw b p s S G) (KK F C b p k (iV (RE S x y).1) (RE S x y).2 G):=by
 have mr:CD b p∈Aw b p s S G:=mR λ_ h=>h;unfold RE;refine AO func218 ntmps218 λE=>?_;refine AQ λb3=>?_;refine AQ λb4=>?_;refine AR (D1 (k:=3) (n:=2) (e:=457) (zs:=NJ (0,0) 0) (cs:=NJ x 7++NJ y 6) rfl AZ AZ rfl (SC x y 7 6)) ?_;rintro _ _ ⟨bw,_,rfl,rfl⟩;refine Aj ?_;refine AR (AA rfl rfl (SA hK bw x y 7 6 _ (λc hc=> .tail _ (.tail _ (.tail _ hc))) (.head _))) ?_;rintro _ _ (⟨hk,u,cs,ho,rfl,rfl⟩|⟨hk,rfl,rfl⟩)
 case' inr=>
  rw[Ab hk];refine Aj ?_;exact A9
 rw[Ac hk];obtain⟨gb,cap,sp,rfl,rfl⟩:=ND ho Af;rw[Ci];obtain⟨c,hc⟩: ∃c,Ec S x=c:=⟨_,rfl⟩
 obtain⟨d,hd⟩: ∃d,Ec S y=d:=⟨_,rfl⟩
 rw[hc,hd];have z1:(toArray (B9 c++B9 d++sp))[0+(1:Int).toNat*8+1]?=some (.int .i64 d.obj):=rfl;refine Aj ?_;refine Cx (Cr [6] 0 11) ?_;refine CC ?_;refine MG ?_;intro S1 s1 L1 EA Ey DL GI;refine CC ?_;refine Aj ?_;exact A9
instance{x y:Ck}:EK prog F C b p 218 [pV b,F4 x,F4 y] k S k (iV (RE S x y).1) (RE S x y).2:=⟨λs G h=>wT h x y⟩
def RF(S:KT)(x y:Ck):Int×KT:=
 if FE S x 6/\FE S y 5 then((As.assignP S.N (Ec S x).obj (Ec S y).obj).2.2.1,{S with N:=(As.assignP S.N (Ec S x).obj (Ec S y).obj).2.2.2,W:=if(As.assignP S.N (Ec S x).obj (Ec S y).obj).2.2.1=0 then(YK S.W (Nd S (Ec S y).obj) 1).2 else S.W}) else(8,S)
theorem wU(hK:IsK F C (k+1) S p s)(x y:Ck):Fn prog 219 [pV b,F4 x,F4 y] (Aw b p s S G) (KK F C b p k (iV (RF S x y).1) (RF S x y).2 G):=by
 have mr:CD b p∈Aw b p s S G:=mR λ_ h=>h;unfold RF;refine AO func219 ntmps219 λE=>?_;refine AQ λb3=>?_;refine AQ λb4=>?_;refine AR (D1 (k:=3) (n:=2) (e:=457) (zs:=NJ (0,0) 0) (cs:=NJ x 6++NJ y 5) rfl AZ AZ rfl (SC x y 6 5)) ?_;rintro _ _ ⟨bw,_,rfl,rfl⟩;refine Aj ?_;refine AR (AA rfl rfl (SA hK bw x y 6 5 _ (λc hc=> .tail _ (.tail _ (.tail _ hc))) (.head _))) ?_;rintro _ _ (⟨hk,u,cs,ho,rfl,rfl⟩|⟨hk,rfl,rfl⟩)
 case' inr=>
  rw[Ab hk];refine Aj ?_;exact A9
 rw[Ac hk];obtain⟨gb,cap,sp,rfl,rfl⟩:=ND ho Af;rw[Ci];obtain⟨c,hc⟩: ∃c,Ec S x=c:=⟨_,rfl⟩
 obtain⟨d,hd⟩: ∃d,Ec S y=d:=⟨_,rfl⟩
 rw[hc,hd];have z0:(toArray (B9 c++B9 d++sp))[0+(0:Int).toNat*8+1]?=some (.int .i64 c.obj):=rfl;have z1:(toArray (B9 c++B9 d++sp))[0+(1:Int).toNat*8+1]?=some (.int .i64 d.obj):=rfl;refine Aj ?_;refine Cx (Cr [10] 0 16) ?_;refine CC ?_;refine MG ?_;intro S1 s1 L1 EA Ey DL GI;obtain⟨r,hr⟩: ∃r,As.assignP S.N c.obj d.obj=r:=⟨_,rfl⟩
 rw[hr] at EA⊢;refine CC ?_;by_cases h0:r.2.2.1=0
 case neg=>rw[Ab h0];refine Aj ?_;exact A9
 rw[Ac h0];refine Aj ?_;refine Cx (Cr [8] 0 9) ?_;refine CC ?_;refine MG ?_;intro S2 s2 L2 hS2 FT FL HP;refine CC ?_;refine Aj ?_;have hS:S2={S with N:=r.2.2.2,W:=(YK S.W (Nd S d.obj) 1).2}:=by rw[hS2,EA];rfl
 exact A9
instance{x y:Ck}:EK prog F C b p 219 [pV b,F4 x,F4 y] (k+1) S k (iV (RF S x y).1) (RF S x y).2:=⟨λs G h=>wU h x y⟩
end
class CW(c:CapT):Prop where
 out:Jg c
section
instance um{x:Ck}{c:CapT}[hc:CW c]:EK prog F C b p 299 [pV p.h,F4 x,WQ c] k S k (iV (Pd S.H x c).1) {S with H:=(Pd S.H x c).2}:=⟨λs G h=>rk h Af (λm hm=>(hm.set x c hc.out).mono Af) λm G hm _=>lP p.h S.H m hm s.H h.ho x c G⟩
theorem IsK.cw(h:IsK F C k S p s)(x:Ck):CW (Ec S x):=by
 obtain⟨m,h1,h2⟩:=h.inv;unfold Ec getD'
 split
 ·exact⟨(h2.at x).2⟩
 ·exact⟨LJ.2⟩
theorem ej(c:CapT)(sp:Ap):(toArray (B9 c++sp)).extract (0+(0:Int).toNat*8) (0+(0:Int).toNat*8+8)=toArray (B9 c):=by apply BU.1;simp
def No(S:KT)(c:CapT):KT:=if(FY S c).2=true then ni S c else S
def RG(S:KT)(x:Ck):Int×KT:=if FE S x 3 then(0,{No S (Ec S x) with H:=(Pd (No S (Ec S x)).H x {Ec S x with serial:=0,page:=0}).2}) else(8,S)
theorem wV(hK:IsK F C k S p s)(x:Ck):Fn prog 217 [pV b,F4 x] (Aw b p s S G) (KK F C b p k (iV (RG S x).1) (RG S x).2 G):=by
 have mr:CD b p∈Aw b p s S G:=mR λ_ h=>h;have hw:=hK.cw x;unfold RG;refine AO func217 ntmps217 λE=>?_;refine AQ λb3=>?_;refine AR (FB (ws:=NJ x 3) (k:=3) rfl rfl rfl AZ AZ) ?_;rintro _ _ ⟨bw,_,rfl,rfl⟩;refine Aj ?_;refine AR (AA rfl rfl (ei hK bw x 3 _ (λc hc=> .tail _ (.tail _ hc)) (.head _))) ?_;rintro _ _ (⟨hk,u,cs,ho,rfl,rfl⟩|⟨hk,rfl,rfl⟩)
 case' inr=>
  rw[Ab hk];refine Aj ?_;exact A9
 rw[Ac hk];obtain⟨gb,cap,sp,rfl,rfl⟩:=ND ho Af;rw[Ci];obtain⟨c,hc⟩: ∃c,Ec S x=c:=⟨_,rfl⟩
 rw[hc] at hw⊢;have jC:CW {c with serial:=0,page:=0}:=⟨hw.out.1,hw.out.2⟩
 have z1:=ej c sp;refine Aj ?_;refine Be (Dt rfl (.head _) (by show 0+(0:Int).toNat*8+8<=(B9 c++sp).length;simp) z1) ?_;refine AQ λb7=>?_;refine Gc ?_;intro S1 s1 L1 EA Ey DL GI;refine Aj ?_;refine Cx (Cr [4] 0 5) ?_;refine CC ?_;refine MG (q:=um (x:=x) (c:={c with serial:=0,page:=0})) ?_;intro S2 s2 L2 hS2 FT FL HP;refine CC ?_;refine Aj ?_;have hS:S2={No S c with H:=(Pd (No S c).H x {c with serial:=0,page:=0}).2}:=by rw[hS2,EA];rfl
 exact A9
instance{x:Ck}:EK prog F C b p 217 [pV b,F4 x] k S k (iV (RG S x).1) (RG S x).2:=⟨λs G h=>wV h x⟩
end
section
def Uq(S:KT)(x:Ck):Int:=if(getD' S.H.1 x).2=0/\(Ec S x).kind=0 then 10 else(getD' S.H.1 x).2
theorem Aa1(hK:IsK F C k S p s)(x:Ck)(l:Ad)(hl: ∀c,c∈Aw b p s S G->c∈l):Fn prog 288 [pV b,F4 x] l λv l'=>v=iV (Uq S x)/\l'=l:=by
 have mr:CD b p∈l:=mR hl;have I: ∀{f:Nat} {vs:Ap} {v:Value} [QF prog f vs (Aw b p s S G) v],QF prog f vs l v:=Zz hl;unfold Uq;refine AO func288 ntmps288 λE=>?_;refine AQ λb3=>?_;refine Cx (Cr [7,8] 0 10) ?_;refine CC ?_;refine Id e_alloc (by rintro _ _ ⟨_,_,_,rfl⟩ c hc;exact .tail _ hc) ?_;rintro _ _ ⟨b5,_,rfl,rfl⟩;obtain⟨c,hc⟩: ∃c,(getD' S.H.1 x).1=c:=⟨_,rfl⟩
 obtain⟨e,he⟩: ∃e,(getD' S.H.1 x).2=e:=⟨_,rfl⟩
 rw[show Ec S x=c from hc,hc,he];refine CC ?_;by_cases h0:e=0/\c.kind=0
 ·rw[Ac h0];obtain⟨h1,h2⟩:=h0;refine Aj ?_;exact qr
 rw[Ab h0];by_cases h1:e=0
 case pos=>have h2:¬c.kind=0:=λh=>h0 ⟨h1,h⟩;refine Aj ?_;exact qr
 refine Aj ?_;exact qr
instance[h:IsK F C k S p s]{x:Ck}:QF prog 288 [pV b,F4 x] (Aw b p s S G) (iV (Uq S x)):=⟨λl hl=>Aa1 h x l hl⟩
def uo(W:A4)(root page:Int):List (Int×Int):=
 if ¬(QQ W root page 1).2=0 then[] else(1,(QQ W root page 1).1)::if ¬(QQ W root page 2).2=0 then[] else[(2,(QQ W root page 2).1)]
theorem nk(root page:Int)(l:Ad):Fn prog 293 [pV b,.int .i64 root,.int .i64 page] l λv l'=> ∃B3 B4 B5,v= .func (.func 331) #[] #[pV B3,pV B4,pV B5]/\l'=BP B5 page::BP B4 root::rB B3 b::l:=by refine AO func293 ntmps293 λE=>?_;refine AQ λb3=>?_;refine AQ λb4=>?_;refine AQ λb5=>?_;exact Bb .refl ⟨_,_,_,rfl,rfl⟩
end
section
def MA(S:KT)(core:Int):Th.ThT×Int:=
 if core<0\/core>=S.K.length then(Th.thZ,3) else if Ps S (LZ S.U core)=false\/¬(DW S (LZ S.U core)).st=1 then(Th.thZ,19) else(DW S (LZ S.U core),0)
theorem Aa2(hK:IsK F C k S p s)(core:Int)(l:Ad)(hl: ∀c,c∈Aw b p s S G->c∈l):Fn prog 153 [pV b,.int .i64 core] l λv l'=>v= .tuple #[Th.thV (MA S core).1,iV (MA S core).2]/\l'=l:=by
 have mr:CD b p∈l:=mR hl;have I: ∀{f:Nat} {vs:Ap} {v:Value} [QF prog f vs (Aw b p s S G) v],QF prog f vs l v:=Zz hl;unfold MA Ps;refine AO func153 ntmps153 λE=>?_;refine AQ λb4=>?_;by_cases h1:core<0
 ·rw[Ac (.inl h1)];refine Aj ?_;exact AV [] _ rfl .refl (Cz rfl (.head _) (As.LSub.of_all (n:=24) (Th.encH Th.thZ) rfl) (by exact Ba)) (.drop .refl) ⟨rfl,rfl⟩
 refine Aj ?_;refine EI ?_;refine Aj ?_;refine EI ?_;by_cases h2:core>=S.K.length
 ·rw[Ac (.inr h2)];refine Aj ?_;exact AV [] _ rfl .refl (Cz rfl (.head _) (As.LSub.of_all (n:=24) (Th.encH Th.thZ) rfl) (by exact Ba)) (.drop .refl) ⟨rfl,rfl⟩
 rw[Ab Af];refine Aj ?_;refine EI ?_;refine Aj ?_;refine EI ?_;refine Aj ?_;refine EI ?_;obtain⟨t,ht⟩: ∃t,DW S (LZ S.U core)=t:=⟨_,rfl⟩
 obtain⟨ok,Dm⟩: ∃ok,(Th.findH S.T (LZ S.U core)).isSome=ok:=⟨_,rfl⟩
 rw[ht,Dm];refine AQ λb6=>?_;by_cases h3:ok=false\/¬t.st=1
 ·rw[Ac h3];cases ok<;>by_cases h4:t.st=1;all_goals first
   |(exfalso;simp[h4] at h3;done)
   |(refine Aj ?_
     exact AV [] _ rfl .refl (Cz rfl (.tail _ (.head _)) (As.LSub.of_all (n:=24) (Th.encH Th.thZ) rfl) (by exact Ba)) (.drop (.drop .refl)) ⟨rfl,rfl⟩)
 rw[Ab h3];obtain⟨h4,h5⟩:ok=true/\t.st=1:=by simp at h3;exact h3
 subst h4;refine Aj ?_;exact AV [] _ rfl .refl (Cz rfl (.tail _ (.head _)) (As.LSub.of_all (n:=24) (Th.encH t) rfl) (by exact Ba)) (.drop (.drop .refl)) ⟨rfl,rfl⟩
instance[h:IsK F C k S p s]{core:Int}:QF prog 153 [pV b,.int .i64 core] (Aw b p s S G) (.tuple #[Th.thV (MA S core).1,iV (MA S core).2]):=⟨λl hl=>Aa2 h core l hl⟩
end
end Go.Proofs.YtlifcingifodfaaGreat
