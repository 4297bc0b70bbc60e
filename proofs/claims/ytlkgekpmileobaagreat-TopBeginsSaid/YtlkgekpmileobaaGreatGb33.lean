/- Laws that the statement's proof leans on (joined out of several texts). -/
import Derived.Test.YtlkgekpmileobaaGreatGb8
import Derived.Test.YtlkgekpmileobaaGreatGb32
import Derived.Test.YtlkgekpmileobaaGreatGb10
set_option linter.unusedVariables false
set_option linter.unusedSimpArgs false
namespace Go.Proofs.YtlkgekpmileobaaGreat
open Tryz
open List(toArray)
open Go.RowKit
set_option maxRecDepth 20000
variable{ks:List (LW×Nat)}{i b j gb cap F C k f:Nat}{c c':LW×Nat}{sp vs:List Value}{S:KT}{p:RP}{s:RL}{G l:List Ab}{x v:Value}
theorem fJ{α:Type}{enc:α->List Value}{m j:Nat}(hm: ∀x,(enc x).length=m)(hj:j<m)(sp:List Value): ∀{L:List α} {i:Nat} {x:α},L[i]?=some x->(toArray (L.flatMap enc++sp))[i*m+j]?=(enc x)[j]?
 |a::L,0,x,h=>by cases h;rw[AE,Cm,Al,AC (by rw[hm];omega),FY,Bw]
 |a::L,i+1,x,h=>by
  have ih:=fJ hm hj sp (L:=L) (i:=i) (x:=x) (by simpa using h);rw[AE] at ih⊢;have e:(i+1)*m+j-m=i*m+j:=by rw[EM];omega
  rw[Cm,Al,AP (by rw[hm,EM];omega),hm,e];exact ih
theorem fK{α:Type}{enc:α->List Value}{m j:Nat}{v:Value}(hm: ∀x,(enc x).length=m)(hj:j<m)(sp:List Value): ∀{L:List α} {i:Nat} {x x':α},L[i]?=some x->(enc x).set j v=enc x'->(L.flatMap enc++sp).set (i*m+j) v=(L.set i x').flatMap enc++sp
 |a::L,0,x,x',h,he=>by cases h;rw[Cm,Al,GA _ _ (by rw[hm];omega),FY,Bw,he,EX,Cm,Al]
 |a::L,i+1,x,x',h,he=>by
  have ih:=fK hm hj sp (L:=L) (i:=i) (x:=x) (x':=x') (by simpa using h) he;have e:(i+1)*m+j-m=i*m+j:=by rw[EM];omega
  rw[Cm,Al,Cg _ _ (by rw[hm,EM];omega),hm,e,ih,Hx,Cm,Al]
abbrev Sq(gb:Nat)(ks:List (LW×Nat))(sp:List Value):Ab:=(gb,.cells (toArray (ks.flatMap Oq++sp)) 310 (0,0))
def ZB(b gb cap:Nat)(sp:List Value)(ks:List (LW×Nat)):List Ab:=Q7 b (.slice (some ⟨gb,0,none⟩) ks.length cap)::Sq gb ks sp::FQ ks
abbrev OO(ks:List (LW×Nat)):Prop:= ∀c,c∈ks-> ∀s,s<4->c.1.tb.d s=0\/c.1.tb.d s=1
theorem UT(ks:List (LW×Nat)):(ks.flatMap Oq).length=ks.length*3:=by
 induction ks with
 |nil=>rfl
 |cons c ks ih=>rw[Cm,Ah,ih,Bi];simp;omega
theorem IsCos.form{K:List LW}{lq:List Ab}(h:IsCos b K lq)(h1:1<=K.length): ∃gb cap sp ks,ks.map Prod.fst=K/\OO ks/\lq=ZB b gb cap sp ks/\ks.length<=cap/\cap<=maxLen/\ks.length*3+sp.length=cap*3:=by
 obtain⟨v,cs,ks,rfl,⟨ho,⟨_,h0,_⟩|⟨gb,cap,sp,rfl,rfl,z1,z2,z3⟩⟩,hd,rfl⟩:=h
 ·rw[AZ] at h1;omega
 ·exact⟨gb,cap,sp,ks,rfl,hd,rfl,z1,z2,by rw[<-z3,Ah,ho]⟩
theorem IsCos.of(hd:OO ks)(h1:ks.length<=cap)(h2:cap<=maxLen)(h3:ks.length*3+sp.length=cap*3):IsCos b (ks.map Prod.fst) (ZB b gb cap sp ks):=
 ⟨_,_,ks,rfl,⟨UT ks,.inr ⟨gb,cap,sp,rfl,rfl,h1,h2,by rw[Ah,UT,h3]⟩⟩,hd,rfl⟩
section
theorem rI{k':Nat}{K':List LW}(hK:IsK F C k S p s)(hk:k'<=k)(h: ∀gb cap sp ks G,ks.map Prod.fst=S.K->OO ks->(∀c,c∈s.M->c∈G)->Fn prog f vs (ZB p.c gb cap sp ks++G) λv l'=>v=x/\ ∃ks' X,ks'.map Prod.fst=K'/\OO ks'/\ks'.length=ks.length/\l'=X++(ZB p.c gb cap sp ks'++G)):Fn prog f vs (Av b p s S G) (KK F C b p k' x {S with K:=K'} G):=by obtain⟨gb,cap,sp,ks,e1,hd,hC,h1,h2,h3⟩:=hK.co.form (by have:=hK.kl;have:=hK.c1;omega);exact Fn.re (.of_perm (by unfold Av;rw[hC];exact Cc)) (h gb cap sp ks (Co b p::As.asA p.n S.N::(s.M++(s.A++(s.H++(s.T++(s.Q++(s.E++(s.V++G)))))))) e1 hd (λc hc=>by simp[hc])) λv l' ⟨g1,ks',X,g2,g3,g4,g5⟩=>⟨Av b p {s with C:=ZB p.c gb cap sp ks'} {S with K:=K'} (X++G),by rw[g5];unfold Av;exact AY [],g1,{s with C:=ZB p.c gb cap sp ks'},_,{hK.mono hk with co:=by rw[<-g2];exact .of g3 (by rw[g4];exact h1) h2 (by rw[g4];exact h3),kl:=by rw[<-hK.kl,<-g2,<-e1,AZ,AZ,g4]},⟨X,rfl⟩,rfl⟩
theorem fL:Q7 b (.slice (some ⟨gb,0,none⟩) ks.length cap)∈ZB b gb cap sp ks:= .head _
theorem rJ:Sq gb ks sp∈ZB b gb cap sp ks:= .tail _ (.head _)
theorem fM(b gb n cap:Nat)(l:List Ab)(m1:Q7 b (.slice (some ⟨gb,0,none⟩) n cap)∈l):Fn prog 101 [pV b] l λv l'=>v=iV (n:Nat)/\l'=l:=by refine AO func101 ntmps101 λE=>?_;refine Aj ?_;exact qr
instance[h:IsK F C k S p s]:QF prog 101 [pV p.c] (Av b p s S G) (iV (S.K.length:Nat)):=⟨λl hl=>by obtain⟨gb,cap,sp,ks,e1,hd,hC,h1,h2,h3⟩:=h.co.form (by have:=h.kl;have:=h.c1;omega);rw[<-e1,AZ];exact fM p.c gb ks.length cap l (mC hl _ (by rw[hC];exact fL))⟩
abbrev bP(gb n:Nat)(i:Int):Value:= .pointer (if i<0\/i>=n then none else some ⟨gb,i.toNat*3,none⟩)
theorem Qp(b gb n cap:Nat)(i:Int)(l:List Ab)(m1:Q7 b (.slice (some ⟨gb,0,none⟩) n cap)∈l):Fn prog 164 [pV b,.int .i64 i] l λv l'=>v= .tuple #[bP gb n i,iV (if i<0\/i>=n then 3 else 0)]/\l'=l:=by
 unfold bP;refine AO func164 ntmps164 λE=>?_;by_cases h1:i<0
 ·rw[Ae (.inl h1),Ae (.inl h1)];refine Aj ?_;exact qr
 by_cases h2:i>=n
 ·rw[Ae (.inr h2),Ae (.inr h2)];refine Aj ?_;exact qr
 rw[Ac Af,Ac Af];obtain⟨i,rfl⟩: ∃q:Nat,i=q:=⟨i.toNat,Af⟩
 refine Aj ?_;exact qr
theorem fN(h:ks[i]?=some c)(hj:j<3)(he:(Oq c).set j v=Oq c'):(toArray (ks.flatMap Oq++sp)).setIfInBounds (i*3+j) v=toArray ((ks.set i c').flatMap Oq++sp):=by rw[Bq,fK (enc:=Oq) (m:=3) (λ_=>rfl) hj sp h he]
theorem N4(h:ks[i]?=some c)(hj:j<3):(toArray (ks.flatMap Oq++sp))[i*3+j]?=(Oq c)[j]?:=fJ (enc:=Oq) (m:=3) (λ_=>rfl) hj sp h
theorem UU(h:OO ks)(h2: ∀s,s<4->c'.1.tb.d s=0\/c'.1.tb.d s=1):OO (ks.set i c'):=λc hc=>by
 rcases Ek hc with h1|h1
 ·exact h c h1
 ·rw[h1];exact h2
theorem fO{r sp:Int}(h:ks[i]?=some c):FQ (ks.set i ({c.1 with ro:=r,sp:=sp},c.2))=FQ ks:=by
 unfold FQ;rw[GX];refine Dq λj=>?_;rw[Ke]
 split
 ·rename_i e;subst e;have hl:=(Ax.1 h).1;rw[Ae (by rw[AZ];exact hl),A0,h];rfl
 ·rfl
theorem fP(hK:IsK F C k S p s)(n root sp:Int):Fn prog 112 [pV p.c,.int .i64 n,.int .i64 root,.int .i64 sp] (Av b p s S G) (KK F C b p k (iV (ON S.K n root sp).1) {S with K:=(ON S.K n root sp).2} G):=by
 refine rI hK (A5 _) λgb cap sp' ks G e1 hd _=>?_;have hl:S.K.length=ks.length:=by rw[<-e1,AZ]
 refine AO func112 ntmps112 λE=>?_;refine Aj ?_;refine tq (λl2 h2=>Qp p.c gb ks.length cap n l2 (h2 _ (Ai _ fL))) ?_;unfold bP;by_cases hb:n<0\/n>=ks.length
 ·rw[Ae hb,Ae hb,show ON S.K n root sp=(3,S.K) by unfold ON N2;rw[hl,Ae (by rw[Ae hb];decide)]];refine Aj ?_;exact A8 .refl ⟨rfl,ks,[],e1,hd,rfl,rfl⟩
 rw[Ac hb,Ac hb];have e0:¬¬N2 S.K n=0:=by unfold N2;rw[hl,Ac hb];decide
 obtain⟨i,rfl⟩: ∃q:Nat,n=q:=⟨n.toNat,Af⟩
 by_cases hr:TK root sp
 case neg=>
  rw[show ON S.K i root sp=(2,S.K) by unfold ON;rw[Ac e0,Ae hr]];unfold TK at hr;by_cases h1:root= -1<;>by_cases h2:sp=0<;>by_cases h3:root<0<;>by_cases h4:root>=64<;>by_cases h5:sp<1;all_goals first
   |(exfalso;omega)
   |(refine Aj ?_
     try(rw[show(!decide (sp=0))=true by simp[h2]];refine Aj ?_)
     exact A8 .refl ⟨rfl,ks,[],e1,hd,rfl,rfl⟩)
 have hi:i<ks.length:=by omega
 have h0:ks[i]?=some ks[i]:=Am hi;obtain⟨c,hc⟩: ∃c,ks[i]=c:=⟨_,rfl⟩
 rw[hc] at h0;have hcg:P2 S.K (i:Nat)=c.1:=by unfold P2;rw[A3,<-e1,List.getD,A0,h0];rfl
 rw[show ON S.K i root sp=(0,S.K.set i {c.1 with ro:=root,sp:=sp}) by unfold ON;rw[Ac e0,Ac (FC hr),hcg,A3]];have s0:=fN (sp:=sp') (v:=iV root) (c':=({c.1 with ro:=root},c.2)) h0 (j:=0) AW rfl;have g1:(ks.set i ({c.1 with ro:=root},c.2))[i]?=some ({c.1 with ro:=root},c.2):=by rw[EJ hi]
 have s1:=fN (sp:=sp') (v:=iV sp) (c':=({c.1 with ro:=root,sp:=sp},c.2)) g1 (j:=1) AW rfl;rw[List.set_set] at s1;have hds:OO (ks.set i ({c.1 with ro:=root,sp:=sp},c.2)):=UU hd λs hs=>hd c (by rw[<-hc];exact IB hi) s hs;have hmp:(ks.set i ({c.1 with ro:=root,sp:=sp},c.2)).map Prod.fst=S.K.set i {c.1 with ro:=root,sp:=sp}:=by rw[GX,e1]
 have MM:=fO (r:=root) (sp:=sp) h0;unfold TK at hr;by_cases h1:root= -1<;>by_cases h2:sp=0<;>by_cases h3:root<0<;>by_cases h4:root>=64<;>by_cases h5:sp<1;all_goals first
  |(exfalso;omega)
  |(refine Aj ?_
    try(rw[show(!decide (sp=0))=false by simp[h2]];refine Aj ?_)
    try(rw[show(!decide (sp=0))=true by simp[h2]];refine Aj ?_)
    refine LV (C7 (cs:=toArray (ks.flatMap Oq++sp')) (l':=Q7 p.c (.slice (some ⟨gb,0,none⟩) ks.length cap)::Sq gb (ks.set i ({c.1 with ro:=root},c.2)) sp'::(FQ ks++G)) (b:=gb) (off:=i*3) rfl rfl rfl (by rw[show i*3=i*3+0 from rfl,s0];exact .there .here) (by rw[Bm,Ah,UT];(try rw[Ct]);omega)) rfl rfl ?_;rintro _ _ ⟨rfl,rfl⟩;refine Aj ?_;refine LV (C7 (cs:=toArray ((ks.set i ({c.1 with ro:=root},c.2)).flatMap Oq++sp')) (l':=Q7 p.c (.slice (some ⟨gb,0,none⟩) ks.length cap)::Sq gb (ks.set i ({c.1 with ro:=root,sp:=sp},c.2)) sp'::(FQ ks++G)) (b:=gb) (off:=i*3+1) rfl rfl rfl (by rw[s1];exact .there .here) (by rw[Bm,Ah,UT];(try rw[Ct]);omega)) rfl rfl ?_;rintro _ _ ⟨rfl,rfl⟩;refine Aj ?_;exact By [] rfl .refl (by exact A7) ⟨rfl,_,[],hmp,hds,by simp,by unfold ZB;rw[MM,Ct];rfl⟩)
instance{n root sp:Int}:EK prog F C b p 112 [pV p.c,.int .i64 n,.int .i64 root,.int .i64 sp] k S k (iV (ON S.K n root sp).1) {S with K:=(ON S.K n root sp).2}:=⟨λs G h=>fP h n root sp⟩
instance[h:IsK F C k S p s]{n:Int}:QF prog 257 [pV p.c,.int .i64 n] (Av b p s S G) (.tuple #[iV (NN S.K n).1,iV (NN S.K n).2.1,iV (NN S.K n).2.2]):=⟨λl hm=>by
 obtain⟨gb,cap,sp,ks,e1,hd,hC,h1,h2,h3⟩:=h.co.form (by have:=h.kl;have:=h.c1;omega);have hl:S.K.length=ks.length:=by rw[<-e1,AZ]
 have m1:=mC hm _ (by rw[hC];exact fL);have m2:=mC hm _ (by rw[hC];exact rJ);refine AO func257 ntmps257 λE=>?_;refine Aj ?_;refine tq (λl2 h2=>Qp p.c gb ks.length cap n l2 (h2 _ m1)) ?_;unfold bP;by_cases hb:n<0\/n>=ks.length
 ·rw[Ae hb,Ae hb,show NN S.K n=(0,0,3) by unfold NN N2;rw[hl,Ae (by rw[Ae hb];decide)]];refine Aj ?_;exact qr
 rw[Ac hb,Ac hb];obtain⟨i,rfl⟩: ∃q:Nat,n=q:=⟨n.toNat,Af⟩
 rw[A3];have hi:i<ks.length:=by omega
 obtain⟨c,h0⟩: ∃c,ks[i]?=some c:=⟨_,Am hi⟩
 have hcg:P2 S.K (i:Nat)=c.1:=by unfold P2;rw[A3,<-e1,List.getD,A0,h0];rfl
 rw[show NN S.K i=(c.1.ro,c.1.sp,0) by unfold NN N2;rw[hl,Ac (by rw[Ac hb];decide),hcg]];have c0:(toArray (ks.flatMap Oq++sp))[i*3]?=some (iV c.1.ro):=N4 h0 (j:=0) AW;have c1:(toArray (ks.flatMap Oq++sp))[i*3+1]?=some (iV c.1.sp):=N4 h0 (j:=1) AW;refine Aj ?_;refine Hw ?_;refine BI ?_;refine Aj ?_;exact qr⟩
end
theorem ZC(h:ks[i]?=some c): ∃A B,FQ ks=A++Mj c.2 c.1.tb::B/\ ∀T',FQ (ks.set i ({c.1 with tb:=T'},c.2))=A++Mj c.2 T'::B:=by
 have hl:=(Ax.1 h).1;refine⟨(FQ ks).take i,(FQ ks).drop (i+1),?_,λT'=>?_⟩
 ·have hm:(FQ ks)[i]?=some (Mj c.2 c.1.tb):=by unfold FQ;rw[A0,h];rfl
  conv=>lhs;rw[<-Cb i (FQ ks)]
  rw[CX (by simpa[FQ] using hl)];rw[Ax] at hm;obtain⟨_,hm⟩:=hm;rw[hm]
 ·unfold FQ;rw[GX,HV,Ae (by simpa using hl)]
theorem sR{T':J7}{Z:List Ab}{Γ:List Ab->List Ab}(h0:ks[i]?=some c)(h: ∀F,Fn prog f vs (Mj c.2 c.1.tb::F) λv l'=>v=x/\l'=Mj c.2 T'::F)(hF:Fr1 (FQ ks++Z) l Γ:=by exact Zr):Fn prog f vs l λv l'=>v=x/\l'=Γ (FQ (ks.set i ({c.1 with tb:=T'},c.2))++Z):=by
 obtain⟨A,B,e1,e2⟩:=ZC h0;obtain⟨A1,rfl,hA⟩:=hF.eq;rw[e1];refine Fn.re (.of_perm (by exact Cc:(A1++(A++Mj c.2 c.1.tb::B++Z)).Perm (Mj c.2 c.1.tb::(A1++(A++(B++Z)))))) (h (A1++(A++(B++Z)))) λv l' ⟨h1,h2⟩=>⟨_,?_,h1,rfl⟩
 rw[h2,hA,e2];exact AY []
theorem mP(ks:List (LW×Nat))(h:ks[i]?=some c)(T':J7):(ks.set i ({c.1 with tb:=T'},c.2)).flatMap Oq=ks.flatMap Oq:=by
 induction ks generalizing i with
 |nil=>cases h
 |cons a ks ih=>
  cases i with
  |zero=>cases h;rfl
  |succ i=>rw[Hx,Cm,Cm,ih (by simpa using h)]
theorem fQ{T:J7}(h: ∀s,s<4->T.d s=0\/T.d s=1)(x:Lt): ∀s,s<4->(Jp T x).2.d s=0\/(Jp T x).2.d s=1:=by
 intro s hs;unfold Jp
 split
 ·exact h s hs
 split
 ·exact h s hs
 ·rename_i hb _ _;unfold SG at hb;have h4:(x.pg%4).toNat<4:=by omega
  simp only[Qu.upd]
  split
  ·have:=h _ h4;omega
  ·exact h s hs
section
set_option maxHeartbeats 2000000 in
theorem Ye(hK:IsK F C k S p s)(n pg:Int):Fn prog 163 [pV p.c,.int .i64 n,pV p.m,.int .i64 pg] (Av b p s S G) (KK F C b p k (.tuple #[ov (DD S.K S.W n pg).1.1,.bool (DD S.K S.W n pg).1.2.1,iV (DD S.K S.W n pg).1.2.2]) {S with K:=(DD S.K S.W n pg).2} G):=by
 obtain⟨mb,f1,f2,hW,hu,hM⟩:=hK.mem;refine rI hK (A5 _) λgb cap sp' ks G e1 hd hG=>?_;have m1:NW p.m mb F∈G:=hG _ (by rw[hM];simp);have m2:So mb S.W∈G:=hG _ (by rw[hM];simp);have hl:S.K.length=ks.length:=by rw[<-e1,AZ]
 show Fn _ _ _ (Q7 p.c (.slice (some ⟨gb,0,none⟩) ks.length cap)::Sq gb ks sp'::(FQ ks++G)) _;refine AO func163 ntmps163 λE=>?_;refine AQ λb8=>?_;refine tq (λl2 h2=>Qp p.c gb ks.length cap n l2 (h2 _ (.tail _ (.head _)))) ?_;unfold bP;have ret: ∀(A:List Ab),A++Q7 p.c (.slice (some ⟨gb,0,none⟩) ks.length cap)::Sq gb ks sp'::(FQ ks++G)=A++(ZB p.c gb cap sp' ks++G):=λ_=>rfl;by_cases hb:n<0\/n>=ks.length
 ·rw[Ae hb,Ae hb,show DD S.K S.W n pg=((O4,false,3),S.K) by unfold DD N2;rw[hl,Ae (by rw[Ae hb];decide)]];refine Aj ?_;exact A8 .refl ⟨rfl,ks,[JS b8 O4],e1,hd,rfl,rfl⟩
 rw[Ac hb,Ac hb];have e0:¬¬N2 S.K n=0:=by unfold N2;rw[hl,Ac hb];decide
 obtain⟨i,rfl⟩: ∃q:Nat,n=q:=⟨n.toNat,Af⟩
 have hi:i<ks.length:=by omega
 obtain⟨c,h0⟩: ∃c,ks[i]?=some c:=⟨_,Am hi⟩
 have hcm:c∈ks:=A9 h0;have hcg:P2 S.K (i:Nat)=c.1:=by unfold P2;rw[A3,<-e1,List.getD,A0,h0];rfl
 rw[A3];have c0:(toArray (ks.flatMap Oq++sp'))[i*3]?=some (iV c.1.ro):=N4 h0 (j:=0) AW;have c1:(toArray (ks.flatMap Oq++sp'))[i*3+1]?=some (iV c.1.sp):=N4 h0 (j:=1) AW;have c2:(toArray (ks.flatMap Oq++sp'))[i*3+2]?=some (pV c.2):=N4 h0 (j:=2) AW;obtain⟨A,B,eA,eB⟩:=ZC h0;have mt:Mj c.2 c.1.tb∈FQ ks++G:=by rw[eA];simp
 by_cases hp:pg<0\/pg>=512
 ·rw[show DD S.K S.W i pg=((O4,false,3),S.K) by unfold DD;rw[Ac e0,Ae hp]];by_cases h1:pg<0<;>by_cases h2:pg>=512;all_goals first
   |(exfalso;omega)
   |(refine Aj ?_
     exact A8 .refl ⟨rfl,ks,[JS b8 O4],e1,hd,rfl,rfl⟩)
 by_cases hr:c.1.ro<0
 ·rw[show DD S.K S.W i pg=((O4,false,19),S.K) by unfold DD;rw[Ac e0,Ac hp,hcg,Ae hr]];refine Aj ?_;exact A8 .refl ⟨rfl,ks,[JS b8 O4],e1,hd,rfl,rfl⟩
 refine Aj ?_;refine Ch (Cf [13,14] 0 16) ?_;refine Ci ?_;refine Y8 ?_ (AK rfl rfl λl2 h2=>bM c.2 c.1.tb c.1.sp pg l2 (h2 _ (.tail _ (.tail _ (.tail _ mt)))));refine Ci ?_;refine Hf e_alloc (by rintro _ _ ⟨_,_,_,rfl⟩ c hc;exact .tail _ hc) ?_;rintro _ _ ⟨b13,_,rfl,rfl⟩;refine Ci ?_;obtain⟨x,hx⟩: ∃x,(RO c.1.tb c.1.sp pg).1=x:=⟨_,rfl⟩
 rw[hx];refine Ci ?_;cases hf:(RO c.1.tb c.1.sp pg).2 with
 |true=>rw[show DD S.K S.W i pg=((x,true,0),S.K) by unfold DD;rw[Ac e0,Ac hp,hcg,Ac hr,Ae hf,hx]];refine Aj ?_;exact A8 .refl ⟨rfl,ks,[JS b13 x,JS b8 x],e1,hd,rfl,rfl⟩
 |false=>
 refine Aj ?_;refine tq (λl2 h2=>bL p.m mb F S.W f2 hW hu c.1.ro pg l2 (h2 _ (.tail _ (.tail _ (.tail _ (.tail _ (Aa _ m1)))))) (h2 _ (.tail _ (.tail _ (.tail _ (.tail _ (Aa _ m2))))))) ?_;obtain⟨e,he⟩: ∃e,(MZ S.W c.1.ro pg).1=e:=⟨_,rfl⟩
 rw[he];refine Aj ?_;refine AS e_alloc ?_;rintro _ _ ⟨b15,_,rfl,rfl⟩;by_cases hw:(MZ S.W c.1.ro pg).2=0
 case neg=>rw[show DD S.K S.W i pg=((O4,false,(MZ S.W c.1.ro pg).2),S.K) by unfold DD;rw[Ac e0,Ac hp,hcg,Ac hr,Ac (by rw[hf];decide),Ae hw]];refine Aj ?_;exact A8 .refl ⟨rfl,ks,[(b15,Obj.cells (toArray (RM e)) 390 (0,0)),JS b13 x,JS b8 O4],e1,hd,rfl,rfl⟩
 obtain⟨y,hy2⟩: ∃y:Lt,y=⟨c.1.sp,pg,e.fr,e.rd,e.wr⟩:=⟨_,rfl⟩
 have hy:sO S.W c.1 pg=y:=by rw[hy2];unfold sO;rw[he]
 rw[show DD S.K S.W i pg=((y,false,0),S.K.set i {c.1 with tb:=(Jp c.1.tb y).2}) by unfold DD;rw[Ac e0,Ac hp,hcg,Ac hr,Ac (by rw[hf];decide),Ac (FC hw),hy,A3]];clear hy;subst hy2;refine Aj ?_;refine Ch (Cf [12,13] 0 14) ?_;refine Ci ?_;refine Hf e_alloc (by rintro _ _ ⟨_,_,_,rfl⟩ c hc;exact .tail _ hc) ?_;rintro _ _ ⟨b16,_,rfl,rfl⟩;refine Ci ?_;refine Aj ?_;refine Ch (Cf [5] 0 6) ?_;refine Ci ?_;refine Ju (Az rfl rfl (sR h0 λF=>bO c.2 c.1.tb (hd c hcm) ⟨c.1.sp,pg,e.fr,e.rd,e.wr⟩ F)) ?_;rintro _ _ ⟨rfl,rfl⟩;refine Ci ?_;refine Aj ?_;obtain⟨y,hy2⟩: ∃y:Lt,y=⟨c.1.sp,pg,e.fr,e.rd,e.wr⟩:=⟨_,rfl⟩
 rw[<-hy2];refine By [] rfl .refl (by exact A7) ⟨by rw[hy2];rfl,ks.set i ({c.1 with tb:=(Jp c.1.tb y).2},c.2),[JS b16 y,(b15,Obj.cells (toArray (RM e)) 390 (0,0)),JS b13 x,JS b8 y],by rw[GX,e1],UU hd (fQ (hd c hcm) y),by simp,?_⟩;unfold ZB Sq;rw[mP ks h0,Ct];subst hy2;rfl
instance{n pg:Int}:EK prog F C b p 163 [pV p.c,.int .i64 n,pV p.m,.int .i64 pg] k S k (.tuple #[ov (DD S.K S.W n pg).1.1,.bool (DD S.K S.W n pg).1.2.1,iV (DD S.K S.W n pg).1.2.2]) {S with K:=(DD S.K S.W n pg).2}:=⟨λs G h=>Ye h n pg⟩
theorem fR(hK:IsK F C k S p s)(n pg:Int): ∃x,Fn prog 109 [pV p.c,.int .i64 n,pV p.m,.int .i64 pg] (Av b p s S G) (KK F C b p k x {S with K:=(DD S.K S.W n pg).2} G):=by
 refine⟨.bool (decide ((DD S.K S.W n pg).1.2.2=0)&&!(DD S.K S.W n pg).1.2.1),?_⟩;refine AO func109 ntmps109 λE=>?_;refine Aj ?_;refine Fy ?_;intro S1 s1 L1 hS hK1 hT1 mr1;refine AQ λb9=>?_;obtain⟨x,hx⟩: ∃x,(DD S.K S.W n pg).1.2.1=x:=⟨_,rfl⟩
 obtain⟨e,he⟩: ∃e,(DD S.K S.W n pg).1.2.2=e:=⟨_,rfl⟩
 rw[hx,he];by_cases h0:e=0;all_goals
  refine Aj ?_;exact A4
theorem kB(hK:IsK F C k S p s)(n st wy:Int):Fn prog 110 [pV p.c,.int .i64 n,.int .i64 st,.int .i64 wy] (Av b p s S G) (KK F C b p k (.bool (jY S.K n st wy).1) {S with K:=(jY S.K n st wy).2} G):=by
 refine rI hK (A5 _) λgb cap sp' ks G e1 hd hG=>?_;have hl:S.K.length=ks.length:=by rw[<-e1,AZ]
 show Fn _ _ _ (Q7 p.c (.slice (some ⟨gb,0,none⟩) ks.length cap)::Sq gb ks sp'::(FQ ks++G)) _;refine AO func110 ntmps110 λE=>?_;refine Aj ?_;refine tq (λl2 h2=>Qp p.c gb ks.length cap n l2 (h2 _ (.head _))) ?_;unfold bP;by_cases hb:n<0\/n>=ks.length
 ·rw[Ae hb,Ae hb,show jY S.K n st wy=(false,S.K) by unfold jY N2;rw[hl,Ae (by rw[Ae hb];decide)]];refine Aj ?_;exact A8 .refl ⟨rfl,ks,[],e1,hd,rfl,rfl⟩
 rw[Ac hb,Ac hb];have e0:¬¬N2 S.K n=0:=by unfold N2;rw[hl,Ac hb];decide
 obtain⟨i,rfl⟩: ∃q:Nat,n=q:=⟨n.toNat,Af⟩
 have hi:i<ks.length:=by omega
 obtain⟨c,h0⟩: ∃c,ks[i]?=some c:=⟨_,Am hi⟩
 have hcm:c∈ks:=A9 h0;have hcg:P2 S.K (i:Nat)=c.1:=by unfold P2;rw[A3,<-e1,List.getD,A0,h0];rfl
 rw[A3];have c2:(toArray (ks.flatMap Oq++sp'))[i*3+2]?=some (pV c.2):=N4 h0 (j:=2) AW;rw[show jY S.K i st wy=((LH c.1.tb st wy).1,S.K.set i {c.1 with tb:=(LH c.1.tb st wy).2}) by unfold jY;rw[Ac e0,hcg,A3]];refine Aj ?_;refine It (Az rfl rfl (sR h0 (λF=>Yb c.2 c.1.tb st wy F))) rfl rfl rfl ?_;rintro _ _ ⟨rfl,rfl⟩;refine Aj ?_;refine By [] rfl .refl (by exact A7) ⟨rfl,ks.set i ({c.1 with tb:=(LH c.1.tb st wy).2},c.2),[],by rw[GX,e1],UU hd (λs hs=>by unfold LH;split<;>exact hd c hcm s hs),by simp,?_⟩;unfold ZB Sq;rw[mP ks h0,Ct];rfl
instance{n st wy:Int}:EK prog F C b p 110 [pV p.c,.int .i64 n,.int .i64 st,.int .i64 wy] k S k (.bool (jY S.K n st wy).1) {S with K:=(jY S.K n st wy).2}:=⟨λs G h=>kB h n st wy⟩
end
section
variable{P:Program}{ro:Option Nat}{N:Nat}{E:World}{Q:Exit->Act->World->Prop}{fr:Fr}{ds:List Deferred}{ops:Array Oper}{tbl:List (List Nat)}{g:Bool}{sp:Fd}{pl:List BC}{d:Nat}{o:Oper}{K:Value->List Ab->Prop}
theorem uQ{S:List Ab}(hS: ∀c,c∈S->c∈l)(h:OpQ P ro N fr S o v)(hk:MP P ro N E ops Q tbl false ((i,S)::sp) pl ((d,v)::fr) ds l)(hw:o.guard=none:=by rfl)(hd:o.dst=some d:=by rfl)(hb:Nat.blt d N=true:=by rfl):MP P ro N E ops Q tbl g sp ((i,true,o)::pl) fr ds l:=
 ⟨λ_=>FD h hS hw hd hb (hk.h λh=>by cases h)⟩
theorem kC{α:Type}{L:List α}{x z:α}(h:x∈L)(hz:L.getLast?=some z):x∈L.dropLast\/x=z:=by
 have hne:L≠[]:=List.ne_nil_of_mem h;rw[<-Gd hne] at h;rcases AF.1 h with h|h
 ·exact .inl h
 ·right;rw[AA.1 h];rw[List.getLast?_eq_some_getLast hne] at hz;cases hz;rfl
theorem mS{S:List Ab}(h:OpE P ro N fr l o K)(hS: ∀v l',K v l'-> ∀c,c∈S->c∈l')(hk: ∀v l',K v l'->MP P ro N E ops Q tbl false sp pl ((d,v)::fr) ds l')(hl:sp.getLast?=some (j,S):=by rfl)(hw:o.guard=none:=by rfl)(hd:o.dst=some d:=by rfl)(hb:Nat.blt d N=true:=by rfl)(ha:(sp.dropLast.map Prod.fst).all (λq=>Ff tbl i q)=true:=by kernel_rfl):MP P ro N E ops Q tbl g sp ((i,false,o)::pl) fr ds l:=
 ⟨λ_=>Gq h hw hd hb (λ_ _ _ _ h=>nomatch h) (λv l' k x hx hn=>by
   rcases kC hx hl with hx|rfl
   ·rw[A6.1 ha x.1 (Au.2 ⟨x,hx,rfl⟩)] at hn;cases hn
   ·exact hS v l' k) λv l' k=>(hk v l' k).h λh=>by cases h⟩
end
abbrev iN(B b:Nat):Ab:=(B,.cells (toArray [pV b]) 155 (0,0))
theorem RX(b:Nat)(l:List Ab):Fn prog 341 [pV b] l λv l'=> ∃B,v= .func (.func 375) #[] #[pV B]/\l'=iN B b::l:=by refine AO func341 ntmps341 λE=>?_;refine AQ λb1=>?_;exact A8 .refl ⟨_,rfl,rfl⟩
theorem ZD{n:Nat}(h:j<n):(List.range n).take (j+1)=(List.range n).take j++[j]:=by rw[B0,EE h];rfl
theorem PH(B b gb cap:Nat)(sp:List Value)(ks:List (LW×Nat))(hn:ks.length<=3):E2 prog 375 [pV B] (λk:Nat=>[pV ((ks.getD k (ru,0)).2)]) (λxs=>xs=List.range ks.length) (λpre=>pre<+:List.range ks.length)
 (λ_ l=>iN B b∈l/\Q7 b (.slice (some ⟨gb,0,none⟩) ks.length cap)∈l/\Sq gb ks sp∈l):=by
 refine⟨λr I Ix G0 hneed hY l G hG h0=>?_⟩;obtain⟨n1,n2,n3⟩:=hneed _ _ G hG h0;refine AO func375 ntmps375 λE=>?_;refine Aj ?_;refine Cu (α:=Nat×List Ab) (λx=>[(0,.func (.yield r) #[] #[]),(1,pV B),(10,.int .i64 (ks.length:Nat)),(11,.int .i64 (x.1:Nat))]) (λx=>x.2++G) (λx=>x.1<=ks.length/\I ((List.range ks.length).take x.1) x.2) (λx=>ks.length-x.1) (0,l) ⟨Bf _,h0⟩ ⟨rfl,rfl,rfl,rfl,trivial⟩ .refl ?_;clear n1 n2 n3;rintro⟨i,l⟩ ⟨hi,hI⟩;simp only at hi hI⊢;obtain⟨n1,n2,n3⟩:=hneed _ _ G hG hI;by_cases hlt:i<ks.length
 case neg=>
  obtain rfl:i=ks.length:=by omega
  rw[Bz (by simp)] at hI;refine Aj ?_;exact A8 .refl ⟨l,rfl,.inl ⟨_,rfl,hI⟩⟩
 obtain⟨c,h0⟩: ∃c,ks[i]?=some c:=⟨_,Am hlt⟩
 have c2:(toArray (ks.flatMap Oq++sp))[i*3+2]?=some (pV c.2):=N4 h0 (j:=2) AW;have hy:=hY ((List.range ks.length).take i) i l G hG hI (by rw[<-ZD hlt];exact BD _ _);rw[show ks.getD i (ru,0)=c by rw[List.getD,h0];rfl] at hy;refine Aj ?_;refine It (CK rfl rfl hy) rfl rfl rfl ?_;rw[<-ZD hlt];rintro v _ ⟨l1,rfl,⟨rfl,hI'⟩|⟨rfl,hx⟩⟩
 ·refine Aj ?_;exact BS (i+1,l1) ⟨by simp only;omega,hI'⟩ (by simp only;omega) ⟨rfl,rfl,rfl,rfl,trivial⟩ .refl
 ·refine Aj ?_;exact A8 .refl ⟨l1,rfl,.inr ⟨_,BD _ _,hx⟩⟩
def RY(ks:List (LW×Nat))(f:Lt->Bool)(j:Nat):List (LW×Nat):=(ks.take j).map (λc=>({c.1 with tb:=NM c.1.tb f},c.2))++ks.drop j
def Vg(ks:List (LW×Nat))(f:Lt->Bool)(j:Nat):Nat:=((ks.take j).map λc=>LZ c.1.tb f).sum
theorem Yf{f:Lt->Bool}(h:ks[j]?=some c):(RY ks f j)[j]?=some c/\RY ks f (j+1)=(RY ks f j).set j ({c.1 with tb:=NM c.1.tb f},c.2)/\Vg ks f (j+1)=Vg ks f j+LZ c.1.tb f:=by
 have hl:=(Ax.1 h).1;have e1:ks.drop j=c::ks.drop (j+1):=by rw[CX hl];congr 1;exact(Ax.1 h).2
 have e2:ks.take (j+1)=ks.take j++[c]:=by rw[B0,h];rfl
 have ln:((ks.take j).map λc:LW×Nat=>(({c.1 with tb:=NM c.1.tb f}:LW),c.2)).length=j:=by simp;omega
 refine⟨?_,?_,?_⟩
 ·unfold RY;rw[AP (by rw[ln];omega),ln,Dr,e1];rfl
 ·unfold RY;rw[e2,e1,Cg _ _ (by rw[ln];omega),ln,Dr,Ap,Al];rfl
 ·unfold Vg;rw[e2,Ap,List.sum_append];simp
theorem Qq(ks:List (LW×Nat))(f:Lt->Bool)(j:Nat):(RY ks f j).length=ks.length:=by unfold RY;simp;omega
theorem UV(ks:List (LW×Nat))(f:Lt->Bool)(j:Nat):Vg ks f j<=8*j:=by
 have h8: ∀T,LZ T f<=8:=λT=>by unfold LZ;exact BW (C6 _ _) (by simp)
 induction j with
 |zero=>simp[Vg]
 |succ j ih=>
  cases h:ks[j]? with
  |some c=>rw[(Yf (f:=f) h).2.2];have:=h8 c.1.tb;omega
  |none=>
   have:ks.take (j+1)=ks.take j:=by rw[B0,h];simp
   unfold Vg at ih⊢;rw[this];omega
theorem ZE(ks:List (LW×Nat))(f:Lt->Bool):(RY ks f ks.length).map Prod.fst=IN (ks.map Prod.fst) f/\Vg ks f ks.length=Pk (ks.map Prod.fst) f/\(RY ks f ks.length).flatMap Oq=ks.flatMap Oq/\(OO ks->OO (RY ks f ks.length)):=by unfold RY Vg IN Pk;rw[Bz (A5 _),Dj (A5 _),Be,CD,CD,CD];refine⟨rfl,rfl,by rw[List.flatMap_map],λh c hc=>?_⟩;obtain⟨y,hy,rfl⟩:=Au.1 hc;exact λs hs=>h y hy s hs
section
set_option maxHeartbeats 1000000 in
theorem Yg(hK:IsK F C k S p s)(sp pg:Int):Fn prog 301 [pV p.c,.int .i64 sp,.int .i64 pg] (Av b p s S G) (KK F C b p k (iV (Pk S.K (Jk sp pg):Nat)) {S with K:=IN S.K (Jk sp pg)} G):=by
 have hC3:=hK.c1;have hkl:=hK.kl;refine rI hK (A5 _) λgb cap sp' ks G e1 hd hG=>?_;have hl:S.K.length=ks.length:=by rw[<-e1,AZ]
 show Fn _ _ _ (Q7 p.c (.slice (some ⟨gb,0,none⟩) ks.length cap)::Sq gb ks sp'::(FQ ks++G)) _;obtain⟨q1,q2,q3,q4⟩:=ZE ks (Jk sp pg);rw[<-e1,<-q2];refine AO func301 ntmps301 λE=>?_;refine AQ λb4=>?_;refine AQ λb5=>?_;refine AQ λb7=>?_;refine AS (Az rfl rfl (RX p.c _)) ?_;rintro _ _ ⟨B,rfl,rfl⟩;refine Aj ?_;refine CU (α:=Nat) (ps:=[11]) (lb:=[pV B]) rfl (PH B p.c gb cap sp' ks Af) (λ_=>rfl) rfl
  (λpre l=>l=iN B p.c::BG b7 (Vg ks (Jk sp pg) pre.length:Nat)::BG b5 pg::BG b4 sp::Q7 p.c (.slice (some ⟨gb,0,none⟩) ks.length cap)::Sq gb ks sp'::FQ (RY ks (Jk sp pg) pre.length))
  (λc pre l=>False)
  (iN B p.c::BG b7 0::BG b5 pg::BG b4 sp::Q7 p.c (.slice (some ⟨gb,0,none⟩) ks.length cap)::Sq gb ks sp'::FQ ks) G (λpre l2 X2 hX h=>by subst h;exact⟨Ai _ (.head _),Ai _ (.tail _ (.tail _ (.tail _ (.tail _ (.head _))))),Ai _ (.tail _ (.tail _ (.tail _ (.tail _ (.tail _ (.head _))))))⟩) .refl (by simp[Vg,RY]) ?_ ?_ ?_
 ·rintro E r0 rec pre x l' X ⟨fn,tmps,D,rfl⟩ hX rfl hsp;obtain⟨j,hj⟩: ∃j,pre.length=j:=⟨_,rfl⟩
  obtain⟨hx,hxF⟩:x=j/\j<ks.length:=by have h3:=Iv hsp (i:=j) (by simp;omega);rw[Ha Af] at h3;have h4:=hsp.length_le;simp[hj] at h3 h4;omega
  subst hx;obtain⟨c,h0⟩: ∃c,ks[x]?=some c:=⟨_,Am hxF⟩
  obtain⟨d1,d2,d3⟩:=Yf (f:=Jk sp pg) h0;have hle:=UV ks (Jk sp pg) x;have hle2:=UV ks (Jk sp pg) (x+1);rw[d3] at hle2;rw[hj,show ks.getD x (ru,0)=c by rw[List.getD,h0];rfl];simp only[Du,Ad,Ag];refine DQ (l':=(r0,.loop (Dp fn tmps [11].toArray _ _ D .ready none))::iN B p.c::BG b7 (Vg ks (Jk sp pg) x:Nat)::BG b5 pg::BG b4 sp::Q7 p.c (.slice (some ⟨gb,0,none⟩) ks.length cap)::Sq gb ks sp'::(FQ (RY ks (Jk sp pg) x)++X)) (.of_perm (AH (l₁:=_::_::_::_::_::_::FQ (RY ks (Jk sp pg) x)))) ?_;refine Aj ?_;refine Cp .here ?_;refine Aj ?_;refine Ch (Cf [4,6] 0 7) ?_;refine uQ (S:=[BG b7 (Vg ks (Jk sp pg) x:Nat)]) (by simp) (Dv rfl (.head _) rfl) ?_;refine Ci ?_;refine mS (Az rfl rfl (sR d1 (λF=>Yc c.2 c.1.tb sp pg F))) (by rintro _ _ ⟨_,rfl⟩ c hc;rw[AA.1 hc];exact .tail _ (.tail _ (.head _))) ?_;rintro _ _ ⟨rfl,rfl⟩;refine Ci ?_;refine Aj ?_;refine B9 (iN B p.c::BG b7 ((Vg ks (Jk sp pg) x:Nat)+(LZ c.1.tb (Jk sp pg):Nat))::BG b5 pg::BG b4 sp::Q7 p.c (.slice (some ⟨gb,0,none⟩) ks.length cap)::Sq gb ks sp'::FQ (RY ks (Jk sp pg) (x+1))) (.of_perm ?_) (by rw[Ah,hj,Bl,d3];rfl);rw[d2];exact(AH (l₁:=_::_::_::_::_::_::FQ _)).symm
 ·rintro D xs l' rfl rfl;rw[EC];simp only[Ad];refine Aj ?_;refine AU [D] _ rfl (.refl) (by exact A7) (.drop (.drop (.drop (.drop .refl)))) ⟨rfl,RY ks (Jk sp pg) ks.length,[],by rw[q1],q4 hd,Qq ..,?_⟩;unfold ZB Sq;rw[q3,Qq];rfl
 ·rintro D c pre l' hsp h;exact h.elim
set_option maxHeartbeats 1000000 in
theorem Yh(hK:IsK F C k S p s)(sp:Int):Fn prog 336 [pV p.c,.int .i64 sp] (Av b p s S G) (KK F C b p k (iV (Pk S.K (PF sp):Nat)) {S with K:=IN S.K (PF sp)} G):=by
 have hC3:=hK.c1;have hkl:=hK.kl;refine rI hK (A5 _) λgb cap sp' ks G e1 hd hG=>?_;have hl:S.K.length=ks.length:=by rw[<-e1,AZ]
 show Fn _ _ _ (Q7 p.c (.slice (some ⟨gb,0,none⟩) ks.length cap)::Sq gb ks sp'::(FQ ks++G)) _;obtain⟨q1,q2,q3,q4⟩:=ZE ks (PF sp);rw[<-e1,<-q2];refine AO func336 ntmps336 λE=>?_;refine AQ λb4=>?_;refine AQ λb7=>?_;refine AS (Az rfl rfl (RX p.c _)) ?_;rintro _ _ ⟨B,rfl,rfl⟩;refine Aj ?_;refine CU (α:=Nat) (ps:=[9]) (lb:=[pV B]) rfl (PH B p.c gb cap sp' ks Af) (λ_=>rfl) rfl
  (λpre l=>l=iN B p.c::BG b7 (Vg ks (PF sp) pre.length:Nat)::BG b4 sp::Q7 p.c (.slice (some ⟨gb,0,none⟩) ks.length cap)::Sq gb ks sp'::FQ (RY ks (PF sp) pre.length))
  (λc pre l=>False)
  (iN B p.c::BG b7 0::BG b4 sp::Q7 p.c (.slice (some ⟨gb,0,none⟩) ks.length cap)::Sq gb ks sp'::FQ ks) G (λpre l2 X2 hX h=>by subst h;exact⟨Ai _ (.head _),Ai _ (.tail _ (.tail _ (.tail _ (.head _)))),Ai _ (.tail _ (.tail _ (.tail _ (.tail _ (.head _)))))⟩) .refl (by simp[Vg,RY]) ?_ ?_ ?_
 ·rintro E r0 rec pre x l' X ⟨fn,tmps,D,rfl⟩ hX rfl hsp;obtain⟨j,hj⟩: ∃j,pre.length=j:=⟨_,rfl⟩
  obtain⟨hx,hxF⟩:x=j/\j<ks.length:=by have h3:=Iv hsp (i:=j) (by simp;omega);rw[Ha Af] at h3;have h4:=hsp.length_le;simp[hj] at h3 h4;omega
  subst hx;obtain⟨c,h0⟩: ∃c,ks[x]?=some c:=⟨_,Am hxF⟩
  obtain⟨d1,d2,d3⟩:=Yf (f:=PF sp) h0;have hle:=UV ks (PF sp) x;have hle2:=UV ks (PF sp) (x+1);rw[d3] at hle2;rw[hj,show ks.getD x (ru,0)=c by rw[List.getD,h0];rfl];simp only[Du,Ad,Ag];refine DQ (l':=(r0,.loop (Dp fn tmps [9].toArray _ _ D .ready none))::iN B p.c::BG b7 (Vg ks (PF sp) x:Nat)::BG b4 sp::Q7 p.c (.slice (some ⟨gb,0,none⟩) ks.length cap)::Sq gb ks sp'::(FQ (RY ks (PF sp) x)++X)) (.of_perm (AH (l₁:=_::_::_::_::_::FQ (RY ks (PF sp) x)))) ?_;refine Aj ?_;refine Cp .here ?_;refine Aj ?_;refine Ch (Cf [3,5] 0 6) ?_;refine uQ (S:=[BG b7 (Vg ks (PF sp) x:Nat)]) (by simp) (Dv rfl (.head _) rfl) ?_;refine Ci ?_;refine mS (Az rfl rfl (sR d1 (λF=>Yd c.2 c.1.tb sp F))) (by rintro _ _ ⟨_,rfl⟩ c hc;rw[AA.1 hc];exact .tail _ (.tail _ (.head _))) ?_;rintro _ _ ⟨rfl,rfl⟩;refine Ci ?_;refine Aj ?_;refine B9 (iN B p.c::BG b7 ((Vg ks (PF sp) x:Nat)+(LZ c.1.tb (PF sp):Nat))::BG b4 sp::Q7 p.c (.slice (some ⟨gb,0,none⟩) ks.length cap)::Sq gb ks sp'::FQ (RY ks (PF sp) (x+1))) (.of_perm ?_) (by rw[Ah,hj,Bl,d3];rfl);rw[d2];exact(AH (l₁:=_::_::_::_::_::FQ _)).symm
 ·rintro D xs l' rfl rfl;rw[EC];simp only[Ad];refine Aj ?_;refine AU [D] _ rfl (.refl) (by exact A7) (.drop (.drop (.drop .refl))) ⟨rfl,RY ks (PF sp) ks.length,[],by rw[q1],q4 hd,Qq ..,?_⟩;unfold ZB Sq;rw[q3,Qq];rfl
 ·rintro D c pre l' hsp h;exact h.elim
instance{sp pg:Int}:EK prog F C b p 301 [pV p.c,.int .i64 sp,.int .i64 pg] k S k (iV (Pk S.K (Jk sp pg):Nat)) {S with K:=IN S.K (Jk sp pg)}:=⟨λs G h=>Yg h sp pg⟩
instance{sp:Int}:EK prog F C b p 336 [pV p.c,.int .i64 sp] k S k (iV (Pk S.K (PF sp):Nat)) {S with K:=IN S.K (PF sp)}:=⟨λs G h=>Yh h sp⟩
end
end Go.Proofs.YtlkgekpmileobaaGreat
