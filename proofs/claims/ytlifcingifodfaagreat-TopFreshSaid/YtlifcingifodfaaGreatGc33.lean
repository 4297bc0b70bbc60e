/- Laws that the statement's proof leans on (joined out of several texts). -/
import Derived.Test.YtlifcingifodfaaGreatGc32
set_option maxHeartbeats 4000000
set_option linter.unusedVariables false
set_option linter.unusedSimpArgs false
namespace Go.Proofs.YtlifcingifodfaaGreat
open Tryz
open List(toArray)
open Go.RowKit
set_option maxRecDepth 20000
variable{ks:List (IW×Nat)}{i b j gb cap F C k f:Nat}{c c':IW×Nat}{sp vs:Ap}{S:KT}{p:RP}{s:RL}{G l:Ad}{x v:Value}
theorem mn{α:Type}{enc:α->Ap}{m j:Nat}(hm: ∀x,(enc x).length=m)(hj:j<m)(sp:Ap): ∀{L:List α} {i:Nat} {x:α},L[i]?=some x->(toArray (L.flatMap enc++sp))[i*m+j]?=(enc x)[j]?
 |a::L,0,x,h=>by cases h;rw[AF,Cw,Am,AB (by rw[hm];omega),GG,BE]
 |a::L,i+1,x,h=>by
  have ih:=mn hm hj sp (L:=L) (i:=i) (x:=x) (by simpa using h);rw[AF] at ih⊢;have e:(i+1)*m+j-m=i*m+j:=by rw[Fp];omega
  rw[Cw,Am,AN (by rw[hm,Fp];omega),hm,e];exact ih
theorem mp{α:Type}{enc:α->Ap}{m j:Nat}{v:Value}(hm: ∀x,(enc x).length=m)(hj:j<m)(sp:Ap): ∀{L:List α} {i:Nat} {x x':α},L[i]?=some x->(enc x).set j v=enc x'->(L.flatMap enc++sp).set (i*m+j) v=(L.set i x').flatMap enc++sp
 |a::L,0,x,x',h,he=>by cases h;rw[Cw,Am,Hl _ _ (by rw[hm];omega),GG,BE,he,Fv,Cw,Am]
 |a::L,i+1,x,x',h,he=>by
  have ih:=mp hm hj sp (L:=L) (i:=i) (x:=x) (x':=x') (by simpa using h) he;have e:(i+1)*m+j-m=i*m+j:=by rw[Fp];omega
  rw[Cw,Am,Cs _ _ (by rw[hm,Fp];omega),hm,e,ih,Iv,Cw,Am]
abbrev UN(gb:Nat)(ks:List (IW×Nat))(sp:Ap):Bg:=(gb,.cells (toArray (ks.flatMap P8++sp)) 309 (0,0))
def dS(b gb cap:Nat)(sp:Ap)(ks:List (IW×Nat)):Ad:=Tm b (.slice (some ⟨gb,0,none⟩) ks.length cap)::UN gb ks sp::Gz ks
abbrev Qo(ks:List (IW×Nat)):Prop:= ∀c,c∈ks-> ∀s,s<4->c.1.tb.d s=0\/c.1.tb.d s=1
theorem W5(ks:List (IW×Nat)):(ks.flatMap P8).length=ks.length*3:=by
 induction ks with
 |nil=>rfl
 |cons c ks ih=>rw[Cw,Ah,ih,BC];simp;omega
theorem IsCos.form{K:List IW}{lq:Ad}(h:IsCos b K lq)(h1:1<=K.length): ∃gb cap sp ks,ks.map Prod.fst=K/\Qo ks/\lq=dS b gb cap sp ks/\ks.length<=cap/\cap<=maxLen/\ks.length*3+sp.length=cap*3:=by
 obtain⟨v,cs,ks,rfl,⟨ho,⟨_,h0,_⟩|⟨gb,cap,sp,rfl,rfl,z1,z2,z3⟩⟩,hd,rfl⟩:=h
 ·rw[A7] at h1;omega
 ·exact⟨gb,cap,sp,ks,rfl,hd,rfl,z1,z2,by rw[<-z3,Ah,ho]⟩
theorem IsCos.of(hd:Qo ks)(h1:ks.length<=cap)(h2:cap<=maxLen)(h3:ks.length*3+sp.length=cap*3):IsCos b (ks.map Prod.fst) (dS b gb cap sp ks):=
 ⟨_,_,ks,rfl,⟨W5 ks,.inr ⟨gb,cap,sp,rfl,rfl,h1,h2,by rw[Ah,W5,h3]⟩⟩,hd,rfl⟩
section
theorem lfC{k':Nat}{K':List IW}(hK:IsK F C k S p s)(hk:k'<=k)(h: ∀gb cap sp ks G,ks.map Prod.fst=S.K->Qo ks->(∀c,c∈s.M->c∈G)->Fn prog f vs (dS p.c gb cap sp ks++G) λv l'=>v=x/\ ∃vw X,vw.map Prod.fst=K'/\Qo vw/\vw.length=ks.length/\l'=X++(dS p.c gb cap sp vw++G)):Fn prog f vs (Aw b p s S G) (KK F C b p k' x {S with K:=K'} G):=by obtain⟨gb,cap,sp,ks,e1,hd,hC,h1,h2,h3⟩:=hK.co.form (by have:=hK.kl;have:=hK.c1;omega);exact Fn.re (.of_perm (by unfold Aw;rw[hC];exact B0)) (h gb cap sp ks (CD b p::As.asA p.n S.N::(s.M++(s.A++(s.H++(s.T++(s.Q++(s.E++(s.V++G)))))))) e1 hd (λc hc=>by simp[hc])) λv l' ⟨g1,vw,X,g2,g3,g4,g5⟩=>⟨Aw b p {s with C:=dS p.c gb cap sp vw} {S with K:=K'} (X++G),by rw[g5];unfold Aw;exact A8 [],g1,{s with C:=dS p.c gb cap sp vw},_,{hK.mono hk with co:=by rw[<-g2];exact .of g3 (by rw[g4];exact h1) h2 (by rw[g4];exact h3),kl:=by rw[<-hK.kl,<-g2,<-e1,A7,A7,g4]},⟨X,rfl⟩,rfl⟩
theorem mq:Tm b (.slice (some ⟨gb,0,none⟩) ks.length cap)∈dS b gb cap sp ks:= .head _
theorem AaW:UN gb ks sp∈dS b gb cap sp ks:= .tail _ (.head _)
theorem mu(b gb n cap:Nat)(l:Ad)(m1:Tm b (.slice (some ⟨gb,0,none⟩) n cap)∈l):Fn prog 100 [pV b] l λv l'=>v=iV (n:Nat)/\l'=l:=by refine AO func100 ntmps100 λE=>?_;refine Aj ?_;exact qr
instance[h:IsK F C k S p s]:QF prog 100 [pV p.c] (Aw b p s S G) (iV (S.K.length:Nat)):=⟨λl hl=>by obtain⟨gb,cap,sp,ks,e1,hd,hC,h1,h2,h3⟩:=h.co.form (by have:=h.kl;have:=h.c1;omega);rw[<-e1,A7];exact mu p.c gb ks.length cap l (mC hl _ (by rw[hC];exact mq))⟩
abbrev im(gb n:Nat)(i:Int):Value:= .pointer (if i<0\/i>=n then none else some ⟨gb,i.toNat*3,none⟩)
theorem St(b gb n cap:Nat)(i:Int)(l:Ad)(m1:Tm b (.slice (some ⟨gb,0,none⟩) n cap)∈l):Fn prog 163 [pV b,.int .i64 i] l λv l'=>v= .tuple #[im gb n i,iV (if i<0\/i>=n then 3 else 0)]/\l'=l:=by
 unfold im;refine AO func163 ntmps163 λE=>?_;by_cases h1:i<0
 ·rw[Ac (.inl h1),Ac (.inl h1)];refine Aj ?_;exact qr
 by_cases h2:i>=n
 ·rw[Ac (.inr h2),Ac (.inr h2)];refine Aj ?_;exact qr
 rw[Ab Af,Ab Af];obtain⟨i,rfl⟩: ∃q:Nat,i=q:=⟨i.toNat,Af⟩
 refine Aj ?_;exact qr
theorem mz(h:ks[i]?=some c)(hj:j<3)(he:(P8 c).set j v=P8 c'):(toArray (ks.flatMap P8++sp)).setIfInBounds (i*3+j) v=toArray ((ks.set i c').flatMap P8++sp):=by rw[Bw,mp (enc:=P8) (m:=3) (λ_=>rfl) hj sp h he]
theorem PH(h:ks[i]?=some c)(hj:j<3):(toArray (ks.flatMap P8++sp))[i*3+j]?=(P8 c)[j]?:=mn (enc:=P8) (m:=3) (λ_=>rfl) hj sp h
theorem W6(h:Qo ks)(h2: ∀s,s<4->c'.1.tb.d s=0\/c'.1.tb.d s=1):Qo (ks.set i c'):=λc hc=>by
 rcases Cq hc with h1|h1
 ·exact h c h1
 ·rw[h1];exact h2
theorem mB{r sp:Int}(h:ks[i]?=some c):Gz (ks.set i ({c.1 with ro:=r,sp:=sp},c.2))=Gz ks:=by
 unfold Gz;rw[HN];refine Dl λj=>?_;rw[G8]
 split
 ·rename_i e;subst e;have hl:=(Ay.1 h).1;rw[Ac (by rw[A7];exact hl),A5,h];rfl
 ·rfl
theorem mD(hK:IsK F C k S p s)(n root sp:Int):Fn prog 111 [pV p.c,.int .i64 n,.int .i64 root,.int .i64 sp] (Aw b p s S G) (KK F C b p k (iV (setC S.K n root sp).1) {S with K:=(setC S.K n root sp).2} G):=by
 refine lfC hK (Bd _) λgb cap H0 ks G e1 hd _=>?_;have hl:S.K.length=ks.length:=by rw[<-e1,A7]
 refine AO func111 ntmps111 λE=>?_;refine Aj ?_;refine tq (λl2 h2=>St p.c gb ks.length cap n l2 (h2 _ (Ai _ mq))) ?_;unfold im;by_cases hb:n<0\/n>=ks.length
 ·rw[Ac hb,Ac hb,show setC S.K n root sp=(3,S.K) by unfold setC M8;rw[hl,Ac (by rw[Ac hb];decide)]];refine Aj ?_;exact Bb .refl ⟨rfl,ks,[],e1,hd,rfl,rfl⟩
 rw[Ab hb,Ab hb];have e0:¬¬M8 S.K n=0:=by unfold M8;rw[hl,Ab hb];decide
 obtain⟨i,rfl⟩: ∃q:Nat,n=q:=⟨n.toNat,Af⟩
 by_cases hr:LL root sp
 case neg=>
  rw[show setC S.K i root sp=(2,S.K) by unfold setC;rw[Ab e0,Ac hr]];unfold LL at hr;by_cases h1:root= -1<;>by_cases h2:sp=0<;>by_cases h3:root<0<;>by_cases h4:root>=64<;>by_cases h5:sp<1;all_goals first
   |(exfalso;omega)
   |(refine Aj ?_
     try(rw[show(!decide (sp=0))=true by simp[h2]];refine Aj ?_)
     exact Bb .refl ⟨rfl,ks,[],e1,hd,rfl,rfl⟩)
 have hi:i<ks.length:=by omega
 have h0:ks[i]?=some ks[i]:=Al hi;obtain⟨c,hc⟩: ∃c,ks[i]=c:=⟨_,rfl⟩
 rw[hc] at h0;have o8:QU S.K (i:Nat)=c.1:=by unfold QU;rw[AY,<-e1,List.getD,A5,h0];rfl
 rw[show setC S.K i root sp=(0,S.K.set i {c.1 with ro:=root,sp:=sp}) by unfold setC;rw[Ab e0,Ab (Gf hr),o8,AY]];have s0:=mz (sp:=H0) (v:=iV root) (c':=({c.1 with ro:=root},c.2)) h0 (j:=0) AZ rfl;have g1:(ks.set i ({c.1 with ro:=root},c.2))[i]?=some ({c.1 with ro:=root},c.2):=by rw[Ea hi]
 have s1:=mz (sp:=H0) (v:=iV sp) (c':=({c.1 with ro:=root,sp:=sp},c.2)) g1 (j:=1) AZ rfl;rw[Ks] at s1;have hds:Qo (ks.set i ({c.1 with ro:=root,sp:=sp},c.2)):=W6 hd λs hs=>hd c (by rw[<-hc];exact HK hi) s hs;have vf:(ks.set i ({c.1 with ro:=root,sp:=sp},c.2)).map Prod.fst=S.K.set i {c.1 with ro:=root,sp:=sp}:=by rw[HN,e1]
 have Og:=mB (r:=root) (sp:=sp) h0;unfold LL at hr;by_cases h1:root= -1<;>by_cases h2:sp=0<;>by_cases h3:root<0<;>by_cases h4:root>=64<;>by_cases h5:sp<1;all_goals first
  |(exfalso;omega)
  |(refine Aj ?_
    try(rw[show(!decide (sp=0))=false by simp[h2]];refine Aj ?_)
    try(rw[show(!decide (sp=0))=true by simp[h2]];refine Aj ?_)
    refine ME (Du (cs:=toArray (ks.flatMap P8++H0)) (l':=Tm p.c (.slice (some ⟨gb,0,none⟩) ks.length cap)::UN gb (ks.set i ({c.1 with ro:=root},c.2)) H0::(Gz ks++G)) (b:=gb) (off:=i*3) rfl rfl rfl (by rw[show i*3=i*3+0 from rfl,s0];exact .there .here) (by rw[Bt,Ah,W5];(try rw[CB]);omega)) rfl rfl ?_;rintro _ _ ⟨rfl,rfl⟩;refine Aj ?_;refine ME (Du (cs:=toArray ((ks.set i ({c.1 with ro:=root},c.2)).flatMap P8++H0)) (l':=Tm p.c (.slice (some ⟨gb,0,none⟩) ks.length cap)::UN gb (ks.set i ({c.1 with ro:=root,sp:=sp},c.2)) H0::(Gz ks++G)) (b:=gb) (off:=i*3+1) rfl rfl rfl (by rw[s1];exact .there .here) (by rw[Bt,Ah,W5];(try rw[CB]);omega)) rfl rfl ?_;rintro _ _ ⟨rfl,rfl⟩;refine Aj ?_;exact BD [] rfl .refl (by exact Ba) ⟨rfl,_,[],vf,hds,by simp,by unfold dS;rw[Og,CB];rfl⟩)
instance{n root sp:Int}:EK prog F C b p 111 [pV p.c,.int .i64 n,.int .i64 root,.int .i64 sp] k S k (iV (setC S.K n root sp).1) {S with K:=(setC S.K n root sp).2}:=⟨λs G h=>mD h n root sp⟩
instance[h:IsK F C k S p s]{n:Int}:QF prog 256 [pV p.c,.int .i64 n] (Aw b p s S G) (.tuple #[iV (Pr S.K n).1,iV (Pr S.K n).2.1,iV (Pr S.K n).2.2]):=⟨λl hm=>by
 obtain⟨gb,cap,sp,ks,e1,hd,hC,h1,h2,h3⟩:=h.co.form (by have:=h.kl;have:=h.c1;omega);have hl:S.K.length=ks.length:=by rw[<-e1,A7]
 have m1:=mC hm _ (by rw[hC];exact mq);have m2:=mC hm _ (by rw[hC];exact AaW);refine AO func256 ntmps256 λE=>?_;refine Aj ?_;refine tq (λl2 h2=>St p.c gb ks.length cap n l2 (h2 _ m1)) ?_;unfold im;by_cases hb:n<0\/n>=ks.length
 ·rw[Ac hb,Ac hb,show Pr S.K n=(0,0,3) by unfold Pr M8;rw[hl,Ac (by rw[Ac hb];decide)]];refine Aj ?_;exact qr
 rw[Ab hb,Ab hb];obtain⟨i,rfl⟩: ∃q:Nat,n=q:=⟨n.toNat,Af⟩
 rw[AY];have hi:i<ks.length:=by omega
 obtain⟨c,h0⟩: ∃c,ks[i]?=some c:=⟨_,Al hi⟩
 have o8:QU S.K (i:Nat)=c.1:=by unfold QU;rw[AY,<-e1,List.getD,A5,h0];rfl
 rw[show Pr S.K i=(c.1.ro,c.1.sp,0) by unfold Pr M8;rw[hl,Ab (by rw[Ab hb];decide),o8]];have c0:(toArray (ks.flatMap P8++sp))[i*3]?=some (iV c.1.ro):=PH h0 (j:=0) AZ;have c1:(toArray (ks.flatMap P8++sp))[i*3+1]?=some (iV c.1.sp):=PH h0 (j:=1) AZ;refine Aj ?_;refine It ?_;refine BS ?_;refine Aj ?_;exact qr⟩
end
theorem dU(h:ks[i]?=some c): ∃A B,Gz ks=A++NI c.2 c.1.tb::B/\ ∀T',Gz (ks.set i ({c.1 with tb:=T'},c.2))=A++NI c.2 T'::B:=by
 have hl:=(Ay.1 h).1;refine⟨(Gz ks).take i,(Gz ks).drop (i+1),?_,λT'=>?_⟩
 ·have hm:(Gz ks)[i]?=some (NI c.2 c.1.tb):=by unfold Gz;rw[A5,h];rfl
  conv=>lhs;rw[<-Cj i (Gz ks)]
  rw[Dh (by simpa[Gz] using hl)];rw[Ay] at hm;obtain⟨_,hm⟩:=hm;rw[hm]
 ·unfold Gz;rw[HN,IU,Ac (by simpa using hl)]
theorem fnC{T':Lh}{Z:Ad}{Γ:Ad->Ad}(h0:ks[i]?=some c)(h: ∀F,Fn prog f vs (NI c.2 c.1.tb::F) λv l'=>v=x/\l'=NI c.2 T'::F)(hF:Fr1 (Gz ks++Z) l Γ:=by exact dI):Fn prog f vs l λv l'=>v=x/\l'=Γ (Gz (ks.set i ({c.1 with tb:=T'},c.2))++Z):=by
 obtain⟨A,B,e1,e2⟩:=dU h0;obtain⟨A1,rfl,hA⟩:=hF.eq;rw[e1];refine Fn.re (.of_perm (by exact B0:(A1++(A++NI c.2 c.1.tb::B++Z)).Perm (NI c.2 c.1.tb::(A1++(A++(B++Z)))))) (h (A1++(A++(B++Z)))) λv l' ⟨h1,h2⟩=>⟨_,?_,h1,rfl⟩
 rw[h2,hA,e2];exact A8 []
theorem uh(ks:List (IW×Nat))(h:ks[i]?=some c)(T':Lh):(ks.set i ({c.1 with tb:=T'},c.2)).flatMap P8=ks.flatMap P8:=by
 induction ks generalizing i with
 |nil=>cases h
 |cons a ks ih=>
  cases i with
  |zero=>cases h;rfl
  |succ i=>rw[Iv,Cw,Cw,ih (by simpa using h)]
theorem mF{T:Lh}(h: ∀s,s<4->T.d s=0\/T.d s=1)(x:MF): ∀s,s<4->(Kp T x).2.d s=0\/(Kp T x).2.d s=1:=by
 intro s hs;unfold Kp
 split
 ·exact h s hs
 split
 ·exact h s hs
 ·rename_i hb _ _;unfold UZ at hb;have h4:(x.pg%4).toNat<4:=by omega
  simp only[Qu.upd]
  split
  ·have:=h _ h4;omega
  ·exact h s hs
section
theorem bg(hK:IsK F C k S p s)(n pg:Int):Fn prog 162 [pV p.c,.int .i64 n,pV p.m,.int .i64 pg] (Aw b p s S G) (KK F C b p k (.tuple #[wE (DQ S.K S.W n pg).1.1,.bool (DQ S.K S.W n pg).1.2.1,iV (DQ S.K S.W n pg).1.2.2]) {S with K:=(DQ S.K S.W n pg).2} G):=by
 obtain⟨mb,f1,f2,hW,hu,hM⟩:=hK.mem;refine lfC hK (Bd _) λgb cap H0 ks G e1 hd hG=>?_;have m1:Pn p.m mb F∈G:=hG _ (by rw[hM];simp);have m2:T3 mb S.W∈G:=hG _ (by rw[hM];simp);have hl:S.K.length=ks.length:=by rw[<-e1,A7]
 show Fn _ _ _ (Tm p.c (.slice (some ⟨gb,0,none⟩) ks.length cap)::UN gb ks H0::(Gz ks++G)) _;refine AO func162 ntmps162 λE=>?_;refine AQ λb8=>?_;refine tq (λl2 h2=>St p.c gb ks.length cap n l2 (h2 _ (.tail _ (.head _)))) ?_;unfold im;have ret: ∀(A:Ad),A++Tm p.c (.slice (some ⟨gb,0,none⟩) ks.length cap)::UN gb ks H0::(Gz ks++G)=A++(dS p.c gb cap H0 ks++G):=λ_=>rfl;by_cases hb:n<0\/n>=ks.length
 ·rw[Ac hb,Ac hb,show DQ S.K S.W n pg=((QP,false,3),S.K) by unfold DQ M8;rw[hl,Ac (by rw[Ac hb];decide)]];refine Aj ?_;exact Bb .refl ⟨rfl,ks,[K0 b8 QP],e1,hd,rfl,rfl⟩
 rw[Ab hb,Ab hb];have e0:¬¬M8 S.K n=0:=by unfold M8;rw[hl,Ab hb];decide
 obtain⟨i,rfl⟩: ∃q:Nat,n=q:=⟨n.toNat,Af⟩
 have hi:i<ks.length:=by omega
 obtain⟨c,h0⟩: ∃c,ks[i]?=some c:=⟨_,Al hi⟩
 have UK:c∈ks:=A6 h0;have o8:QU S.K (i:Nat)=c.1:=by unfold QU;rw[AY,<-e1,List.getD,A5,h0];rfl
 rw[AY];have c0:(toArray (ks.flatMap P8++H0))[i*3]?=some (iV c.1.ro):=PH h0 (j:=0) AZ;have c1:(toArray (ks.flatMap P8++H0))[i*3+1]?=some (iV c.1.sp):=PH h0 (j:=1) AZ;have c2:(toArray (ks.flatMap P8++H0))[i*3+2]?=some (pV c.2):=PH h0 (j:=2) AZ;obtain⟨A,B,eA,eB⟩:=dU h0;have mt:NI c.2 c.1.tb∈Gz ks++G:=by rw[eA];simp
 by_cases hp:pg<0\/pg>=512
 ·rw[show DQ S.K S.W i pg=((QP,false,3),S.K) by unfold DQ;rw[Ab e0,Ac hp]];by_cases h1:pg<0<;>by_cases h2:pg>=512;all_goals first
   |(exfalso;omega)
   |(refine Aj ?_
     exact Bb .refl ⟨rfl,ks,[K0 b8 QP],e1,hd,rfl,rfl⟩)
 by_cases hr:c.1.ro<0
 ·rw[show DQ S.K S.W i pg=((QP,false,19),S.K) by unfold DQ;rw[Ab e0,Ab hp,o8,Ac hr]];refine Aj ?_;exact Bb .refl ⟨rfl,ks,[K0 b8 QP],e1,hd,rfl,rfl⟩
 refine Aj ?_;refine Cx (Cr [13,14] 0 16) ?_;refine CC ?_;refine dl ?_ (AL rfl rfl λl2 h2=>ij c.2 c.1.tb c.1.sp pg l2 (h2 _ (.tail _ (.tail _ (.tail _ mt)))));refine CC ?_;refine Id e_alloc (by rintro _ _ ⟨_,_,_,rfl⟩ c hc;exact .tail _ hc) ?_;rintro _ _ ⟨ZP,_,rfl,rfl⟩;refine CC ?_;obtain⟨x,hx⟩: ∃x,(T8 c.1.tb c.1.sp pg).1=x:=⟨_,rfl⟩
 rw[hx];refine CC ?_;cases hf:(T8 c.1.tb c.1.sp pg).2 with
 |true=>rw[show DQ S.K S.W i pg=((x,true,0),S.K) by unfold DQ;rw[Ab e0,Ab hp,o8,Ab hr,Ac hf,hx]];refine Aj ?_;exact Bb .refl ⟨rfl,ks,[K0 ZP x,K0 b8 x],e1,hd,rfl,rfl⟩
 |false=>
 refine Aj ?_;refine tq (λl2 h2=>ii p.m mb F S.W f2 hW hu c.1.ro pg l2 (h2 _ (.tail _ (.tail _ (.tail _ (.tail _ (Aa _ m1)))))) (h2 _ (.tail _ (.tail _ (.tail _ (.tail _ (Aa _ m2))))))) ?_;obtain⟨e,he⟩: ∃e,(Ou S.W c.1.ro pg).1=e:=⟨_,rfl⟩
 rw[he];refine Aj ?_;refine AR e_alloc ?_;rintro _ _ ⟨Zv,_,rfl,rfl⟩;by_cases hw:(Ou S.W c.1.ro pg).2=0
 case neg=>rw[show DQ S.K S.W i pg=((QP,false,(Ou S.W c.1.ro pg).2),S.K) by unfold DQ;rw[Ab e0,Ab hp,o8,Ab hr,Ab (by rw[hf];decide),Ac hw]];refine Aj ?_;exact Bb .refl ⟨rfl,ks,[(Zv,Obj.cells (toArray (T6 e)) 389 (0,0)),K0 ZP x,K0 b8 QP],e1,hd,rfl,rfl⟩
 obtain⟨y,SM⟩: ∃y:MF,y=⟨c.1.sp,pg,e.fr,e.rd,e.wr⟩:=⟨_,rfl⟩
 have hy:trW S.W c.1 pg=y:=by rw[SM];unfold trW;rw[he]
 rw[show DQ S.K S.W i pg=((y,false,0),S.K.set i {c.1 with tb:=(Kp c.1.tb y).2}) by unfold DQ;rw[Ab e0,Ab hp,o8,Ab hr,Ab (by rw[hf];decide),Ab (Gf hw),hy,AY]];clear hy;subst SM;refine Aj ?_;refine Cx (Cr [12,13] 0 14) ?_;refine CC ?_;refine Id e_alloc (by rintro _ _ ⟨_,_,_,rfl⟩ c hc;exact .tail _ hc) ?_;rintro _ _ ⟨PS,_,rfl,rfl⟩;refine CC ?_;refine Aj ?_;refine Cx (Cr [5] 0 6) ?_;refine CC ?_;refine Ll (AA rfl rfl (fnC h0 λF=>il c.2 c.1.tb (hd c UK) ⟨c.1.sp,pg,e.fr,e.rd,e.wr⟩ F)) ?_;rintro _ _ ⟨rfl,rfl⟩;refine CC ?_;refine Aj ?_;obtain⟨y,SM⟩: ∃y:MF,y=⟨c.1.sp,pg,e.fr,e.rd,e.wr⟩:=⟨_,rfl⟩
 rw[<-SM];refine BD [] rfl .refl (by exact Ba) ⟨by rw[SM];rfl,ks.set i ({c.1 with tb:=(Kp c.1.tb y).2},c.2),[K0 PS y,(Zv,Obj.cells (toArray (T6 e)) 389 (0,0)),K0 ZP x,K0 b8 y],by rw[HN,e1],W6 hd (mF (hd c UK) y),by simp,?_⟩;unfold dS UN;rw[uh ks h0,CB];subst SM;rfl
instance{n pg:Int}:EK prog F C b p 162 [pV p.c,.int .i64 n,pV p.m,.int .i64 pg] k S k (.tuple #[wE (DQ S.K S.W n pg).1.1,.bool (DQ S.K S.W n pg).1.2.1,iV (DQ S.K S.W n pg).1.2.2]) {S with K:=(DQ S.K S.W n pg).2}:=⟨λs G h=>bg h n pg⟩
theorem mI(hK:IsK F C k S p s)(n pg:Int): ∃x,Fn prog 108 [pV p.c,.int .i64 n,pV p.m,.int .i64 pg] (Aw b p s S G) (KK F C b p k x {S with K:=(DQ S.K S.W n pg).2} G):=by
 refine⟨.bool (decide ((DQ S.K S.W n pg).1.2.2=0)&&!(DQ S.K S.W n pg).1.2.1),?_⟩;refine AO func108 ntmps108 λE=>?_;refine Aj ?_;refine Gc ?_;intro S1 s1 L1 hS Ey DL GI;refine AQ λb9=>?_;obtain⟨x,hx⟩: ∃x,(DQ S.K S.W n pg).1.2.1=x:=⟨_,rfl⟩
 obtain⟨e,he⟩: ∃e,(DQ S.K S.W n pg).1.2.2=e:=⟨_,rfl⟩
 rw[hx,he];by_cases h0:e=0;all_goals
  refine Aj ?_;exact A9
theorem rG(hK:IsK F C k S p s)(n st wy:Int):Fn prog 109 [pV p.c,.int .i64 n,.int .i64 st,.int .i64 wy] (Aw b p s S G) (KK F C b p k (.bool (lY S.K n st wy).1) {S with K:=(lY S.K n st wy).2} G):=by
 refine lfC hK (Bd _) λgb cap H0 ks G e1 hd hG=>?_;have hl:S.K.length=ks.length:=by rw[<-e1,A7]
 show Fn _ _ _ (Tm p.c (.slice (some ⟨gb,0,none⟩) ks.length cap)::UN gb ks H0::(Gz ks++G)) _;refine AO func109 ntmps109 λE=>?_;refine Aj ?_;refine tq (λl2 h2=>St p.c gb ks.length cap n l2 (h2 _ (.head _))) ?_;unfold im;by_cases hb:n<0\/n>=ks.length
 ·rw[Ac hb,Ac hb,show lY S.K n st wy=(false,S.K) by unfold lY M8;rw[hl,Ac (by rw[Ac hb];decide)]];refine Aj ?_;exact Bb .refl ⟨rfl,ks,[],e1,hd,rfl,rfl⟩
 rw[Ab hb,Ab hb];have e0:¬¬M8 S.K n=0:=by unfold M8;rw[hl,Ab hb];decide
 obtain⟨i,rfl⟩: ∃q:Nat,n=q:=⟨n.toNat,Af⟩
 have hi:i<ks.length:=by omega
 obtain⟨c,h0⟩: ∃c,ks[i]?=some c:=⟨_,Al hi⟩
 have UK:c∈ks:=A6 h0;have o8:QU S.K (i:Nat)=c.1:=by unfold QU;rw[AY,<-e1,List.getD,A5,h0];rfl
 rw[AY];have c2:(toArray (ks.flatMap P8++H0))[i*3+2]?=some (pV c.2):=PH h0 (j:=2) AZ;rw[show lY S.K i st wy=((M7 c.1.tb st wy).1,S.K.set i {c.1 with tb:=(M7 c.1.tb st wy).2}) by unfold lY;rw[Ab e0,o8,AY]];refine Aj ?_;refine Jr (AA rfl rfl (fnC h0 (λF=>aY c.2 c.1.tb st wy F))) rfl rfl rfl ?_;rintro _ _ ⟨rfl,rfl⟩;refine Aj ?_;refine BD [] rfl .refl (by exact Ba) ⟨rfl,ks.set i ({c.1 with tb:=(M7 c.1.tb st wy).2},c.2),[],by rw[HN,e1],W6 hd (λs hs=>by unfold M7;split<;>exact hd c UK s hs),by simp,?_⟩;unfold dS UN;rw[uh ks h0,CB];rfl
instance{n st wy:Int}:EK prog F C b p 109 [pV p.c,.int .i64 n,.int .i64 st,.int .i64 wy] k S k (.bool (lY S.K n st wy).1) {S with K:=(lY S.K n st wy).2}:=⟨λs G h=>rG h n st wy⟩
end
section
variable{P:Program}{ro:Option Nat}{N:Nat}{E:World}{Q:Exit->Act->World->Prop}{fr:Fr}{ds:List Deferred}{ops:Array Oper}{tbl:List (List Nat)}{g:Bool}{sp:FM}{pl:List BH}{d:Nat}{o:Oper}{K:Value->Ad->Prop}
theorem mzS{S:Ad}(hS: ∀c,c∈S->c∈l)(h:OpQ P ro N fr S o v)(hk:MP P ro N E ops Q tbl false ((i,S)::sp) pl ((d,v)::fr) ds l)(hw:o.guard=none:=by rfl)(hd:o.dst=some d:=by rfl)(hb:Nat.blt d N=true:=by rfl):MP P ro N E ops Q tbl g sp ((i,true,o)::pl) fr ds l:=
 ⟨λ_=>Gi h hS hw hd hb (hk.h λh=>by cases h)⟩
theorem rH{α:Type}{L:List α}{x z:α}(h:x∈L)(hz:L.getLast?=some z):x∈L.dropLast\/x=z:=by
 have G5:L≠[]:=List.ne_nil_of_mem h;rw[<-GU G5] at h;rcases AH.1 h with h|h
 ·exact .inl h
 ·right;rw[AE.1 h];rw[List.getLast?_eq_some_getLast G5] at hz;cases hz;rfl
theorem ui{S:Ad}(h:OpE P ro N fr l o K)(hS: ∀v l',K v l'-> ∀c,c∈S->c∈l')(hk: ∀v l',K v l'->MP P ro N E ops Q tbl false sp pl ((d,v)::fr) ds l')(hl:sp.getLast?=some (j,S):=by rfl)(hw:o.guard=none:=by rfl)(hd:o.dst=some d:=by rfl)(hb:Nat.blt d N=true:=by rfl)(ha:(sp.dropLast.map Prod.fst).all (λq=>FQ tbl i q)=true:=by kernel_rfl):MP P ro N E ops Q tbl g sp ((i,false,o)::pl) fr ds l:=
 ⟨λ_=>Hb h hw hd hb (λ_ _ _ _ h=>nomatch h) (λv l' k x hx hn=>by
   rcases rH hx hl with hx|rfl
   ·rw[A3.1 ha x.1 (Au.2 ⟨x,hx,rfl⟩)] at hn;cases hn
   ·exact hS v l' k) λv l' k=>(hk v l' k).h λh=>by cases h⟩
end
abbrev pj(B b:Nat):Bg:=(B,.cells (toArray [pV b]) 154 (0,0))
theorem Ug(b:Nat)(l:Ad):Fn prog 340 [pV b] l λv l'=> ∃B,v= .func (.func 374) #[] #[pV B]/\l'=pj B b::l:=by refine AO func340 ntmps340 λE=>?_;refine AQ λb1=>?_;exact Bb .refl ⟨_,rfl,rfl⟩
theorem dV{n:Nat}(h:j<n):(List.range n).take (j+1)=(List.range n).take j++[j]:=by rw[Cf,Fh h];rfl
theorem Ry(B b gb cap:Nat)(sp:Ap)(ks:List (IW×Nat))(hn:ks.length<=3):FA prog 374 [pV B] (λk:Nat=>[pV ((ks.getD k (pf,0)).2)]) (λxs=>xs=List.range ks.length) (λpre=>pre<+:List.range ks.length)
 (λ_ l=>pj B b∈l/\Tm b (.slice (some ⟨gb,0,none⟩) ks.length cap)∈l/\UN gb ks sp∈l):=by
 refine⟨λr I Ix G0 Ca hY l G hG h0=>?_⟩;obtain⟨n1,n2,n3⟩:=Ca _ _ G hG h0;refine AO func374 ntmps374 λE=>?_;refine Aj ?_;refine CF (α:=Nat×Ad) (λx=>[(0,.func (.yield r) #[] #[]),(1,pV B),(10,.int .i64 (ks.length:Nat)),(11,.int .i64 (x.1:Nat))]) (λx=>x.2++G) (λx=>x.1<=ks.length/\I ((List.range ks.length).take x.1) x.2) (λx=>ks.length-x.1) (0,l) ⟨Bm _,h0⟩ ⟨rfl,rfl,rfl,rfl,trivial⟩ .refl ?_;clear n1 n2 n3;rintro⟨i,l⟩ ⟨hi,hI⟩;simp only at hi hI⊢;obtain⟨n1,n2,n3⟩:=Ca _ _ G hG hI;by_cases Dc:i<ks.length
 case neg=>
  obtain rfl:i=ks.length:=by omega
  rw[Bz (by simp)] at hI;refine Aj ?_;exact Bb .refl ⟨l,rfl,.inl ⟨_,rfl,hI⟩⟩
 obtain⟨c,h0⟩: ∃c,ks[i]?=some c:=⟨_,Al Dc⟩
 have c2:(toArray (ks.flatMap P8++sp))[i*3+2]?=some (pV c.2):=PH h0 (j:=2) AZ;have hy:=hY ((List.range ks.length).take i) i l G hG hI (by rw[<-dV Dc];exact BI _ _);rw[show ks.getD i (pf,0)=c by rw[List.getD,h0];rfl] at hy;refine Aj ?_;refine Jr (C0 rfl rfl hy) rfl rfl rfl ?_;rw[<-dV Dc];rintro v _ ⟨l1,rfl,⟨rfl,Lg⟩|⟨rfl,hx⟩⟩
 ·refine Aj ?_;exact BR (i+1,l1) ⟨by simp only;omega,Lg⟩ (by simp only;omega) ⟨rfl,rfl,rfl,rfl,trivial⟩ .refl
 ·refine Aj ?_;exact Bb .refl ⟨l1,rfl,.inr ⟨_,BI _ _,hx⟩⟩
def Uh(ks:List (IW×Nat))(f:MF->Bool)(j:Nat):List (IW×Nat):=(ks.take j).map (λc=>({c.1 with tb:=Pq c.1.tb f},c.2))++ks.drop j
def Xw(ks:List (IW×Nat))(f:MF->Bool)(j:Nat):Nat:=((ks.take j).map λc=>Nl c.1.tb f).sum
theorem bi{f:MF->Bool}(h:ks[j]?=some c):(Uh ks f j)[j]?=some c/\Uh ks f (j+1)=(Uh ks f j).set j ({c.1 with tb:=Pq c.1.tb f},c.2)/\Xw ks f (j+1)=Xw ks f j+Nl c.1.tb f:=by
 have hl:=(Ay.1 h).1;have e1:ks.drop j=c::ks.drop (j+1):=by rw[Dh hl];congr 1;exact(Ay.1 h).2
 have e2:ks.take (j+1)=ks.take j++[c]:=by rw[Cf,h];rfl
 have ln:((ks.take j).map λc:IW×Nat=>(({c.1 with tb:=Pq c.1.tb f}:IW),c.2)).length=j:=by simp;omega
 refine⟨?_,?_,?_⟩
 ·unfold Uh;rw[AN (by rw[ln];omega),ln,DR,e1];rfl
 ·unfold Uh;rw[e2,e1,Cs _ _ (by rw[ln];omega),ln,DR,Aq,Am];rfl
 ·unfold Xw;rw[e2,Aq,List.sum_append];simp
theorem Su(ks:List (IW×Nat))(f:MF->Bool)(j:Nat):(Uh ks f j).length=ks.length:=by unfold Uh;simp;omega
theorem W7(ks:List (IW×Nat))(f:MF->Bool)(j:Nat):Xw ks f j<=8*j:=by
 have h8: ∀T,Nl T f<=8:=λT=>by unfold Nl;exact BY (C7 _ _) (by simp)
 induction j with
 |zero=>simp[Xw]
 |succ j ih=>
  cases h:ks[j]? with
  |some c=>rw[(bi (f:=f) h).2.2];have:=h8 c.1.tb;omega
  |none=>
   have:ks.take (j+1)=ks.take j:=by rw[Cf,h];simp
   unfold Xw at ih⊢;rw[this];omega
theorem dW(ks:List (IW×Nat))(f:MF->Bool):(Uh ks f ks.length).map Prod.fst=IE (ks.map Prod.fst) f/\Xw ks f ks.length=Rf (ks.map Prod.fst) f/\(Uh ks f ks.length).flatMap P8=ks.flatMap P8/\(Qo ks->Qo (Uh ks f ks.length)):=by unfold Uh Xw IE Rf;rw[Bz (Bd _),DG (Bd _),Bi,CR,CR,CR];refine⟨rfl,rfl,by rw[List.flatMap_map],λh c hc=>?_⟩;obtain⟨y,hy,rfl⟩:=Au.1 hc;exact λs hs=>h y hy s hs
section
theorem bj(hK:IsK F C k S p s)(sp pg:Int):Fn prog 300 [pV p.c,.int .i64 sp,.int .i64 pg] (Aw b p s S G) (KK F C b p k (iV (Rf S.K (Ki sp pg):Nat)) {S with K:=IE S.K (Ki sp pg)} G):=by
 have hC3:=hK.c1;have Xn:=hK.kl;refine lfC hK (Bd _) λgb cap H0 ks G e1 hd hG=>?_;have hl:S.K.length=ks.length:=by rw[<-e1,A7]
 show Fn _ _ _ (Tm p.c (.slice (some ⟨gb,0,none⟩) ks.length cap)::UN gb ks H0::(Gz ks++G)) _;obtain⟨q1,q2,q3,q4⟩:=dW ks (Ki sp pg);rw[<-e1,<-q2];refine AO func300 ntmps300 λE=>?_;refine AQ λb4=>?_;refine AQ λb5=>?_;refine AQ λb7=>?_;refine AR (AA rfl rfl (Ug p.c _)) ?_;rintro _ _ ⟨B,rfl,rfl⟩;refine Aj ?_;refine Df (α:=Nat) (ps:=[11]) (lb:=[pV B]) rfl (Ry B p.c gb cap H0 ks Af) (λ_=>rfl) rfl
  (λpre l=>l=pj B p.c::BP b7 (Xw ks (Ki sp pg) pre.length:Nat)::BP b5 pg::BP b4 sp::Tm p.c (.slice (some ⟨gb,0,none⟩) ks.length cap)::UN gb ks H0::Gz (Uh ks (Ki sp pg) pre.length))
  (λc pre l=>False)
  (pj B p.c::BP b7 0::BP b5 pg::BP b4 sp::Tm p.c (.slice (some ⟨gb,0,none⟩) ks.length cap)::UN gb ks H0::Gz ks) G (λpre l2 X2 hX h=>by subst h;exact⟨Ai _ (.head _),Ai _ (.tail _ (.tail _ (.tail _ (.tail _ (.head _))))),Ai _ (.tail _ (.tail _ (.tail _ (.tail _ (.tail _ (.head _))))))⟩) .refl (by simp[Xw,Uh]) ?_ ?_ ?_
 ·rintro E r0 FS pre x l' X ⟨fn,tmps,D,rfl⟩ hX rfl DB;obtain⟨j,hj⟩: ∃j,pre.length=j:=⟨_,rfl⟩
  obtain⟨hx,hxF⟩:x=j/\j<ks.length:=by have h3:=Jt DB (i:=j) (by simp;omega);rw[HZ Af] at h3;have h4:=DB.length_le;simp[hj] at h3 h4;omega
  subst hx;obtain⟨c,h0⟩: ∃c,ks[x]?=some c:=⟨_,Al hxF⟩
  obtain⟨d1,d2,d3⟩:=bi (f:=Ki sp pg) h0;have Lr:=W7 ks (Ki sp pg) x;have vy:=W7 ks (Ki sp pg) (x+1);rw[d3] at vy;rw[hj,show ks.getD x (pf,0)=c by rw[List.getD,h0];rfl];simp only[DU,Ae,Ag];refine Em (l':=(r0,.loop (DN fn tmps [11].toArray _ _ D .ready none))::pj B p.c::BP b7 (Xw ks (Ki sp pg) x:Nat)::BP b5 pg::BP b4 sp::Tm p.c (.slice (some ⟨gb,0,none⟩) ks.length cap)::UN gb ks H0::(Gz (Uh ks (Ki sp pg) x)++X)) (.of_perm (AI (l₁:=_::_::_::_::_::_::Gz (Uh ks (Ki sp pg) x)))) ?_;refine Aj ?_;refine CH .here ?_;refine Aj ?_;refine Cx (Cr [4,6] 0 7) ?_;refine mzS (S:=[BP b7 (Xw ks (Ki sp pg) x:Nat)]) (by simp) (DP rfl (.head _) rfl) ?_;refine CC ?_;refine ui (AA rfl rfl (fnC d1 (λF=>aZ c.2 c.1.tb sp pg F))) (by rintro _ _ ⟨_,rfl⟩ c hc;rw[AE.1 hc];exact .tail _ (.tail _ (.head _))) ?_;rintro _ _ ⟨rfl,rfl⟩;refine CC ?_;refine Aj ?_;refine Cg (pj B p.c::BP b7 ((Xw ks (Ki sp pg) x:Nat)+(Nl c.1.tb (Ki sp pg):Nat))::BP b5 pg::BP b4 sp::Tm p.c (.slice (some ⟨gb,0,none⟩) ks.length cap)::UN gb ks H0::Gz (Uh ks (Ki sp pg) (x+1))) (.of_perm ?_) (by rw[Ah,hj,Bs,d3];rfl);rw[d2];exact(AI (l₁:=_::_::_::_::_::_::Gz _)).symm
 ·rintro D xs l' rfl rfl;rw[Fc];simp only[Ae];refine Aj ?_;refine AV [D] _ rfl (.refl) (by exact Ba) (.drop (.drop (.drop (.drop .refl)))) ⟨rfl,Uh ks (Ki sp pg) ks.length,[],by rw[q1],q4 hd,Su ..,?_⟩;unfold dS UN;rw[q3,Su];rfl
 ·rintro D c pre l' DB h;exact h.elim
theorem bk(hK:IsK F C k S p s)(sp:Int):Fn prog 335 [pV p.c,.int .i64 sp] (Aw b p s S G) (KK F C b p k (iV (Rf S.K (QR sp):Nat)) {S with K:=IE S.K (QR sp)} G):=by
 have hC3:=hK.c1;have Xn:=hK.kl;refine lfC hK (Bd _) λgb cap H0 ks G e1 hd hG=>?_;have hl:S.K.length=ks.length:=by rw[<-e1,A7]
 show Fn _ _ _ (Tm p.c (.slice (some ⟨gb,0,none⟩) ks.length cap)::UN gb ks H0::(Gz ks++G)) _;obtain⟨q1,q2,q3,q4⟩:=dW ks (QR sp);rw[<-e1,<-q2];refine AO func335 ntmps335 λE=>?_;refine AQ λb4=>?_;refine AQ λb7=>?_;refine AR (AA rfl rfl (Ug p.c _)) ?_;rintro _ _ ⟨B,rfl,rfl⟩;refine Aj ?_;refine Df (α:=Nat) (ps:=[9]) (lb:=[pV B]) rfl (Ry B p.c gb cap H0 ks Af) (λ_=>rfl) rfl
  (λpre l=>l=pj B p.c::BP b7 (Xw ks (QR sp) pre.length:Nat)::BP b4 sp::Tm p.c (.slice (some ⟨gb,0,none⟩) ks.length cap)::UN gb ks H0::Gz (Uh ks (QR sp) pre.length))
  (λc pre l=>False)
  (pj B p.c::BP b7 0::BP b4 sp::Tm p.c (.slice (some ⟨gb,0,none⟩) ks.length cap)::UN gb ks H0::Gz ks) G (λpre l2 X2 hX h=>by subst h;exact⟨Ai _ (.head _),Ai _ (.tail _ (.tail _ (.tail _ (.head _)))),Ai _ (.tail _ (.tail _ (.tail _ (.tail _ (.head _)))))⟩) .refl (by simp[Xw,Uh]) ?_ ?_ ?_
 ·rintro E r0 FS pre x l' X ⟨fn,tmps,D,rfl⟩ hX rfl DB;obtain⟨j,hj⟩: ∃j,pre.length=j:=⟨_,rfl⟩
  obtain⟨hx,hxF⟩:x=j/\j<ks.length:=by have h3:=Jt DB (i:=j) (by simp;omega);rw[HZ Af] at h3;have h4:=DB.length_le;simp[hj] at h3 h4;omega
  subst hx;obtain⟨c,h0⟩: ∃c,ks[x]?=some c:=⟨_,Al hxF⟩
  obtain⟨d1,d2,d3⟩:=bi (f:=QR sp) h0;have Lr:=W7 ks (QR sp) x;have vy:=W7 ks (QR sp) (x+1);rw[d3] at vy;rw[hj,show ks.getD x (pf,0)=c by rw[List.getD,h0];rfl];simp only[DU,Ae,Ag];refine Em (l':=(r0,.loop (DN fn tmps [9].toArray _ _ D .ready none))::pj B p.c::BP b7 (Xw ks (QR sp) x:Nat)::BP b4 sp::Tm p.c (.slice (some ⟨gb,0,none⟩) ks.length cap)::UN gb ks H0::(Gz (Uh ks (QR sp) x)++X)) (.of_perm (AI (l₁:=_::_::_::_::_::Gz (Uh ks (QR sp) x)))) ?_;refine Aj ?_;refine CH .here ?_;refine Aj ?_;refine Cx (Cr [3,5] 0 6) ?_;refine mzS (S:=[BP b7 (Xw ks (QR sp) x:Nat)]) (by simp) (DP rfl (.head _) rfl) ?_;refine CC ?_;refine ui (AA rfl rfl (fnC d1 (λF=>bf c.2 c.1.tb sp F))) (by rintro _ _ ⟨_,rfl⟩ c hc;rw[AE.1 hc];exact .tail _ (.tail _ (.head _))) ?_;rintro _ _ ⟨rfl,rfl⟩;refine CC ?_;refine Aj ?_;refine Cg (pj B p.c::BP b7 ((Xw ks (QR sp) x:Nat)+(Nl c.1.tb (QR sp):Nat))::BP b4 sp::Tm p.c (.slice (some ⟨gb,0,none⟩) ks.length cap)::UN gb ks H0::Gz (Uh ks (QR sp) (x+1))) (.of_perm ?_) (by rw[Ah,hj,Bs,d3];rfl);rw[d2];exact(AI (l₁:=_::_::_::_::_::Gz _)).symm
 ·rintro D xs l' rfl rfl;rw[Fc];simp only[Ae];refine Aj ?_;refine AV [D] _ rfl (.refl) (by exact Ba) (.drop (.drop (.drop .refl))) ⟨rfl,Uh ks (QR sp) ks.length,[],by rw[q1],q4 hd,Su ..,?_⟩;unfold dS UN;rw[q3,Su];rfl
 ·rintro D c pre l' DB h;exact h.elim
instance{sp pg:Int}:EK prog F C b p 300 [pV p.c,.int .i64 sp,.int .i64 pg] k S k (iV (Rf S.K (Ki sp pg):Nat)) {S with K:=IE S.K (Ki sp pg)}:=⟨λs G h=>bj h sp pg⟩
instance{sp:Int}:EK prog F C b p 335 [pV p.c,.int .i64 sp] k S k (iV (Rf S.K (QR sp):Nat)) {S with K:=IE S.K (QR sp)}:=⟨λs G h=>bk h sp⟩
end
end Go.Proofs.YtlifcingifodfaaGreat
