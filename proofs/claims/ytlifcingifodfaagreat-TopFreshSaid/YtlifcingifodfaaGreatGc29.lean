/- Laws that the statement's proof leans on (joined out of several texts). -/
import Derived.Test.YtlifcingifodfaaGreatGc28
set_option maxHeartbeats 4000000
set_option linter.unusedVariables false
set_option linter.unusedSimpArgs false
namespace Go.Proofs.YtlifcingifodfaaGreat
open Tryz
open Go.RowKit
set_option maxRecDepth 20000
variable{F C k b m j:Nat}{p:RP}{S:KT}{id t:Int}{s:RL}{D:En.DE}{G:Ad}{L:Th.TL}{u:Th.ThT}{Y:A4×Bool}{os:Ar.OL}{A' A:Ar.ArT}{o x:Ar.ObT}
abbrev iV(x:Int):Value:= .int .i64 x
abbrev F4(s:Ck):Value:= .agg (List.toArray (Ct s))
abbrev WQ(c:CapT):Value:= .agg (List.toArray (B9 c))
abbrev obV(o:Ar.ObT):Value:= .agg (List.toArray (Ar.obC o))
abbrev DW(S:KT)(id:Int):Th.ThT:=(Th.findH S.T id).getD Th.thZ
theorem IsK.tO(h:IsK F C k S p s)(id:Int):TW (DW S id):=by
 unfold DW;cases hf:Th.findH S.T id with
 |none=>exact⟨Mz,Mz⟩
 |some t=>exact(h.tw t (Th.findH_some hf).1).1
theorem IsK.tM(h:IsK F C k S p s)(hi:(Th.findH S.T id).isSome=true):Th.mayH (DW S id)=true/\(DW S id).id=id:=by
 unfold DW;cases hf:Th.findH S.T id with
 |none=>rw[hf] at hi;cases hi
 |some t=>exact⟨(h.tw t (Th.findH_some hf).1).2,(Th.findH_some hf).2⟩
theorem IsK.tG(h:IsK F C k S p s)(id:Int):(0<=(DW S id).gv/\(DW S id).gv<=4096)/\0<=(DW S id).inn/\(DW S id).inn<=4096:=by
 cases hi:(Th.findH S.T id).isSome with
 |true=>have:=(h.tM hi).1;unfold Th.mayH at this;simp only[AW,Bj] at this;omega
 |false=>
  have:DW S id=Th.thZ:=by
   unfold DW;cases hf:Th.findH S.T id with
   |none=>rfl
   |some t=>rw[hf] at hi;cases hi
  rw[this];exact⟨⟨by decide,by decide⟩,by decide,by decide⟩
section
theorem IsK.small(h:IsK F C k S p s): ∃m,m+k<=900/\InvH S.H m/\S.H.1.length<=2000/\S.H.2.length<=1000:=let⟨m,h1,h2⟩:=h.inv;⟨m,h1,h2,(h2.small Af).1,(h2.small Af).2.1⟩
theorem IsK.el9(h:IsK F C k S p s): ∀x,x∈S.E->x.2.1.length<=1000000:=λx hx=>by have:=h.el x hx;omega
theorem IsK.ql9(h:IsK F C k S p s): ∀n,n<8->(S.Q n).length<=1000000:=λx hx=>by have:=h.ql x hx;omega
instance[h:IsK F C k S p s]{id:Int}:QF prog 95 [pV p.t,.int .i64 id] (Aw b p s S G) (.tuple #[Th.thV (DW S id),.bool (Th.findH S.T id).isSome]):=⟨λl hl=>Th.get_any p.t S.T s.T h.th id l (mT hl)⟩
instance[h:IsK F C k S p s]{id:Int}:QF prog 260 [pV p.t,.int .i64 id] (Aw b p s S G) (iV (Th.serverD S.T id)):=⟨λl hl=>Th.server_any p.t S.T s.T h.th (by have:=h.tl;omega) id l (mT hl)⟩
instance[h:IsK F C k S p s]{id:Int}:QF prog 112 [pV p.a,.int .i64 id] (Aw b p s S G) (.tuple #[obV (Ar.getD' S.A id).1,.bool (Ar.getD' S.A id).2]):=⟨λl hl=>Ar.get_any p.a S.A s.A h.ar id l (mA hl)⟩
instance[h:IsK F C k S p s]{f:Int}:QF prog 181 [pV p.a,.int .i64 f] (Aw b p s S G) (iV (Ar.nextD S.A f)):=⟨λl hl=>Ar.next_any p.a S.A s.A h.ar f l (mA hl)⟩
instance[h:IsK F C k S p s]{x:Ck}:QF prog 165 [pV p.h,F4 x] (Aw b p s S G) (.tuple #[WQ (getD' S.H.1 x).1,iV (getD' S.H.1 x).2]):=⟨λl hl=>Jh p.h S.H s.H h.ho x l (mH hl)⟩
instance[h:IsK F C k S p s]{i j:Int}:QF prog 165 [pV p.h,.agg (List.toArray [.int .i64 i,.int .i64 j])] (Aw b p s S G) (.tuple #[WQ (getD' S.H.1 (i,j)).1,iV (getD' S.H.1 (i,j)).2]):=⟨λl hl=>Jh p.h S.H s.H h.ho (i,j) l (mH hl)⟩
theorem IsH.ulen{n:Nat}{H:HS}{lq:Ad}(hq:IsH b H lq)(hI:InvH H n)(hn:n<=1000):(DY H.1).length<=32000:=by obtain⟨bs,bt,ls,lt,hb⟩:=hq;have h1:=VI λx hx=>(hb.s.sz x hx).2;have h2:=(hI.small hn).1;omega
instance[h:IsK F C k S p s]{x:Ck}:QF prog 326 [pV p.h,F4 x] (Aw b p s S G) (.bool (LX S.H x)):=⟨λl hl=>let⟨m,h1,h2⟩:=h.inv;aI p.h S.H m h2 Af s.H h.ho x (by have:=IsH.ulen h.ho h2 Af;omega) l (mH hl)⟩
instance[h:IsK F C k S p s]{r:Int}:QF prog 166 [pV p.n,.int .i64 r] (Aw b p s S G) (.tuple #[iV (As.ofP S.N r).1,iV (As.ofP S.N r).2.1,.bool (As.ofP S.N r).2.2]):=⟨λl hl=>As.of_any p.n S.N r l (mN hl)⟩
instance[h:IsK F C k S p s]{r:Int}:QF prog 389 [pV p.n,.int .i64 r] (Aw b p s S G) (.tuple #[iV (As.rootP S.N r).1,iV (As.rootP S.N r).2.1,.bool (As.rootP S.N r).2.2]):=⟨λl hl=>As.root_any p.n S.N r l (mN hl)⟩
instance[h:IsK F C k S p s]:QF prog 102 [pV p.q] (Aw b p s S G) (.tuple #[iV (Qu.firstQ S.Q).1,.bool (Qu.firstQ S.Q).2]):=⟨λl hl=>Qu.first_any p.q S.Q s.Q h.qu l (mQ hl)⟩
end
section
variable{k':Nat}{f:Nat}{vs:Ap}{x:Value}
theorem lfT{T':Th.TL}(hK:IsK F C k S p s)(hl:T'.length+k'<=900)(hw: ∀t,t∈T'->TW t/\Th.mayH t=true)(hk:k'<=k)(h: ∀G,Fn prog f vs (s.T++G) λv l'=>v=x/\ ∃DD,Th.IsX p.t T' DD/\l'=DD++G):Fn prog f vs (Aw b p s S G) (KK F C b p k' x {S with T:=T'} G):=
 Fn.re (.of_perm (by unfold Aw;exact B0)) (h (CD b p::As.asA p.n S.N::(s.M++(s.C++(s.A++(s.H++(s.Q++(s.E++(s.V++G))))))))) λv l' ⟨h1,q,h2,h3⟩=>⟨Aw b p {s with T:=q} {S with T:=T'} G,by rw[h3];unfold Aw;exact A8 [],h1,{s with T:=q},G,{hK.mono hk with th:=h2,tl:=hl,tw:=hw},.nil,rfl⟩
theorem lfA(hK:IsK F C k S p s)(hk:k'<=k)(ha:A'.n=S.A.n)(hr:qZ A')(h: ∀G,Fn prog f vs (s.A++G) λv l'=>v=x/\ ∃DD,Ar.IsA p.a A' DD/\l'=DD++G):Fn prog f vs (Aw b p s S G) (KK F C b p k' x {S with A:=A'} G):=
 Fn.re (.of_perm (by unfold Aw;exact B0)) (h (CD b p::As.asA p.n S.N::(s.M++(s.C++(s.H++(s.T++(s.Q++(s.E++(s.V++G))))))))) λv l' ⟨h1,q,h2,h3⟩=>⟨Aw b p {s with A:=q} {S with A:=A'} G,by rw[h3];unfold Aw;exact A8 [],h1,{s with A:=q},G,{hK.mono hk with ar:=h2,an:=ha.trans hK.an,rad:=hr},.nil,rfl⟩
theorem rk{H':HS}(hK:IsK F C k S p s)(hk:k'<=k)(hi: ∀m,InvH S.H m->InvH H' (m+(k-k')))(h: ∀m G,InvH S.H m->m<=1000->Fn prog f vs (s.H++G) λv l'=>v=x/\ ∃DD,IsH p.h H' DD/\l'=DD++G):Fn prog f vs (Aw b p s S G) (KK F C b p k' x {S with H:=H'} G):=by obtain⟨m,h1,h2⟩:=hK.inv;exact Fn.re (.of_perm (by unfold Aw;exact B0)) (h m (CD b p::As.asA p.n S.N::(s.M++(s.C++(s.A++(s.T++(s.Q++(s.E++(s.V++G)))))))) h2 Af) λv l' ⟨g1,q,g2,g3⟩=>⟨Aw b p {s with H:=q} {S with H:=H'} G,by rw[g3];unfold Aw;exact A8 [],g1,{s with H:=q},G,{hK.mono hk with ho:=g2,inv:=⟨_,Af,hi m h2⟩},.nil,rfl⟩
theorem lfQ{Q':Nat->A4}(hK:IsK F C k S p s)(hk:k'<=k)(hl: ∀n,n<8->(Q' n).length<=(S.Q n).length+(k-k'))(h: ∀G,Fn prog f vs (s.Q++G) λv l'=>v=x/\ ∃DD,Qu.IsQ p.q Q' DD/\l'=DD++G):Fn prog f vs (Aw b p s S G) (KK F C b p k' x {S with Q:=Q'} G):=
 Fn.re (.of_perm (by unfold Aw;exact B0)) (h (CD b p::As.asA p.n S.N::(s.M++(s.C++(s.A++(s.H++(s.T++(s.E++(s.V++G))))))))) λv l' ⟨h1,q,h2,h3⟩=>⟨Aw b p {s with Q:=q} {S with Q:=Q'} G,by rw[h3];unfold Aw;exact A8 [],h1,{s with Q:=q},G,{hK.mono hk with qu:=h2,ql:=λn hn=>by have:=hl n hn;have:=hK.ql n hn;show(Q' n).length+k'<=900;omega},.nil,rfl⟩
theorem lfE{E':En.DE}(hK:IsK F C k S p s)(hk:k'<=k)(hl: ∀y,y∈E'->y.2.1.length+k'<=900)(ho: ∀t,En.OneAt E' t)(h: ∀G,Fn prog f vs (s.E++G) λv l'=>v=x/\ ∃DD,En.IsE p.e E' DD/\l'=DD++G):Fn prog f vs (Aw b p s S G) (KK F C b p k' x {S with E:=E'} G):=
 Fn.re (.of_perm (by unfold Aw;exact B0)) (h (CD b p::As.asA p.n S.N::(s.M++(s.C++(s.A++(s.H++(s.T++(s.Q++(s.V++G))))))))) λv l' ⟨h1,q,h2,h3⟩=>⟨Aw b p {s with E:=q} {S with E:=E'} G,by rw[h3];unfold Aw;exact A8 [],h1,{s with E:=q},G,{hK.mono hk with en:=h2,el:=hl,eo:=ho},.nil,rfl⟩
theorem lfN{N':As.ASt}(hK:IsK F C k S p s)(hk:k'<=k)(hg: ∀n,n<32->0<=N'.given n/\N'.given n+k'<=900)(h: ∀G,Fn prog f vs (As.asA p.n S.N::G) λv l'=>v=x/\l'=As.asA p.n N'::G):Fn prog f vs (Aw b p s S G) (KK F C b p k' x {S with N:=N'} G):=
 Fn.re (.of_perm (by unfold Aw;exact B0)) (h (CD b p::(s.M++(s.C++(s.A++(s.H++(s.T++(s.Q++(s.E++(s.V++G)))))))))) λv l' ⟨h1,h2⟩=>⟨Aw b p s {S with N:=N'} G,by rw[h2];unfold Aw;exact A8 [],h1,_,G,{hK.mono hk with giv:=hg},.nil,rfl⟩
end
section
theorem lZ(L:Th.TL)(t:Th.ThT):(Th.setD L t).2.length=L.length:=by unfold Th.setD Th.putH;split<;>simp
theorem l5(L:Th.TL)(t:Th.ThT):(Th.insH L t).length=L.length+1:=by unfold Th.insH;have:=BO List.length (Cb (p:=λx:Th.ThT=>decide (x.id<t.id)) (l:=L));simp only[Ah,BC] at this⊢;omega
abbrev TWs(L:Th.TL):Prop:= ∀t,t∈L->TW t/\Th.mayH t=true
theorem wx{t:Th.ThT}(h:TWs L)(ht:TW t)(hu:u∈(Th.setD L t).2):TW u/\Th.mayH u=true:=by
 unfold Th.setD Th.putH at hu
 split at hu
 ·rename_i hm;obtain⟨y,hy,rfl⟩:=Au.1 hu
  split
  ·exact⟨ht,hm.2⟩
  ·exact h y hy
 ·exact h u hu
theorem wz(h:TWs L)(hu:u∈(Th.addD L id).2):TW u/\Th.mayH u=true:=by
 unfold Th.addD at hu
 split at hu
 ·exact h u hu
 rename_i h1
 split at hu
 ·exact h u hu
 unfold Th.insH at hu;rcases AH.1 hu with hu|hu
 ·exact h u (List.takeWhile_subset _ hu)
 ·rcases At.1 hu with rfl|hu
  ·exact⟨⟨Mz,Mz⟩,by unfold Th.mayH;simp;omega⟩
  ·exact h u (List.dropWhile_subset _ hu)
theorem rl(h:TWs L)(hu:u∈(Th.dropD L id).2):TW u/\Th.mayH u=true:=by
 unfold Th.dropD at hu
 split at hu
 ·exact h u (Co.1 hu).1
 ·exact h u hu
instance{t:Th.ThT}[ht:TW t]:EK prog F C b p 96 [pV p.t,Th.thV t] k S k (iV (Th.setD S.T t).1) {S with T:=(Th.setD S.T t).2}:=⟨λs G h=>lfT h (by rw[lZ];exact h.tl) (λu hu=>wx h.tw ht hu) (Bd _) λG=>Th.set_any p.t S.T s.T h.th t G⟩
instance{id:Int}:EK prog F C b p 367 [pV p.t,.int .i64 id] k S k (iV (Th.dropD S.T id).1) {S with T:=(Th.dropD S.T id).2}:=⟨λs G h=>lfT h (by have:=h.tl;have:=C7 (λx:Th.ThT=>decide (x.id≠id)) S.T;unfold Th.dropD;split<;>(simp only;omega)) (λu hu=>rl h.tw hu) Af λG=>Th.drop_any p.t S.T s.T h.th id G⟩
theorem WR{X:Nat->A4}{q:Nat}{Y:A4}(h:Y.length<=(X q).length+m)(n:Nat):(Qu.upd X q Y n).length<=(X n).length+m:=by
 unfold Qu.upd;split
 ·rename_i e;subst e;exact h
 ·omega
instance{id pr:Int}:EK prog F C b p 151 [pV p.q,.int .i64 id,.int .i64 pr] (k+1) S k (iV (Qu.addQ S.Q id pr).1) {S with Q:=(Qu.addQ S.Q id pr).2}:=⟨λs G h=>lfQ h Af (λn _=>by unfold Qu.addQ;(repeat' split);all_goals first|(exact WR (by rw[Ah,Bs];omega) n)|(simp only;omega)) λG=>Qu.add_any p.q S.Q s.Q id pr h.qu h.ql9 G⟩
instance{id:Int}:EK prog F C b p 152 [pV p.q,.int .i64 id] k S k (.bool (Qu.dropQ S.Q id).1) {S with Q:=(Qu.dropQ S.Q id).2}:=⟨λs G h=>lfQ h Af (λn _=>by unfold Qu.dropQ;split;exact WR (by rw[F7];split<;>omega) n;simp) λG=>Qu.drop_any p.q S.Q s.Q id h.qu h.ql9 G⟩
theorem l6(X:Nat->A4)(id:Int)(n:Nat):((Qu.backQ X id).2 n).length<=(X n).length:=by
 unfold Qu.backQ
 split
 ·rename_i q hq;have hm:id∈X q:=by unfold Qu.findP at hq;simpa using Er hq
  have hi:=G9 hm;refine WR (m:=0) ?_ n;rw[Ah,F7,Ac hi,Bs];omega
 ·simp
instance{id:Int}:EK prog F C b p 302 [pV p.q,.int .i64 id] k S k (.bool (Qu.backQ S.Q id).1) {S with Q:=(Qu.backQ S.Q id).2}:=⟨λs G h=>lfQ h Af (λn _=>by have:=l6 S.Q id n;omega) λG=>Qu.back_any p.q S.Q s.Q id h.qu h.ql9 G⟩
theorem rm(h:En.OneAt D t):En.OneAt (En.addD D id).2 t:=by
 unfold En.addD
 repeat' split
 ·exact h
 ·exact h
 ·intro x y hx hy h1 h2;rcases AH.1 hx with hx|hx
  ·rcases AH.1 hy with hy|hy
   ·exact h x y hx hy h1 h2
   ·rw[AE.1 hy] at h2;cases h2
  ·rw[AE.1 hx] at h1;cases h1
instance{id:Int}:EK prog F C b p 141 [pV p.e,.int .i64 id] k S k (iV (En.addD S.E id).1) {S with E:=(En.addD S.E id).2}:=⟨λs G h=>lfE h Af (λy hy=>by
 have h9:=h.tl;unfold En.addD at hy
 split at hy
 ·exact h.el y hy
 split at hy
 ·exact h.el y hy
 rcases AH.1 hy with hy|hy
 ·exact h.el y hy
 ·rw[AE.1 hy];simp;omega) (λt=>rm (h.eo t)) λG=>En.add_any p.e S.E s.E id h.en G⟩
theorem dJ(h:En.OneAt D t)(hY:t∈Y.1-> ∀x,x∈D->t∈x.2.1->x.1=id):En.OneAt (En.updD D id Y) t:=by
 have key: ∀x,x∈En.updD D id Y->t∈x.2.1->(∃y,y∈D/\y.1=x.1/\t∈y.2.1)\/(x.1=id/\t∈Y.1):=λx hx ht=>by
  obtain⟨y,hy,rfl⟩:=Au.1 hx
  split at ht
  ·rename_i e;rw[Ac e];exact .inr ⟨e,ht⟩
  ·rename_i e;rw[Ab e];exact .inl ⟨y,hy,rfl,ht⟩
 intro x y hx hy h1 h2;rcases key x hx h1 with⟨a,a1,a2,a3⟩|⟨a2,a3⟩<;>rcases key y hy h2 with⟨c,c1,c2,c3⟩|⟨c2,c3⟩
 ·rw[<-a2,<-c2];exact h a c a1 c1 a3 c3
 ·rw[<-a2,c2];exact hY c3 a a1 a3
 ·rw[<-c2,a2];exact(hY a3 c c1 c3).symm
 ·rw[a2,c2]
theorem dK(h: ∀x,x∈D->x.2.1.length<=m)(hY:Y.1.length<=m): ∀x,x∈En.updD D id Y->x.2.1.length<=m:=λx hx=>by
 obtain⟨y,hy,rfl⟩:=Au.1 hx
 split
 ·exact hY
 ·exact h y hy
theorem YM(h:En.findD D id=some Y):(id,Y)∈D:=by
 unfold En.findD at h;obtain⟨x,h1,rfl⟩:=D9.1 h;have:=Er h1;have e:x.1=id:=by simpa using this
 rw[<-e];exact BK h1
instance{id t:Int}{sd:Bool}:EK prog F C b p 264 [pV p.e,.int .i64 id,.int .i64 t,.bool sd] (k+1) S k (iV (En.waitD S.E id t sd).1) {S with E:=(En.waitD S.E id t sd).2}:=⟨λs G h=>lfE h Af (λy hy=>by
 have h9:=λy hy=>h.el y hy;unfold En.waitD at hy
 split at hy
 ·have:=h9 y hy;omega
 rename_i x hx
 split at hy
 ·have:=h9 y hy;omega
 split at hy
 ·have:=h9 y hy;omega
 split at hy
 ·have:=h9 y hy;omega
 have:=dK (m:=900-k) (λx hx=>by have:=h9 x hx;omega) (by have:=h9 _ (YM hx);simp at this⊢;omega) y hy;have:=h.tl;omega) (λu=>by
 unfold En.waitD
 split
 ·exact h.eo u
 rename_i x hx
 repeat' split
 any_goals exact h.eo u
 rename_i hn _;refine dJ (h.eo u) λhu y hy SM=>?_;rcases AH.1 hu with hu|hu
 ·exact h.eo u y _ hy (YM hx) SM hu
 ·rw[AE] at hu;subst hu;exact absurd (HJ.2 ⟨y,hy,by simpa using SM⟩) hn) λG=>En.wait_any p.e S.E s.E id t sd h.en h.el9 G⟩
end
theorem T9(b:Nat)(p:RP)(l:Ad)(hm:CD b p∈l):Fn prog 136 [pV b] l λv l'=>v=pV p.a/\l'=l:=by refine AO func136 ntmps136 λE=>?_;exact E4
theorem DZ(b:Nat)(p:RP)(l:Ad)(hm:CD b p∈l):Fn prog 143 [pV b] l λv l'=>v=pV p.h/\l'=l:=by refine AO func143 ntmps143 λE=>?_;exact E4
theorem K8(b:Nat)(p:RP)(l:Ad)(hm:CD b p∈l):Fn prog 146 [pV b] l λv l'=>v=pV p.n/\l'=l:=by refine AO func146 ntmps146 λE=>?_;exact E4
theorem M9(b:Nat)(p:RP)(l:Ad)(hm:CD b p∈l):Fn prog 94 [pV b] l λv l'=>v=pV p.t/\l'=l:=by refine AO func94 ntmps94 λE=>?_;exact E4
def Jy(R:RT)(k s f:Int):(Int×Int)×RT:=
 if(Ar.addD R.A k s f).1.2=0 then
  (((Ar.addD R.A k s f).1.1,0),⟨(Ar.addD R.A k s f).2,(if 0<Ar.slotsD k s then((Hg R.H.1 (Ar.addD R.A k s f).1.1 (Ar.slotsD k s)).2,R.H.2) else R.H),R.N,(if k=9 then(Th.addD R.T (Ar.addD R.A k s f).1.1).2 else R.T),R.Q,(if k=8 then(En.addD R.E (Ar.addD R.A k s f).1.1).2 else R.E)⟩)
 else((0,(Ar.addD R.A k s f).1.2),{R with A:=(Ar.addD R.A k s f).2})
theorem AaK(S:Ar.ArT)(k s f:Int):(Ar.addD S k s f).2.n=S.n:=by unfold Ar.addD;split<;>rfl
theorem rn{S:Ar.ArT}{k s f:Int}(h:(Ar.addD S k s f).1.2=0):0<=f/\f<=S.n-Ar.framesD k s/\1<=Ar.framesD k s:=by
 have h1:=Ar.frames_rng k s;unfold Ar.addD at h;by_cases h0:Ar.addE S k s f=0
 ·unfold Ar.addE at h0;by_cases h2:Ar.framesD k s=0
  ·rw[Ac h2] at h0;omega
  ·rw[Ab h2] at h0;by_cases h3:f<0\/f>S.n-Ar.framesD k s
   ·rw[Ac h3] at h0;omega
   ·omega
 ·rw[Ab h0] at h;exact absurd h h0
theorem IsRl.mono{R:RT}(h:IsRl F C k R p s)(hm:k<=m):IsRl F C m R p s:=
 ⟨h.mem,h.co,h.ar,h.an,h.ho,h.inv.mono hm,λn hn=>by have:=h.giv n hn;omega,h.th,h.qu,λn hn=>BY (h.ql n hn) hm,h.en,h.cu,h.c1⟩
theorem l9(F C n:Nat)(R:RT)(b:Nat)(p:RP)(s:RL)(hR:IsRl F C n R p s)(hn:n<=900)(k z f:Int)(G:Ad):Fn prog 91 [pV b,.int .i64 k,.int .i64 z,.int .i64 f] (Cy b p s R G) λv l'=>
 v= .tuple #[.int .i64 (Jy R k z f).1.1,.int .i64 (Jy R k z f).1.2]/\ ∃s' X,IsRl F C (n+1) (Jy R k z f).2 p s'/\l'=Cy b p s' (Jy R k z f).2 (X++G):=by
 have hF:=hR.mem.2.1;refine AO func91 ntmps91 λE=>?_;unfold Cy;refine Aj ?_;refine AR (AA rfl rfl (T9 b p _ (.head _))) ?_;rintro _ _ ⟨rfl,rfl⟩;refine Aj ?_;refine Bq (l':=s.A++(CD b p::As.asA p.n R.N::(s.M++(s.C++(s.H++(s.T++(s.Q++(s.E++(s.V++G))))))))) (A8 []) ?_;refine AR (AA rfl rfl (Ar.add_any p.a R.A s.A hR.ar k z f _)) ?_;rintro _ _ ⟨rfl,lA,hA,rfl⟩;refine Bq (l':=CD b p::As.asA p.n R.N::(s.M++(s.C++(lA++(s.H++(s.T++(s.Q++(s.E++(s.V++G))))))))) (A8 []) ?_;obtain⟨id,Va⟩: ∃x,x=(Ar.addD R.A k z f).1.1:=⟨_,rfl⟩
 obtain⟨er,her⟩: ∃x,x=(Ar.addD R.A k z f).1.2:=⟨_,rfl⟩
 have ts:(Ar.addD R.A k z f).2.n=F:=by rw[AaK];exact hR.an
 rw[<-Va,<-her];have jl:Jy R k z f=if er=0 then((id,0),(⟨(Ar.addD R.A k z f).2,(if 0<Ar.slotsD k z then((Hg R.H.1 id (Ar.slotsD k z)).2,R.H.2) else R.H),R.N,(if k=9 then(Th.addD R.T id).2 else R.T),R.Q,(if k=8 then(En.addD R.E id).2 else R.E)⟩:RT)) else((0,er),{R with A:=(Ar.addD R.A k z f).2}):=by unfold Jy;rw[<-Va,<-her]
 by_cases he:er=0
 ·rw[Ac he] at jl;rw[jl];obtain⟨r1,r2,r3⟩:=rn (her.symm.trans he);rw[hR.an] at r2;obtain⟨f',rfl⟩: ∃f':Nat,f=f':=⟨f.toNat,Af⟩
  obtain⟨fr,fA⟩: ∃fr:Nat,Ar.framesD k z=fr:=⟨(Ar.framesD k z).toNat,Af⟩
  refine Aj ?_;by_cases h1:k=1
  ·have yg:Ar.slotsD k z=0:=by unfold Ar.slotsD;rw[Ab Af,Ab Af]
   have hs:¬0<Ar.slotsD k z:=by omega
   have fL:(if 0<Ar.slotsD k z then((Hg R.H.1 id (Ar.slotsD k z)).2,R.H.2) else R.H)=R.H:=Ab hs;have QY:(if k=9 then(Th.addD R.T id).2 else R.T)=R.T:=Ab Af;have fM:(if k=8 then(En.addD R.E id).2 else R.E)=R.E:=Ab Af;rw[fL,QY,fM];refine Aj ?_;refine AR (AA rfl rfl (Ar.slots_any k z _)) ?_;rintro _ _ ⟨rfl,rfl⟩;refine Aj ?_;refine Aj ?_;refine Bb (l':=Cy b p ⟨s.M,s.C,lA,s.H,s.T,s.Q,s.E,s.V⟩ ⟨(Ar.addD R.A k z (f':Nat)).2,R.H,R.N,R.T,R.Q,R.E⟩ (([])++G)) (by unfold Cy;exact A8 []) ?_;refine⟨rfl,⟨s.M,s.C,lA,s.H,s.T,s.Q,s.E,s.V⟩,[],?_,rfl⟩;exact⟨hR.mem,hR.co,hA,ts,hR.ho,hR.inv.mono Af,λj hj=>by have:=hR.giv j hj;simp only;omega,hR.th,hR.qu,λj hj=>BY (hR.ql j hj) Af,hR.en,hR.cu,hR.c1⟩
  refine Aj ?_;refine Em (l':=s.M++(CD b p::As.asA p.n R.N::(s.C++(lA++(s.H++(s.T++(s.Q++(s.E++(s.V++G))))))))) (A8 []) ?_;refine Cn [8] 9 ([CD b p]) ?_ (hR:=(C5 (Aa _ (.head _))));refine BS ?_;apply EF
  ·exact AL rfl rfl (λl hl=>Ar.frames_any k z l)
  ·rfl
  ·rfl
  ·rfl
  refine BS ?_;apply CS
  ·exact AA rfl rfl (by rw[fA];exact gc p.m F f' fr s.M hR.mem Af Af _)
  ·rfl
  ·rfl
  ·rfl
  ·rintro _ _ ⟨_,X,rfl⟩;exact C5 (Aa _ (Aa _ (.head _)))
  rintro _ _ ⟨rfl,X,rfl⟩;refine BS ?_;refine Aj ?_;refine AR (AA rfl rfl (Ar.slots_any k z _)) ?_;rintro _ _ ⟨rfl,rfl⟩;refine Aj ?_;by_cases hs:0<Ar.slotsD k z
  ·by_cases h9:k=9
   ·have fL:(if 0<Ar.slotsD k z then((Hg R.H.1 id (Ar.slotsD k z)).2,R.H.2) else R.H)=((Hg R.H.1 id (Ar.slotsD k z)).2,R.H.2):=Ac hs;have QY:(if k=9 then(Th.addD R.T id).2 else R.T)=(Th.addD R.T id).2:=Ac Af;have fM:(if k=8 then(En.addD R.E id).2 else R.E)=R.E:=Ab Af;rw[fL,QY,fM];refine Aj ?_;refine Bq (l':=CD b p::As.asA p.n R.N::(s.M++(s.C++(lA++(s.H++(s.T++(s.Q++(s.E++(s.V++(X++G)))))))))) (A8 []) ?_;refine Aj ?_;refine Bq (l':=s.H++(CD b p::As.asA p.n R.N::(s.M++(s.C++(lA++(s.T++(s.Q++(s.E++(s.V++(X++G)))))))))) (A8 []) ?_;refine AR (AA rfl rfl (OX p.h R.H s.H hR.ho id (Ar.slotsD k z) _)) ?_;rintro _ _ ⟨rfl,lH,hH,rfl⟩;refine Bq (l':=CD b p::As.asA p.n R.N::(s.M++(s.C++(lA++(lH++(s.T++(s.Q++(s.E++(s.V++(X++G)))))))))) (A8 []) ?_;refine Aj ?_;refine Bq (l':=s.T++(CD b p::As.asA p.n R.N::(s.M++(s.C++(lA++(lH++(s.Q++(s.E++(s.V++(X++G)))))))))) (A8 []) ?_;refine AR (AA rfl rfl (Th.add_any p.t R.T s.T hR.th id _)) ?_;rintro _ _ ⟨rfl,lT,hT,rfl⟩;refine Aj ?_;refine Bb (l':=Cy b p ⟨s.M,s.C,lA,lH,lT,s.Q,s.E,s.V⟩ ⟨(Ar.addD R.A k z (f':Nat)).2,((Hg R.H.1 id (Ar.slotsD k z)).2,R.H.2),R.N,(Th.addD R.T id).2,R.Q,R.E⟩ ((X)++G)) (by unfold Cy;exact A8 []) ?_;refine⟨rfl,⟨s.M,s.C,lA,lH,lT,s.Q,s.E,s.V⟩,X,?_,rfl⟩;exact⟨hR.mem,hR.co,hA,ts,hH,hR.inv.add _ _,λj hj=>by have:=hR.giv j hj;simp only;omega,hT,hR.qu,λj hj=>BY (hR.ql j hj) Af,hR.en,hR.cu,hR.c1⟩
   by_cases h8:k=8
   ·have fL:(if 0<Ar.slotsD k z then((Hg R.H.1 id (Ar.slotsD k z)).2,R.H.2) else R.H)=((Hg R.H.1 id (Ar.slotsD k z)).2,R.H.2):=Ac hs;have QY:(if k=9 then(Th.addD R.T id).2 else R.T)=R.T:=Ab Af;have fM:(if k=8 then(En.addD R.E id).2 else R.E)=(En.addD R.E id).2:=Ac Af;rw[fL,QY,fM];refine Aj ?_;refine Bq (l':=CD b p::As.asA p.n R.N::(s.M++(s.C++(lA++(s.H++(s.T++(s.Q++(s.E++(s.V++(X++G)))))))))) (A8 []) ?_;refine Aj ?_;refine Bq (l':=s.H++(CD b p::As.asA p.n R.N::(s.M++(s.C++(lA++(s.T++(s.Q++(s.E++(s.V++(X++G)))))))))) (A8 []) ?_;refine AR (AA rfl rfl (OX p.h R.H s.H hR.ho id (Ar.slotsD k z) _)) ?_;rintro _ _ ⟨rfl,lH,hH,rfl⟩;refine Bq (l':=CD b p::As.asA p.n R.N::(s.M++(s.C++(lA++(lH++(s.T++(s.Q++(s.E++(s.V++(X++G)))))))))) (A8 []) ?_;refine Aj ?_;refine Bq (l':=s.E++(CD b p::As.asA p.n R.N::(s.M++(s.C++(lA++(lH++(s.T++(s.Q++(s.V++(X++G)))))))))) (A8 []) ?_;refine AR (AA rfl rfl (En.add_any p.e R.E s.E id hR.en _)) ?_;rintro _ _ ⟨rfl,lE,hE,rfl⟩;refine Aj ?_;refine Bb (l':=Cy b p ⟨s.M,s.C,lA,lH,s.T,s.Q,lE,s.V⟩ ⟨(Ar.addD R.A k z (f':Nat)).2,((Hg R.H.1 id (Ar.slotsD k z)).2,R.H.2),R.N,R.T,R.Q,(En.addD R.E id).2⟩ ((X)++G)) (by unfold Cy;exact A8 []) ?_;refine⟨rfl,⟨s.M,s.C,lA,lH,s.T,s.Q,lE,s.V⟩,X,?_,rfl⟩;exact⟨hR.mem,hR.co,hA,ts,hH,hR.inv.add _ _,λj hj=>by have:=hR.giv j hj;simp only;omega,hR.th,hR.qu,λj hj=>BY (hR.ql j hj) Af,hE,hR.cu,hR.c1⟩
   have fL:(if 0<Ar.slotsD k z then((Hg R.H.1 id (Ar.slotsD k z)).2,R.H.2) else R.H)=((Hg R.H.1 id (Ar.slotsD k z)).2,R.H.2):=Ac hs;have QY:(if k=9 then(Th.addD R.T id).2 else R.T)=R.T:=Ab Af;have fM:(if k=8 then(En.addD R.E id).2 else R.E)=R.E:=Ab Af;rw[fL,QY,fM];refine Aj ?_;refine Bq (l':=CD b p::As.asA p.n R.N::(s.M++(s.C++(lA++(s.H++(s.T++(s.Q++(s.E++(s.V++(X++G)))))))))) (A8 []) ?_;refine Aj ?_;refine Bq (l':=s.H++(CD b p::As.asA p.n R.N::(s.M++(s.C++(lA++(s.T++(s.Q++(s.E++(s.V++(X++G)))))))))) (A8 []) ?_;refine AR (AA rfl rfl (OX p.h R.H s.H hR.ho id (Ar.slotsD k z) _)) ?_;rintro _ _ ⟨rfl,lH,hH,rfl⟩;refine Aj ?_;refine Bb (l':=Cy b p ⟨s.M,s.C,lA,lH,s.T,s.Q,s.E,s.V⟩ ⟨(Ar.addD R.A k z (f':Nat)).2,((Hg R.H.1 id (Ar.slotsD k z)).2,R.H.2),R.N,R.T,R.Q,R.E⟩ ((X)++G)) (by unfold Cy;exact A8 []) ?_;refine⟨rfl,⟨s.M,s.C,lA,lH,s.T,s.Q,s.E,s.V⟩,X,?_,rfl⟩;exact⟨hR.mem,hR.co,hA,ts,hH,hR.inv.add _ _,λj hj=>by have:=hR.giv j hj;simp only;omega,hR.th,hR.qu,λj hj=>BY (hR.ql j hj) Af,hR.en,hR.cu,hR.c1⟩
  ·by_cases h9:k=9
   ·have fL:(if 0<Ar.slotsD k z then((Hg R.H.1 id (Ar.slotsD k z)).2,R.H.2) else R.H)=R.H:=Ab hs;have QY:(if k=9 then(Th.addD R.T id).2 else R.T)=(Th.addD R.T id).2:=Ac Af;have fM:(if k=8 then(En.addD R.E id).2 else R.E)=R.E:=Ab Af;rw[fL,QY,fM];refine Aj ?_;refine Bq (l':=CD b p::As.asA p.n R.N::(s.M++(s.C++(lA++(s.H++(s.T++(s.Q++(s.E++(s.V++(X++G)))))))))) (A8 []) ?_;refine Aj ?_;refine Bq (l':=s.T++(CD b p::As.asA p.n R.N::(s.M++(s.C++(lA++(s.H++(s.Q++(s.E++(s.V++(X++G)))))))))) (A8 []) ?_;refine AR (AA rfl rfl (Th.add_any p.t R.T s.T hR.th id _)) ?_;rintro _ _ ⟨rfl,lT,hT,rfl⟩;refine Aj ?_;refine Bb (l':=Cy b p ⟨s.M,s.C,lA,s.H,lT,s.Q,s.E,s.V⟩ ⟨(Ar.addD R.A k z (f':Nat)).2,R.H,R.N,(Th.addD R.T id).2,R.Q,R.E⟩ ((X)++G)) (by unfold Cy;exact A8 []) ?_;refine⟨rfl,⟨s.M,s.C,lA,s.H,lT,s.Q,s.E,s.V⟩,X,?_,rfl⟩;exact⟨hR.mem,hR.co,hA,ts,hR.ho,hR.inv.mono Af,λj hj=>by have:=hR.giv j hj;simp only;omega,hT,hR.qu,λj hj=>BY (hR.ql j hj) Af,hR.en,hR.cu,hR.c1⟩
   by_cases h8:k=8
   ·have fL:(if 0<Ar.slotsD k z then((Hg R.H.1 id (Ar.slotsD k z)).2,R.H.2) else R.H)=R.H:=Ab hs;have QY:(if k=9 then(Th.addD R.T id).2 else R.T)=R.T:=Ab Af;have fM:(if k=8 then(En.addD R.E id).2 else R.E)=(En.addD R.E id).2:=Ac Af;rw[fL,QY,fM];refine Aj ?_;refine Bq (l':=CD b p::As.asA p.n R.N::(s.M++(s.C++(lA++(s.H++(s.T++(s.Q++(s.E++(s.V++(X++G)))))))))) (A8 []) ?_;refine Aj ?_;refine Bq (l':=s.E++(CD b p::As.asA p.n R.N::(s.M++(s.C++(lA++(s.H++(s.T++(s.Q++(s.V++(X++G)))))))))) (A8 []) ?_;refine AR (AA rfl rfl (En.add_any p.e R.E s.E id hR.en _)) ?_;rintro _ _ ⟨rfl,lE,hE,rfl⟩;refine Aj ?_;refine Bb (l':=Cy b p ⟨s.M,s.C,lA,s.H,s.T,s.Q,lE,s.V⟩ ⟨(Ar.addD R.A k z (f':Nat)).2,R.H,R.N,R.T,R.Q,(En.addD R.E id).2⟩ ((X)++G)) (by unfold Cy;exact A8 []) ?_;refine⟨rfl,⟨s.M,s.C,lA,s.H,s.T,s.Q,lE,s.V⟩,X,?_,rfl⟩;exact⟨hR.mem,hR.co,hA,ts,hR.ho,hR.inv.mono Af,λj hj=>by have:=hR.giv j hj;simp only;omega,hR.th,hR.qu,λj hj=>BY (hR.ql j hj) Af,hE,hR.cu,hR.c1⟩
   have fL:(if 0<Ar.slotsD k z then((Hg R.H.1 id (Ar.slotsD k z)).2,R.H.2) else R.H)=R.H:=Ab hs;have QY:(if k=9 then(Th.addD R.T id).2 else R.T)=R.T:=Ab Af;have fM:(if k=8 then(En.addD R.E id).2 else R.E)=R.E:=Ab Af;rw[fL,QY,fM];refine Aj ?_;refine Aj ?_;refine Bb (l':=Cy b p ⟨s.M,s.C,lA,s.H,s.T,s.Q,s.E,s.V⟩ ⟨(Ar.addD R.A k z (f':Nat)).2,R.H,R.N,R.T,R.Q,R.E⟩ ((X)++G)) (by unfold Cy;exact A8 []) ?_;refine⟨rfl,⟨s.M,s.C,lA,s.H,s.T,s.Q,s.E,s.V⟩,X,?_,rfl⟩;exact⟨hR.mem,hR.co,hA,ts,hR.ho,hR.inv.mono Af,λj hj=>by have:=hR.giv j hj;simp only;omega,hR.th,hR.qu,λj hj=>BY (hR.ql j hj) Af,hR.en,hR.cu,hR.c1⟩
 ·rw[Ab he] at jl;rw[jl];refine Aj ?_;exact BD [] rfl (l':=Cy b p ⟨s.M,s.C,lA,s.H,s.T,s.Q,s.E,s.V⟩ {R with A:=(Ar.addD R.A k z f).2} ([]++G)) (by unfold Cy;exact A8 []) (by exact Ba) ⟨rfl,_,_,(⟨hR.mem,hR.co,hA,ts,hR.ho,hR.inv,hR.giv,hR.th,hR.qu,hR.ql,hR.en,hR.cu,hR.c1⟩:IsRl F C n {R with A:=(Ar.addD R.A k z f).2} p ⟨s.M,s.C,lA,s.H,s.T,s.Q,s.E,s.V⟩).mono Af,rfl⟩
theorem Ua(b:Nat)(p:RP)(l:Ad)(hm:CD b p∈l):Fn prog 86 [pV b] l λv l'=>v=pV p.m/\l'=l:=by refine AO func86 ntmps86 λE=>?_;exact E4
theorem aQ(b:Nat)(p:RP)(l:Ad)(hm:CD b p∈l):Fn prog 99 [pV b] l λv l'=>v=pV p.c/\l'=l:=by refine AO func99 ntmps99 λE=>?_;exact E4
theorem aR(b:Nat)(p:RP)(l:Ad)(hm:CD b p∈l):Fn prog 101 [pV b] l λv l'=>v=pV p.q/\l'=l:=by refine AO func101 ntmps101 λE=>?_;exact E4
theorem VU(b:Nat)(p:RP)(l:Ad)(hm:CD b p∈l):Fn prog 262 [pV b] l λv l'=>v=pV p.e/\l'=l:=by refine AO func262 ntmps262 λE=>?_;exact E4
section
theorem WS(h:qZ A)(hs: ∀o,o∈A'.os-> ∃o',o'∈A.os/\o'.kd=o.kd/\o'.sz=o.sz):qZ A':=λo ho hk=>by obtain⟨q,h1,h2,h3⟩:=hs o ho;rw[<-h3];exact h q h1 (by rw[h2];exact hk)
theorem Sl(h:x∈Ar.insD os o):x=o\/x∈os:=by
 unfold Ar.insD at h;rcases AH.1 h with h|h
 ·exact .inr (List.takeWhile_subset _ h)
 ·rcases At.1 h with h|h
  ·exact .inl h
  ·exact .inr (List.dropWhile_subset _ h)
theorem dL(h:x∈os.set j o):x=o\/x∈os:=by
 rcases Cq h with h|h
 ·exact .inr h
 ·exact .inl h
theorem rp(h:qZ A)(kd sz fi:Int):qZ (Ar.addD A kd sz fi).2:=by
 unfold Ar.addD
 split
 ·rename_i he;intro o ho hk;rcases Sl ho with rfl|ho
  ·simp only[Ar.newO] at hk⊢;subst hk;unfold Ar.addE at he
   split at he
   ·omega
   rename_i hf;unfold Ar.framesD at hf;simp only[Ab (by decide:¬((2:Int)=1)),C6] at hf
   split at hf<;>first|omega|skip
   all_goals omega
  ·exact h o ho hk
 ·exact h
instance{kd sz fi:Int}:EK prog F C b p 137 [pV p.a,.int .i64 kd,.int .i64 sz,.int .i64 fi] k S k (.tuple #[iV (Ar.addD S.A kd sz fi).1.1,iV (Ar.addD S.A kd sz fi).1.2]) {S with A:=(Ar.addD S.A kd sz fi).2}:=⟨λs G h=>lfA h (Bd _) (by unfold Ar.addD;split<;>rfl) (rp h.rad kd sz fi) λG=>Ar.add_any p.a S.A s.A h.ar kd sz fi G⟩
instance{id:Int}:EK prog F C b p 366 [pV p.a,.int .i64 id] k S k (iV (Ar.dropD S.A id).1) {S with A:=(Ar.dropD S.A id).2}:=⟨λs G h=>lfA h (Bd _) (by unfold Ar.dropD;split<;>rfl) (WS h.rad λo ho=>by
 unfold Ar.dropD at ho;split at ho
 ·exact⟨o,E1 ho,rfl,rfl⟩
 ·exact⟨o,ho,rfl,rfl⟩) λG=>Ar.drop_any p.a S.A s.A h.ar id G⟩
theorem WT(h:Ar.atO os id=some j):os.getD j Ar.obO∈os:=A6 (Ar.atO_get h).1
instance{id m:Int}:EK prog F C b p 285 [pV p.a,.int .i64 id,.int .i64 m] k S k (iV (Ar.markD' S.A id m).1) {S with A:=(Ar.markD' S.A id m).2}:=⟨λs G h=>lfA h (Bd _) (by unfold Ar.markD';(repeat' split)<;>rfl) (WS h.rad λo ho=>by
 unfold Ar.markD' at ho
 split at ho
 case h_2=>exact⟨o,ho,rfl,rfl⟩
 rename_i hj
 split at ho
 ·exact⟨o,ho,rfl,rfl⟩
 split at ho
 ·exact⟨o,ho,rfl,rfl⟩
 rcases dL ho with rfl|ho
 ·exact⟨_,WT hj,rfl,rfl⟩
 ·exact⟨o,ho,rfl,rfl⟩) λG=>Ar.mark_any p.a S.A s.A h.ar id m G⟩
instance{id se pg lv:Int}:EK prog F C b p 295 [pV p.a,.int .i64 id,.int .i64 se,.int .i64 pg,.int .i64 lv] k S k (iV (Ar.placeD S.A id se pg lv).1) {S with A:=(Ar.placeD S.A id se pg lv).2}:=⟨λs G h=>lfA h (Bd _) (by unfold Ar.placeD;(repeat' split)<;>rfl) (WS h.rad λo ho=>by
 unfold Ar.placeD at ho
 split at ho
 case h_2=>exact⟨o,ho,rfl,rfl⟩
 rename_i hj
 split at ho
 ·exact⟨o,ho,rfl,rfl⟩
 split at ho
 ·exact⟨o,ho,rfl,rfl⟩
 rcases dL ho with rfl|ho
 ·exact⟨_,WT hj,rfl,rfl⟩
 ·exact⟨o,ho,rfl,rfl⟩) λG=>Ar.place_any p.a S.A s.A h.ar id se pg lv G⟩
instance{id n:Int}:EK prog F C b p 139 [pV p.h,.int .i64 id,.int .i64 n] (k+1) S k (iV (Hg S.H.1 id n).1) {S with H:=((Hg S.H.1 id n).2,S.H.2)}:=⟨λs G h=>rk h Af (λm hm=>(hm.add id n).mono Af) λm G hm _=>OX p.h S.H s.H h.ho id n G⟩
instance{id:Int}:EK prog F C b p 365 [pV p.h,.int .i64 id] k S k (iV (Hx S.H.1 id).1) {S with H:=((Hx S.H.1 id).2,S.H.2)}:=⟨λs G h=>rk h Af (λm hm=>(hm.drop id).mono Af) λm G hm _=>aD p.h S.H s.H h.ho id G⟩
instance{x y:Ck}{m:Int}:EK prog F C b p 145 [pV p.h,F4 x,F4 y,.int .i64 m] (k+1) S k (iV (Gp S.H x y (Eo (D5 S.H.1 x) m)).1) {S with H:=(Gp S.H x y (Eo (D5 S.H.1 x) m)).2}:=⟨λs G h=>rk h Af (λn hn=>(hn.der x y _ (Oe (hn.at x).2 m)).mono Af) λn G hn h9=>Mx p.h S.H n hn h9 s.H h.ho x y m G⟩
instance{x y:Ck}:EK prog F C b p 210 [pV p.h,F4 x,F4 y] k S k (iV (Jx S.H x y).1) {S with H:=(Jx S.H x y).2}:=⟨λs G h=>rk h Af (λn hn=>(hn.move x y).mono Af) λn G hn _=>gO p.h S.H n hn s.H h.ho x y G⟩
instance{x y:Ck}:EK prog F C b p 211 [pV p.h,F4 x,F4 y] k S k (iV (LI S.H x y).1) {S with H:=(LI S.H x y).2}:=⟨λs G h=>rk h Af (λn hn=>(hn.swap x y).mono Af) λn G hn _=>gP p.h S.H n hn s.H h.ho x y G⟩
instance{x:Ck}:EK prog F C b p 327 [pV p.h,F4 x] k S k (.tuple #[WQ (Eb S.H x).1.1,iV (Eb S.H x).1.2]) {S with H:=(Eb S.H x).2}:=⟨λs G h=>rk h Af (λn hn=>(hn.clear x).mono Af) λn G hn h9=>aE p.h S.H n hn h9 s.H h.ho x G⟩
instance{id:Int}:EK prog F C b p 147 [pV p.n,.int .i64 id] k S k (.tuple #[iV (As.addP S.N id).1,iV (As.addP S.N id).2.1]) {S with N:=(As.addP S.N id).2.2}:=⟨λs G h=>lfN h Af (λn hn=>by unfold As.addP;(repeat' split)<;>exact h.giv n hn) λG=>As.addPool_any p.n S.N id G⟩
instance{o r:Int}:EK prog F C b p 148 [pV p.n,.int .i64 o,.int .i64 r] (k+1) S k (.tuple #[iV (As.assignP S.N o r).1,iV (As.assignP S.N o r).2.1,iV (As.assignP S.N o r).2.2.1]) {S with N:=(As.assignP S.N o r).2.2.2}:=⟨λs G h=>lfN h Af (λn hn=>by
 have:=h.giv n hn;unfold As.assignP
 (repeat' split)<;>(try simp only[As.ASt.give,Qu.upd,As.upd])<;>(repeat' split)<;>(try subst_vars)<;>(try omega)) λG=>As.assign_any p.n S.N o r G λn hn=>by have:=h.giv n hn;omega⟩
instance{r:Int}:EK prog F C b p 385 [pV p.n,.int .i64 r] k S k (.tuple #[iV (As.unP S.N r).1,iV (As.unP S.N r).2.1]) {S with N:=(As.unP S.N r).2.2}:=⟨λs G h=>lfN h Af (λn hn=>by unfold As.unP;(repeat' split)<;>exact h.giv n hn) λG=>As.unassign_any p.n S.N r G⟩
theorem rq{u:Int}(h:En.OneAt D u):En.OneAt (En.removeD D t).2 u:=by
 unfold En.removeD
 split
 ·exact h
 ·rename_i x hx;refine dJ h λhu y hy SM=>?_;exact h y x hy (BK hx) SM (E1 hu)
theorem rr(h: ∀x,x∈D->x.2.1.length<=m): ∀x,x∈(En.removeD D t).2->x.2.1.length<=m:=by
 unfold En.removeD
 split
 ·exact h
 ·rename_i x hx;refine dK h ?_;have:=h x (BK hx);simp only[F7];split<;>omega
instance{t:Int}:EK prog F C b p 259 [pV p.e,.int .i64 t] k S k (.bool (En.removeD S.E t).1) {S with E:=(En.removeD S.E t).2}:=⟨λs G h=>lfE h Af (λy hy=>by have:=rr (m:=900-k) (λx hx=>by have:=h.el x hx;omega) y hy;have:=h.tl;omega) (λu=>rq (h.eo u)) λG=>En.remove_any p.e S.E s.E t h.en h.el9 (h.eo t) G⟩
instance{id:Int}:EK prog F C b p 263 [pV p.e,.int .i64 id] k S k (.tuple #[iV (En.firstD S.E id).1,.bool (En.firstD S.E id).2.1,.bool (En.firstD S.E id).2.2]) S:=⟨λs G h=>
 (En.first_any p.e S.E s.E id h.en h.el9 (Aw b p s S G) (mE λ_ h=>h)).re .refl λv l' ⟨h1,cs,h2⟩=>⟨Aw b p s S (cs++G),by rw[h2];exact .of_perm (Fi ..),h1,s,_,h,⟨cs,rfl⟩,rfl⟩⟩
end
section
instance:QF prog 136 [pV b] (Aw b p s S G) (pV p.a):=⟨λl hl=>T9 b p l (mR hl)⟩
instance:QF prog 143 [pV b] (Aw b p s S G) (pV p.h):=⟨λl hl=>DZ b p l (mR hl)⟩
instance:QF prog 146 [pV b] (Aw b p s S G) (pV p.n):=⟨λl hl=>K8 b p l (mR hl)⟩
instance:QF prog 94 [pV b] (Aw b p s S G) (pV p.t):=⟨λl hl=>M9 b p l (mR hl)⟩
instance:QF prog 86 [pV b] (Aw b p s S G) (pV p.m):=⟨λl hl=>Ua b p l (mR hl)⟩
instance:QF prog 99 [pV b] (Aw b p s S G) (pV p.c):=⟨λl hl=>aQ b p l (mR hl)⟩
instance:QF prog 101 [pV b] (Aw b p s S G) (pV p.q):=⟨λl hl=>aR b p l (mR hl)⟩
instance:QF prog 262 [pV b] (Aw b p s S G) (pV p.e):=⟨λl hl=>VU b p l (mR hl)⟩
instance{kd sz:Int}{l:Ad}:QF prog 50 [.int .i64 kd,.int .i64 sz] l (iV (Ar.framesD kd sz)):=⟨λl _=>Ar.frames_any kd sz l⟩
instance{kd sz:Int}{l:Ad}:QF prog 68 [.int .i64 kd,.int .i64 sz] l (iV (Ar.slotsD kd sz)):=⟨λl _=>Ar.slots_any kd sz l⟩
instance{c:CapT}{l:Ad}:QF prog 185 [WQ c] l (.bool (FD c)):=⟨λl _=>Io c l⟩
end
end Go.Proofs.YtlifcingifodfaaGreat
