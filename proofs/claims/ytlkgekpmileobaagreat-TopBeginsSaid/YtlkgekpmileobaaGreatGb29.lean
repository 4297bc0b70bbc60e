/- Laws that the statement's proof leans on (joined out of several texts). -/
import Derived.Test.YtlkgekpmileobaaGreatGb28
import Derived.Test.YtlkgekpmileobaaGreatGb26
import Derived.Test.YtlkgekpmileobaaGreatGb8
import Derived.Test.YtlkgekpmileobaaGreatGb23
import Derived.Test.YtlkgekpmileobaaGreatGb10
set_option linter.unusedVariables false
set_option linter.unusedSimpArgs false
namespace Go.Proofs.YtlkgekpmileobaaGreat
open Tryz
open Go.RowKit
set_option maxRecDepth 20000
variable{F C k b m j:Nat}{p:RP}{S:KT}{id t:Int}{s:RL}{D:En.DE}{G:List Ab}{L:Th.TL}{u:Th.ThT}{Y:List Int×Bool}{os:Ar.OL}{A' A:Ar.ArT}{o x:Ar.ObT}
abbrev iV(x:Int):Value:= .int .i64 x
abbrev Fp(s:CB):Value:= .agg (List.toArray (Cj s))
abbrev UH(c:CapT):Value:= .agg (List.toArray (BR c))
abbrev vn(o:Ar.ObT):Value:= .agg (List.toArray (Ar.obC o))
abbrev Er(S:KT)(id:Int):Th.ThT:=(Th.findH S.T id).getD Th.thZ
theorem IsK.tO(h:IsK F C k S p s)(id:Int):TW (Er S id):=by
 unfold Er;cases hf:Th.findH S.T id with
 |none=>exact⟨Lf,Lf⟩
 |some t=>exact(h.tw t (Th.findH_some hf).1).1
theorem IsK.tM(h:IsK F C k S p s)(hi:(Th.findH S.T id).isSome=true):Th.mayH (Er S id)=true/\(Er S id).id=id:=by
 unfold Er;cases hf:Th.findH S.T id with
 |none=>rw[hf] at hi;cases hi
 |some t=>exact⟨(h.tw t (Th.findH_some hf).1).2,(Th.findH_some hf).2⟩
theorem IsK.tG(h:IsK F C k S p s)(id:Int):(0<=(Er S id).gv/\(Er S id).gv<=4096)/\0<=(Er S id).inn/\(Er S id).inn<=4096:=by
 cases hi:(Th.findH S.T id).isSome with
 |true=>have:=(h.tM hi).1;unfold Th.mayH at this;simp only[AX,Br] at this;omega
 |false=>
  have:Er S id=Th.thZ:=by
   unfold Er;cases hf:Th.findH S.T id with
   |none=>rfl
   |some t=>rw[hf] at hi;cases hi
  rw[this];exact⟨⟨by decide,by decide⟩,by decide,by decide⟩
section
theorem IsK.small(h:IsK F C k S p s): ∃m,m+k<=900/\InvH S.H m/\S.H.1.length<=2000/\S.H.2.length<=1000:=let⟨m,h1,h2⟩:=h.inv;⟨m,h1,h2,(h2.small Af).1,(h2.small Af).2.1⟩
theorem IsK.el9(h:IsK F C k S p s): ∀x,x∈S.E->x.2.1.length<=1000000:=λx hx=>by have:=h.el x hx;omega
theorem IsK.ql9(h:IsK F C k S p s): ∀n,n<8->(S.Q n).length<=1000000:=λx hx=>by have:=h.ql x hx;omega
instance[h:IsK F C k S p s]{id:Int}:QF prog 96 [pV p.t,.int .i64 id] (Av b p s S G) (.tuple #[Th.thV (Er S id),.bool (Th.findH S.T id).isSome]):=⟨λl hl=>Th.get_any p.t S.T s.T h.th id l (mT hl)⟩
instance[h:IsK F C k S p s]{id:Int}:QF prog 261 [pV p.t,.int .i64 id] (Av b p s S G) (iV (Th.serverD S.T id)):=⟨λl hl=>Th.server_any p.t S.T s.T h.th (by have:=h.tl;omega) id l (mT hl)⟩
instance[h:IsK F C k S p s]{id:Int}:QF prog 113 [pV p.a,.int .i64 id] (Av b p s S G) (.tuple #[vn (Ar.getD' S.A id).1,.bool (Ar.getD' S.A id).2]):=⟨λl hl=>Ar.get_any p.a S.A s.A h.ar id l (mA hl)⟩
instance[h:IsK F C k S p s]{f:Int}:QF prog 182 [pV p.a,.int .i64 f] (Av b p s S G) (iV (Ar.nextD S.A f)):=⟨λl hl=>Ar.next_any p.a S.A s.A h.ar f l (mA hl)⟩
instance[h:IsK F C k S p s]{x:CB}:QF prog 166 [pV p.h,Fp x] (Av b p s S G) (.tuple #[UH (getD' S.H.1 x).1,iV (getD' S.H.1 x).2]):=⟨λl hl=>Im p.h S.H s.H h.ho x l (mH hl)⟩
instance[h:IsK F C k S p s]{i j:Int}:QF prog 166 [pV p.h,.agg (List.toArray [.int .i64 i,.int .i64 j])] (Av b p s S G) (.tuple #[UH (getD' S.H.1 (i,j)).1,iV (getD' S.H.1 (i,j)).2]):=⟨λl hl=>Im p.h S.H s.H h.ho (i,j) l (mH hl)⟩
theorem IsH.ulen{n:Nat}{H:HS}{lq:List Ab}(hq:IsH b H lq)(hI:InvH H n)(hn:n<=1000):(DC H.1).length<=32000:=by obtain⟨bs,bt,ls,lt,hb⟩:=hq;have h1:=Tx λx hx=>(hb.s.sz x hx).2;have h2:=(hI.small hn).1;omega
instance[h:IsK F C k S p s]{x:CB}:QF prog 327 [pV p.h,Fp x] (Av b p s S G) (.bool (KJ S.H x)):=⟨λl hl=>let⟨m,h1,h2⟩:=h.inv;XP p.h S.H m h2 Af s.H h.ho x (by have:=IsH.ulen h.ho h2 Af;omega) l (mH hl)⟩
instance[h:IsK F C k S p s]{r:Int}:QF prog 167 [pV p.n,.int .i64 r] (Av b p s S G) (.tuple #[iV (As.ofP S.N r).1,iV (As.ofP S.N r).2.1,.bool (As.ofP S.N r).2.2]):=⟨λl hl=>As.of_any p.n S.N r l (mN hl)⟩
instance[h:IsK F C k S p s]{r:Int}:QF prog 390 [pV p.n,.int .i64 r] (Av b p s S G) (.tuple #[iV (As.rootP S.N r).1,iV (As.rootP S.N r).2.1,.bool (As.rootP S.N r).2.2]):=⟨λl hl=>As.root_any p.n S.N r l (mN hl)⟩
instance[h:IsK F C k S p s]:QF prog 103 [pV p.q] (Av b p s S G) (.tuple #[iV (Qu.firstQ S.Q).1,.bool (Qu.firstQ S.Q).2]):=⟨λl hl=>Qu.first_any p.q S.Q s.Q h.qu l (mQ hl)⟩
end
section
variable{k':Nat}{f:Nat}{vs:List Value}{x:Value}
theorem tK{T':Th.TL}(hK:IsK F C k S p s)(hl:T'.length+k'<=900)(hw: ∀t,t∈T'->TW t/\Th.mayH t=true)(hk:k'<=k)(h: ∀G,Fn prog f vs (s.T++G) λv l'=>v=x/\ ∃lq',Th.IsX p.t T' lq'/\l'=lq'++G):Fn prog f vs (Av b p s S G) (KK F C b p k' x {S with T:=T'} G):=
 Fn.re (.of_perm (by unfold Av;exact Cc)) (h (Co b p::As.asA p.n S.N::(s.M++(s.C++(s.A++(s.H++(s.Q++(s.E++(s.V++G))))))))) λv l' ⟨h1,q,h2,h3⟩=>⟨Av b p {s with T:=q} {S with T:=T'} G,by rw[h3];unfold Av;exact AY [],h1,{s with T:=q},G,{hK.mono hk with th:=h2,tl:=hl,tw:=hw},.nil,rfl⟩
theorem sP(hK:IsK F C k S p s)(hk:k'<=k)(ha:A'.n=S.A.n)(hr:jS A')(h: ∀G,Fn prog f vs (s.A++G) λv l'=>v=x/\ ∃lq',Ar.IsA p.a A' lq'/\l'=lq'++G):Fn prog f vs (Av b p s S G) (KK F C b p k' x {S with A:=A'} G):=
 Fn.re (.of_perm (by unfold Av;exact Cc)) (h (Co b p::As.asA p.n S.N::(s.M++(s.C++(s.H++(s.T++(s.Q++(s.E++(s.V++G))))))))) λv l' ⟨h1,q,h2,h3⟩=>⟨Av b p {s with A:=q} {S with A:=A'} G,by rw[h3];unfold Av;exact AY [],h1,{s with A:=q},G,{hK.mono hk with ar:=h2,an:=ha.trans hK.an,rad:=hr},.nil,rfl⟩
theorem jZ{H':HS}(hK:IsK F C k S p s)(hk:k'<=k)(hi: ∀m,InvH S.H m->InvH H' (m+(k-k')))(h: ∀m G,InvH S.H m->m<=1000->Fn prog f vs (s.H++G) λv l'=>v=x/\ ∃lq',IsH p.h H' lq'/\l'=lq'++G):Fn prog f vs (Av b p s S G) (KK F C b p k' x {S with H:=H'} G):=by obtain⟨m,h1,h2⟩:=hK.inv;exact Fn.re (.of_perm (by unfold Av;exact Cc)) (h m (Co b p::As.asA p.n S.N::(s.M++(s.C++(s.A++(s.T++(s.Q++(s.E++(s.V++G)))))))) h2 Af) λv l' ⟨g1,q,g2,g3⟩=>⟨Av b p {s with H:=q} {S with H:=H'} G,by rw[g3];unfold Av;exact AY [],g1,{s with H:=q},G,{hK.mono hk with ho:=g2,inv:=⟨_,Af,hi m h2⟩},.nil,rfl⟩
theorem tL{Q':Nat->List Int}(hK:IsK F C k S p s)(hk:k'<=k)(hl: ∀n,n<8->(Q' n).length<=(S.Q n).length+(k-k'))(h: ∀G,Fn prog f vs (s.Q++G) λv l'=>v=x/\ ∃lq',Qu.IsQ p.q Q' lq'/\l'=lq'++G):Fn prog f vs (Av b p s S G) (KK F C b p k' x {S with Q:=Q'} G):=
 Fn.re (.of_perm (by unfold Av;exact Cc)) (h (Co b p::As.asA p.n S.N::(s.M++(s.C++(s.A++(s.H++(s.T++(s.E++(s.V++G))))))))) λv l' ⟨h1,q,h2,h3⟩=>⟨Av b p {s with Q:=q} {S with Q:=Q'} G,by rw[h3];unfold Av;exact AY [],h1,{s with Q:=q},G,{hK.mono hk with qu:=h2,ql:=λn hn=>by have:=hl n hn;have:=hK.ql n hn;show(Q' n).length+k'<=900;omega},.nil,rfl⟩
theorem tN{E':En.DE}(hK:IsK F C k S p s)(hk:k'<=k)(hl: ∀y,y∈E'->y.2.1.length+k'<=900)(ho: ∀t,En.OneAt E' t)(h: ∀G,Fn prog f vs (s.E++G) λv l'=>v=x/\ ∃lq',En.IsE p.e E' lq'/\l'=lq'++G):Fn prog f vs (Av b p s S G) (KK F C b p k' x {S with E:=E'} G):=
 Fn.re (.of_perm (by unfold Av;exact Cc)) (h (Co b p::As.asA p.n S.N::(s.M++(s.C++(s.A++(s.H++(s.T++(s.Q++(s.V++G))))))))) λv l' ⟨h1,q,h2,h3⟩=>⟨Av b p {s with E:=q} {S with E:=E'} G,by rw[h3];unfold Av;exact AY [],h1,{s with E:=q},G,{hK.mono hk with en:=h2,el:=hl,eo:=ho},.nil,rfl⟩
theorem tP{N':As.ASt}(hK:IsK F C k S p s)(hk:k'<=k)(hg: ∀n,n<32->0<=N'.given n/\N'.given n+k'<=900)(h: ∀G,Fn prog f vs (As.asA p.n S.N::G) λv l'=>v=x/\l'=As.asA p.n N'::G):Fn prog f vs (Av b p s S G) (KK F C b p k' x {S with N:=N'} G):=
 Fn.re (.of_perm (by unfold Av;exact Cc)) (h (Co b p::(s.M++(s.C++(s.A++(s.H++(s.T++(s.Q++(s.E++(s.V++G)))))))))) λv l' ⟨h1,h2⟩=>⟨Av b p s {S with N:=N'} G,by rw[h2];unfold Av;exact AY [],h1,_,G,{hK.mono hk with giv:=hg},.nil,rfl⟩
end
section
theorem fy(L:Th.TL)(t:Th.ThT):(Th.setD L t).2.length=L.length:=by unfold Th.setD Th.putH;split<;>simp
theorem fA(L:Th.TL)(t:Th.ThT):(Th.insH L t).length=L.length+1:=by unfold Th.insH;have:=BM List.length (BV (p:=λx:Th.ThT=>decide (x.id<t.id)) (l:=L));simp only[Ah,Bi] at this⊢;omega
abbrev tQ(L:Th.TL):Prop:= ∀t,t∈L->TW t/\Th.mayH t=true
theorem og{t:Th.ThT}(h:tQ L)(ht:TW t)(hu:u∈(Th.setD L t).2):TW u/\Th.mayH u=true:=by
 unfold Th.setD Th.putH at hu
 split at hu
 ·rename_i hm;obtain⟨y,hy,rfl⟩:=Au.1 hu
  split
  ·exact⟨ht,hm.2⟩
  ·exact h y hy
 ·exact h u hu
theorem oh(h:tQ L)(hu:u∈(Th.addD L id).2):TW u/\Th.mayH u=true:=by
 unfold Th.addD at hu
 split at hu
 ·exact h u hu
 rename_i h1
 split at hu
 ·exact h u hu
 unfold Th.insH at hu;rcases AF.1 hu with hu|hu
 ·exact h u (List.takeWhile_subset _ hu)
 ·rcases Aq.1 hu with rfl|hu
  ·exact⟨⟨Lf,Lf⟩,by unfold Th.mayH;simp;omega⟩
  ·exact h u (List.dropWhile_subset _ hu)
theorem j8(h:tQ L)(hu:u∈(Th.dropD L id).2):TW u/\Th.mayH u=true:=by
 unfold Th.dropD at hu
 split at hu
 ·exact h u (Cr.1 hu).1
 ·exact h u hu
instance{t:Th.ThT}[ht:TW t]:EK prog F C b p 97 [pV p.t,Th.thV t] k S k (iV (Th.setD S.T t).1) {S with T:=(Th.setD S.T t).2}:=⟨λs G h=>tK h (by rw[fy];exact h.tl) (λu hu=>og h.tw ht hu) (A5 _) λG=>Th.set_any p.t S.T s.T h.th t G⟩
instance{id:Int}:EK prog F C b p 368 [pV p.t,.int .i64 id] k S k (iV (Th.dropD S.T id).1) {S with T:=(Th.dropD S.T id).2}:=⟨λs G h=>tK h (by have:=h.tl;have:=C6 (λx:Th.ThT=>decide (x.id≠id)) S.T;unfold Th.dropD;split<;>(simp only;omega)) (λu hu=>j8 h.tw hu) Af λG=>Th.drop_any p.t S.T s.T h.th id G⟩
theorem UI{X:Nat->List Int}{q:Nat}{Y:List Int}(h:Y.length<=(X q).length+m)(n:Nat):(Qu.upd X q Y n).length<=(X n).length+m:=by
 unfold Qu.upd;split
 ·rename_i e;subst e;exact h
 ·omega
instance{id pr:Int}:EK prog F C b p 152 [pV p.q,.int .i64 id,.int .i64 pr] (k+1) S k (iV (Qu.addQ S.Q id pr).1) {S with Q:=(Qu.addQ S.Q id pr).2}:=⟨λs G h=>tL h Af (λn _=>by unfold Qu.addQ;(repeat' split);all_goals first|(exact UI (by rw[Ah,Bl];omega) n)|(simp only;omega)) λG=>Qu.add_any p.q S.Q s.Q id pr h.qu h.ql9 G⟩
instance{id:Int}:EK prog F C b p 153 [pV p.q,.int .i64 id] k S k (.bool (Qu.dropQ S.Q id).1) {S with Q:=(Qu.dropQ S.Q id).2}:=⟨λs G h=>tL h Af (λn _=>by unfold Qu.dropQ;split;exact UI (by rw[Ft];split<;>omega) n;simp) λG=>Qu.drop_any p.q S.Q s.Q id h.qu h.ql9 G⟩
theorem fB(X:Nat->List Int)(id:Int)(n:Nat):((Qu.backQ X id).2 n).length<=(X n).length:=by
 unfold Qu.backQ
 split
 ·rename_i q hq;have hm:id∈X q:=by unfold Qu.findP at hq;simpa using Ei hq
  have hi:=Gp hm;refine UI (m:=0) ?_ n;rw[Ah,Ft,Ae hi,Bl];omega
 ·simp
instance{id:Int}:EK prog F C b p 303 [pV p.q,.int .i64 id] k S k (.bool (Qu.backQ S.Q id).1) {S with Q:=(Qu.backQ S.Q id).2}:=⟨λs G h=>tL h Af (λn _=>by have:=fB S.Q id n;omega) λG=>Qu.back_any p.q S.Q s.Q id h.qu h.ql9 G⟩
theorem j9(h:En.OneAt D t):En.OneAt (En.addD D id).2 t:=by
 unfold En.addD
 repeat' split
 ·exact h
 ·exact h
 ·intro x y hx hy h1 h2;rcases AF.1 hx with hx|hx
  ·rcases AF.1 hy with hy|hy
   ·exact h x y hx hy h1 h2
   ·rw[AA.1 hy] at h2;cases h2
  ·rw[AA.1 hx] at h1;cases h1
instance{id:Int}:EK prog F C b p 142 [pV p.e,.int .i64 id] k S k (iV (En.addD S.E id).1) {S with E:=(En.addD S.E id).2}:=⟨λs G h=>tN h Af (λy hy=>by
 have h9:=h.tl;unfold En.addD at hy
 split at hy
 ·exact h.el y hy
 split at hy
 ·exact h.el y hy
 rcases AF.1 hy with hy|hy
 ·exact h.el y hy
 ·rw[AA.1 hy];simp;omega) (λt=>j9 (h.eo t)) λG=>En.add_any p.e S.E s.E id h.en G⟩
theorem Zs(h:En.OneAt D t)(hY:t∈Y.1-> ∀x,x∈D->t∈x.2.1->x.1=id):En.OneAt (En.updD D id Y) t:=by
 have key: ∀x,x∈En.updD D id Y->t∈x.2.1->(∃y,y∈D/\y.1=x.1/\t∈y.2.1)\/(x.1=id/\t∈Y.1):=λx hx ht=>by
  obtain⟨y,hy,rfl⟩:=Au.1 hx
  split at ht
  ·rename_i e;rw[Ae e];exact .inr ⟨e,ht⟩
  ·rename_i e;rw[Ac e];exact .inl ⟨y,hy,rfl,ht⟩
 intro x y hx hy h1 h2;rcases key x hx h1 with⟨a,a1,a2,a3⟩|⟨a2,a3⟩<;>rcases key y hy h2 with⟨c,c1,c2,c3⟩|⟨c2,c3⟩
 ·rw[<-a2,<-c2];exact h a c a1 c1 a3 c3
 ·rw[<-a2,c2];exact hY c3 a a1 a3
 ·rw[<-c2,a2];exact(hY a3 c c1 c3).symm
 ·rw[a2,c2]
theorem Zt(h: ∀x,x∈D->x.2.1.length<=m)(hY:Y.1.length<=m): ∀x,x∈En.updD D id Y->x.2.1.length<=m:=λx hx=>by
 obtain⟨y,hy,rfl⟩:=Au.1 hx
 split
 ·exact hY
 ·exact h y hy
theorem Wf(h:En.findD D id=some Y):(id,Y)∈D:=by
 unfold En.findD at h;obtain⟨x,h1,rfl⟩:=DJ.1 h;have:=Ei h1;have e:x.1=id:=by simpa using this
 rw[<-e];exact BN h1
instance{id t:Int}{sd:Bool}:EK prog F C b p 265 [pV p.e,.int .i64 id,.int .i64 t,.bool sd] (k+1) S k (iV (En.waitD S.E id t sd).1) {S with E:=(En.waitD S.E id t sd).2}:=⟨λs G h=>tN h Af (λy hy=>by
 have h9:=λy hy=>h.el y hy;unfold En.waitD at hy
 split at hy
 ·have:=h9 y hy;omega
 rename_i x hx
 split at hy
 ·have:=h9 y hy;omega
 split at hy
 ·have:=h9 y hy;omega
 split at hy
 ·have:=h9 y hy;omega
 have:=Zt (m:=900-k) (λx hx=>by have:=h9 x hx;omega) (by have:=h9 _ (Wf hx);simp at this⊢;omega) y hy;have:=h.tl;omega) (λu=>by
 unfold En.waitD
 split
 ·exact h.eo u
 rename_i x hx
 repeat' split
 any_goals exact h.eo u
 rename_i hn _;refine Zs (h.eo u) λhu y hy hy2=>?_;rcases AF.1 hu with hu|hu
 ·exact h.eo u y _ hy (Wf hx) hy2 hu
 ·rw[AA] at hu;subst hu;exact absurd (GU.2 ⟨y,hy,by simpa using hy2⟩) hn) λG=>En.wait_any p.e S.E s.E id t sd h.en h.el9 G⟩
end
theorem RQ(b:Nat)(p:RP)(l:List Ab)(hm:Co b p∈l):Fn prog 137 [pV b] l λv l'=>v=pV p.a/\l'=l:=by refine AO func137 ntmps137 λE=>?_;exact Es
theorem Dx(b:Nat)(p:RP)(l:List Ab)(hm:Co b p∈l):Fn prog 144 [pV b] l λv l'=>v=pV p.h/\l'=l:=by refine AO func144 ntmps144 λE=>?_;exact Es
theorem JZ(b:Nat)(p:RP)(l:List Ab)(hm:Co b p∈l):Fn prog 147 [pV b] l λv l'=>v=pV p.n/\l'=l:=by refine AO func147 ntmps147 λE=>?_;exact Es
theorem LI(b:Nat)(p:RP)(l:List Ab)(hm:Co b p∈l):Fn prog 95 [pV b] l λv l'=>v=pV p.t/\l'=l:=by refine AO func95 ntmps95 λE=>?_;exact Es
def IA(R:RT)(k s f:Int):(Int×Int)×RT:=
 if(Ar.addD R.A k s f).1.2=0 then
  (((Ar.addD R.A k s f).1.1,0),⟨(Ar.addD R.A k s f).2,(if 0<Ar.slotsD k s then((G4 R.H.1 (Ar.addD R.A k s f).1.1 (Ar.slotsD k s)).2,R.H.2) else R.H),R.N,(if k=9 then(Th.addD R.T (Ar.addD R.A k s f).1.1).2 else R.T),R.Q,(if k=8 then(En.addD R.E (Ar.addD R.A k s f).1.1).2 else R.E)⟩)
 else((0,(Ar.addD R.A k s f).1.2),{R with A:=(Ar.addD R.A k s f).2})
theorem rv(S:Ar.ArT)(k s f:Int):(Ar.addD S k s f).2.n=S.n:=by unfold Ar.addD;split<;>rfl
theorem ka{S:Ar.ArT}{k s f:Int}(h:(Ar.addD S k s f).1.2=0):0<=f/\f<=S.n-Ar.framesD k s/\1<=Ar.framesD k s:=by
 have h1:=Ar.frames_rng k s;unfold Ar.addD at h;by_cases h0:Ar.addE S k s f=0
 ·unfold Ar.addE at h0;by_cases h2:Ar.framesD k s=0
  ·rw[Ae h2] at h0;omega
  ·rw[Ac h2] at h0;by_cases h3:f<0\/f>S.n-Ar.framesD k s
   ·rw[Ae h3] at h0;omega
   ·omega
 ·rw[Ac h0] at h;exact absurd h h0
theorem IsRl.mono{R:RT}(h:IsRl F C k R p s)(hm:k<=m):IsRl F C m R p s:=
 ⟨h.mem,h.co,h.ar,h.an,h.ho,h.inv.mono hm,λn hn=>by have:=h.giv n hn;omega,h.th,h.qu,λn hn=>BW (h.ql n hn) hm,h.en,h.cu,h.c1⟩
set_option maxHeartbeats 4000000 in
theorem fC(F C n:Nat)(R:RT)(b:Nat)(p:RP)(s:RL)(hR:IsRl F C n R p s)(hn:n<=900)(k z f:Int)(G:List Ab):Fn prog 92 [pV b,.int .i64 k,.int .i64 z,.int .i64 f] (Cn b p s R G) λv l'=>
 v= .tuple #[.int .i64 (IA R k z f).1.1,.int .i64 (IA R k z f).1.2]/\ ∃s' X,IsRl F C (n+1) (IA R k z f).2 p s'/\l'=Cn b p s' (IA R k z f).2 (X++G):=by
 have hF:=hR.mem.2.1;refine AO func92 ntmps92 λE=>?_;unfold Cn;refine Aj ?_;refine AS (Az rfl rfl (RQ b p _ (.head _))) ?_;rintro _ _ ⟨rfl,rfl⟩;refine Aj ?_;refine Bk (l':=s.A++(Co b p::As.asA p.n R.N::(s.M++(s.C++(s.H++(s.T++(s.Q++(s.E++(s.V++G))))))))) (AY []) ?_;refine AS (Az rfl rfl (Ar.add_any p.a R.A s.A hR.ar k z f _)) ?_;rintro _ _ ⟨rfl,lA,hA,rfl⟩;refine Bk (l':=Co b p::As.asA p.n R.N::(s.M++(s.C++(lA++(s.H++(s.T++(s.Q++(s.E++(s.V++G))))))))) (AY []) ?_;obtain⟨id,hid⟩: ∃x,x=(Ar.addD R.A k z f).1.1:=⟨_,rfl⟩
 obtain⟨er,her⟩: ∃x,x=(Ar.addD R.A k z f).1.2:=⟨_,rfl⟩
 have hAn:(Ar.addD R.A k z f).2.n=F:=by rw[rv];exact hR.an
 rw[<-hid,<-her];have hmk:IA R k z f=if er=0 then((id,0),(⟨(Ar.addD R.A k z f).2,(if 0<Ar.slotsD k z then((G4 R.H.1 id (Ar.slotsD k z)).2,R.H.2) else R.H),R.N,(if k=9 then(Th.addD R.T id).2 else R.T),R.Q,(if k=8 then(En.addD R.E id).2 else R.E)⟩:RT)) else((0,er),{R with A:=(Ar.addD R.A k z f).2}):=by unfold IA;rw[<-hid,<-her]
 by_cases he:er=0
 ·rw[Ae he] at hmk;rw[hmk];obtain⟨r1,r2,r3⟩:=ka (her.symm.trans he);rw[hR.an] at r2;obtain⟨f',rfl⟩: ∃f':Nat,f=f':=⟨f.toNat,Af⟩
  obtain⟨fr,hfr⟩: ∃fr:Nat,Ar.framesD k z=fr:=⟨(Ar.framesD k z).toNat,Af⟩
  refine Aj ?_;by_cases h1:k=1
  ·have hs0:Ar.slotsD k z=0:=by unfold Ar.slotsD;rw[Ac Af,Ac Af]
   have hs:¬0<Ar.slotsD k z:=by omega
   have hH0:(if 0<Ar.slotsD k z then((G4 R.H.1 id (Ar.slotsD k z)).2,R.H.2) else R.H)=R.H:=Ac hs;have hT0:(if k=9 then(Th.addD R.T id).2 else R.T)=R.T:=Ac Af;have hE0:(if k=8 then(En.addD R.E id).2 else R.E)=R.E:=Ac Af;rw[hH0,hT0,hE0];refine Aj ?_;refine AS (Az rfl rfl (Ar.slots_any k z _)) ?_;rintro _ _ ⟨rfl,rfl⟩;refine Aj ?_;refine Aj ?_;refine A8 (l':=Cn b p ⟨s.M,s.C,lA,s.H,s.T,s.Q,s.E,s.V⟩ ⟨(Ar.addD R.A k z (f':Nat)).2,R.H,R.N,R.T,R.Q,R.E⟩ (([])++G)) (by unfold Cn;exact AY []) ?_;refine⟨rfl,⟨s.M,s.C,lA,s.H,s.T,s.Q,s.E,s.V⟩,[],?_,rfl⟩;exact⟨hR.mem,hR.co,hA,hAn,hR.ho,hR.inv.mono Af,λj hj=>by have:=hR.giv j hj;simp only;omega,hR.th,hR.qu,λj hj=>BW (hR.ql j hj) Af,hR.en,hR.cu,hR.c1⟩
  refine Aj ?_;refine DQ (l':=s.M++(Co b p::As.asA p.n R.N::(s.C++(lA++(s.H++(s.T++(s.Q++(s.E++(s.V++G))))))))) (AY []) ?_;refine Ce [8] 9 ([Co b p]) ?_ (hR:=(CM (Aa _ (.head _))));refine BI ?_;apply D7
  ·exact AK rfl rfl (λl hl=>Ar.frames_any k z l)
  ·rfl
  ·rfl
  ·rfl
  refine BI ?_;apply CE
  ·exact Az rfl rfl (by rw[hfr];exact aA p.m F f' fr s.M hR.mem Af Af _)
  ·rfl
  ·rfl
  ·rfl
  ·rintro _ _ ⟨_,X,rfl⟩;exact CM (Aa _ (Aa _ (.head _)))
  rintro _ _ ⟨rfl,X,rfl⟩;refine BI ?_;refine Aj ?_;refine AS (Az rfl rfl (Ar.slots_any k z _)) ?_;rintro _ _ ⟨rfl,rfl⟩;refine Aj ?_;by_cases hs:0<Ar.slotsD k z
  ·by_cases h9:k=9
   ·have hH0:(if 0<Ar.slotsD k z then((G4 R.H.1 id (Ar.slotsD k z)).2,R.H.2) else R.H)=((G4 R.H.1 id (Ar.slotsD k z)).2,R.H.2):=Ae hs;have hT0:(if k=9 then(Th.addD R.T id).2 else R.T)=(Th.addD R.T id).2:=Ae Af;have hE0:(if k=8 then(En.addD R.E id).2 else R.E)=R.E:=Ac Af;rw[hH0,hT0,hE0];refine Aj ?_;refine Bk (l':=Co b p::As.asA p.n R.N::(s.M++(s.C++(lA++(s.H++(s.T++(s.Q++(s.E++(s.V++(X++G)))))))))) (AY []) ?_;refine Aj ?_;refine Bk (l':=s.H++(Co b p::As.asA p.n R.N::(s.M++(s.C++(lA++(s.T++(s.Q++(s.E++(s.V++(X++G)))))))))) (AY []) ?_;refine AS (Az rfl rfl (Nl p.h R.H s.H hR.ho id (Ar.slotsD k z) _)) ?_;rintro _ _ ⟨rfl,lH,hH,rfl⟩;refine Bk (l':=Co b p::As.asA p.n R.N::(s.M++(s.C++(lA++(lH++(s.T++(s.Q++(s.E++(s.V++(X++G)))))))))) (AY []) ?_;refine Aj ?_;refine Bk (l':=s.T++(Co b p::As.asA p.n R.N::(s.M++(s.C++(lA++(lH++(s.Q++(s.E++(s.V++(X++G)))))))))) (AY []) ?_;refine AS (Az rfl rfl (Th.add_any p.t R.T s.T hR.th id _)) ?_;rintro _ _ ⟨rfl,lT,hT,rfl⟩;refine Aj ?_;refine A8 (l':=Cn b p ⟨s.M,s.C,lA,lH,lT,s.Q,s.E,s.V⟩ ⟨(Ar.addD R.A k z (f':Nat)).2,((G4 R.H.1 id (Ar.slotsD k z)).2,R.H.2),R.N,(Th.addD R.T id).2,R.Q,R.E⟩ ((X)++G)) (by unfold Cn;exact AY []) ?_;refine⟨rfl,⟨s.M,s.C,lA,lH,lT,s.Q,s.E,s.V⟩,X,?_,rfl⟩;exact⟨hR.mem,hR.co,hA,hAn,hH,hR.inv.add _ _,λj hj=>by have:=hR.giv j hj;simp only;omega,hT,hR.qu,λj hj=>BW (hR.ql j hj) Af,hR.en,hR.cu,hR.c1⟩
   by_cases h8:k=8
   ·have hH0:(if 0<Ar.slotsD k z then((G4 R.H.1 id (Ar.slotsD k z)).2,R.H.2) else R.H)=((G4 R.H.1 id (Ar.slotsD k z)).2,R.H.2):=Ae hs;have hT0:(if k=9 then(Th.addD R.T id).2 else R.T)=R.T:=Ac Af;have hE0:(if k=8 then(En.addD R.E id).2 else R.E)=(En.addD R.E id).2:=Ae Af;rw[hH0,hT0,hE0];refine Aj ?_;refine Bk (l':=Co b p::As.asA p.n R.N::(s.M++(s.C++(lA++(s.H++(s.T++(s.Q++(s.E++(s.V++(X++G)))))))))) (AY []) ?_;refine Aj ?_;refine Bk (l':=s.H++(Co b p::As.asA p.n R.N::(s.M++(s.C++(lA++(s.T++(s.Q++(s.E++(s.V++(X++G)))))))))) (AY []) ?_;refine AS (Az rfl rfl (Nl p.h R.H s.H hR.ho id (Ar.slotsD k z) _)) ?_;rintro _ _ ⟨rfl,lH,hH,rfl⟩;refine Bk (l':=Co b p::As.asA p.n R.N::(s.M++(s.C++(lA++(lH++(s.T++(s.Q++(s.E++(s.V++(X++G)))))))))) (AY []) ?_;refine Aj ?_;refine Bk (l':=s.E++(Co b p::As.asA p.n R.N::(s.M++(s.C++(lA++(lH++(s.T++(s.Q++(s.V++(X++G)))))))))) (AY []) ?_;refine AS (Az rfl rfl (En.add_any p.e R.E s.E id hR.en _)) ?_;rintro _ _ ⟨rfl,lE,hE,rfl⟩;refine Aj ?_;refine A8 (l':=Cn b p ⟨s.M,s.C,lA,lH,s.T,s.Q,lE,s.V⟩ ⟨(Ar.addD R.A k z (f':Nat)).2,((G4 R.H.1 id (Ar.slotsD k z)).2,R.H.2),R.N,R.T,R.Q,(En.addD R.E id).2⟩ ((X)++G)) (by unfold Cn;exact AY []) ?_;refine⟨rfl,⟨s.M,s.C,lA,lH,s.T,s.Q,lE,s.V⟩,X,?_,rfl⟩;exact⟨hR.mem,hR.co,hA,hAn,hH,hR.inv.add _ _,λj hj=>by have:=hR.giv j hj;simp only;omega,hR.th,hR.qu,λj hj=>BW (hR.ql j hj) Af,hE,hR.cu,hR.c1⟩
   have hH0:(if 0<Ar.slotsD k z then((G4 R.H.1 id (Ar.slotsD k z)).2,R.H.2) else R.H)=((G4 R.H.1 id (Ar.slotsD k z)).2,R.H.2):=Ae hs;have hT0:(if k=9 then(Th.addD R.T id).2 else R.T)=R.T:=Ac Af;have hE0:(if k=8 then(En.addD R.E id).2 else R.E)=R.E:=Ac Af;rw[hH0,hT0,hE0];refine Aj ?_;refine Bk (l':=Co b p::As.asA p.n R.N::(s.M++(s.C++(lA++(s.H++(s.T++(s.Q++(s.E++(s.V++(X++G)))))))))) (AY []) ?_;refine Aj ?_;refine Bk (l':=s.H++(Co b p::As.asA p.n R.N::(s.M++(s.C++(lA++(s.T++(s.Q++(s.E++(s.V++(X++G)))))))))) (AY []) ?_;refine AS (Az rfl rfl (Nl p.h R.H s.H hR.ho id (Ar.slotsD k z) _)) ?_;rintro _ _ ⟨rfl,lH,hH,rfl⟩;refine Aj ?_;refine A8 (l':=Cn b p ⟨s.M,s.C,lA,lH,s.T,s.Q,s.E,s.V⟩ ⟨(Ar.addD R.A k z (f':Nat)).2,((G4 R.H.1 id (Ar.slotsD k z)).2,R.H.2),R.N,R.T,R.Q,R.E⟩ ((X)++G)) (by unfold Cn;exact AY []) ?_;refine⟨rfl,⟨s.M,s.C,lA,lH,s.T,s.Q,s.E,s.V⟩,X,?_,rfl⟩;exact⟨hR.mem,hR.co,hA,hAn,hH,hR.inv.add _ _,λj hj=>by have:=hR.giv j hj;simp only;omega,hR.th,hR.qu,λj hj=>BW (hR.ql j hj) Af,hR.en,hR.cu,hR.c1⟩
  ·by_cases h9:k=9
   ·have hH0:(if 0<Ar.slotsD k z then((G4 R.H.1 id (Ar.slotsD k z)).2,R.H.2) else R.H)=R.H:=Ac hs;have hT0:(if k=9 then(Th.addD R.T id).2 else R.T)=(Th.addD R.T id).2:=Ae Af;have hE0:(if k=8 then(En.addD R.E id).2 else R.E)=R.E:=Ac Af;rw[hH0,hT0,hE0];refine Aj ?_;refine Bk (l':=Co b p::As.asA p.n R.N::(s.M++(s.C++(lA++(s.H++(s.T++(s.Q++(s.E++(s.V++(X++G)))))))))) (AY []) ?_;refine Aj ?_;refine Bk (l':=s.T++(Co b p::As.asA p.n R.N::(s.M++(s.C++(lA++(s.H++(s.Q++(s.E++(s.V++(X++G)))))))))) (AY []) ?_;refine AS (Az rfl rfl (Th.add_any p.t R.T s.T hR.th id _)) ?_;rintro _ _ ⟨rfl,lT,hT,rfl⟩;refine Aj ?_;refine A8 (l':=Cn b p ⟨s.M,s.C,lA,s.H,lT,s.Q,s.E,s.V⟩ ⟨(Ar.addD R.A k z (f':Nat)).2,R.H,R.N,(Th.addD R.T id).2,R.Q,R.E⟩ ((X)++G)) (by unfold Cn;exact AY []) ?_;refine⟨rfl,⟨s.M,s.C,lA,s.H,lT,s.Q,s.E,s.V⟩,X,?_,rfl⟩;exact⟨hR.mem,hR.co,hA,hAn,hR.ho,hR.inv.mono Af,λj hj=>by have:=hR.giv j hj;simp only;omega,hT,hR.qu,λj hj=>BW (hR.ql j hj) Af,hR.en,hR.cu,hR.c1⟩
   by_cases h8:k=8
   ·have hH0:(if 0<Ar.slotsD k z then((G4 R.H.1 id (Ar.slotsD k z)).2,R.H.2) else R.H)=R.H:=Ac hs;have hT0:(if k=9 then(Th.addD R.T id).2 else R.T)=R.T:=Ac Af;have hE0:(if k=8 then(En.addD R.E id).2 else R.E)=(En.addD R.E id).2:=Ae Af;rw[hH0,hT0,hE0];refine Aj ?_;refine Bk (l':=Co b p::As.asA p.n R.N::(s.M++(s.C++(lA++(s.H++(s.T++(s.Q++(s.E++(s.V++(X++G)))))))))) (AY []) ?_;refine Aj ?_;refine Bk (l':=s.E++(Co b p::As.asA p.n R.N::(s.M++(s.C++(lA++(s.H++(s.T++(s.Q++(s.V++(X++G)))))))))) (AY []) ?_;refine AS (Az rfl rfl (En.add_any p.e R.E s.E id hR.en _)) ?_;rintro _ _ ⟨rfl,lE,hE,rfl⟩;refine Aj ?_;refine A8 (l':=Cn b p ⟨s.M,s.C,lA,s.H,s.T,s.Q,lE,s.V⟩ ⟨(Ar.addD R.A k z (f':Nat)).2,R.H,R.N,R.T,R.Q,(En.addD R.E id).2⟩ ((X)++G)) (by unfold Cn;exact AY []) ?_;refine⟨rfl,⟨s.M,s.C,lA,s.H,s.T,s.Q,lE,s.V⟩,X,?_,rfl⟩;exact⟨hR.mem,hR.co,hA,hAn,hR.ho,hR.inv.mono Af,λj hj=>by have:=hR.giv j hj;simp only;omega,hR.th,hR.qu,λj hj=>BW (hR.ql j hj) Af,hE,hR.cu,hR.c1⟩
   have hH0:(if 0<Ar.slotsD k z then((G4 R.H.1 id (Ar.slotsD k z)).2,R.H.2) else R.H)=R.H:=Ac hs;have hT0:(if k=9 then(Th.addD R.T id).2 else R.T)=R.T:=Ac Af;have hE0:(if k=8 then(En.addD R.E id).2 else R.E)=R.E:=Ac Af;rw[hH0,hT0,hE0];refine Aj ?_;refine Aj ?_;refine A8 (l':=Cn b p ⟨s.M,s.C,lA,s.H,s.T,s.Q,s.E,s.V⟩ ⟨(Ar.addD R.A k z (f':Nat)).2,R.H,R.N,R.T,R.Q,R.E⟩ ((X)++G)) (by unfold Cn;exact AY []) ?_;refine⟨rfl,⟨s.M,s.C,lA,s.H,s.T,s.Q,s.E,s.V⟩,X,?_,rfl⟩;exact⟨hR.mem,hR.co,hA,hAn,hR.ho,hR.inv.mono Af,λj hj=>by have:=hR.giv j hj;simp only;omega,hR.th,hR.qu,λj hj=>BW (hR.ql j hj) Af,hR.en,hR.cu,hR.c1⟩
 ·rw[Ac he] at hmk;rw[hmk];refine Aj ?_;exact By [] rfl (l':=Cn b p ⟨s.M,s.C,lA,s.H,s.T,s.Q,s.E,s.V⟩ {R with A:=(Ar.addD R.A k z f).2} ([]++G)) (by unfold Cn;exact AY []) (by exact A7) ⟨rfl,_,_,(⟨hR.mem,hR.co,hA,hAn,hR.ho,hR.inv,hR.giv,hR.th,hR.qu,hR.ql,hR.en,hR.cu,hR.c1⟩:IsRl F C n {R with A:=(Ar.addD R.A k z f).2} p ⟨s.M,s.C,lA,s.H,s.T,s.Q,s.E,s.V⟩).mono Af,rfl⟩
theorem Wg(b:Nat)(p:RP)(l:List Ab)(hm:Co b p∈l):Fn prog 87 [pV b] l λv l'=>v=pV p.m/\l'=l:=by refine AO func87 ntmps87 λE=>?_;exact Es
theorem XX(b:Nat)(p:RP)(l:List Ab)(hm:Co b p∈l):Fn prog 100 [pV b] l λv l'=>v=pV p.c/\l'=l:=by refine AO func100 ntmps100 λE=>?_;exact Es
theorem XY(b:Nat)(p:RP)(l:List Ab)(hm:Co b p∈l):Fn prog 102 [pV b] l λv l'=>v=pV p.q/\l'=l:=by refine AO func102 ntmps102 λE=>?_;exact Es
theorem TM(b:Nat)(p:RP)(l:List Ab)(hm:Co b p∈l):Fn prog 263 [pV b] l λv l'=>v=pV p.e/\l'=l:=by refine AO func263 ntmps263 λE=>?_;exact Es
section
theorem UJ(h:jS A)(hs: ∀o,o∈A'.os-> ∃o',o'∈A.os/\o'.kd=o.kd/\o'.sz=o.sz):jS A':=λo ho hk=>by obtain⟨q,h1,h2,h3⟩:=hs o ho;rw[<-h3];exact h q h1 (by rw[h2];exact hk)
theorem Qi(h:x∈Ar.insD os o):x=o\/x∈os:=by
 unfold Ar.insD at h;rcases AF.1 h with h|h
 ·exact .inr (List.takeWhile_subset _ h)
 ·rcases Aq.1 h with h|h
  ·exact .inl h
  ·exact .inr (List.dropWhile_subset _ h)
theorem Zu(h:x∈os.set j o):x=o\/x∈os:=by
 rcases Ek h with h|h
 ·exact .inr h
 ·exact .inl h
theorem kc(h:jS A)(kd sz fi:Int):jS (Ar.addD A kd sz fi).2:=by
 unfold Ar.addD
 split
 ·rename_i he;intro o ho hk;rcases Qi ho with rfl|ho
  ·simp only[Ar.newO] at hk⊢;subst hk;unfold Ar.addE at he
   split at he
   ·omega
   rename_i hf;unfold Ar.framesD at hf;simp only[Ac (by decide:¬((2:Int)=1)),CT] at hf
   split at hf<;>first|omega|skip
   all_goals omega
  ·exact h o ho hk
 ·exact h
instance{kd sz fi:Int}:EK prog F C b p 138 [pV p.a,.int .i64 kd,.int .i64 sz,.int .i64 fi] k S k (.tuple #[iV (Ar.addD S.A kd sz fi).1.1,iV (Ar.addD S.A kd sz fi).1.2]) {S with A:=(Ar.addD S.A kd sz fi).2}:=⟨λs G h=>sP h (A5 _) (by unfold Ar.addD;split<;>rfl) (kc h.rad kd sz fi) λG=>Ar.add_any p.a S.A s.A h.ar kd sz fi G⟩
instance{id:Int}:EK prog F C b p 367 [pV p.a,.int .i64 id] k S k (iV (Ar.dropD S.A id).1) {S with A:=(Ar.dropD S.A id).2}:=⟨λs G h=>sP h (A5 _) (by unfold Ar.dropD;split<;>rfl) (UJ h.rad λo ho=>by
 unfold Ar.dropD at ho;split at ho
 ·exact⟨o,Hm ho,rfl,rfl⟩
 ·exact⟨o,ho,rfl,rfl⟩) λG=>Ar.drop_any p.a S.A s.A h.ar id G⟩
theorem UK(h:Ar.atO os id=some j):os.getD j Ar.obO∈os:=A9 (Ar.atO_get h).1
instance{id m:Int}:EK prog F C b p 286 [pV p.a,.int .i64 id,.int .i64 m] k S k (iV (Ar.markD' S.A id m).1) {S with A:=(Ar.markD' S.A id m).2}:=⟨λs G h=>sP h (A5 _) (by unfold Ar.markD';(repeat' split)<;>rfl) (UJ h.rad λo ho=>by
 unfold Ar.markD' at ho
 split at ho
 case h_2=>exact⟨o,ho,rfl,rfl⟩
 rename_i hj
 split at ho
 ·exact⟨o,ho,rfl,rfl⟩
 split at ho
 ·exact⟨o,ho,rfl,rfl⟩
 rcases Zu ho with rfl|ho
 ·exact⟨_,UK hj,rfl,rfl⟩
 ·exact⟨o,ho,rfl,rfl⟩) λG=>Ar.mark_any p.a S.A s.A h.ar id m G⟩
instance{id se pg lv:Int}:EK prog F C b p 296 [pV p.a,.int .i64 id,.int .i64 se,.int .i64 pg,.int .i64 lv] k S k (iV (Ar.placeD S.A id se pg lv).1) {S with A:=(Ar.placeD S.A id se pg lv).2}:=⟨λs G h=>sP h (A5 _) (by unfold Ar.placeD;(repeat' split)<;>rfl) (UJ h.rad λo ho=>by
 unfold Ar.placeD at ho
 split at ho
 case h_2=>exact⟨o,ho,rfl,rfl⟩
 rename_i hj
 split at ho
 ·exact⟨o,ho,rfl,rfl⟩
 split at ho
 ·exact⟨o,ho,rfl,rfl⟩
 rcases Zu ho with rfl|ho
 ·exact⟨_,UK hj,rfl,rfl⟩
 ·exact⟨o,ho,rfl,rfl⟩) λG=>Ar.place_any p.a S.A s.A h.ar id se pg lv G⟩
instance{id n:Int}:EK prog F C b p 140 [pV p.h,.int .i64 id,.int .i64 n] (k+1) S k (iV (G4 S.H.1 id n).1) {S with H:=((G4 S.H.1 id n).2,S.H.2)}:=⟨λs G h=>jZ h Af (λm hm=>(hm.add id n).mono Af) λm G hm _=>Nl p.h S.H s.H h.ho id n G⟩
instance{id:Int}:EK prog F C b p 366 [pV p.h,.int .i64 id] k S k (iV (Iz S.H.1 id).1) {S with H:=((Iz S.H.1 id).2,S.H.2)}:=⟨λs G h=>jZ h Af (λm hm=>(hm.drop id).mono Af) λm G hm _=>XK p.h S.H s.H h.ho id G⟩
instance{x y:CB}{m:Int}:EK prog F C b p 146 [pV p.h,Fp x,Fp y,.int .i64 m] (k+1) S k (iV (Gi S.H x y (Ej (DH S.H.1 x) m)).1) {S with H:=(Gi S.H x y (Ej (DH S.H.1 x) m)).2}:=⟨λs G h=>jZ h Af (λn hn=>(hn.der x y _ (MK (hn.at x).2 m)).mono Af) λn G hn h9=>Ld p.h S.H n hn h9 s.H h.ho x y m G⟩
instance{x y:CB}:EK prog F C b p 211 [pV p.h,Fp x,Fp y] k S k (iV (Jo S.H x y).1) {S with H:=(Jo S.H x y).2}:=⟨λs G h=>jZ h Af (λn hn=>(hn.move x y).mono Af) λn G hn _=>aY p.h S.H n hn s.H h.ho x y G⟩
instance{x y:CB}:EK prog F C b p 212 [pV p.h,Fp x,Fp y] k S k (iV (LY S.H x y).1) {S with H:=(LY S.H x y).2}:=⟨λs G h=>jZ h Af (λn hn=>(hn.swap x y).mono Af) λn G hn _=>aZ p.h S.H n hn s.H h.ho x y G⟩
instance{x:CB}:EK prog F C b p 328 [pV p.h,Fp x] k S k (.tuple #[UH (DR S.H x).1.1,iV (DR S.H x).1.2]) {S with H:=(DR S.H x).2}:=⟨λs G h=>jZ h Af (λn hn=>(hn.clear x).mono Af) λn G hn h9=>XL p.h S.H n hn h9 s.H h.ho x G⟩
instance{id:Int}:EK prog F C b p 148 [pV p.n,.int .i64 id] k S k (.tuple #[iV (As.addP S.N id).1,iV (As.addP S.N id).2.1]) {S with N:=(As.addP S.N id).2.2}:=⟨λs G h=>tP h Af (λn hn=>by unfold As.addP;(repeat' split)<;>exact h.giv n hn) λG=>As.addPool_any p.n S.N id G⟩
instance{o r:Int}:EK prog F C b p 149 [pV p.n,.int .i64 o,.int .i64 r] (k+1) S k (.tuple #[iV (As.assignP S.N o r).1,iV (As.assignP S.N o r).2.1,iV (As.assignP S.N o r).2.2.1]) {S with N:=(As.assignP S.N o r).2.2.2}:=⟨λs G h=>tP h Af (λn hn=>by
 have:=h.giv n hn;unfold As.assignP
 (repeat' split)<;>(try simp only[As.ASt.give,Qu.upd,As.upd])<;>(repeat' split)<;>(try subst_vars)<;>(try omega)) λG=>As.assign_any p.n S.N o r G λn hn=>by have:=h.giv n hn;omega⟩
instance{r:Int}:EK prog F C b p 386 [pV p.n,.int .i64 r] k S k (.tuple #[iV (As.unP S.N r).1,iV (As.unP S.N r).2.1]) {S with N:=(As.unP S.N r).2.2}:=⟨λs G h=>tP h Af (λn hn=>by unfold As.unP;(repeat' split)<;>exact h.giv n hn) λG=>As.unassign_any p.n S.N r G⟩
theorem kh{u:Int}(h:En.OneAt D u):En.OneAt (En.removeD D t).2 u:=by
 unfold En.removeD
 split
 ·exact h
 ·rename_i x hx;refine Zs h λhu y hy hy2=>?_;exact h y x hy (BN hx) hy2 (Hm hu)
theorem kj(h: ∀x,x∈D->x.2.1.length<=m): ∀x,x∈(En.removeD D t).2->x.2.1.length<=m:=by
 unfold En.removeD
 split
 ·exact h
 ·rename_i x hx;refine Zt h ?_;have:=h x (BN hx);simp only[Ft];split<;>omega
instance{t:Int}:EK prog F C b p 260 [pV p.e,.int .i64 t] k S k (.bool (En.removeD S.E t).1) {S with E:=(En.removeD S.E t).2}:=⟨λs G h=>tN h Af (λy hy=>by have:=kj (m:=900-k) (λx hx=>by have:=h.el x hx;omega) y hy;have:=h.tl;omega) (λu=>kh (h.eo u)) λG=>En.remove_any p.e S.E s.E t h.en h.el9 (h.eo t) G⟩
instance{id:Int}:EK prog F C b p 264 [pV p.e,.int .i64 id] k S k (.tuple #[iV (En.firstD S.E id).1,.bool (En.firstD S.E id).2.1,.bool (En.firstD S.E id).2.2]) S:=⟨λs G h=>
 (En.first_any p.e S.E s.E id h.en h.el9 (Av b p s S G) (mE λ_ h=>h)).re .refl λv l' ⟨h1,cs,h2⟩=>⟨Av b p s S (cs++G),by rw[h2];exact .of_perm (EF ..),h1,s,_,h,⟨cs,rfl⟩,rfl⟩⟩
end
section
instance:QF prog 137 [pV b] (Av b p s S G) (pV p.a):=⟨λl hl=>RQ b p l (mR hl)⟩
instance:QF prog 144 [pV b] (Av b p s S G) (pV p.h):=⟨λl hl=>Dx b p l (mR hl)⟩
instance:QF prog 147 [pV b] (Av b p s S G) (pV p.n):=⟨λl hl=>JZ b p l (mR hl)⟩
instance:QF prog 95 [pV b] (Av b p s S G) (pV p.t):=⟨λl hl=>LI b p l (mR hl)⟩
instance:QF prog 87 [pV b] (Av b p s S G) (pV p.m):=⟨λl hl=>Wg b p l (mR hl)⟩
instance:QF prog 100 [pV b] (Av b p s S G) (pV p.c):=⟨λl hl=>XX b p l (mR hl)⟩
instance:QF prog 102 [pV b] (Av b p s S G) (pV p.q):=⟨λl hl=>XY b p l (mR hl)⟩
instance:QF prog 263 [pV b] (Av b p s S G) (pV p.e):=⟨λl hl=>TM b p l (mR hl)⟩
instance{kd sz:Int}{l:List Ab}:QF prog 51 [.int .i64 kd,.int .i64 sz] l (iV (Ar.framesD kd sz)):=⟨λl _=>Ar.frames_any kd sz l⟩
instance{kd sz:Int}{l:List Ab}:QF prog 69 [.int .i64 kd,.int .i64 sz] l (iV (Ar.slotsD kd sz)):=⟨λl _=>Ar.slots_any kd sz l⟩
instance{c:CapT}{l:List Ab}:QF prog 186 [UH c] l (.bool (E5 c)):=⟨λl _=>Hq c l⟩
end
end Go.Proofs.YtlkgekpmileobaaGreat
