/- Laws that the statement's proof leans on (joined out of several texts). -/
import Derived.Test.YtlkgekpmileobaaGreatGb8
import Derived.Test.YtlkgekpmileobaaGreatGb47
import Derived.Test.YtlkgekpmileobaaGreatGb10
set_option linter.unusedVariables false
set_option linter.unusedSimpArgs false
namespace Go.Proofs.YtlkgekpmileobaaGreat
open Tryz
open List(toArray)
open Go.RowKit
set_option maxRecDepth 20000
variable{f:FoT}{c:Nz}{k i:Nat}{o:IO}{cn x:Int}{l A:List Ab}{α:Type}{L:List FoT}{a b:Ab}{ws:List Value}
section
variable{P:Program}{ro:Option Nat}{N:Nat}{E:World}{Q Q2:Exit->Act->World->Prop}{Q1:Act->World->Prop}{c:Code}{fr:Fr}{ds:List Deferred}
def nl(N:Nat)(E:World){α:Type}(fx:α->Fr)(dx:α->List Deferred)(lx:α->List Ab)(pre:α->Prop)(a:Act)(W:World):Prop:=
 ∃y,pre y/\FSat N (fx y) a/\a.defers=dx y/\Sat E (lx y) W
theorem pH(fx:α->Fr)(dx:α->List Deferred)(lx:α->List Ab)(pre:α->Prop)(h1:BF P ro N E c (Exit.then (nl N E fx dx lx pre) Q2) fr ds l)(h2: ∀x,pre x->CH N E (Exit.then Q1 Q2) .normal (fx x) (dx x) (lx x)):BF P ro N E c (Exit.then Q1 Q2) fr ds l:=
 ⟨λa W hf hds hs=>wpIn_mono (h1.run a W hf hds hs) λe a' W' h=>by
   cases e with
   |normal=>obtain⟨y,h3,h4,h5,h6⟩:=h;exact(h2 y h3).run a' W' h4 h5 h6
   |_=>exact h⟩
theorem Z7{fx:α->Fr}{dx:α->List Deferred}{lx:α->List Ab}{pre:α->Prop}(y:α)(h1:pre y)(h2:ds=dx y)(h3:FSub (fx y) fr)(h4:Keep l (lx y)):CH N E (Exit.then (nl N E fx dx lx pre) Q) .normal fr ds l:=
 ⟨λa W hf hds hs=>⟨y,h1,hf.sub h3.spec,hds.trans h2,h4.sat hs⟩⟩
end
abbrev Hh(B:Nat)(o:IO):Ab:=(B,.cells (toArray (P7 o)) 57 (0,0))
abbrev N8(B:Nat)(x:Int):Ab:=(B,.cells (toArray [iV x]) 29 (0,0))
theorem lI{c d:Ab}:(A++(a::b::c::d::l)).Perm (a::b::c::d::(A++l)):=Cc
theorem Z8{enc:α->List Value}(hk: ∀x,(enc x).length=k){xs:List α}{x:α}(h:xs[i]?=some x)(sp:List Value):i*k+k<=(toArray (xs.flatMap enc++sp)).size/\(toArray (xs.flatMap enc++sp)).extract (i*k) (i*k+k)=toArray (enc x):=by obtain⟨h1,h2⟩:=JN hk sp xs i x h;refine⟨by rw[Bm];exact h2,?_⟩;rw[Fs,Cx,CP];exact BM toArray h1
theorem uj(h:k<6):(List.range 6).drop k=k::(List.range 6).drop (k+1):=by
 have:k=0\/k=1\/k=2\/k=3\/k=4\/k=5:=by omega
 rcases this with rfl|rfl|rfl|rfl|rfl|rfl<;>rfl
theorem Z9(c:Nz)(gb n m:Nat):(WP c gb n m).length=m:=by unfold WP;simp
theorem pI{gb n:Nat}{pre:List (Int×Value)}{x:Int×Value}(h:pre++[x]<+:WP c gb n 6):pre.length<6/\(Gj c).getD pre.length 0=x.1/\(if pre.length<n then .pointer (some ⟨gb,pre.length*4,none⟩) else .pointer none)=x.2:=by have hl:=h.length_le;rw[Z9,Ah,Bl] at hl;have h2:=HM.1 h;rw[WQ c gb n (by simp;omega),Ah,Bl,Sj] at h2;obtain⟨h3,h4⟩:=IF h2 rfl;have h5:=List.singleton_inj.1 h4;rw[h5];exact⟨Af,rfl,rfl⟩
theorem im{op:Int}(h:OY op=some L):1<=op/\op<=23:=by
 by_cases hr:1<=op/\op<=23
 ·exact hr
 ·exfalso;unfold OY at h
  repeat rw[Ac Af] at h
  cases h
theorem O0(c:Nz)(L:List FoT)(i:Nat)(r:List Nat)(o:IO)(cn e:Int):Vj c L (i::r) o cn e=match L[i]? with
 |none=>if(Gj c).getD i 0=0 then Vj c L r o cn e else((o,cn),2)
 |some f=>if(Gj c).getD i 0<f.le\/f.mo<(Gj c).getD i 0 then Vj c L r o cn 3 else Vj c L r (Gt o cn f ((Gj c).getD i 0)).1 (Gt o cn f ((Gj c).getD i 0)).2 e:=rfl
theorem io(h:M8 f=true)(ha:f.at'=some i):(f.wd=true/\(i=7\/i=8\/i=9\/i=10\/i=11))\/(f.wd=false/\(i=1\/i=2\/i=4\/i=5\/i=6)):=by
 unfold M8 at h;rw[ha] at h;dsimp only at h;cases hw:f.wd
 ·rw[hw] at h;simp at h;exact .inr ⟨rfl,Af⟩
 ·rw[hw] at h;simp at h;exact .inl ⟨rfl,Af⟩
theorem nm(h:M8 f=true)(ha:f.at'=none):f.wd=false:=by
 unfold M8 at h;rw[ha] at h;dsimp only at h;cases hw:f.wd
 ·rfl
 ·rw[hw] at h;simp at h
theorem iq(h:M8 f=true)(hw:f.wd=false):0<=f.le/\f.mo<=1000000:=by
 unfold M8 at h;rw[hw] at h;cases ha:f.at' with
 |none=>rw[ha] at h;simp only[Ib,Bn,AX,Br] at h;exact h
 |some i=>rw[ha] at h;dsimp only at h;rw[Ac AW] at h;simp only[AX,Br] at h;exact⟨h.1.2,h.2⟩
def DcB(o:IO)(cn:Int):Prop:=(0<=cn/\cn<=1000000)/\(0<=o.n2/\o.n2<=1000000)
theorem DcB.put(h:DcB o cn)(hf:M8 f=true)(h1:¬(x<f.le\/f.mo<x)):DcB (Gt o cn f x).1 (Gt o cn f x).2:=by
 obtain⟨h2,h3⟩:=h;unfold M8 at hf;unfold Gt;cases ha:f.at' with
 |none=>rw[ha] at hf;simp only[AX,Br] at hf;exact⟨by constructor<;>dsimp only<;>omega,h3⟩
 |some i=>
  rw[ha] at hf;dsimp only at hf⊢;refine⟨h2,?_⟩;unfold Mb
  repeat' split
  all_goals first
   |exact h3
   |(dsimp only
     cases hw:f.wd<;>rw[hw] at hf<;>simp at hf;omega)
theorem YC(c:Nz)(hc:CL c)(k:Nat):JW ((Gj c).getD k 0):=by
 match k with
 |0=>exact hc.a0
 |1=>exact hc.a1
 |2=>exact hc.a2
 |3=>exact hc.a3
 |4=>exact hc.a4
 |5=>exact hc.a5
 |k+6=>exact⟨by simp[Gj],by simp[Gj]⟩
set_option maxHeartbeats 4000000 in
theorem Sk(c:Nz)(hc:CL c)(l:List Ab):Fn prog 57 [iX c] l λv l'=>v= .tuple #[.agg (toArray (P7 (CF c).1)),iV (CF c).2]/\l'=l:=by
 obtain⟨R,hR⟩: ∃R,CF c=R:=⟨_,rfl⟩
 rw[hR];unfold CF at hR;have huo:JW c.op:=hc.op;obtain⟨u1,u2⟩:=huo;refine AO func57 ntmps57 λE=>?_;refine AQ λb1=>?_;refine AQ λb2=>?_;refine AQ λb4=>?_;refine AQ λb5=>?_;refine AS (Az rfl rfl (T7 c.op b4 b5 _)) ?_;cases hL:OY c.op with
 |none=>rw[hL] at hR;subst hR;rintro _ _ ⟨rfl,rfl⟩;refine Aj ?_;exact AU (vs:=[.agg (toArray (P7 Jz)),iV 2]) [] _ rfl .refl (Cq rfl (.tail _ (.tail _ (.head _))) (As.LSub.of_all (n:=12) (P7 Jz) rfl) (by exact A7)) (.drop (.drop (.drop (.drop .refl)))) ⟨rfl,rfl⟩
 |some L=>
 rw[hL] at hR;obtain⟨hok,hlen⟩:=YB hL;rintro _ _ ⟨sl,cs,rfl,hos,rfl⟩;obtain⟨pp,cap,rfl⟩:=hos.shape;refine Bk (.of_perm (lI (a:=BG b5 0) (b:=Hh b4 Jz) (c:=Hh b2 Jz) (d:=pG b1 c))) ?_;refine Aj ?_;dsimp only at hR;by_cases h1:c.op=1/\U3 c=false
 ·rw[Ae h1] at hR;subst hR;obtain⟨h2,h3⟩:=h1;refine Aj ?_;refine Ea (vs:=[iX c]) ?_;rw[h3];refine Aj ?_;exact AU (vs:=[.agg (toArray (P7 Jz)),iV 2]) [] _ rfl .refl (Cq rfl (.tail _ (.tail _ (.head _))) (As.LSub.of_all (n:=12) (P7 Jz) rfl) (by exact A7)) (.drop (.drop (.drop (.drop (Keep.dropL' cs .refl))))) ⟨rfl,rfl⟩
 rw[Ac h1] at hR;obtain⟨gb,sp,hp,hg⟩: ∃gb sp,(0<L.length->pp=some ⟨gb,0,none⟩)/\(0<L.length->cs=[HQ gb (L.flatMap (St b4 b5)++sp)]):=by
  by_cases h0:0<L.length
  ·obtain⟨gb,cap2,sp,h2,h3⟩:=Mg hos h0;exact⟨gb,sp,λ_=>by simpa using BM (λv=>match v with|Value.slice p _ _=>p|_=>none) h2,λ_=>h3⟩
  ·exact⟨0,[],λh=>absurd h h0,λh=>absurd h h0⟩
 have hobj:c.op=1->U3 c=true:=λh=>by cases ho:U3 c with|true=>rfl|false=>exact absurd ⟨h,ho⟩ h1
 by_cases hop:c.op=1
 case' pos=>
  have ho:=hobj hop;refine Aj ?_;refine Ea (vs:=[iX c]) ?_;rw[ho];refine Aj ?_
 case' neg=>
  refine Aj ?_
 all_goals
  refine AQ λb8=>?_;refine AS (Az rfl rfl (cM c (.slice pp L.length cap) rfl _)) ?_;rintro _ _ ⟨B1,B2,rfl,rfl⟩;refine SS ?_;refine Mo ?_;refine pH (α:=Nat×(IO×Int)×Int) (λz=>[(1,pV b1),(2,pV b2),(4,pV b4),(5,pV b5),(8,pV b8)]) (λz=>[GF z.1]) (λz=>Cd z.1::N8 b8 z.2.2::BG b5 z.2.1.2::Hh b4 z.2.1.1::Hh b2 Jz::pG b1 c::(cs++l)) (λz=>Vj c L (List.range 6) Jz 0 0=z.2/\DcB z.2.1.1 z.2.1.2) ?_ ?_
  ·refine Od ?_;refine CU (α:=Int×Value) (ps:=[33,34]) (lb:=[pV B1,pV B2]) rfl (YA B1 B2 gb L.length cap pp c hp Af) (λ_=>rfl) rfl
    (λpre l1=> ∃o cn e,Vj c L (List.range 6) Jz 0 0=Vj c L ((List.range 6).drop pre.length) o cn e/\DcB o cn/\l1=[N8 b8 e,BG b5 cn,Hh b4 o])
    (λc' pre l1=>c'= .exit 0/\ ∃o cn,Vj c L (List.range 6) Jz 0 0=((o,cn),2)/\DcB o cn/\l1=[N8 b8 2,BG b5 cn,Hh b4 o])
    [N8 b8 0,BG b5 0,Hh b4 Jz] ([ui B2 (.slice pp L.length cap),pG B1 c,Hh b2 Jz,pG b1 c]++(cs++l)) (λpre l1 X hX h=>⟨Aa _ (hX _ (.tail _ (.head _))),Aa _ (hX _ (.head _))⟩) (by exact AR) ⟨Jz,0,0,rfl,⟨by decide,by decide⟩,rfl⟩ ?_ ?_ ?_
   ·rintro E r0 rec pre ⟨w,q⟩ l1 T ⟨fn,tmps,D,rfl⟩ hT ⟨o,cn,e,hdc,hb,rfl⟩ hsp;obtain⟨hk,hw,hq⟩:=pI hsp;simp only at hw hq;obtain⟨uw1,uw2⟩:=YC c hc pre.length;rw[hw] at uw1 uw2;rw[uj hk,O0,hw] at hdc;simp only[Du,Ad,Ag];refine Aj ?_;refine Cp (by exact Dw) ?_;by_cases hkn:pre.length<L.length
    ·rw[Ae hkn] at hq;subst hq;obtain⟨f,hf⟩: ∃f,L[pre.length]?=some f:=⟨_,Am hkn⟩
     have hfo:=A6.1 hok f (A9 hf);rw[hf] at hdc;dsimp only at hdc;have mg:HQ gb (L.flatMap (St b4 b5)++sp)∈T:=hT _ (by rw[hg Af];simp);obtain⟨x1,x2⟩:=Z8 (k:=4) (enc:=St b4 b5) (λ_=>rfl) hf sp;have z0:(toArray (L.flatMap (St b4 b5)++sp))[pre.length*4]?=some (Ba f.le):=eK x2 x1 (j:=0) AW rfl;have z1:(toArray (L.flatMap (St b4 b5)++sp))[pre.length*4+1]?=some (Ba f.mo):=eK x2 x1 (j:=1) AW rfl;by_cases hlt:w<f.le
     ·rw[Ae (.inl hlt)] at hdc;refine Aj ?_;exact B9 [N8 b8 3,BG b5 cn,Hh b4 o] (by exact AR) ⟨o,cn,3,by rw[hdc,Ah];rfl,hb,rfl⟩
     by_cases hgt:f.mo<w
     ·rw[Ae (.inr hgt)] at hdc;refine Aj ?_;exact B9 [N8 b8 3,BG b5 cn,Hh b4 o] (by exact AR) ⟨o,cn,3,by rw[hdc,Ah];rfl,hb,rfl⟩
     have hin:¬(w<f.le\/f.mo<w):=by omega
     rw[Ac hin] at hdc;have hb2:=hb.put hfo hin;cases ha:f.at' with
     |none=>
      have hwd:f.wd=false:=nm hfo ha;obtain⟨r1,r2⟩:=iq hfo hwd;have hfc:St b4 b5 f=[Ba f.le,Ba f.mo,.pointer (some ⟨b5,0,none⟩),.pointer none]:=by unfold St;rw[hwd,ha];rfl
      have hpf:Gt o cn f w=(o,w):=by unfold Gt;rw[ha]
      rw[hfc] at x2;rw[hpf] at hdc hb2;refine Aj ?_;refine Bc (Dm rfl (by exact BO) x1 x2) ?_;refine Aj ?_;refine Bk (l':=BG b5 cn::N8 b8 e::Hh b4 o::(r0,_)::T) (by exact AR) ?_;refine AS (Az (vs:=[s6 f.le f.mo b5 0,Ba w]) rfl rfl (WO f.le f.mo b5 0 [iV cn] 3 w ⟨Af,Af⟩ Nat.one_pos _)) ?_;rintro _ _ ⟨rfl,rfl⟩;refine Aj ?_;exact B9 [N8 b8 e,BG b5 w,Hh b4 o] (by exact AR) ⟨o,w,e,by rw[hdc,Ah];rfl,hb2,rfl⟩
     |some i=>
      have hpf:Gt o cn f w=(Mb o i w,cn):=by unfold Gt;rw[ha]
      rw[hpf] at hdc hb2;rcases io hfo ha with⟨hwd,hi⟩|⟨hwd,hi⟩
      ·have hfc:St b4 b5 f=[Ba f.le,Ba f.mo,.pointer none,.pointer (some ⟨b4,i,none⟩)]:=by unfold St;rw[hwd,ha];rfl
       rw[hfc] at x2;refine Aj ?_;refine Bc (Dm rfl (by exact BO) x1 x2) ?_;refine Aj ?_;refine Bk (l':=Hh b4 o::N8 b8 e::BG b5 cn::(r0,_)::T) (by exact AR) ?_;refine AS (Az (vs:=[uh f.le f.mo b4 i,Ba w]) rfl rfl (ik f.le f.mo b4 i (P7 o) 57 w (by simp;omega) _)) ?_;rintro _ _ ⟨rfl,rfl⟩;rw[<-lG hi];refine Aj ?_;exact B9 [N8 b8 e,BG b5 cn,Hh b4 (Mb o i w)] (by exact AR) ⟨Mb o i w,cn,e,by rw[hdc,Ah];rfl,hb2,rfl⟩
      ·obtain⟨r1,r2⟩:=iq hfo hwd;have hfc:St b4 b5 f=[Ba f.le,Ba f.mo,.pointer (some ⟨b4,i,none⟩),.pointer none]:=by unfold St;rw[hwd,ha];rfl
       rw[hfc] at x2;refine Aj ?_;refine Bc (Dm rfl (by exact BO) x1 x2) ?_;refine Aj ?_;refine Bk (l':=Hh b4 o::N8 b8 e::BG b5 cn::(r0,_)::T) (by exact AR) ?_;refine AS (Az (vs:=[s6 f.le f.mo b4 i,Ba w]) rfl rfl (WO f.le f.mo b4 i (P7 o) 57 w ⟨Af,Af⟩ (by simp;omega) _)) ?_;rintro _ _ ⟨rfl,rfl⟩;rw[<-lF hi];refine Aj ?_;exact B9 [N8 b8 e,BG b5 cn,Hh b4 (Mb o i w)] (by exact AR) ⟨Mb o i w,cn,e,by rw[hdc,Ah];rfl,hb2,rfl⟩
    ·rw[Ac hkn] at hq;subst hq;rw[Bb Af] at hdc;dsimp only at hdc;by_cases hw0:w=0
     ·rw[Ae hw0] at hdc;refine Aj ?_;exact B9 [N8 b8 e,BG b5 cn,Hh b4 o] (by exact AR) ⟨o,cn,e,by rw[hdc,Ah];rfl,hb,rfl⟩
     ·rw[Ac hw0] at hdc;refine Aj ?_;exact Et [N8 b8 2,BG b5 cn,Hh b4 o] (by exact AR) ⟨rfl,o,cn,hdc,hb,rfl⟩
   ·rintro D xs l1 rfl ⟨o,cn,e,hdc,hb,rfl⟩;rw[Z9] at hdc;simp only[Ad,Ag];refine Og ?_;exact Z7 (D,(o,cn),e) ⟨hdc,hb⟩ rfl ⟨rfl,rfl,rfl,rfl,rfl,trivial⟩ (by exact AR)
   ·rintro D c' pre l1 hsp ⟨rfl,o,cn,hdc,hb,rfl⟩;simp only[Ad,Ag];refine QI ?_;refine If ?_;exact Z7 (D,(o,cn),2) ⟨hdc,hb⟩ rfl ⟨rfl,rfl,rfl,rfl,rfl,trivial⟩ (by exact AR)
  rintro⟨D,⟨o,cn⟩,e⟩ ⟨hdc,hb⟩;rw[hdc] at hR;unfold Z6 at hR;dsimp only at hR hb⊢;obtain⟨⟨q1,q2⟩,q3,q4⟩:=hb;by_cases he:e=0
  case neg=>rw[Ac he] at hR;subst hR;refine Aj ?_;refine Ce [2] 4 _ ?_ (hR:=(λ_ h=>h));refine BI ?_;refine Aj ?_;exact AU (vs:=[.agg (toArray (P7 Jz)),iV e]) [D] _ rfl .refl (Cq rfl (.tail _ (.tail _ (.tail _ (.head _)))) (As.LSub.of_all (n:=12) (P7 Jz) rfl) (by exact A7)) (.drop (.drop (.drop (.drop (.drop (Keep.dropL' cs .refl)))))) ⟨rfl,rfl⟩
  rw[Ae he] at hR;subst hR he;obtain⟨p1,p2⟩:=im hL;have z2:(toArray (P7 {o with op:=c.op}))[4+(2:Int).toNat*1]?=some (iV o.n2):=rfl;refine Aj ?_;refine LV (FP (cs:=P7 {o with op:=c.op}) (cs':=P7 {o with op:=c.op,n2:=o.n2+16*cn}) (l':=Cd D::N8 b8 0::BG b5 cn::Hh b4 {o with op:=c.op,n2:=o.n2+16*cn}::Hh b2 Jz::pG b1 c::(cs++l)) rfl rfl rfl (by exact BO) (by exact .succ (.succ (.succ (.succ (.succ (.succ .zero)))))) (by exact Dw)) rfl rfl ?_;rintro _ _ ⟨rfl,rfl⟩;refine Aj ?_;exact AU (vs:=[.agg (toArray (P7 {o with op:=c.op,n2:=o.n2+16*cn})),iV 0]) [D] _ rfl .refl (Cq rfl (.tail _ (.tail _ (.tail _ (.head _)))) (As.LSub.of_all (n:=12) (P7 {o with op:=c.op,n2:=o.n2+16*cn}) rfl) (by exact A7)) (.drop (.drop (.drop (.drop (.drop (Keep.dropL' cs .refl)))))) ⟨rfl,rfl⟩
def T8(o:IO)(i:Nat):Int:=
 match i with
 |1=>o.a
 |2=>o.b
 |4=>o.n0
 |5=>o.n1
 |6=>o.n2
 |7=>o.w
 |8=>o.ms.a
 |9=>o.ms.b
 |10=>o.ms.c
 |11=>o.ms.d
 |_=>0
def HT(o:IO)(cn:Int)(f:FoT):Int:=match f.at' with
 |none=>cn
 |some i=>T8 o i
theorem YD(h:M8 f=true)(ha:f.at'=some i):i=1\/i=2\/i=4\/i=5\/i=6\/i=7\/i=8\/i=9\/i=10\/i=11:=by rcases io h ha with⟨_,h⟩|⟨_,h⟩<;>omega
theorem lJ(h:M8 f=true):HT (Gt o cn f x).1 (Gt o cn f x).2 f=x:=by
 unfold HT Gt;cases ha:f.at' with
 |none=>rfl
 |some i=>rcases YD h ha with rfl|rfl|rfl|rfl|rfl|rfl|rfl|rfl|rfl|rfl<;>rfl
theorem pJ{g:FoT}(hf:M8 f=true)(hg:M8 g=true)(hne:f.at'≠g.at'):HT (Gt o cn f x).1 (Gt o cn f x).2 g=HT o cn g:=by
 unfold HT Gt;cases ha:f.at' with
 |none=>cases hb:g.at' with
  |none=>exact absurd (ha.trans hb.symm) hne
  |some j=>rfl
 |some i=>cases hb:g.at' with
  |none=>rfl
  |some j=>have hij:i≠j:=λh=>hne (by rw[ha,hb,h]);rcases YD hf ha with rfl|rfl|rfl|rfl|rfl|rfl|rfl|rfl|rfl|rfl<;>rcases YD hg hb with rfl|rfl|rfl|rfl|rfl|rfl|rfl|rfl|rfl|rfl<;>first|rfl|exact absurd rfl hij
def np(L:List FoT):Prop:= ∀(i j:Nat) (f g:FoT),L[i]?=some f->L[j]?=some g->f.at'=g.at'->i=j
theorem U5{c:Nz}{L:List FoT}(hd:np L)(hok: ∀f,f∈L->M8 f=true): ∀(r:List Nat),r.Nodup-> ∀(o:IO) (cn e:Int) (o':IO) (cn':Int),Vj c L r o cn e=((o',cn'),0)->
 e=0/\(∀i,i∈r->match L[i]? with
  |none=>(Gj c).getD i 0=0
  |some f=>HT o' cn' f=(Gj c).getD i 0/\f.le<=(Gj c).getD i 0/\(Gj c).getD i 0<=f.mo)/\(∀(g:FoT) (j:Nat),L[j]?=some g->j∉r->HT o' cn' g=HT o cn g)
 |[],_,o,cn,e,o',cn',h=>by unfold Vj at h;obtain⟨h1,h2⟩:=Prod.mk.inj h;obtain⟨rfl,rfl⟩:=Prod.mk.inj h1;exact⟨h2,λ_ h=>(nomatch h),λ_ _ _ _=>rfl⟩
 |i::r,hn,o,cn,e,o',cn',h=>by
  rw[AM] at hn;obtain⟨hi,hn⟩:=hn;rw[O0] at h;cases hL:L[i]? with
  |none=>
   rw[hL] at h;dsimp only at h;by_cases h0:(Gj c).getD i 0=0
   ·rw[Ae h0] at h;obtain⟨h1,h2,h3⟩:=U5 hd hok r hn o cn e o' cn' h;refine⟨h1,λj hj=>?_,λg j hg hj=>h3 g j hg λhh=>hj (.tail _ hh)⟩;rcases Aq.1 hj with rfl|hj
    ·rw[hL];exact h0
    ·exact h2 j hj
   ·rw[Ac h0] at h;exact absurd (show(2:Int)=0 from BM Prod.snd h) AW
  |some f=>
   rw[hL] at h;dsimp only at h;have hf:=hok f (A9 hL);by_cases hb:(Gj c).getD i 0<f.le\/f.mo<(Gj c).getD i 0
   ·rw[Ae hb] at h;exact absurd (U5 hd hok r hn o cn 3 o' cn' h).1 AW
   ·rw[Ac hb] at h;obtain⟨h1,h2,h3⟩:=U5 hd hok r hn _ _ e o' cn' h;refine⟨h1,λj hj=>?_,λg j hg hj=>?_⟩
    ·rcases Aq.1 hj with rfl|hj
     ·rw[hL];exact⟨(h3 f _ hL hi).trans (lJ hf),Af,Af⟩
     ·exact h2 j hj
    ·rw[h3 g j hg λhh=>hj (.tail _ hh)];exact pJ hf (hok g (A9 hg)) λhh=>hj (by rw[hd i j f g hL hg hh];exact .head _)
theorem lK(o:IO)(i:Nat)(x:Int)(h:i≠6):(Mb o i x).n2=o.n2:=by
 unfold Mb
 split<;>first|rfl|exact absurd rfl h
theorem U7{c:Nz}{L:List FoT}(hL: ∀f,f∈L->f.at'≠none/\f.at'≠some 6): ∀(r:List Nat) (o:IO) (cn e:Int),(Vj c L r o cn e).1.2=cn/\(Vj c L r o cn e).1.1.n2=o.n2
 |[],_,_,_=>⟨rfl,rfl⟩
 |i::r,o,cn,e=>by
  rw[O0];cases h:L[i]? with
  |none=>
   dsimp only
   split
   ·exact U7 hL r _ _ _
   ·exact⟨rfl,rfl⟩
  |some f=>
   dsimp only;have hp:(Gt o cn f ((Gj c).getD i 0)).2=cn/\(Gt o cn f ((Gj c).getD i 0)).1.n2=o.n2:=by
    have h9:=hL f (A9 h);unfold Gt;cases ha:f.at' with
    |none=>exact absurd ha h9.1
    |some j=>exact⟨rfl,lK o j _ λhj=>h9.2 (by rw[ha,hj])⟩
   split
   ·exact U7 hL r _ _ _
   ·obtain⟨h1,h2⟩:=U7 hL r (Gt o cn f ((Gj c).getD i 0)).1 (Gt o cn f ((Gj c).getD i 0)).2 e;exact⟨h1.trans hp.1,h2.trans hp.2⟩
def DcU(o:IO):Prop:=JW o.a/\JW o.b/\JW o.w
theorem DcU.put(h:DcU o)(hx:JW x):DcU (Gt o cn f x).1:=by
 obtain⟨h1,h2,h3⟩:=h;unfold Gt;cases f.at' with
 |none=>exact⟨h1,h2,h3⟩
 |some i=>
  dsimp only;unfold Mb
  split
  ·exact⟨hx,h2,h3⟩
  ·exact⟨h1,hx,h3⟩
  ·exact⟨h1,h2,h3⟩
  ·exact⟨h1,h2,h3⟩
  ·exact⟨h1,h2,h3⟩
  ·exact⟨h1,h2,hx⟩
  all_goals exact⟨h1,h2,h3⟩
theorem aa{c:Nz}(hc:CL c){L:List FoT}: ∀(r:List Nat) (o:IO) (cn e:Int),DcU o->DcU (Vj c L r o cn e).1.1
 |[],_,_,_,h=>h
 |i::r,o,cn,e,h=>by
  rw[O0];cases L[i]? with
  |none=>
   dsimp only
   split
   ·exact aa hc r _ _ _ h
   ·exact h
  |some f=>
   dsimp only
   split
   ·exact aa hc r _ _ _ h
   ·exact aa hc r _ _ _ (h.put (YC c hc i))
def it(L:List FoT):Bool:=decide ((L.map FoT.at').Nodup)
theorem lL(h:it L=true):np L:=by
 intro i j f g hf hg he;have hn:(L.map FoT.at').Nodup:=by simpa[it] using h
 refine(List.getElem?_inj (l:=L.map FoT.at') (by rw[AZ];exact(Ax.1 hf).1) hn).1 ?_;rw[A0,A0,hf,hg,BH,BH,he]
theorem iu{op:Int}(h:OY op=some L):it L=true/\(op≠1->L.all (λf=>f.at' !=none&&f.at' !=some 6)=true)/\(op=1->L=[QB 1,U2 (some 4) 0 15,U2 (some 5) 0 64,QB 2,U2 (some 6) 0 15,U2 none 1 4]):=by
 unfold OY at h;by_cases h0:op=1
 ·rw[Ae h0] at h;obtain rfl:=AV h;exact⟨by decide,λh=>absurd h0 h,λ_=>rfl⟩
 rw[Ac h0] at h;by_cases h1:op=2
 ·rw[Ae h1] at h;obtain rfl:=AV h;exact⟨by decide,λ_=>rfl,λh=>absurd h h0⟩
 rw[Ac h1] at h;by_cases h2:op=3
 ·rw[Ae h2] at h;obtain rfl:=AV h;exact⟨by decide,λ_=>rfl,λh=>absurd h h0⟩
 rw[Ac h2] at h;by_cases h3:op=4\/op=5\/op=12\/op=13
 ·rw[Ae h3] at h;obtain rfl:=AV h;exact⟨by decide,λ_=>rfl,λh=>absurd h h0⟩
 rw[Ac h3] at h;by_cases h4:op=6\/op=9\/op=11\/op=21\/op=22
 ·rw[Ae h4] at h;obtain rfl:=AV h;exact⟨by decide,λ_=>rfl,λh=>absurd h h0⟩
 rw[Ac h4] at h;by_cases h5:op=7
 ·rw[Ae h5] at h;obtain rfl:=AV h;exact⟨by decide,λ_=>rfl,λh=>absurd h h0⟩
 rw[Ac h5] at h;by_cases h6:op=8
 ·rw[Ae h6] at h;obtain rfl:=AV h;exact⟨by decide,λ_=>rfl,λh=>absurd h h0⟩
 rw[Ac h6] at h;by_cases h7:op=10
 ·rw[Ae h7] at h;obtain rfl:=AV h;exact⟨by decide,λ_=>rfl,λh=>absurd h h0⟩
 rw[Ac h7] at h;by_cases h8:op=14\/op=15
 ·rw[Ae h8] at h;obtain rfl:=AV h;exact⟨by decide,λ_=>rfl,λh=>absurd h h0⟩
 rw[Ac h8] at h;by_cases h9:op=16
 ·rw[Ae h9] at h;obtain rfl:=AV h;exact⟨by decide,λ_=>rfl,λh=>absurd h h0⟩
 rw[Ac h9] at h;by_cases h10:op=17
 ·rw[Ae h10] at h;obtain rfl:=AV h;exact⟨by decide,λ_=>rfl,λh=>absurd h h0⟩
 rw[Ac h10] at h;by_cases h11:op=18
 ·rw[Ae h11] at h;obtain rfl:=AV h;exact⟨by decide,λ_=>rfl,λh=>absurd h h0⟩
 rw[Ac h11] at h;by_cases h12:op=19
 ·rw[Ae h12] at h;obtain rfl:=AV h;exact⟨by decide,λ_=>rfl,λh=>absurd h h0⟩
 rw[Ac h12] at h;by_cases h13:op=20
 ·rw[Ae h13] at h;obtain rfl:=AV h;exact⟨by decide,λ_=>rfl,λh=>absurd h h0⟩
 rw[Ac h13] at h;by_cases h14:op=23
 ·rw[Ae h14] at h;obtain rfl:=AV h;exact⟨by decide,λ_=>rfl,λh=>absurd h h0⟩
 rw[Ac h14] at h;cases h
def cO(op:Int)(o:IO):IO:=if op=1 then{o with n2:=o.n2%16} else o
def cP(op:Int)(o:IO):Int:=if op=1 then o.n2/16 else 0
theorem iv(h:(CF c).2=0): ∃L,OY c.op=some L/\(CF c).1.op=c.op/\0<=(CF c).1.n2/\(CF c).1.n2<=1000/\
 (∀i f,L[i]?=some f->i<6/\M8 f=true/\HT (cO c.op (CF c).1) (cP c.op (CF c).1) f=(Gj c).getD i 0/\f.le<=(Gj c).getD i 0/\(Gj c).getD i 0<=f.mo)/\(∀i,i<6->L.length<=i->(Gj c).getD i 0=0):=by
 cases hL:OY c.op with
 |none=>exfalso;unfold CF at h;rw[hL] at h;exact absurd (show(2:Int)=0 from h) AW
 |some L=>
  refine⟨L,rfl,?_⟩;obtain⟨hok,hlen⟩:=YB hL;obtain⟨hd,hc1,hc2⟩:=iu hL;have hok': ∀f,f∈L->M8 f=true:=λf hf=>A6.1 hok f hf;obtain⟨R,hR⟩: ∃R,CF c=R:=⟨_,rfl⟩
  rw[hR] at h⊢;unfold CF at hR;rw[hL] at hR;dsimp only at hR;by_cases h1:c.op=1/\U3 c=false
  ·rw[Ae h1] at hR;subst hR;exact absurd (show(2:Int)=0 from h) AW
  rw[Ac h1] at hR;obtain⟨⟨⟨o,cn⟩,e⟩,hq⟩: ∃q,Vj c L (List.range 6) Jz 0 0=q:=⟨_,rfl⟩
  rw[hq] at hR;unfold Z6 at hR;dsimp only at hR;by_cases he:e=0
  case neg=>rw[Ac he] at hR;subst hR;exact absurd h he
  rw[Ae he] at hR;subst he;obtain⟨_,h2,h3⟩:=U5 (lL hd) hok' (List.range 6) List.nodup_range Jz 0 0 o cn hq;have hz:¬c.op=1->cn=0/\o.n2=0:=λhop=>by have h9:=U7 (c:=c) (L:=L) (λf hf=>by simpa using A6.1 (hc1 hop) f hf) (List.range 6) Jz 0 0;rw[hq] at h9;exact h9
  have hy:c.op=1->(0<=o.n2/\o.n2<=15)/\1<=cn/\cn<=4:=λhop=>by have e1:=hc2 hop;subst e1;have g4:=h2 4 AW;have g5:=h2 5 AW;simp only[C9,Dc,HT,T8] at g4 g5;omega
  have hx:cO c.op {o with op:=c.op,n2:=o.n2+16*cn}={o with op:=c.op}/\cP c.op {o with op:=c.op,n2:=o.n2+16*cn}=cn:=by
   unfold cO cP;by_cases hop:c.op=1
   ·obtain⟨⟨a1,a2⟩,a3,a4⟩:=hy hop;rw[Ae hop,Ae hop];dsimp only;rw[show(o.n2+16*cn)%16=o.n2 by omega];exact⟨rfl,Af⟩
   ·obtain⟨a1,a2⟩:=hz hop;rw[Ac hop,Ac hop];exact⟨by rw[show o.n2+16*cn=o.n2 by omega],a1.symm⟩
  have hb:0<=o.n2+16*cn/\o.n2+16*cn<=1000:=by
   by_cases hop:c.op=1
   ·have:=hy hop;omega
   ·have:=hz hop;omega
  subst hR;dsimp only;rw[hx.1,hx.2];refine⟨rfl,hb.1,hb.2,λi f hf=>?_,λi hi hl=>?_⟩
  ·have hi:i<L.length:=(Ax.1 hf).1;have h9:=h2 i (FN.2 Af);rw[hf] at h9;refine⟨Af,hok' f (A9 hf),?_,h9.2⟩;rw[<-h9.1];unfold HT;cases f.at' with
   |none=>rfl
   |some j=>dsimp only;unfold T8;split<;>rfl
  ·have h9:=h2 i (FN.2 hi);rw[Bb hl] at h9;exact h9
theorem nq(hc:CL c):DcU (CF c).1:=by
 have hz:DcU Jz:=⟨Lf,Lf,Lf⟩
 unfold CF;cases OY c.op with
 |none=>exact hz
 |some L=>
  dsimp only
  split
  ·exact hz
  ·unfold Z6
   split
   ·exact aa hc _ _ _ _ hz
   ·exact hz
theorem lM{c d e:Ab}:(A++(a::b::c::d::e::l)).Perm (c::a::b::d::e::(A++l)):=Cc
theorem U8{v:Int}(h:JW v):IntKind.u64.wrap v=v:=by exact K4 (Oi h.1 h.2)
theorem iw(f:FoT)(hf:M8 f=true)(X:IO)(n:Int)(b5 b6:Nat)(hu:JW (HT X n f))(l:List Ab)(m5:Hh b5 X∈l)(m6:BG b6 n∈l):Fn prog 206 [.agg (toArray (St b5 b6 f))] l λv l'=>v=Ba (HT X n f)/\l'=l:=by
 cases ha:f.at' with
 |none=>
  have hw:=nm hf ha;have e:St b5 b6 f=[Ba f.le,Ba f.mo,.pointer (some ⟨b6,0,none⟩),.pointer none]:=by unfold St;rw[hw,ha];rfl
  have g:HT X n f=n:=by unfold HT;rw[ha]
  rw[g] at hu⊢;rw[e,<-U8 hu];rw[U8 hu];have h:=WN f.le f.mo b6 0 (toArray [iV n]) 3 (0,0) n l m6 rfl;rw[U8 hu] at h;exact h
 |some i=>
  have g:HT X n f=T8 X i:=by unfold HT;rw[ha]
  rw[g] at hu⊢;rcases io hf ha with⟨hw,hi⟩|⟨hw,hi⟩
  ·have e:St b5 b6 f=[Ba f.le,Ba f.mo,.pointer none,.pointer (some ⟨b5,i,none⟩)]:=by unfold St;rw[hw,ha];rfl
   rw[e];exact ij f.le f.mo b5 i (toArray (P7 X)) 57 (0,0) (T8 X i) l m5 (by rcases hi with rfl|rfl|rfl|rfl|rfl<;>rfl)
  ·have e:St b5 b6 f=[Ba f.le,Ba f.mo,.pointer (some ⟨b5,i,none⟩),.pointer none]:=by unfold St;rw[hw,ha];rfl
   rw[e];have h:=WN f.le f.mo b5 i (toArray (P7 X)) 57 (0,0) (T8 X i) l m5 (by rcases hi with rfl|rfl|rfl|rfl|rfl<;>rfl);rw[U8 hu] at h;exact h
instance:EQ prog 57 [some .i64,some .i64,some .i64,some .i64,some .i64,some .i64,some .i64,some .u64,some .u64,some .u64,some .u64,some .u64]:=⟨Bv⟩
abbrev qj(B:Nat)(ws:List Value):Ab:=(B,.cells (toArray ws) 37 (0,0))
abbrev qk:Nz:=⟨0,0,0,0,0,0,0⟩
structure EnW(c:Nz)(k:Nat)(ws:List Value):Prop where
 len:ws.length=7
 op:ws[0]?=some (Ba c.op)
 ar: ∀j,j<6->ws[1+j]?=some (Ba (if j<k then(Gj c).getD j 0 else 0))
theorem EnW.next(h:EnW c k ws)(hk:k<6):EnW c (k+1) (ws.set (1+k) (Ba ((Gj c).getD k 0))):=by
 refine⟨by rw[Ct];exact h.len,by rw[I3 Af];exact h.op,λj hj=>?_⟩;by_cases hjk:j=k
 ·subst hjk;rw[EJ (by rw[h.len];omega),Ae Af]
 ·rw[I3 Af,h.ar j hj];by_cases hlt:j<k
  ·rw[Ae hlt,Ae Af]
  ·rw[Ac hlt,Ac Af]
theorem EnW.all(h:EnW c k ws)(hz: ∀i,i<6->k<=i->(Gj c).getD i 0=0):ws=dh c:=by
 have hj: ∀j,j<6->ws[1+j]?=some (Ba ((Gj c).getD j 0)):=λj hj=>by
  rw[h.ar j hj];by_cases hlt:j<k
  ·rw[Ae hlt]
  ·rw[Ac hlt,hz j hj Af]
 have hl:=h.len;have h0:=h.op
 match ws,hl with
 |[a,b,c1,d,e,f,g],_=>have j0:=hj 0 AW;have j1:=hj 1 AW;have j2:=hj 2 AW;have j3:=hj 3 AW;have j4:=hj 4 AW;have j5:=hj 5 AW;simp[Gj] at h0 j0 j1 j2 j3 j4 j5;rw[h0,j0,j1,j2,j3,j4,j5]
set_option maxHeartbeats 4000000 in
theorem YE(c:Nz)(hc:CL c)(h0:(CF c).2=0)(l:List Ab):Fn prog 158 [sY (CF c).1] l λv l'=>v= .tuple #[iX c,iV 0]/\l'=l:=by
 obtain⟨L,hL,hop,hn0,hn1,hg,hz⟩:=iv h0;have hdec:=λl=>Sk c hc l;obtain⟨o,ho⟩: ∃o,(CF c).1=o:=⟨_,rfl⟩
 simp only[ho,h0] at hop hn0 hn1 hg hdec⊢;obtain⟨hfo,hlen⟩:=YB hL;obtain⟨p1,p2⟩:=im hL;obtain⟨X,hX⟩: ∃X,cO c.op o=X:=⟨_,rfl⟩
 obtain⟨n,hn⟩: ∃n,cP c.op o=n:=⟨_,rfl⟩
 rw[hX,hn] at hg;unfold cO at hX;unfold cP at hn;rw[<-hop] at p1 p2 hX hn;have z2:(toArray (P7 o))[4+(2:Int).toNat*1]?=some (iV o.n2):=rfl;refine AO func158 ntmps158 λE=>?_;refine AQ λb1=>?_;refine AQ λb2=>?_;refine AQ λb4=>?_;refine AQ λb5=>?_;refine AQ λb6=>?_;refine PR (α:=Unit) (λ_=>[(1,pV b1),(2,pV b2),(4,pV b4),(5,pV b5),(6,pV b6)]) (λ_=>BG b6 n::Hh b5 X::qj b4 (dh {qk with op:=c.op})::qj b2 (dh qk)::Hh b1 o::l) (λ_=>True) ?_ ?_
 ·by_cases h1:o.op=1
  ·rw[Ae h1] at hX hn;subst hX hn;refine Aj ?_;refine Ce [10,11] 12 ([Hh b1 o]) ?_ (hR:=(SJ BO));refine BI ?_;refine Mu (FP (cs:=P7 o) (cs':=P7 {o with n2:=o.n2%16}) (l':=BG b6 0::Hh b5 {o with n2:=o.n2%16}::qj b4 (dh {qk with op:=o.op})::qj b2 (dh qk)::Hh b1 o::l) rfl rfl rfl (by exact BO) (by exact .succ (.succ (.succ (.succ (.succ (.succ .zero)))))) (by exact Dw)) rfl rfl ?_ ?_
   ·rintro _ _ ⟨_,rfl⟩;exact SJ BO
   rintro _ _ ⟨rfl,rfl⟩;refine BI ?_;refine Aj ?_;exact D8 () trivial ⟨rfl,rfl,rfl,rfl,rfl,trivial⟩ (by rw[<-hop];exact .refl)
  ·rw[Ac h1] at hX hn;subst hX hn;refine Aj ?_;exact D8 () trivial ⟨rfl,rfl,rfl,rfl,rfl,trivial⟩ (by rw[<-hop];exact .refl)
 rintro- -;refine Aj ?_;refine AS (Az rfl rfl (T7 c.op b5 b6 _)) ?_;rw[hL];rintro _ _ ⟨sl,cs,rfl,hos,rfl⟩;obtain⟨pp,cap,rfl⟩:=hos.shape;refine Bk (.of_perm lM) ?_;refine Aj ?_;refine Cu (α:=Nat×List Value) (λz=>[(1,pV b1),(2,pV b2),(4,pV b4),(47,.slice pp L.length cap),(48,.int .i64 (L.length:Nat)),(49,.int .i64 z.1)]) (λz=>qj b4 z.2::BG b6 n::Hh b5 X::qj b2 (dh qk)::Hh b1 o::(cs++l)) (λz=>z.1<=L.length/\EnW c z.1 z.2) (λz=>L.length-z.1) (0,dh {qk with op:=c.op}) ⟨Bf _,rfl,rfl,λj hj=>by
  have:j=0\/j=1\/j=2\/j=3\/j=4\/j=5:=by omega
  rcases this with rfl|rfl|rfl|rfl|rfl|rfl<;>rfl⟩ ⟨rfl,rfl,rfl,rfl,rfl,rfl,trivial⟩ .refl ?_
 rintro⟨k,ws⟩ ⟨hk,hw⟩;simp only at hk hw⊢;by_cases hlt:k<L.length
 ·obtain⟨f,hf⟩: ∃f,L[k]?=some f:=⟨_,Am hlt⟩
  obtain⟨hk6,hfo2,hgf,_⟩:=hg k f hf;obtain⟨gb,cap2,sp,h2,rfl⟩:=Mg hos Af;cases h2;obtain⟨x1,x2⟩:=Z8 (k:=4) (enc:=St b5 b6) (λ_=>rfl) hf sp;have hu:=YC c hc k;rw[<-hgf] at hu;have hnx:=hw.next hk6;have hl7:=hw.len;obtain⟨p,q,hpq⟩: ∃p q:Option Addr,St b5 b6 f=[Ba f.le,Ba f.mo,.pointer p,.pointer q]:=by unfold St ug;cases f.wd<;>cases f.at'<;>exact⟨_,_,rfl⟩
  rw[hpq] at x2;have hgt:=λl m5 m6=>iw f hfo2 X n b5 b6 hu l m5 m6;rw[hpq] at hgt;rw[Ca];refine Aj ?_;refine Bc (Dm rfl (by exact BO) x1 x2) ?_;refine AQ λb10=>?_;refine l6 (v:=Ba (HT X n f)) (by refine AK (vs:=[.agg (toArray [Ba f.le,Ba f.mo,.pointer p,.pointer q])]) rfl rfl λl2 hl=>?_;exact hgt l2 (hl _ (by exact BO)) (hl _ (by exact BO))) rfl rfl rfl ?_
  refine Aj ?_;refine LV (C7 (cs:=toArray ws) (T:=37) (off:=1+k*1) (l':=(b10,_)::(b4,.cells ((toArray ws).setIfInBounds (1+k*1) (Ba (HT X n f))) 37 (0,0))::_) rfl rfl rfl (by exact Dw) (by rw[Bm];omega)) rfl rfl ?_;rintro _ _ ⟨rfl,rfl⟩;rw[hgf,Dh,Bq];refine Aj ?_;exact BS (k+1,_) ⟨by simp only;omega,hnx⟩ (by simp only;omega) ⟨rfl,rfl,rfl,rfl,rfl,rfl,trivial⟩ (.drop .refl)
 ·obtain rfl:k=L.length:=by omega
  obtain rfl:=hw.all hz;refine Aj ?_;refine Bc (AK (vs:=[iX c]) rfl rfl λl2 hl=>hdec l2) ?_;refine AQ λb11=>?_;refine N9 (dI rfl rfl (ks:=[some .i64,some .i64,some .i64,some .i64,some .i64,some .i64,some .i64,some .u64,some .u64,some .u64,some .u64,some .u64]) (IW (by rfl))) rfl rfl rfl ?_;refine Aj ?_;exact AU (vs:=[iX c,iV 0]) [] _ rfl .refl (Cq rfl (by exact BO) (As.LSub.of_all (n:=7) (dh c) rfl) (by exact A7)) (.drop (.drop (.drop (.drop (.drop (.drop (Keep.dropL' cs .refl))))))) ⟨rfl,rfl⟩
end Go.Proofs.YtlkgekpmileobaaGreat
