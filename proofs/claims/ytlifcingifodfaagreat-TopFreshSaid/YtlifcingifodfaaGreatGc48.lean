/- Laws that the statement's proof leans on (joined out of several texts). -/
import Derived.Test.YtlifcingifodfaaGreatGc47
set_option maxHeartbeats 4000000
set_option linter.unusedVariables false
set_option linter.unusedSimpArgs false
namespace Go.Proofs.YtlifcingifodfaaGreat
open Tryz
open List(toArray)
open Go.RowKit
set_option maxRecDepth 20000
variable{f:FoT}{c:OG}{k i:Nat}{o:IY}{cn x:Int}{l A:Ad}{α:Type}{L:List FoT}{a b:Bg}{ws:Ap}
section
variable{P:Program}{ro:Option Nat}{N:Nat}{E:World}{Q Q2:Exit->Act->World->Prop}{Q1:Act->World->Prop}{c:Code}{fr:Fr}{ds:List Deferred}
def uy(N:Nat)(E:World){α:Type}(fx:α->Fr)(dx:α->List Deferred)(lx:α->Ad)(pre:α->Prop)(a:Act)(W:World):Prop:=
 ∃y,pre y/\FSat N (fx y) a/\a.defers=dx y/\Sat E (lx y) W
theorem xQ(fx:α->Fr)(dx:α->List Deferred)(lx:α->Ad)(pre:α->Prop)(h1:BN P ro N E c (Exit.then (uy N E fx dx lx pre) Q2) fr ds l)(h2: ∀x,pre x->CU N E (Exit.then Q1 Q2) .normal (fx x) (dx x) (lx x)):BN P ro N E c (Exit.then Q1 Q2) fr ds l:=
 ⟨λa W hf hds hs=>wpIn_mono (h1.run a W hf hds hs) λe a' W' h=>by
   cases e with
   |normal=>obtain⟨y,h3,h4,h5,h6⟩:=h;exact(h2 y h3).run a' W' h4 h5 h6
   |_=>exact h⟩
theorem eY{fx:α->Fr}{dx:α->List Deferred}{lx:α->Ad}{pre:α->Prop}(y:α)(h1:pre y)(h2:ds=dx y)(h3:FSub (fx y) fr)(h4:Keep l (lx y)):CU N E (Exit.then (uy N E fx dx lx pre) Q) .normal fr ds l:=
 ⟨λa W hf hds hs=>⟨y,h1,hf.sub h3.spec,hds.trans h2,h4.sat hs⟩⟩
end
abbrev If(B:Nat)(o:IY):Bg:=(B,.cells (toArray (R4 o)) 57 (0,0))
abbrev PM(B:Nat)(x:Int):Bg:=(B,.cells (toArray [iV x]) 29 (0,0))
theorem sF{c d:Bg}:(A++(a::b::c::d::l)).Perm (a::b::c::d::(A++l)):=B0
theorem eZ{enc:α->Ap}(hk: ∀x,(enc x).length=k){xs:List α}{x:α}(h:xs[i]?=some x)(sp:Ap):i*k+k<=(toArray (xs.flatMap enc++sp)).size/\(toArray (xs.flatMap enc++sp)).extract (i*k) (i*k+k)=toArray (enc x):=by obtain⟨h1,h2⟩:=KV hk sp xs i x h;refine⟨by rw[Bt];exact h2,?_⟩;rw[E5,Cp,CG];exact BO toArray h1
theorem Ad7(h:k<6):(List.range 6).drop k=k::(List.range 6).drop (k+1):=by
 have:k=0\/k=1\/k=2\/k=3\/k=4\/k=5:=by omega
 rcases this with rfl|rfl|rfl|rfl|rfl|rfl<;>rfl
theorem fb(c:OG)(gb n m:Nat):(Zk c gb n m).length=m:=by unfold Zk;simp
theorem xR{gb n:Nat}{pre:List (Int×Value)}{x:Int×Value}(h:pre++[x]<+:Zk c gb n 6):pre.length<6/\(G3 c).getD pre.length 0=x.1/\(if pre.length<n then .pointer (some ⟨gb,pre.length*4,none⟩) else .pointer none)=x.2:=by have hl:=h.length_le;rw[fb,Ah,Bs] at hl;have h2:=IJ.1 h;rw[Zl c gb n (by simp;omega),Ah,Bs,Uy] at h2;obtain⟨h3,h4⟩:=JD h2 rfl;have h5:=List.singleton_inj.1 h4;rw[h5];exact⟨Af,rfl,rfl⟩
theorem oa{op:Int}(h:QE op=some L):1<=op/\op<=23:=by
 by_cases hr:1<=op/\op<=23
 ·exact hr
 ·exfalso;unfold QE at h
  repeat rw[Ab Af] at h
  cases h
theorem QI(c:OG)(L:List FoT)(i:Nat)(r:List Nat)(o:IY)(cn e:Int):XA c L (i::r) o cn e=match L[i]? with
 |none=>if(G3 c).getD i 0=0 then XA c L r o cn e else((o,cn),2)
 |some f=>if(G3 c).getD i 0<f.le\/f.mo<(G3 c).getD i 0 then XA c L r o cn 3 else XA c L r (Hd o cn f ((G3 c).getD i 0)).1 (Hd o cn f ((G3 c).getD i 0)).2 e:=rfl
theorem od(h:OH f=true)(ha:f.at'=some i):(f.wd=true/\(i=7\/i=8\/i=9\/i=10\/i=11))\/(f.wd=false/\(i=1\/i=2\/i=4\/i=5\/i=6)):=by
 unfold OH at h;rw[ha] at h;dsimp only at h;cases hw:f.wd
 ·rw[hw] at h;simp at h;exact .inr ⟨rfl,Af⟩
 ·rw[hw] at h;simp at h;exact .inl ⟨rfl,Af⟩
theorem uz(h:OH f=true)(ha:f.at'=none):f.wd=false:=by
 unfold OH at h;rw[ha] at h;dsimp only at h;cases hw:f.wd
 ·rfl
 ·rw[hw] at h;simp at h
theorem oe(h:OH f=true)(hw:f.wd=false):0<=f.le/\f.mo<=1000000:=by
 unfold OH at h;rw[hw] at h;cases ha:f.at' with
 |none=>rw[ha] at h;simp only[Hj,Bu,AW,Bj] at h;exact h
 |some i=>rw[ha] at h;dsimp only at h;rw[Ab AZ] at h;simp only[AW,Bj] at h;exact⟨h.1.2,h.2⟩
def DcB(o:IY)(cn:Int):Prop:=(0<=cn/\cn<=1000000)/\(0<=o.n2/\o.n2<=1000000)
theorem DcB.put(h:DcB o cn)(hf:OH f=true)(h1:¬(x<f.le\/f.mo<x)):DcB (Hd o cn f x).1 (Hd o cn f x).2:=by
 obtain⟨h2,h3⟩:=h;unfold OH at hf;unfold Hd;cases ha:f.at' with
 |none=>rw[ha] at hf;simp only[AW,Bj] at hf;exact⟨by constructor<;>dsimp only<;>omega,h3⟩
 |some i=>
  rw[ha] at hf;dsimp only at hf⊢;refine⟨h2,?_⟩;unfold Nr
  repeat' split
  all_goals first
   |exact h3
   |(dsimp only
     cases hw:f.wd<;>rw[hw] at hf<;>simp at hf;omega)
theorem bX(c:OG)(hc:CL c)(k:Nat):K6 ((G3 c).getD k 0):=by
 match k with
 |0=>exact hc.a0
 |1=>exact hc.a1
 |2=>exact hc.a2
 |3=>exact hc.a3
 |4=>exact hc.a4
 |5=>exact hc.a5
 |k+6=>exact⟨by simp[G3],by simp[G3]⟩
theorem Uz(c:OG)(hc:CL c)(l:Ad):Fn prog 56 [py c] l λv l'=>v= .tuple #[.agg (toArray (R4 (BV c).1)),iV (BV c).2]/\l'=l:=by
 obtain⟨R,hR⟩: ∃R,BV c=R:=⟨_,rfl⟩
 rw[hR];unfold BV at hR;have huo:K6 c.op:=hc.op;obtain⟨u1,u2⟩:=huo;refine AO func56 ntmps56 λE=>?_;refine AQ λb1=>?_;refine AQ λb2=>?_;refine AQ λb4=>?_;refine AQ λb5=>?_;refine AR (AA rfl rfl (V8 c.op b4 b5 _)) ?_;cases hL:QE c.op with
 |none=>rw[hL] at hR;subst hR;rintro _ _ ⟨rfl,rfl⟩;refine Aj ?_;exact AV (vs:=[.agg (toArray (R4 KE)),iV 2]) [] _ rfl .refl (Cz rfl (.tail _ (.tail _ (.head _))) (As.LSub.of_all (n:=12) (R4 KE) rfl) (by exact Ba)) (.drop (.drop (.drop (.drop .refl)))) ⟨rfl,rfl⟩
 |some L=>
 rw[hL] at hR;obtain⟨Dm,Ei⟩:=bW hL;rintro _ _ ⟨sl,cs,rfl,Nv,rfl⟩;obtain⟨pp,cap,rfl⟩:=Nv.shape;refine Bq (.of_perm (sF (a:=BP b5 0) (b:=If b4 KE) (c:=If b2 KE) (d:=xP b1 c))) ?_;refine Aj ?_;dsimp only at hR;by_cases h1:c.op=1/\Xe c=false
 ·rw[Ac h1] at hR;subst hR;obtain⟨h2,h3⟩:=h1;refine Aj ?_;refine EI (vs:=[py c]) ?_;rw[h3];refine Aj ?_;exact AV (vs:=[.agg (toArray (R4 KE)),iV 2]) [] _ rfl .refl (Cz rfl (.tail _ (.tail _ (.head _))) (As.LSub.of_all (n:=12) (R4 KE) rfl) (by exact Ba)) (.drop (.drop (.drop (.drop (Keep.dropL' cs .refl))))) ⟨rfl,rfl⟩
 rw[Ab h1] at hR;obtain⟨gb,sp,hp,hg⟩: ∃gb sp,(0<L.length->pp=some ⟨gb,0,none⟩)/\(0<L.length->cs=[IO gb (L.flatMap (UQ b4 b5)++sp)]):=by
  by_cases h0:0<L.length
  ·obtain⟨gb,cap2,sp,h2,h3⟩:=ND Nv h0;exact⟨gb,sp,λ_=>by simpa using BO (λv=>match v with|Value.slice p _ _=>p|_=>none) h2,λ_=>h3⟩
  ·exact⟨0,[],λh=>absurd h h0,λh=>absurd h h0⟩
 have Ade:c.op=1->Xe c=true:=λh=>by cases ho:Xe c with|true=>rfl|false=>exact absurd ⟨h,ho⟩ h1
 by_cases PU:c.op=1
 case' pos=>
  have ho:=Ade PU;refine Aj ?_;refine EI (vs:=[py c]) ?_;rw[ho];refine Aj ?_
 case' neg=>
  refine Aj ?_
 all_goals
  refine AQ λb8=>?_;refine AR (AA rfl rfl (iT c (.slice pp L.length cap) rfl _)) ?_;rintro _ _ ⟨B1,B2,rfl,rfl⟩;refine Vc ?_;refine NU ?_;refine xQ (α:=Nat×(IY×Int)×Int) (λz=>[(1,pV b1),(2,pV b2),(4,pV b4),(5,pV b5),(8,pV b8)]) (λz=>[Hq z.1]) (λz=>Cm z.1::PM b8 z.2.2::BP b5 z.2.1.2::If b4 z.2.1.1::If b2 KE::xP b1 c::(cs++l)) (λz=>XA c L (List.range 6) KE 0 0=z.2/\DcB z.2.1.1 z.2.1.2) ?_ ?_
  ·refine PX ?_;refine Df (α:=Int×Value) (ps:=[33,34]) (lb:=[pV B1,pV B2]) rfl (bV B1 B2 gb L.length cap pp c hp Af) (λ_=>rfl) rfl
    (λpre l1=> ∃o cn e,XA c L (List.range 6) KE 0 0=XA c L ((List.range 6).drop pre.length) o cn e/\DcB o cn/\l1=[PM b8 e,BP b5 cn,If b4 o])
    (λc' pre l1=>c'= .exit 0/\ ∃o cn,XA c L (List.range 6) KE 0 0=((o,cn),2)/\DcB o cn/\l1=[PM b8 2,BP b5 cn,If b4 o])
    [PM b8 0,BP b5 0,If b4 KE] ([fsB B2 (.slice pp L.length cap),xP B1 c,If b2 KE,xP b1 c]++(cs++l)) (λpre l1 X hX h=>⟨Aa _ (hX _ (.tail _ (.head _))),Aa _ (hX _ (.head _))⟩) (by exact AU) ⟨KE,0,0,rfl,⟨by decide,by decide⟩,rfl⟩ ?_ ?_ ?_
   ·rintro E r0 FS pre ⟨w,q⟩ l1 T ⟨fn,tmps,D,rfl⟩ hT ⟨o,cn,e,Rp,hb,rfl⟩ DB;obtain⟨hk,hw,hq⟩:=xR DB;simp only at hw hq;obtain⟨uw1,uw2⟩:=bX c hc pre.length;rw[hw] at uw1 uw2;rw[Ad7 hk,QI,hw] at Rp;simp only[DU,Ae,Ag];refine Aj ?_;refine CH (by exact DX) ?_;by_cases tx:pre.length<L.length
    ·rw[Ac tx] at hq;subst hq;obtain⟨f,hf⟩: ∃f,L[pre.length]?=some f:=⟨_,Al tx⟩
     have tc:=A3.1 Dm f (A6 hf);rw[hf] at Rp;dsimp only at Rp;have mg:IO gb (L.flatMap (UQ b4 b5)++sp)∈T:=hT _ (by rw[hg Af];simp);obtain⟨x1,x2⟩:=eZ (k:=4) (enc:=UQ b4 b5) (λ_=>rfl) hf sp;have z0:(toArray (L.flatMap (UQ b4 b5)++sp))[pre.length*4]?=some (Bc f.le):=lr x2 x1 (j:=0) AZ rfl;have z1:(toArray (L.flatMap (UQ b4 b5)++sp))[pre.length*4+1]?=some (Bc f.mo):=lr x2 x1 (j:=1) AZ rfl;by_cases Dc:w<f.le
     ·rw[Ac (.inl Dc)] at Rp;refine Aj ?_;exact Cg [PM b8 3,BP b5 cn,If b4 o] (by exact AU) ⟨o,cn,3,by rw[Rp,Ah];rfl,hb,rfl⟩
     by_cases XF:f.mo<w
     ·rw[Ac (.inr XF)] at Rp;refine Aj ?_;exact Cg [PM b8 3,BP b5 cn,If b4 o] (by exact AU) ⟨o,cn,3,by rw[Rp,Ah];rfl,hb,rfl⟩
     have NO:¬(w<f.le\/f.mo<w):=by omega
     rw[Ab NO] at Rp;have Wf:=hb.put tc NO;cases ha:f.at' with
     |none=>
      have pK:f.wd=false:=uz tc ha;obtain⟨r1,r2⟩:=oe tc pK;have zJ:UQ b4 b5 f=[Bc f.le,Bc f.mo,.pointer (some ⟨b5,0,none⟩),.pointer none]:=by unfold UQ;rw[pK,ha];rfl
      have hpf:Hd o cn f w=(o,w):=by unfold Hd;rw[ha]
      rw[zJ] at x2;rw[hpf] at Rp Wf;refine Aj ?_;refine Be (Dt rfl (by exact BW) x1 x2) ?_;refine Aj ?_;refine Bq (l':=BP b5 cn::PM b8 e::If b4 o::(r0,_)::T) (by exact AU) ?_;refine AR (AA (vs:=[fnV f.le f.mo b5 0,Bc w]) rfl rfl (Zj f.le f.mo b5 0 [iV cn] 3 w ⟨Af,Af⟩ Nat.one_pos _)) ?_;rintro _ _ ⟨rfl,rfl⟩;refine Aj ?_;exact Cg [PM b8 e,BP b5 w,If b4 o] (by exact AU) ⟨o,w,e,by rw[Rp,Ah];rfl,Wf,rfl⟩
     |some i=>
      have hpf:Hd o cn f w=(Nr o i w,cn):=by unfold Hd;rw[ha]
      rw[hpf] at Rp Wf;rcases od tc ha with⟨pK,hi⟩|⟨pK,hi⟩
      ·have zJ:UQ b4 b5 f=[Bc f.le,Bc f.mo,.pointer none,.pointer (some ⟨b4,i,none⟩)]:=by unfold UQ;rw[pK,ha];rfl
       rw[zJ] at x2;refine Aj ?_;refine Be (Dt rfl (by exact BW) x1 x2) ?_;refine Aj ?_;refine Bq (l':=If b4 o::PM b8 e::BP b5 cn::(r0,_)::T) (by exact AU) ?_;refine AR (AA (vs:=[fwV f.le f.mo b4 i,Bc w]) rfl rfl (n8 f.le f.mo b4 i (R4 o) 57 w (by simp;omega) _)) ?_;rintro _ _ ⟨rfl,rfl⟩;rw[<-sE hi];refine Aj ?_;exact Cg [PM b8 e,BP b5 cn,If b4 (Nr o i w)] (by exact AU) ⟨Nr o i w,cn,e,by rw[Rp,Ah];rfl,Wf,rfl⟩
      ·obtain⟨r1,r2⟩:=oe tc pK;have zJ:UQ b4 b5 f=[Bc f.le,Bc f.mo,.pointer (some ⟨b4,i,none⟩),.pointer none]:=by unfold UQ;rw[pK,ha];rfl
       rw[zJ] at x2;refine Aj ?_;refine Be (Dt rfl (by exact BW) x1 x2) ?_;refine Aj ?_;refine Bq (l':=If b4 o::PM b8 e::BP b5 cn::(r0,_)::T) (by exact AU) ?_;refine AR (AA (vs:=[fnV f.le f.mo b4 i,Bc w]) rfl rfl (Zj f.le f.mo b4 i (R4 o) 57 w ⟨Af,Af⟩ (by simp;omega) _)) ?_;rintro _ _ ⟨rfl,rfl⟩;rw[<-sD hi];refine Aj ?_;exact Cg [PM b8 e,BP b5 cn,If b4 (Nr o i w)] (by exact AU) ⟨Nr o i w,cn,e,by rw[Rp,Ah];rfl,Wf,rfl⟩
    ·rw[Ab tx] at hq;subst hq;rw[Bf Af] at Rp;dsimp only at Rp;by_cases hw0:w=0
     ·rw[Ac hw0] at Rp;refine Aj ?_;exact Cg [PM b8 e,BP b5 cn,If b4 o] (by exact AU) ⟨o,cn,e,by rw[Rp,Ah];rfl,hb,rfl⟩
     ·rw[Ab hw0] at Rp;refine Aj ?_;exact E2 [PM b8 2,BP b5 cn,If b4 o] (by exact AU) ⟨rfl,o,cn,Rp,hb,rfl⟩
   ·rintro D xs l1 rfl ⟨o,cn,e,Rp,hb,rfl⟩;rw[fb] at Rp;simp only[Ae,Ag];refine P0 ?_;exact eY (D,(o,cn),e) ⟨Rp,hb⟩ rfl ⟨rfl,rfl,rfl,rfl,rfl,trivial⟩ (by exact AU)
   ·rintro D c' pre l1 DB ⟨rfl,o,cn,Rp,hb,rfl⟩;simp only[Ae,Ag];refine SS ?_;refine Ja ?_;exact eY (D,(o,cn),2) ⟨Rp,hb⟩ rfl ⟨rfl,rfl,rfl,rfl,rfl,trivial⟩ (by exact AU)
  rintro⟨D,⟨o,cn⟩,e⟩ ⟨Rp,hb⟩;rw[Rp] at hR;unfold eX at hR;dsimp only at hR hb⊢;obtain⟨⟨q1,q2⟩,q3,q4⟩:=hb;by_cases he:e=0
  case neg=>rw[Ab he] at hR;subst hR;refine Aj ?_;refine Cn [2] 4 _ ?_ (hR:=(λ_ h=>h));refine BS ?_;refine Aj ?_;exact AV (vs:=[.agg (toArray (R4 KE)),iV e]) [D] _ rfl .refl (Cz rfl (.tail _ (.tail _ (.tail _ (.head _)))) (As.LSub.of_all (n:=12) (R4 KE) rfl) (by exact Ba)) (.drop (.drop (.drop (.drop (.drop (Keep.dropL' cs .refl)))))) ⟨rfl,rfl⟩
  rw[Ac he] at hR;subst hR he;obtain⟨p1,p2⟩:=oa hL;have z2:(toArray (R4 {o with op:=c.op}))[4+(2:Int).toNat*1]?=some (iV o.n2):=rfl;refine Aj ?_;refine ME (Gx (cs:=R4 {o with op:=c.op}) (cs':=R4 {o with op:=c.op,n2:=o.n2+16*cn}) (l':=Cm D::PM b8 0::BP b5 cn::If b4 {o with op:=c.op,n2:=o.n2+16*cn}::If b2 KE::xP b1 c::(cs++l)) rfl rfl rfl (by exact BW) (by exact .succ (.succ (.succ (.succ (.succ (.succ .zero)))))) (by exact DX)) rfl rfl ?_;rintro _ _ ⟨rfl,rfl⟩;refine Aj ?_;exact AV (vs:=[.agg (toArray (R4 {o with op:=c.op,n2:=o.n2+16*cn})),iV 0]) [D] _ rfl .refl (Cz rfl (.tail _ (.tail _ (.tail _ (.head _)))) (As.LSub.of_all (n:=12) (R4 {o with op:=c.op,n2:=o.n2+16*cn}) rfl) (by exact Ba)) (.drop (.drop (.drop (.drop (.drop (Keep.dropL' cs .refl)))))) ⟨rfl,rfl⟩
def V9(o:IY)(i:Nat):Int:=
 match i with
 |1=>o.a
 |2=>o.b
 |4=>o.n0
 |5=>o.n1
 |6=>o.n2
 |7=>o.w
 |8=>o.ms.a
 |9=>o.ms.b
 |10=>o.ms.c
 |11=>o.ms.d
 |_=>0
def IQ(o:IY)(cn:Int)(f:FoT):Int:=match f.at' with
 |none=>cn
 |some i=>V9 o i
theorem bY(h:OH f=true)(ha:f.at'=some i):i=1\/i=2\/i=4\/i=5\/i=6\/i=7\/i=8\/i=9\/i=10\/i=11:=by rcases od h ha with⟨_,h⟩|⟨_,h⟩<;>omega
theorem sG(h:OH f=true):IQ (Hd o cn f x).1 (Hd o cn f x).2 f=x:=by
 unfold IQ Hd;cases ha:f.at' with
 |none=>rfl
 |some i=>rcases bY h ha with rfl|rfl|rfl|rfl|rfl|rfl|rfl|rfl|rfl|rfl<;>rfl
theorem xS{g:FoT}(hf:OH f=true)(hg:OH g=true)(G5:f.at'≠g.at'):IQ (Hd o cn f x).1 (Hd o cn f x).2 g=IQ o cn g:=by
 unfold IQ Hd;cases ha:f.at' with
 |none=>cases hb:g.at' with
  |none=>exact absurd (ha.trans hb.symm) G5
  |some j=>rfl
 |some i=>cases hb:g.at' with
  |none=>rfl
  |some j=>have Wc:i≠j:=λh=>G5 (by rw[ha,hb,h]);rcases bY hf ha with rfl|rfl|rfl|rfl|rfl|rfl|rfl|rfl|rfl|rfl<;>rcases bY hg hb with rfl|rfl|rfl|rfl|rfl|rfl|rfl|rfl|rfl|rfl<;>first|rfl|exact absurd rfl Wc
def uC(L:List FoT):Prop:= ∀(i j:Nat) (f g:FoT),L[i]?=some f->L[j]?=some g->f.at'=g.at'->i=j
theorem Xg{c:OG}{L:List FoT}(hd:uC L)(Dm: ∀f,f∈L->OH f=true): ∀(r:List Nat),r.Nodup-> ∀(o:IY) (cn e:Int) (o':IY) (tD:Int),XA c L r o cn e=((o',tD),0)->
 e=0/\(∀i,i∈r->match L[i]? with
  |none=>(G3 c).getD i 0=0
  |some f=>IQ o' tD f=(G3 c).getD i 0/\f.le<=(G3 c).getD i 0/\(G3 c).getD i 0<=f.mo)/\(∀(g:FoT) (j:Nat),L[j]?=some g->j∉r->IQ o' tD g=IQ o cn g)
 |[],_,o,cn,e,o',tD,h=>by unfold XA at h;obtain⟨h1,h2⟩:=Prod.mk.inj h;obtain⟨rfl,rfl⟩:=Prod.mk.inj h1;exact⟨h2,λ_ h=>(nomatch h),λ_ _ _ _=>rfl⟩
 |i::r,hn,o,cn,e,o',tD,h=>by
  rw[AP] at hn;obtain⟨hi,hn⟩:=hn;rw[QI] at h;cases hL:L[i]? with
  |none=>
   rw[hL] at h;dsimp only at h;by_cases h0:(G3 c).getD i 0=0
   ·rw[Ac h0] at h;obtain⟨h1,h2,h3⟩:=Xg hd Dm r hn o cn e o' tD h;refine⟨h1,λj hj=>?_,λg j hg hj=>h3 g j hg λhh=>hj (.tail _ hh)⟩;rcases At.1 hj with rfl|hj
    ·rw[hL];exact h0
    ·exact h2 j hj
   ·rw[Ab h0] at h;exact absurd (show(2:Int)=0 from BO Prod.snd h) AZ
  |some f=>
   rw[hL] at h;dsimp only at h;have hf:=Dm f (A6 hL);by_cases hb:(G3 c).getD i 0<f.le\/f.mo<(G3 c).getD i 0
   ·rw[Ac hb] at h;exact absurd (Xg hd Dm r hn o cn 3 o' tD h).1 AZ
   ·rw[Ab hb] at h;obtain⟨h1,h2,h3⟩:=Xg hd Dm r hn _ _ e o' tD h;refine⟨h1,λj hj=>?_,λg j hg hj=>?_⟩
    ·rcases At.1 hj with rfl|hj
     ·rw[hL];exact⟨(h3 f _ hL hi).trans (sG hf),Af,Af⟩
     ·exact h2 j hj
    ·rw[h3 g j hg λhh=>hj (.tail _ hh)];exact xS hf (Dm g (A6 hg)) λhh=>hj (by rw[hd i j f g hL hg hh];exact .head _)
theorem sH(o:IY)(i:Nat)(x:Int)(h:i≠6):(Nr o i x).n2=o.n2:=by
 unfold Nr
 split<;>first|rfl|exact absurd rfl h
theorem Xh{c:OG}{L:List FoT}(hL: ∀f,f∈L->f.at'≠none/\f.at'≠some 6): ∀(r:List Nat) (o:IY) (cn e:Int),(XA c L r o cn e).1.2=cn/\(XA c L r o cn e).1.1.n2=o.n2
 |[],_,_,_=>⟨rfl,rfl⟩
 |i::r,o,cn,e=>by
  rw[QI];cases h:L[i]? with
  |none=>
   dsimp only
   split
   ·exact Xh hL r _ _ _
   ·exact⟨rfl,rfl⟩
  |some f=>
   dsimp only;have hp:(Hd o cn f ((G3 c).getD i 0)).2=cn/\(Hd o cn f ((G3 c).getD i 0)).1.n2=o.n2:=by
    have h9:=hL f (A6 h);unfold Hd;cases ha:f.at' with
    |none=>exact absurd ha h9.1
    |some j=>exact⟨rfl,sH o j _ λhj=>h9.2 (by rw[ha,hj])⟩
   split
   ·exact Xh hL r _ _ _
   ·obtain⟨h1,h2⟩:=Xh hL r (Hd o cn f ((G3 c).getD i 0)).1 (Hd o cn f ((G3 c).getD i 0)).2 e;exact⟨h1.trans hp.1,h2.trans hp.2⟩
def DcU(o:IY):Prop:=K6 o.a/\K6 o.b/\K6 o.w
theorem DcU.put(h:DcU o)(hx:K6 x):DcU (Hd o cn f x).1:=by
 obtain⟨h1,h2,h3⟩:=h;unfold Hd;cases f.at' with
 |none=>exact⟨h1,h2,h3⟩
 |some i=>
  dsimp only;unfold Nr
  split
  ·exact⟨hx,h2,h3⟩
  ·exact⟨h1,hx,h3⟩
  ·exact⟨h1,h2,h3⟩
  ·exact⟨h1,h2,h3⟩
  ·exact⟨h1,h2,h3⟩
  ·exact⟨h1,h2,hx⟩
  all_goals exact⟨h1,h2,h3⟩
theorem fc{c:OG}(hc:CL c){L:List FoT}: ∀(r:List Nat) (o:IY) (cn e:Int),DcU o->DcU (XA c L r o cn e).1.1
 |[],_,_,_,h=>h
 |i::r,o,cn,e,h=>by
  rw[QI];cases L[i]? with
  |none=>
   dsimp only
   split
   ·exact fc hc r _ _ _ h
   ·exact h
  |some f=>
   dsimp only
   split
   ·exact fc hc r _ _ _ h
   ·exact fc hc r _ _ _ (h.put (bX c hc i))
def og(L:List FoT):Bool:=decide ((L.map FoT.at').Nodup)
theorem sI(h:og L=true):uC L:=by
 intro i j f g hf hg he;have hn:(L.map FoT.at').Nodup:=by simpa[og] using h
 refine(List.getElem?_inj (l:=L.map FoT.at') (by rw[A7];exact(Ay.1 hf).1) hn).1 ?_;rw[A5,A5,hf,hg,BQ,BQ,he]
theorem oh{op:Int}(h:QE op=some L):og L=true/\(op≠1->L.all (λf=>f.at' !=none&&f.at' !=some 6)=true)/\(op=1->L=[SH 1,Xd (some 4) 0 15,Xd (some 5) 0 64,SH 2,Xd (some 6) 0 15,Xd none 1 4]):=by
 unfold QE at h;by_cases h0:op=1
 ·rw[Ac h0] at h;obtain rfl:=AX h;exact⟨by decide,λh=>absurd h0 h,λ_=>rfl⟩
 rw[Ab h0] at h;by_cases h1:op=2
 ·rw[Ac h1] at h;obtain rfl:=AX h;exact⟨by decide,λ_=>rfl,λh=>absurd h h0⟩
 rw[Ab h1] at h;by_cases h2:op=3
 ·rw[Ac h2] at h;obtain rfl:=AX h;exact⟨by decide,λ_=>rfl,λh=>absurd h h0⟩
 rw[Ab h2] at h;by_cases h3:op=4\/op=5\/op=12\/op=13
 ·rw[Ac h3] at h;obtain rfl:=AX h;exact⟨by decide,λ_=>rfl,λh=>absurd h h0⟩
 rw[Ab h3] at h;by_cases h4:op=6\/op=9\/op=11\/op=21\/op=22
 ·rw[Ac h4] at h;obtain rfl:=AX h;exact⟨by decide,λ_=>rfl,λh=>absurd h h0⟩
 rw[Ab h4] at h;by_cases h5:op=7
 ·rw[Ac h5] at h;obtain rfl:=AX h;exact⟨by decide,λ_=>rfl,λh=>absurd h h0⟩
 rw[Ab h5] at h;by_cases h6:op=8
 ·rw[Ac h6] at h;obtain rfl:=AX h;exact⟨by decide,λ_=>rfl,λh=>absurd h h0⟩
 rw[Ab h6] at h;by_cases h7:op=10
 ·rw[Ac h7] at h;obtain rfl:=AX h;exact⟨by decide,λ_=>rfl,λh=>absurd h h0⟩
 rw[Ab h7] at h;by_cases h8:op=14\/op=15
 ·rw[Ac h8] at h;obtain rfl:=AX h;exact⟨by decide,λ_=>rfl,λh=>absurd h h0⟩
 rw[Ab h8] at h;by_cases h9:op=16
 ·rw[Ac h9] at h;obtain rfl:=AX h;exact⟨by decide,λ_=>rfl,λh=>absurd h h0⟩
 rw[Ab h9] at h;by_cases Sa:op=17
 ·rw[Ac Sa] at h;obtain rfl:=AX h;exact⟨by decide,λ_=>rfl,λh=>absurd h h0⟩
 rw[Ab Sa] at h;by_cases jo:op=18
 ·rw[Ac jo] at h;obtain rfl:=AX h;exact⟨by decide,λ_=>rfl,λh=>absurd h h0⟩
 rw[Ab jo] at h;by_cases jR:op=19
 ·rw[Ac jR] at h;obtain rfl:=AX h;exact⟨by decide,λ_=>rfl,λh=>absurd h h0⟩
 rw[Ab jR] at h;by_cases zI:op=20
 ·rw[Ac zI] at h;obtain rfl:=AX h;exact⟨by decide,λ_=>rfl,λh=>absurd h h0⟩
 rw[Ab zI] at h;by_cases tu:op=23
 ·rw[Ac tu] at h;obtain rfl:=AX h;exact⟨by decide,λ_=>rfl,λh=>absurd h h0⟩
 rw[Ab tu] at h;cases h
def iU(op:Int)(o:IY):IY:=if op=1 then{o with n2:=o.n2%16} else o
def iW(op:Int)(o:IY):Int:=if op=1 then o.n2/16 else 0
theorem ol(h:(BV c).2=0): ∃L,QE c.op=some L/\(BV c).1.op=c.op/\0<=(BV c).1.n2/\(BV c).1.n2<=1000/\
 (∀i f,L[i]?=some f->i<6/\OH f=true/\IQ (iU c.op (BV c).1) (iW c.op (BV c).1) f=(G3 c).getD i 0/\f.le<=(G3 c).getD i 0/\(G3 c).getD i 0<=f.mo)/\(∀i,i<6->L.length<=i->(G3 c).getD i 0=0):=by
 cases hL:QE c.op with
 |none=>exfalso;unfold BV at h;rw[hL] at h;exact absurd (show(2:Int)=0 from h) AZ
 |some L=>
  refine⟨L,rfl,?_⟩;obtain⟨Dm,Ei⟩:=bW hL;obtain⟨hd,pC,hc2⟩:=oh hL;have zK: ∀f,f∈L->OH f=true:=λf hf=>A3.1 Dm f hf;obtain⟨R,hR⟩: ∃R,BV c=R:=⟨_,rfl⟩
  rw[hR] at h⊢;unfold BV at hR;rw[hL] at hR;dsimp only at hR;by_cases h1:c.op=1/\Xe c=false
  ·rw[Ac h1] at hR;subst hR;exact absurd (show(2:Int)=0 from h) AZ
  rw[Ab h1] at hR;obtain⟨⟨⟨o,cn⟩,e⟩,hq⟩: ∃q,XA c L (List.range 6) KE 0 0=q:=⟨_,rfl⟩
  rw[hq] at hR;unfold eX at hR;dsimp only at hR;by_cases he:e=0
  case neg=>rw[Ab he] at hR;subst hR;exact absurd h he
  rw[Ac he] at hR;subst he;obtain⟨_,h2,h3⟩:=Xg (sI hd) zK (List.range 6) List.nodup_range KE 0 0 o cn hq;have hz:¬c.op=1->cn=0/\o.n2=0:=λPU=>by have h9:=Xh (c:=c) (L:=L) (λf hf=>by simpa using A3.1 (pC PU) f hf) (List.range 6) KE 0 0;rw[hq] at h9;exact h9
  have hy:c.op=1->(0<=o.n2/\o.n2<=15)/\1<=cn/\cn<=4:=λPU=>by have e1:=hc2 PU;subst e1;have g4:=h2 4 AZ;have g5:=h2 5 AZ;simp only[C9,Da,IQ,V9] at g4 g5;omega
  have hx:iU c.op {o with op:=c.op,n2:=o.n2+16*cn}={o with op:=c.op}/\iW c.op {o with op:=c.op,n2:=o.n2+16*cn}=cn:=by
   unfold iU iW;by_cases PU:c.op=1
   ·obtain⟨⟨a1,a2⟩,a3,a4⟩:=hy PU;rw[Ac PU,Ac PU];dsimp only;rw[show(o.n2+16*cn)%16=o.n2 by omega];exact⟨rfl,Af⟩
   ·obtain⟨a1,a2⟩:=hz PU;rw[Ab PU,Ab PU];exact⟨by rw[show o.n2+16*cn=o.n2 by omega],a1.symm⟩
  have hb:0<=o.n2+16*cn/\o.n2+16*cn<=1000:=by
   by_cases PU:c.op=1
   ·have:=hy PU;omega
   ·have:=hz PU;omega
  subst hR;dsimp only;rw[hx.1,hx.2];refine⟨rfl,hb.1,hb.2,λi f hf=>?_,λi hi hl=>?_⟩
  ·have hi:i<L.length:=(Ay.1 hf).1;have h9:=h2 i (E6.2 Af);rw[hf] at h9;refine⟨Af,zK f (A6 hf),?_,h9.2⟩;rw[<-h9.1];unfold IQ;cases f.at' with
   |none=>rfl
   |some j=>dsimp only;unfold V9;split<;>rfl
  ·have h9:=h2 i (E6.2 hi);rw[Bf hl] at h9;exact h9
theorem uD(hc:CL c):DcU (BV c).1:=by
 have hz:DcU KE:=⟨Mz,Mz,Mz⟩
 unfold BV;cases QE c.op with
 |none=>exact hz
 |some L=>
  dsimp only
  split
  ·exact hz
  ·unfold eX
   split
   ·exact fc hc _ _ _ _ hz
   ·exact hz
theorem sJ{c d e:Bg}:(A++(a::b::c::d::e::l)).Perm (c::a::b::d::e::(A++l)):=B0
theorem Xi{v:Int}(h:K6 v):IntKind.u64.wrap v=v:=by exact Mp (P2 h.1 h.2)
theorem om(f:FoT)(hf:OH f=true)(X:IY)(n:Int)(b5 b6:Nat)(hu:K6 (IQ X n f))(l:Ad)(m5:If b5 X∈l)(m6:BP b6 n∈l):Fn prog 205 [.agg (toArray (UQ b5 b6 f))] l λv l'=>v=Bc (IQ X n f)/\l'=l:=by
 cases ha:f.at' with
 |none=>
  have hw:=uz hf ha;have e:UQ b5 b6 f=[Bc f.le,Bc f.mo,.pointer (some ⟨b6,0,none⟩),.pointer none]:=by unfold UQ;rw[hw,ha];rfl
  have g:IQ X n f=n:=by unfold IQ;rw[ha]
  rw[g] at hu⊢;rw[e,<-Xi hu];rw[Xi hu];have h:=Zi f.le f.mo b6 0 (toArray [iV n]) 3 (0,0) n l m6 rfl;rw[Xi hu] at h;exact h
 |some i=>
  have g:IQ X n f=V9 X i:=by unfold IQ;rw[ha]
  rw[g] at hu⊢;rcases od hf ha with⟨hw,hi⟩|⟨hw,hi⟩
  ·have e:UQ b5 b6 f=[Bc f.le,Bc f.mo,.pointer none,.pointer (some ⟨b5,i,none⟩)]:=by unfold UQ;rw[hw,ha];rfl
   rw[e];exact n7 f.le f.mo b5 i (toArray (R4 X)) 57 (0,0) (V9 X i) l m5 (by rcases hi with rfl|rfl|rfl|rfl|rfl<;>rfl)
  ·have e:UQ b5 b6 f=[Bc f.le,Bc f.mo,.pointer (some ⟨b5,i,none⟩),.pointer none]:=by unfold UQ;rw[hw,ha];rfl
   rw[e];have h:=Zi f.le f.mo b5 i (toArray (R4 X)) 57 (0,0) (V9 X i) l m5 (by rcases hi with rfl|rfl|rfl|rfl|rfl<;>rfl);rw[Xi hu] at h;exact h
instance:EQ prog 57 [some .i64,some .i64,some .i64,some .i64,some .i64,some .i64,some .i64,some .u64,some .u64,some .u64,some .u64,some .u64]:=⟨BB⟩
abbrev yW(B:Nat)(ws:Ap):Bg:=(B,.cells (toArray ws) 37 (0,0))
abbrev yX:OG:=⟨0,0,0,0,0,0,0⟩
structure EnW(c:OG)(k:Nat)(ws:Ap):Prop where
 len:ws.length=7
 op:ws[0]?=some (Bc c.op)
 ar: ∀j,j<6->ws[1+j]?=some (Bc (if j<k then(G3 c).getD j 0 else 0))
theorem EnW.next(h:EnW c k ws)(hk:k<6):EnW c (k+1) (ws.set (1+k) (Bc ((G3 c).getD k 0))):=by
 refine⟨by rw[CB];exact h.len,by rw[F8 Af];exact h.op,λj hj=>?_⟩;by_cases jF:j=k
 ·subst jF;rw[Ea (by rw[h.len];omega),Ac Af]
 ·rw[F8 Af,h.ar j hj];by_cases Dc:j<k
  ·rw[Ac Dc,Ac Af]
  ·rw[Ab Dc,Ab Af]
theorem EnW.all(h:EnW c k ws)(hz: ∀i,i<6->k<=i->(G3 c).getD i 0=0):ws=jv c:=by
 have hj: ∀j,j<6->ws[1+j]?=some (Bc ((G3 c).getD j 0)):=λj hj=>by
  rw[h.ar j hj];by_cases Dc:j<k
  ·rw[Ac Dc]
  ·rw[Ab Dc,hz j hj Af]
 have hl:=h.len;have h0:=h.op
 match ws,hl with
 |[a,b,c1,d,e,f,g],_=>have j0:=hj 0 AZ;have j1:=hj 1 AZ;have j2:=hj 2 AZ;have j3:=hj 3 AZ;have j4:=hj 4 AZ;have j5:=hj 5 AZ;simp[G3] at h0 j0 j1 j2 j3 j4 j5;rw[h0,j0,j1,j2,j3,j4,j5]
theorem bZ(c:OG)(hc:CL c)(h0:(BV c).2=0)(l:Ad):Fn prog 157 [orV (BV c).1] l λv l'=>v= .tuple #[py c,iV 0]/\l'=l:=by
 obtain⟨L,hL,PU,PQ,ZC,hg,hz⟩:=ol h0;have zL:=λl=>Uz c hc l;obtain⟨o,ho⟩: ∃o,(BV c).1=o:=⟨_,rfl⟩
 simp only[ho,h0] at PU PQ ZC hg zL⊢;obtain⟨tc,Ei⟩:=bW hL;obtain⟨p1,p2⟩:=oa hL;obtain⟨X,hX⟩: ∃X,iU c.op o=X:=⟨_,rfl⟩
 obtain⟨n,hn⟩: ∃n,iW c.op o=n:=⟨_,rfl⟩
 rw[hX,hn] at hg;unfold iU at hX;unfold iW at hn;rw[<-PU] at p1 p2 hX hn;have z2:(toArray (R4 o))[4+(2:Int).toNat*1]?=some (iV o.n2):=rfl;refine AO func157 ntmps157 λE=>?_;refine AQ λb1=>?_;refine AQ λb2=>?_;refine AQ λb4=>?_;refine AQ λb5=>?_;refine AQ λb6=>?_;refine RJ (α:=Unit) (λ_=>[(1,pV b1),(2,pV b2),(4,pV b4),(5,pV b5),(6,pV b6)]) (λ_=>BP b6 n::If b5 X::yW b4 (jv {yX with op:=c.op})::yW b2 (jv yX)::If b1 o::l) (λ_=>True) ?_ ?_
 ·by_cases h1:o.op=1
  ·rw[Ac h1] at hX hn;subst hX hn;refine Aj ?_;refine Cn [10,11] 12 ([If b1 o]) ?_ (hR:=(U2 BW));refine BS ?_;refine NZ (Gx (cs:=R4 o) (cs':=R4 {o with n2:=o.n2%16}) (l':=BP b6 0::If b5 {o with n2:=o.n2%16}::yW b4 (jv {yX with op:=o.op})::yW b2 (jv yX)::If b1 o::l) rfl rfl rfl (by exact BW) (by exact .succ (.succ (.succ (.succ (.succ (.succ .zero)))))) (by exact DX)) rfl rfl ?_ ?_
   ·rintro _ _ ⟨_,rfl⟩;exact U2 BW
   rintro _ _ ⟨rfl,rfl⟩;refine BS ?_;refine Aj ?_;exact EG () trivial ⟨rfl,rfl,rfl,rfl,rfl,trivial⟩ (by rw[<-PU];exact .refl)
  ·rw[Ab h1] at hX hn;subst hX hn;refine Aj ?_;exact EG () trivial ⟨rfl,rfl,rfl,rfl,rfl,trivial⟩ (by rw[<-PU];exact .refl)
 rintro- -;refine Aj ?_;refine AR (AA rfl rfl (V8 c.op b5 b6 _)) ?_;rw[hL];rintro _ _ ⟨sl,cs,rfl,Nv,rfl⟩;obtain⟨pp,cap,rfl⟩:=Nv.shape;refine Bq (.of_perm sJ) ?_;refine Aj ?_;refine CF (α:=Nat×Ap) (λz=>[(1,pV b1),(2,pV b2),(4,pV b4),(47,.slice pp L.length cap),(48,.int .i64 (L.length:Nat)),(49,.int .i64 z.1)]) (λz=>yW b4 z.2::BP b6 n::If b5 X::yW b2 (jv yX)::If b1 o::(cs++l)) (λz=>z.1<=L.length/\EnW c z.1 z.2) (λz=>L.length-z.1) (0,jv {yX with op:=c.op}) ⟨Bm _,rfl,rfl,λj hj=>by
  have:j=0\/j=1\/j=2\/j=3\/j=4\/j=5:=by omega
  rcases this with rfl|rfl|rfl|rfl|rfl|rfl<;>rfl⟩ ⟨rfl,rfl,rfl,rfl,rfl,rfl,trivial⟩ .refl ?_
 rintro⟨k,ws⟩ ⟨hk,hw⟩;simp only at hk hw⊢;by_cases Dc:k<L.length
 ·obtain⟨f,hf⟩: ∃f,L[k]?=some f:=⟨_,Al Dc⟩
  obtain⟨hk6,hfo2,hgf,_⟩:=hg k f hf;obtain⟨gb,cap2,sp,h2,rfl⟩:=ND Nv Af;cases h2;obtain⟨x1,x2⟩:=eZ (k:=4) (enc:=UQ b5 b6) (λ_=>rfl) hf sp;have hu:=bX c hc k;rw[<-hgf] at hu;have Wg:=hw.next hk6;have hl7:=hw.len;obtain⟨p,q,yj⟩: ∃p q:Option Addr,UQ b5 b6 f=[Bc f.le,Bc f.mo,.pointer p,.pointer q]:=by unfold UQ foP;cases f.wd<;>cases f.at'<;>exact⟨_,_,rfl⟩
  rw[yj] at x2;have XF:=λl m5 m6=>om f hfo2 X n b5 b6 hu l m5 m6;rw[yj] at XF;rw[Ci];refine Aj ?_;refine Be (Dt rfl (by exact BW) x1 x2) ?_;refine AQ λGX=>?_;refine tJ (v:=Bc (IQ X n f)) (by refine AL (vs:=[.agg (toArray [Bc f.le,Bc f.mo,.pointer p,.pointer q])]) rfl rfl λl2 hl=>?_;exact XF l2 (hl _ (by exact BW)) (hl _ (by exact BW))) rfl rfl rfl ?_
  refine Aj ?_;refine ME (Du (cs:=toArray ws) (T:=37) (off:=1+k*1) (l':=(GX,_)::(b4,.cells ((toArray ws).setIfInBounds (1+k*1) (Bc (IQ X n f))) 37 (0,0))::_) rfl rfl rfl (by exact DX) (by rw[Bt];omega)) rfl rfl ?_;rintro _ _ ⟨rfl,rfl⟩;rw[hgf,Dq,Bw];refine Aj ?_;exact BR (k+1,_) ⟨by simp only;omega,Wg⟩ (by simp only;omega) ⟨rfl,rfl,rfl,rfl,rfl,rfl,trivial⟩ (.drop .refl)
 ·obtain rfl:k=L.length:=by omega
  obtain rfl:=hw.all hz;refine Aj ?_;refine Be (AL (vs:=[py c]) rfl rfl λl2 hl=>zL l2) ?_;refine AQ λLT=>?_;refine QO (kz rfl rfl (ks:=[some .i64,some .i64,some .i64,some .i64,some .i64,some .i64,some .i64,some .u64,some .u64,some .u64,some .u64,some .u64]) (JR (by rfl))) rfl rfl rfl ?_;refine Aj ?_;exact AV (vs:=[py c,iV 0]) [] _ rfl .refl (Cz rfl (by exact BW) (As.LSub.of_all (n:=7) (jv c) rfl) (by exact Ba)) (.drop (.drop (.drop (.drop (.drop (.drop (Keep.dropL' cs .refl))))))) ⟨rfl,rfl⟩
end Go.Proofs.YtlifcingifodfaaGreat
