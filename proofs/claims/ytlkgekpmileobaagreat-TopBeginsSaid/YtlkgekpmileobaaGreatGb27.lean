/- Laws that the statement's proof leans on (joined out of several texts). -/
import Derived.Test.YtlkgekpmileobaaGreatGb8
import Derived.Test.YtlkgekpmileobaaGreatGb26
import Derived.Test.YtlkgekpmileobaaGreatGb10
import Derived.Test.YtlkgekpmileobaaGreatGb14
import Derived.Test.YtlkgekpmileobaaGreatGb22
import Derived.Test.YtlkgekpmileobaaGreatGb15
set_option linter.unusedVariables false
set_option linter.unusedSimpArgs false
namespace Go.Proofs.YtlkgekpmileobaaGreat
open Tryz
open List(toArray)
open Go.RowKit
set_option maxRecDepth 20000
variable{A B:List Ab}
theorem Keep.appL(X:List Ab)(h:Keep A B):Keep (X++A) (X++B):=by obtain⟨r,p⟩:=h;exact⟨r,(El X p).trans (Ay X r B)⟩
theorem Keep.dropL'(X:List Ab)(h:Keep A B):Keep (X++A) B:=by obtain⟨r,p⟩:=h;exact⟨X++r,by rw[Al];exact p.append_left X⟩
abbrev rm(B b:Nat):Ab:=(B,.cells #[.pointer (some ⟨b,0,none⟩)] 156 (0,0))
abbrev rn(B b:Nat):Ab:=(B,.cells #[.pointer (some ⟨b,0,none⟩)] 231 (0,0))
theorem jT(c d:CapT):CO (toArray (BR c)) 0 (toArray (BR d)).toList=toArray (BR d):=by cases c;cases d;simp[CO,BR]
set_option maxHeartbeats 400000
theorem Pj(w:Nat)(hw:w<18446744073709551616)(a n:Int)(h0:0<=a)(h1:1<=n)(h2:n<=63)(h3:a+n<=64)(l:List Ab):
 Fn prog 254 [.int .u64 (w:Nat),.int .i64 a,.int .i64 n] l λr l'=>r= .tuple #[.int .u64 (DN w a.toNat n.toNat:Nat),.int .i64 0]/\l'=l:=by
 obtain⟨a,rfl⟩: ∃q:Nat,a=q:=⟨a.toNat,Af⟩
 obtain⟨n,rfl⟩: ∃q:Nat,n=q:=⟨n.toNat,Af⟩
 exact IK w a n hw Af Af Af l
theorem jU(bs ba:Nat)(addr:Nat)(ha:addr<18446744073709551616)(depth:Int)(l:List Ab):
 Fn prog 273 [.pointer (some ⟨bs,0,none⟩),.pointer (some ⟨ba,0,none⟩),.int .u64 (addr:Nat),.int .i64 depth] l λv l'=>v= .int .i64 (if fo addr depth then 3 else 0)/\l'=l:=by
 refine AO func273 ntmps273 λE=>?_;by_cases h1:depth<1
 ·rw[Ae (.inl h1)];exact Es
 by_cases h2:depth>12
 ·rw[Ae (.inr (.inl h2))];exact Es
 refine Aj ?_;refine N9 (AK rfl rfl λl2 _=>OD addr ha depth l2) rfl rfl rfl ?_;cases hf:JQ addr depth with
 |false=>rw[Ae (.inr (.inr hf))];exact Es
 |true=>rw[Ac (by rintro(h|h|h)<;>first|omega|(rw[hf] at h;cases h))];exact Es
theorem br(bs ba addr:Nat)(root:CapT)(depth:Int)(l:List Ab):
 Fn prog 274 [.pointer (some ⟨bs,0,none⟩),.pointer (some ⟨ba,0,none⟩),.agg (toArray (BR root)),.int .u64 (addr:Nat),.int .i64 depth] l λv l'=>
  ∃B1 B2 B3 B4 B5,v= .func (.func 322) #[] #[.pointer (some ⟨B1,0,none⟩),.pointer (some ⟨B2,0,none⟩),.pointer (some ⟨B3,0,none⟩),.pointer (some ⟨B4,0,none⟩),.pointer (some ⟨B5,0,none⟩)]/\
   l'=FR B2 depth::Pe B4 addr::Bp B1 root::rm B3 ba::rn B5 bs::l:=by
 refine AO func274 ntmps274 λE=>?_;refine AQ λb5=>?_;refine AQ λb6=>?_;refine AQ λb7=>?_;refine AQ λb8=>?_;refine AQ λb9=>?_;exact A8 .refl ⟨_,_,_,_,_,rfl,rfl⟩
set_option maxHeartbeats 800000 in
theorem XT(B1 B2 B3 B4 B5 bs ba:Nat)(D:SD)(S:Ar.ArT)(lq la:List Ab)(hq:IsS bs D lq)(hA:Ar.IsA ba S la)(hR:jS S)(addr:Nat)(haddr:addr<18446744073709551616)(root:CapT)(depth:Int)(hd:depth<=12):
 E2 prog 322 [.pointer (some ⟨B1,0,none⟩),.pointer (some ⟨B2,0,none⟩),.pointer (some ⟨B3,0,none⟩),.pointer (some ⟨B4,0,none⟩),.pointer (some ⟨B5,0,none⟩)] (λy:W4=>[.agg (toArray (od y))]) (λxs=>xs=Fx D S addr 13 root depth) (λpre=>pre<+:Fx D S addr 13 root depth)
  (λ_ l=>(∀x,x∈[FR B2 depth,Pe B4 addr,Bp B1 root,rm B3 ba,rn B5 bs]->x∈l)/\(∀c,c∈lq->c∈l)/\(∀c,c∈la->c∈l)):=by
 refine⟨λr I Ix G0 hneed hY l G hG h0=>?_⟩;obtain⟨n1,n2,n3⟩:=hneed _ _ G hG h0;have m1:=n1 (Bp B1 root) (by simp);have m2:=n1 (FR B2 depth) (by simp);refine AO func322 ntmps322 λE=>?_;refine Aj ?_;refine Ce [2,3] 5 _ ?_ (hR:=(λ_ h=>h));refine BI ?_;apply CE
 ·exact e_alloc
 ·rfl
 ·rfl
 ·rfl
 ·rintro _ _ ⟨b7,_,_,rfl⟩ x hx;exact .tail _ hx
 rintro _ _ ⟨b7,hb7,rfl,rfl⟩;refine BI ?_;refine Aj ?_;have hL0:Fx D S addr 13 root depth=[]++Fx D S addr 13 root depth:=rfl;refine Cu (α:=CapT×Int×List W4×Nat×List Ab) (λx=>[(0,.func (.yield r) #[] #[]),(3,.pointer (some ⟨B3,0,none⟩)),(4,.pointer (some ⟨B4,0,none⟩)),(5,.pointer (some ⟨B5,0,none⟩)),(7,.pointer (some ⟨b7,0,none⟩)),(8,.int .i64 x.2.1)]) (λx=>x.2.2.2.2++(Bp b7 x.1::G))
  (λx=>I x.2.2.1 x.2.2.2.2/\Fx D S addr 13 root depth=x.2.2.1++Fx D S addr x.2.2.2.1 x.1 x.2.1/\x.2.1<=(x.2.2.2.1:Nat)/\x.2.1<=12) (λx=>x.2.1.toNat) (root,depth,[],13,l) ⟨h0,rfl,by simp only;omega,hd⟩ ⟨rfl,rfl,rfl,rfl,rfl,rfl,trivial⟩ (Keep.of_perm AH.symm) ?_
 clear n1 n2 n3 m1 m2 hL0 hb7;rintro⟨c,left,pre,f,l⟩ ⟨hI,hW,hf,hl12⟩;simp only at hI hW hf hl12⊢;obtain⟨n1,n2,n3⟩:=hneed _ _ (Bp b7 c::G) (λc hc=> .tail _ (hG c hc)) hI;have m3:=n1 (rm B3 ba) (by simp);have m4:=n1 (Pe B4 addr) (by simp);have m5:=n1 (rn B5 bs) (by simp);have m7:Bp b7 c∈l++(Bp b7 c::G):=Aa _ (.head _);by_cases hl0:left>0
 case neg=>have hE:Fx D S addr f c left=[]:=RG Af;rw[hE,Be] at hW;refine Aj ?_;exact A8 (Keep.appL l (.drop .refl)) ⟨l,rfl,.inl ⟨pre,hW.symm,hI⟩⟩
 obtain⟨f,rfl⟩: ∃q,f=q+1:=⟨f-1,Af⟩
 refine Aj ?_;refine Bc (AK rfl rfl λl2 hl=>Ar.get_any ba S la hA c.obj l2 λx hx=>hl x (n3 x hx)) ?_;obtain⟨o,ho⟩: ∃o,(Ar.getD' S c.obj).1=o:=⟨_,rfl⟩
 obtain⟨ok,hok⟩: ∃ok,(Ar.getD' S c.obj).2=ok:=⟨_,rfl⟩
 have hoA:jR S c=o:=ho;rw[ho,hok];refine Aj ?_;refine AS e_alloc ?_;rintro _ _ ⟨b9,_,rfl,rfl⟩;have m7':=An (Ar.obK b9 o) m7;refine Aj ?_;refine Bc (AK rfl rfl λl2 _=>Hq c l2) ?_;have hstop: ∀{F:List Ab},¬UG S c left->Keep (Ar.obK b9 o::(l++(Bp b7 c::G))) (l++G)/\Fx D S addr 13 root depth=pre:=λh=>by have hE:Fx D S addr (f+1) c left=[]:=No (XS h);rw[hE,Be] at hW;exact⟨.drop (Keep.appL l (.drop .refl)),hW⟩
 cases hM:E5 c with
 |false=>
  obtain⟨hk,hW'⟩:=hstop (F:=[]) λh=>by have h1:=h.1;rw[hM] at h1;cases h1
  refine Aj ?_;exact A8 hk ⟨l,rfl,.inl ⟨pre,hW'.symm,hI⟩⟩
 |true=>
 by_cases hk2:c.kind=2
 case neg=>obtain⟨hk,hW'⟩:=hstop (F:=[]) λh=>hk2 h.2.1;refine Aj ?_;exact A8 hk ⟨l,rfl,.inl ⟨pre,hW'.symm,hI⟩⟩
 cases hokb:ok with
 |false=>
  obtain⟨hk,hW'⟩:=hstop (F:=[]) λh=>by have h1:=h.2.2.1;rw[hok,hokb] at h1;cases h1
  refine Aj ?_;exact A8 hk ⟨l,rfl,.inl ⟨pre,hW'.symm,hI⟩⟩
 |true=>
 rw[hokb] at hok;by_cases hkd:o.kd=2
 case neg=>obtain⟨hk,hW'⟩:=hstop (F:=[]) λh=>hkd (by rw[<-hoA];exact h.2.2.2.1);refine Aj ?_;exact A8 hk ⟨l,rfl,.inl ⟨pre,hW'.symm,hI⟩⟩
 obtain⟨bt0,bt1,gd0,_⟩:=TI hM hk2;obtain⟨sz1,sz2⟩:1<=o.sz/\o.sz<=4:=by rw[<-ho] at hkd⊢;exact hR _ (Zp hok).1 hkd
 by_cases hbl:c.bits+o.sz>left
 ·obtain⟨hk,hW'⟩:=hstop (F:=[]) λh=>by have:=h.2.2.2.2;rw[hoA] at this;omega
  refine Aj ?_;exact A8 hk ⟨l,rfl,.inl ⟨pre,hW'.symm,hI⟩⟩
 have hgo:UG S c left:=⟨hM,hk2,hok,by rw[hoA];exact hkd,by rw[hoA];omega⟩
 clear hstop;refine Aj ?_;obtain⟨p1,p2,p3,p4,p5,p6⟩:=XR hR hgo;obtain⟨x,hx⟩: ∃x,NL S addr c left=x:=⟨_,rfl⟩
 have hx1:x.1=o.id:=by rw[<-hx];unfold NL;rw[hoA]
 have hx2:x.2=(DN addr (HP S c left).toNat o.sz.toNat:Nat):=by rw[<-hx];unfold NL;rw[hoA]
 have hlN:HP S c left=left-(c.bits+o.sz):=by unfold HP;rw[hoA]
 have hf16:DN addr (HP S c left).toNat o.sz.toNat<16:=fm Af;by_cases hb:c.bits>0
 case' pos=>
  have hgF:((mq addr c left:Nat):Int)=(DN addr (left-c.bits).toNat c.bits.toNat:Nat):=by unfold mq;rw[Ae hb]
  refine Aj ?_;refine Bc (AK rfl rfl λl2 _=>Pj addr haddr (left-c.bits) c.bits Af Af Af Af l2) ?_;rw[<-hgF];refine Aj ?_
 case' neg=>
  have hgF:((mq addr c left:Nat):Int)=0:=by unfold mq;rw[Ac hb];rfl
  refine Aj ?_
 all_goals
  refine Bc (AK rfl rfl λl2 _=>Pj addr haddr (left-(c.bits+o.sz)) o.sz Af Af Af Af l2) ?_;rw[<-hlN,<-hx2];refine AQ λb14=>?_;have HG: ∀l2,(∀z,z∈lq->z∈l2)->Fn prog 230 [.pointer (some ⟨bs,0,none⟩),.agg (toArray [.int .i64 o.id,.int .i64 x.2])] l2 λv l'=>v= .tuple #[.agg (toArray (BR (getD' D x).1)),.int .i64 (getD' D x).2]/\l'=l2:=λl2 h=>by rw[<-hx1];exact get_any bs D lq hq x l2 h
  refine Bc (AK rfl rfl λl2 hl=>HG l2 λz hz=>hl z (.tail _ (.tail _ (n2 z hz)))) ?_;obtain⟨nx,hnx⟩: ∃nx,(getD' D x).1=nx:=⟨_,rfl⟩
  obtain⟨er,her⟩: ∃er,(getD' D x).2=er:=⟨_,rfl⟩
  rw[hnx,her];refine Aj ?_;refine AS e_alloc ?_;rintro _ _ ⟨b15,_,rfl,rfl⟩;have m7b:=An (C8 b14 (o.id,x.2)) m7';refine Aj ?_;refine Bc (Ol rfl) ?_;rw[Tp];have hK:Keep (Bp b15 nx::C8 b14 (o.id,x.2)::Ar.obK b9 o::(l++(Bp b7 c::G))) (l++G):= .drop (.drop (.drop (Keep.appL l (.drop .refl))));by_cases hg:mq addr c left=PZ c.guard
  case neg=>have hE:Fx D S addr (f+1) c left=[]:=No (RF λh=>hg h.1);rw[hE,Be] at hW;refine Aj ?_;exact A8 hK ⟨l,rfl,.inl ⟨pre,hW.symm,hI⟩⟩
  by_cases he0:er=0
  case neg=>have hE:Fx D S addr (f+1) c left=[]:=No (RF λh=>he0 (by rw[<-her,<-hx];exact h.2));rw[hE,Be] at hW;refine Aj ?_;exact A8 hK ⟨l,rfl,.inl ⟨pre,hW.symm,hI⟩⟩
  have hst:MX D S addr c left=some ((x,HP S c left),nx):=by rw[bk hgo ⟨hg,by rw[hx,her,he0]⟩,hx,hnx]
  have hE:Fx D S addr (f+1) c left=(x,HP S c left)::Fx D S addr f nx (HP S c left):=Zq hl0 hst;rw[hE] at hW;have hpre:pre++[(x,HP S c left)]<+:Fx D S addr 13 root depth:=by rw[hW];exact⟨Fx D S addr f nx (HP S c left),by simp⟩
  have hy:=hY pre (x,HP S c left) l (Bp b15 nx::C8 b14 (o.id,x.2)::Ar.obK b9 o::Bp b7 c::G) (λz hz=> .tail _ (.tail _ (.tail _ (.tail _ (hG z hz))))) hI hpre;rw[show od (x,HP S c left)=[.int .i64 o.id,.int .i64 x.2,.int .i64 (HP S c left)] by rw[<-hx1]] at hy;refine Aj ?_;refine Bk (Keep.in_mid [Bp b15 nx,C8 b14 (o.id,x.2),Ar.obK b9 o] l (Bp b7 c::G)) ?_;refine It (CK rfl rfl hy) rfl rfl rfl ?_;rintro w l' ⟨l1,rfl,⟨rfl,hI'⟩|⟨rfl,hx⟩⟩
  case' inr=>
   refine Aj ?_;exact A8 (Keep.appL l1 (.drop (.drop (.drop (.drop .refl))))) ⟨l1,rfl,.inr ⟨_,hpre,hx⟩⟩
  all_goals
   have q15:Bp b15 nx∈l1++(Bp b15 nx::C8 b14 (o.id,x.2)::Ar.obK b9 o::Bp b7 c::G):=Aa _ (.head _);refine Aj ?_;apply LV
   ·exact Ee (b:=b7) (off:=0) (cs:=toArray (BR c)) (ws:=toArray (BR nx)) (n:=8) (l':=l1++(Bp b15 nx::C8 b14 (o.id,x.2)::Ar.obK b9 o::Bp b7 nx::G)) rfl rfl rfl (by simp[Value.oneCell']) (by rw[jT];exact Y4 (.there (.there (.there .here))) l1) (by simp)
   ·rfl
   ·rfl
   rintro _ _ ⟨rfl,rfl⟩;refine Aj ?_;refine BS (nx,HP S c left,pre++[(x,HP S c left)],f,l1) ⟨hI',?_,?_,?_⟩ ?_ ⟨rfl,rfl,rfl,rfl,rfl,rfl,trivial⟩ (Keep.appL l1 (.drop (.drop (.drop .refl))))
   ·rw[hW];simp
   ·simp only;omega
   ·simp only;omega
   ·simp only;omega
theorem RH(pre:List W4)(x:W4)(d:Int):OJ (pre++[x]) d=x:=by simp[OJ]
theorem TJ(D:SD)(S:Ar.ArT)(addr:Nat): ∀(f:Nat) (c:CapT) (left:Int) (pre:List W4) (x:W4),pre++[x]<+:Fx D S addr f c left->x.2=0->Fx D S addr f c left=pre++[x]
 |0,c,left,pre,x,h,_=>by have:=h.length_le;simp[Fx] at this
 |f+1,c,left,pre,x,h,hx=>by
  by_cases hl:left>0
  ·cases hs:MX D S addr c left with
   |none=>rw[No hs] at h;have:=h.length_le;simp at this
   |some y=>
    rw[Zq hl hs] at h⊢;cases pre with
    |nil=>obtain⟨t,ht⟩:=h;simp only[Ag,Ad,CJ] at ht;rw[<-ht.1,RG Af];rfl
    |cons p pre=>obtain⟨t,ht⟩:=h;simp only[Ad,CJ] at ht;rw[TJ D S addr f y.2 y.1.2 pre x ⟨t,ht.2⟩ hx,<-ht.1];rfl
  ·rw[RG Af] at h;have:=h.length_le;simp at this
abbrev sM(B:Nat)(y:W4):Ab:=(B,.cells (toArray (od y)) 443 (0,0))
theorem Wb(bs ba:Nat)(D:SD)(S:Ar.ArT)(lq la:List Ab)(hq:IsS bs D lq)(hA:Ar.IsA ba S la)(hR:jS S)(addr:Nat)(haddr:addr<18446744073709551616)(root:CapT)(depth:Int)(l:List Ab)(h1: ∀c,c∈lq->c∈l)(h2: ∀c,c∈la->c∈l):
 Fn prog 207 [.pointer (some ⟨bs,0,none⟩),.pointer (some ⟨ba,0,none⟩),.agg (toArray (BR root)),.int .u64 (addr:Nat),.int .i64 depth] l λv l'=>v= .tuple #[.agg (toArray (Cj (Wa D S root addr depth).1)),.int .i64 (Wa D S root addr depth).2]/\l'=l:=by
 refine AO func207 ntmps207 λE=>?_;refine AQ λb7=>?_;refine AQ λb10=>?_;refine Bc (AK rfl rfl λl2 _=>jU bs ba addr haddr depth l2) ?_;by_cases hb:fo addr depth
 ·rw[Ae hb,show Wa D S root addr depth=((0,0),3) by unfold Wa;rw[Ae hb]];refine Aj ?_;exact Cy (l':=l) (C8 b10 (0,0)::l) (by exact AR) (.drop .refl) ⟨rfl,rfl⟩
 rw[Ac hb];have hd12:depth<=12:=Decidable.byContradiction λh=>hb (.inr (.inl Af));have hd1:1<=depth:=Decidable.byContradiction λh=>hb (.inl Af);refine AQ λb13=>?_;refine AS (Az rfl rfl (br bs ba addr root depth _)) ?_;rintro _ _ ⟨B1,B2,B3,B4,B5,rfl,rfl⟩;refine Aj ?_;obtain⟨L,hL⟩: ∃L,Fx D S addr 13 root depth=L:=⟨_,rfl⟩
 have hres:Wa D S root addr depth=if(OJ L depth).2>0 then((0,0),12) else((OJ L depth).1,0):=by unfold Wa;rw[Ac hb,hL]
 refine CU (α:=W4) (ps:=[32]) (lb:=[.pointer (some ⟨B1,0,none⟩),.pointer (some ⟨B2,0,none⟩),.pointer (some ⟨B3,0,none⟩),.pointer (some ⟨B4,0,none⟩),.pointer (some ⟨B5,0,none⟩)]) rfl (XT B1 B2 B3 B4 B5 bs ba D S lq la hq hA hR addr haddr root depth hd12) (λ_=>rfl) rfl
  (λpre l=>l=[FR B2 depth,Pe B4 addr,Bp B1 root,rm B3 ba,rn B5 bs,sM b13 (OJ pre depth)]/\True)
  (λc pre l=>c= .exit 0/\ ∃(pre':List W4) (x:W4),pre=pre'++[x]/\x.2=0/\l=[sM b13 x])
  _ (C8 b10 (0,0)::Bp b7 root::l) (λpre l2 X2 hX h=>⟨λx hx=>by rw[h.1];exact Ai _ (by simp only[Aq,BK,Ec] at hx⊢;rcases hx with h|h|h|h|h<;>simp[h]),λc hc=>Aa _ (hX _ (.tail _ (.tail _ (h1 _ hc)))),λc hc=>Aa _ (hX _ (.tail _ (.tail _ (h2 _ hc))))⟩) (by exact AR) ⟨rfl,trivial⟩ ?_ ?_ ?_
 ·rintro E r0 rec pre x l' T ⟨fn,tmps,D0,rfl⟩ hT ⟨rfl,_⟩ hsp;simp only[Du,Ad,Ag];refine AQ λb14=>?_;refine Cp (by exact Dw) ?_;refine Aj ?_;by_cases hy:x.2=0
  ·refine Aj ?_;refine Et [sM b13 x] (by exact AR) ⟨rfl,pre,x,rfl,hy,rfl⟩
  ·refine Aj ?_;refine B9 [FR B2 depth,Pe B4 addr,Bp B1 root,rm B3 ba,rn B5 bs,sM b13 x] (by exact AR) ⟨by rw[RH],trivial⟩
 ·rintro D0 xs l' rfl ⟨rfl,_⟩;rw[hL] at*;simp only[Ad,Ag];refine Aj ?_;by_cases hz:(OJ L depth).2>0
  ·rw[hres,Ae hz];refine Aj ?_;exact AU [D0] (C8 b10 (0,0)::l) rfl (l':=l) (by exact AR) (by exact A7) (.drop .refl) ⟨rfl,rfl⟩
  ·rw[hres,Ac hz];refine Aj ?_;exact AU [D0] (C8 b10 (OJ L depth).1::l) rfl (l':=l) (by exact AR) (by exact A7) (.drop .refl) ⟨rfl,rfl⟩
 ·rintro D0 c pre l' hsp ⟨rfl,pre',x,rfl,hx0,rfl⟩;have hLx:L=pre'++[x]:=by rw[<-hL];exact TJ D S addr 13 root depth pre' x hsp hx0
  rw[hres,hLx,RH,Ac Af];simp only[Ad,Ag];refine Aj ?_;exact AU [D0] (C8 b10 x.1::l) rfl (l':=l) (by exact AR) (by exact A7) (.drop .refl) ⟨rfl,rfl⟩
end Go.Proofs.YtlkgekpmileobaaGreat
namespace Go.Proofs.YtlkgekpmileobaaGreat.Qu
open Tryz
open List(toArray)
open Go.RowKit
set_option maxRecDepth 20000
set_option maxHeartbeats 400000
variable{X:Nat->List Int}{p:Nat}{id:Int}
theorem first_any(b:Nat)(X:Nat->List Int)(lq:List Ab)(hq:IsQ b X lq)(l:List Ab)(hsub: ∀c,c∈lq->c∈l):
 Fn prog 103 [.pointer (some ⟨b,0,none⟩)] l λv l'=>v= .tuple #[.int .i64 (firstQ X).1,.bool (firstQ X).2]/\l'=l:=by
 obtain⟨vs,cs,hqs,rfl⟩:=hq;have hsub2: ∀c,c∈Hp cs 8->c∈l:=λc hc=>hsub c (An _ hc);refine AO func103 ntmps103 λE=>?_;refine Hj λb2=>?_;refine Hj λb3=>?_;refine AS (CZ rfl rfl (MH _ _)) ?_;rintro v l' ⟨B,hB,rfl,rfl⟩;refine gz ?_;refine CU (α:=Nat) (ps:=[8,9]) (lb:=[.pointer (some ⟨B,0,none⟩)]) rfl (Pc B b vs (λp=>(X p).length) hqs.shape) (λ_=>rfl) rfl
  (λpre l=>l=[(B,.cells #[.pointer (some ⟨b,0,none⟩)] 160 (0,0)),(b3,.cells #[.bool false] 4 (0,0)),(b2,.cells #[.int .i64 0] 3 (0,0))]/\pre=[])
  (λc pre l=>c= .ret/\ ∃(p:Nat),pre=[p]/\l=[(b2,.cells #[.int .i64 ((X p).headD 0)] 3 (0,0)),(b3,.cells #[.bool true] 4 (0,0))])
  _ l (λpre l2 X2 hX h=>⟨by rw[h.1];exact List.Mem.head _,Aa _ (hX _ (hsub _ Ak))⟩) (by exact AR) ⟨rfl,rfl⟩ ?_ ?_ ?_
 ·rintro E r0 rec pre y l' T ⟨fn,tmps,D,rfl⟩ hT ⟨rfl,rfl⟩ hsp;have hy:=(K8 _ _ _).1 (GD hsp (Aa _ Ak));have hn0:0<(X y).length:=by have:=hy.2.2;simp at this;exact List.length_pos_iff.2 this
  obtain⟨x,rest,hxr⟩: ∃x rest,X y=x::rest:=by
   cases h:X y with
   |nil=>rw[h] at hn0;simp at hn0
   |cons x r=>exact⟨x,r,rfl⟩
  obtain⟨a,cap,hv,hI⟩:=hqs.ints y hy.2.1 (Hp cs 8) (λ_ h=>h);obtain⟨gb,off,cc,t,fz,rfl,hm,hc⟩:=hI hn0;have hc0:cc[off+(0:Int).toNat*1]?=some (.int .i64 x):=hc 0 x (by rw[hxr];rfl);have hm': ∀c,c=(gb,Obj.cells cc t fz)->c∈T:=λc e=>by subst e;exact hT _ (hsub2 _ hm)
  have hmT:=hm' _ rfl;simp only[Du,Ad,Ag];rw[hv];refine gz ?_;refine Cp (by exact Dw) ?_;refine gz ?_;refine Bc (Dv (cs:=cc) rfl (.tail _ (.tail _ (.tail _ (.tail _ hmT)))) (by simpa using hc0)) ?_;refine gz ?_;refine D3 [(b2,.cells #[.int .i64 x] 3 (0,0)),(b3,.cells #[.bool true] 4 (0,0))] (by exact AR) ⟨rfl,y,rfl,by rw[hxr];rfl⟩
 ·rintro D xs l' rfl ⟨rfl,hpre⟩;have hfn:fallT (neX X) 0=[]:=hpre;simp only[Ad,Ag];refine gz ?_;exact AU [D] ((b2,.cells #[.int .i64 0] 3 (0,0))::(b3,.cells #[.bool false] 4 (0,0))::l) rfl (l':=l) (by exact AR) (by exact A7) (by exact AR) ⟨by simp[Iw,firstQ,hfn],rfl⟩
 ·rintro D c pre l' hsp ⟨rfl,p,rfl,rfl⟩;have hfd:firstQ X=((X p).headD 0,true):=by
   unfold firstQ;obtain⟨rest,hr⟩:=hsp;rw[show fallT (neX X) 0=[p]++rest from hr.symm];rfl
  simp only[Ad,Ag];refine gz ?_;exact AU [D] ((b2,.cells #[.int .i64 ((X p).headD 0)] 3 (0,0))::(b3,.cells #[.bool true] 4 (0,0))::l) rfl (l':=l) (by exact AR) (by exact A7) (by exact AR) ⟨by simp[Iw,hfd],rfl⟩
section
variable{ro:Option Nat}{N:Nat}{fr:Fr}{d:Option Nat}{ty:TypeId}{pos:String}{aft:Array Edge}{g:Option (Nat×Bool)}
end
theorem Fn.re{P:Program}{f:FuncId}{args:List Value}{l l2:List Ab}{K K':Value->List Ab->Prop}(k:Keep l l2)(h:Fn P f args l2 K)(hk: ∀v l',K v l'-> ∃l3,Keep l' l3/\K' v l3):Fn P f args l K':=
 ⟨λE W hs=>(h.run E W (k.sat hs)).mono λe W' he=>by obtain⟨v,l',h1,h2,h3⟩:=he;obtain⟨l3,h4,h5⟩:=hk v l' h2;exact⟨v,l3,h1,h5,h4.sat h3⟩⟩
theorem rp{vs:Nat->Value}{cs:Nat->List Ab}{b i:Nat}{F:List Ab}(hqs:QS X vs cs)(hp:p<8)(hi:i<(X p).length)(hlen:(X p).length<=1000000):
 Fn prog 200 [vs p,.int .i64 (i:Nat),.int .i64 ((i:Int)+1)] (qC b vs::(Hp cs 8++F)) λv l'=> ∃c2,OwnSl 3 1 v ((X p).eraseIdx i).length (((X p).eraseIdx i).map CA) c2/\l'=qC b vs::(Hp (upd cs p c2) 8++F):=by
 have hpm:(qC b vs::(Hp cs 8++F)).Perm (cs p++(qC b vs::(Hp (upd cs p []) 8++F))):=by refine(List.Perm.cons _ ((Lw cs p 8 hp).append_right F)).trans ?_;rw[Al];exact Ay [qC b vs] (cs p) _
 refine Fn.re (Keep.of_perm hpm) (delete_any _ _ i hi _ _ (hqs.own p hp) hlen) ?_;rintro v _ ⟨c2,ho,rfl⟩;refine⟨_,Keep.of_perm ((Ay c2 [qC b vs] _).trans ?_),c2,ho,rfl⟩;refine List.Perm.cons _ ?_;show List.Perm (c2++(Hp (upd cs p []) 8++F)) _;rw[<-Al];exact(Tm cs p hp c2).append_right F
def dropQ(X:Nat->List Int)(id:Int):Bool×(Nat->List Int):=
 match findP X id with
 |some p=>(true,upd X p ((X p).eraseIdx ((X p).idxOf id)))
 |none=>(false,X)
def backQ(X:Nat->List Int)(id:Int):Bool×(Nat->List Int):=
 match findP X id with
 |some p=>(true,upd X p ((X p).eraseIdx ((X p).idxOf id)++[id]))
 |none=>(false,X)
theorem Wc(h:findP X id=none):dd X id=(-1,-1):=by unfold dd;rw[h]
theorem Wd(h:findP X id=some p):dd X id=(((p:Nat):Int),(((X p).idxOf id:Nat):Int)):=by unfold dd;rw[h]
theorem drop_any(b:Nat)(X:Nat->List Int)(lq:List Ab)(id:Int)(hq:IsQ b X lq)(hb: ∀p,p<8->(X p).length<=1000000)(F:List Ab):
 Fn prog 153 [.pointer (some ⟨b,0,none⟩),.int .i64 id] (lq++F) λv l'=>v= .bool (dropQ X id).1/\ ∃lq',IsQ b (dropQ X id).2 lq'/\l'=lq'++F:=by
 have H:=II b X lq id hq hb;obtain⟨vs,cs,hqs,rfl⟩:=hq;refine AO func153 ntmps153 λE=>?_;cases hf:findP X id with
 |none=>
  rw[Wc hf] at H;dsimp only at H;have e:dropQ X id=(false,X):=by unfold dropQ;rw[hf]
  rw[e];simp only[Ad];refine gz ?_;refine Bc (AK rfl rfl (λl2 hl=>H l2 λc hc=>hl c (Ai F hc))) ?_;refine gz ?_;exact A8 .refl ⟨rfl,_,⟨vs,cs,hqs,rfl⟩,rfl⟩
 |some p=>
  obtain⟨hp,hmem,hlt⟩:=Rd X id p hf;rw[Wd hf] at H;dsimp only at H;have e:dropQ X id=(true,upd X p ((X p).eraseIdx ((X p).idxOf id))):=by unfold dropQ;rw[hf]
  rw[e];obtain⟨i,hi⟩: ∃i,(X p).idxOf id=i:=⟨_,rfl⟩
  rw[hi] at hlt H⊢;have hbp:=hb p hp;have hg:=Ut vs p hp;obtain⟨v,hv⟩: ∃v,vs p=v:=⟨_,rfl⟩
  rw[hv] at hg;simp only[Ad];refine gz ?_;refine Bc (AK rfl rfl (λl2 hl=>H l2 λc hc=>hl c (Ai F hc))) ?_;refine gz ?_;refine KH [(0,true),(1,true),(2,true),(3,true),(4,true),(5,true),(6,true),(7,true),(8,true),(9,true),(10,true),(12,true),(13,true),(11,false),(14,true),(15,false)] [[],[],[],[],[2],[2,4],[2,3,4,5],[2,3,4,5,6],[],[],[9],[2,3,4,5,6,7,8,9,10],[0],[0,12],[0,1,2,3,4,5,6,7,8,9,10,11,12,13],[0,1,2,3,4,5,6,7,8,9,10,11,12,13,14]] ([]) Bv Bv Gh Sn ?_;refine pz ?_;apply FD (S:=[qC b vs])
  ·exact Dv rfl Ak hg
  ·intro c hc;cases hc with
   |head=>exact Ak
   |tail _ h=>cases h
  ·rfl
  ·rfl
  ·rfl
  refine pz ?_;apply Gq
  ·exact CZ rfl rfl (by rw[<-hv];exact rp hqs hp hlt hbp)
  ·rfl
  ·rfl
  ·rfl
  ·intro _ _ _ c hc;cases hc
  ·exact λ_ _ _ x hx ha=>CV Bv hx ha
  rintro v' _ ⟨c2,ho,rfl⟩;have hv1:v'.oneCell'=true:=ho.one;refine pz ?_;apply GH
  ·exact C7 rfl rfl hv1 .here (by simp[hp])
  ·rfl
  ·rfl
  ·intro _ _ _ c hc;cases hc
  ·exact λ_ _ _ x hx ha=>CV Bv hx ha
  rintro _ _ ⟨rfl,rfl⟩;rw[Xv vs p hp v'];refine pz ?_;refine gz ?_;refine A8 .refl ⟨rfl,_,⟨_,_,hqs.upd p _ v' c2 ho,rfl⟩,rfl⟩
theorem back_any(b:Nat)(X:Nat->List Int)(lq:List Ab)(id:Int)(hq:IsQ b X lq)(hb: ∀p,p<8->(X p).length<=1000000)(F:List Ab):
 Fn prog 303 [.pointer (some ⟨b,0,none⟩),.int .i64 id] (lq++F) λv l'=>v= .bool (backQ X id).1/\ ∃lq',IsQ b (backQ X id).2 lq'/\l'=lq'++F:=by
 have H:=II b X lq id hq hb;have HD:=drop_any b X lq id hq hb F;refine AO func303 ntmps303 λE=>?_;cases hf:findP X id with
 |none=>
  obtain⟨vs,cs,hqs,rfl⟩:=hq;rw[Wc hf] at H;dsimp only at H;have e:backQ X id=(false,X):=by unfold backQ;rw[hf]
  rw[e];simp only[Ad];refine gz ?_;refine Bc (AK rfl rfl (λl2 hl=>H l2 λc hc=>hl c (Ai F hc))) ?_;refine gz ?_;exact A8 .refl ⟨rfl,_,⟨vs,cs,hqs,rfl⟩,rfl⟩
 |some p=>
  obtain⟨hp,hmem,hlt⟩:=Rd X id p hf;rw[Wd hf] at H;dsimp only at H;have e:backQ X id=(true,upd X p ((X p).eraseIdx ((X p).idxOf id)++[id])):=by unfold backQ;rw[hf]
  rw[e];have e2:dropQ X id=(true,upd X p ((X p).eraseIdx ((X p).idxOf id))):=by unfold dropQ;rw[hf]
  rw[e2] at HD;obtain⟨i,hi⟩: ∃i,(X p).idxOf id=i:=⟨_,rfl⟩
  rw[hi] at hlt H HD⊢;have hbp:=hb p hp;refine gz ?_;refine Bc (AK rfl rfl (λl2 hl=>H l2 λc hc=>hl c (Ai F hc))) ?_;refine gz ?_;refine AS (CZ rfl rfl HD) ?_;rintro _ _ ⟨rfl,lq',⟨vs,cs,hqs,rfl⟩,rfl⟩;simp only[Ad];have hg:=Ut vs p hp;obtain⟨v,hv⟩: ∃v,vs p=v:=⟨_,rfl⟩
  rw[hv] at hg;have hl2:(upd X p ((X p).eraseIdx i) p).length<=1000000:=by rw[DB,Ft];split<;>omega
  refine gz ?_;refine KH [(0,true),(1,true),(2,true),(3,true),(4,true),(5,true),(6,true),(7,true),(8,true),(11,true),(12,true),(9,false),(10,false),(13,true),(14,false)] [[],[],[],[],[2],[2,4],[2,3,4,5],[2,3,4,5,6],[],[8],[2,3,4,5,6,7,8,9],[0],[0,11],[0,1,2,3,4,5,6,7,8,9,10,11,12],[0,1,2,3,4,5,6,7,8,9,10,11,12,13]] ([]) Bv Bv Gh Sn ?_;refine pz ?_;apply FD (S:=[qC b vs])
  ·exact Dv rfl Ak hg
  ·intro c hc;cases hc with
   |head=>exact Ak
   |tail _ h=>cases h
  ·rfl
  ·rfl
  ·rfl
  refine pz ?_;apply Gq
  ·exact JL rfl rfl
  ·rfl
  ·rfl
  ·rfl
  ·intro _ _ _ c hc;cases hc
  ·rintro _ _ ⟨bl,_,rfl,rfl⟩ x hx _ c hc;cases hx with
   |head=>cases hc with
    |head=>exact .tail _ (.head _)
    |tail _ h=>cases h
   |tail _ h=>cases h
  rintro _ _ ⟨bl,_,rfl,rfl⟩;refine pz ?_;apply Gq
  ·exact dY hqs hp hl2 (by rw[hv];rfl) rfl
  ·rfl
  ·rfl
  ·rfl
  ·intro _ _ _ c hc;cases hc
  ·exact λ_ _ _ x hx ha=>CV Bv hx ha
  rintro v' _ ⟨c2,ho,rfl⟩;have hv1:v'.oneCell'=true:=ho.one;refine pz ?_;apply GH
  ·exact C7 rfl rfl hv1 .here (by simp[hp])
  ·rfl
  ·rfl
  ·intro _ _ _ c hc;cases hc
  ·exact λ_ _ _ x hx ha=>CV Bv hx ha
  rintro _ _ ⟨rfl,rfl⟩;rw[Xv vs p hp v'];refine pz ?_;refine gz ?_;have hu:=hqs.upd p _ v' c2 ho;dsimp only at hu;rw[DB,Zf] at hu;refine A8 .refl ⟨rfl,_,⟨_,_,hu,rfl⟩,rfl⟩
end Go.Proofs.YtlkgekpmileobaaGreat.Qu
namespace Go.Proofs.YtlkgekpmileobaaGreat.Th
open Tryz
open List(toArray)
open Go.RowKit
set_option maxRecDepth 20000
set_option maxHeartbeats 400000
theorem drop_any(b:Nat)(L:TL)(lq:List Ab)(hq:IsX b L lq)(id:Int)(G:List Ab):
 Fn prog 368 [.pointer (some ⟨b,0,none⟩),.int .i64 id] (lq++G) λv l'=>v= .int .i64 (dropD L id).1/\ ∃lq',IsX b (dropD L id).2 lq'/\l'=lq'++G:=by
 have hq0:=hq;obtain⟨m,es,clock,rfl,hX⟩:=hq;refine AO func368 ntmps368 λE=>?_;simp only[Ad,Ag];refine gz ?_;rw[hX.look,hX.has];refine gz ?_;refine AS e_alloc ?_;rintro _ _ ⟨b5,_,rfl,rfl⟩;iterate 4 refine qO ?_
 cases hf:findH L id with
 |some t=>rw[show dropD L id=(0,L.filter λx=>decide (x.id≠id)) by unfold dropD;rw[hf];rfl];refine gz ?_;refine LV (QZ (a:=id) (es:=es) (clock:=clock) rfl rfl (by exact Dw)) rfl rfl ?_;rintro _ _ ⟨rfl,rfl⟩;refine gz ?_;exact A8 (.drop .refl) ⟨rfl,_,⟨m,_,_,rfl,hX.drop id⟩,rfl⟩
 |none=>rw[show dropD L id=(2,L) by unfold dropD;rw[hf];rfl];refine gz ?_;exact A8 (.drop .refl) ⟨rfl,_,hq0,rfl⟩
theorem server_any(b:Nat)(L:TL)(lq:List Ab)(hq:IsX b L lq)(hn:L.length<=900000)(id:Int)(l:List Ab)(hsub: ∀c,c∈lq->c∈l):
 Fn prog 261 [.pointer (some ⟨b,0,none⟩),.int .i64 id] l λv l'=>v= .int .i64 (serverD L id)/\l'=l:=by
 refine AO func261 ntmps261 λE=>?_;refine Hj λb3=>?_;refine Hj λb4=>?_;refine AS (Az rfl rfl (Ij _ rfl _)) ?_;rintro _ _ ⟨B,rfl,rfl⟩;refine gz ?_;refine CU (α:=ThT) (ps:=[8]) (lb:=[.pointer (some ⟨B,0,none⟩)]) rfl (G1 B b L lq hq hn) (λ_=>rfl) rfl
  (λpre l=>l=[xB B (.pointer (some ⟨b,0,none⟩)),FR b4 0,FR b3 id]/\ ∀x,x∈pre->¬(id≠0/\x.ca=id))
  (λc pre l=>c= .ret/\ ∃(pre':TL) (t:ThT),pre=pre'++[t]/\(∀x,x∈pre'->¬(id≠0/\x.ca=id))/\id≠0/\t.ca=id/\l=[FR b4 t.id])
  _ l (λpre l2 X2 hX h=>⟨by rw[h.1];exact List.Mem.head _,λc hc=>Aa _ (hX _ (hsub _ hc))⟩) (by exact AR) ⟨rfl,by simp⟩ ?_ ?_ ?_
 ·rintro E r0 rec pre y l' T ⟨fn,tmps,D,rfl⟩ hT ⟨rfl,hpre⟩ hsp;simp only[Du,Ad,Ag];refine Hj λb5=>?_;refine Cp (by exact Dw) ?_;by_cases h0:id=0
  ·refine gz ?_;refine B9 _ (.drop .refl) ⟨rfl,λx hx=>λh=>h.1 h0⟩
  by_cases hy:y.ca=id
  ·refine gz ?_;refine D3 [FR b4 y.id] (by exact AR) ⟨rfl,pre,y,rfl,hpre,h0,hy,rfl⟩
  ·refine gz ?_;refine B9 _ (.drop .refl) ⟨rfl,λx hx=>?_⟩;rcases AF.1 hx with hx|hx
   ·exact hpre x hx
   ·rw[AA.1 hx];exact λh=>hy h.2
 ·rintro D xs l' rfl ⟨rfl,hpre⟩;rw[aW hpre];simp only[Ad,Ag];refine gz ?_;exact AU [D] (FR b4 0::l) rfl (l':=l) (by exact AR) (by exact A7) (.drop .refl) ⟨rfl,rfl⟩
 ·rintro D c pre l' hsp ⟨rfl,pre',t,rfl,hp',h0,ht,rfl⟩;rw[fe hsp h0 (λx hx h=>hp' x hx ⟨h0,h⟩) ht];simp only[Ad,Ag];refine gz ?_;exact AU [D] (FR b4 t.id::l) rfl (l':=l) (by exact AR) (by exact A7) (.drop .refl) ⟨rfl,rfl⟩
end Go.Proofs.YtlkgekpmileobaaGreat.Th
namespace Go.Proofs.YtlkgekpmileobaaGreat.As
open Tryz
open List(toArray)
open Go.RowKit
set_option maxRecDepth 20000
theorem fq(rb:Nat)(x r q:Int)(l:List Ab)(hx:(rb,Obj.cells #[.int .i64 x] 3 (0,0))∈l):Fn prog 393 [.int .i64 r,.int .i64 q,.pointer (some ⟨rb,0,none⟩)] l λv l'=>v= .bool (HE x r q)/\l'=l:=by refine AO func393 ntmps393 λE=>?_;exact Es
theorem mu(rb:Nat)(x r q:Int)(l:List Ab)(hx:(rb,Obj.cells #[.int .i64 x] 3 (0,0))∈l):Fn prog 394 [.int .i64 r,.int .i64 q,.pointer (some ⟨rb,0,none⟩)] l λv l'=>v= .bool (VS x r q)/\l'=l:=by refine AO func394 ntmps394 λE=>?_;exact Es
set_option maxHeartbeats 1000000 in
theorem root_any(b:Nat)(s:ASt)(r:Int)(l:List Ab)(hA:asA b s∈l):Fn prog 390 [.pointer (some ⟨b,0,none⟩),.int .i64 r] l λv l'=>v= .tuple #[.int .i64 (rootP s r).1,.int .i64 (rootP s r).2.1,.bool (rootP s r).2.2]/\l'=l:=by
 refine AO func390 ntmps390 λE=>?_;refine Hj λrb=>?_;cases hf:JP s (VS r) with
 |none=>refine Bc (AK rfl rfl (λl hl=>Ng b rb _ s r (VS r) hf l (hl _ (by exact BO)) (hl _ (by exact BO)) (λr' q l h=>mu rb r r' q l h))) ?_;refine Hj λb7=>?_;exact AU [] l rfl (l':=l) (by exact AR) (by exact A7) .refl ⟨by simp[Iw,rootP,hf],rfl⟩
 |some n=>have hlt:=(Rg s _ n hf).1;have qs:=s.c_root (n/4) (n%4) Af Af;rw[show 4*(n/4)+n%4=n by omega] at qs;refine Bc (AK rfl rfl (λl hl=>Nf b rb _ s r (VS r) n hf l (hl _ (by exact BO)) (hl _ (by exact BO)) (λr' q l h=>mu rb r r' q l h))) ?_;refine Hj λb7=>?_;refine Ce [] 16 _ ?_ (hR:=(λ_ h=>h));refine pz ?_;refine gz ?_;exact AU [] l rfl (l':=l) (by exact AR) (by exact A7) .refl ⟨by simp[Iw,rootP,hf],rfl⟩
set_option maxHeartbeats 1000000 in
theorem unassign_any(b:Nat)(s:ASt)(r:Int)(F:List Ab):
 Fn prog 386 [.pointer (some ⟨b,0,none⟩),.int .i64 r] (asA b s::F) λv l'=>v= .tuple #[.int .i64 (unP s r).1,.int .i64 (unP s r).2.1]/\l'=asA b (unP s r).2.2::F:=by
 refine AO func386 ntmps386 λE=>?_;refine Hj λrb=>?_;cases hf:JP s (HE r) with
 |none=>refine Bc (AK rfl rfl (λl hl=>Ng b rb _ s r (HE r) hf l (hl _ (by exact BO)) (hl _ (by exact BO)) (λr' q l h=>fq rb r r' q l h))) ?_;refine Hj λb7=>?_;exact AU [] (asA b s::F) rfl (l':=asA b s::F) (by exact AR) (by exact A7) .refl ⟨by simp[Iw,unP,hf],by simp[unP,hf]⟩
 |some n=>
  have hlt:=(Rg s _ n hf).1;have e1:=s.s_root (n/4) (n%4) Af Af 0;rw[show 4*(n/4)+n%4=n by omega] at e1;have e2:=({s with root:=upd s.root n 0}:ASt).s_ser (n/4) (n%4) Af Af 0;rw[show 4*(n/4)+n%4=n by omega] at e2;refine Bc (AK rfl rfl (λl hl=>Nf b rb _ s r (HE r) n hf l (hl _ (by exact BO)) (hl _ (by exact BO)) (λr' q l h=>fq rb r r' q l h))) ?_;refine Hj λb7=>?_;refine KH [(0,true),(1,true),(2,true),(3,true),(4,true),(5,true),(6,true),(7,true),(8,true),(9,true),(10,true),(11,true),(12,true),(13,true),(14,true),(16,true),(17,true),(18,true),(19,true),(15,false),(20,true),(21,false)] [[],[],[1],[],[3],[],[],[6],[],[8],[0],[0,10],[0,1,2,10,11],[0,1,2,10,11,12],[0,1,2,3,4,10,11,12,13],[0,1,2,3,4,10,11,12,13,14],[5],[5,16],[5,6,7,16,17],[5,6,7,16,17,18],[0,1,2,3,4,5,6,7,8,9,10,11,12,13,14,15,16,17,18,19],[0,1,2,3,4,5,6,7,8,9,10,11,12,13,14,15,16,17,18,19,20]] ([(b7,.cells #[.int .i64 (n:Nat),.int .i64 ((n/4:Nat):Int),.int .i64 ((n%4:Nat):Int)] 361 (0,0))]) Bv Bv Gh Sn ?_;refine pz ?_;apply Mu
  ·exact C7 (cs:=s.cells) rfl rfl rfl (by exact Dw) (by rw[s.cells_size];omega)
  ·rfl
  ·rfl
  ·rintro _ _ ⟨rfl,rfl⟩;exact(BZ (by exact K5))
  rintro _ _ ⟨rfl,rfl⟩;rw[e1];refine pz ?_;apply Mu
  ·exact C7 (cs:=({s with root:=upd s.root n 0}:ASt).cells) rfl rfl rfl (by exact Dw) (by rw[ASt.cells_size];omega)
  ·rfl
  ·rfl
  ·rintro _ _ ⟨rfl,rfl⟩;exact(BZ (by exact K5))
  rintro _ _ ⟨rfl,rfl⟩;rw[e2];refine pz ?_;refine gz ?_;exact AU [] (asA b (s.give0 n)::F) rfl (l':=asA b (s.give0 n)::F) (by exact AR) (by exact A7) .refl ⟨by simp[Iw,unP,hf],by simp[unP,hf]⟩
end Go.Proofs.YtlkgekpmileobaaGreat.As
