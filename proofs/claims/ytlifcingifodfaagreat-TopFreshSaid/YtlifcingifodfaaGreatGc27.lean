/- Laws that the statement's proof leans on (joined out of several texts). -/
import Derived.Test.YtlifcingifodfaaGreatGc26
set_option maxHeartbeats 4000000
set_option linter.unusedVariables false
set_option linter.unusedSimpArgs false
namespace Go.Proofs.YtlifcingifodfaaGreat
open Tryz
open List(toArray)
open Go.RowKit
set_option maxRecDepth 20000
variable{A B:Ad}
theorem Keep.appL(X:Ad)(h:Keep A B):Keep (X++A) (X++B):=by obtain⟨r,p⟩:=h;exact⟨r,(EX X p).trans (Az X r B)⟩
theorem Keep.dropL'(X:Ad)(h:Keep A B):Keep (X++A) B:=by obtain⟨r,p⟩:=h;exact⟨X++r,by rw[Am];exact p.append_left X⟩
abbrev ptA(B b:Nat):Bg:=(B,.cells #[.pointer (some ⟨b,0,none⟩)] 155 (0,0))
abbrev ptS(B b:Nat):Bg:=(B,.cells #[.pointer (some ⟨b,0,none⟩)] 230 (0,0))
theorem q8(c d:CapT):C8 (toArray (B9 c)) 0 (toArray (B9 d)).toList=toArray (B9 d):=by cases c;cases d;simp[C8,B9]
theorem Re(w:Nat)(hw:w<18446744073709551616)(a n:Int)(h0:0<=a)(h1:1<=n)(h2:n<=63)(h3:a+n<=64)(l:Ad):
 Fn prog 253 [.int .u64 (w:Nat),.int .i64 a,.int .i64 n] l λr l'=>r= .tuple #[.int .u64 (Ee w a.toNat n.toNat:Nat),.int .i64 0]/\l'=l:=by
 obtain⟨a,rfl⟩: ∃q:Nat,a=q:=⟨a.toNat,Af⟩
 obtain⟨n,rfl⟩: ∃q:Nat,n=q:=⟨n.toNat,Af⟩
 exact JK w a n hw Af Af Af l
theorem ra(bs ba:Nat)(Ch:Nat)(ha:Ch<18446744073709551616)(depth:Int)(l:Ad):
 Fn prog 272 [.pointer (some ⟨bs,0,none⟩),.pointer (some ⟨ba,0,none⟩),.int .u64 (Ch:Nat),.int .i64 depth] l λv l'=>v= .int .i64 (if lV Ch depth then 3 else 0)/\l'=l:=by
 refine AO func272 ntmps272 λE=>?_;by_cases h1:depth<1
 ·rw[Ac (.inl h1)];exact E4
 by_cases h2:depth>12
 ·rw[Ac (.inr (.inl h2))];exact E4
 refine Aj ?_;refine QO (AL rfl rfl λl2 _=>Qh Ch ha depth l2) rfl rfl rfl ?_;cases hf:KY Ch depth with
 |false=>rw[Ac (.inr (.inr hf))];exact E4
 |true=>rw[Ab (by rintro(h|h|h)<;>first|omega|(rw[hf] at h;cases h))];exact E4
theorem gV(bs ba Ch:Nat)(root:CapT)(depth:Int)(l:Ad):
 Fn prog 273 [.pointer (some ⟨bs,0,none⟩),.pointer (some ⟨ba,0,none⟩),.agg (toArray (B9 root)),.int .u64 (Ch:Nat),.int .i64 depth] l λv l'=>
  ∃B1 B2 B3 B4 B5,v= .func (.func 321) #[] #[.pointer (some ⟨B1,0,none⟩),.pointer (some ⟨B2,0,none⟩),.pointer (some ⟨B3,0,none⟩),.pointer (some ⟨B4,0,none⟩),.pointer (some ⟨B5,0,none⟩)]/\
   l'=GA B2 depth::Q9 B4 Ch::Bv B1 root::ptA B3 ba::ptS B5 bs::l:=by
 refine AO func273 ntmps273 λE=>?_;refine AQ λb5=>?_;refine AQ λb6=>?_;refine AQ λb7=>?_;refine AQ λb8=>?_;refine AQ λb9=>?_;exact Bb .refl ⟨_,_,_,_,_,rfl,rfl⟩
theorem aM(B1 B2 B3 B4 B5 bs ba:Nat)(D:SD)(S:Ar.ArT)(lq la:Ad)(hq:IsS bs D lq)(hA:Ar.IsA ba S la)(hR:qZ S)(Ch:Nat)(XG:Ch<18446744073709551616)(root:CapT)(depth:Int)(hd:depth<=12):
 FA prog 321 [.pointer (some ⟨B1,0,none⟩),.pointer (some ⟨B2,0,none⟩),.pointer (some ⟨B3,0,none⟩),.pointer (some ⟨B4,0,none⟩),.pointer (some ⟨B5,0,none⟩)] (λy:Zy=>[.agg (toArray (wv y))]) (λxs=>xs=Gb D S Ch 13 root depth) (λpre=>pre<+:Gb D S Ch 13 root depth)
  (λ_ l=>(∀x,x∈[GA B2 depth,Q9 B4 Ch,Bv B1 root,ptA B3 ba,ptS B5 bs]->x∈l)/\(∀c,c∈lq->c∈l)/\(∀c,c∈la->c∈l)):=by
 refine⟨λr I Ix G0 Ca hY l G hG h0=>?_⟩;obtain⟨n1,n2,n3⟩:=Ca _ _ G hG h0;have m1:=n1 (Bv B1 root) (by simp);have m2:=n1 (GA B2 depth) (by simp);refine AO func321 ntmps321 λE=>?_;refine Aj ?_;refine Cn [2,3] 5 _ ?_ (hR:=(λ_ h=>h));refine BS ?_;apply CS
 ·exact e_alloc
 ·rfl
 ·rfl
 ·rfl
 ·rintro _ _ ⟨b7,_,_,rfl⟩ x hx;exact .tail _ hx
 rintro _ _ ⟨b7,hb7,rfl,rfl⟩;refine BS ?_;refine Aj ?_;have fJ:Gb D S Ch 13 root depth=[]++Gb D S Ch 13 root depth:=rfl;refine CF (α:=CapT×Int×List Zy×Nat×Ad) (λx=>[(0,.func (.yield r) #[] #[]),(3,.pointer (some ⟨B3,0,none⟩)),(4,.pointer (some ⟨B4,0,none⟩)),(5,.pointer (some ⟨B5,0,none⟩)),(7,.pointer (some ⟨b7,0,none⟩)),(8,.int .i64 x.2.1)]) (λx=>x.2.2.2.2++(Bv b7 x.1::G))
  (λx=>I x.2.2.1 x.2.2.2.2/\Gb D S Ch 13 root depth=x.2.2.1++Gb D S Ch x.2.2.2.1 x.1 x.2.1/\x.2.1<=(x.2.2.2.1:Nat)/\x.2.1<=12) (λx=>x.2.1.toNat) (root,depth,[],13,l) ⟨h0,rfl,by simp only;omega,hd⟩ ⟨rfl,rfl,rfl,rfl,rfl,rfl,trivial⟩ (Keep.of_perm AI.symm) ?_
 clear n1 n2 n3 m1 m2 fJ hb7;rintro⟨c,left,pre,f,l⟩ ⟨hI,hW,hf,hl12⟩;simp only at hI hW hf hl12⊢;obtain⟨n1,n2,n3⟩:=Ca _ _ (Bv b7 c::G) (λc hc=> .tail _ (hG c hc)) hI;have m3:=n1 (ptA B3 ba) (by simp);have m4:=n1 (Q9 B4 Ch) (by simp);have m5:=n1 (ptS B5 bs) (by simp);have m7:Bv b7 c∈l++(Bv b7 c::G):=Aa _ (.head _);by_cases pB:left>0
 case neg=>have hE:Gb D S Ch f c left=[]:=T0 Af;rw[hE,Bi] at hW;refine Aj ?_;exact Bb (Keep.appL l (.drop .refl)) ⟨l,rfl,.inl ⟨pre,hW.symm,hI⟩⟩
 obtain⟨f,rfl⟩: ∃q,f=q+1:=⟨f-1,Af⟩
 refine Aj ?_;refine Be (AL rfl rfl λl2 hl=>Ar.get_any ba S la hA c.obj l2 λx hx=>hl x (n3 x hx)) ?_;obtain⟨o,ho⟩: ∃o,(Ar.getD' S c.obj).1=o:=⟨_,rfl⟩
 obtain⟨ok,Dm⟩: ∃ok,(Ar.getD' S c.obj).2=ok:=⟨_,rfl⟩
 have vu:qY S c=o:=ho;rw[ho,Dm];refine Aj ?_;refine AR e_alloc ?_;rintro _ _ ⟨b9,_,rfl,rfl⟩;have m7':=An (Ar.obK b9 o) m7;refine Aj ?_;refine Be (AL rfl rfl λl2 _=>Io c l2) ?_;have Kn: ∀{F:Ad},¬WP S c left->Keep (Ar.obK b9 o::(l++(Bv b7 c::G))) (l++G)/\Gb D S Ch 13 root depth=pre:=λh=>by have hE:Gb D S Ch (f+1) c left=[]:=O0 (aL h);rw[hE,Bi] at hW;exact⟨.drop (Keep.appL l (.drop .refl)),hW⟩
 cases hM:FD c with
 |false=>
  obtain⟨hk,jP⟩:=Kn (F:=[]) λh=>by have h1:=h.1;rw[hM] at h1;cases h1
  refine Aj ?_;exact Bb hk ⟨l,rfl,.inl ⟨pre,jP.symm,hI⟩⟩
 |true=>
 by_cases Le:c.kind=2
 case neg=>obtain⟨hk,jP⟩:=Kn (F:=[]) λh=>Le h.2.1;refine Aj ?_;exact Bb hk ⟨l,rfl,.inl ⟨pre,jP.symm,hI⟩⟩
 cases hokb:ok with
 |false=>
  obtain⟨hk,jP⟩:=Kn (F:=[]) λh=>by have h1:=h.2.2.1;rw[Dm,hokb] at h1;cases h1
  refine Aj ?_;exact Bb hk ⟨l,rfl,.inl ⟨pre,jP.symm,hI⟩⟩
 |true=>
 rw[hokb] at Dm;by_cases ZM:o.kd=2
 case neg=>obtain⟨hk,jP⟩:=Kn (F:=[]) λh=>ZM (by rw[<-vu];exact h.2.2.2.1);refine Aj ?_;exact Bb hk ⟨l,rfl,.inl ⟨pre,jP.symm,hI⟩⟩
 obtain⟨bt0,bt1,gd0,_⟩:=VS hM Le;obtain⟨sz1,sz2⟩:1<=o.sz/\o.sz<=4:=by rw[<-ho] at ZM⊢;exact hR _ (dG Dm).1 ZM
 by_cases R9:c.bits+o.sz>left
 ·obtain⟨hk,jP⟩:=Kn (F:=[]) λh=>by have:=h.2.2.2.2;rw[vu] at this;omega
  refine Aj ?_;exact Bb hk ⟨l,rfl,.inl ⟨pre,jP.symm,hI⟩⟩
 have hgo:WP S c left:=⟨hM,Le,Dm,by rw[vu];exact ZM,by rw[vu];omega⟩
 clear Kn;refine Aj ?_;obtain⟨p1,p2,p3,p4,p5,p6⟩:=aK hR hgo;obtain⟨x,hx⟩: ∃x,Pp S Ch c left=x:=⟨_,rfl⟩
 have jh:x.1=o.id:=by rw[<-hx];unfold Pp;rw[vu]
 have Xs:x.2=(Ee Ch (IM S c left).toNat o.sz.toNat:Nat):=by rw[<-hx];unfold Pp;rw[vu]
 have hlN:IM S c left=left-(c.bits+o.sz):=by unfold IM;rw[vu]
 have Agg:Ee Ch (IM S c left).toNat o.sz.toNat<16:=lU Af;by_cases hb:c.bits>0
 case' pos=>
  have hgF:((tX Ch c left:Nat):Int)=(Ee Ch (left-c.bits).toNat c.bits.toNat:Nat):=by unfold tX;rw[Ac hb]
  refine Aj ?_;refine Be (AL rfl rfl λl2 _=>Re Ch XG (left-c.bits) c.bits Af Af Af Af l2) ?_;rw[<-hgF];refine Aj ?_
 case' neg=>
  have hgF:((tX Ch c left:Nat):Int)=0:=by unfold tX;rw[Ab hb];rfl
  refine Aj ?_
 all_goals
  refine Be (AL rfl rfl λl2 _=>Re Ch XG (left-(c.bits+o.sz)) o.sz Af Af Af Af l2) ?_;rw[<-hlN,<-Xs];refine AQ λZN=>?_;have HG: ∀l2,(∀z,z∈lq->z∈l2)->Fn prog 229 [.pointer (some ⟨bs,0,none⟩),.agg (toArray [.int .i64 o.id,.int .i64 x.2])] l2 λv l'=>v= .tuple #[.agg (toArray (B9 (getD' D x).1)),.int .i64 (getD' D x).2]/\l'=l2:=λl2 h=>by rw[<-jh];exact get_any bs D lq hq x l2 h
  refine Be (AL rfl rfl λl2 hl=>HG l2 λz hz=>hl z (.tail _ (.tail _ (n2 z hz)))) ?_;obtain⟨nx,Wg⟩: ∃nx,(getD' D x).1=nx:=⟨_,rfl⟩
  obtain⟨er,her⟩: ∃er,(getD' D x).2=er:=⟨_,rfl⟩
  rw[Wg,her];refine Aj ?_;refine AR e_alloc ?_;rintro _ _ ⟨Zv,_,rfl,rfl⟩;have m7b:=An (Dv ZN (o.id,x.2)) m7';refine Aj ?_;refine Be (P4 rfl) ?_;rw[VB];have hK:Keep (Bv Zv nx::Dv ZN (o.id,x.2)::Ar.obK b9 o::(l++(Bv b7 c::G))) (l++G):= .drop (.drop (.drop (Keep.appL l (.drop .refl))));by_cases hg:tX Ch c left=RV c.guard
  case neg=>have hE:Gb D S Ch (f+1) c left=[]:=O0 (TZ λh=>hg h.1);rw[hE,Bi] at hW;refine Aj ?_;exact Bb hK ⟨l,rfl,.inl ⟨pre,hW.symm,hI⟩⟩
  by_cases yl:er=0
  case neg=>have hE:Gb D S Ch (f+1) c left=[]:=O0 (TZ λh=>yl (by rw[<-her,<-hx];exact h.2));rw[hE,Bi] at hW;refine Aj ?_;exact Bb hK ⟨l,rfl,.inl ⟨pre,hW.symm,hI⟩⟩
  have Mi:Oq D S Ch c left=some ((x,IM S c left),nx):=by rw[gU hgo ⟨hg,by rw[hx,her,yl]⟩,hx,Wg]
  have hE:Gb D S Ch (f+1) c left=(x,IM S c left)::Gb D S Ch f nx (IM S c left):=dH pB Mi;rw[hE] at hW;have Gg:pre++[(x,IM S c left)]<+:Gb D S Ch 13 root depth:=by rw[hW];exact⟨Gb D S Ch f nx (IM S c left),by simp⟩
  have hy:=hY pre (x,IM S c left) l (Bv Zv nx::Dv ZN (o.id,x.2)::Ar.obK b9 o::Bv b7 c::G) (λz hz=> .tail _ (.tail _ (.tail _ (.tail _ (hG z hz))))) hI Gg;rw[show wv (x,IM S c left)=[.int .i64 o.id,.int .i64 x.2,.int .i64 (IM S c left)] by rw[<-jh]] at hy;refine Aj ?_;refine Bq (Keep.in_mid [Bv Zv nx,Dv ZN (o.id,x.2),Ar.obK b9 o] l (Bv b7 c::G)) ?_;refine Jr (C0 rfl rfl hy) rfl rfl rfl ?_;rintro w l' ⟨l1,rfl,⟨rfl,Lg⟩|⟨rfl,hx⟩⟩
  case' inr=>
   refine Aj ?_;exact Bb (Keep.appL l1 (.drop (.drop (.drop (.drop .refl))))) ⟨l1,rfl,.inr ⟨_,Gg,hx⟩⟩
  all_goals
   have q15:Bv Zv nx∈l1++(Bv Zv nx::Dv ZN (o.id,x.2)::Ar.obK b9 o::Bv b7 c::G):=Aa _ (.head _);refine Aj ?_;apply ME
   ·exact El (b:=b7) (off:=0) (cs:=toArray (B9 c)) (ws:=toArray (B9 nx)) (n:=8) (l':=l1++(Bv Zv nx::Dv ZN (o.id,x.2)::Ar.obK b9 o::Bv b7 nx::G)) rfl rfl rfl (by simp[Value.oneCell']) (by rw[q8];exact dg (.there (.there (.there .here))) l1) (by simp)
   ·rfl
   ·rfl
   rintro _ _ ⟨rfl,rfl⟩;refine Aj ?_;refine BR (nx,IM S c left,pre++[(x,IM S c left)],f,l1) ⟨Lg,?_,?_,?_⟩ ?_ ⟨rfl,rfl,rfl,rfl,rfl,rfl,trivial⟩ (Keep.appL l1 (.drop (.drop (.drop .refl))))
   ·rw[hW];simp
   ·simp only;omega
   ·simp only;omega
   ·simp only;omega
theorem T1(pre:List Zy)(x:Zy)(d:Int):Ql (pre++[x]) d=x:=by simp[Ql]
theorem VT(D:SD)(S:Ar.ArT)(Ch:Nat): ∀(f:Nat) (c:CapT) (left:Int) (pre:List Zy) (x:Zy),pre++[x]<+:Gb D S Ch f c left->x.2=0->Gb D S Ch f c left=pre++[x]
 |0,c,left,pre,x,h,_=>by have:=h.length_le;simp[Gb] at this
 |f+1,c,left,pre,x,h,hx=>by
  by_cases hl:left>0
  ·cases hs:Oq D S Ch c left with
   |none=>rw[O0 hs] at h;have:=h.length_le;simp at this
   |some y=>
    rw[dH hl hs] at h⊢;cases pre with
    |nil=>obtain⟨t,ht⟩:=h;simp only[Ag,Ae,CZ] at ht;rw[<-ht.1,T0 Af];rfl
    |cons p pre=>obtain⟨t,ht⟩:=h;simp only[Ae,CZ] at ht;rw[VT D S Ch f y.2 y.1.2 pre x ⟨t,ht.2⟩ hx,<-ht.1];rfl
  ·rw[T0 Af] at h;have:=h.length_le;simp at this
abbrev stC(B:Nat)(y:Zy):Bg:=(B,.cells (toArray (wv y)) 442 (0,0))
theorem YH(bs ba:Nat)(D:SD)(S:Ar.ArT)(lq la:Ad)(hq:IsS bs D lq)(hA:Ar.IsA ba S la)(hR:qZ S)(Ch:Nat)(XG:Ch<18446744073709551616)(root:CapT)(depth:Int)(l:Ad)(h1: ∀c,c∈lq->c∈l)(h2: ∀c,c∈la->c∈l):
 Fn prog 206 [.pointer (some ⟨bs,0,none⟩),.pointer (some ⟨ba,0,none⟩),.agg (toArray (B9 root)),.int .u64 (Ch:Nat),.int .i64 depth] l λv l'=>v= .tuple #[.agg (toArray (Ct (YG D S root Ch depth).1)),.int .i64 (YG D S root Ch depth).2]/\l'=l:=by
 refine AO func206 ntmps206 λE=>?_;refine AQ λb7=>?_;refine AQ λGX=>?_;refine Be (AL rfl rfl λl2 _=>ra bs ba Ch XG depth l2) ?_;by_cases hb:lV Ch depth
 ·rw[Ac hb,show YG D S root Ch depth=((0,0),3) by unfold YG;rw[Ac hb]];refine Aj ?_;exact CM (l':=l) (Dv GX (0,0)::l) (by exact AU) (.drop .refl) ⟨rfl,rfl⟩
 rw[Ab hb];have AcU:depth<=12:=Decidable.byContradiction λh=>hb (.inr (.inl Af));have hd1:1<=depth:=Decidable.byContradiction λh=>hb (.inl Af);refine AQ λZP=>?_;refine AR (AA rfl rfl (gV bs ba Ch root depth _)) ?_;rintro _ _ ⟨B1,B2,B3,B4,B5,rfl,rfl⟩;refine Aj ?_;obtain⟨L,hL⟩: ∃L,Gb D S Ch 13 root depth=L:=⟨_,rfl⟩
 have vv:YG D S root Ch depth=if(Ql L depth).2>0 then((0,0),12) else((Ql L depth).1,0):=by unfold YG;rw[Ab hb,hL]
 refine Df (α:=Zy) (ps:=[32]) (lb:=[.pointer (some ⟨B1,0,none⟩),.pointer (some ⟨B2,0,none⟩),.pointer (some ⟨B3,0,none⟩),.pointer (some ⟨B4,0,none⟩),.pointer (some ⟨B5,0,none⟩)]) rfl (aM B1 B2 B3 B4 B5 bs ba D S lq la hq hA hR Ch XG root depth AcU) (λ_=>rfl) rfl
  (λpre l=>l=[GA B2 depth,Q9 B4 Ch,Bv B1 root,ptA B3 ba,ptS B5 bs,stC ZP (Ql pre depth)]/\True)
  (λc pre l=>c= .exit 0/\ ∃(GW:List Zy) (x:Zy),pre=GW++[x]/\x.2=0/\l=[stC ZP x])
  _ (Dv GX (0,0)::Bv b7 root::l) (λpre l2 X2 hX h=>⟨λx hx=>by rw[h.1];exact Ai _ (by simp only[At,BL,Ez] at hx⊢;rcases hx with h|h|h|h|h<;>simp[h]),λc hc=>Aa _ (hX _ (.tail _ (.tail _ (h1 _ hc)))),λc hc=>Aa _ (hX _ (.tail _ (.tail _ (h2 _ hc))))⟩) (by exact AU) ⟨rfl,trivial⟩ ?_ ?_ ?_
 ·rintro E r0 FS pre x l' T ⟨fn,tmps,D0,rfl⟩ hT ⟨rfl,_⟩ DB;simp only[DU,Ae,Ag];refine AQ λZN=>?_;refine CH (by exact DX) ?_;refine Aj ?_;by_cases hy:x.2=0
  ·refine Aj ?_;refine E2 [stC ZP x] (by exact AU) ⟨rfl,pre,x,rfl,hy,rfl⟩
  ·refine Aj ?_;refine Cg [GA B2 depth,Q9 B4 Ch,Bv B1 root,ptA B3 ba,ptS B5 bs,stC ZP x] (by exact AU) ⟨by rw[T1],trivial⟩
 ·rintro D0 xs l' rfl ⟨rfl,_⟩;rw[hL] at*;simp only[Ae,Ag];refine Aj ?_;by_cases hz:(Ql L depth).2>0
  ·rw[vv,Ac hz];refine Aj ?_;exact AV [D0] (Dv GX (0,0)::l) rfl (l':=l) (by exact AU) (by exact Ba) (.drop .refl) ⟨rfl,rfl⟩
  ·rw[vv,Ab hz];refine Aj ?_;exact AV [D0] (Dv GX (Ql L depth).1::l) rfl (l':=l) (by exact AU) (by exact Ba) (.drop .refl) ⟨rfl,rfl⟩
 ·rintro D0 c pre l' DB ⟨rfl,GW,x,rfl,pE,rfl⟩;have hLx:L=GW++[x]:=by rw[<-hL];exact VT D S Ch 13 root depth GW x DB pE
  rw[vv,hLx,T1,Ab Af];simp only[Ae,Ag];refine Aj ?_;exact AV [D0] (Dv GX x.1::l) rfl (l':=l) (by exact AU) (by exact Ba) (.drop .refl) ⟨rfl,rfl⟩
namespace Qu
variable{X:Nat->A4}{p:Nat}{id:Int}
theorem first_any(b:Nat)(X:Nat->A4)(lq:Ad)(hq:IsQ b X lq)(l:Ad)(CE: ∀c,c∈lq->c∈l):
 Fn prog 102 [.pointer (some ⟨b,0,none⟩)] l λv l'=>v= .tuple #[.int .i64 (firstQ X).1,.bool (firstQ X).2]/\l'=l:=by
 obtain⟨vs,cs,OJ,rfl⟩:=hq;have Ko: ∀c,c∈In cs 8->c∈l:=λc hc=>CE c (An _ hc);refine AO func102 ntmps102 λE=>?_;refine Ih λb2=>?_;refine Ih λb3=>?_;refine AR (Dn rfl rfl (Ob _ _)) ?_;rintro v l' ⟨B,hB,rfl,rfl⟩;refine gz ?_;refine Df (α:=Nat) (ps:=[8,9]) (lb:=[.pointer (some ⟨B,0,none⟩)]) rfl (Q7 B b vs (λp=>(X p).length) OJ.shape) (λ_=>rfl) rfl
  (λpre l=>l=[(B,.cells #[.pointer (some ⟨b,0,none⟩)] 159 (0,0)),(b3,.cells #[.bool false] 4 (0,0)),(b2,.cells #[.int .i64 0] 3 (0,0))]/\pre=[])
  (λc pre l=>c= .ret/\ ∃(p:Nat),pre=[p]/\l=[(b2,.cells #[.int .i64 ((X p).headD 0)] 3 (0,0)),(b3,.cells #[.bool true] 4 (0,0))])
  _ l (λpre l2 X2 hX h=>⟨by rw[h.1];exact List.Mem.head _,Aa _ (hX _ (CE _ Ak))⟩) (by exact AU) ⟨rfl,rfl⟩ ?_ ?_ ?_
 ·rintro E r0 FS pre y l' T ⟨fn,tmps,D,rfl⟩ hT ⟨rfl,rfl⟩ DB;have hy:=(fallT_mem _ _ _).1 (Ho DB (Aa _ Ak));have PQ:0<(X y).length:=by have:=hy.2.2;simp at this;exact List.length_pos_iff.2 this
  obtain⟨x,A0,hxr⟩: ∃x A0,X y=x::A0:=by
   cases h:X y with
   |nil=>rw[h] at PQ;simp at PQ
   |cons x r=>exact⟨x,r,rfl⟩
  obtain⟨a,cap,hv,hI⟩:=OJ.ints y hy.2.1 (In cs 8) (λ_ h=>h);obtain⟨gb,off,cc,t,fz,rfl,hm,hc⟩:=hI PQ;have uI:cc[off+(0:Int).toNat*1]?=some (.int .i64 x):=hc 0 x (by rw[hxr];rfl);have ji: ∀c,c=(gb,Obj.cells cc t fz)->c∈T:=λc e=>by subst e;exact hT _ (Ko _ hm)
  have tg:=ji _ rfl;simp only[DU,Ae,Ag];rw[hv];refine gz ?_;refine CH (by exact DX) ?_;refine gz ?_;refine Be (DP (cs:=cc) rfl (.tail _ (.tail _ (.tail _ (.tail _ tg)))) (by simpa using uI)) ?_;refine gz ?_;refine EC [(b2,.cells #[.int .i64 x] 3 (0,0)),(b3,.cells #[.bool true] 4 (0,0))] (by exact AU) ⟨rfl,y,rfl,by rw[hxr];rfl⟩
 ·rintro D xs l' rfl ⟨rfl,Gg⟩;have uM:fallT (neX X) 0=[]:=Gg;simp only[Ae,Ag];refine gz ?_;exact AV [D] ((b2,.cells #[.int .i64 0] 3 (0,0))::(b3,.cells #[.bool false] 4 (0,0))::l) rfl (l':=l) (by exact AU) (by exact Ba) (by exact AU) ⟨by simp[Jv,firstQ,uM],rfl⟩
 ·rintro D c pre l' DB ⟨rfl,p,rfl,rfl⟩;have ZH:firstQ X=((X p).headD 0,true):=by
   unfold firstQ;obtain⟨A0,hr⟩:=DB;rw[show fallT (neX X) 0=[p]++A0 from hr.symm];rfl
  simp only[Ae,Ag];refine gz ?_;exact AV [D] ((b2,.cells #[.int .i64 ((X p).headD 0)] 3 (0,0))::(b3,.cells #[.bool true] 4 (0,0))::l) rfl (l':=l) (by exact AU) (by exact Ba) (by exact AU) ⟨by simp[Jv,ZH],rfl⟩
section
variable{ro:Option Nat}{N:Nat}{fr:Fr}{d:Option Nat}{ty:TypeId}{pos:String}{aft:Array Edge}{g:Option (Nat×Bool)}
end
theorem Fn.re{P:Program}{f:FuncId}{args:Ap}{l l2:Ad}{K K':Value->Ad->Prop}(k:Keep l l2)(h:Fn P f args l2 K)(hk: ∀v l',K v l'-> ∃l3,Keep l' l3/\K' v l3):Fn P f args l K':=
 ⟨λE W hs=>(h.run E W (k.sat hs)).mono λe W' he=>by obtain⟨v,l',h1,h2,h3⟩:=he;obtain⟨l3,h4,h5⟩:=hk v l' h2;exact⟨v,l3,h1,h5,h4.sat h3⟩⟩
theorem AaH{vs:Nat->Value}{cs:Nat->Ad}{b i:Nat}{F:Ad}(OJ:QS X vs cs)(hp:p<8)(hi:i<(X p).length)(Ei:(X p).length<=1000000):
 Fn prog 199 [vs p,.int .i64 (i:Nat),.int .i64 ((i:Int)+1)] (qC b vs::(In cs 8++F)) λv l'=> ∃c2,OwnSl 3 1 v ((X p).eraseIdx i).length (((X p).eraseIdx i).map CN) c2/\l'=qC b vs::(In (upd cs p c2) 8++F):=by
 have o5:(qC b vs::(In cs 8++F)).Perm (cs p++(qC b vs::(In (upd cs p []) 8++F))):=by refine(List.Perm.cons _ ((MX cs p 8 hp).append_right F)).trans ?_;rw[Am];exact Az [qC b vs] (cs p) _
 refine Fn.re (Keep.of_perm o5) (delete_any _ _ i hi _ _ (OJ.own p hp) Ei) ?_;rintro v _ ⟨c2,ho,rfl⟩;refine⟨_,Keep.of_perm ((Az c2 [qC b vs] _).trans ?_),c2,ho,rfl⟩;refine List.Perm.cons _ ?_;show List.Perm (c2++(In (upd cs p []) 8++F)) _;rw[<-Am];exact(Vy cs p hp c2).append_right F
def dropQ(X:Nat->A4)(id:Int):Bool×(Nat->A4):=
 match findP X id with
 |some p=>(true,upd X p ((X p).eraseIdx ((X p).idxOf id)))
 |none=>(false,X)
def backQ(X:Nat->A4)(id:Int):Bool×(Nat->A4):=
 match findP X id with
 |some p=>(true,upd X p ((X p).eraseIdx ((X p).idxOf id)++[id]))
 |none=>(false,X)
theorem YI(h:findP X id=none):jq X id=(-1,-1):=by unfold jq;rw[h]
theorem YJ(h:findP X id=some p):jq X id=(((p:Nat):Int),(((X p).idxOf id:Nat):Int)):=by unfold jq;rw[h]
theorem drop_any(b:Nat)(X:Nat->A4)(lq:Ad)(id:Int)(hq:IsQ b X lq)(hb: ∀p,p<8->(X p).length<=1000000)(F:Ad):
 Fn prog 152 [.pointer (some ⟨b,0,none⟩),.int .i64 id] (lq++F) λv l'=>v= .bool (dropQ X id).1/\ ∃DD,IsQ b (dropQ X id).2 DD/\l'=DD++F:=by
 have H:=JI b X lq id hq hb;obtain⟨vs,cs,OJ,rfl⟩:=hq;refine AO func152 ntmps152 λE=>?_;cases hf:findP X id with
 |none=>
  rw[YI hf] at H;dsimp only at H;have e:dropQ X id=(false,X):=by unfold dropQ;rw[hf]
  rw[e];simp only[Ae];refine gz ?_;refine Be (AL rfl rfl (λl2 hl=>H l2 λc hc=>hl c (Ai F hc))) ?_;refine gz ?_;exact Bb .refl ⟨rfl,_,⟨vs,cs,OJ,rfl⟩,rfl⟩
 |some p=>
  obtain⟨hp,NN,Dc⟩:=Tt X id p hf;rw[YJ hf] at H;dsimp only at H;have e:dropQ X id=(true,upd X p ((X p).eraseIdx ((X p).idxOf id))):=by unfold dropQ;rw[hf]
  rw[e];obtain⟨i,hi⟩: ∃i,(X p).idxOf id=i:=⟨_,rfl⟩
  rw[hi] at Dc H⊢;have cM:=hb p hp;have hg:=WC vs p hp;obtain⟨v,hv⟩: ∃v,vs p=v:=⟨_,rfl⟩
  rw[hv] at hg;simp only[Ae];refine gz ?_;refine Be (AL rfl rfl (λl2 hl=>H l2 λc hc=>hl c (Ai F hc))) ?_;refine gz ?_;refine LV [(0,true),(1,true),(2,true),(3,true),(4,true),(5,true),(6,true),(7,true),(8,true),(9,true),(10,true),(12,true),(13,true),(11,false),(14,true),(15,false)] [[],[],[],[],[2],[2,4],[2,3,4,5],[2,3,4,5,6],[],[],[9],[2,3,4,5,6,7,8,9,10],[0],[0,12],[0,1,2,3,4,5,6,7,8,9,10,11,12,13],[0,1,2,3,4,5,6,7,8,9,10,11,12,13,14]] ([]) BB BB GZ UM ?_;refine pz ?_;apply Gi (S:=[qC b vs])
  ·exact DP rfl Ak hg
  ·intro c hc;cases hc with
   |head=>exact Ak
   |tail _ h=>cases h
  ·rfl
  ·rfl
  ·rfl
  refine pz ?_;apply Hb
  ·exact Dn rfl rfl (by rw[<-hv];exact AaH OJ hp Dc cM)
  ·rfl
  ·rfl
  ·rfl
  ·intro _ _ _ c hc;cases hc
  ·exact λ_ _ _ x hx ha=>Dg BB hx ha
  rintro v' _ ⟨c2,ho,rfl⟩;have Ju:v'.oneCell'=true:=ho.one;refine pz ?_;apply Hs
  ·exact Du rfl rfl Ju .here (by simp[hp])
  ·rfl
  ·rfl
  ·intro _ _ _ c hc;cases hc
  ·exact λ_ _ _ x hx ha=>Dg BB hx ha
  rintro _ _ ⟨rfl,rfl⟩;rw[aj vs p hp v'];refine pz ?_;refine gz ?_;refine Bb .refl ⟨rfl,_,⟨_,_,OJ.upd p _ v' c2 ho,rfl⟩,rfl⟩
theorem back_any(b:Nat)(X:Nat->A4)(lq:Ad)(id:Int)(hq:IsQ b X lq)(hb: ∀p,p<8->(X p).length<=1000000)(F:Ad):
 Fn prog 302 [.pointer (some ⟨b,0,none⟩),.int .i64 id] (lq++F) λv l'=>v= .bool (backQ X id).1/\ ∃DD,IsQ b (backQ X id).2 DD/\l'=DD++F:=by
 have H:=JI b X lq id hq hb;have HD:=drop_any b X lq id hq hb F;refine AO func302 ntmps302 λE=>?_;cases hf:findP X id with
 |none=>
  obtain⟨vs,cs,OJ,rfl⟩:=hq;rw[YI hf] at H;dsimp only at H;have e:backQ X id=(false,X):=by unfold backQ;rw[hf]
  rw[e];simp only[Ae];refine gz ?_;refine Be (AL rfl rfl (λl2 hl=>H l2 λc hc=>hl c (Ai F hc))) ?_;refine gz ?_;exact Bb .refl ⟨rfl,_,⟨vs,cs,OJ,rfl⟩,rfl⟩
 |some p=>
  obtain⟨hp,NN,Dc⟩:=Tt X id p hf;rw[YJ hf] at H;dsimp only at H;have e:backQ X id=(true,upd X p ((X p).eraseIdx ((X p).idxOf id)++[id])):=by unfold backQ;rw[hf]
  rw[e];have e2:dropQ X id=(true,upd X p ((X p).eraseIdx ((X p).idxOf id))):=by unfold dropQ;rw[hf]
  rw[e2] at HD;obtain⟨i,hi⟩: ∃i,(X p).idxOf id=i:=⟨_,rfl⟩
  rw[hi] at Dc H HD⊢;have cM:=hb p hp;refine gz ?_;refine Be (AL rfl rfl (λl2 hl=>H l2 λc hc=>hl c (Ai F hc))) ?_;refine gz ?_;refine AR (Dn rfl rfl HD) ?_;rintro _ _ ⟨rfl,DD,⟨vs,cs,OJ,rfl⟩,rfl⟩;simp only[Ae];have hg:=WC vs p hp;obtain⟨v,hv⟩: ∃v,vs p=v:=⟨_,rfl⟩
  rw[hv] at hg;have Lf:(upd X p ((X p).eraseIdx i) p).length<=1000000:=by rw[DK,F7];split<;>omega
  refine gz ?_;refine LV [(0,true),(1,true),(2,true),(3,true),(4,true),(5,true),(6,true),(7,true),(8,true),(11,true),(12,true),(9,false),(10,false),(13,true),(14,false)] [[],[],[],[],[2],[2,4],[2,3,4,5],[2,3,4,5,6],[],[8],[2,3,4,5,6,7,8,9],[0],[0,11],[0,1,2,3,4,5,6,7,8,9,10,11,12],[0,1,2,3,4,5,6,7,8,9,10,11,12,13]] ([]) BB BB GZ UM ?_;refine pz ?_;apply Gi (S:=[qC b vs])
  ·exact DP rfl Ak hg
  ·intro c hc;cases hc with
   |head=>exact Ak
   |tail _ h=>cases h
  ·rfl
  ·rfl
  ·rfl
  refine pz ?_;apply Hb
  ·exact KU rfl rfl
  ·rfl
  ·rfl
  ·rfl
  ·intro _ _ _ c hc;cases hc
  ·rintro _ _ ⟨bl,_,rfl,rfl⟩ x hx _ c hc;cases hx with
   |head=>cases hc with
    |head=>exact .tail _ (.head _)
    |tail _ h=>cases h
   |tail _ h=>cases h
  rintro _ _ ⟨bl,_,rfl,rfl⟩;refine pz ?_;apply Hb
  ·exact kO OJ hp Lf (by rw[hv];rfl) rfl
  ·rfl
  ·rfl
  ·rfl
  ·intro _ _ _ c hc;cases hc
  ·exact λ_ _ _ x hx ha=>Dg BB hx ha
  rintro v' _ ⟨c2,ho,rfl⟩;have Ju:v'.oneCell'=true:=ho.one;refine pz ?_;apply Hs
  ·exact Du rfl rfl Ju .here (by simp[hp])
  ·rfl
  ·rfl
  ·intro _ _ _ c hc;cases hc
  ·exact λ_ _ _ x hx ha=>Dg BB hx ha
  rintro _ _ ⟨rfl,rfl⟩;rw[aj vs p hp v'];refine pz ?_;refine gz ?_;have hu:=OJ.upd p _ v' c2 ho;dsimp only at hu;rw[DK,dy] at hu;refine Bb .refl ⟨rfl,_,⟨_,_,hu,rfl⟩,rfl⟩
end Qu
namespace Th
theorem drop_any(b:Nat)(L:TL)(lq:Ad)(hq:IsX b L lq)(id:Int)(G:Ad):
 Fn prog 367 [.pointer (some ⟨b,0,none⟩),.int .i64 id] (lq++G) λv l'=>v= .int .i64 (dropD L id).1/\ ∃DD,IsX b (dropD L id).2 DD/\l'=DD++G:=by
 have MJ:=hq;obtain⟨m,es,clock,rfl,hX⟩:=hq;refine AO func367 ntmps367 λE=>?_;simp only[Ae,Ag];refine gz ?_;rw[hX.look,hX.has];refine gz ?_;refine AR e_alloc ?_;rintro _ _ ⟨b5,_,rfl,rfl⟩;iterate 4 refine gzS ?_
 cases hf:findH L id with
 |some t=>rw[show dropD L id=(0,L.filter λx=>decide (x.id≠id)) by unfold dropD;rw[hf];rfl];refine gz ?_;refine ME (Tf (a:=id) (es:=es) (clock:=clock) rfl rfl (by exact DX)) rfl rfl ?_;rintro _ _ ⟨rfl,rfl⟩;refine gz ?_;exact Bb (.drop .refl) ⟨rfl,_,⟨m,_,_,rfl,hX.drop id⟩,rfl⟩
 |none=>rw[show dropD L id=(2,L) by unfold dropD;rw[hf];rfl];refine gz ?_;exact Bb (.drop .refl) ⟨rfl,_,MJ,rfl⟩
theorem server_any(b:Nat)(L:TL)(lq:Ad)(hq:IsX b L lq)(hn:L.length<=900000)(id:Int)(l:Ad)(CE: ∀c,c∈lq->c∈l):
 Fn prog 260 [.pointer (some ⟨b,0,none⟩),.int .i64 id] l λv l'=>v= .int .i64 (serverD L id)/\l'=l:=by
 refine AO func260 ntmps260 λE=>?_;refine Ih λb3=>?_;refine Ih λb4=>?_;refine AR (AA rfl rfl (Jf _ rfl _)) ?_;rintro _ _ ⟨B,rfl,rfl⟩;refine gz ?_;refine Df (α:=ThT) (ps:=[8]) (lb:=[.pointer (some ⟨B,0,none⟩)]) rfl (HR B b L lq hq hn) (λ_=>rfl) rfl
  (λpre l=>l=[xB B (.pointer (some ⟨b,0,none⟩)),GA b4 0,GA b3 id]/\ ∀x,x∈pre->¬(id≠0/\x.ca=id))
  (λc pre l=>c= .ret/\ ∃(GW:TL) (t:ThT),pre=GW++[t]/\(∀x,x∈GW->¬(id≠0/\x.ca=id))/\id≠0/\t.ca=id/\l=[GA b4 t.id])
  _ l (λpre l2 X2 hX h=>⟨by rw[h.1];exact List.Mem.head _,λc hc=>Aa _ (hX _ (CE _ hc))⟩) (by exact AU) ⟨rfl,by simp⟩ ?_ ?_ ?_
 ·rintro E r0 FS pre y l' T ⟨fn,tmps,D,rfl⟩ hT ⟨rfl,Gg⟩ DB;simp only[DU,Ae,Ag];refine Ih λb5=>?_;refine CH (by exact DX) ?_;by_cases h0:id=0
  ·refine gz ?_;refine Cg _ (.drop .refl) ⟨rfl,λx hx=>λh=>h.1 h0⟩
  by_cases hy:y.ca=id
  ·refine gz ?_;refine EC [GA b4 y.id] (by exact AU) ⟨rfl,pre,y,rfl,Gg,h0,hy,rfl⟩
  ·refine gz ?_;refine Cg _ (.drop .refl) ⟨rfl,λx hx=>?_⟩;rcases AH.1 hx with hx|hx
   ·exact Gg x hx
   ·rw[AE.1 hx];exact λh=>hy h.2
 ·rintro D xs l' rfl ⟨rfl,Gg⟩;rw[gM Gg];simp only[Ae,Ag];refine gz ?_;exact AV [D] (GA b4 0::l) rfl (l':=l) (by exact AU) (by exact Ba) (.drop .refl) ⟨rfl,rfl⟩
 ·rintro D c pre l' DB ⟨rfl,GW,t,rfl,jB,h0,ht,rfl⟩;rw[lM DB h0 (λx hx h=>jB x hx ⟨h0,h⟩) ht];simp only[Ae,Ag];refine gz ?_;exact AV [D] (GA b4 t.id::l) rfl (l':=l) (by exact AU) (by exact Ba) (.drop .refl) ⟨rfl,rfl⟩
end Th
namespace As
theorem lW(rb:Nat)(x r q:Int)(l:Ad)(hx:(rb,Obj.cells #[.int .i64 x] 3 (0,0))∈l):Fn prog 392 [.int .i64 r,.int .i64 q,.pointer (some ⟨rb,0,none⟩)] l λv l'=>v= .bool (IB x r q)/\l'=l:=by refine AO func392 ntmps392 λE=>?_;exact E4
theorem tY(rb:Nat)(x r q:Int)(l:Ad)(hx:(rb,Obj.cells #[.int .i64 x] 3 (0,0))∈l):Fn prog 393 [.int .i64 r,.int .i64 q,.pointer (some ⟨rb,0,none⟩)] l λv l'=>v= .bool (Yo x r q)/\l'=l:=by refine AO func393 ntmps393 λE=>?_;exact E4
theorem root_any(b:Nat)(s:ASt)(r:Int)(l:Ad)(hA:asA b s∈l):Fn prog 389 [.pointer (some ⟨b,0,none⟩),.int .i64 r] l λv l'=>v= .tuple #[.int .i64 (rootP s r).1,.int .i64 (rootP s r).2.1,.bool (rootP s r).2.2]/\l'=l:=by
 refine AO func389 ntmps389 λE=>?_;refine Ih λrb=>?_;cases hf:KX s (Yo r) with
 |none=>refine Be (AL rfl rfl (λl hl=>OR b rb _ s r (Yo r) hf l (hl _ (by exact BW)) (hl _ (by exact BW)) (λr' q l h=>tY rb r r' q l h))) ?_;refine Ih λb7=>?_;exact AV [] l rfl (l':=l) (by exact AU) (by exact Ba) .refl ⟨by simp[Jv,rootP,hf],rfl⟩
 |some n=>have Dc:=(Tw s _ n hf).1;have qs:=s.c_root (n/4) (n%4) Af Af;rw[show 4*(n/4)+n%4=n by omega] at qs;refine Be (AL rfl rfl (λl hl=>OQ b rb _ s r (Yo r) n hf l (hl _ (by exact BW)) (hl _ (by exact BW)) (λr' q l h=>tY rb r r' q l h))) ?_;refine Ih λb7=>?_;refine Cn [] 16 _ ?_ (hR:=(λ_ h=>h));refine pz ?_;refine gz ?_;exact AV [] l rfl (l':=l) (by exact AU) (by exact Ba) .refl ⟨by simp[Jv,rootP,hf],rfl⟩
theorem unassign_any(b:Nat)(s:ASt)(r:Int)(F:Ad):
 Fn prog 385 [.pointer (some ⟨b,0,none⟩),.int .i64 r] (asA b s::F) λv l'=>v= .tuple #[.int .i64 (unP s r).1,.int .i64 (unP s r).2.1]/\l'=asA b (unP s r).2.2::F:=by
 refine AO func385 ntmps385 λE=>?_;refine Ih λrb=>?_;cases hf:KX s (IB r) with
 |none=>refine Be (AL rfl rfl (λl hl=>OR b rb _ s r (IB r) hf l (hl _ (by exact BW)) (hl _ (by exact BW)) (λr' q l h=>lW rb r r' q l h))) ?_;refine Ih λb7=>?_;exact AV [] (asA b s::F) rfl (l':=asA b s::F) (by exact AU) (by exact Ba) .refl ⟨by simp[Jv,unP,hf],by simp[unP,hf]⟩
 |some n=>
  have Dc:=(Tw s _ n hf).1;have e1:=s.s_root (n/4) (n%4) Af Af 0;rw[show 4*(n/4)+n%4=n by omega] at e1;have e2:=({s with root:=upd s.root n 0}:ASt).s_ser (n/4) (n%4) Af Af 0;rw[show 4*(n/4)+n%4=n by omega] at e2;refine Be (AL rfl rfl (λl hl=>OQ b rb _ s r (IB r) n hf l (hl _ (by exact BW)) (hl _ (by exact BW)) (λr' q l h=>lW rb r r' q l h))) ?_;refine Ih λb7=>?_;refine LV [(0,true),(1,true),(2,true),(3,true),(4,true),(5,true),(6,true),(7,true),(8,true),(9,true),(10,true),(11,true),(12,true),(13,true),(14,true),(16,true),(17,true),(18,true),(19,true),(15,false),(20,true),(21,false)] [[],[],[1],[],[3],[],[],[6],[],[8],[0],[0,10],[0,1,2,10,11],[0,1,2,10,11,12],[0,1,2,3,4,10,11,12,13],[0,1,2,3,4,10,11,12,13,14],[5],[5,16],[5,6,7,16,17],[5,6,7,16,17,18],[0,1,2,3,4,5,6,7,8,9,10,11,12,13,14,15,16,17,18,19],[0,1,2,3,4,5,6,7,8,9,10,11,12,13,14,15,16,17,18,19,20]] ([(b7,.cells #[.int .i64 (n:Nat),.int .i64 ((n/4:Nat):Int),.int .i64 ((n%4:Nat):Int)] 360 (0,0))]) BB BB GZ UM ?_;refine pz ?_;apply NZ
  ·exact Du (cs:=s.cells) rfl rfl rfl (by exact DX) (by rw[s.cells_size];omega)
  ·rfl
  ·rfl
  ·rintro _ _ ⟨rfl,rfl⟩;exact(Ce (by exact Mq))
  rintro _ _ ⟨rfl,rfl⟩;rw[e1];refine pz ?_;apply NZ
  ·exact Du (cs:=({s with root:=upd s.root n 0}:ASt).cells) rfl rfl rfl (by exact DX) (by rw[ASt.cells_size];omega)
  ·rfl
  ·rfl
  ·rintro _ _ ⟨rfl,rfl⟩;exact(Ce (by exact Mq))
  rintro _ _ ⟨rfl,rfl⟩;rw[e2];refine pz ?_;refine gz ?_;exact AV [] (asA b (s.give0 n)::F) rfl (l':=asA b (s.give0 n)::F) (by exact AU) (by exact Ba) .refl ⟨by simp[Jv,unP,hf],by simp[unP,hf]⟩
end As
end Go.Proofs.YtlifcingifodfaaGreat
