/- Laws that the statement's proof leans on (joined out of several texts). -/
import Derived.Test.YtlkgekpmileobaaGreatGb8
import Derived.Test.YtlkgekpmileobaaGreatGb43
import Derived.Test.YtlkgekpmileobaaGreatGb10
import Derived.Test.YtlkgekpmileobaaGreatGb40
set_option linter.unusedVariables false
set_option linter.unusedSimpArgs false
namespace Go.Proofs.YtlkgekpmileobaaGreat
open Tryz
open Go.RowKit
set_option maxRecDepth 20000
variable{F C k b N:Nat}{S:KT}{p:RP}{s:RL}{G Y cs l:List Ab}{E:World}{fr:Fr}{co:Int}{Γ:List Ab->List Ab}
theorem QA{lo:List Ab}:Keep (cs++(lo++Y)) (cs++Y):=⟨lo,Ay cs lo Y⟩
def KN(F C b:Nat)(p:RP)(k:Nat)(xs:List Hs)(co:Int)(S:KT)(G:List Ab):Value->List Ab->Prop:=λv l'=> ∃sl cs s L,v= .tuple #[sl,iV co]/\OwnSl 69 12 sl xs.length (GS xs) cs/\IsK F C k S p s/\Tail L G/\l'=cs++Av b p s S L
section
theorem Fk{fn:Func}{rs:List ResultVar}{k1:Nat}{S1:KT}{L:List Ab}(hr:fn.results=rs.toArray:=by rfl)(h:ResS prog fr l rs [.slice none 0 0,iV co]:=by exact A7)(hF:Fr1 (Av b p s S1 L) l Γ:=by exact Zr)(hK:IsK F C k1 S1 p s:=by infer_instance)(ht:Tail L G:=by exact sN)(hk:k<=k1:=by omega)(hS:S1=S:=by exact uM):CH N E (bodyPostM Fence.wide 0 prog fn (RK E (KN F C b p k [] co S G))) .ret fr [] l:=by subst hS;obtain⟨A,rfl,_⟩:=hF.eq;exact AU [] _ hr .refl h (Keep.dropL' A .refl) ⟨_,[],s,L,rfl,OwnSl.nil _ _,hK.mono hk,ht,rfl⟩
def Jr(S:KT)(t:Int)(x:CB)(m:Ob)(gv:Int)(cl:Bool):(List Hs×Int)×KT:=
 if ¬(GR S t gv).2=0 then(([],(GR S t gv).2),S)
 else if ¬(getD' S.H.1 x).2=0\/¬(D5 S x).kind=8 then(([],8),S)
 else if KB (D5 S x).rights 2=0\/(¬gv=4096/\KB (D5 S x).rights 4=0) then(([],9),S)
 else if(En.firstD S.E (D5 S x).obj).2.2=false\/(En.firstD S.E (D5 S x).obj).2.1=true then
  (([],0),(NO (DS {S with E:=(En.waitD S.E (D5 S x).obj t true).2} (gG m (D5 S x) gv cl (Er S t))) t 2).2)
 else(((OU S {Er S t with gv:=gv} t (En.firstD S.E (D5 S x).obj).1 m (D5 S x).badge cl).1,0),(OU S {Er S t with gv:=gv} t (En.firstD S.E (D5 S x).obj).1 m (D5 S x).badge cl).2)
set_option maxHeartbeats 4000000 in
theorem Yv(hK:IsK F C (k+2) S p s)(t:Int)(x:CB)(m:Ob)(gv:Int)(cl:Bool):Fn prog 205 [pV b,.int .i64 t,Fp x,iT m,.int .i64 gv,.bool cl] (Av b p s S G) (KN F C b p k (Jr S t x m gv cl).1.1 (Jr S t x m gv cl).1.2 (Jr S t x m gv cl).2 G):=by
 have mr:Co b p∈Av b p s S G:=mR λ_ h=>h;have htw:=hK.tO t;obtain⟨R,hR⟩: ∃R,Jr S t x m gv cl=R:=⟨_,rfl⟩
 rw[hR];unfold Jr at hR;refine AO func205 ntmps205 λE=>?_;refine AQ λb6=>?_;refine AQ λb7=>?_;refine AQ λb8=>?_;refine AQ λb9=>?_;refine AQ λb10=>?_;refine AQ λb11=>?_;refine Ea ?_;have hro:=Sg (S:=S) (t:=t) (a:=gv);obtain⟨r,hr⟩: ∃r,GR S t gv=r:=⟨_,rfl⟩
 rw[hr] at hR hro⊢;refine AQ λb14=>?_;by_cases h0:r.2=0
 case neg=>rw[Ae h0] at hR;subst hR;refine Aj ?_;exact Fk
 rw[Ac (λh=>h h0)] at hR;obtain⟨e1,e2,e3,e4,e5⟩:=hro h0;obtain⟨y,hy⟩: ∃y,Er S t=y:=⟨_,rfl⟩
 rw[hy] at e1 e3 hR htw;rw[e1];refine Aj ?_;refine Ch (Cf [7,8] 0 10) ?_;refine Ci ?_;obtain⟨c,hc⟩: ∃c,(getD' S.H.1 x).1=c:=⟨_,rfl⟩
 obtain⟨e,he⟩: ∃e,(getD' S.H.1 x).2=e:=⟨_,rfl⟩
 rw[show D5 S x=c from hc,he] at hR;rw[hc,he];refine Hf e_alloc (by rintro _ _ ⟨_,_,_,rfl⟩ c hc;exact .tail _ hc) ?_;rintro _ _ ⟨b16,_,rfl,rfl⟩;refine Ci ?_;by_cases h1:¬e=0\/¬c.kind=8
 ·rw[Ae h1] at hR;subst hR;by_cases h2:e=0<;>by_cases h3:c.kind=8;all_goals first
   |(exfalso;omega)
   |(refine Aj ?_
     exact Fk)
 rw[Ac h1] at hR;obtain⟨h2,h3⟩:e=0/\c.kind=8:=by omega
 refine Aj ?_;refine Bc (Jy rfl rfl) ?_;obtain⟨w2,hw2⟩: ∃w,KB c.rights 2=w:=⟨_,rfl⟩
 obtain⟨w4,hw4⟩: ∃w,KB c.rights 4=w:=⟨_,rfl⟩
 rw[hw2,hw4] at hR;rw[hw2];by_cases h4:w2=0\/(¬gv=4096/\w4=0)
 ·rw[Ae h4] at hR;subst hR;by_cases h5:w2=0
  ·refine Aj ?_;exact Fk
  obtain⟨h6,h7⟩:¬gv=4096/\w4=0:=by omega
  refine Aj ?_;refine Vu (Jy rfl rfl) rfl rfl rfl rfl rfl rfl ?_;rw[hw4];refine Aj ?_;exact Fk
 rw[Ac h4] at hR;have h5:¬w2=0:=by omega
 by_cases h6:gv=4096
 case' pos=>refine Aj ?_
 case' neg=>
  have h7:¬w4=0:=by omega
  refine Aj ?_;refine Vu (Jy rfl rfl) rfl rfl rfl rfl rfl rfl ?_;rw[hw4];refine Aj ?_
 all_goals
  obtain⟨f,hf⟩: ∃f,En.firstD S.E c.obj=f:=⟨_,rfl⟩
  rw[hf] at hR;refine Kk [(0,true),(1,true),(2,true),(3,true),(4,false),(5,true),(6,true),(7,true),(8,true),(9,false),(10,false),(11,true),(12,true)] [[],[0],[],[2],[0,1,2,3],[0,1,2,3,4],[0,1,2,3,4,5],[0,1,2,3,4,5],[0,1,2,3,4,5],[],[0,1,2,3,4,5,6,9],[0,1,2,3,4,5,6,7,9,10],[0,1,2,3,4,5,6,7,8,9,10,11]] 4 9 ([rB b6 b,Bp b16 c,Co b p]) Bv Bv Gh ((T3 BO BO BO)) ?_;refine BI ?_;refine Tf ?_;refine BI ?_;refine Mv [(9,false),(4,false),(5,true),(6,true),(7,true),(8,true),(10,false),(11,true),(12,true)] Gh (AH (l₁:=[_,_,_,_,_])).symm Bv ?_ ?_
  case' refine_1=>
   refine qe ?_ ?_
   ·intro S2 s2 L2;have mr2:Co b p∈Av b p s2 S2 L2:=mR λ_ h=>h;exact T3 BO BO BO
   intro S1 s1 L1 hS1 hK1 hT1 mr1;iterate 4 refine VC ?_
   refine CE e_alloc rfl rfl rfl ?_ ?_
   ·rintro _ _ ⟨_,_,_,rfl⟩ c hc;exact .tail _ (T3 BO BO BO c hc)
   rintro _ _ ⟨b17,_,rfl,rfl⟩
  case' refine_2=>
   refine CE e_alloc rfl rfl rfl ?_ ?_
   ·rintro _ _ ⟨_,_,_,rfl⟩ c hc;exact .tail _ (T3 BO BO BO c hc)
   rintro _ _ ⟨b17,_,rfl,rfl⟩;refine qe ?_ ?_
   ·intro S2 s2 L2;have mr2:Co b p∈Av b p s2 S2 L2:=mR λ_ h=>h;exact T3 BO BO BO
   intro S1 s1 L1 hS1 hK1 hT1 mr1;iterate 4 refine VC ?_
  all_goals
   subst hS1;rw[hf];refine mf ?_ (hR:=T3 BO BO BO);refine BI ?_;refine Aj ?_;by_cases h8:f.2.2=false\/f.2.1=true
   ·rw[Ae h8] at hR;cases h9:f.2.2<;>cases h10:f.2.1;all_goals first
     |(exfalso;simp[h9,h10] at h8;done)
     |(refine Aj ?_
       refine Ch (Cf [5] 0 6) ?_;refine Ci ?_;refine Lj ?_;intro S2 s2 L2 hS2 hK2 hT2 mr2;refine Ci ?_;refine Aj ?_;have e6:Er S2 t=y:=by rw[hS2];exact hy
       refine SK (id:=t) (gH b9 b16 b10 b11 m c gv cl) ⟨by rw[e6];exact htw.out⟩ ?_;intro S3 s3 L3 hS3 hK3 hT3 mr3;rw[e6] at hS3;rw[<-hS2,show DS S2 (gG m c gv cl y)=S3 from hS3.symm] at hR;refine Aj ?_;refine Fy ?_;intro S4 s4 L4 hS4 hK4 hT4 mr4;refine Aj ?_;rw[<-hS4] at hR;subst hR;exact Fk)
   rw[Ac h8] at hR;obtain⟨h9,h10⟩:f.2.2=true/\f.2.1=false:=by simpa using h8
   rw[h9,h10];obtain⟨u,hu⟩: ∃u,f.1=u:=⟨_,rfl⟩
   rw[hu] at hR⊢;refine Aj ?_;have hx:AD ({y with gv:=gv}:Th.ThT).gv:=⟨by show gv<_;omega⟩
   refine AS (Az rfl rfl (Fn.keep ?_ (Pu (Yu (b:=b) (G:=L1) hK1 b6 b17 b14 b9 b16 b11 b7 {y with gv:=gv} hx t u m c cl)))) ?_
   ·exact AR
   rintro sl _ ⟨xs,cs,C',ho,⟨rfl,s',L',hK',hT',rfl⟩,rfl⟩;refine Aj ?_;subst hR;exact Cy _ .refl QA ⟨sl,cs,s',L',rfl,ho,hK',hT'.trans hT1,rfl⟩
end
section
abbrev ll(t:Th.ThT):Ob:=⟨t.o0,t.o1,t.o2,t.o3⟩
abbrev ni(t:Th.ThT):Th.ThT:={t with wa:=0,o0:=0,o1:=0,o2:=0,o3:=0,ob:=0,gv:=4096}
def nj(S:KT)(w:Bool)(id t:Int):KT:=if w=true then Pv S id t else(NO S id 1).2
def PS(S:KT)(t id:Int):List Hs×KT:=
 let x:=Er S id
 let h:=KC {S with E:=(En.removeD S.E id).2} x t (ll x) x.ob
 let w:=x.cl||x.fa
 let S2:=nj h.2 w id t
 (if w=true then[h.1] else[h.1,L8 id],DS S2 (ni (Er S2 id)))
set_option maxHeartbeats 2000000 in
theorem Yw(hK:IsK F C (k+2) S p s)(B1 B2 B3:Nat)(t id:Int):
 WB prog 277 [pV B1,pV B2,pV B3] (λn:Hs=>[ZQ n]) ([rB B1 b,BG B2 id,BG B3 t]++Av b p s S G) (λxs C'=>xs=(PS S t id).1/\ ∃s' L,IsK F C k (PS S t id).2 p s'/\Tail L G/\C'=[rB B1 b,BG B2 id,BG B3 t]++Av b p s' (PS S t id).2 L):=by
 refine⟨λr I hY l h0=>?_⟩;refine Fn.keep (.of_perm (M5 (lo:=[rB B1 b,BG B2 id,BG B3 t]))) ?_;have mr:Co b p∈Av b p s S (l++G):=mR λ_ h=>h;have htw0:=hK.tO id;have hgv:AD (Er S id).gv:=⟨by have:=hK.tG id;omega⟩
 obtain⟨R,hR⟩: ∃R,PS S t id=R:=⟨_,rfl⟩
 rw[hR];unfold PS at hR;simp only[Ad,Ag];refine AO func277 ntmps277 λE=>?_;refine Aj ?_;refine Ch (Cf [3] 0 4) ?_;refine Ci ?_;refine Lj ?_;intro S1 s1 L1 hS1 hK1 hT1 mr1;rw[<-hS1] at hR;refine Ci ?_;refine Aj ?_;refine Ch (Cf [7,8] 0 10) ?_;refine Ci ?_;have e1:Er S1 id=Er S id:=ng (by rw[hS1]) id;rw[e1];obtain⟨x,hx⟩: ∃x,Er S id=x:=⟨_,rfl⟩
 rw[hx] at hR htw0 hgv e1⊢;refine Hf e_alloc (by rintro _ _ ⟨_,_,_,rfl⟩ c hc;exact .tail _ hc) ?_;rintro _ _ ⟨c5,_,rfl,rfl⟩;refine Ci ?_;refine Aj ?_;refine Fy (q:=(⟨λs G h=>gY h x t (ll x) x.ob⟩:EK prog F C b p 270 [pV b,Th.thV x,.int .i64 t,iT (ll x),Ba x.ob] (k+2) S1 (k+1) _ _)) ?_;intro S2 s2 L2 hS2 hK2 hT2 mr2;dsimp only at hR;rw[<-hS2] at hR;obtain⟨n1,hn1⟩: ∃n,(KC S1 x t (ll x) x.ob).1=n:=⟨_,rfl⟩
 rw[hn1] at hR⊢;refine AQ λc7=>?_;obtain⟨w,hw⟩: ∃w,(x.cl||x.fa)=w:=⟨_,rfl⟩
 rw[hw] at hR;unfold nj at hR;have hcf:(x.cl=true/\w=true)\/(x.cl=false/\x.fa=w):=by
  cases h1:x.cl<;>rw[h1] at hw<;>simp at hw
  ·exact .inr ⟨rfl,hw⟩
  ·exact .inl ⟨rfl,hw⟩
 rcases hcf with⟨h1,rfl⟩|⟨h1,h2⟩
 case' inr=>cases w
 case' inl=>
  rw[Ae rfl,Ae rfl] at hR;rw[h1];refine Aj ?_;refine Fy ?_;intro S3 s3 L3 hS3 hK3 hT3 mr3;refine Aj ?_
 case' inr.true=>
  rw[Ae rfl,Ae rfl] at hR;rw[h1,h2];refine Aj ?_;refine Fy ?_;intro S3 s3 L3 hS3 hK3 hT3 mr3;refine Aj ?_
 case' inr.false=>
  rw[Ac AW,Ac AW] at hR;rw[h1,h2];refine Aj ?_;refine Fy ?_;intro S3 s3 L3 hS3 hK3 hT3 mr3;refine Aj ?_
 all_goals
  rw[<-hS3] at hR;have htw:=hK3.tO id;refine SK (id:=id) ck ⟨htw.out⟩ ?_;intro S4 s4 L4 hS4 hK4 hT4 mr4;rw[show DS S3 (ni (Er S3 id))=S4 from hS4.symm] at hR;refine Aj ?_;obtain⟨X,rfl⟩:Tail L4 (l++G):=hT4.trans (hT3.trans (hT2.trans hT1))
  first
   |refine Bk (.of_perm (Hg (lo:=[SL c7 n1,Th.thC c5 {x with cl:=true},rB B1 b,BG B2 id,BG B3 t]))) ?_
   |refine Bk (.of_perm (Hg (lo:=[SL c7 n1,Th.thC c5 {x with cl:=false,fa:=true},rB B1 b,BG B2 id,BG B3 t]))) ?_
   |refine Bk (.of_perm (Hg (lo:=[SL c7 n1,Th.thC c5 {x with cl:=false,fa:=false},rB B1 b,BG B2 id,BG B3 t]))) ?_
  refine AS (CK (vs:=[ZQ n1]) rfl rfl (hY [] n1 l _ (Bf _) h0)) ?_;rintro v _ ⟨l1,rfl,hI,rfl⟩;refine Bk (.of_perm M5) ?_;simp only[Ad,Ag]
  first
   |(have hgo:R.1=[n1]:=by rw[<-hR]
     refine Aj ?_;subst hR;exact AU [] _ rfl .refl (by exact A7) (.drop (.drop (.of_perm (Hg (X:=[]) (lo:=[rB B1 b,BG B2 id,BG B3 t]))))) ⟨[n1],l1,_,hI,⟨rfl,s4,X++G,hK4.mono Af,⟨X,rfl⟩,rfl⟩,rfl⟩)
   |(have hgo:R.1=[n1,L8 id]:=by rw[<-hR]
     refine Aj ?_;refine Bk (.of_perm (Hg (X:=[]) (lo:=[SL c7 n1,Th.thC c5 {x with cl:=false,fa:=false},rB B1 b,BG B2 id,BG B3 t]))) ?_;refine AS (CK (vs:=[ZQ (L8 id)]) rfl rfl (hY [n1] (L8 id) l1 _ (by simp) hI)) ?_;rintro v _ ⟨l2,rfl,hI2,rfl⟩;refine Bk (.of_perm M5) ?_;simp only[Ad,Ag];refine Aj ?_;subst hR;exact AU [] _ rfl .refl (by exact A7) (.drop (.drop (.of_perm (Hg (X:=[]) (lo:=[rB B1 b,BG B2 id,BG B3 t]))))) ⟨[n1,L8 id],l2,_,hI2,⟨rfl,s4,X++G,hK4.mono Af,⟨X,rfl⟩,rfl⟩,rfl⟩)
def M6(S:KT)(ca:Int)(m:Ob)(t:Int):List Hs×KT:=
 let c:=Er S ca
 (if c.fa=true then[L8 t] else[⟨c.id,0,0,m,0,false,0,0,false⟩,L8 t],(NO (DS S (Pt m (Er S c.id))) c.id 1).2)
theorem cK{m:Ob}{t:Th.ThT}(h:TW t):TW (Pt m t):=by
 unfold Pt
 split<;>exact⟨h.out⟩
set_option maxHeartbeats 2000000 in
theorem WI(hK:IsK F C (k+1) S p s)(B1 B2 B3 B4:Nat)(x:Th.ThT)(m:Ob)(t:Int):
 WB prog 280 [pV B1,pV B2,pV B3,pV B4] (λn:Hs=>[ZQ n]) ([rB B1 b,Th.thC B2 x,Sr B3 m,BG B4 t]++Av b p s S G) (λxs C'=>xs=(M6 S x.ca m t).1/\ ∃s' L,IsK F C k (M6 S x.ca m t).2 p s'/\Tail L G/\C'=[rB B1 b,Th.thC B2 x,Sr B3 m,BG B4 t]++Av b p s' (M6 S x.ca m t).2 L):=by
 refine⟨λr I hY l h0=>?_⟩;refine Fn.keep (.of_perm (M5 (lo:=[rB B1 b,Th.thC B2 x,Sr B3 m,BG B4 t]))) ?_;have mr:Co b p∈Av b p s S (l++G):=mR λ_ h=>h;obtain⟨R,hR⟩: ∃R,M6 S x.ca m t=R:=⟨_,rfl⟩
 rw[hR];unfold M6 at hR;simp only[Ad,Ag];refine AO func280 ntmps280 λE=>?_;refine Aj ?_;refine Ch (Cf [8,9] 0 11) ?_;refine Ci ?_;obtain⟨c,hc⟩: ∃c,Er S x.ca=c:=⟨_,rfl⟩
 rw[hc] at hR⊢;dsimp only at hR;refine Hf e_alloc (by rintro _ _ ⟨_,_,_,rfl⟩ c hc;exact .tail _ hc) ?_;rintro _ _ ⟨c6,_,rfl,rfl⟩;refine Ci ?_;refine Aj ?_;have htw:=hK.tO c.id;refine SK (id:=c.id) (Yo B3 m) (cK htw) ?_;intro S1 s1 L1 hS1 hK1 hT1 mr1;rw[show DS S (Pt m (Er S c.id))=S1 from hS1.symm] at hR;refine Aj ?_;refine Fy ?_;intro S2 s2 L2 hS2 hK2 hT2 mr2;rw[<-hS2] at hR;refine Aj ?_;obtain⟨X,rfl⟩:Tail L2 (l++G):=hT2.trans hT1;cases hf:c.fa with
 |true=>rw[Ae hf] at hR;refine Aj ?_;refine Bk (.of_perm (Hg (lo:=[Th.thC c6 {c with fa:=true},rB B1 b,Th.thC B2 x,Sr B3 m,BG B4 t]))) ?_;refine AS (CK (vs:=[ZQ (L8 t)]) rfl rfl (hY [] (L8 t) l _ (Bf _) h0)) ?_;rintro v _ ⟨l1,rfl,hI,rfl⟩;refine Aj ?_;subst hR;exact Cy _ .refl (Keep.trans (.of_perm M5) (.drop (.of_perm (Hg (X:=[]) (lo:=[rB B1 b,Th.thC B2 x,Sr B3 m,BG B4 t]))))) ⟨[L8 t],l1,_,hI,⟨rfl,s2,X++G,hK2,⟨X,rfl⟩,rfl⟩,rfl⟩
 |false=>
  rw[Ac (by rw[hf];decide)] at hR;refine Aj ?_;obtain⟨n1,hn1⟩: ∃n:Hs,n=⟨c.id,0,0,m,0,false,0,0,false⟩:=⟨_,rfl⟩
  refine Bk (.of_perm (Hg (lo:=[Th.thC c6 {c with fa:=false},rB B1 b,Th.thC B2 x,Sr B3 m,BG B4 t]))) ?_;refine It (CK (vs:=[ZQ n1]) rfl (by rw[hn1];rfl) (hY [] n1 l _ (Bf _) h0)) rfl rfl rfl ?_;rintro v _ ⟨l1,rfl,hI,rfl⟩;refine Bk (.of_perm M5) ?_;simp only[Ad,Ag];refine Aj ?_;refine Bk (.of_perm (Hg (X:=[]) (lo:=[Th.thC c6 {c with fa:=false},rB B1 b,Th.thC B2 x,Sr B3 m,BG B4 t]))) ?_;refine AS (CK (vs:=[ZQ (L8 t)]) rfl rfl (hY [n1] (L8 t) l1 _ (by simp) hI)) ?_;rintro v _ ⟨l2,rfl,hI2,rfl⟩;refine Aj ?_;subst hR;subst hn1;exact Cy _ .refl (Keep.trans (.of_perm M5) (.drop (.of_perm (Hg (X:=[]) (lo:=[rB B1 b,Th.thC B2 x,Sr B3 m,BG B4 t]))))) ⟨_,l2,_,hI2,⟨rfl,s2,X++G,hK2,⟨X,rfl⟩,rfl⟩,rfl⟩
end
section
def OV(S:KT)(t:Int)(x:CB)(inn:Int):(List Hs×Int)×KT:=
 if ¬(GR S t inn).2=0 then(([],(GR S t inn).2),S)
 else if ¬(getD' S.H.1 x).2=0\/¬(D5 S x).kind=8 then(([],8),S)
 else if KB (D5 S x).rights 1=0 then(([],9),S)
 else if(En.firstD S.E (D5 S x).obj).2.2=false\/(En.firstD S.E (D5 S x).obj).2.1=false then
  (([],0),(NO (DS {DS S {Er S t with inn:=inn} with E:=(En.waitD S.E (D5 S x).obj t false).2} {Er (DS S {Er S t with inn:=inn}) t with wa:=(D5 S x).obj}) t 3).2)
 else(((PS (DS S {Er S t with inn:=inn}) t (En.firstD S.E (D5 S x).obj).1).1,0),(PS (DS S {Er S t with inn:=inn}) t (En.firstD S.E (D5 S x).obj).1).2)
set_option maxHeartbeats 4000000 in
theorem pm(hK:IsK F C (k+2) S p s)(t:Int)(x:CB)(inn:Int):Fn prog 208 [pV b,.int .i64 t,Fp x,.int .i64 inn] (Av b p s S G) (KN F C b p k (OV S t x inn).1.1 (OV S t x inn).1.2 (OV S t x inn).2 G):=by
 have mr:Co b p∈Av b p s S G:=mR λ_ h=>h;have htw:=hK.tO t;obtain⟨R,hR⟩: ∃R,OV S t x inn=R:=⟨_,rfl⟩
 rw[hR];unfold OV at hR;refine AO func208 ntmps208 λE=>?_;refine AQ λb4=>?_;refine AQ λb5=>?_;refine AQ λb6=>?_;refine AQ λb7=>?_;refine Ea ?_;have hro:=Sg (S:=S) (t:=t) (a:=inn);obtain⟨r,hr⟩: ∃r,GR S t inn=r:=⟨_,rfl⟩
 rw[hr] at hR hro⊢;refine AQ λb10=>?_;by_cases h0:r.2=0
 case neg=>rw[Ae h0] at hR;subst hR;refine Aj ?_;exact Fk
 rw[Ac (λh=>h h0)] at hR;obtain⟨e1,e2,e3,e4,e5⟩:=hro h0;refine Aj ?_;refine Ch (Cf [7,8] 0 10) ?_;refine Ci ?_;obtain⟨c,hc⟩: ∃c,(getD' S.H.1 x).1=c:=⟨_,rfl⟩
 obtain⟨e,he⟩: ∃e,(getD' S.H.1 x).2=e:=⟨_,rfl⟩
 rw[show D5 S x=c from hc,he] at hR;rw[hc,he];refine Hf e_alloc (by rintro _ _ ⟨_,_,_,rfl⟩ c hc;exact .tail _ hc) ?_;rintro _ _ ⟨b12,_,rfl,rfl⟩;refine Ci ?_;by_cases h1:¬e=0\/¬c.kind=8
 ·rw[Ae h1] at hR;subst hR;by_cases h2:e=0<;>by_cases h3:c.kind=8;all_goals first
   |(exfalso;omega)
   |(refine Aj ?_
     exact Fk)
 rw[Ac h1] at hR;obtain⟨h2,h3⟩:e=0/\c.kind=8:=by omega
 refine Aj ?_;refine Bc (Jy rfl rfl) ?_;obtain⟨w,hw⟩: ∃w,KB c.rights 1=w:=⟨_,rfl⟩
 rw[hw] at hR⊢;by_cases h4:w=0
 ·rw[Ae h4] at hR;subst hR;refine Aj ?_;exact Fk
 rw[Ac h4] at hR;refine Aj ?_;refine SK (id:=t) (gI b7 inn) ⟨htw.out⟩ ?_;intro S0 s0 L0 hS0 hK0 hT0 mr0;rw[show DS S {Er S t with inn:=inn}=S0 from hS0.symm] at hR;have eE:S0.E=S.E:=by rw[hS0]
 rw[<-eE] at hR;refine Aj ?_;obtain⟨f,hf⟩: ∃f,En.firstD S0.E c.obj=f:=⟨_,rfl⟩
 rw[hf] at hR;refine Kk [(0,true),(1,true),(2,true),(3,true),(4,false),(5,true),(6,true),(7,true),(8,true),(9,false),(10,false),(11,true),(12,true)] [[],[0],[],[2],[0,1,2,3],[0,1,2,3,4],[0,1,2,3,4,5],[0,1,2,3,4,5],[0,1,2,3,4,5],[],[0,1,2,3,4,5,6,9],[0,1,2,3,4,5,6,7,9,10],[0,1,2,3,4,5,6,7,8,9,10,11]] 4 9 ([rB b4 b,Bp b12 c,Co b p]) Bv Bv Gh ((T3 BO BO BO)) ?_;refine BI ?_;refine Tf ?_;refine BI ?_;refine Mv [(9,false),(4,false),(5,true),(6,true),(7,true),(8,true),(10,false),(11,true),(12,true)] Gh (AH (l₁:=[_,_,_,_,_])).symm Bv ?_ ?_
 case' refine_1=>
  refine qe ?_ ?_
  ·intro S2 s2 L2;have mr2:Co b p∈Av b p s2 S2 L2:=mR λ_ h=>h;exact T3 BO BO BO
  intro S1 s1 L1 hS1 hK1 hT1 mr1;iterate 4 refine VC ?_
  refine CE e_alloc rfl rfl rfl ?_ ?_
  ·rintro _ _ ⟨_,_,_,rfl⟩ c hc;exact .tail _ (T3 BO BO BO c hc)
  rintro _ _ ⟨b13,_,rfl,rfl⟩
 case' refine_2=>
  refine CE e_alloc rfl rfl rfl ?_ ?_
  ·rintro _ _ ⟨_,_,_,rfl⟩ c hc;exact .tail _ (T3 BO BO BO c hc)
  rintro _ _ ⟨b13,_,rfl,rfl⟩;refine qe ?_ ?_
  ·intro S2 s2 L2;have mr2:Co b p∈Av b p s2 S2 L2:=mR λ_ h=>h;exact T3 BO BO BO
  intro S1 s1 L1 hS1 hK1 hT1 mr1;iterate 4 refine VC ?_
 all_goals
  rw[hf];rw[<-hS1] at hR;refine mf ?_ (hR:=T3 BO BO BO);refine BI ?_;refine Aj ?_;by_cases h8:f.2.2=false\/f.2.1=false
  ·rw[Ae h8] at hR;cases h9:f.2.2<;>cases h10:f.2.1;all_goals first
    |(exfalso;simp[h9,h10] at h8;done)
    |(refine Aj ?_
      refine Ch (Cf [5] 0 6) ?_;refine Ci ?_;refine Lj ?_;intro S2 s2 L2 hS2 hK2 hT2 mr2;refine Ci ?_;refine Aj ?_;have htw2:=hK2.tO t;refine SK (id:=t) (gJ b12 c) ⟨htw2.out⟩ ?_;intro S3 s3 L3 hS3 hK3 hT3 mr3;rw[<-hS2,show Er S1 t=Er S2 t from by rw[hS2],show DS S2 {Er S2 t with wa:=c.obj}=S3 from hS3.symm] at hR;refine Aj ?_;refine Fy ?_;intro S4 s4 L4 hS4 hK4 hT4 mr4;refine Aj ?_;rw[<-hS4] at hR;subst hR;exact Fk)
  rw[Ac h8] at hR;obtain⟨h9,h10⟩:f.2.2=true/\f.2.1=true:=by simpa using h8
  rw[h9,h10];obtain⟨u,hu⟩: ∃u,f.1=u:=⟨_,rfl⟩
  rw[hu] at hR⊢;refine Aj ?_;refine AS (Az rfl rfl (Fn.keep ?_ (Pu (Yw (b:=b) (G:=L1) hK1 b4 b13 b5 t u)))) ?_
  ·exact AR
  rintro sl _ ⟨xs,cs,C',ho,⟨rfl,s',L',hK',hT',rfl⟩,rfl⟩;refine Aj ?_;subst hR;exact Cy _ .refl QA ⟨sl,cs,s',L',rfl,ho,hK',hT'.trans (hT1.trans hT0),rfl⟩
def LS(S:KT)(t:Int)(m:Ob):(List Hs×Int)×KT:=
 if ¬(GR S t 0).2=0 then(([],(GR S t 0).2),S)
 else if(Er S t).ca=0 then(([],18),S)
 else(((M6 (DS S {Er S t with ca:=0}) (Er S t).ca m t).1,0),(M6 (DS S {Er S t with ca:=0}) (Er S t).ca m t).2)
set_option maxHeartbeats 2000000 in
theorem lr(hK:IsK F C (k+1) S p s)(t:Int)(m:Ob):Fn prog 209 [pV b,.int .i64 t,iT m] (Av b p s S G) (KN F C b p k (LS S t m).1.1 (LS S t m).1.2 (LS S t m).2 G):=by
 have mr:Co b p∈Av b p s S G:=mR λ_ h=>h;have htw:=hK.tO t;obtain⟨R,hR⟩: ∃R,LS S t m=R:=⟨_,rfl⟩
 rw[hR];unfold LS at hR;refine AO func209 ntmps209 λE=>?_;refine AQ λb3=>?_;refine AQ λb4=>?_;refine AQ λb5=>?_;refine Ea ?_;have hro:=Sg (S:=S) (t:=t) (a:=0);obtain⟨r,hr⟩: ∃r,GR S t 0=r:=⟨_,rfl⟩
 rw[hr] at hR hro⊢;refine AQ λb8=>?_;by_cases h0:r.2=0
 case neg=>rw[Ae h0] at hR;subst hR;refine Aj ?_;exact Fk
 rw[Ac (λh=>h h0)] at hR;obtain⟨e1,e2,e3,e4,e5⟩:=hro h0;obtain⟨y,hy⟩: ∃y,Er S t=y:=⟨_,rfl⟩
 rw[hy] at e1 e3 hR htw;rw[e1];by_cases h1:y.ca=0
 ·rw[Ae h1] at hR;subst hR;refine Aj ?_;exact Fk
 rw[Ac h1] at hR;refine Aj ?_;refine SK (id:=t) cm ⟨by rw[hy];exact htw.out⟩ ?_;intro S0 s0 L0 hS0 hK0 hT0 mr0;rw[hy] at hS0;rw[show DS S {y with ca:=0}=S0 from hS0.symm] at hR;refine Aj ?_;refine AS (Az rfl rfl (Fn.keep ?_ (Pu (WI (b:=b) (G:=L0) hK0 b3 b8 b5 b4 y m t)))) ?_
 ·exact AR
 rintro sl _ ⟨xs,cs,C',ho,⟨rfl,s',L',hK',hT',rfl⟩,rfl⟩;refine Aj ?_;subst hR;exact Cy _ .refl QA ⟨sl,cs,s',L',rfl,ho,hK',hT'.trans hT0,rfl⟩
end
structure U0 where
 hs:Bool
 wr:Bool
 va:Int
 vl:Int
deriving DecidableEq
abbrev vU(x:U0):List Value:=[.bool x.hs,.bool x.wr,Ba x.va,Ba x.vl]
abbrev pn(x:U0):Value:= .agg (List.toArray (vU x))
structure po where
 kd:Int
 va:Int
 wr:Bool
deriving DecidableEq
abbrev vV(x:po):List Value:=[iV x.kd,Ba x.va,.bool x.wr]
abbrev uf(x:po):Value:= .agg (List.toArray (vV x))
def uY(F C b:Nat)(p:RP)(k:Nat)(xs:List Hs)(S:KT)(G:List Ab):Value->List Ab->Prop:=λv l'=> ∃cs s L,OwnSl 69 12 v xs.length (GS xs) cs/\IsK F C k S p s/\Tail L G/\l'=cs++Av b p s S L
theorem cL(S:KT)(t:Int)(x:CB)(m:Ob)(gv:Int)(cl:Bool):(Jr S t x m gv cl).1.1.length<=2:=by
 unfold Jr OU
 repeat' split
 all_goals simp
theorem WJ(xs:List Hs): ∀u,u∈GS xs->u.oneCell'=true:=by intro u hu;obtain⟨n,_,h⟩:=ID.1 hu;simp only[Ps,Aq,BK,Ec] at h;rcases h with rfl|rfl|rfl|rfl|rfl|rfl|rfl|rfl|rfl|rfl|rfl|rfl<;>rfl
theorem lu{a1 a2 a3 n a4 a5 a6:Ab}{Z:List Ab}(h:Y.Perm (cs++Z)):(a1::a2::a3::n::a4::a5::a6::Y).Perm ([n]++(cs++([a1,a2,a3,a4,a5,a6]++Z))):=by refine(El [a1,a2,a3,n,a4,a5,a6] h).trans ?_;exact Cc
theorem gZ{c A B:List Ab}:Keep (c++(A++(B++Y))) (c++Y):=⟨A++B,Cc⟩
section
section
variable{P:Program}{ro:Option Nat}{ops:Array Oper}{Q:Exit->Act->World->Prop}{rest:List Oper}{ds:List Deferred}{d f k':Nat}{x:Operand}{xs:List Operand}{vs:List Value}{at_:Array TypeId}{ty:TypeId}{pos:String}{aft:Array Edge}{g:Option (Nat×Bool)}{S':KT}{ns:List Hs}
theorem qi(h: ∀G,Fn P f vs (Av b p s S G) (KN F C b p k' ns co S' G))(hk: ∀sl cs S1 s' L,S1=S'->OwnSl 69 12 sl ns.length (GS ns) cs->IsK F C k' S1 p s'->Tail L (cs++G)->Co b p∈Av b p s' S1 L->Df P ro N E ops Q rest ((d,.tuple #[sl,iV co])::fr) ds (Γ (Av b p s' S1 L)))(hx:ev fr x=some (.func (.func f) #[] #[]):=by rfl)(hy:PX fr xs=some vs:=by rfl)(hF:Fr1 (Av b p s S G) l Γ:=by exact Zr)(c:EN P f:=by infer_instance)(hw:Pz ops fr g=some true:=by rfl)(hb:Nat.blt d N=true:=by rfl):Df P ro N E ops Q (⟨some d,.call {callee:= .value x,args:=xs.toArray,argTypes:=at_},ty,pos,aft,g⟩::rest) fr ds l:=by
 obtain⟨A,rfl,hA⟩:=hF.eq;refine It (Az hx hy (Fn.re (.of_perm (EF b p s S A G)) (h (A++G)) (K':=λv l'=> ∃sl cs s' L,v= .tuple #[sl,iV co]/\OwnSl 69 12 sl ns.length (GS ns) cs/\IsK F C k' S' p s'/\Tail L (cs++G)/\l'=Γ (Av b p s' S' L)) λv l' ⟨sl,cs,s',L,h1,h2,h3,⟨X,h4⟩,h5⟩=>⟨Γ (Av b p s' S' (X++(cs++G))),?_,sl,cs,s',_,h1,h2,h3,⟨X,rfl⟩,rfl⟩)) hw rfl hb λv l' ⟨sl,cs,s',L,h1,h2,h3,h4,h5⟩=>by rw[h1,h5];exact hk sl cs S' s' L rfl h2 h3 h4 (mR λ_ h=>h)
 rw[h5,h4,hA];refine .of_perm ?_;unfold Av;exact Cc
end
abbrev OW(t:Th.ThT)(x:U0):Th.ThT:={t with hs:=x.hs,wr:=x.wr,va:=x.va,vl:=x.vl}
abbrev U1(id:Int)(f:po):Hs:=⟨id,6,0,qf,0,false,f.kd,f.va,f.wr⟩
abbrev ia(f:po):Ob:=⟨f.kd,f.va,if f.wr=true then 1 else 0,0⟩
def N7(S:KT)(t:Th.ThT)(x:U0)(f:po):List Hs×KT:=
 if ¬(getD' S.H.1 (t.id,2)).2=0\/¬(D5 S (t.id,2)).kind=8\/KB (D5 S (t.id,2)).rights 2=0 then([U1 t.id f],(Jq (DS S (OW t x)) t.id).2)
 else(U1 t.id f::(Jr (DS S (OW t x)) t.id (t.id,2) (ia f) 4096 true).1.1,DS (Jr (DS S (OW t x)) t.id (t.id,2) (ia f) 4096 true).2 {Er (Jr (DS S (OW t x)) t.id (t.id,2) (ia f) 4096 true).2 t.id with fa:=true,cl:=t.cl})
set_option maxHeartbeats 4000000 in
theorem Z3(hK:IsK F C (k+2) S p s)(t:Th.ThT)(x:U0)(f:po)(hw:TW (OW t x))(hf:0<=f.kd/\f.kd<=100):Fn prog 157 [pV b,Th.thV t,pn x,uf f] (Av b p s S G) (uY F C b p k (N7 S t x f).1 (N7 S t x f).2 G):=by
 have mr:Co b p∈Av b p s S G:=mR λ_ h=>h;obtain⟨hf1,hf2⟩:=hf;obtain⟨R,hR⟩: ∃R,N7 S t x f=R:=⟨_,rfl⟩
 rw[hR];unfold N7 at hR;refine AO func157 ntmps157 λE=>?_;refine AQ λb5=>?_;refine AQ λb6=>?_;refine AQ λb7=>?_;refine Ch (Cf [3] 0 4) ?_;refine Ci ?_;refine Lj (q:=M0 (OW t x) hw) ?_;intro S1 s1 L1 hS1 hK1 hT1 mr1;rw[show DS S (OW t x)=S1 from hS1.symm] at hR;have eH:S1.H=S.H:=by rw[hS1]
 rw[<-eH,show D5 S (t.id,2)=D5 S1 (t.id,2) by unfold D5;rw[eH]] at hR;refine Ci ?_;refine Aj ?_;refine AS (E3 (ws:=Ps (U1 t.id f)) (k:=12) rfl rfl rfl AW AW) ?_;rintro _ _ ⟨bn,_,rfl,rfl⟩;refine Aj ?_;refine Hb 1 ?_;refine AQ λb10=>?_;refine Ch (Cf [7,8] 0 10) ?_;refine Ci ?_;obtain⟨c,hc⟩: ∃c,(getD' S1.H.1 (t.id,2)).1=c:=⟨_,rfl⟩
 obtain⟨e,he⟩: ∃e,(getD' S1.H.1 (t.id,2)).2=e:=⟨_,rfl⟩
 rw[show D5 S1 (t.id,2)=c from hc,he] at hR;rw[hc,he];refine Hf e_alloc (by rintro _ _ ⟨_,_,_,rfl⟩ c hc;exact .tail _ hc) ?_;rintro _ _ ⟨b11,_,rfl,rfl⟩;refine Ci ?_;obtain⟨w,hw2⟩: ∃w,KB c.rights 2=w:=⟨_,rfl⟩
 rw[hw2] at hR;have hl1:OwnSl 69 12 (.slice (some ⟨bn,0,none⟩) 1 1) 1 (Ps (U1 t.id f)) [SL bn (U1 t.id f)]:=⟨rfl,.inr ⟨bn,1,[],rfl,rfl,A5 _,by unfold maxLen;omega,rfl⟩⟩
 by_cases h1:¬e=0\/¬c.kind=8
 ·rw[Ae Af] at hR;subst hR;by_cases h2:e=0<;>by_cases h3:c.kind=8;all_goals first
   |(exfalso;omega)
   |(refine Aj ?_
     refine Fy ?_;intro S2 s2 L2 hS2 hK2 hT2 mr2;refine Aj ?_;exact AU (vs:=[.slice (some ⟨bn,0,none⟩) 1 1]) [] _ rfl .refl (by exact A7) (l':=[SL bn (U1 t.id f)]++Av b p s2 S2 L2) (by exact AR) ⟨_,s2,L2,hl1,by rw[<-hS2];exact hK2.mono Af,hT2.trans hT1,by rw[<-hS2]⟩)
 obtain⟨h2,h3⟩:e=0/\c.kind=8:=by omega
 refine Aj ?_;refine Vu (Jy rfl rfl) rfl rfl rfl rfl rfl rfl ?_;rw[hw2];by_cases h4:w=0
 ·rw[Ae Af] at hR;subst hR;refine Aj ?_;refine Fy ?_;intro S2 s2 L2 hS2 hK2 hT2 mr2;refine Aj ?_;exact AU (vs:=[.slice (some ⟨bn,0,none⟩) 1 1]) [] _ rfl .refl (by exact A7) (l':=[SL bn (U1 t.id f)]++Av b p s2 S2 L2) (by exact AR) ⟨_,s2,L2,hl1,by rw[<-hS2];exact hK2.mono Af,hT2.trans hT1,by rw[<-hS2]⟩
 rw[Ac Af] at hR;obtain⟨st,hst⟩: ∃st:Int,(if f.wr=true then(1:Int) else 0)=st:=⟨_,rfl⟩
 have hfm:ia f=⟨f.kd,f.va,st,0⟩:=by rw[<-hst]
 rw[hfm] at hR;cases hwr:f.wr
 case' true=>rw[hwr,Ae rfl] at hst
 case' false=>rw[hwr,Ac AW] at hst
 all_goals
  refine Aj ?_;rw[hwr];refine Aj ?_;refine l6 (v:= .agg (List.toArray [Ba f.kd,Ba f.va,Ba st,.int .u64 0])) (by apply F5 (zs:=[.int .u64 0,.int .u64 0,.int .u64 0,.int .u64 0]) (cs:=[Ba f.kd,Ba f.va,Ba st,.int .u64 0]);(·subst hst;rfl);(·subst hst;rfl)) rfl rfl rfl ?_;refine Aj ?_;have hlen:=cL S1 t.id (t.id,2) ⟨f.kd,f.va,st,0⟩ 4096 true;refine qi (vs:=[pV b,.int .i64 t.id,Fp (t.id,2),iT ⟨f.kd,f.va,st,0⟩,.int .i64 4096,.bool true]) (λG=>Yv hK1 t.id (t.id,2) ⟨f.kd,f.va,st,0⟩ 4096 true) ?_;intro sl cs S2 s2 L2 hS2 ho2 hK2 hT2 mr2;rw[<-hS2] at hR;obtain⟨ns,hns⟩: ∃ns,(Jr S1 t.id (t.id,2) ⟨f.kd,f.va,st,0⟩ 4096 true).1.1=ns:=⟨_,rfl⟩
  rw[hns] at hR ho2 hlen;refine Aj ?_;refine Ch (Cf [8,9] 0 11) ?_;refine Ci ?_;have htw:=hK2.tO t.id;obtain⟨u,hu⟩: ∃u,Er S2 t.id=u:=⟨_,rfl⟩
  rw[hu] at hR htw⊢;refine Hf e_alloc (by rintro _ _ ⟨_,_,_,rfl⟩ c hc;exact .tail _ hc) ?_;rintro _ _ ⟨b16,_,rfl,rfl⟩;refine Ci ?_;refine Aj ?_;refine Ce [3,5] 6 ([Th.thC b5 (OW t x)]) ?_ (hR:=(SJ BO));iterate 3 refine VC ?_
  refine mf ?_ (hR:=SJ BO);refine VC ?_;refine mf ?_ (hR:=SJ BO);refine BI ?_;refine Aj ?_;refine Ch (Cf [3] 0 4) ?_;refine Ci ?_;refine Lj (q:=M0 {u with fa:=true,cl:=t.cl} ⟨htw.out⟩) ?_;intro S3 s3 L3 hS3 hK3 hT3 mr3;rw[show DS S2 {u with fa:=true,cl:=t.cl}=S3 from hS3.symm] at hR;refine Ci ?_;refine Aj ?_;obtain⟨L4,hL4,hp4⟩:=Gs (b:=b) (p:=p) (s:=s3) (S:=S3) (hT3.trans hT2);refine Bk (.of_perm (lu hp4)) ?_;refine Aj ?_;refine AS (Pr (k:=12) (n:=1) (m:=ns.length) (xs:=Ps (U1 t.id f)) (ys:=GS ns) (zs:=Ps (L8 0)) (cs:=[SL bn (U1 t.id f)]) (cw:=cs) rfl rfl rfl hl1 ho2 (WJ ns) Af Af AW) ?_;rintro v2 _ ⟨c2,ho3,rfl⟩;refine Aj ?_;refine Ew ?_;refine Aj ?_;subst hR;exact AU [] _ rfl .refl (by exact A7) gZ ⟨c2,s3,L4,by rw[Bi,Js];exact ho3,hK3,hL4.trans hT1,rfl⟩
end
end Go.Proofs.YtlkgekpmileobaaGreat
