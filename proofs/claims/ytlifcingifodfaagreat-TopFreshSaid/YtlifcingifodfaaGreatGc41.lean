/- Laws that the statement's proof leans on (joined out of several texts). -/
import Derived.Test.YtlifcingifodfaaGreatGc40
set_option maxHeartbeats 4000000
set_option linter.unusedVariables false
set_option linter.unusedSimpArgs false
namespace Go.Proofs.YtlifcingifodfaaGreat
open Tryz
open List(toArray)
open Go.RowKit
set_option maxRecDepth 20000
variable{T L A B cs lo G X Z:Ad}{x:Ck}{k F C b e n r:Nat}{lp c a c10 c8 cB cv c5 c6 c7 c2:Bg}{S:KT}{p:RP}{s:RL}{ys:List Ck}{v:Value}{H:HS}{o:Obj}
structure Oz where
 a:Int
 b:Int
 c:Int
 d:Int
deriving DecidableEq
abbrev msC(m:Oz):Ap:=[Bc m.a,Bc m.b,Bc m.c,Bc m.d]
abbrev pu(m:Oz):Value:= .agg (toArray (msC m))
abbrev UO(B:Nat)(m:Oz):Bg:=(B,.cells (toArray (msC m)) 55 (0,0))
abbrev u6B(B:Nat)(x:Int):Bg:=(B,.cells (toArray [Bc x]) 34 (0,0))
structure Ii where
 th:Int
 co:Int
 va:Int
 ms:Oz
 bd:Int
 got:Bool
 fk:Int
 fv:Int
 fw:Bool
deriving DecidableEq
abbrev R2(n:Ii):Ap:=[iV n.th,iV n.co,Bc n.va,Bc n.ms.a,Bc n.ms.b,Bc n.ms.c,Bc n.ms.d,Bc n.bd,.bool n.got,iV n.fk,Bc n.fv,.bool n.fw]
abbrev eu(n:Ii):Value:= .agg (toArray (R2 n))
abbrev U4(B:Nat)(n:Ii):Bg:=(B,.cells (toArray (R2 n)) 69 (0,0))
abbrev nsC(B:Nat)(v:Value):Bg:=(B,.cells (toArray [v]) 30 (0,0))
abbrev yS:Oz:=⟨0,0,0,0⟩
abbrev Np(t:Int):Ii:=⟨t,0,0,yS,0,false,0,0,false⟩
abbrev ur(m:Oz)(bd:Int)(got:Bool)(t:Th.ThT):Th.ThT:={t with m0:=m.a,m1:=m.b,m2:=m.c,m3:=m.d,bd:=bd,got:=got,inn:=4096,wa:=0}
theorem nA(b1 b2 b3:Nat)(m:Oz)(bd:Int)(got:Bool):nz prog 319 [pV b1,pV b2,pV b3] [UO b1 m,u6B b2 bd,Xv b3 got] (ur m bd got):=by refine⟨λx t l hA=>?_⟩;have n1:UO b1 m∈l:=hA _ (.head _);have n2:u6B b2 bd∈l:=hA _ (.tail _ (.head _));have n3:Xv b3 got∈l:=hA _ (.tail _ (.tail _ (.head _)));refine AO func319 ntmps319 λE=>?_;refine Aj ?_;refine Cn [10,13,16,19,22] 23 (l) ?_ (hR:=(λc hc=> .tail _ hc));refine BS ?_;exact E4
theorem V5(b1:Nat)(u:Int):nz prog 320 [pV b1] [BP b1 u] (λt=>{t with ca:=u}):=by refine⟨λx t l hA=>?_⟩;have n1:BP b1 u∈l:=hA _ (.head _);refine AO func320 ntmps320 λE=>?_;exact E4
abbrev ey(m:Oz)(c:CapT)(gv:Int)(cl:Bool)(t:Th.ThT):Th.ThT:={t with o0:=m.a,o1:=m.b,o2:=m.c,o3:=m.d,ob:=c.badge,gv:=gv,cl:=cl,wa:=c.obj}
theorem nB(b1 b2 b3 b4:Nat)(m:Oz)(c:CapT)(gv:Int)(cl:Bool):nz prog 266 [pV b1,pV b2,pV b3,pV b4] [UO b1 m,Bv b2 c,BP b3 gv,Xv b4 cl] (ey m c gv cl):=by refine⟨λx t l hA=>?_⟩;have n1:UO b1 m∈l:=hA _ (.head _);have n2:Bv b2 c∈l:=hA _ (.tail _ (.head _));have n3:BP b3 gv∈l:=hA _ (.tail _ (.tail _ (.head _)));have n4:Xv b4 cl∈l:=hA _ (.tail _ (.tail _ (.tail _ (.head _))));refine AO func266 ntmps266 λE=>?_;refine Aj ?_;refine Cn [14,17,20,23,26] 27 (l) ?_ (hR:=(λc hc=> .tail _ hc));refine BS ?_;exact E4
theorem iC:nz prog 270 [] [] (λt=>{t with cl:=true}):=by refine⟨λx t l hA=>?_⟩;refine AO func270 ntmps270 λE=>?_;exact E4
theorem nD(b1:Nat)(u:Int):nz prog 274 [pV b1] [BP b1 u] (λt=>{t with inn:=u}):=by refine⟨λx t l hA=>?_⟩;have n1:BP b1 u∈l:=hA _ (.head _);refine AO func274 ntmps274 λE=>?_;exact E4
theorem nE(b1:Nat)(c:CapT):nz prog 275 [pV b1] [Bv b1 c] (λt=>{t with wa:=c.obj}):=by refine⟨λx t l hA=>?_⟩;have n1:Bv b1 c∈l:=hA _ (.head _);refine AO func275 ntmps275 λE=>?_;exact E4
theorem iD:nz prog 277 [] [] (λt=>{t with wa:=0,o0:=0,o1:=0,o2:=0,o3:=0,ob:=0,gv:=4096}):=by refine⟨λx t l hA=>?_⟩;refine AO func277 ntmps277 λE=>?_;refine Aj ?_;refine Be (GL (zs:=[.int .u64 0,.int .u64 0,.int .u64 0,.int .u64 0]) (cs:=[.int .u64 0,.int .u64 0,.int .u64 0,.int .u64 0]) rfl rfl) ?_;exact E4
theorem iE:nz prog 278 [] [] (λt=>{t with ca:=0}):=by refine⟨λx t l hA=>?_⟩;refine AO func278 ntmps278 λE=>?_;exact E4
def OA(m:Oz)(t:Th.ThT):Th.ThT:=if t.fa=true then{t with fa:=false} else{t with cl:=false,m0:=m.a,m1:=m.b,m2:=m.c,m3:=m.d,bd:=0,got:=false}
theorem bH(b1:Nat)(m:Oz):nz prog 280 [pV b1] [UO b1 m] (OA m):=by
 refine⟨λx t l hA=>?_⟩;have n1:UO b1 m∈l:=hA _ (.head _);unfold OA;refine AO func280 ntmps280 λE=>?_;refine Aj ?_;cases hf:t.fa with
 |true=>rw[Ac rfl];exact E4
 |false=>rw[Ab AZ];refine Aj ?_;refine Cn [7,10,13,16] 17 (l) ?_ (hR:=(λc hc=> .tail _ hc));refine BS ?_;refine Aj ?_;exact BD [] rfl .refl (by exact Ba) ⟨rfl,by rw[hf]⟩
theorem Ad0:((a::cs)++c::T).Perm (a::c::(cs++T)):=List.Perm.cons _ AI
theorem Ad1{b:Bg}:(a::b::c::(cs++T)).Perm (a::b::(cs++c::T)):=List.Perm.cons _ (List.Perm.cons _ AI.symm)
abbrev HW(xs:List Ii):Ap:=xs.flatMap R2
theorem iF(xs:List Ii)(x:Ii):HW (xs++[x])=HW xs++R2 x:=by simp[HW]
theorem Rl{gf:Nat}{lb:Ap}{C:Ad}{Out:List Ii->Ad->Prop}[en:EN prog gf](hit:Y8 prog gf lb (λn:Ii=>[eu n]) C Out):Fn prog 267 [.func (.func gf) #[] (toArray lb)] C λv l'=> ∃xs cs C',OwnSl 69 12 v xs.length (HW xs) cs/\Out xs C'/\l'=cs++C':=by
 refine AO func267 ntmps267 λE=>?_;refine AQ λb3=>?_;refine nr (α:=Ii) (ps:=[6]) (lb:=lb) rfl hit (λ_=>rfl) rfl (λpre l=> ∃v cs,OwnSl 69 12 v pre.length (HW pre) cs/\l=nsC b3 v::cs) [nsC b3 (.slice none 0 0)] .refl ⟨_,[],OwnSl.nil _ _,rfl⟩ ?_ ?_
 ·rintro E r0 FS pre x l T ⟨fn,tmps,D,rfl⟩ h3 ⟨v,cs,ho,rfl⟩;refine Em (.of_perm Ad0) ?_;simp only[DU];refine AQ λb4=>?_;refine CH (by exact DX) ?_;refine Em (.of_perm Ad1) ?_;refine Aj ?_;refine AR (FB (ws:=R2 x) (k:=12) rfl rfl rfl AZ AZ) ?_;rintro _ _ ⟨bz,_,rfl,rfl⟩;refine Aj ?_;refine AR (Ht (k:=12) (X:=[U4 b4 x,nsC b3 v]) (cs:=cs) (xs:=HW pre) (n:=pre.length) (zs:=R2 (Np 0)) (ws:=R2 x) rfl rfl rfl ho rfl (by simp[Value.oneCell']) Af AZ) ?_;rintro v2 _ ⟨NG,FK,rfl⟩;simp only[Ae,Ag];have o2:=SE FK;refine Aj ?_;refine Cg (nsC b3 v2::NG) (.drop .refl) ?_;exact⟨v2,NG,by rw[iF,Ah];exact FK,rfl⟩
 ·rintro D xs l C' ⟨v,cs,ho,rfl⟩ hO;simp only[Ae];refine Aj ?_;exact AV (vs:=[v]) [D] _ rfl .refl (by exact Ba) (.drop .refl) ⟨xs,cs,C',ho,hO,rfl⟩
abbrev pw(bl:Nat)(v:Value):Bg:=(bl,.cells (toArray [v]) 491 (0,0))
abbrev lsC(gb:Nat)(ys:List Ck)(sp:Ap):Bg:=(gb,.cells (toArray (Tr.scs ys++sp)) 61 (0,0))
abbrev yT(B bl:Nat):Bg:=(B,.cells #[pV bl] 489 (0,0))
theorem ez{i:Nat}(h:ys[i]?=some x)(sp:Ap):i*2+2<=(toArray (Tr.scs ys++sp)).size/\(toArray (Tr.scs ys++sp)).extract (i*2) (i*2+2)=toArray (Ct x):=by obtain⟨h1,h2⟩:=KV (enc:=Ct) (k:=2) (λ_=>rfl) sp ys i x h;refine⟨by rw[Bt];exact h2,?_⟩;rw[E5,Cp,CG];exact BO toArray h1
theorem nG(bl:Nat)(l:Ad):Fn prog 325 [pV bl] l λv l'=> ∃B,v= .func (.func 361) #[] #[pV B]/\l'=yT B bl::l:=by refine AO func325 ntmps325 λE=>?_;refine AQ λB=>?_;exact Bb .refl ⟨B,rfl,rfl⟩
def NxL(B bl:Nat)(pre:List Ck)(o:Option Ck)(L:Ad):Prop:= ∃gb cap sp ys,yT B bl∈L/\pw bl (.slice (some ⟨gb,0,none⟩) ys.length cap)∈L/\lsC gb ys sp∈L/\ys.length<=1000000/\o=ys[pre.length]?
theorem iG(B bl:Nat):uq prog 361 [pV B] (λx:Ck=>[F4 x]) (NxL B bl):=by
 refine⟨λr I Ix Wg hY m o l X h0=>?_⟩;refine AO func361 ntmps361 λE=>?_;refine Aj ?_;refine CF (α:=Nat×Nat×List Ck×Option Ck×Ad) (λx=>[(0,.func (.yield r) #[] #[]),(1,pV B),(3,.int .i64 x.1)]) (λx=>x.2.2.2.2++X) (λx=>x.2.2.1.length=x.1/\I x.2.1 x.2.2.1 x.2.2.2.1 x.2.2.2.2) (λx=>x.2.1) (0,m,[],o,l) ⟨rfl,h0⟩ ⟨rfl,rfl,rfl,trivial⟩ .refl ?_;rintro⟨i,m,pre,o,l⟩ ⟨hi,hI⟩;simp only at hi hI⊢;obtain⟨gb,cap,sp,ys,n1,n2,n3,hl,ho⟩:=Wg _ _ _ _ X hI;rw[hi] at ho;by_cases Dc:i<ys.length
 ·obtain⟨x,hx⟩: ∃x,ys[i]?=some x:=⟨_,Al Dc⟩
  rw[hx] at ho;subst ho;obtain⟨z1,z2⟩:=ez hx sp;refine Aj ?_;refine Be (Dt rfl n3 z1 z2) ?_;refine Aj ?_;have hy:=hY m pre x l X hI;refine AR (C0 rfl rfl hy) ?_;rintro v _ ⟨l1,rfl,⟨rfl,m',o',hm,Lg⟩|⟨rfl,hx⟩⟩
  ·refine Aj ?_;exact BR (i+1,m',pre++[x],o',l1) ⟨by simp[hi],Lg⟩ hm ⟨rfl,rfl,rfl,trivial⟩ .refl
  ·refine Aj ?_;exact Bb .refl ⟨l1,rfl,.inr ⟨_,hx⟩⟩
 ·rw[Bf Af] at ho;subst ho;refine Aj ?_;exact Bb .refl ⟨l,rfl,.inl ⟨m,pre,hI⟩⟩
def xi(S:KT)(id:Int):KT:=DV S {DW S id with ca:=0}
def endT(S:KT)(id:Int):KT:=if Ps S id=true/\¬(DW S id).ca=0 then xi (IN S (DW S id).ca).2 id else S
def KA(S:KT)(c:CapT):KT:=
 if c.kind=4\/c.kind=5\/c.kind=6 then(PK S c.obj).2
 else if c.kind=8 then(En.listD S.E c.obj).1.foldl (λS t=>(IN S t).2) S
 else if c.kind=9 then endT (IN S c.obj).2 c.obj
 else S
def iH(S:KT)(x:Ck):Bool:=decide ((getD' S.H.1 x).2=0)&&!decide ((Ec S x).kind=0)
def L6(S:KT)(c:CapT)(n:Nat):List Ck:=((List.range n).map λi=>(c.obj,((i:Nat):Int))).filter (iH S)
def L7(S:KT)(c:CapT):List Ck:=L6 S c (Ar.slotsD c.kind (Ar.getD' S.A c.obj).1.sz).toNat
theorem eC(k z:Int):0<=Ar.slotsD k z/\Ar.slotsD k z<=16:=by unfold Ar.slotsD;(repeat' split)<;>omega
theorem V6(S:KT)(c:CapT)(n:Nat):(L6 S c n).length<=n:=BY (C7 _ _) (by simp)
theorem RH(S:KT)(c:CapT)(n:Nat):L6 S c (n+1)=L6 S c n++(if iH S (c.obj,n)=true then[(c.obj,(n:Int))] else[]):=by unfold L6;rw[CA,Aq,DI,AJ,CQ,Fu,List.filter_nil]
theorem nH(h:OwnSl e 2 v (ys.length+1) (Tr.scs ys++Ct x) cs):OwnSl e 2 v (ys++[x]).length (Tr.scs (ys++[x])) cs:=by rw[Tr.scs_snoc,Ah];exact h
theorem V7{U:A4}{j:Nat}(h:j<U.length):U.take (j+1)=U.take j++[U.getD j 0]:=by rw[Cf,List.getD,Al h];rfl
section
theorem eD{xs:Ap}(h:OwnSl e k v n xs cs):n<=9223372036854775807:=by
 have hm:maxLen<=9223372036854775807:=by decide
 rcases h.2 with⟨_,rfl,_⟩|⟨_,cap,_,_,_,h1,h2,_⟩<;>omega
theorem xj{X d:Bg}:([X]++(c::d::Aw b p s S G)).Perm (c::d::Aw b p s S (X::G)):=by unfold Aw;exact B0
theorem Aa8(hK:IsK F C k S p s)(c:CapT)(bl:Nat)(v:Value)(ys:List Ck)(cs:Ad)(ZG:ys.length<=500000)(ho:OwnSl 61 2 v ys.length (Tr.scs ys) cs):
 Fn prog 328 [pV b,pV bl,WQ c] (pw bl v::(cs++Aw b p s S G)) λv' l'=>v'= .tuple #[]/\ ∃v2 NG s' L,OwnSl 61 2 v2 (ys++L7 (KA S c) c).length (Tr.scs (ys++L7 (KA S c) c)) NG/\IsK F C k (KA S c) p s'/\Tail L G/\l'=pw bl v2::(NG++Aw b p s' (KA S c) L):=by
 refine Fn.keep (l':=pw bl v::Aw b p s S (cs++G)) (.of_perm (List.Perm.cons _ (Fi ..))) ?_;have mr:CD b p∈Aw b p s S (cs++G):=mR λ_ h=>h;obtain⟨R,hR⟩: ∃R,KA S c=R:=⟨_,rfl⟩
 rw[hR];unfold KA at hR;refine AO func328 ntmps328 λE=>?_;refine Aj ?_
 (first|refine AR (Ex rfl rfl) ?_|refine AR (C4 rfl) ?_);rintro _ _ ⟨b5,_,rfl,rfl⟩
 refine Vc ?_;refine NU ?_;refine Z6 (α:=KT×RL×Ad) (λ_=>[(0,pV b),(1,pV bl),(5,pV b5)]) (λx=>Bv b5 c::pw bl v::(cs++Aw b p x.2.1 x.1 x.2.2)) (λx=>x.1=R/\IsK F C k x.1 p x.2.1/\Tail x.2.2 G) ?_ ?_
 ·refine Aj ?_;by_cases h4:c.kind=4\/c.kind=5\/c.kind=6
  ·rw[Ac h4] at hR;rcases h4 with h|h|h;all_goals
    refine Aj ?_;refine Gc ?_;intro S1 s1 L1 EA Ey DL GI;refine Aj ?_;obtain⟨L2,PR,hp⟩:=Hc (b:=b) (p:=p) (s:=s1) (S:=S1) DL;exact EG (S1,s1,L2) ⟨EA.trans hR,Ey,PR⟩ ⟨rfl,rfl,rfl,trivial⟩ (.of_perm (.cons _ (.cons _ hp)))
  rw[Ab h4] at hR;by_cases h8:c.kind=8
  ·rw[Ac h8] at hR;refine Aj ?_;refine Cx (Cr [4] 0 10) ?_;refine CC ?_;refine Ll (AA rfl rfl (En.list_any p.e S.E s.E c.obj hK.en hK.el9 _ λx hx=> .tail _ (.tail _ (mE (λ_ h=>h) x hx)))) ?_ rfl rfl;rintro _ _ ⟨sl,cw,rfl,hw,rfl⟩;obtain⟨W,hW⟩: ∃W,(En.listD S.E c.obj).1=W:=⟨_,rfl⟩
   rw[hW] at hR hw;refine CC ?_;by_cases hW0:W.length=0
   ·obtain⟨pp,cap,cL⟩:=hw.shape;rw[hW0] at cL;rw[Gs.1 hW0] at hR;rw[cL];refine Aj ?_;refine H9 0 ?_;refine Aj ?_;obtain⟨L2,PR,hp⟩:=Hc (b:=b) (p:=p) (s:=s) (S:=S) (Tail.nil (G:=cs++G));exact EG (S,s,L2) ⟨hR,hK,PR⟩ ⟨rfl,rfl,rfl,trivial⟩ (Keep.trans (Keep.dropL' cw .refl) (.of_perm (.cons _ (.cons _ hp))))
   obtain⟨gw,cap,sw,rfl,rfl⟩:=ND hw Af;have hwl:=eD hw;refine Aj ?_;refine CF (α:=Nat×KT×RL×Ad) (λx=>[(0,pV b),(1,pV bl),(5,pV b5),(38,.slice (some ⟨gw,0,none⟩) W.length cap),(39,.int .i64 (W.length:Nat)),(40,.int .i64 x.1)]) (λx=>Bv b5 c::pw bl v::Aw b p x.2.2.1 x.2.1 x.2.2.2) (λx=>x.1<=W.length/\x.2.1=(W.take x.1).foldl (λS t=>(IN S t).2) S/\IsK F C k x.2.1 p x.2.2.1/\Tail x.2.2.2 (NA gw W sw::(cs++G))) (λx=>W.length-x.1) (0,S,s,NA gw W sw::(cs++G)) ⟨Bm _,rfl,hK,.nil⟩ ⟨rfl,rfl,rfl,rfl,rfl,rfl,trivial⟩ (.of_perm xj) ?_;rintro⟨i,S1,s1,L1⟩ ⟨hi,EA,Ey,DL⟩;simp only at hi EA Ey DL⊢;have GI:CD b p∈Aw b p s1 S1 L1:=mR λ_ h=>h;have mw:NA gw W sw∈Aw b p s1 S1 L1:=mG (λ_ h=>h) _ (by obtain⟨X,rfl⟩:=DL;simp);by_cases Dc:i<W.length
   ·obtain⟨t,ht⟩: ∃t,W.getD i 0=t:=⟨_,rfl⟩
    have c0:(toArray (W.map CN++sw))[i*1]?=some (.int .i64 t):=by rw[Dq,<-ht];exact RB Dc
    refine Aj ?_;refine Gc ?_;intro S2 s2 L2 hS2 FT FL HP;refine Aj ?_;exact BR (i+1,S2,s2,L2) ⟨by simp only;omega,by simp only;rw[V7 Dc,Fd,<-EA,ht];exact hS2,FT,FL.trans DL⟩ (by simp only;omega) ⟨rfl,rfl,rfl,rfl,rfl,rfl,trivial⟩ .refl
   ·rw[Bz Af] at EA;refine Aj ?_;obtain⟨L2,PR,hp⟩:=Hc (b:=b) (p:=p) (s:=s1) (S:=S1) (DL.trans (Tail.nil.cons));exact EG (S1,s1,L2) ⟨EA.trans hR,Ey,PR⟩ ⟨rfl,rfl,rfl,trivial⟩ (.of_perm (.cons _ (.cons _ hp)))
  rw[Ab h8] at hR;by_cases h9:c.kind=9
  case neg=>rw[Ab h9] at hR;refine Aj ?_;obtain⟨L2,PR,hp⟩:=Hc (b:=b) (p:=p) (s:=s) (S:=S) (Tail.nil (G:=cs++G));exact EG (S,s,L2) ⟨hR,hK,PR⟩ ⟨rfl,rfl,rfl,trivial⟩ (.of_perm (.cons _ (.cons _ hp)))
  rw[Ac h9] at hR;refine Aj ?_;refine Gc ?_;intro S1 s1 L1 EA Ey DL GI;rw[<-EA] at hR;unfold endT Ps at hR;refine Aj ?_;refine Cx (Cr [8,9] 0 11) ?_;refine CC ?_;obtain⟨t,ht⟩: ∃t,DW S1 c.obj=t:=⟨_,rfl⟩
  obtain⟨ok,Dm⟩: ∃ok,(Th.findH S1.T c.obj).isSome=ok:=⟨_,rfl⟩
  rw[ht,Dm] at hR⊢;refine Id e_alloc (by rintro _ _ ⟨_,_,_,rfl⟩ c hc;exact .tail _ hc) ?_;rintro _ _ ⟨GX,_,rfl,rfl⟩;refine CC ?_;by_cases h2:ok=true/\¬t.ca=0
  case neg=>
   rw[Ab h2] at hR;obtain⟨L2,PR,hp⟩:=Hc (b:=b) (p:=p) (s:=s1) (S:=S1) DL;cases ok<;>by_cases h3:t.ca=0;all_goals first
    |(exfalso;simp[h3] at h2;done)
    |(refine Aj ?_
      exact EG (S1,s1,L2) ⟨hR,Ey,PR⟩ ⟨rfl,rfl,rfl,trivial⟩ (.drop (.of_perm (.cons _ (.cons _ hp)))))
  rw[Ac h2] at hR;obtain⟨rfl,h3⟩:=h2;refine Aj ?_;refine Gc ?_;intro S2 s2 L2 hS2 FT FL HP;rw[<-hS2] at hR;unfold xi at hR;refine Aj ?_;refine Cx (Cr [8] 0 9) ?_;refine CC ?_;have Jq:=FT.tO c.obj;obtain⟨t2,ZK⟩: ∃t,DW S2 c.obj=t:=⟨_,rfl⟩
  rw[ZK] at hR Jq⊢;refine CC ?_;refine Aj ?_;refine Cx (Cr [3] 0 4) ?_;refine CC ?_;refine MG (q:=Ow {t2 with ca:=0} ⟨Jq.out⟩) ?_;intro S3 s3 L3 hS3 MD KQ PV;refine CC ?_;refine Aj ?_;obtain⟨L4,hL4,hp⟩:=Hc (b:=b) (p:=p) (s:=s3) (S:=S3) (KQ.trans (FL.trans DL));exact EG (S3,s3,L4) ⟨hS3.trans hR,MD,hL4⟩ ⟨rfl,rfl,rfl,trivial⟩ (.drop (.of_perm (.cons _ (.cons _ hp))))
 rintro⟨S1,s1,L1⟩ ⟨EA,Ey,DL⟩;simp only at EA Ey DL⊢;rw[<-EA];have I: ∀cq,∀{f:Nat} {vs:Ap} {v:Value} [QF prog f vs (Aw b p s1 S1 L1) v],QF prog f vs (cq++Aw b p s1 S1 L1) v:=λcq=>Zz λc hc=>Aa _ hc;have I1:=λ{f:Nat} {vs:Ap} {v:Value}=> @I cs f vs v;refine Aj ?_;refine Cx (Cr [8,9] 0 11) ?_;refine CC ?_;obtain⟨o,Gh⟩: ∃o,(Ar.getD' S1.A c.obj).1=o:=⟨_,rfl⟩
 unfold L7;rw[Gh];refine Id e_alloc (by rintro _ _ ⟨_,_,_,rfl⟩ c hc;exact .tail _ hc) ?_;rintro _ _ ⟨SP,_,rfl,rfl⟩;refine CC ?_;refine Aj ?_;refine EI ?_;obtain⟨n0,n16⟩:=eC c.kind o.sz;obtain⟨n,hn⟩: ∃n:Nat,Ar.slotsD c.kind o.sz=n:=⟨(Ar.slotsD c.kind o.sz).toNat,Af⟩
 rw[hn] at n0 n16⊢;rw[AY];refine Aj ?_;refine CF (α:=Nat×Value×Ad) (λx=>[(0,pV b),(1,pV bl),(5,pV b5),(97,.int .i64 (n:Nat)),(98,.int .i64 x.1)]) (λx=>Bv b5 c::pw bl x.2.1::(x.2.2++Aw b p s1 S1 L1)) (λx=>x.1<=n/\OwnSl 61 2 x.2.1 (ys++L6 S1 c x.1).length (Tr.scs (ys++L6 S1 c x.1)) x.2.2) (λx=>n-x.1) (0,v,cs) ⟨Bm _,by simpa[L6] using ho⟩ ⟨rfl,rfl,rfl,rfl,rfl,trivial⟩ (.drop .refl) ?_;rintro⟨i,w,cw⟩ ⟨hi,how⟩;simp only at hi how⊢;have I1:=λ{f:Nat} {vs:Ap} {v:Value}=> @I cw f vs v;by_cases Dc:i<n
 case neg=>
  obtain rfl:i=n:=by omega
  refine Aj ?_;exact CM _ .refl (.drop .refl) ⟨rfl,w,cw,s1,L1,how,Ey,DL,rfl⟩
 obtain⟨h,hh⟩: ∃h,(getD' S1.H.1 (c.obj,(i:Int))).1=h:=⟨_,rfl⟩
 obtain⟨e,he⟩: ∃e,(getD' S1.H.1 (c.obj,(i:Int))).2=e:=⟨_,rfl⟩
 have hs:iH S1 (c.obj,(i:Int))=(decide (e=0)&&!decide (h.kind=0)):=by unfold iH;rw[he,show Ec S1 (c.obj,(i:Int))=h from hh]
 refine AQ λZv=>?_;refine Cx (Cr [7,8] 0 10) ?_;refine CC ?_;rw[hh,he];refine Id e_alloc (by rintro _ _ ⟨_,_,_,rfl⟩ c hc;exact .tail _ hc) ?_;rintro _ _ ⟨PS,_,rfl,rfl⟩;refine CC ?_;by_cases h0:e=0/\¬h.kind=0
 case neg=>
  have yg:iH S1 (c.obj,(i:Int))=false:=by rw[hs];simpa using h0
  by_cases h1:e=0<;>by_cases h2:h.kind=0;all_goals first
   |(exfalso;exact h0 ⟨h1,h2⟩)
   |(refine Aj ?_
     exact BR (i+1,w,cw) ⟨by simp only;omega,by simp only;rw[RH,yg,Ab AZ,Bi];exact how⟩ (by simp only;omega) ⟨rfl,rfl,rfl,rfl,rfl,trivial⟩ (.drop (.drop .refl)))
 obtain⟨h1,h2⟩:=h0;have yg:iH S1 (c.obj,(i:Int))=true:=by rw[hs];simp[h1,h2]
 refine Aj ?_;refine Cx (Cr [6,7,10] 0 11) ?_;refine CC ?_;refine Id (FB (ws:=Ct (c.obj,(i:Int))) (k:=2) rfl rfl rfl AZ AZ) ?_ ?_ rfl rfl
 ·rintro _ _ ⟨_,_,_,rfl⟩ c hc;exact .tail _ hc
 rintro _ _ ⟨bx,_,rfl,rfl⟩;refine CC ?_;refine Ll (Ht (k:=2) (X:=[Bv PS h,(Zv,Obj.cells (toArray (Ct (c.obj,(i:Int)))) 61 (0,0)),Bv b5 c,pw bl w]) (cs:=cw) (xs:=Tr.scs (ys++L6 S1 c i)) (n:=(ys++L6 S1 c i).length) (zs:=Ct (0,0)) (ws:=Ct (c.obj,(i:Int))) rfl rfl rfl how rfl (by simp[Value.oneCell']) (by have:=V6 S1 c i;rw[Ah];omega) AZ) ?_ rfl rfl;rintro w2 _ ⟨cw2,how2,rfl⟩;have o2:=SE how2;simp only[Ae,Ag];refine CC ?_;refine Aj ?_;exact BR (i+1,w2,cw2) ⟨by simp only;omega,by simp only;rw[RH,yg,Ac rfl,<-Am];exact nH how2⟩ (by simp only;omega) ⟨rfl,rfl,rfl,rfl,rfl,trivial⟩ (.drop (.drop .refl))
end
abbrev MC(S:KT):Nat:=S.H.2.length
theorem Aa9(S:KT)(id st:Int):(Ov S id st).2.H=S.H:=by unfold Ov;(repeat' split)<;>rfl
theorem Aba(S:KT)(id:Int):(wL S id).H=S.H:=by unfold wL;split<;>rfl
theorem SF(S:KT)(id:Int):(IN S id).2.H=S.H:=by
 unfold IN haltE
 split
 ·rfl
 ·rw[Aa9];exact Aba _ _
theorem xk(S:KT)(id:Int):(PK S id).2.H=S.H:=by
 unfold PK RC Y5
 (repeat' split)<;>rfl
theorem nI(l:A4)(S:KT):(l.foldl (λS t=>(IN S t).2) S).H=S.H:=by
 induction l generalizing S with
 |nil=>rfl
 |cons a l ih=>rw[ER,ih,SF]
theorem xl(S:KT)(c:CapT):(KA S c).H=S.H:=by
 unfold KA
 split
 ·exact xk _ _
 split
 ·exact nI _ _
 split
 ·unfold endT xi
  split
  ·show(IN _ _).2.H=_;rw[SF,SF]
  ·exact SF _ _
 ·rfl
theorem sa(S:KT)(c:CapT):(No S c).H=S.H:=by unfold No ni;split<;>rfl
theorem TR(d:Int)(B:Tr.DT):(Tr.decW d B).length=B.length:=by unfold Tr.decW;have:=BO List.length (Cb (p:=λx:Ck×Int=>decide (d<x.2)) (l:=B));simp only[Ah,A7] at this⊢;exact this
theorem bI(hI:InvH H n)(h:(Eb H x).1.2=0):(Eb H x).2.2.length+1=H.2.length:=by
 unfold Eb at h⊢
 split at h
 ·cases h
 rename_i h1;rw[Ab h1]
 split at h
 ·cases h
 rename_i h2;rw[Ab h2];have h3:=(hI.link x).2 ⟨by simpa using h1,h2⟩;unfold Tr.hasD at h3;dsimp only;unfold Tr.removeD;cases hs:Tr.splitD x H.2 with
 |none=>rw[hs] at h3;cases h3
 |some y=>obtain⟨A,d,B⟩:=y;obtain⟨h4,_⟩:=Tr.splitD_some hs;dsimp only;rw[h4,Ah,Ah,TR,BC];omega
theorem bJ(h:¬(Eb H x).1.2=0):(Eb H x).2=H:=by
 unfold Eb at h⊢
 split
 ·rfl
 ·rename_i h1;rw[Ab h1] at h
  split
  ·rfl
  ·rename_i h2;rw[Ab h2] at h;exact absurd rfl h
def dropX(S:KT)(x:Ck):KT:=if(Eb S.H x).1.1.kind=3 then No {S with H:=(Eb S.H x).2} (Eb S.H x).1.1 else{S with H:=(Eb S.H x).2}
def dropR:Nat->KT->List Ck->A4->Nat->KT×A4×Nat
 |0,S,_,es,n=>(S,es,n)
 |_+1,S,[],es,n=>(S,es,n)
 |m+1,S,x::ys,es,n=>
  if ¬(Eb S.H x).1.2=0 then dropR m {S with H:=(Eb S.H x).2} ys es n
  else if LX S.H x=false\/(Eb S.H x).1.1.obj=0 then dropR m (dropX S x) ys es (n+1)
  else dropR m (KA (dropX S x) (Eb S.H x).1.1) (ys++L7 (KA (dropX S x) (Eb S.H x).1.1) (Eb S.H x).1.1) (es++[(Eb S.H x).1.1.obj]) (n+1)
theorem iI(m:Nat)(S:KT)(es:A4)(n:Nat):dropR m S [] es n=(S,es,n):=by cases m<;>rfl
def nJ(S:KT)(l:A4):KT:=l.foldl (λS id=>(Ui S id).2) S
def Qv(S:KT)(x:Ck):Nat×KT:=((dropR (17*MC S+1) S [x] [] 0).2.2,Nn (nJ (dropR (17*MC S+1) S [x] [] 0).1 (dropR (17*MC S+1) S [x] [] 0).2.1))
section
theorem xm:((lo++(A++(B++Aw b p s S L)))++(r,o)::T).Perm (lo++(r,o)::Aw b p s S (A++(B++(L++T)))):=by unfold Aw;exact B0
end
abbrev eG(B bl b5 b6 b7 b2 b:Nat)(vl ve:Value)(n:Nat):Ad:=[yT B bl,pw bl vl,yT b5 bl,Nm b6 ve,BP b7 n,rB b2 b]
section
def DrI(F C k b:Nat)(p:RP)(G:Ad)(R:KT×A4×Nat)(M B bl b5 b6 b7 b2 m:Nat)(pre:List Ck)(o:Option Ck)(l:Ad):Prop:=
 ∃(S':KT) (s':RL) (L:Ad) (ys:List Ck) (vl ve:Value) (cl ce:Ad) (es:A4) (n:Nat),IsK F C k S' p s'/\Tail L G/\1<=ys.length/\o=ys[pre.length]?/\17*MC S'+(ys.drop pre.length).length<=m/\17*MC S'+ys.length<=M/\es.length<=pre.length/\n<=pre.length/\pre.length<=ys.length/\dropR m S' (ys.drop pre.length) es n=R/\
  OwnSl 61 2 vl ys.length (Tr.scs ys) cl/\OwnSl 3 1 ve es.length (es.map CN) ce/\l=eG B bl b5 b6 b7 b2 b vl ve n++(cl++(ce++Aw b p s' S' L))
theorem Abb:(lo++(r,o)::Aw b p s S L).Perm (lo++Aw b p s S ((r,o)::L)):=by unfold Aw;exact B0
theorem Abc:(lo++(A++(B++Aw b p s S L))).Perm (lo++Aw b p s S (A++(B++L))):=by unfold Aw;exact B0
theorem eJ{L9:Ad}(h:Tail L9 (lp::(A++(B++(L++T))))): ∃L',Tail L' L/\ ∀lo,(lo++Aw b p s S L9).Perm ((lo++(A++(B++Aw b p s S L')))++lp::T):=by obtain⟨X,rfl⟩:=h;exact⟨X++L,⟨X,rfl⟩,λlo=>by unfold Aw;exact B0⟩
theorem xn:([c10,c8,cB,cv,c5,c6,c7,c2]++Aw b p s S (X++lp::(A++(B++(L++T))))).Perm (cv::(A++Aw b p s S ([c10,c8,cB,c5,c6,c7,c2]++(B++(X++lp::(L++T)))))):=by unfold Aw;exact B0
theorem sc:(cv::(A++Aw b p s S (Z++([c10,c8,cB,c5,c6,c7,c2]++(B++(X++lp::(L++T))))))).Perm ([c10,c8,cB,cv,c5,c6,c7,c2]++(B++(A++Aw b p s S (Z++(X++lp::(L++T)))))):=by unfold Aw;exact B0
theorem sg:(lo++(B++(A++Aw b p s S (Z++(X++lp::(L++T)))))).Perm ((lo++(A++(B++Aw b p s S (Z++(X++L)))))++lp::T):=by unfold Aw;exact B0
theorem xo(hK:IsK F C k S p s)(x:Ck):Fn prog 289 [pV b,F4 x] (Aw b p s S G) (KK F C b p k (iV (Qv S x).1) (Qv S x).2 G):=by
 have mr:CD b p∈Aw b p s S G:=mR λ_ h=>h;obtain⟨m9,h91,h92,_,h93⟩:=hK.small;have t93:MC S<=1000:=h93;obtain⟨R,hR⟩: ∃R,dropR (17*MC S+1) S [x] [] 0=R:=⟨_,rfl⟩
 unfold Qv;rw[hR];refine AO func289 ntmps289 λE=>?_;refine AQ λb2=>?_;refine AQ λb3=>?_;refine AR (FB (ws:=Ct x) (k:=2) rfl rfl rfl AZ AZ) ?_;rintro _ _ ⟨gs,_,rfl,rfl⟩;refine AQ λbl=>?_;refine AQ λb5=>?_;refine AQ λb6=>?_;refine AQ λb7=>?_;refine AR (AA rfl rfl (nG bl _)) ?_;rintro _ _ ⟨B,rfl,rfl⟩;refine Aj ?_;refine nt (α:=Ck) (ps:=[20]) (lb:=[pV B]) rfl (iG B bl) (λ_=>rfl) rfl
  (DrI F C k b p G R (17*MC S+1) B bl b5 b6 b7 b2) (λ_ _ _=>False) (eG B bl b5 b6 b7 b2 b (.slice (some ⟨gs,0,none⟩) 1 1) (.slice none 0 0) 0++([lsC gs [x] []]++([]++Aw b p s S G))) (m0:=17*MC S+1) (o0:=some x) ?_ (by exact AU) ⟨S,s,G,[x],_,_,_,_,[],0,hK,.nil,Bd _,rfl,Bd _,Bd _,Bd _,Bd _,Bm _,hR,⟨rfl,.inr ⟨gs,1,[],rfl,rfl,Bd _,by unfold maxLen;omega,rfl⟩⟩,OwnSl.nil _ _,rfl⟩ ?_ ?_ ?_
 ·rintro m pre o l X ⟨S1,s1,L1,ys,vl,ve,cl,ce,es,n,Ey,DL,o6,ho,hm,hM,s9,hn,hp,hR1,pa,hoe,rfl⟩;obtain⟨gb,cap,sp,rfl,rfl⟩:=ND pa o6;exact⟨gb,cap,sp,ys,by simp,by simp,by simp,Af,ho⟩
 ·rintro E r0 FS m pre x1 l T ⟨fn,tmps,D,hrec⟩ ⟨S1,s1,L1,ys,vl,ve,cl,ce,es,n,Ey,DL,o6,ho,hm,hM,s9,hn,hp,hR1,pa,hoe,rfl⟩;obtain⟨m8,h81,h82,_⟩:=Ey.small;have Dc:=(Ay.1 ho.symm).1;have hd:ys.drop pre.length=x1::ys.drop (pre.length+1):=by rw[Dh Dc,(Ay.1 ho.symm).2]
  rw[hd] at hm hR1;rw[BC] at hm;obtain⟨m,rfl⟩: ∃q,m=q+1:=⟨m-1,Af⟩
  unfold dropR at hR1;have hln:(ys.drop (pre.length+1)).length=ys.length-(pre.length+1):=Dw;have o4:(pre++[x1]).length=pre.length+1:=by simp
  refine Em (.of_perm (xm (lo:=eG B bl b5 b6 b7 b2 b vl ve n))) ?_;rw[hrec];simp only[DU,eG,Ae,Ag];refine AQ λb8=>?_;refine CH (by exact DX) ?_;rw[<-hrec];refine Em (.of_perm (Abb (lo:=V0 b8 x1::eG B bl b5 b6 b7 b2 b vl ve n))) ?_;obtain⟨lp,jO⟩: ∃lp:Bg,(r0,Obj.loop (FS .busy none))=lp:=⟨_,rfl⟩
  rw[jO];have GI:CD b p∈Aw b p s1 S1 (lp::(cl++(ce++(L1++T)))):=mR λ_ h=>h;simp only[eG,Ae,Ag];refine Aj ?_;refine Cx (Cr [] 0 5) ?_;refine CC ?_;obtain⟨fin,XJ⟩: ∃q,LX S1.H x1=q:=⟨_,rfl⟩
  rw[XJ] at hR1⊢;refine Aj ?_;obtain⟨q,hq⟩: ∃q,Eb S1.H x1=q:=⟨_,rfl⟩
  have tB:q.1.2=0->q.2.2.length+1=MC S1:=λh=>by rw[<-hq] at h⊢;exact bI h82 h
  have tC:¬q.1.2=0->q.2=S1.H:=λh=>by rw[<-hq] at h⊢;exact bJ h
  unfold dropX at hR1;rw[hq] at hR1;refine Lw [(0,true),(1,true),(2,true),(3,false),(4,true),(5,true),(6,true),(7,false),(8,false),(9,true)] [[],[0],[],[0,1,2],[0,1,2,3],[0,1,2,3,4],[0,1,2,3,4],[],[0,1,2,3,4,5,7],[0,1,2,3,4,5,6,7,8]] 3 7 ([rB b2 b,V0 b8 x1,CD b p]) BB BB GZ ((V4 BW BW BW)) ?_;refine BS ?_;refine Vs ?_;refine BS ?_;refine N0 [(7,false),(3,false),(4,true),(5,true),(6,true),(8,false),(9,true)] GZ (AI (l₁:=[_,_,_,_])).symm BB ?_ ?_
  case' refine_1=>
   refine yR ?_ ?_
   ·intro S2 s2 L2;have HP:CD b p∈Aw b p s2 S2 L2:=mR λ_ h=>h;exact V4 BW BW BW
   intro S2 s2 L2 hS2 FT FL HP;iterate 3 refine X6 ?_
   refine CS e_alloc rfl rfl rfl ?_ ?_
   ·rintro _ _ ⟨_,_,_,rfl⟩ c hc;exact .tail _ (V4 BW BW BW c hc)
   rintro _ _ ⟨GX,_,rfl,rfl⟩
  case' refine_2=>
   refine CS e_alloc rfl rfl rfl ?_ ?_
   ·rintro _ _ ⟨_,_,_,rfl⟩ c hc;exact .tail _ (V4 BW BW BW c hc)
   rintro _ _ ⟨GX,_,rfl,rfl⟩;refine yR ?_ ?_
   ·intro S2 s2 L2;have HP:CD b p∈Aw b p s2 S2 L2:=mR λ_ h=>h;exact V4 BW BW BW
   intro S2 s2 L2 hS2 FT FL HP;iterate 3 refine X6 ?_
  all_goals
   rw[hq] at hS2⊢;obtain⟨c,hc⟩: ∃c,q.1.1=c:=⟨_,rfl⟩
   obtain⟨er,her⟩: ∃e,q.1.2=e:=⟨_,rfl⟩
   rw[hc,her] at hR1⊢;rw[her] at tB tC;refine tP ?_ (hR:=V4 BW BW BW);refine BS ?_;refine Aj ?_;by_cases h0:er=0
   case neg=>
    rw[Ac h0] at hR1;have e2:MC S2=MC S1:=by rw[hS2];show q.2.2.length=_;rw[tC h0]
    rw[<-hS2] at hR1;refine Aj ?_;subst jO hrec;obtain⟨L9,hL9,hp9⟩:=eJ (b:=b) (p:=p) (s:=s2) (S:=S2) FL;exact Cg (eG B bl b5 b6 b7 b2 b vl ve n++(cl++(ce++Aw b p s2 S2 L9))) (Keep.trans (.drop (.drop .refl)) (.of_perm (hp9 (eG B bl b5 b6 b7 b2 b vl ve n)))) ⟨m,ys[pre.length+1]?,HM _,by unfold DrI;simp only[o4];exact⟨S2,s2,L9,ys,vl,ve,cl,ce,es,n,FT,hL9.trans DL,o6,rfl,Af,Af,Af,Af,Af,hR1,pa,hoe,rfl⟩⟩
   rw[Ab (λh=>h h0)] at hR1;have e2:MC S2+1=MC S1:=by rw[hS2];exact tB h0
   have hn9:n<=18000:=by omega
   refine Aj ?_;by_cases h3:c.kind=3
   case' pos=>
    rw[Ac h3] at hR1;refine Aj ?_;refine Gc ?_;intro S3 s3 L3 hS3 MD hT3' PV;have KQ:=hT3'.trans FL;have e3:MC S3=MC S2:=by rw[hS3];exact BO (λH:HS=>H.2.length) (sa S2 c)
    rw[show No {S1 with H:=q.2} c=S3 by rw[hS3,<-hS2];rfl] at hR1;refine Aj ?_
   case' neg=>
    rw[Ab h3] at hR1;obtain⟨S3,hS3⟩: ∃S3,S2=S3:=⟨_,rfl⟩
    obtain⟨s3,Ro⟩: ∃s3,s2=s3:=⟨_,rfl⟩
    obtain⟨L3,hL3⟩: ∃L3,L2=L3:=⟨_,rfl⟩
    have MD:=FT;have KQ:=FL;have PV:=HP;rw[hS3,Ro] at MD;rw[hS3,Ro,hL3] at PV;rw[hL3] at KQ;have e3:MC S3=MC S2:=by rw[hS3]
    rw[show({S1 with H:=q.2}:KT)=S3 by rw[<-hS3,hS2]] at hR1;refine Aj ?_;rw[hS3,Ro,hL3]
   all_goals
    by_cases h4:fin=false\/c.obj=0
    ·rw[Ac h4] at hR1;cases fin<;>by_cases h5:c.obj=0;all_goals first
      |(exfalso;simp[h5] at h4;done)
      |(refine Aj ?_
        subst jO hrec;obtain⟨L9,hL9,hp9⟩:=eJ (b:=b) (p:=p) (s:=s3) (S:=S3) KQ;exact Cg (eG B bl b5 b6 b7 b2 b vl ve (n+1)++(cl++(ce++Aw b p s3 S3 L9))) (Keep.trans (.drop (.drop .refl)) (.of_perm (hp9 (eG B bl b5 b6 b7 b2 b vl ve (n+1))))) ⟨m,ys[pre.length+1]?,HM _,by unfold DrI;simp only[o4];exact⟨S3,s3,L9,ys,vl,ve,cl,ce,es,n+1,MD,hL9.trans DL,o6,rfl,Af,Af,Af,Af,Af,hR1,pa,hoe,rfl⟩⟩)
    rw[Ab h4] at hR1;obtain⟨h5,h6⟩:fin=true/\¬c.obj=0:=by simpa using h4
    subst h5;refine Aj ?_;obtain⟨X,rfl⟩:=KQ;refine AR (AA rfl rfl (Fn.keep (.of_perm xn) (Aa8 MD c bl vl ys cl Af pa))) ?_;rintro _ _ ⟨rfl,v2,NG,s4,L4,ho4,hK4,⟨Z,rfl⟩,rfl⟩;refine Bq (.of_perm sc) ?_;simp only[Ae,Ag];refine Aj ?_;refine AR (KU (v:=iV c.obj) rfl rfl) ?_;rintro _ _ ⟨bz,_,rfl,rfl⟩;refine Aj ?_;refine AR (Ht (k:=1) (X:=[Bv GX c,V0 b8 x1,yT B bl,pw bl v2,yT b5 bl,Nm b6 ve,BP b7 ((n:Int)+1),rB b2 b]) (cs:=ce) (xs:=es.map CN) (n:=es.length) (zs:=[iV 0]) (ws:=[iV c.obj]) rfl rfl rfl hoe rfl (by simp[Value.oneCell']) Af AZ) ?_;rintro ve2 _ ⟨ce2,hoe2,rfl⟩;have o2:=SE hoe2;simp only[Ae,Ag];refine Aj ?_;have hz:(L7 (KA S3 c) c).length<=16:=by have h1:=V6 (KA S3 c) c (Ar.slotsD c.kind (Ar.getD' (KA S3 c).A c.obj).1.sz).toNat;have h2:=eC c.kind (Ar.getD' (KA S3 c).A c.obj).1.sz;unfold L7;omega
    have e4:MC (KA S3 c)=MC S3:=by show(KA S3 c).H.2.length=_;rw[xl]
    have e5:(ys++L7 (KA S3 c) c).drop (pre.length+1)=ys.drop (pre.length+1)++L7 (KA S3 c) c:=List.drop_append_of_le_length Af;subst jO hrec;exact Cg (eG B bl b5 b6 b7 b2 b v2 ve2 (n+1)++(NG++(ce2++Aw b p s4 (KA S3 c) (Z++(X++L1))))) (Keep.trans (.drop (.drop .refl)) (.of_perm (sg (lo:=eG B bl b5 b6 b7 b2 b v2 ve2 (n+1))))) ⟨m,(ys++L7 (KA S3 c) c)[pre.length+1]?,HM _,by unfold DrI;simp only[o4];exact⟨KA S3 c,s4,Z++(X++L1),ys++L7 (KA S3 c) c,v2,ve2,NG,ce2,es++[c.obj],n+1,hK4,Tail.trans ⟨Z++X,by simp⟩ DL,by rw[Ah];omega,rfl,by rw[e5,Ah];omega,by rw[Ah];omega,by rw[Ah,Bs];omega,Af,by rw[Ah];omega,by rw[e5];exact hR1,ho4,by rw[Ah,Aq];exact hoe2,rfl⟩⟩
 ·rintro D m xs l ⟨S1,s1,L1,ys,vl,ve,cl,ce,es,n,Ey,DL,o6,ho,hm,hM,s9,hn,hp,hR1,pa,hoe,rfl⟩;rw[List.drop_eq_nil_of_le (List.getElem?_eq_none_iff.1 ho.symm),iI] at hR1;subst hR1;refine Kf (.of_perm (.cons _ (Abc (lo:=eG B bl b5 b6 b7 b2 b vl ve n)))) ?_;have GI:CD b p∈Aw b p s1 S1 (cl++(ce++L1)):=mR λ_ h=>h;simp only[eG,Ae,Ag];by_cases he:es.length=0
  ·obtain⟨pp,cap,cL⟩:=hoe.shape;rw[he] at cL;rw[cL,Gs.1 he];refine Aj ?_;refine H9 0 ?_;refine Aj ?_;refine Gc ?_;intro S2 s2 L2 hS2 FT FL HP;refine Aj ?_;exact AV [D] _ rfl .refl (by exact Ba) (.drop (.drop (.drop (.drop (.drop (.drop .refl)))))) ⟨rfl,s2,L2,by rw[show Nn (nJ S1 [])=S2 from hS2.symm];exact FT,FL.trans (Tail.trans ⟨cl++ce,by simp⟩ DL),by rw[show Nn (nJ S1 [])=S2 from hS2.symm]⟩
  have uH:=eD hoe;obtain⟨gw,cap,sw,rfl,rfl⟩:=ND hoe Af;refine Aj ?_;refine CF (α:=Nat×KT×RL×Ad) (λx=>[(2,pV b2),(7,pV b7),(58,.slice (some ⟨gw,0,none⟩) es.length cap),(59,.int .i64 (es.length:Nat)),(60,.int .i64 x.1)]) (λx=>Cm D::BP b7 n::rB b2 b::Aw b p x.2.2.1 x.2.1 x.2.2.2) (λx=>x.1<=es.length/\x.2.1=nJ S1 (es.take x.1)/\IsK F C k x.2.1 p x.2.2.1/\Tail x.2.2.2 (cl++([NA gw es sw]++L1))) (λx=>es.length-x.1) (0,S1,s1,_) ⟨Bm _,rfl,Ey,.nil⟩ ⟨rfl,rfl,rfl,rfl,rfl,trivial⟩ (by exact AU) ?_;rintro⟨i,S2,s2,L2⟩ ⟨hi,hS2,FT,FL⟩;simp only at hi hS2 FT FL⊢;have HP:CD b p∈Aw b p s2 S2 L2:=mR λ_ h=>h;have mw:NA gw es sw∈Aw b p s2 S2 L2:=mG (λ_ h=>h) _ (by obtain⟨X,rfl⟩:=FL;simp);by_cases Dc:i<es.length
  ·obtain⟨t,ht⟩: ∃t,es.getD i 0=t:=⟨_,rfl⟩
   have c0:(toArray (es.map CN++sw))[i*1]?=some (.int .i64 t):=by rw[Dq,<-ht];exact RB Dc
   refine Aj ?_;refine Gc ?_;intro S3 s3 L3 hS3 MD KQ PV;refine Aj ?_;exact BR (i+1,S3,s3,L3) ⟨by simp only;omega,by simp only;unfold nJ;rw[V7 Dc,Fd,ht];exact hS3.trans (by rw[hS2];rfl),MD,KQ.trans FL⟩ (by simp only;omega) ⟨rfl,rfl,rfl,rfl,rfl,trivial⟩ .refl
  ·rw[Bz Af] at hS2;refine Aj ?_;refine Gc ?_;intro S3 s3 L3 hS3 MD KQ PV;refine Aj ?_;rw[hS2] at hS3;exact AV [D] _ rfl .refl (by exact Ba) (.drop (.drop .refl)) ⟨rfl,s3,L3,by rw[<-hS3];exact MD,KQ.trans (FL.trans (Tail.trans ⟨cl++[NA gw es sw],by simp⟩ DL)),by rw[<-hS3]⟩
 ·rintro D c pre l h;exact h.elim
instance{x:Ck}:EK prog F C b p 289 [pV b,F4 x] k S k (iV (Qv S x).1) (Qv S x).2:=⟨λs G h=>xo h x⟩
end
end Go.Proofs.YtlifcingifodfaaGreat
