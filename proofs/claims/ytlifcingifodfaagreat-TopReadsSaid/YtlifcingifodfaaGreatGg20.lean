/- Laws that the statement's proof leans on (joined out of several texts). -/
import Derived.Test.YtlifcingifodfaaGreatGg19
set_option maxHeartbeats 4000000
set_option linter.unusedVariables false
set_option linter.unusedSimpArgs false
namespace Go.Proofs.YtlifcingifodfaaGreat
open Tryz
open List(toArray)
open Go.RowKit
set_option maxRecDepth 20000
variable{i k gb n m N F C:Nat}{f:FoT}{o:Jt}{x cn:Int}{c:OU}{L:List FoT}{α:Type}{P:Program}{ro:Option Nat}{E:World}{Q:Exit->Act->World->Prop}{ds:List Deferred}{A G:Ac}{a b:Bd}{ws:Ap}{S:KT}{p:RP}{s:RL}
theorem fR: ∀{rows:List (Ap)},(∀r,r∈rows->r.length=4)->rows.flatten.length=rows.length*4
 |[],_=>rfl
 |r::rs,h=>by rw[Cy,Ah,h r (.head _),fR λx hx=>h x (.tail _ hx),Bu];omega
theorem Fo{rows:List (Ap)}(hn:rows.length=n)(hr: ∀r,r∈rows->r.length=4)(h:n<=100):OwnSl 183 4 (.slice (some ⟨gb,0,none⟩) n n) n rows.flatten [IZ gb rows.flatten]:=by have hl:=fR hr;rw[hn] at hl;exact⟨hl,.inr ⟨gb,n,[],rfl,by rw[Bj],Bf _,by unfold maxLen;omega,by rw[Bj];exact hl⟩⟩
theorem I0(a b c:Bd){l:Ac}:Keep (a::b::c::l) ([a]++l):=A8 [b,c]
theorem vL(a b c:Bd){c2 l:Ac}:Keep (c2++([a]++(b::c::l))) (c2++l):=A8 [a,b,c]
theorem oS(bo:Nat): ∀u,u∈(Xy bo).flatten->u.oneCell'=true:=λu hu=>by have h:(Xy bo).flatten.all (λu=>u.oneCell')=true:=rfl;exact A5.1 h u hu
def FoK(bo bc:Nat)(l:Ac)(R:Option (List FoT)):Value->Ac->Prop:=λv l'=>match R with
 |none=>v= .tuple #[.slice none 0 0,.bool false]/\l'=l
 |some L=> ∃sl cs,v= .tuple #[sl,.bool true]/\OwnSl 183 4 sl L.length (L.flatMap (U2 bo bc)) cs/\l'=cs++l
theorem Wo(op:Int)(bo bc:Nat)(l:Ac):Fn prog 80 [Be op,.pointer (some ⟨bo,0,none⟩),.pointer (some ⟨bc,0,none⟩)] l (FoK bo bc l (QV op)):=by
 obtain⟨R,hR⟩: ∃R,QV op=R:=⟨_,rfl⟩
 rw[hR];unfold QV at hR;refine AN func80 ntmps80 λE=>?_;refine Aj ?_;refine QP (α:=Nat×Nat) (λz=>[(0,Be op),(1,.pointer (some ⟨bo,0,none⟩)),(2,.pointer (some ⟨bc,0,none⟩)),(6,.slice none 0 0),(7,.bool false),(8,pV z.1),(9,pV z.2)]) (λz=>[IZ z.1 (CR bo 1),IZ z.2 (CR bo 2)]++l) (λ_=>True) ?_ ?_
 ·refine KP [(0,true),(1,true),(2,true),(3,true),(4,true),(5,true),(6,true),(7,true),(8,false),(9,false),(10,false),(11,false)] [[],[0],[0,1],[0,1,2],[],[4],[4,5],[0,1,2,3,4,5,6],[],[],[0,1,2,3,4,5,6,7,8,9],[0,1,2,3,4,5,6,7,8,9,10]] 8 9 ([]) BA BA GH UX ?_;refine BM ?_;refine VI ?_;refine BM ?_;refine VI ?_;refine BM ?_;refine Nd [(9,false),(8,false),(10,false),(11,false)] GH (List.Perm.swap _ _ _) BA ?_ ?_;all_goals
   refine CM e_alloc rfl rfl rfl ?_ ?_
   ·rintro _ _ ⟨_,_,_,rfl⟩ c hc;cases hc
   rintro _ _ ⟨u,_,rfl,rfl⟩;refine CM e_alloc rfl rfl rfl ?_ ?_
   ·rintro _ _ ⟨_,_,_,rfl⟩ c hc;cases hc
   rintro _ _ ⟨v,_,rfl,rfl⟩;refine BM ?_
   first
    |exact Ep (u,v) trivial ⟨rfl,rfl,rfl,rfl,rfl,rfl,rfl,trivial⟩ (.of_perm (.swap _ _ _))
    |exact Ep (v,u) trivial ⟨rfl,rfl,rfl,rfl,rfl,rfl,rfl,trivial⟩ .refl
 rintro⟨b8,b9⟩-;simp only[Ae,Ag];refine Aj ?_;by_cases e1:op=1
 ·rw[Ad Af] at hR;subst hR;refine Aj ?_;refine CA (Cu [19] 0 22) ?_;refine CE ?_;refine LJ (D1 (k:=4) (n:=6) (e:=183) (zs:=Q6) (cs:=([CR bo 1,FS bo 4 0 15,FS bo 5 0 64,CR bo 2,FS bo 6 0 15,FS bc 0 1 4]:List (Ap)).flatten) (pvs:=EU 0 [CR bo 1,FS bo 4 0 15,FS bo 5 0 64,CR bo 2,FS bo 6 0 15,FS bc 0 1 4]) rfl AX AX rfl (EL [CR bo 1,FS bo 4 0 15,FS bo 5 0 64,CR bo 2,FS bo 6 0 15,FS bc 0 1 4] (C4 rfl))) ?_;rintro _ _ ⟨gb,Sa,rfl,rfl⟩;refine CE ?_;refine Aj ?_;exact AU (vs:=[.slice (some ⟨gb,0,none⟩) 6 6,.bool true]) (l':=[IZ gb ([CR bo 1,FS bo 4 0 15,FS bo 5 0 64,CR bo 2,FS bo 6 0 15,FS bc 0 1 4]:List (Ap)).flatten]++l) [] _ rfl .refl (by exact Ba) (.trans (.of_perm (.refl _)) (I0 _ _ _)) ⟨_,[IZ gb ([CR bo 1,FS bo 4 0 15,FS bo 5 0 64,CR bo 2,FS bo 6 0 15,FS bc 0 1 4]:List (Ap)).flatten],rfl,Fo (rows:=[CR bo 1,FS bo 4 0 15,FS bo 5 0 64,CR bo 2,FS bo 6 0 15,FS bc 0 1 4]) rfl (C4 rfl) AX,rfl⟩
 rw[Ab Af] at hR;by_cases e2:op=2
 ·rw[Ad Af] at hR;subst hR;refine Aj ?_;refine CA (Cu [7] 0 10) ?_;refine CE ?_;refine LJ (D1 (k:=4) (n:=3) (e:=183) (zs:=Q6) (cs:=([CR bo 1,CR bo 2,FS bo 4 0 7]:List (Ap)).flatten) (pvs:=EU 0 [CR bo 1,CR bo 2,FS bo 4 0 7]) rfl AX AX rfl (EL [CR bo 1,CR bo 2,FS bo 4 0 7] (C4 rfl))) ?_;rintro _ _ ⟨gb,Sa,rfl,rfl⟩;refine CE ?_;refine Aj ?_;exact AU (vs:=[.slice (some ⟨gb,0,none⟩) 3 3,.bool true]) (l':=[IZ gb ([CR bo 1,CR bo 2,FS bo 4 0 7]:List (Ap)).flatten]++l) [] _ rfl .refl (by exact Ba) (.trans (.of_perm (.refl _)) (I0 _ _ _)) ⟨_,[IZ gb ([CR bo 1,CR bo 2,FS bo 4 0 7]:List (Ap)).flatten],rfl,Fo (rows:=[CR bo 1,CR bo 2,FS bo 4 0 7]) rfl (C4 rfl) AX,rfl⟩
 rw[Ab Af] at hR;by_cases e3:op=3
 ·rw[Ad Af] at hR;subst hR;refine Aj ?_;refine CA (Cu [11] 0 14) ?_;refine CE ?_;refine LJ (D1 (k:=4) (n:=4) (e:=183) (zs:=Q6) (cs:=([CR bo 1,CR bo 2,FS bo 4 0 7,U3 bo 7]:List (Ap)).flatten) (pvs:=EU 0 [CR bo 1,CR bo 2,FS bo 4 0 7,U3 bo 7]) rfl AX AX rfl (EL [CR bo 1,CR bo 2,FS bo 4 0 7,U3 bo 7] (C4 rfl))) ?_;rintro _ _ ⟨gb,Sa,rfl,rfl⟩;refine CE ?_;refine Aj ?_;exact AU (vs:=[.slice (some ⟨gb,0,none⟩) 4 4,.bool true]) (l':=[IZ gb ([CR bo 1,CR bo 2,FS bo 4 0 7,U3 bo 7]:List (Ap)).flatten]++l) [] _ rfl .refl (by exact Ba) (.trans (.of_perm (.refl _)) (I0 _ _ _)) ⟨_,[IZ gb ([CR bo 1,CR bo 2,FS bo 4 0 7,U3 bo 7]:List (Ap)).flatten],rfl,Fo (rows:=[CR bo 1,CR bo 2,FS bo 4 0 7,U3 bo 7]) rfl (C4 rfl) AX,rfl⟩
 rw[Ab Af] at hR;by_cases e4:op=4
 ·rw[Ad Af] at hR;subst hR;refine Aj ?_;refine AS (D1 (k:=4) (n:=2) (e:=183) (zs:=Q6) (cs:=([CR bo 1,CR bo 2]:List (Ap)).flatten) (pvs:=EU 0 [CR bo 1,CR bo 2]) rfl AX AX rfl (EL [CR bo 1,CR bo 2] (C4 rfl))) ?_;rintro _ _ ⟨gb,Sa,rfl,rfl⟩;refine Aj ?_;exact AU (vs:=[.slice (some ⟨gb,0,none⟩) 2 2,.bool true]) (l':=[IZ gb ([CR bo 1,CR bo 2]:List (Ap)).flatten]++l) [] _ rfl .refl (by exact Ba) (.trans (.of_perm (.refl _)) (I0 _ _ _)) ⟨_,[IZ gb ([CR bo 1,CR bo 2]:List (Ap)).flatten],rfl,Fo (rows:=[CR bo 1,CR bo 2]) rfl (C4 rfl) AX,rfl⟩
 by_cases e5:op=5
 ·rw[Ad Af] at hR;subst hR;refine Aj ?_;refine AS (D1 (k:=4) (n:=2) (e:=183) (zs:=Q6) (cs:=([CR bo 1,CR bo 2]:List (Ap)).flatten) (pvs:=EU 0 [CR bo 1,CR bo 2]) rfl AX AX rfl (EL [CR bo 1,CR bo 2] (C4 rfl))) ?_;rintro _ _ ⟨gb,Sa,rfl,rfl⟩;refine Aj ?_;exact AU (vs:=[.slice (some ⟨gb,0,none⟩) 2 2,.bool true]) (l':=[IZ gb ([CR bo 1,CR bo 2]:List (Ap)).flatten]++l) [] _ rfl .refl (by exact Ba) (.trans (.of_perm (.refl _)) (I0 _ _ _)) ⟨_,[IZ gb ([CR bo 1,CR bo 2]:List (Ap)).flatten],rfl,Fo (rows:=[CR bo 1,CR bo 2]) rfl (C4 rfl) AX,rfl⟩
 by_cases zM:op=12
 ·rw[Ad Af] at hR;subst hR;refine Aj ?_;refine AS (D1 (k:=4) (n:=2) (e:=183) (zs:=Q6) (cs:=([CR bo 1,CR bo 2]:List (Ap)).flatten) (pvs:=EU 0 [CR bo 1,CR bo 2]) rfl AX AX rfl (EL [CR bo 1,CR bo 2] (C4 rfl))) ?_;rintro _ _ ⟨gb,Sa,rfl,rfl⟩;refine Aj ?_;exact AU (vs:=[.slice (some ⟨gb,0,none⟩) 2 2,.bool true]) (l':=[IZ gb ([CR bo 1,CR bo 2]:List (Ap)).flatten]++l) [] _ rfl .refl (by exact Ba) (.trans (.of_perm (.refl _)) (I0 _ _ _)) ⟨_,[IZ gb ([CR bo 1,CR bo 2]:List (Ap)).flatten],rfl,Fo (rows:=[CR bo 1,CR bo 2]) rfl (C4 rfl) AX,rfl⟩
 by_cases zN:op=13
 ·rw[Ad Af] at hR;subst hR;refine Aj ?_;refine AS (D1 (k:=4) (n:=2) (e:=183) (zs:=Q6) (cs:=([CR bo 1,CR bo 2]:List (Ap)).flatten) (pvs:=EU 0 [CR bo 1,CR bo 2]) rfl AX AX rfl (EL [CR bo 1,CR bo 2] (C4 rfl))) ?_;rintro _ _ ⟨gb,Sa,rfl,rfl⟩;refine Aj ?_;exact AU (vs:=[.slice (some ⟨gb,0,none⟩) 2 2,.bool true]) (l':=[IZ gb ([CR bo 1,CR bo 2]:List (Ap)).flatten]++l) [] _ rfl .refl (by exact Ba) (.trans (.of_perm (.refl _)) (I0 _ _ _)) ⟨_,[IZ gb ([CR bo 1,CR bo 2]:List (Ap)).flatten],rfl,Fo (rows:=[CR bo 1,CR bo 2]) rfl (C4 rfl) AX,rfl⟩
 rw[Ab Af] at hR;by_cases e6:op=6
 ·rw[Ad Af] at hR;subst hR;refine Aj ?_;refine AS (D1 (k:=4) (n:=1) (e:=183) (zs:=Q6) (cs:=([CR bo 1]:List (Ap)).flatten) (pvs:=EU 0 [CR bo 1]) rfl AX AX rfl (EL [CR bo 1] (C4 rfl))) ?_;rintro _ _ ⟨gb,Sa,rfl,rfl⟩;refine Aj ?_;exact AU (vs:=[.slice (some ⟨gb,0,none⟩) 1 1,.bool true]) (l':=[IZ gb ([CR bo 1]:List (Ap)).flatten]++l) [] _ rfl .refl (by exact Ba) (.trans (.of_perm (.refl _)) (I0 _ _ _)) ⟨_,[IZ gb ([CR bo 1]:List (Ap)).flatten],rfl,Fo (rows:=[CR bo 1]) rfl (C4 rfl) AX,rfl⟩
 by_cases e9:op=9
 ·rw[Ad Af] at hR;subst hR;refine Aj ?_;refine AS (D1 (k:=4) (n:=1) (e:=183) (zs:=Q6) (cs:=([CR bo 1]:List (Ap)).flatten) (pvs:=EU 0 [CR bo 1]) rfl AX AX rfl (EL [CR bo 1] (C4 rfl))) ?_;rintro _ _ ⟨gb,Sa,rfl,rfl⟩;refine Aj ?_;exact AU (vs:=[.slice (some ⟨gb,0,none⟩) 1 1,.bool true]) (l':=[IZ gb ([CR bo 1]:List (Ap)).flatten]++l) [] _ rfl .refl (by exact Ba) (.trans (.of_perm (.refl _)) (I0 _ _ _)) ⟨_,[IZ gb ([CR bo 1]:List (Ap)).flatten],rfl,Fo (rows:=[CR bo 1]) rfl (C4 rfl) AX,rfl⟩
 by_cases zL:op=11
 ·rw[Ad Af] at hR;subst hR;refine Aj ?_;refine AS (D1 (k:=4) (n:=1) (e:=183) (zs:=Q6) (cs:=([CR bo 1]:List (Ap)).flatten) (pvs:=EU 0 [CR bo 1]) rfl AX AX rfl (EL [CR bo 1] (C4 rfl))) ?_;rintro _ _ ⟨gb,Sa,rfl,rfl⟩;refine Aj ?_;exact AU (vs:=[.slice (some ⟨gb,0,none⟩) 1 1,.bool true]) (l':=[IZ gb ([CR bo 1]:List (Ap)).flatten]++l) [] _ rfl .refl (by exact Ba) (.trans (.of_perm (.refl _)) (I0 _ _ _)) ⟨_,[IZ gb ([CR bo 1]:List (Ap)).flatten],rfl,Fo (rows:=[CR bo 1]) rfl (C4 rfl) AX,rfl⟩
 by_cases zQ:op=21
 ·rw[Ad Af] at hR;subst hR;refine Aj ?_;refine AS (D1 (k:=4) (n:=1) (e:=183) (zs:=Q6) (cs:=([CR bo 1]:List (Ap)).flatten) (pvs:=EU 0 [CR bo 1]) rfl AX AX rfl (EL [CR bo 1] (C4 rfl))) ?_;rintro _ _ ⟨gb,Sa,rfl,rfl⟩;refine Aj ?_;exact AU (vs:=[.slice (some ⟨gb,0,none⟩) 1 1,.bool true]) (l':=[IZ gb ([CR bo 1]:List (Ap)).flatten]++l) [] _ rfl .refl (by exact Ba) (.trans (.of_perm (.refl _)) (I0 _ _ _)) ⟨_,[IZ gb ([CR bo 1]:List (Ap)).flatten],rfl,Fo (rows:=[CR bo 1]) rfl (C4 rfl) AX,rfl⟩
 by_cases uH:op=22
 ·rw[Ad Af] at hR;subst hR;refine Aj ?_;refine AS (D1 (k:=4) (n:=1) (e:=183) (zs:=Q6) (cs:=([CR bo 1]:List (Ap)).flatten) (pvs:=EU 0 [CR bo 1]) rfl AX AX rfl (EL [CR bo 1] (C4 rfl))) ?_;rintro _ _ ⟨gb,Sa,rfl,rfl⟩;refine Aj ?_;exact AU (vs:=[.slice (some ⟨gb,0,none⟩) 1 1,.bool true]) (l':=[IZ gb ([CR bo 1]:List (Ap)).flatten]++l) [] _ rfl .refl (by exact Ba) (.trans (.of_perm (.refl _)) (I0 _ _ _)) ⟨_,[IZ gb ([CR bo 1]:List (Ap)).flatten],rfl,Fo (rows:=[CR bo 1]) rfl (C4 rfl) AX,rfl⟩
 rw[Ab Af] at hR;by_cases e7:op=7
 ·rw[Ad Af] at hR;subst hR;refine Aj ?_;refine CA (Cu [6] 0 9) ?_;refine CE ?_;refine LJ (D1 (k:=4) (n:=2) (e:=183) (zs:=Q6) (cs:=([CR bo 1,FS bo 4 1 64]:List (Ap)).flatten) (pvs:=EU 0 [CR bo 1,FS bo 4 1 64]) rfl AX AX rfl (EL [CR bo 1,FS bo 4 1 64] (C4 rfl))) ?_;rintro _ _ ⟨gb,Sa,rfl,rfl⟩;refine CE ?_;refine Aj ?_;exact AU (vs:=[.slice (some ⟨gb,0,none⟩) 2 2,.bool true]) (l':=[IZ gb ([CR bo 1,FS bo 4 1 64]:List (Ap)).flatten]++l) [] _ rfl .refl (by exact Ba) (.trans (.of_perm (.refl _)) (I0 _ _ _)) ⟨_,[IZ gb ([CR bo 1,FS bo 4 1 64]:List (Ap)).flatten],rfl,Fo (rows:=[CR bo 1,FS bo 4 1 64]) rfl (C4 rfl) AX,rfl⟩
 rw[Ab Af] at hR;by_cases e8:op=8
 ·rw[Ad Af] at hR;subst hR;refine Aj ?_;refine CA (Cu [6] 0 9) ?_;refine CE ?_;refine LJ (D1 (k:=4) (n:=3) (e:=183) (zs:=Q6) (cs:=([CR bo 1,CR bo 2,U3 bo 7]:List (Ap)).flatten) (pvs:=EU 0 [CR bo 1,CR bo 2,U3 bo 7]) rfl AX AX rfl (EL [CR bo 1,CR bo 2,U3 bo 7] (C4 rfl))) ?_;rintro _ _ ⟨gb,Sa,rfl,rfl⟩;refine CE ?_;refine Aj ?_;exact AU (vs:=[.slice (some ⟨gb,0,none⟩) 3 3,.bool true]) (l':=[IZ gb ([CR bo 1,CR bo 2,U3 bo 7]:List (Ap)).flatten]++l) [] _ rfl .refl (by exact Ba) (.trans (.of_perm (.refl _)) (I0 _ _ _)) ⟨_,[IZ gb ([CR bo 1,CR bo 2,U3 bo 7]:List (Ap)).flatten],rfl,Fo (rows:=[CR bo 1,CR bo 2,U3 bo 7]) rfl (C4 rfl) AX,rfl⟩
 rw[Ab Af] at hR;by_cases zK:op=10
 ·rw[Ad Af] at hR;subst hR;refine Aj ?_;refine CA (Cu [11] 0 14) ?_;refine CE ?_;refine LJ (D1 (k:=4) (n:=4) (e:=183) (zs:=Q6) (cs:=([CR bo 1,CR bo 2,U3 bo 7,FS bo 4 0 7]:List (Ap)).flatten) (pvs:=EU 0 [CR bo 1,CR bo 2,U3 bo 7,FS bo 4 0 7]) rfl AX AX rfl (EL [CR bo 1,CR bo 2,U3 bo 7,FS bo 4 0 7] (C4 rfl))) ?_;rintro _ _ ⟨gb,Sa,rfl,rfl⟩;refine CE ?_;refine Aj ?_;exact AU (vs:=[.slice (some ⟨gb,0,none⟩) 4 4,.bool true]) (l':=[IZ gb ([CR bo 1,CR bo 2,U3 bo 7,FS bo 4 0 7]:List (Ap)).flatten]++l) [] _ rfl .refl (by exact Ba) (.trans (.of_perm (.refl _)) (I0 _ _ _)) ⟨_,[IZ gb ([CR bo 1,CR bo 2,U3 bo 7,FS bo 4 0 7]:List (Ap)).flatten],rfl,Fo (rows:=[CR bo 1,CR bo 2,U3 bo 7,FS bo 4 0 7]) rfl (C4 rfl) AX,rfl⟩
 rw[Ab Af] at hR;by_cases e14:op=14
 ·rw[Ad Af] at hR;subst hR;refine Aj ?_;refine KP [(0,true),(1,true),(2,true),(3,true),(4,true),(5,true),(7,true),(6,false),(8,false),(9,false),(10,true),(11,true)] [[],[],[1],[1,2],[1,2,3],[1,2,3,4],[0,1,2,3,4,5],[],[1,2,3,4,5,7],[0,1,2,3,4,5,6,7,8],[0,1,2,3,4,5,6,7,8,9],[0,1,2,3,4,5,6,7,8,9,10]] 6 8 ([IZ b8 (CR bo 1)]) BA BA GH ((UC BW)) ?_;refine BM ?_;refine VI ?_;refine BM ?_;refine Nd [(8,false),(6,false),(9,false),(10,true),(11,true)] GH (List.Perm.swap _ _ _) BA ?_ ?_
  case' refine_1=>
   refine CM (D1 (k:=4) (n:=2) (e:=183) (zs:=Q6) (cs:=([CR bo 1,FS bo 4 0 4096]:List (Ap)).flatten) (pvs:=EU 0 ([CR bo 1,FS bo 4 0 4096]:List (Ap))) rfl AX AX rfl (EL ([CR bo 1,FS bo 4 0 4096]:List (Ap)) (C4 rfl))) rfl rfl rfl ?_ ?_
   ·rintro _ _ ⟨_,_,_,rfl⟩ c hc;exact .tail _ (UC BW c hc)
   rintro _ _ ⟨g1,_,rfl,rfl⟩;refine CM (Az rfl rfl (QW bo _)) rfl rfl rfl ?_ ?_
   ·rintro _ _ ⟨_,_,_,rfl⟩ c hc;exact .tail _ (UC BW c hc)
   rintro _ _ ⟨g2,_,rfl,rfl⟩
  case' refine_2=>
   refine CM (Az rfl rfl (QW bo _)) rfl rfl rfl ?_ ?_
   ·rintro _ _ ⟨_,_,_,rfl⟩ c hc;exact .tail _ (UC BW c hc)
   rintro _ _ ⟨g2,_,rfl,rfl⟩;refine CM (D1 (k:=4) (n:=2) (e:=183) (zs:=Q6) (cs:=([CR bo 1,FS bo 4 0 4096]:List (Ap)).flatten) (pvs:=EU 0 ([CR bo 1,FS bo 4 0 4096]:List (Ap))) rfl AX AX rfl (EL ([CR bo 1,FS bo 4 0 4096]:List (Ap)) (C4 rfl))) rfl rfl rfl ?_ ?_
   ·rintro _ _ ⟨_,_,_,rfl⟩ c hc;exact .tail _ (UC BW c hc)
   rintro _ _ ⟨g1,_,rfl,rfl⟩
  all_goals
   refine CM (OpE.re (K':=λv l'=> ∃c2,OwnSl 183 4 v (2+4) (([CR bo 1,FS bo 4 0 4096]:List (Ap)).flatten++(Xy bo).flatten) c2/\l'=c2++([IZ g2 (Xy bo).flatten]++(IZ b8 (CR bo 1)::IZ b9 (CR bo 2)::l))) (by first|exact Keep.of_perm (.swap _ _ _)|exact .refl) (Rv (k:=4) (n:=2) (m:=4) (xs:=([CR bo 1,FS bo 4 0 4096]:List (Ap)).flatten) (ys:=(Xy bo).flatten) (zs:=Q6) (cs:=[IZ g1 ([CR bo 1,FS bo 4 0 4096]:List (Ap)).flatten]) (cw:=[IZ g2 (Xy bo).flatten]) (F:=IZ b8 (CR bo 1)::IZ b9 (CR bo 2)::l) rfl rfl rfl (Fo (rows:=([CR bo 1,FS bo 4 0 4096]:List (Ap))) rfl (C4 rfl) AX) (Fo (rows:=Xy bo) rfl (C4 rfl) AX) (oS bo) Af Af AX) (λv l' ⟨c2,h1,h2⟩=>⟨l',.refl,c2,h1,h2⟩)) rfl rfl rfl ?_ ?_
   ·rintro v l' ⟨c2,_,rfl⟩ c hc;exact Aa _ (.tail _ (UC (.head _) c hc))
   rintro v _ ⟨c2,ho3,rfl⟩;refine BM ?_;refine Aj ?_;exact CT (vs:=[v,.bool true]) (l':=c2++l) _ .refl (vL _ _ _) ⟨v,c2,rfl,ho3,rfl⟩
 by_cases e15:op=15
 ·rw[Ad Af] at hR;subst hR;refine Aj ?_;refine KP [(0,true),(1,true),(2,true),(3,true),(4,true),(5,true),(7,true),(6,false),(8,false),(9,false),(10,true),(11,true)] [[],[],[1],[1,2],[1,2,3],[1,2,3,4],[0,1,2,3,4,5],[],[1,2,3,4,5,7],[0,1,2,3,4,5,6,7,8],[0,1,2,3,4,5,6,7,8,9],[0,1,2,3,4,5,6,7,8,9,10]] 6 8 ([IZ b8 (CR bo 1)]) BA BA GH ((UC BW)) ?_;refine BM ?_;refine VI ?_;refine BM ?_;refine Nd [(8,false),(6,false),(9,false),(10,true),(11,true)] GH (List.Perm.swap _ _ _) BA ?_ ?_
  case' refine_1=>
   refine CM (D1 (k:=4) (n:=2) (e:=183) (zs:=Q6) (cs:=([CR bo 1,FS bo 4 0 4096]:List (Ap)).flatten) (pvs:=EU 0 ([CR bo 1,FS bo 4 0 4096]:List (Ap))) rfl AX AX rfl (EL ([CR bo 1,FS bo 4 0 4096]:List (Ap)) (C4 rfl))) rfl rfl rfl ?_ ?_
   ·rintro _ _ ⟨_,_,_,rfl⟩ c hc;exact .tail _ (UC BW c hc)
   rintro _ _ ⟨g1,_,rfl,rfl⟩;refine CM (Az rfl rfl (QW bo _)) rfl rfl rfl ?_ ?_
   ·rintro _ _ ⟨_,_,_,rfl⟩ c hc;exact .tail _ (UC BW c hc)
   rintro _ _ ⟨g2,_,rfl,rfl⟩
  case' refine_2=>
   refine CM (Az rfl rfl (QW bo _)) rfl rfl rfl ?_ ?_
   ·rintro _ _ ⟨_,_,_,rfl⟩ c hc;exact .tail _ (UC BW c hc)
   rintro _ _ ⟨g2,_,rfl,rfl⟩;refine CM (D1 (k:=4) (n:=2) (e:=183) (zs:=Q6) (cs:=([CR bo 1,FS bo 4 0 4096]:List (Ap)).flatten) (pvs:=EU 0 ([CR bo 1,FS bo 4 0 4096]:List (Ap))) rfl AX AX rfl (EL ([CR bo 1,FS bo 4 0 4096]:List (Ap)) (C4 rfl))) rfl rfl rfl ?_ ?_
   ·rintro _ _ ⟨_,_,_,rfl⟩ c hc;exact .tail _ (UC BW c hc)
   rintro _ _ ⟨g1,_,rfl,rfl⟩
  all_goals
   refine CM (OpE.re (K':=λv l'=> ∃c2,OwnSl 183 4 v (2+4) (([CR bo 1,FS bo 4 0 4096]:List (Ap)).flatten++(Xy bo).flatten) c2/\l'=c2++([IZ g2 (Xy bo).flatten]++(IZ b8 (CR bo 1)::IZ b9 (CR bo 2)::l))) (by first|exact Keep.of_perm (.swap _ _ _)|exact .refl) (Rv (k:=4) (n:=2) (m:=4) (xs:=([CR bo 1,FS bo 4 0 4096]:List (Ap)).flatten) (ys:=(Xy bo).flatten) (zs:=Q6) (cs:=[IZ g1 ([CR bo 1,FS bo 4 0 4096]:List (Ap)).flatten]) (cw:=[IZ g2 (Xy bo).flatten]) (F:=IZ b8 (CR bo 1)::IZ b9 (CR bo 2)::l) rfl rfl rfl (Fo (rows:=([CR bo 1,FS bo 4 0 4096]:List (Ap))) rfl (C4 rfl) AX) (Fo (rows:=Xy bo) rfl (C4 rfl) AX) (oS bo) Af Af AX) (λv l' ⟨c2,h1,h2⟩=>⟨l',.refl,c2,h1,h2⟩)) rfl rfl rfl ?_ ?_
   ·rintro v l' ⟨c2,_,rfl⟩ c hc;exact Aa _ (.tail _ (UC (.head _) c hc))
   rintro v _ ⟨c2,ho3,rfl⟩;refine BM ?_;refine Aj ?_;exact CT (vs:=[v,.bool true]) (l':=c2++l) _ .refl (vL _ _ _) ⟨v,c2,rfl,ho3,rfl⟩
 rw[Ab Af] at hR;by_cases e16:op=16
 ·rw[Ad Af] at hR;subst hR;refine Aj ?_;refine CA (Cu [6] 0 9) ?_;refine CE ?_;refine LJ (D1 (k:=4) (n:=2) (e:=183) (zs:=Q6) (cs:=([CR bo 1,FS bo 4 0 4096]:List (Ap)).flatten) (pvs:=EU 0 [CR bo 1,FS bo 4 0 4096]) rfl AX AX rfl (EL [CR bo 1,FS bo 4 0 4096] (C4 rfl))) ?_;rintro _ _ ⟨gb,Sa,rfl,rfl⟩;refine CE ?_;refine Aj ?_;exact AU (vs:=[.slice (some ⟨gb,0,none⟩) 2 2,.bool true]) (l':=[IZ gb ([CR bo 1,FS bo 4 0 4096]:List (Ap)).flatten]++l) [] _ rfl .refl (by exact Ba) (.trans (.of_perm (.refl _)) (I0 _ _ _)) ⟨_,[IZ gb ([CR bo 1,FS bo 4 0 4096]:List (Ap)).flatten],rfl,Fo (rows:=[CR bo 1,FS bo 4 0 4096]) rfl (C4 rfl) AX,rfl⟩
 rw[Ab Af] at hR;by_cases e17:op=17
 ·rw[Ad Af] at hR;subst hR;refine Aj ?_;refine AS (Az rfl rfl (QW bo _)) ?_;rintro _ _ ⟨gb,Sa,rfl,rfl⟩;refine Aj ?_;exact AU (vs:=[.slice (some ⟨gb,0,none⟩) 4 4,.bool true]) (l':=[IZ gb (Xy bo).flatten]++l) [] _ rfl .refl (by exact Ba) (I0 _ _ _) ⟨_,[IZ gb (Xy bo).flatten],rfl,Fo (rows:=Xy bo) rfl (C4 rfl) AX,rfl⟩
 rw[Ab Af] at hR;by_cases zO:op=18
 ·rw[Ad Af] at hR;subst hR;refine Aj ?_;exact CT (vs:=[.slice none 0 0,.bool true]) _ .refl (.drop (.drop .refl)) ⟨_,[],rfl,OwnSl.nil _ _,rfl⟩
 rw[Ab Af] at hR;by_cases wQ:op=19
 ·rw[Ad Af] at hR;subst hR;refine Aj ?_;refine CA (Cu [7] 0 10) ?_;refine CE ?_;refine LJ (D1 (k:=4) (n:=3) (e:=183) (zs:=Q6) (cs:=([CR bo 1,FS bo 4 0 2,CR bo 2]:List (Ap)).flatten) (pvs:=EU 0 [CR bo 1,FS bo 4 0 2,CR bo 2]) rfl AX AX rfl (EL [CR bo 1,FS bo 4 0 2,CR bo 2] (C4 rfl))) ?_;rintro _ _ ⟨gb,Sa,rfl,rfl⟩;refine CE ?_;refine Aj ?_;exact AU (vs:=[.slice (some ⟨gb,0,none⟩) 3 3,.bool true]) (l':=[IZ gb ([CR bo 1,FS bo 4 0 2,CR bo 2]:List (Ap)).flatten]++l) [] _ rfl .refl (by exact Ba) (.trans (.of_perm (.refl _)) (I0 _ _ _)) ⟨_,[IZ gb ([CR bo 1,FS bo 4 0 2,CR bo 2]:List (Ap)).flatten],rfl,Fo (rows:=[CR bo 1,FS bo 4 0 2,CR bo 2]) rfl (C4 rfl) AX,rfl⟩
 rw[Ab Af] at hR;by_cases zP:op=20
 ·rw[Ad Af] at hR;subst hR;refine Aj ?_;refine CA (Cu [6] 0 9) ?_;refine CE ?_;refine LJ (D1 (k:=4) (n:=2) (e:=183) (zs:=Q6) (cs:=([CR bo 1,FS bo 4 0 2]:List (Ap)).flatten) (pvs:=EU 0 [CR bo 1,FS bo 4 0 2]) rfl AX AX rfl (EL [CR bo 1,FS bo 4 0 2] (C4 rfl))) ?_;rintro _ _ ⟨gb,Sa,rfl,rfl⟩;refine CE ?_;refine Aj ?_;exact AU (vs:=[.slice (some ⟨gb,0,none⟩) 2 2,.bool true]) (l':=[IZ gb ([CR bo 1,FS bo 4 0 2]:List (Ap)).flatten]++l) [] _ rfl .refl (by exact Ba) (.trans (.of_perm (.refl _)) (I0 _ _ _)) ⟨_,[IZ gb ([CR bo 1,FS bo 4 0 2]:List (Ap)).flatten],rfl,Fo (rows:=[CR bo 1,FS bo 4 0 2]) rfl (C4 rfl) AX,rfl⟩
 rw[Ab Af] at hR;by_cases zR:op=23
 ·rw[Ad Af] at hR;subst hR;refine Aj ?_;refine CA (Cu [6] 0 9) ?_;refine CE ?_;refine LJ (D1 (k:=4) (n:=2) (e:=183) (zs:=Q6) (cs:=([CR bo 1,FS bo 4 0 7]:List (Ap)).flatten) (pvs:=EU 0 [CR bo 1,FS bo 4 0 7]) rfl AX AX rfl (EL [CR bo 1,FS bo 4 0 7] (C4 rfl))) ?_;rintro _ _ ⟨gb,Sa,rfl,rfl⟩;refine CE ?_;refine Aj ?_;exact AU (vs:=[.slice (some ⟨gb,0,none⟩) 2 2,.bool true]) (l':=[IZ gb ([CR bo 1,FS bo 4 0 7]:List (Ap)).flatten]++l) [] _ rfl .refl (by exact Ba) (.trans (.of_perm (.refl _)) (I0 _ _ _)) ⟨_,[IZ gb ([CR bo 1,FS bo 4 0 7]:List (Ap)).flatten],rfl,Fo (rows:=[CR bo 1,FS bo 4 0 7]) rfl (C4 rfl) AX,rfl⟩
 rw[Ab Af] at hR;subst hR;refine Aj ?_;exact CT _ .refl (.drop (.drop .refl)) ⟨rfl,rfl⟩
def Hb(c:OU):A4:=[c.a0,c.a1,c.a2,c.a3,c.a4,c.a5]
def ZG(c:OU)(gb n m:Nat):List (Int×Value):=(List.range m).map λi:Nat=>((Hb c).getD i 0,if i<n then .pointer (some ⟨gb,i*4,none⟩) else .pointer none)
theorem ZH(c:OU)(gb n:Nat)(h:i<=m):(ZG c gb n m).take i=ZG c gb n i:=by unfold ZG;rw[<-Hd,G7,EW h]
theorem UH(c:OU)(gb n m:Nat):ZG c gb n (m+1)=ZG c gb n m++[((Hb c).getD m 0,if m<n then .pointer (some ⟨gb,m*4,none⟩) else .pointer none)]:=by unfold ZG;rw[CC,Aq];rfl
theorem fS(c:OU)(gb n:Nat)(h:i<m):ZG c gb n i++[((Hb c).getD i 0,if i<n then .pointer (some ⟨gb,i*4,none⟩) else .pointer none)]<+:ZG c gb n m:=by rw[<-UH,<-ZH c gb n (show i+1<=m by omega)];exact BK _ _
abbrev wrV(x:Int×Value):Ap:=[Be x.1,x.2]
abbrev y5(B:Nat)(c:OU):Bd:=(B,.cells (toArray (j8 c)) 37 (0,0))
abbrev fsB(B:Nat)(v:Value):Bd:=(B,.cells (toArray [v]) 172 (0,0))
theorem jm(c:OU)(v:Value)(hv:v.oneCell'=true)(l:Ac):Fn prog 82 [qk c,v] l λv' l'=> ∃B1 B2,v'= .func (.func 125) #[] #[pV B1,pV B2]/\l'=fsB B2 v::y5 B1 c::l:=by refine AN func82 ntmps82 λE=>?_;refine AQ λb1=>?_;refine AS (Ez rfl hv) ?_;rintro _ _ ⟨b2,_,rfl,rfl⟩;refine Aj ?_;exact Bb .refl ⟨_,_,rfl,rfl⟩
theorem cX(B1 B2 gb n cap:Nat)(pp:Option Addr)(c:OU)(hp:0<n->pp=some ⟨gb,0,none⟩)(hn:n<=100):
 FC prog 125 [pV B1,pV B2] wrV (λxs=>xs=ZG c gb n 6) (λpre=>pre<+:ZG c gb n 6) (λ_ l=>y5 B1 c∈l/\fsB B2 (.slice pp n cap)∈l):=by
 refine⟨λr I Ix G0 Cb hY l G hG h0=>?_⟩;obtain⟨n1,n2⟩:=Cb _ _ G hG h0;refine AN func125 ntmps125 λE=>?_;refine Aj ?_;refine CN (α:=Nat×Ac) (λx=>[(0,.func (.yield r) #[] #[]),(1,pV B1),(2,pV B2),(8,.agg (toArray [Be c.a0,Be c.a1,Be c.a2,Be c.a3,Be c.a4,Be c.a5])),(9,.int .i64 x.1)]) (λx=>x.2++G) (λx=>x.1<=6/\I (ZG c gb n x.1) x.2) (λx=>6-x.1) (0,l) ⟨Bp _,h0⟩ ⟨rfl,rfl,rfl,rfl,rfl,trivial⟩ .refl ?_;clear n1 n2;rintro⟨k,l⟩ ⟨hk,hI⟩;simp only at hk hI⊢;obtain⟨n1,n2⟩:=Cb _ _ G hG hI;by_cases C9:k<6
 ·have hy:=hY (ZG c gb n k) _ l G hG hI (fS c gb n C9);obtain⟨w,hw⟩: ∃w,(Hb c).getD k 0=w:=⟨_,rfl⟩
  obtain⟨q,hq⟩: ∃q:Value,(if k<n then .pointer (some ⟨gb,k*4,none⟩) else .pointer none)=q:=⟨_,rfl⟩
  have Q0:=fS c gb n C9;rw[hw,hq] at hy Q0;have hs:ZG c gb n (k+1)=ZG c gb n k++[(w,q)]:=by rw[UH,hw,hq]
  have hv:(toArray [Be c.a0,Be c.a1,Be c.a2,Be c.a3,Be c.a4,Be c.a5])[k]?=some (Be w):=by
   rw[<-hw];have:k=0\/k=1\/k=2\/k=3\/k=4\/k=5:=by omega
   rcases this with rfl|rfl|rfl|rfl|rfl|rfl<;>rfl
  refine Aj ?_;refine uS (v:=Be w) (by refine Xs (m:=k) rfl rfl rfl C9 hv) rfl rfl rfl ?_;by_cases uF:k<n
  case' pos=>
   obtain rfl:=hp Af;rw[Ad uF] at hq;subst hq;refine Aj ?_
  case' neg=>
   rw[Ab uF] at hq;subst hq;refine Aj ?_
  all_goals
   refine AS (C5 rfl rfl hy) ?_;rintro v l' ⟨l1,rfl,⟨rfl,LB⟩|⟨rfl,hx⟩⟩
   ·rw[<-hs] at LB;refine Aj ?_;exact BO (k+1,l1) ⟨by simp only;omega,LB⟩ (by simp only;omega) ⟨rfl,rfl,rfl,rfl,rfl,trivial⟩ .refl
   ·refine Aj ?_;exact Bb .refl ⟨l1,rfl,.inr ⟨_,Q0,hx⟩⟩
 ·obtain rfl:k=6:=by omega
  refine Aj ?_;exact Bb .refl ⟨l,rfl,.inl ⟨_,rfl,hI⟩⟩
abbrev K0:Jt:=⟨0,0,0,0,0,0,0,0,⟨0,0,0,0⟩⟩
def NM(o:Jt)(i:Nat)(x:Int):Jt:=
 match i with
 |1=>{o with a:=x}
 |2=>{o with b:=x}
 |4=>{o with n0:=x}
 |5=>{o with n1:=x}
 |6=>{o with n2:=x}
 |7=>{o with w:=x}
 |8=>{o with ms:={o.ms with a:=x}}
 |9=>{o with ms:={o.ms with b:=x}}
 |10=>{o with ms:={o.ms with c:=x}}
 |11=>{o with ms:={o.ms with d:=x}}
 |_=>o
theorem tB(h:i=1\/i=2\/i=4\/i=5\/i=6):Sk (NM o i x)=(Sk o).set i (iV x):=by rcases h with rfl|rfl|rfl|rfl|rfl<;>rfl
theorem tC(h:i=7\/i=8\/i=9\/i=10\/i=11):Sk (NM o i x)=(Sk o).set i (Be x):=by rcases h with rfl|rfl|rfl|rfl|rfl<;>rfl
def Hj(o:Jt)(cn:Int)(f:FoT)(x:Int):Jt×Int:=match f.at' with
 |none=>(o,x)
 |some i=>(NM o i x,cn)
def XS(c:OU)(L:List FoT):List Nat->Jt->Int->Int->(Jt×Int)×Int
 |[],o,cn,e=>((o,cn),e)
 |i::r,o,cn,e=>match L[i]? with
  |none=>if(Hb c).getD i 0=0 then XS c L r o cn e else((o,cn),2)
  |some f=>if(Hb c).getD i 0<f.le\/f.mo<(Hb c).getD i 0 then XS c L r o cn 3 else XS c L r (Hj o cn f ((Hb c).getD i 0)).1 (Hj o cn f ((Hb c).getD i 0)).2 e
def fT(c:OU)(q:(Jt×Int)×Int):Jt×Int:=if q.2=0 then({q.1.1 with op:=c.op,n2:=q.1.1.n2+16*q.1.2},0) else(K0,q.2)
def Ct(c:OU):Jt×Int:=match QV c.op with
 |none=>(K0,2)
 |some L=>if c.op=1/\Xx c=false then(K0,2) else fT c (XS c L (List.range 6) K0 0 0)
def OV(f:FoT):Bool:=match f.at' with
 |none=>!f.wd&&decide (0<=f.le)&&decide (f.mo<=1000000)
 |some i=>if f.wd=true then[7,8,9,10,11].contains i else[1,2,4,5,6].contains i&&decide (0<=f.le)&&decide (f.mo<=1000000)
theorem cY{op:Int}(h:QV op=some L):L.all OV=true/\L.length<=6:=by
 unfold QV at h;by_cases h0:op=1
 ·rw[Ad h0] at h;obtain rfl:=AZ h;exact⟨rfl,by decide⟩
 rw[Ab h0] at h;by_cases h1:op=2
 ·rw[Ad h1] at h;obtain rfl:=AZ h;exact⟨rfl,by decide⟩
 rw[Ab h1] at h;by_cases h2:op=3
 ·rw[Ad h2] at h;obtain rfl:=AZ h;exact⟨rfl,by decide⟩
 rw[Ab h2] at h;by_cases h3:op=4\/op=5\/op=12\/op=13
 ·rw[Ad h3] at h;obtain rfl:=AZ h;exact⟨rfl,by decide⟩
 rw[Ab h3] at h;by_cases h4:op=6\/op=9\/op=11\/op=21\/op=22
 ·rw[Ad h4] at h;obtain rfl:=AZ h;exact⟨rfl,by decide⟩
 rw[Ab h4] at h;by_cases h5:op=7
 ·rw[Ad h5] at h;obtain rfl:=AZ h;exact⟨rfl,by decide⟩
 rw[Ab h5] at h;by_cases h6:op=8
 ·rw[Ad h6] at h;obtain rfl:=AZ h;exact⟨rfl,by decide⟩
 rw[Ab h6] at h;by_cases h7:op=10
 ·rw[Ad h7] at h;obtain rfl:=AZ h;exact⟨rfl,by decide⟩
 rw[Ab h7] at h;by_cases h8:op=14\/op=15
 ·rw[Ad h8] at h;obtain rfl:=AZ h;exact⟨rfl,by decide⟩
 rw[Ab h8] at h;by_cases h9:op=16
 ·rw[Ad h9] at h;obtain rfl:=AZ h;exact⟨rfl,by decide⟩
 rw[Ab h9] at h;by_cases U7:op=17
 ·rw[Ad U7] at h;obtain rfl:=AZ h;exact⟨rfl,by decide⟩
 rw[Ab U7] at h;by_cases jR:op=18
 ·rw[Ad jR] at h;obtain rfl:=AZ h;exact⟨rfl,by decide⟩
 rw[Ab jR] at h;by_cases kK:op=19
 ·rw[Ad kK] at h;obtain rfl:=AZ h;exact⟨rfl,by decide⟩
 rw[Ab kK] at h;by_cases h13:op=20
 ·rw[Ad h13] at h;obtain rfl:=AZ h;exact⟨rfl,by decide⟩
 rw[Ab h13] at h;by_cases uD:op=23
 ·rw[Ad uD] at h;obtain rfl:=AZ h;exact⟨rfl,by decide⟩
 rw[Ab uD] at h;cases h
section
variable{Q2:Exit->Act->World->Prop}{Q1:Act->World->Prop}{c:Code}{fr:Fr}{l:Ac}
def vM(N:Nat)(E:World){α:Type}(fx:α->Fr)(dx:α->List Deferred)(lx:α->Ac)(pre:α->Prop)(a:Act)(W:World):Prop:=
 ∃y,pre y/\FSat N (fx y) a/\a.defers=dx y/\Sat E (lx y) W
theorem y6(fx:α->Fr)(dx:α->List Deferred)(lx:α->Ac)(pre:α->Prop)(h1:BR P ro N E c (Exit.then (vM N E fx dx lx pre) Q2) fr ds l)(h2: ∀x,pre x->C0 N E (Exit.then Q1 Q2) .normal (fx x) (dx x) (lx x)):BR P ro N E c (Exit.then Q1 Q2) fr ds l:=
 ⟨λa W hf hds hs=>wpIn_mono (h1.run a W hf hds hs) λe a' W' h=>by
   cases e with
   |normal=>obtain⟨y,h3,h4,h5,h6⟩:=h;exact(h2 y h3).run a' W' h4 h5 h6
   |_=>exact h⟩
theorem fV{fx:α->Fr}{dx:α->List Deferred}{lx:α->Ac}{pre:α->Prop}(y:α)(h1:pre y)(h2:ds=dx y)(h3:FSub (fx y) fr)(h4:Keep l (lx y)):C0 N E (Exit.then (vM N E fx dx lx pre) Q) .normal fr ds l:=
 ⟨λa W hf hds hs=>⟨y,h1,hf.sub h3.spec,hds.trans h2,h4.sat hs⟩⟩
end
abbrev Il(B:Nat)(o:Jt):Bd:=(B,.cells (toArray (Sk o)) 57 (0,0))
abbrev PZ(B:Nat)(x:Int):Bd:=(B,.cells (toArray [iV x]) 29 (0,0))
theorem tD{c d:Bd}{l:Ac}:(A++(a::b::c::d::l)).Perm (a::b::c::d::(A++l)):=BX
theorem fX{enc:α->Ap}(hk: ∀x,(enc x).length=k){xs:List α}{x:α}(h:xs[i]?=some x)(sp:Ap):i*k+k<=(toArray (xs.flatMap enc++sp)).size/\(toArray (xs.flatMap enc++sp)).extract (i*k) (i*k+k)=toArray (enc x):=by obtain⟨h1,h2⟩:=Lk hk sp xs i x h;refine⟨by rw[Bv];exact h2,?_⟩;rw[E7,Cj,CJ];exact BI toArray h1
theorem Afr(h:k<6):(List.range 6).drop k=k::(List.range 6).drop (k+1):=by
 have:k=0\/k=1\/k=2\/k=3\/k=4\/k=5:=by omega
 rcases this with rfl|rfl|rfl|rfl|rfl|rfl<;>rfl
theorem fY(c:OU)(gb n m:Nat):(ZG c gb n m).length=m:=by unfold ZG;simp
theorem y7{pre:List (Int×Value)}{x:Int×Value}(h:pre++[x]<+:ZG c gb n 6):pre.length<6/\(Hb c).getD pre.length 0=x.1/\(if pre.length<n then .pointer (some ⟨gb,pre.length*4,none⟩) else .pointer none)=x.2:=by have hl:=h.length_le;rw[fY,Ah,Bl] at hl;have h2:=IS.1 h;rw[ZH c gb n (by simp;omega),Ah,Bl,UH] at h2;obtain⟨h3,h4⟩:=JP h2 rfl;have h5:=List.singleton_inj.1 h4;rw[h5];exact⟨Af,rfl,rfl⟩
theorem oT{op:Int}(h:QV op=some L):1<=op/\op<=23:=by
 by_cases hr:1<=op/\op<=23
 ·exact hr
 ·exfalso;unfold QV at h
  repeat rw[Ab Af] at h
  cases h
theorem QX(c:OU)(L:List FoT)(i:Nat)(r:List Nat)(o:Jt)(cn e:Int):XS c L (i::r) o cn e=match L[i]? with
 |none=>if(Hb c).getD i 0=0 then XS c L r o cn e else((o,cn),2)
 |some f=>if(Hb c).getD i 0<f.le\/f.mo<(Hb c).getD i 0 then XS c L r o cn 3 else XS c L r (Hj o cn f ((Hb c).getD i 0)).1 (Hj o cn f ((Hb c).getD i 0)).2 e:=rfl
theorem oU(h:OV f=true)(ha:f.at'=some i):(f.wd=true/\(i=7\/i=8\/i=9\/i=10\/i=11))\/(f.wd=false/\(i=1\/i=2\/i=4\/i=5\/i=6)):=by
 unfold OV at h;rw[ha] at h;dsimp only at h;cases hw:f.wd
 ·rw[hw] at h;simp at h;exact .inr ⟨rfl,Af⟩
 ·rw[hw] at h;simp at h;exact .inl ⟨rfl,Af⟩
theorem vO(h:OV f=true)(ha:f.at'=none):f.wd=false:=by
 unfold OV at h;rw[ha] at h;dsimp only at h;cases hw:f.wd
 ·rfl
 ·rw[hw] at h;simp at h
theorem oV(h:OV f=true)(hw:f.wd=false):0<=f.le/\f.mo<=1000000:=by
 unfold OV at h;rw[hw] at h;cases ha:f.at' with
 |none=>rw[ha] at h;simp only[Hp,Bw,AV,Bk] at h;exact h
 |some i=>rw[ha] at h;dsimp only at h;rw[Ab AX] at h;simp only[AV,Bk] at h;exact⟨h.1.2,h.2⟩
def DcB(o:Jt)(cn:Int):Prop:=(0<=cn/\cn<=1000000)/\(0<=o.n2/\o.n2<=1000000)
theorem DcB.put(h:DcB o cn)(hf:OV f=true)(h1:¬(x<f.le\/f.mo<x)):DcB (Hj o cn f x).1 (Hj o cn f x).2:=by
 obtain⟨h2,h3⟩:=h;unfold OV at hf;unfold Hj;cases ha:f.at' with
 |none=>rw[ha] at hf;simp only[AV,Bk] at hf;exact⟨by constructor<;>dsimp only<;>omega,h3⟩
 |some i=>
  rw[ha] at hf;dsimp only at hf⊢;refine⟨h2,?_⟩;unfold NM
  repeat' split
  all_goals first
   |exact h3
   |(dsimp only
     cases hw:f.wd<;>rw[hw] at hf<;>simp at hf;omega)
theorem cZ(c:OU)(hc:CL c)(k:Nat):Lt ((Hb c).getD k 0):=by
 match k with
 |0=>exact hc.a0
 |1=>exact hc.a1
 |2=>exact hc.a2
 |3=>exact hc.a3
 |4=>exact hc.a4
 |5=>exact hc.a5
 |k+6=>exact⟨by simp[Hb],by simp[Hb]⟩
theorem UI(c:OU)(hc:CL c)(l:Ac):Fn prog 56 [qk c] l λv l'=>v= .tuple #[.agg (toArray (Sk (Ct c).1)),iV (Ct c).2]/\l'=l:=by
 obtain⟨R,hR⟩: ∃R,Ct c=R:=⟨_,rfl⟩
 rw[hR];unfold Ct at hR;have huo:Lt c.op:=hc.op;obtain⟨u1,u2⟩:=huo;refine AN func56 ntmps56 λE=>?_;refine AQ λb1=>?_;refine AQ λb2=>?_;refine AQ λb4=>?_;refine AQ λb5=>?_;refine AS (Az rfl rfl (Wo c.op b4 b5 _)) ?_;cases hL:QV c.op with
 |none=>rw[hL] at hR;subst hR;rintro _ _ ⟨rfl,rfl⟩;refine Aj ?_;exact AU (vs:=[.agg (toArray (Sk K0)),iV 2]) [] _ rfl .refl (Cq rfl (.tail _ (.tail _ (.head _))) (As.LSub.of_all (n:=12) (Sk K0) rfl) (by exact Ba)) (.drop (.drop (.drop (.drop .refl)))) ⟨rfl,rfl⟩
 |some L=>
 rw[hL] at hR;obtain⟨Dm,Eh⟩:=cY hL;rintro _ _ ⟨sl,cs,rfl,NQ,rfl⟩;obtain⟨pp,cap,rfl⟩:=NQ.shape;refine Bs (.of_perm (tD (a:=BS b5 0) (b:=Il b4 K0) (c:=Il b2 K0) (d:=y5 b1 c))) ?_;refine Aj ?_;dsimp only at hR;by_cases h1:c.op=1/\Xx c=false
 ·rw[Ad h1] at hR;subst hR;obtain⟨h2,h3⟩:=h1;refine Aj ?_;refine EM (vs:=[qk c]) ?_;rw[h3];refine Aj ?_;exact AU (vs:=[.agg (toArray (Sk K0)),iV 2]) [] _ rfl .refl (Cq rfl (.tail _ (.tail _ (.head _))) (As.LSub.of_all (n:=12) (Sk K0) rfl) (by exact Ba)) (.drop (.drop (.drop (.drop (Keep.dropL' cs .refl))))) ⟨rfl,rfl⟩
 rw[Ab h1] at hR;obtain⟨gb,sp,hp,hg⟩: ∃gb sp,(0<L.length->pp=some ⟨gb,0,none⟩)/\(0<L.length->cs=[IZ gb (L.flatMap (U2 b4 b5)++sp)]):=by
  by_cases h0:0<L.length
  ·obtain⟨gb,cap2,sp,h2,h3⟩:=MR NQ h0;exact⟨gb,sp,λ_=>by simpa using BI (λv=>match v with|Value.slice p _ _=>p|_=>none) h2,λ_=>h3⟩
  ·exact⟨0,[],λh=>absurd h h0,λh=>absurd h h0⟩
 have Aes:c.op=1->Xx c=true:=λh=>by cases ho:Xx c with|true=>rfl|false=>exact absurd ⟨h,ho⟩ h1
 by_cases RB:c.op=1
 case' pos=>
  have ho:=Aes RB;refine Aj ?_;refine EM (vs:=[qk c]) ?_;rw[ho];refine Aj ?_
 case' neg=>
  refine Aj ?_
 all_goals
  refine AQ λb8=>?_;refine AS (Az rfl rfl (jm c (.slice pp L.length cap) rfl _)) ?_;rintro _ _ ⟨B1,B2,rfl,rfl⟩;refine Vt ?_;refine Ob ?_;refine y6 (α:=Nat×(Jt×Int)×Int) (λz=>[(1,pV b1),(2,pV b2),(4,pV b4),(5,pV b5),(8,pV b8)]) (λz=>[Hw z.1]) (λz=>Cr z.1::PZ b8 z.2.2::BS b5 z.2.1.2::Il b4 z.2.1.1::Il b2 K0::y5 b1 c::(cs++l)) (λz=>XS c L (List.range 6) K0 0 0=z.2/\DcB z.2.1.1 z.2.1.2) ?_ ?_
  ·refine P7 ?_;refine Dg (α:=Int×Value) (ps:=[33,34]) (lb:=[pV B1,pV B2]) rfl (cX B1 B2 gb L.length cap pp c hp Af) (λ_=>rfl) rfl
    (λpre l1=> ∃o cn e,XS c L (List.range 6) K0 0 0=XS c L ((List.range 6).drop pre.length) o cn e/\DcB o cn/\l1=[PZ b8 e,BS b5 cn,Il b4 o])
    (λc' pre l1=>c'= .exit 0/\ ∃o cn,XS c L (List.range 6) K0 0 0=((o,cn),2)/\DcB o cn/\l1=[PZ b8 2,BS b5 cn,Il b4 o])
    [PZ b8 0,BS b5 0,Il b4 K0] ([fsB B2 (.slice pp L.length cap),y5 B1 c,Il b2 K0,y5 b1 c]++(cs++l)) (λpre l1 X hX h=>⟨Aa _ (hX _ (.tail _ (.head _))),Aa _ (hX _ (.head _))⟩) (by exact AW) ⟨K0,0,0,rfl,⟨by decide,by decide⟩,rfl⟩ ?_ ?_ ?_
   ·rintro E r0 FU pre ⟨w,q⟩ l1 T ⟨fn,tmps,D,rfl⟩ hT ⟨o,cn,e,RC,hb,rfl⟩ Dw;obtain⟨hk,hw,hq⟩:=y7 Dw;simp only at hw hq;obtain⟨uw1,uw2⟩:=cZ c hc pre.length;rw[hw] at uw1 uw2;rw[Afr hk,QX,hw] at RC;simp only[DX,Ae,Ag];refine Aj ?_;refine CK (by exact DY) ?_;by_cases uF:pre.length<L.length
    ·rw[Ad uF] at hq;subst hq;obtain⟨f,hf⟩: ∃f,L[pre.length]?=some f:=⟨_,Al uF⟩
     have uq:=A5.1 Dm f (Bc hf);rw[hf] at RC;dsimp only at RC;have mg:IZ gb (L.flatMap (U2 b4 b5)++sp)∈T:=hT _ (by rw[hg Af];simp);obtain⟨x1,x2⟩:=fX (k:=4) (enc:=U2 b4 b5) (λ_=>rfl) hf sp;have z0:(toArray (L.flatMap (U2 b4 b5)++sp))[pre.length*4]?=some (Be f.le):=mj x2 x1 (j:=0) AX rfl;have z1:(toArray (L.flatMap (U2 b4 b5)++sp))[pre.length*4+1]?=some (Be f.mo):=mj x2 x1 (j:=1) AX rfl;by_cases C9:w<f.le
     ·rw[Ad (.inl C9)] at RC;refine Aj ?_;exact Ci [PZ b8 3,BS b5 cn,Il b4 o] (by exact AW) ⟨o,cn,3,by rw[RC,Ah];rfl,hb,rfl⟩
     by_cases XW:f.mo<w
     ·rw[Ad (.inr XW)] at RC;refine Aj ?_;exact Ci [PZ b8 3,BS b5 cn,Il b4 o] (by exact AW) ⟨o,cn,3,by rw[RC,Ah];rfl,hb,rfl⟩
     have M2:¬(w<f.le\/f.mo<w):=by omega
     rw[Ab M2] at RC;have Ww:=hb.put uq M2;cases ha:f.at' with
     |none=>
      have qA:f.wd=false:=vO uq ha;obtain⟨r1,r2⟩:=oV uq qA;have hfc:U2 b4 b5 f=[Be f.le,Be f.mo,.pointer (some ⟨b5,0,none⟩),.pointer none]:=by unfold U2;rw[qA,ha];rfl
      have hpf:Hj o cn f w=(o,w):=by unfold Hj;rw[ha]
      rw[hfc] at x2;rw[hpf] at RC Ww;refine Aj ?_;refine Bh (Dt rfl (by exact BW) x1 x2) ?_;refine Aj ?_;refine Bs (l':=BS b5 cn::PZ b8 e::Il b4 o::(r0,_)::T) (by exact AW) ?_;refine AS (Az (vs:=[fnV f.le f.mo b5 0,Be w]) rfl rfl (ZF f.le f.mo b5 0 [iV cn] 3 w ⟨Af,Af⟩ Nat.one_pos _)) ?_;rintro _ _ ⟨rfl,rfl⟩;refine Aj ?_;exact Ci [PZ b8 e,BS b5 w,Il b4 o] (by exact AW) ⟨o,w,e,by rw[RC,Ah];rfl,Ww,rfl⟩
     |some i=>
      have hpf:Hj o cn f w=(NM o i w,cn):=by unfold Hj;rw[ha]
      rw[hpf] at RC Ww;rcases oU uq ha with⟨qA,hi⟩|⟨qA,hi⟩
      ·have hfc:U2 b4 b5 f=[Be f.le,Be f.mo,.pointer none,.pointer (some ⟨b4,i,none⟩)]:=by unfold U2;rw[qA,ha];rfl
       rw[hfc] at x2;refine Aj ?_;refine Bh (Dt rfl (by exact BW) x1 x2) ?_;refine Aj ?_;refine Bs (l':=Il b4 o::PZ b8 e::BS b5 cn::(r0,_)::T) (by exact AW) ?_;refine AS (Az (vs:=[fwV f.le f.mo b4 i,Be w]) rfl rfl (oR f.le f.mo b4 i (Sk o) 57 w (by simp;omega) _)) ?_;rintro _ _ ⟨rfl,rfl⟩;rw[<-tC hi];refine Aj ?_;exact Ci [PZ b8 e,BS b5 cn,Il b4 (NM o i w)] (by exact AW) ⟨NM o i w,cn,e,by rw[RC,Ah];rfl,Ww,rfl⟩
      ·obtain⟨r1,r2⟩:=oV uq qA;have hfc:U2 b4 b5 f=[Be f.le,Be f.mo,.pointer (some ⟨b4,i,none⟩),.pointer none]:=by unfold U2;rw[qA,ha];rfl
       rw[hfc] at x2;refine Aj ?_;refine Bh (Dt rfl (by exact BW) x1 x2) ?_;refine Aj ?_;refine Bs (l':=Il b4 o::PZ b8 e::BS b5 cn::(r0,_)::T) (by exact AW) ?_;refine AS (Az (vs:=[fnV f.le f.mo b4 i,Be w]) rfl rfl (ZF f.le f.mo b4 i (Sk o) 57 w ⟨Af,Af⟩ (by simp;omega) _)) ?_;rintro _ _ ⟨rfl,rfl⟩;rw[<-tB hi];refine Aj ?_;exact Ci [PZ b8 e,BS b5 cn,Il b4 (NM o i w)] (by exact AW) ⟨NM o i w,cn,e,by rw[RC,Ah];rfl,Ww,rfl⟩
    ·rw[Ab uF] at hq;subst hq;rw[Bg Af] at RC;dsimp only at RC;by_cases hw0:w=0
     ·rw[Ad hw0] at RC;refine Aj ?_;exact Ci [PZ b8 e,BS b5 cn,Il b4 o] (by exact AW) ⟨o,cn,e,by rw[RC,Ah];rfl,hb,rfl⟩
     ·rw[Ab hw0] at RC;refine Aj ?_;exact E5 [PZ b8 2,BS b5 cn,Il b4 o] (by exact AW) ⟨rfl,o,cn,RC,hb,rfl⟩
   ·rintro D xs l1 rfl ⟨o,cn,e,RC,hb,rfl⟩;rw[fY] at RC;simp only[Ae,Ag];refine Qa ?_;exact fV (D,(o,cn),e) ⟨RC,hb⟩ rfl ⟨rfl,rfl,rfl,rfl,rfl,trivial⟩ (by exact AW)
   ·rintro D c' pre l1 Dw ⟨rfl,o,cn,RC,hb,rfl⟩;simp only[Ae,Ag];refine Te ?_;refine Ji ?_;exact fV (D,(o,cn),2) ⟨RC,hb⟩ rfl ⟨rfl,rfl,rfl,rfl,rfl,trivial⟩ (by exact AW)
  rintro⟨D,⟨o,cn⟩,e⟩ ⟨RC,hb⟩;rw[RC] at hR;unfold fT at hR;dsimp only at hR hb⊢;obtain⟨⟨q1,q2⟩,q3,q4⟩:=hb;by_cases he:e=0
  case neg=>rw[Ab he] at hR;subst hR;refine Aj ?_;refine Cm [2] 4 _ ?_ (hR:=(λ_ h=>h));refine BM ?_;refine Aj ?_;exact AU (vs:=[.agg (toArray (Sk K0)),iV e]) [D] _ rfl .refl (Cq rfl (.tail _ (.tail _ (.tail _ (.head _)))) (As.LSub.of_all (n:=12) (Sk K0) rfl) (by exact Ba)) (.drop (.drop (.drop (.drop (.drop (Keep.dropL' cs .refl)))))) ⟨rfl,rfl⟩
  rw[Ad he] at hR;subst hR he;obtain⟨p1,p2⟩:=oT hL;have z2:(toArray (Sk {o with op:=c.op}))[4+(2:Int).toNat*1]?=some (iV o.n2):=rfl;refine Aj ?_;refine M9 (GF (cs:=Sk {o with op:=c.op}) (cs':=Sk {o with op:=c.op,n2:=o.n2+16*cn}) (l':=Cr D::PZ b8 0::BS b5 cn::Il b4 {o with op:=c.op,n2:=o.n2+16*cn}::Il b2 K0::y5 b1 c::(cs++l)) rfl rfl rfl (by exact BW) (by exact .succ (.succ (.succ (.succ (.succ (.succ .zero)))))) (by exact DY)) rfl rfl ?_;rintro _ _ ⟨rfl,rfl⟩;refine Aj ?_;exact AU (vs:=[.agg (toArray (Sk {o with op:=c.op,n2:=o.n2+16*cn})),iV 0]) [D] _ rfl .refl (Cq rfl (.tail _ (.tail _ (.tail _ (.head _)))) (As.LSub.of_all (n:=12) (Sk {o with op:=c.op,n2:=o.n2+16*cn}) rfl) (by exact Ba)) (.drop (.drop (.drop (.drop (.drop (Keep.dropL' cs .refl)))))) ⟨rfl,rfl⟩
def Wp(o:Jt)(i:Nat):Int:=
 match i with
 |1=>o.a
 |2=>o.b
 |4=>o.n0
 |5=>o.n1
 |6=>o.n2
 |7=>o.w
 |8=>o.ms.a
 |9=>o.ms.b
 |10=>o.ms.c
 |11=>o.ms.d
 |_=>0
def I3(o:Jt)(cn:Int)(f:FoT):Int:=match f.at' with
 |none=>cn
 |some i=>Wp o i
theorem db(h:OV f=true)(ha:f.at'=some i):i=1\/i=2\/i=4\/i=5\/i=6\/i=7\/i=8\/i=9\/i=10\/i=11:=by rcases oU h ha with⟨_,h⟩|⟨_,h⟩<;>omega
theorem tE(h:OV f=true):I3 (Hj o cn f x).1 (Hj o cn f x).2 f=x:=by
 unfold I3 Hj;cases ha:f.at' with
 |none=>rfl
 |some i=>rcases db h ha with rfl|rfl|rfl|rfl|rfl|rfl|rfl|rfl|rfl|rfl<;>rfl
theorem y8{g:FoT}(hf:OV f=true)(hg:OV g=true)(He:f.at'≠g.at'):I3 (Hj o cn f x).1 (Hj o cn f x).2 g=I3 o cn g:=by
 unfold I3 Hj;cases ha:f.at' with
 |none=>cases hb:g.at' with
  |none=>exact absurd (ha.trans hb.symm) He
  |some j=>rfl
 |some i=>cases hb:g.at' with
  |none=>rfl
  |some j=>have Wt:i≠j:=λh=>He (by rw[ha,hb,h]);rcases db hf ha with rfl|rfl|rfl|rfl|rfl|rfl|rfl|rfl|rfl|rfl<;>rcases db hg hb with rfl|rfl|rfl|rfl|rfl|rfl|rfl|rfl|rfl|rfl<;>first|rfl|exact absurd rfl Wt
def vP(L:List FoT):Prop:= ∀(i j:Nat) (f g:FoT),L[i]?=some f->L[j]?=some g->f.at'=g.at'->i=j
theorem Xz{c:OU}{L:List FoT}(hd:vP L)(Dm: ∀f,f∈L->OV f=true): ∀(r:List Nat),r.Nodup-> ∀(o:Jt) (cn e:Int) (o':Jt) (uM:Int),XS c L r o cn e=((o',uM),0)->
 e=0/\(∀i,i∈r->match L[i]? with
  |none=>(Hb c).getD i 0=0
  |some f=>I3 o' uM f=(Hb c).getD i 0/\f.le<=(Hb c).getD i 0/\(Hb c).getD i 0<=f.mo)/\(∀(g:FoT) (j:Nat),L[j]?=some g->j∉r->I3 o' uM g=I3 o cn g)
 |[],_,o,cn,e,o',uM,h=>by unfold XS at h;obtain⟨h1,h2⟩:=Prod.mk.inj h;obtain⟨rfl,rfl⟩:=Prod.mk.inj h1;exact⟨h2,λ_ h=>(nomatch h),λ_ _ _ _=>rfl⟩
 |i::r,hn,o,cn,e,o',uM,h=>by
  rw[AP] at hn;obtain⟨hi,hn⟩:=hn;rw[QX] at h;cases hL:L[i]? with
  |none=>
   rw[hL] at h;dsimp only at h;by_cases h0:(Hb c).getD i 0=0
   ·rw[Ad h0] at h;obtain⟨h1,h2,h3⟩:=Xz hd Dm r hn o cn e o' uM h;refine⟨h1,λj hj=>?_,λg j hg hj=>h3 g j hg λhh=>hj (.tail _ hh)⟩;rcases At.1 hj with rfl|hj
    ·rw[hL];exact h0
    ·exact h2 j hj
   ·rw[Ab h0] at h;exact absurd (show(2:Int)=0 from BI Prod.snd h) AX
  |some f=>
   rw[hL] at h;dsimp only at h;have hf:=Dm f (Bc hL);by_cases hb:(Hb c).getD i 0<f.le\/f.mo<(Hb c).getD i 0
   ·rw[Ad hb] at h;exact absurd (Xz hd Dm r hn o cn 3 o' uM h).1 AX
   ·rw[Ab hb] at h;obtain⟨h1,h2,h3⟩:=Xz hd Dm r hn _ _ e o' uM h;refine⟨h1,λj hj=>?_,λg j hg hj=>?_⟩
    ·rcases At.1 hj with rfl|hj
     ·rw[hL];exact⟨(h3 f _ hL hi).trans (tE hf),Af,Af⟩
     ·exact h2 j hj
    ·rw[h3 g j hg λhh=>hj (.tail _ hh)];exact y8 hf (Dm g (Bc hg)) λhh=>hj (by rw[hd i j f g hL hg hh];exact .head _)
theorem tF(o:Jt)(i:Nat)(x:Int)(h:i≠6):(NM o i x).n2=o.n2:=by
 unfold NM
 split<;>first|rfl|exact absurd rfl h
theorem XA{c:OU}{L:List FoT}(hL: ∀f,f∈L->f.at'≠none/\f.at'≠some 6): ∀(r:List Nat) (o:Jt) (cn e:Int),(XS c L r o cn e).1.2=cn/\(XS c L r o cn e).1.1.n2=o.n2
 |[],_,_,_=>⟨rfl,rfl⟩
 |i::r,o,cn,e=>by
  rw[QX];cases h:L[i]? with
  |none=>
   dsimp only
   split
   ·exact XA hL r _ _ _
   ·exact⟨rfl,rfl⟩
  |some f=>
   dsimp only;have hp:(Hj o cn f ((Hb c).getD i 0)).2=cn/\(Hj o cn f ((Hb c).getD i 0)).1.n2=o.n2:=by
    have h9:=hL f (Bc h);unfold Hj;cases ha:f.at' with
    |none=>exact absurd ha h9.1
    |some j=>exact⟨rfl,tF o j _ λhj=>h9.2 (by rw[ha,hj])⟩
   split
   ·exact XA hL r _ _ _
   ·obtain⟨h1,h2⟩:=XA hL r (Hj o cn f ((Hb c).getD i 0)).1 (Hj o cn f ((Hb c).getD i 0)).2 e;exact⟨h1.trans hp.1,h2.trans hp.2⟩
def DcU(o:Jt):Prop:=Lt o.a/\Lt o.b/\Lt o.w
theorem DcU.put(h:DcU o)(hx:Lt x):DcU (Hj o cn f x).1:=by
 obtain⟨h1,h2,h3⟩:=h;unfold Hj;cases f.at' with
 |none=>exact⟨h1,h2,h3⟩
 |some i=>
  dsimp only;unfold NM
  split
  ·exact⟨hx,h2,h3⟩
  ·exact⟨h1,hx,h3⟩
  ·exact⟨h1,h2,h3⟩
  ·exact⟨h1,h2,h3⟩
  ·exact⟨h1,h2,h3⟩
  ·exact⟨h1,h2,hx⟩
  all_goals exact⟨h1,h2,h3⟩
theorem fZ{c:OU}(hc:CL c){L:List FoT}: ∀(r:List Nat) (o:Jt) (cn e:Int),DcU o->DcU (XS c L r o cn e).1.1
 |[],_,_,_,h=>h
 |i::r,o,cn,e,h=>by
  rw[QX];cases L[i]? with
  |none=>
   dsimp only
   split
   ·exact fZ hc r _ _ _ h
   ·exact h
  |some f=>
   dsimp only
   split
   ·exact fZ hc r _ _ _ h
   ·exact fZ hc r _ _ _ (h.put (cZ c hc i))
def oW(L:List FoT):Bool:=decide ((L.map FoT.at').Nodup)
theorem tH(h:oW L=true):vP L:=by
 intro i j f g hf hg he;have hn:(L.map FoT.at').Nodup:=by simpa[oW] using h
 refine(List.getElem?_inj (l:=L.map FoT.at') (by rw[A7];exact(Ay.1 hf).1) hn).1 ?_;rw[A6,A6,hf,hg,BU,BU,he]
theorem oX{op:Int}(h:QV op=some L):oW L=true/\(op≠1->L.all (λf=>f.at' !=none&&f.at' !=some 6)=true)/\(op=1->L=[SY 1,Xw (some 4) 0 15,Xw (some 5) 0 64,SY 2,Xw (some 6) 0 15,Xw none 1 4]):=by
 unfold QV at h;by_cases h0:op=1
 ·rw[Ad h0] at h;obtain rfl:=AZ h;exact⟨by decide,λh=>absurd h0 h,λ_=>rfl⟩
 rw[Ab h0] at h;by_cases h1:op=2
 ·rw[Ad h1] at h;obtain rfl:=AZ h;exact⟨by decide,λ_=>rfl,λh=>absurd h h0⟩
 rw[Ab h1] at h;by_cases h2:op=3
 ·rw[Ad h2] at h;obtain rfl:=AZ h;exact⟨by decide,λ_=>rfl,λh=>absurd h h0⟩
 rw[Ab h2] at h;by_cases h3:op=4\/op=5\/op=12\/op=13
 ·rw[Ad h3] at h;obtain rfl:=AZ h;exact⟨by decide,λ_=>rfl,λh=>absurd h h0⟩
 rw[Ab h3] at h;by_cases h4:op=6\/op=9\/op=11\/op=21\/op=22
 ·rw[Ad h4] at h;obtain rfl:=AZ h;exact⟨by decide,λ_=>rfl,λh=>absurd h h0⟩
 rw[Ab h4] at h;by_cases h5:op=7
 ·rw[Ad h5] at h;obtain rfl:=AZ h;exact⟨by decide,λ_=>rfl,λh=>absurd h h0⟩
 rw[Ab h5] at h;by_cases h6:op=8
 ·rw[Ad h6] at h;obtain rfl:=AZ h;exact⟨by decide,λ_=>rfl,λh=>absurd h h0⟩
 rw[Ab h6] at h;by_cases h7:op=10
 ·rw[Ad h7] at h;obtain rfl:=AZ h;exact⟨by decide,λ_=>rfl,λh=>absurd h h0⟩
 rw[Ab h7] at h;by_cases h8:op=14\/op=15
 ·rw[Ad h8] at h;obtain rfl:=AZ h;exact⟨by decide,λ_=>rfl,λh=>absurd h h0⟩
 rw[Ab h8] at h;by_cases h9:op=16
 ·rw[Ad h9] at h;obtain rfl:=AZ h;exact⟨by decide,λ_=>rfl,λh=>absurd h h0⟩
 rw[Ab h9] at h;by_cases U7:op=17
 ·rw[Ad U7] at h;obtain rfl:=AZ h;exact⟨by decide,λ_=>rfl,λh=>absurd h h0⟩
 rw[Ab U7] at h;by_cases jR:op=18
 ·rw[Ad jR] at h;obtain rfl:=AZ h;exact⟨by decide,λ_=>rfl,λh=>absurd h h0⟩
 rw[Ab jR] at h;by_cases kK:op=19
 ·rw[Ad kK] at h;obtain rfl:=AZ h;exact⟨by decide,λ_=>rfl,λh=>absurd h h0⟩
 rw[Ab kK] at h;by_cases h13:op=20
 ·rw[Ad h13] at h;obtain rfl:=AZ h;exact⟨by decide,λ_=>rfl,λh=>absurd h h0⟩
 rw[Ab h13] at h;by_cases uD:op=23
 ·rw[Ad uD] at h;obtain rfl:=AZ h;exact⟨by decide,λ_=>rfl,λh=>absurd h h0⟩
 rw[Ab uD] at h;cases h
def jn(op:Int)(o:Jt):Jt:=if op=1 then{o with n2:=o.n2%16} else o
def jo(op:Int)(o:Jt):Int:=if op=1 then o.n2/16 else 0
theorem oY(h:(Ct c).2=0): ∃L,QV c.op=some L/\(Ct c).1.op=c.op/\0<=(Ct c).1.n2/\(Ct c).1.n2<=1000/\
 (∀i f,L[i]?=some f->i<6/\OV f=true/\I3 (jn c.op (Ct c).1) (jo c.op (Ct c).1) f=(Hb c).getD i 0/\f.le<=(Hb c).getD i 0/\(Hb c).getD i 0<=f.mo)/\(∀i,i<6->L.length<=i->(Hb c).getD i 0=0):=by
 cases hL:QV c.op with
 |none=>exfalso;unfold Ct at h;rw[hL] at h;exact absurd (show(2:Int)=0 from h) AX
 |some L=>
  refine⟨L,rfl,?_⟩;obtain⟨Dm,Eh⟩:=cY hL;obtain⟨hd,jH,hc2⟩:=oX hL;have AaZ: ∀f,f∈L->OV f=true:=λf hf=>A5.1 Dm f hf;obtain⟨R,hR⟩: ∃R,Ct c=R:=⟨_,rfl⟩
  rw[hR] at h⊢;unfold Ct at hR;rw[hL] at hR;dsimp only at hR;by_cases h1:c.op=1/\Xx c=false
  ·rw[Ad h1] at hR;subst hR;exact absurd (show(2:Int)=0 from h) AX
  rw[Ab h1] at hR;obtain⟨⟨⟨o,cn⟩,e⟩,hq⟩: ∃q,XS c L (List.range 6) K0 0 0=q:=⟨_,rfl⟩
  rw[hq] at hR;unfold fT at hR;dsimp only at hR;by_cases he:e=0
  case neg=>rw[Ab he] at hR;subst hR;exact absurd h he
  rw[Ad he] at hR;subst he;obtain⟨_,h2,h3⟩:=Xz (tH hd) AaZ (List.range 6) List.nodup_range K0 0 0 o cn hq;have hz:¬c.op=1->cn=0/\o.n2=0:=λRB=>by have h9:=XA (c:=c) (L:=L) (λf hf=>by simpa using A5.1 (jH RB) f hf) (List.range 6) K0 0 0;rw[hq] at h9;exact h9
  have hy:c.op=1->(0<=o.n2/\o.n2<=15)/\1<=cn/\cn<=4:=λRB=>by have e1:=hc2 RB;subst e1;have g4:=h2 4 AX;have g5:=h2 5 AX;simp only[Db,Dc,I3,Wp] at g4 g5;omega
  have hx:jn c.op {o with op:=c.op,n2:=o.n2+16*cn}={o with op:=c.op}/\jo c.op {o with op:=c.op,n2:=o.n2+16*cn}=cn:=by
   unfold jn jo;by_cases RB:c.op=1
   ·obtain⟨⟨a1,a2⟩,a3,a4⟩:=hy RB;rw[Ad RB,Ad RB];dsimp only;rw[show(o.n2+16*cn)%16=o.n2 by omega];exact⟨rfl,Af⟩
   ·obtain⟨a1,a2⟩:=hz RB;rw[Ab RB,Ab RB];exact⟨by rw[show o.n2+16*cn=o.n2 by omega],a1.symm⟩
  have hb:0<=o.n2+16*cn/\o.n2+16*cn<=1000:=by
   by_cases RB:c.op=1
   ·have:=hy RB;omega
   ·have:=hz RB;omega
  subst hR;dsimp only;rw[hx.1,hx.2];refine⟨rfl,hb.1,hb.2,λi f hf=>?_,λi hi hl=>?_⟩
  ·have hi:i<L.length:=(Ay.1 hf).1;have h9:=h2 i (Dz.2 Af);rw[hf] at h9;refine⟨Af,AaZ f (Bc hf),?_,h9.2⟩;rw[<-h9.1];unfold I3;cases f.at' with
   |none=>rfl
   |some j=>dsimp only;unfold Wp;split<;>rfl
  ·have h9:=h2 i (Dz.2 hi);rw[Bg hl] at h9;exact h9
theorem vQ(hc:CL c):DcU (Ct c).1:=by
 have hz:DcU K0:=⟨JC,JC,JC⟩
 unfold Ct;cases QV c.op with
 |none=>exact hz
 |some L=>
  dsimp only
  split
  ·exact hz
  ·unfold fT
   split
   ·exact fZ hc _ _ _ _ hz
   ·exact hz
theorem tI{c d e:Bd}{l:Ac}:(A++(a::b::c::d::e::l)).Perm (c::a::b::d::e::(A++l)):=BX
theorem XC{v:Int}(h:Lt v):IntKind.u64.wrap v=v:=by exact MF (Qc h.1 h.2)
theorem oZ(f:FoT)(hf:OV f=true)(X:Jt)(n:Int)(b5 b6:Nat)(hu:Lt (I3 X n f))(l:Ac)(m5:Il b5 X∈l)(m6:BS b6 n∈l):Fn prog 205 [.agg (toArray (U2 b5 b6 f))] l λv l'=>v=Be (I3 X n f)/\l'=l:=by
 cases ha:f.at' with
 |none=>
  have hw:=vO hf ha;have e:U2 b5 b6 f=[Be f.le,Be f.mo,.pointer (some ⟨b6,0,none⟩),.pointer none]:=by unfold U2;rw[hw,ha];rfl
  have g:I3 X n f=n:=by unfold I3;rw[ha]
  rw[g] at hu⊢;rw[e,<-XC hu];rw[XC hu];have h:=ZE f.le f.mo b6 0 (toArray [iV n]) 3 (0,0) n l m6 rfl;rw[XC hu] at h;exact h
 |some i=>
  have g:I3 X n f=Wp X i:=by unfold I3;rw[ha]
  rw[g] at hu⊢;rcases oU hf ha with⟨hw,hi⟩|⟨hw,hi⟩
  ·have e:U2 b5 b6 f=[Be f.le,Be f.mo,.pointer none,.pointer (some ⟨b5,i,none⟩)]:=by unfold U2;rw[hw,ha];rfl
   rw[e];exact oQ f.le f.mo b5 i (toArray (Sk X)) 57 (0,0) (Wp X i) l m5 (by rcases hi with rfl|rfl|rfl|rfl|rfl<;>rfl)
  ·have e:U2 b5 b6 f=[Be f.le,Be f.mo,.pointer (some ⟨b5,i,none⟩),.pointer none]:=by unfold U2;rw[hw,ha];rfl
   rw[e];have h:=ZE f.le f.mo b5 i (toArray (Sk X)) 57 (0,0) (Wp X i) l m5 (by rcases hi with rfl|rfl|rfl|rfl|rfl<;>rfl);rw[XC hu] at h;exact h
instance:EQ prog 57 [some .i64,some .i64,some .i64,some .i64,some .i64,some .i64,some .i64,some .u64,some .u64,some .u64,some .u64,some .u64]:=⟨BA⟩
abbrev cwB(B:Nat)(ws:Ap):Bd:=(B,.cells (toArray ws) 37 (0,0))
abbrev clZ:OU:=⟨0,0,0,0,0,0,0⟩
structure EnW(c:OU)(k:Nat)(ws:Ap):Prop where
 len:ws.length=7
 op:ws[0]?=some (Be c.op)
 ar: ∀j,j<6->ws[1+j]?=some (Be (if j<k then(Hb c).getD j 0 else 0))
theorem EnW.next(h:EnW c k ws)(hk:k<6):EnW c (k+1) (ws.set (1+k) (Be ((Hb c).getD k 0))):=by
 refine⟨by rw[Ce];exact h.len,by rw[Gb Af];exact h.op,λj hj=>?_⟩;by_cases kv:j=k
 ·subst kv;rw[CD (by rw[h.len];omega),Ad Af]
 ·rw[Gb Af,h.ar j hj];by_cases C9:j<k
  ·rw[Ad C9,Ad Af]
  ·rw[Ab C9,Ab Af]
theorem EnW.all(h:EnW c k ws)(hz: ∀i,i<6->k<=i->(Hb c).getD i 0=0):ws=j8 c:=by
 have hj: ∀j,j<6->ws[1+j]?=some (Be ((Hb c).getD j 0)):=λj hj=>by
  rw[h.ar j hj];by_cases C9:j<k
  ·rw[Ad C9]
  ·rw[Ab C9,hz j hj Af]
 have hl:=h.len;have h0:=h.op
 match ws,hl with
 |[a,b,c1,d,e,f,g],_=>have j0:=hj 0 AX;have j1:=hj 1 AX;have j2:=hj 2 AX;have j3:=hj 3 AX;have j4:=hj 4 AX;have j5:=hj 5 AX;simp[Hb] at h0 j0 j1 j2 j3 j4 j5;rw[h0,j0,j1,j2,j3,j4,j5]
theorem dc(c:OU)(hc:CL c)(h0:(Ct c).2=0)(l:Ac):Fn prog 157 [orV (Ct c).1] l λv l'=>v= .tuple #[qk c,iV 0]/\l'=l:=by
 obtain⟨L,hL,RB,P2,Z7,hg,hz⟩:=oY h0;have Aa0:=λl=>UI c hc l;obtain⟨o,ho⟩: ∃o,(Ct c).1=o:=⟨_,rfl⟩
 simp only[ho,h0] at RB P2 Z7 hg Aa0⊢;obtain⟨uq,Eh⟩:=cY hL;obtain⟨p1,p2⟩:=oT hL;obtain⟨X,hX⟩: ∃X,jn c.op o=X:=⟨_,rfl⟩
 obtain⟨n,hn⟩: ∃n,jo c.op o=n:=⟨_,rfl⟩
 rw[hX,hn] at hg;unfold jn at hX;unfold jo at hn;rw[<-RB] at p1 p2 hX hn;have z2:(toArray (Sk o))[4+(2:Int).toNat*1]?=some (iV o.n2):=rfl;refine AN func157 ntmps157 λE=>?_;refine AQ λb1=>?_;refine AQ λb2=>?_;refine AQ λb4=>?_;refine AQ λb5=>?_;refine AQ λb6=>?_;refine QP (α:=Unit) (λ_=>[(1,pV b1),(2,pV b2),(4,pV b4),(5,pV b5),(6,pV b6)]) (λ_=>BS b6 n::Il b5 X::cwB b4 (j8 {clZ with op:=c.op})::cwB b2 (j8 clZ)::Il b1 o::l) (λ_=>True) ?_ ?_
 ·by_cases h1:o.op=1
  ·rw[Ad h1] at hX hn;subst hX hn;refine Aj ?_;refine Cm [10,11] 12 ([Il b1 o]) ?_ (hR:=(UC BW));refine BM ?_;refine Oe (GF (cs:=Sk o) (cs':=Sk {o with n2:=o.n2%16}) (l':=BS b6 0::Il b5 {o with n2:=o.n2%16}::cwB b4 (j8 {clZ with op:=o.op})::cwB b2 (j8 clZ)::Il b1 o::l) rfl rfl rfl (by exact BW) (by exact .succ (.succ (.succ (.succ (.succ (.succ .zero)))))) (by exact DY)) rfl rfl ?_ ?_
   ·rintro _ _ ⟨_,rfl⟩;exact UC BW
   rintro _ _ ⟨rfl,rfl⟩;refine BM ?_;refine Aj ?_;exact Ep () trivial ⟨rfl,rfl,rfl,rfl,rfl,trivial⟩ (by rw[<-RB];exact .refl)
  ·rw[Ab h1] at hX hn;subst hX hn;refine Aj ?_;exact Ep () trivial ⟨rfl,rfl,rfl,rfl,rfl,trivial⟩ (by rw[<-RB];exact .refl)
 rintro- -;refine Aj ?_;refine AS (Az rfl rfl (Wo c.op b5 b6 _)) ?_;rw[hL];rintro _ _ ⟨sl,cs,rfl,NQ,rfl⟩;obtain⟨pp,cap,rfl⟩:=NQ.shape;refine Bs (.of_perm tI) ?_;refine Aj ?_;refine CN (α:=Nat×Ap) (λz=>[(1,pV b1),(2,pV b2),(4,pV b4),(47,.slice pp L.length cap),(48,.int .i64 (L.length:Nat)),(49,.int .i64 z.1)]) (λz=>cwB b4 z.2::BS b6 n::Il b5 X::cwB b2 (j8 clZ)::Il b1 o::(cs++l)) (λz=>z.1<=L.length/\EnW c z.1 z.2) (λz=>L.length-z.1) (0,j8 {clZ with op:=c.op}) ⟨Bp _,rfl,rfl,λj hj=>by
  have:j=0\/j=1\/j=2\/j=3\/j=4\/j=5:=by omega
  rcases this with rfl|rfl|rfl|rfl|rfl|rfl<;>rfl⟩ ⟨rfl,rfl,rfl,rfl,rfl,rfl,trivial⟩ .refl ?_
 rintro⟨k,ws⟩ ⟨hk,hw⟩;simp only at hk hw⊢;by_cases C9:k<L.length
 ·obtain⟨f,hf⟩: ∃f,L[k]?=some f:=⟨_,Al C9⟩
  obtain⟨hk6,hfo2,hgf,_⟩:=hg k f hf;obtain⟨gb,cap2,sp,h2,rfl⟩:=MR NQ Af;cases h2;obtain⟨x1,x2⟩:=fX (k:=4) (enc:=U2 b5 b6) (λ_=>rfl) hf sp;have hu:=cZ c hc k;rw[<-hgf] at hu;have Wx:=hw.next hk6;have hl7:=hw.len;obtain⟨p,q,zB⟩: ∃p q:Option Addr,U2 b5 b6 f=[Be f.le,Be f.mo,.pointer p,.pointer q]:=by unfold U2 foP;cases f.wd<;>cases f.at'<;>exact⟨_,_,rfl⟩
  rw[zB] at x2;have XW:=λl m5 m6=>oZ f hfo2 X n b5 b6 hu l m5 m6;rw[zB] at XW;rw[Cn];refine Aj ?_;refine Bh (Dt rfl (by exact BW) x1 x2) ?_;refine AQ λGd=>?_;refine uS (v:=Be (I3 X n f)) (by refine AL (vs:=[.agg (toArray [Be f.le,Be f.mo,.pointer p,.pointer q])]) rfl rfl λl2 hl=>?_;exact XW l2 (hl _ (by exact BW)) (hl _ (by exact BW))) rfl rfl rfl ?_
  refine Aj ?_;refine M9 (Du (cs:=toArray ws) (T:=37) (off:=1+k*1) (l':=(Gd,_)::(b4,.cells ((toArray ws).setIfInBounds (1+k*1) (Be (I3 X n f))) 37 (0,0))::_) rfl rfl rfl (by exact DY) (by rw[Bv];omega)) rfl rfl ?_;rintro _ _ ⟨rfl,rfl⟩;rw[hgf,Dr,BB];refine Aj ?_;exact BO (k+1,_) ⟨by simp only;omega,Wx⟩ (by simp only;omega) ⟨rfl,rfl,rfl,rfl,rfl,rfl,trivial⟩ (.drop .refl)
 ·obtain rfl:k=L.length:=by omega
  obtain rfl:=hw.all hz;refine Aj ?_;refine Bh (AL (vs:=[qk c]) rfl rfl λl2 hl=>Aa0 l2) ?_;refine AQ λM4=>?_;refine NY (ll rfl rfl (ks:=[some .i64,some .i64,some .i64,some .i64,some .i64,some .i64,some .i64,some .u64,some .u64,some .u64,some .u64,some .u64]) (IA (by rfl))) rfl rfl rfl ?_;refine Aj ?_;exact AU (vs:=[qk c,iV 0]) [] _ rfl .refl (Cq rfl (by exact BW) (As.LSub.of_all (n:=7) (j8 c) rfl) (by exact Ba)) (.drop (.drop (.drop (.drop (.drop (.drop (Keep.dropL' cs .refl))))))) ⟨rfl,rfl⟩
theorem za(hc:CL c)(h0:(Ct c).2=0):OB (Ct c).1:=by obtain⟨L,hL,RB,P2,Z7,hg,_⟩:=oY h0;refine⟨(vQ hc).2.2,λ_=>⟨P2,Z7⟩,λh=>?_⟩;rw[<-RB,h] at hL;obtain rfl:[SY 1,Xw (some 4) 0 2,SY 2]=L:=AZ hL;obtain⟨_,_,h1,h2,h3⟩:=hg 1 _ rfl;rw[<-RB,h] at h1;have e:I3 (jn 19 (Ct c).1) (jo 19 (Ct c).1) (Xw (some 4) 0 2)=(Ct c).1.n0:=rfl;rw[e] at h1;rw[h1];exact⟨h2,h3⟩
def ordE(S:KT)(t:Int)(o:Jt)(x y:Cs):(List Ia×Int)×KT:=match PD S t o x with
 |some r=>r
 |none=>if(Mg S t o x y).1=0 then(([NL t],0),(Mg S t o x y).2) else(([],(Mg S t o x y).1),(Mg S t o x y).2)
def Pr(S:KT)(t:Int)(o:Jt):(List Ia×Int)×KT:=
 if MY S t=false\/¬(Dq S t).st=1 then(([],2),S)
 else if(Ib o.op).1=true/\¬(H9 S t o.a).2=0 then(([],(H9 S t o.a).2),S)
 else if(Ib o.op).2=true/\¬(H9 S t o.b).2=0 then(([],(H9 S t o.b).2),S)
 else ordE S t o (if(Ib o.op).1=true then(H9 S t o.a).1 else(0,0)) (if(Ib o.op).2=true then(H9 S t o.b).1 else(0,0))
section
variable{b:Nat}
theorem tJ(hK:IsK F C (k+8) S p s)(kb:Nat)(hk:PE kb b∈G)(t:Int)(c:OU)(hc:CL c)(h0:(Ct c).2=0):Fn prog 107 [pV kb,.int .i64 t,orV (Ct c).1] (Ax b p s S G) (KN F C b p k (Pr S t (Ct c).1).1.1 (Pr S t (Ct c).1).1.2 (Pr S t (Ct c).1).2 G):=by
 have mr:CF b p∈Ax b p s S G:=mR λ_ h=>h;have mk:PE kb b∈Ax b p s S G:=mG (λ_ h=>h) _ hk;have gk:=za hc h0;obtain⟨⟨_,ha⟩,⟨_,hb⟩,_⟩:=vQ hc;have Aa1:=λl=>dc c hc h0 l;obtain⟨o,ho⟩: ∃o,(Ct c).1=o:=⟨_,rfl⟩
 simp only[ho] at gk ha hb Aa1⊢;obtain⟨R,hR⟩: ∃R,Pr S t o=R:=⟨_,rfl⟩
 rw[hR];unfold Pr at hR;refine AN func107 ntmps107 λE=>?_;refine AQ λb5=>?_;refine EM ?_;refine Aj ?_;refine EM ?_;obtain⟨u,hu⟩: ∃u,Dq S t=u:=⟨_,rfl⟩
 obtain⟨ok,Dm⟩: ∃k,MY S t=k:=⟨_,rfl⟩
 rw[Dm,hu] at hR;try rw[hu,show(Th.findH S.T t).isSome=ok from Dm]
 refine AQ λb8=>?_;refine Bh (AL (vs:=[orV o]) rfl rfl λl2 _=>Aa1 l2) ?_;refine AQ λGd=>?_;have ad1:AD o.a:=⟨ha⟩
 have ad2:AD o.b:=⟨hb⟩
 cases ok with
 |false=>rw[Ad (.inl rfl)] at hR;subst hR;refine Aj ?_;exact F4
 |true=>
 by_cases h1:u.st=1
 case neg=>rw[Ad (.inr h1)] at hR;subst hR;refine Aj ?_;exact F4
 rw[Ab (by simp[h1])] at hR;refine Aj ?_;refine CA (Cu [7,8] 0 9) ?_;refine CE ?_;refine Ij e_alloc (by rintro _ _ ⟨_,_,_,rfl⟩ c hc;exact .tail _ hc) ?_;rintro _ _ ⟨Tb,_,rfl,rfl⟩;refine CE ?_;refine Aj ?_;refine EM ?_;obtain⟨⟨p1,p2⟩,hp⟩: ∃q,Ib o.op=q:=⟨_,rfl⟩
 rw[hp] at hR;try rw[hp]
 dsimp only at hR;simp only[AM,AK,AR];refine Aj ?_;obtain⟨x,hx⟩: ∃x,(if p1=true then(H9 S t o.a).1 else(0,0))=x:=⟨_,rfl⟩
 obtain⟨y,hy⟩: ∃y,(if p2=true then(H9 S t o.b).1 else(0,0))=y:=⟨_,rfl⟩
 rw[hx,hy] at hR;by_cases hf1:p1=true/\¬(H9 S t o.a).2=0
 ·rw[Ad hf1] at hR;subst hR;obtain⟨rfl,uK⟩:=hf1;refine Aj ?_;refine CA (Cu [12] 0 14) ?_;refine CE ?_;simp only[AM,AK,AR];refine Aj ?_;exact F4
 rw[Ab hf1] at hR;refine QP (α:=Unit) (λ_=>[(0,pV kb),(1,iV t),(5,pV b5),(12,pV Tb),(14,.bool p2)]) (λ_=>XR Tb b t o x (0,0)::Il b5 o::Ax b p s S G) (λ_=>True) ?_ ?_
 ·cases p1 with
  |false=>rw[Ab AX] at hx;subst hx;refine Aj ?_;exact Ep () trivial ⟨rfl,rfl,rfl,rfl,rfl,trivial⟩ (by exact AW)
  |true=>
   have uK:(H9 S t o.a).2=0:=by simpa using hf1
   rw[Ad rfl] at hx;refine Aj ?_;refine CA (Cu [12] 0 14) ?_;refine CE ?_;simp only[AM,AK,AR];rw[uK];subst hx;refine Aj ?_;exact Ep () trivial ⟨rfl,rfl,rfl,rfl,rfl,trivial⟩ (by exact AW)
 rintro- -;by_cases hf3:p2=true/\¬(H9 S t o.b).2=0
 ·rw[Ad hf3] at hR;subst hR;obtain⟨rfl,uK⟩:=hf3;refine Aj ?_;refine CA (Cu [12] 0 14) ?_;refine CE ?_;simp only[AM,AK,AR];refine Aj ?_;exact F4
 rw[Ab hf3] at hR;refine Aj ?_;refine QP (α:=Unit) (λ_=>[(0,pV kb),(1,iV t),(12,pV Tb)]) (λ_=>XR Tb b t o x y::Ax b p s S G) (λ_=>True) ?_ ?_
 ·cases p2 with
  |false=>rw[Ab AX] at hy;subst hy;refine Aj ?_;exact Ep () trivial ⟨rfl,rfl,rfl,trivial⟩ (by exact AW)
  |true=>
   have uK:(H9 S t o.b).2=0:=by simpa using hf3
   rw[Ad rfl] at hy;refine Aj ?_;refine CA (Cu [12] 0 14) ?_;refine CE ?_;simp only[AM,AK,AR];rw[uK];subst hy;refine Aj ?_;exact Ep () trivial ⟨rfl,rfl,rfl,trivial⟩ (by exact AW)
 rintro- -;refine Aj ?_;refine Bs (.of_perm (Fi b p s S [XR Tb b t o x y] G)) ?_;refine AS (Az (vs:=[OR b t o x y]) rfl rfl (yU (k:=k+6) hK t o x y)) ?_;unfold ordE at hR;cases hsy:PD S t o x with
 |some r=>rw[hsy] at hR;dsimp only at hR;subst hR;rintro _ _ ⟨sl,cs,s1,L1,rfl,Gc,EC,DO,rfl⟩;obtain⟨L2,P3,Q0⟩:=Hi (b:=b) (p:=p) (s:=s1) (S:=r.2) DO;refine Aj ?_;exact AU (vs:=[sl,iV r.1.2]) [] _ rfl .refl (by exact Ba) (.trans (.of_perm (Q0.append_left cs)) SX) ⟨sl,cs,s1,L2,rfl,Gc,EC.mono Af,P3,rfl⟩
 |none=>
  rw[hsy] at hR;dsimp only at hR;rintro _ _ ⟨rfl,s1,L1,EC,DO,rfl⟩;obtain⟨L2,P3,Q0⟩:=Hi (b:=b) (p:=p) (s:=s1) (S:=S) DO;refine Bs (.of_perm Q0) ?_;rw[Cn];have GQ:CF b p∈Ax b p s1 S L2:=mR λ_ h=>h;have ek:EK prog F C b p 161 [OR b t o x y] (k+8) S k (iV (Mg S t o x y).1) (Mg S t o x y).2:=⟨λs G h=>y0 h t o x y gk⟩
  refine Aj ?_;refine Gi ?_;intro S2 s2 L3 hS2 FW FN HV;rw[<-hS2] at hR;refine Aj ?_;by_cases h9:(Mg S t o x y).1=0
  case neg=>rw[Ab h9] at hR;subst hR;refine Aj ?_;exact F4
  rw[Ad h9] at hR;subst hR;refine Aj ?_;refine AS (FE (ws:=Si (NL t)) (k:=12) rfl rfl rfl AX AX) ?_;rintro _ _ ⟨bn,_,rfl,rfl⟩;refine Aj ?_;exact AU [] _ rfl .refl (by exact Ba) (l':=[Vj bn (NL t)]++Ax b p s2 S2 L3) (by exact AW) ⟨_,_,s2,L3,rfl,⟨rfl,.inr ⟨bn,1,[],rfl,rfl,Bf _,by unfold maxLen;omega,rfl⟩⟩,FW,FN.trans P3,rfl⟩
end
class jp(e:ND):Prop where
 cl:CL e.cl
 va:Lt e.va
 vl:Lt e.vl
abbrev ZI(t co:Int):Ia:=⟨t,co,0,msZ,0,false,0,0,false⟩
def R3(S:KT)(t:Int)(c:OU):(List Ia×Int)×KT:=
 if(Ct c).2=0 then(if(Pr S t (Ct c).1).1.2=0 then(((Pr S t (Ct c).1).1.1,0),(Pr S t (Ct c).1).2) else(([ZI t (Pr S t (Ct c).1).1.2],0),(Pr S t (Ct c).1).2))
 else(([ZI t (Ct c).2],0),S)
def HN(S:KT)(e:ND):(List Ia×Int)×KT:=
 if e.co<0\/(S.K.length:Int)<=e.co then(([],3),S)
 else if MY S (Ee S.U e.co)=false then(([],19),S)
 else if(Dq S (Ee S.U e.co)).hs=true then Rx S e.co
 else if e.kd=3 then Mr S e.co ⟨false,false,e.va,0⟩
 else if e.kd=4 then Mr S e.co ⟨false,true,e.va,e.vl⟩
 else R3 S (Dq S (Ee S.U e.co)).id e.cl
abbrev P0(B:Nat)(e:ND):Bd:=(B,.cells (toArray (Xv e)) 39 (0,0))
def jq(e:ND):Nat:=if e.kd=3\/e.kd=4 then 2 else 8
section
variable{b:Nat}
section
variable{ops:Array Oper}{fr:Fr}{l:Ac}{d f k':Nat}{x:Operand}{xs:List Operand}{vs:Ap}{at_:Array TypeId}{ty:TypeId}{pos:String}{aft:Array Edge}{S':KT}{ns:List Ia}{co:Int}{tbl:List (List Nat)}{sp:FP}{pl:List BG}{gg:Bool}
theorem mkn{Γ:Ac->Ac}(h: ∀G,Fn P f vs (Ax b p s S G) (KN F C b p k' ns co S' G))(hk: ∀sl cs S1 s' L,S1=S'->OwnSl 69 12 sl ns.length (Fx ns) cs->IsK F C k' S1 p s'->Tail L (cs++G)->CF b p∈Ax b p s' S1 L->MP P ro N E ops Q tbl false sp pl ((d,.tuple #[sl,iV co])::fr) ds (Γ (Ax b p s' S1 L)))(hx:ev fr x=some (.func (.func f) #[] #[]):=by rfl)(hy:Sd fr xs=some vs:=by rfl)(hF:Fr1 (Ax b p s S G) l Γ:=by exact eJ)(c:EN P f:=by infer_instance)(hb:Nat.blt d N=true:=by rfl)(ha:(sp.map Prod.fst).all (λq=>FD tbl i q)=true:=by kernel_rfl):MP P ro N E ops Q tbl gg sp ((i,false,⟨some d,.call {callee:= .value x,args:=xs.toArray,argTypes:=at_},ty,pos,aft,none⟩)::pl) fr ds l:=by obtain⟨A,rfl,hA⟩:=hF.eq;refine LJ (Az hx hy (Fn.re (.of_perm (Fi b p s S A G)) (h (A++G)) (K':=λv l'=> ∃sl cs s' L,v= .tuple #[sl,iV co]/\OwnSl 69 12 sl ns.length (Fx ns) cs/\IsK F C k' S' p s'/\Tail L (cs++G)/\l'=Γ (Ax b p s' S' L)) λv l' ⟨sl,cs,s',L,h1,h2,h3,⟨X,h4⟩,h5⟩=>⟨Γ (Ax b p s' S' (X++(cs++G))),?_,sl,cs,s',_,h1,h2,h3,⟨X,rfl⟩,rfl⟩)) (λv l' ⟨sl,cs,s',L,h1,h2,h3,h4,h5⟩=>by rw[h1,h5];exact hk sl cs S' s' L rfl h2 h3 h4 (mR λ_ h=>h)) rfl rfl hb ha;rw[h5,h4,hA];refine .of_perm ?_;unfold Ax;exact BX
end
theorem zb(e:ND)(hK:IsK F C (k+jq e) S p s)(kb:Nat)(hk:PE kb b∈G)(he:jp e):Fn prog 70 [pV kb,NW e] (Ax b p s S G) (KN F C b p k (HN S e).1.1 (HN S e).1.2 (HN S e).2 G):=by
 have mr:CF b p∈Ax b p s S G:=mR λ_ h=>h;have mk:PE kb b∈Ax b p s S G:=mG (λ_ h=>h) _ hk;have JA:=cU hK e.co;have uva:U6 e.va:=⟨he.va⟩
 have uvl:U6 e.vl:=⟨he.vl⟩
 have NP:=he.cl;obtain⟨R,hR⟩: ∃R,HN S e=R:=⟨_,rfl⟩
 rw[hR];unfold HN at hR;refine AN func70 ntmps70 λE=>?_;refine AQ λb3=>?_;by_cases h1:e.co<0
 ·rw[Ad (.inl h1)] at hR;subst hR;refine Cm [] 14 _ ?_ (hR:=(λ_ h=>h));refine BM ?_;refine Aj ?_;exact F4
 refine Cm [] 14 _ ?_ (hR:=(λ_ h=>h));refine BM ?_;refine VI ?_;refine BM ?_;refine VI ?_;refine BM ?_;refine Aj ?_;by_cases h2:(S.K.length:Int)<=e.co
 ·rw[Ad (.inr h2)] at hR;subst hR;refine Aj ?_;exact F4
 rw[Ab Af] at hR;refine Aj ?_;refine CA (Cu [16,17] 0 19) ?_;refine CE ?_;obtain⟨u,hu⟩: ∃u,Dq S (Ee S.U e.co)=u:=⟨_,rfl⟩
 obtain⟨ok,Dm⟩: ∃k,MY S (Ee S.U e.co)=k:=⟨_,rfl⟩
 rw[Dm,hu] at hR;try rw[hu,show(Th.findH S.T (Ee S.U e.co)).isSome=ok from Dm]
 try simp only[AM,AK,AR]
 refine Ij e_alloc (by rintro _ _ ⟨_,_,_,rfl⟩ c hc;exact .tail _ hc) ?_;rintro _ _ ⟨b6,_,rfl,rfl⟩;refine CE ?_;try simp only[AM,AK,AR]
 refine Aj ?_;cases ok with
 |false=>rw[Ad rfl] at hR;subst hR;refine Aj ?_;exact F4
 |true=>
 rw[Ab AX] at hR;have FW:IsK F C (k+2) S p s:=hK.mono (by unfold jq;split<;>omega);cases hhs:u.hs with
 |true=>
  rw[Ad hhs] at hR;subst hR;refine Aj ?_;refine CA (Cu [6] 0 11) ?_;refine CE ?_;refine mkn (vs:=[pV b,.int .i64 e.co]) (λG=>Aco FW e.co) ?_;intro sl cs S1 s1 L1 EG Gc EC DO GQ;refine CE ?_;try simp only[AM,AK,AR]
  refine Aj ?_;obtain⟨L4,hL4,hp4⟩:=Hi (b:=b) (p:=p) (s:=s1) (S:=S1) DO;exact AU [] _ rfl .refl (by exact Ba) (.drop (.drop (.of_perm hp4))) ⟨sl,cs,s1,L4,rfl,Gc,by rw[<-EG];exact EC,hL4,by rw[<-EG]⟩
 |false=>
 rw[Ab (by rw[hhs];decide)] at hR;by_cases h3:e.kd=3
 ·rw[Ad h3] at hR;subst hR;have uL:U6 (⟨false,false,e.va,0⟩:P5).va:=uva;have ww:U6 (⟨false,false,e.va,0⟩:P5).vl:=⟨JC⟩
  refine Aj ?_;refine CA (Cu [9] 0 14) ?_;refine CE ?_;refine mkn (vs:=[pV b,.int .i64 e.co,yS ⟨false,false,e.va,0⟩]) (λG=>oL FW e.co ⟨false,false,e.va,0⟩) ?_;intro sl cs S1 s1 L1 EG Gc EC DO GQ;refine CE ?_;try simp only[AM,AK,AR]
  refine Aj ?_;obtain⟨L4,hL4,hp4⟩:=Hi (b:=b) (p:=p) (s:=s1) (S:=S1) DO;exact AU [] _ rfl .refl (by exact Ba) (.drop (.drop (.of_perm hp4))) ⟨sl,cs,s1,L4,rfl,Gc,by rw[<-EG];exact EC,hL4,by rw[<-EG]⟩
 rw[Ab h3] at hR;by_cases h4:e.kd=4
 ·rw[Ad h4] at hR;subst hR;have uL:U6 (⟨false,true,e.va,e.vl⟩:P5).va:=uva;have ww:U6 (⟨false,true,e.va,e.vl⟩:P5).vl:=uvl;refine Aj ?_;refine CA (Cu [11] 0 16) ?_;refine CE ?_;refine mkn (vs:=[pV b,.int .i64 e.co,yS ⟨false,true,e.va,e.vl⟩]) (λG=>oL FW e.co ⟨false,true,e.va,e.vl⟩) ?_;intro sl cs S1 s1 L1 EG Gc EC DO GQ;refine CE ?_;try simp only[AM,AK,AR]
  refine Aj ?_;obtain⟨L4,hL4,hp4⟩:=Hi (b:=b) (p:=p) (s:=s1) (S:=S1) DO;exact AU [] _ rfl .refl (by exact Ba) (.drop (.drop (.of_perm hp4))) ⟨sl,cs,s1,L4,rfl,Gc,by rw[<-EG];exact EC,hL4,by rw[<-EG]⟩
 rw[Ab h4] at hR;have hK8:IsK F C (k+8) S p s:=hK.mono (by unfold jq;rw[Ab Af];omega);unfold R3 at hR;have qK:=λ(G:Ac) (hk:PE kb b∈G) h0=>tJ (G:=G) hK8 kb hk u.id e.cl NP h0;refine Aj ?_;refine Bh (AL (vs:=[qk e.cl]) rfl rfl λl2 _=>UI e.cl NP l2) ?_;obtain⟨⟨o,d⟩,hd⟩: ∃D,Ct e.cl=D:=⟨_,rfl⟩
 rw[hd] at hR⊢;simp only[hd] at qK;dsimp only at hR⊢;refine AQ λb8=>?_;by_cases h5:d=0
 case neg=>rw[Ab h5] at hR;subst hR;refine Aj ?_;refine AS (FE (ws:=Si (ZI u.id d)) (k:=12) rfl rfl rfl AX AX) ?_;rintro _ _ ⟨bn,_,rfl,rfl⟩;refine Aj ?_;exact AU [] _ rfl .refl (by exact Ba) (l':=[Vj bn (ZI u.id d)]++Ax b p s S G) (by exact AW) ⟨_,_,s,G,rfl,⟨rfl,.inr ⟨bn,1,[],rfl,rfl,Bf _,by unfold maxLen;omega,rfl⟩⟩,hK.mono Af,.nil,rfl⟩
 rw[Ad h5] at hR;have qK:=λG hk=>qK G hk h5;refine Aj ?_;refine Bs (.of_perm (Fi b p s S [Il b8 o,Th.thC b6 {u with hs:=false},P0 b3 e] G)) ?_;refine AS (Az (vs:=[pV kb,.int .i64 u.id,orV o]) rfl rfl (qK _ (Aa _ hk))) ?_;rintro _ _ ⟨sl,cs,s1,L1,rfl,Gc,EC,DO,rfl⟩;obtain⟨q,hq⟩: ∃q,Pr S u.id o=q:=⟨_,rfl⟩
 rw[hq] at hR Gc EC;try rw[hq]
 obtain⟨L2,P3,Q0⟩:=Hi (b:=b) (p:=p) (s:=s1) (S:=q.2) DO;refine Bs (.of_perm (l':=Il b8 o::Th.thC b6 {u with hs:=false}::P0 b3 e::(cs++Ax b p s1 q.2 L2)) ((Q0.append_left cs).trans BX)) ?_;refine Aj ?_;by_cases h6:q.1.2=0
 ·rw[Ad h6] at hR;subst hR;refine Aj ?_;exact CT (vs:=[sl,iV 0]) _ .refl (.drop (.drop (.drop .refl))) ⟨sl,cs,s1,L2,rfl,Gc,EC,P3,rfl⟩
 ·rw[Ab h6] at hR;subst hR;refine Aj ?_;refine AS (FE (ws:=Si (ZI u.id q.1.2)) (k:=12) rfl rfl rfl AX AX) ?_;rintro _ _ ⟨bn,_,rfl,rfl⟩;refine Aj ?_;exact AU [] _ rfl .refl (by exact Ba) (l':=[Vj bn (ZI u.id q.1.2)]++Ax b p s1 q.2 L2) (show Keep (Vj bn (ZI u.id q.1.2)::Il b8 o::Th.thC b6 {u with hs:=false}::P0 b3 e::(cs++Ax b p s1 q.2 L2)) ([Vj bn (ZI u.id q.1.2)]++Ax b p s1 q.2 L2) from A8 ([Il b8 o,Th.thC b6 {u with hs:=false},P0 b3 e]++cs)) ⟨_,_,s1,L2,rfl,⟨rfl,.inr ⟨bn,1,[],rfl,rfl,Bf _,by unfold maxLen;omega,rfl⟩⟩,EC,P3,rfl⟩
end
end Go.Proofs.YtlifcingifodfaaGreat
