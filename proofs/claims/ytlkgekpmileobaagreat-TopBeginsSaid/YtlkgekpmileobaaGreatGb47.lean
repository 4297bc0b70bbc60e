/- Laws that the statement's proof leans on (joined out of several texts). -/
import Derived.Test.YtlkgekpmileobaaGreatGb8
import Derived.Test.YtlkgekpmileobaaGreatGb46
import Derived.Test.YtlkgekpmileobaaGreatGb10
set_option linter.unusedVariables false
set_option linter.unusedSimpArgs false
namespace Go.Proofs.YtlkgekpmileobaaGreat
open Tryz
open Go.RowKit
set_option maxRecDepth 20000
variable{i m:Nat}{l:List Ab}{o:IO}{x:Int}
theorem Z4: ∀{rows:List (List Value)},(∀r,r∈rows->r.length=4)->rows.flatten.length=rows.length*4
 |[],_=>rfl
 |r::rs,h=>by rw[Cl,Ah,h r (.head _),Z4 λx hx=>h x (.tail _ hx),Bi];omega
theorem EL{gb n:Nat}{rows:List (List Value)}(hn:rows.length=n)(hr: ∀r,r∈rows->r.length=4)(h:n<=100):OwnSl 184 4 (.slice (some ⟨gb,0,none⟩) n n) n rows.flatten [HQ gb rows.flatten]:=by have hl:=Z4 hr;rw[hn] at hl;exact⟨hl,.inr ⟨gb,n,[],rfl,by rw[Be],A5 _,by unfold maxLen;omega,by rw[Be];exact hl⟩⟩
theorem HR(a b c:Ab):Keep (a::b::c::l) ([a]++l):=AY [b,c]
theorem nk(a b c:Ab){c2:List Ab}:Keep (c2++([a]++(b::c::l))) (c2++l):=AY [a,b,c]
theorem il(bo:Nat): ∀u,u∈(U4 bo).flatten->u.oneCell'=true:=λu hu=>by have h:(U4 bo).flatten.all (λu=>u.oneCell')=true:=rfl;exact A6.1 h u hu
def vX(bo bc:Nat)(l:List Ab)(R:Option (List FoT)):Value->List Ab->Prop:=λv l'=>match R with
 |none=>v= .tuple #[.slice none 0 0,.bool false]/\l'=l
 |some L=> ∃sl cs,v= .tuple #[sl,.bool true]/\OwnSl 184 4 sl L.length (L.flatMap (St bo bc)) cs/\l'=cs++l
set_option maxHeartbeats 4000000 in
theorem T7(op:Int)(bo bc:Nat)(l:List Ab):Fn prog 81 [Ba op,.pointer (some ⟨bo,0,none⟩),.pointer (some ⟨bc,0,none⟩)] l (vX bo bc l (OY op)):=by
 obtain⟨R,hR⟩: ∃R,OY op=R:=⟨_,rfl⟩
 rw[hR];unfold OY at hR;refine AO func81 ntmps81 λE=>?_;refine Aj ?_;refine PR (α:=Nat×Nat) (λz=>[(0,Ba op),(1,.pointer (some ⟨bo,0,none⟩)),(2,.pointer (some ⟨bc,0,none⟩)),(6,.slice none 0 0),(7,.bool false),(8,pV z.1),(9,pV z.2)]) (λz=>[HQ z.1 (Cz bo 1),HQ z.2 (Cz bo 2)]++l) (λ_=>True) ?_ ?_
 ·refine Kk [(0,true),(1,true),(2,true),(3,true),(4,true),(5,true),(6,true),(7,true),(8,false),(9,false),(10,false),(11,false)] [[],[0],[0,1],[0,1,2],[],[4],[4,5],[0,1,2,3,4,5,6],[],[],[0,1,2,3,4,5,6,7,8,9],[0,1,2,3,4,5,6,7,8,9,10]] 8 9 ([]) Bv Bv Gh Sn ?_;refine BI ?_;refine Tf ?_;refine BI ?_;refine Tf ?_;refine BI ?_;refine Mv [(9,false),(8,false),(10,false),(11,false)] Gh (List.Perm.swap _ _ _) Bv ?_ ?_;all_goals
   refine CE e_alloc rfl rfl rfl ?_ ?_
   ·rintro _ _ ⟨_,_,_,rfl⟩ c hc;cases hc
   rintro _ _ ⟨u,_,rfl,rfl⟩;refine CE e_alloc rfl rfl rfl ?_ ?_
   ·rintro _ _ ⟨_,_,_,rfl⟩ c hc;cases hc
   rintro _ _ ⟨v,_,rfl,rfl⟩;refine BI ?_
   first
    |exact D8 (u,v) trivial ⟨rfl,rfl,rfl,rfl,rfl,rfl,rfl,trivial⟩ (.of_perm (.swap _ _ _))
    |exact D8 (v,u) trivial ⟨rfl,rfl,rfl,rfl,rfl,rfl,rfl,trivial⟩ .refl
 rintro⟨b8,b9⟩-;simp only[Ad,Ag];refine Aj ?_;by_cases e1:op=1
 ·rw[Ae Af] at hR;subst hR;refine Aj ?_;refine Ch (Cf [19] 0 22) ?_;refine Ci ?_;refine Ju (Dy (k:=4) (n:=6) (e:=184) (zs:=O6) (cs:=([Cz bo 1,Fg bo 4 0 15,Fg bo 5 0 64,Cz bo 2,Fg bo 6 0 15,Fg bc 0 1 4]:List (List Value)).flatten) (pvs:=Ef 0 [Cz bo 1,Fg bo 4 0 15,Fg bo 5 0 64,Cz bo 2,Fg bo 6 0 15,Fg bc 0 1 4]) rfl AW AW rfl (D6 [Cz bo 1,Fg bo 4 0 15,Fg bo 5 0 64,Cz bo 2,Fg bo 6 0 15,Fg bc 0 1 4] (CI rfl))) ?_;rintro _ _ ⟨gb,hgb,rfl,rfl⟩;refine Ci ?_;refine Aj ?_;exact AU (vs:=[.slice (some ⟨gb,0,none⟩) 6 6,.bool true]) (l':=[HQ gb ([Cz bo 1,Fg bo 4 0 15,Fg bo 5 0 64,Cz bo 2,Fg bo 6 0 15,Fg bc 0 1 4]:List (List Value)).flatten]++l) [] _ rfl .refl (by exact A7) (.trans (.of_perm (.refl _)) (HR _ _ _)) ⟨_,[HQ gb ([Cz bo 1,Fg bo 4 0 15,Fg bo 5 0 64,Cz bo 2,Fg bo 6 0 15,Fg bc 0 1 4]:List (List Value)).flatten],rfl,EL (rows:=[Cz bo 1,Fg bo 4 0 15,Fg bo 5 0 64,Cz bo 2,Fg bo 6 0 15,Fg bc 0 1 4]) rfl (CI rfl) AW,rfl⟩
 rw[Ac Af] at hR;by_cases e2:op=2
 ·rw[Ae Af] at hR;subst hR;refine Aj ?_;refine Ch (Cf [7] 0 10) ?_;refine Ci ?_;refine Ju (Dy (k:=4) (n:=3) (e:=184) (zs:=O6) (cs:=([Cz bo 1,Cz bo 2,Fg bo 4 0 7]:List (List Value)).flatten) (pvs:=Ef 0 [Cz bo 1,Cz bo 2,Fg bo 4 0 7]) rfl AW AW rfl (D6 [Cz bo 1,Cz bo 2,Fg bo 4 0 7] (CI rfl))) ?_;rintro _ _ ⟨gb,hgb,rfl,rfl⟩;refine Ci ?_;refine Aj ?_;exact AU (vs:=[.slice (some ⟨gb,0,none⟩) 3 3,.bool true]) (l':=[HQ gb ([Cz bo 1,Cz bo 2,Fg bo 4 0 7]:List (List Value)).flatten]++l) [] _ rfl .refl (by exact A7) (.trans (.of_perm (.refl _)) (HR _ _ _)) ⟨_,[HQ gb ([Cz bo 1,Cz bo 2,Fg bo 4 0 7]:List (List Value)).flatten],rfl,EL (rows:=[Cz bo 1,Cz bo 2,Fg bo 4 0 7]) rfl (CI rfl) AW,rfl⟩
 rw[Ac Af] at hR;by_cases e3:op=3
 ·rw[Ae Af] at hR;subst hR;refine Aj ?_;refine Ch (Cf [11] 0 14) ?_;refine Ci ?_;refine Ju (Dy (k:=4) (n:=4) (e:=184) (zs:=O6) (cs:=([Cz bo 1,Cz bo 2,Fg bo 4 0 7,Su bo 7]:List (List Value)).flatten) (pvs:=Ef 0 [Cz bo 1,Cz bo 2,Fg bo 4 0 7,Su bo 7]) rfl AW AW rfl (D6 [Cz bo 1,Cz bo 2,Fg bo 4 0 7,Su bo 7] (CI rfl))) ?_;rintro _ _ ⟨gb,hgb,rfl,rfl⟩;refine Ci ?_;refine Aj ?_;exact AU (vs:=[.slice (some ⟨gb,0,none⟩) 4 4,.bool true]) (l':=[HQ gb ([Cz bo 1,Cz bo 2,Fg bo 4 0 7,Su bo 7]:List (List Value)).flatten]++l) [] _ rfl .refl (by exact A7) (.trans (.of_perm (.refl _)) (HR _ _ _)) ⟨_,[HQ gb ([Cz bo 1,Cz bo 2,Fg bo 4 0 7,Su bo 7]:List (List Value)).flatten],rfl,EL (rows:=[Cz bo 1,Cz bo 2,Fg bo 4 0 7,Su bo 7]) rfl (CI rfl) AW,rfl⟩
 rw[Ac Af] at hR;by_cases e4:op=4
 ·rw[Ae Af] at hR;subst hR;refine Aj ?_;refine AS (Dy (k:=4) (n:=2) (e:=184) (zs:=O6) (cs:=([Cz bo 1,Cz bo 2]:List (List Value)).flatten) (pvs:=Ef 0 [Cz bo 1,Cz bo 2]) rfl AW AW rfl (D6 [Cz bo 1,Cz bo 2] (CI rfl))) ?_;rintro _ _ ⟨gb,hgb,rfl,rfl⟩;refine Aj ?_;exact AU (vs:=[.slice (some ⟨gb,0,none⟩) 2 2,.bool true]) (l':=[HQ gb ([Cz bo 1,Cz bo 2]:List (List Value)).flatten]++l) [] _ rfl .refl (by exact A7) (.trans (.of_perm (.refl _)) (HR _ _ _)) ⟨_,[HQ gb ([Cz bo 1,Cz bo 2]:List (List Value)).flatten],rfl,EL (rows:=[Cz bo 1,Cz bo 2]) rfl (CI rfl) AW,rfl⟩
 by_cases e5:op=5
 ·rw[Ae Af] at hR;subst hR;refine Aj ?_;refine AS (Dy (k:=4) (n:=2) (e:=184) (zs:=O6) (cs:=([Cz bo 1,Cz bo 2]:List (List Value)).flatten) (pvs:=Ef 0 [Cz bo 1,Cz bo 2]) rfl AW AW rfl (D6 [Cz bo 1,Cz bo 2] (CI rfl))) ?_;rintro _ _ ⟨gb,hgb,rfl,rfl⟩;refine Aj ?_;exact AU (vs:=[.slice (some ⟨gb,0,none⟩) 2 2,.bool true]) (l':=[HQ gb ([Cz bo 1,Cz bo 2]:List (List Value)).flatten]++l) [] _ rfl .refl (by exact A7) (.trans (.of_perm (.refl _)) (HR _ _ _)) ⟨_,[HQ gb ([Cz bo 1,Cz bo 2]:List (List Value)).flatten],rfl,EL (rows:=[Cz bo 1,Cz bo 2]) rfl (CI rfl) AW,rfl⟩
 by_cases e12:op=12
 ·rw[Ae Af] at hR;subst hR;refine Aj ?_;refine AS (Dy (k:=4) (n:=2) (e:=184) (zs:=O6) (cs:=([Cz bo 1,Cz bo 2]:List (List Value)).flatten) (pvs:=Ef 0 [Cz bo 1,Cz bo 2]) rfl AW AW rfl (D6 [Cz bo 1,Cz bo 2] (CI rfl))) ?_;rintro _ _ ⟨gb,hgb,rfl,rfl⟩;refine Aj ?_;exact AU (vs:=[.slice (some ⟨gb,0,none⟩) 2 2,.bool true]) (l':=[HQ gb ([Cz bo 1,Cz bo 2]:List (List Value)).flatten]++l) [] _ rfl .refl (by exact A7) (.trans (.of_perm (.refl _)) (HR _ _ _)) ⟨_,[HQ gb ([Cz bo 1,Cz bo 2]:List (List Value)).flatten],rfl,EL (rows:=[Cz bo 1,Cz bo 2]) rfl (CI rfl) AW,rfl⟩
 by_cases e13:op=13
 ·rw[Ae Af] at hR;subst hR;refine Aj ?_;refine AS (Dy (k:=4) (n:=2) (e:=184) (zs:=O6) (cs:=([Cz bo 1,Cz bo 2]:List (List Value)).flatten) (pvs:=Ef 0 [Cz bo 1,Cz bo 2]) rfl AW AW rfl (D6 [Cz bo 1,Cz bo 2] (CI rfl))) ?_;rintro _ _ ⟨gb,hgb,rfl,rfl⟩;refine Aj ?_;exact AU (vs:=[.slice (some ⟨gb,0,none⟩) 2 2,.bool true]) (l':=[HQ gb ([Cz bo 1,Cz bo 2]:List (List Value)).flatten]++l) [] _ rfl .refl (by exact A7) (.trans (.of_perm (.refl _)) (HR _ _ _)) ⟨_,[HQ gb ([Cz bo 1,Cz bo 2]:List (List Value)).flatten],rfl,EL (rows:=[Cz bo 1,Cz bo 2]) rfl (CI rfl) AW,rfl⟩
 rw[Ac Af] at hR;by_cases e6:op=6
 ·rw[Ae Af] at hR;subst hR;refine Aj ?_;refine AS (Dy (k:=4) (n:=1) (e:=184) (zs:=O6) (cs:=([Cz bo 1]:List (List Value)).flatten) (pvs:=Ef 0 [Cz bo 1]) rfl AW AW rfl (D6 [Cz bo 1] (CI rfl))) ?_;rintro _ _ ⟨gb,hgb,rfl,rfl⟩;refine Aj ?_;exact AU (vs:=[.slice (some ⟨gb,0,none⟩) 1 1,.bool true]) (l':=[HQ gb ([Cz bo 1]:List (List Value)).flatten]++l) [] _ rfl .refl (by exact A7) (.trans (.of_perm (.refl _)) (HR _ _ _)) ⟨_,[HQ gb ([Cz bo 1]:List (List Value)).flatten],rfl,EL (rows:=[Cz bo 1]) rfl (CI rfl) AW,rfl⟩
 by_cases e9:op=9
 ·rw[Ae Af] at hR;subst hR;refine Aj ?_;refine AS (Dy (k:=4) (n:=1) (e:=184) (zs:=O6) (cs:=([Cz bo 1]:List (List Value)).flatten) (pvs:=Ef 0 [Cz bo 1]) rfl AW AW rfl (D6 [Cz bo 1] (CI rfl))) ?_;rintro _ _ ⟨gb,hgb,rfl,rfl⟩;refine Aj ?_;exact AU (vs:=[.slice (some ⟨gb,0,none⟩) 1 1,.bool true]) (l':=[HQ gb ([Cz bo 1]:List (List Value)).flatten]++l) [] _ rfl .refl (by exact A7) (.trans (.of_perm (.refl _)) (HR _ _ _)) ⟨_,[HQ gb ([Cz bo 1]:List (List Value)).flatten],rfl,EL (rows:=[Cz bo 1]) rfl (CI rfl) AW,rfl⟩
 by_cases e11:op=11
 ·rw[Ae Af] at hR;subst hR;refine Aj ?_;refine AS (Dy (k:=4) (n:=1) (e:=184) (zs:=O6) (cs:=([Cz bo 1]:List (List Value)).flatten) (pvs:=Ef 0 [Cz bo 1]) rfl AW AW rfl (D6 [Cz bo 1] (CI rfl))) ?_;rintro _ _ ⟨gb,hgb,rfl,rfl⟩;refine Aj ?_;exact AU (vs:=[.slice (some ⟨gb,0,none⟩) 1 1,.bool true]) (l':=[HQ gb ([Cz bo 1]:List (List Value)).flatten]++l) [] _ rfl .refl (by exact A7) (.trans (.of_perm (.refl _)) (HR _ _ _)) ⟨_,[HQ gb ([Cz bo 1]:List (List Value)).flatten],rfl,EL (rows:=[Cz bo 1]) rfl (CI rfl) AW,rfl⟩
 by_cases e21:op=21
 ·rw[Ae Af] at hR;subst hR;refine Aj ?_;refine AS (Dy (k:=4) (n:=1) (e:=184) (zs:=O6) (cs:=([Cz bo 1]:List (List Value)).flatten) (pvs:=Ef 0 [Cz bo 1]) rfl AW AW rfl (D6 [Cz bo 1] (CI rfl))) ?_;rintro _ _ ⟨gb,hgb,rfl,rfl⟩;refine Aj ?_;exact AU (vs:=[.slice (some ⟨gb,0,none⟩) 1 1,.bool true]) (l':=[HQ gb ([Cz bo 1]:List (List Value)).flatten]++l) [] _ rfl .refl (by exact A7) (.trans (.of_perm (.refl _)) (HR _ _ _)) ⟨_,[HQ gb ([Cz bo 1]:List (List Value)).flatten],rfl,EL (rows:=[Cz bo 1]) rfl (CI rfl) AW,rfl⟩
 by_cases e22:op=22
 ·rw[Ae Af] at hR;subst hR;refine Aj ?_;refine AS (Dy (k:=4) (n:=1) (e:=184) (zs:=O6) (cs:=([Cz bo 1]:List (List Value)).flatten) (pvs:=Ef 0 [Cz bo 1]) rfl AW AW rfl (D6 [Cz bo 1] (CI rfl))) ?_;rintro _ _ ⟨gb,hgb,rfl,rfl⟩;refine Aj ?_;exact AU (vs:=[.slice (some ⟨gb,0,none⟩) 1 1,.bool true]) (l':=[HQ gb ([Cz bo 1]:List (List Value)).flatten]++l) [] _ rfl .refl (by exact A7) (.trans (.of_perm (.refl _)) (HR _ _ _)) ⟨_,[HQ gb ([Cz bo 1]:List (List Value)).flatten],rfl,EL (rows:=[Cz bo 1]) rfl (CI rfl) AW,rfl⟩
 rw[Ac Af] at hR;by_cases e7:op=7
 ·rw[Ae Af] at hR;subst hR;refine Aj ?_;refine Ch (Cf [6] 0 9) ?_;refine Ci ?_;refine Ju (Dy (k:=4) (n:=2) (e:=184) (zs:=O6) (cs:=([Cz bo 1,Fg bo 4 1 64]:List (List Value)).flatten) (pvs:=Ef 0 [Cz bo 1,Fg bo 4 1 64]) rfl AW AW rfl (D6 [Cz bo 1,Fg bo 4 1 64] (CI rfl))) ?_;rintro _ _ ⟨gb,hgb,rfl,rfl⟩;refine Ci ?_;refine Aj ?_;exact AU (vs:=[.slice (some ⟨gb,0,none⟩) 2 2,.bool true]) (l':=[HQ gb ([Cz bo 1,Fg bo 4 1 64]:List (List Value)).flatten]++l) [] _ rfl .refl (by exact A7) (.trans (.of_perm (.refl _)) (HR _ _ _)) ⟨_,[HQ gb ([Cz bo 1,Fg bo 4 1 64]:List (List Value)).flatten],rfl,EL (rows:=[Cz bo 1,Fg bo 4 1 64]) rfl (CI rfl) AW,rfl⟩
 rw[Ac Af] at hR;by_cases e8:op=8
 ·rw[Ae Af] at hR;subst hR;refine Aj ?_;refine Ch (Cf [6] 0 9) ?_;refine Ci ?_;refine Ju (Dy (k:=4) (n:=3) (e:=184) (zs:=O6) (cs:=([Cz bo 1,Cz bo 2,Su bo 7]:List (List Value)).flatten) (pvs:=Ef 0 [Cz bo 1,Cz bo 2,Su bo 7]) rfl AW AW rfl (D6 [Cz bo 1,Cz bo 2,Su bo 7] (CI rfl))) ?_;rintro _ _ ⟨gb,hgb,rfl,rfl⟩;refine Ci ?_;refine Aj ?_;exact AU (vs:=[.slice (some ⟨gb,0,none⟩) 3 3,.bool true]) (l':=[HQ gb ([Cz bo 1,Cz bo 2,Su bo 7]:List (List Value)).flatten]++l) [] _ rfl .refl (by exact A7) (.trans (.of_perm (.refl _)) (HR _ _ _)) ⟨_,[HQ gb ([Cz bo 1,Cz bo 2,Su bo 7]:List (List Value)).flatten],rfl,EL (rows:=[Cz bo 1,Cz bo 2,Su bo 7]) rfl (CI rfl) AW,rfl⟩
 rw[Ac Af] at hR;by_cases e10:op=10
 ·rw[Ae Af] at hR;subst hR;refine Aj ?_;refine Ch (Cf [11] 0 14) ?_;refine Ci ?_;refine Ju (Dy (k:=4) (n:=4) (e:=184) (zs:=O6) (cs:=([Cz bo 1,Cz bo 2,Su bo 7,Fg bo 4 0 7]:List (List Value)).flatten) (pvs:=Ef 0 [Cz bo 1,Cz bo 2,Su bo 7,Fg bo 4 0 7]) rfl AW AW rfl (D6 [Cz bo 1,Cz bo 2,Su bo 7,Fg bo 4 0 7] (CI rfl))) ?_;rintro _ _ ⟨gb,hgb,rfl,rfl⟩;refine Ci ?_;refine Aj ?_;exact AU (vs:=[.slice (some ⟨gb,0,none⟩) 4 4,.bool true]) (l':=[HQ gb ([Cz bo 1,Cz bo 2,Su bo 7,Fg bo 4 0 7]:List (List Value)).flatten]++l) [] _ rfl .refl (by exact A7) (.trans (.of_perm (.refl _)) (HR _ _ _)) ⟨_,[HQ gb ([Cz bo 1,Cz bo 2,Su bo 7,Fg bo 4 0 7]:List (List Value)).flatten],rfl,EL (rows:=[Cz bo 1,Cz bo 2,Su bo 7,Fg bo 4 0 7]) rfl (CI rfl) AW,rfl⟩
 rw[Ac Af] at hR;by_cases e14:op=14
 ·rw[Ae Af] at hR;subst hR;refine Aj ?_;refine Kk [(0,true),(1,true),(2,true),(3,true),(4,true),(5,true),(7,true),(6,false),(8,false),(9,false),(10,true),(11,true)] [[],[],[1],[1,2],[1,2,3],[1,2,3,4],[0,1,2,3,4,5],[],[1,2,3,4,5,7],[0,1,2,3,4,5,6,7,8],[0,1,2,3,4,5,6,7,8,9],[0,1,2,3,4,5,6,7,8,9,10]] 6 8 ([HQ b8 (Cz bo 1)]) Bv Bv Gh ((SJ BO)) ?_;refine BI ?_;refine Tf ?_;refine BI ?_;refine Mv [(8,false),(6,false),(9,false),(10,true),(11,true)] Gh (List.Perm.swap _ _ _) Bv ?_ ?_
  case' refine_1=>
   refine CE (Dy (k:=4) (n:=2) (e:=184) (zs:=O6) (cs:=([Cz bo 1,Fg bo 4 0 4096]:List (List Value)).flatten) (pvs:=Ef 0 ([Cz bo 1,Fg bo 4 0 4096]:List (List Value))) rfl AW AW rfl (D6 ([Cz bo 1,Fg bo 4 0 4096]:List (List Value)) (CI rfl))) rfl rfl rfl ?_ ?_
   ·rintro _ _ ⟨_,_,_,rfl⟩ c hc;exact .tail _ (SJ BO c hc)
   rintro _ _ ⟨g1,_,rfl,rfl⟩;refine CE (Az rfl rfl (OZ bo _)) rfl rfl rfl ?_ ?_
   ·rintro _ _ ⟨_,_,_,rfl⟩ c hc;exact .tail _ (SJ BO c hc)
   rintro _ _ ⟨g2,_,rfl,rfl⟩
  case' refine_2=>
   refine CE (Az rfl rfl (OZ bo _)) rfl rfl rfl ?_ ?_
   ·rintro _ _ ⟨_,_,_,rfl⟩ c hc;exact .tail _ (SJ BO c hc)
   rintro _ _ ⟨g2,_,rfl,rfl⟩;refine CE (Dy (k:=4) (n:=2) (e:=184) (zs:=O6) (cs:=([Cz bo 1,Fg bo 4 0 4096]:List (List Value)).flatten) (pvs:=Ef 0 ([Cz bo 1,Fg bo 4 0 4096]:List (List Value))) rfl AW AW rfl (D6 ([Cz bo 1,Fg bo 4 0 4096]:List (List Value)) (CI rfl))) rfl rfl rfl ?_ ?_
   ·rintro _ _ ⟨_,_,_,rfl⟩ c hc;exact .tail _ (SJ BO c hc)
   rintro _ _ ⟨g1,_,rfl,rfl⟩
  all_goals
   refine CE (OpE.re (K':=λv l'=> ∃c2,OwnSl 184 4 v (2+4) (([Cz bo 1,Fg bo 4 0 4096]:List (List Value)).flatten++(U4 bo).flatten) c2/\l'=c2++([HQ g2 (U4 bo).flatten]++(HQ b8 (Cz bo 1)::HQ b9 (Cz bo 2)::l))) (by first|exact Keep.of_perm (.swap _ _ _)|exact .refl) (Pr (k:=4) (n:=2) (m:=4) (xs:=([Cz bo 1,Fg bo 4 0 4096]:List (List Value)).flatten) (ys:=(U4 bo).flatten) (zs:=O6) (cs:=[HQ g1 ([Cz bo 1,Fg bo 4 0 4096]:List (List Value)).flatten]) (cw:=[HQ g2 (U4 bo).flatten]) (F:=HQ b8 (Cz bo 1)::HQ b9 (Cz bo 2)::l) rfl rfl rfl (EL (rows:=([Cz bo 1,Fg bo 4 0 4096]:List (List Value))) rfl (CI rfl) AW) (EL (rows:=U4 bo) rfl (CI rfl) AW) (il bo) Af Af AW) (λv l' ⟨c2,h1,h2⟩=>⟨l',.refl,c2,h1,h2⟩)) rfl rfl rfl ?_ ?_
   ·rintro v l' ⟨c2,_,rfl⟩ c hc;exact Aa _ (.tail _ (SJ (.head _) c hc))
   rintro v _ ⟨c2,ho3,rfl⟩;refine BI ?_;refine Aj ?_;exact Cy (vs:=[v,.bool true]) (l':=c2++l) _ .refl (nk _ _ _) ⟨v,c2,rfl,ho3,rfl⟩
 by_cases e15:op=15
 ·rw[Ae Af] at hR;subst hR;refine Aj ?_;refine Kk [(0,true),(1,true),(2,true),(3,true),(4,true),(5,true),(7,true),(6,false),(8,false),(9,false),(10,true),(11,true)] [[],[],[1],[1,2],[1,2,3],[1,2,3,4],[0,1,2,3,4,5],[],[1,2,3,4,5,7],[0,1,2,3,4,5,6,7,8],[0,1,2,3,4,5,6,7,8,9],[0,1,2,3,4,5,6,7,8,9,10]] 6 8 ([HQ b8 (Cz bo 1)]) Bv Bv Gh ((SJ BO)) ?_;refine BI ?_;refine Tf ?_;refine BI ?_;refine Mv [(8,false),(6,false),(9,false),(10,true),(11,true)] Gh (List.Perm.swap _ _ _) Bv ?_ ?_
  case' refine_1=>
   refine CE (Dy (k:=4) (n:=2) (e:=184) (zs:=O6) (cs:=([Cz bo 1,Fg bo 4 0 4096]:List (List Value)).flatten) (pvs:=Ef 0 ([Cz bo 1,Fg bo 4 0 4096]:List (List Value))) rfl AW AW rfl (D6 ([Cz bo 1,Fg bo 4 0 4096]:List (List Value)) (CI rfl))) rfl rfl rfl ?_ ?_
   ·rintro _ _ ⟨_,_,_,rfl⟩ c hc;exact .tail _ (SJ BO c hc)
   rintro _ _ ⟨g1,_,rfl,rfl⟩;refine CE (Az rfl rfl (OZ bo _)) rfl rfl rfl ?_ ?_
   ·rintro _ _ ⟨_,_,_,rfl⟩ c hc;exact .tail _ (SJ BO c hc)
   rintro _ _ ⟨g2,_,rfl,rfl⟩
  case' refine_2=>
   refine CE (Az rfl rfl (OZ bo _)) rfl rfl rfl ?_ ?_
   ·rintro _ _ ⟨_,_,_,rfl⟩ c hc;exact .tail _ (SJ BO c hc)
   rintro _ _ ⟨g2,_,rfl,rfl⟩;refine CE (Dy (k:=4) (n:=2) (e:=184) (zs:=O6) (cs:=([Cz bo 1,Fg bo 4 0 4096]:List (List Value)).flatten) (pvs:=Ef 0 ([Cz bo 1,Fg bo 4 0 4096]:List (List Value))) rfl AW AW rfl (D6 ([Cz bo 1,Fg bo 4 0 4096]:List (List Value)) (CI rfl))) rfl rfl rfl ?_ ?_
   ·rintro _ _ ⟨_,_,_,rfl⟩ c hc;exact .tail _ (SJ BO c hc)
   rintro _ _ ⟨g1,_,rfl,rfl⟩
  all_goals
   refine CE (OpE.re (K':=λv l'=> ∃c2,OwnSl 184 4 v (2+4) (([Cz bo 1,Fg bo 4 0 4096]:List (List Value)).flatten++(U4 bo).flatten) c2/\l'=c2++([HQ g2 (U4 bo).flatten]++(HQ b8 (Cz bo 1)::HQ b9 (Cz bo 2)::l))) (by first|exact Keep.of_perm (.swap _ _ _)|exact .refl) (Pr (k:=4) (n:=2) (m:=4) (xs:=([Cz bo 1,Fg bo 4 0 4096]:List (List Value)).flatten) (ys:=(U4 bo).flatten) (zs:=O6) (cs:=[HQ g1 ([Cz bo 1,Fg bo 4 0 4096]:List (List Value)).flatten]) (cw:=[HQ g2 (U4 bo).flatten]) (F:=HQ b8 (Cz bo 1)::HQ b9 (Cz bo 2)::l) rfl rfl rfl (EL (rows:=([Cz bo 1,Fg bo 4 0 4096]:List (List Value))) rfl (CI rfl) AW) (EL (rows:=U4 bo) rfl (CI rfl) AW) (il bo) Af Af AW) (λv l' ⟨c2,h1,h2⟩=>⟨l',.refl,c2,h1,h2⟩)) rfl rfl rfl ?_ ?_
   ·rintro v l' ⟨c2,_,rfl⟩ c hc;exact Aa _ (.tail _ (SJ (.head _) c hc))
   rintro v _ ⟨c2,ho3,rfl⟩;refine BI ?_;refine Aj ?_;exact Cy (vs:=[v,.bool true]) (l':=c2++l) _ .refl (nk _ _ _) ⟨v,c2,rfl,ho3,rfl⟩
 rw[Ac Af] at hR;by_cases e16:op=16
 ·rw[Ae Af] at hR;subst hR;refine Aj ?_;refine Ch (Cf [6] 0 9) ?_;refine Ci ?_;refine Ju (Dy (k:=4) (n:=2) (e:=184) (zs:=O6) (cs:=([Cz bo 1,Fg bo 4 0 4096]:List (List Value)).flatten) (pvs:=Ef 0 [Cz bo 1,Fg bo 4 0 4096]) rfl AW AW rfl (D6 [Cz bo 1,Fg bo 4 0 4096] (CI rfl))) ?_;rintro _ _ ⟨gb,hgb,rfl,rfl⟩;refine Ci ?_;refine Aj ?_;exact AU (vs:=[.slice (some ⟨gb,0,none⟩) 2 2,.bool true]) (l':=[HQ gb ([Cz bo 1,Fg bo 4 0 4096]:List (List Value)).flatten]++l) [] _ rfl .refl (by exact A7) (.trans (.of_perm (.refl _)) (HR _ _ _)) ⟨_,[HQ gb ([Cz bo 1,Fg bo 4 0 4096]:List (List Value)).flatten],rfl,EL (rows:=[Cz bo 1,Fg bo 4 0 4096]) rfl (CI rfl) AW,rfl⟩
 rw[Ac Af] at hR;by_cases e17:op=17
 ·rw[Ae Af] at hR;subst hR;refine Aj ?_;refine AS (Az rfl rfl (OZ bo _)) ?_;rintro _ _ ⟨gb,hgb,rfl,rfl⟩;refine Aj ?_;exact AU (vs:=[.slice (some ⟨gb,0,none⟩) 4 4,.bool true]) (l':=[HQ gb (U4 bo).flatten]++l) [] _ rfl .refl (by exact A7) (HR _ _ _) ⟨_,[HQ gb (U4 bo).flatten],rfl,EL (rows:=U4 bo) rfl (CI rfl) AW,rfl⟩
 rw[Ac Af] at hR;by_cases e18:op=18
 ·rw[Ae Af] at hR;subst hR;refine Aj ?_;exact Cy (vs:=[.slice none 0 0,.bool true]) _ .refl (.drop (.drop .refl)) ⟨_,[],rfl,OwnSl.nil _ _,rfl⟩
 rw[Ac Af] at hR;by_cases e19:op=19
 ·rw[Ae Af] at hR;subst hR;refine Aj ?_;refine Ch (Cf [7] 0 10) ?_;refine Ci ?_;refine Ju (Dy (k:=4) (n:=3) (e:=184) (zs:=O6) (cs:=([Cz bo 1,Fg bo 4 0 2,Cz bo 2]:List (List Value)).flatten) (pvs:=Ef 0 [Cz bo 1,Fg bo 4 0 2,Cz bo 2]) rfl AW AW rfl (D6 [Cz bo 1,Fg bo 4 0 2,Cz bo 2] (CI rfl))) ?_;rintro _ _ ⟨gb,hgb,rfl,rfl⟩;refine Ci ?_;refine Aj ?_;exact AU (vs:=[.slice (some ⟨gb,0,none⟩) 3 3,.bool true]) (l':=[HQ gb ([Cz bo 1,Fg bo 4 0 2,Cz bo 2]:List (List Value)).flatten]++l) [] _ rfl .refl (by exact A7) (.trans (.of_perm (.refl _)) (HR _ _ _)) ⟨_,[HQ gb ([Cz bo 1,Fg bo 4 0 2,Cz bo 2]:List (List Value)).flatten],rfl,EL (rows:=[Cz bo 1,Fg bo 4 0 2,Cz bo 2]) rfl (CI rfl) AW,rfl⟩
 rw[Ac Af] at hR;by_cases e20:op=20
 ·rw[Ae Af] at hR;subst hR;refine Aj ?_;refine Ch (Cf [6] 0 9) ?_;refine Ci ?_;refine Ju (Dy (k:=4) (n:=2) (e:=184) (zs:=O6) (cs:=([Cz bo 1,Fg bo 4 0 2]:List (List Value)).flatten) (pvs:=Ef 0 [Cz bo 1,Fg bo 4 0 2]) rfl AW AW rfl (D6 [Cz bo 1,Fg bo 4 0 2] (CI rfl))) ?_;rintro _ _ ⟨gb,hgb,rfl,rfl⟩;refine Ci ?_;refine Aj ?_;exact AU (vs:=[.slice (some ⟨gb,0,none⟩) 2 2,.bool true]) (l':=[HQ gb ([Cz bo 1,Fg bo 4 0 2]:List (List Value)).flatten]++l) [] _ rfl .refl (by exact A7) (.trans (.of_perm (.refl _)) (HR _ _ _)) ⟨_,[HQ gb ([Cz bo 1,Fg bo 4 0 2]:List (List Value)).flatten],rfl,EL (rows:=[Cz bo 1,Fg bo 4 0 2]) rfl (CI rfl) AW,rfl⟩
 rw[Ac Af] at hR;by_cases e23:op=23
 ·rw[Ae Af] at hR;subst hR;refine Aj ?_;refine Ch (Cf [6] 0 9) ?_;refine Ci ?_;refine Ju (Dy (k:=4) (n:=2) (e:=184) (zs:=O6) (cs:=([Cz bo 1,Fg bo 4 0 7]:List (List Value)).flatten) (pvs:=Ef 0 [Cz bo 1,Fg bo 4 0 7]) rfl AW AW rfl (D6 [Cz bo 1,Fg bo 4 0 7] (CI rfl))) ?_;rintro _ _ ⟨gb,hgb,rfl,rfl⟩;refine Ci ?_;refine Aj ?_;exact AU (vs:=[.slice (some ⟨gb,0,none⟩) 2 2,.bool true]) (l':=[HQ gb ([Cz bo 1,Fg bo 4 0 7]:List (List Value)).flatten]++l) [] _ rfl .refl (by exact A7) (.trans (.of_perm (.refl _)) (HR _ _ _)) ⟨_,[HQ gb ([Cz bo 1,Fg bo 4 0 7]:List (List Value)).flatten],rfl,EL (rows:=[Cz bo 1,Fg bo 4 0 7]) rfl (CI rfl) AW,rfl⟩
 rw[Ac Af] at hR;subst hR;refine Aj ?_;exact Cy _ .refl (.drop (.drop .refl)) ⟨rfl,rfl⟩
def Gj(c:Nz):List Int:=[c.a0,c.a1,c.a2,c.a3,c.a4,c.a5]
def WP(c:Nz)(gb n m:Nat):List (Int×Value):=(List.range m).map λi:Nat=>((Gj c).getD i 0,if i<n then .pointer (some ⟨gb,i*4,none⟩) else .pointer none)
theorem WQ(c:Nz)(gb n:Nat)(h:i<=m):(WP c gb n m).take i=WP c gb n i:=by unfold WP;rw[<-FA,Ge,DU h]
theorem Sj(c:Nz)(gb n m:Nat):WP c gb n (m+1)=WP c gb n m++[((Gj c).getD m 0,if m<n then .pointer (some ⟨gb,m*4,none⟩) else .pointer none)]:=by unfold WP;rw[Cs,Ap];rfl
theorem Z5(c:Nz)(gb n:Nat)(h:i<m):WP c gb n i++[((Gj c).getD i 0,if i<n then .pointer (some ⟨gb,i*4,none⟩) else .pointer none)]<+:WP c gb n m:=by rw[<-Sj,<-WQ c gb n (show i+1<=m by omega)];exact BD _ _
abbrev vY(x:Int×Value):List Value:=[Ba x.1,x.2]
abbrev pG(B:Nat)(c:Nz):Ab:=(B,.cells (List.toArray (dh c)) 37 (0,0))
abbrev ui(B:Nat)(v:Value):Ab:=(B,.cells (List.toArray [v]) 173 (0,0))
theorem cM(c:Nz)(v:Value)(hv:v.oneCell'=true)(l:List Ab):Fn prog 83 [iX c,v] l λv' l'=> ∃B1 B2,v'= .func (.func 126) #[] #[pV B1,pV B2]/\l'=ui B2 v::pG B1 c::l:=by refine AO func83 ntmps83 λE=>?_;refine AQ λb1=>?_;refine AS (DZ rfl hv) ?_;rintro _ _ ⟨b2,_,rfl,rfl⟩;refine Aj ?_;exact A8 .refl ⟨_,_,rfl,rfl⟩
theorem YA(B1 B2 gb n cap:Nat)(pp:Option Addr)(c:Nz)(hp:0<n->pp=some ⟨gb,0,none⟩)(hn:n<=100):
 E2 prog 126 [pV B1,pV B2] vY (λxs=>xs=WP c gb n 6) (λpre=>pre<+:WP c gb n 6) (λ_ l=>pG B1 c∈l/\ui B2 (.slice pp n cap)∈l):=by
 refine⟨λr I Ix G0 hneed hY l G hG h0=>?_⟩;obtain⟨n1,n2⟩:=hneed _ _ G hG h0;refine AO func126 ntmps126 λE=>?_;refine Aj ?_;refine Cu (α:=Nat×List Ab) (λx=>[(0,.func (.yield r) #[] #[]),(1,pV B1),(2,pV B2),(8,.agg (List.toArray [Ba c.a0,Ba c.a1,Ba c.a2,Ba c.a3,Ba c.a4,Ba c.a5])),(9,.int .i64 x.1)]) (λx=>x.2++G) (λx=>x.1<=6/\I (WP c gb n x.1) x.2) (λx=>6-x.1) (0,l) ⟨Bf _,h0⟩ ⟨rfl,rfl,rfl,rfl,rfl,trivial⟩ .refl ?_;clear n1 n2;rintro⟨k,l⟩ ⟨hk,hI⟩;simp only at hk hI⊢;obtain⟨n1,n2⟩:=hneed _ _ G hG hI;by_cases hlt:k<6
 ·have hy:=hY (WP c gb n k) _ l G hG hI (Z5 c gb n hlt);obtain⟨w,hw⟩: ∃w,(Gj c).getD k 0=w:=⟨_,rfl⟩
  obtain⟨q,hq⟩: ∃q:Value,(if k<n then .pointer (some ⟨gb,k*4,none⟩) else .pointer none)=q:=⟨_,rfl⟩
  have hp2:=Z5 c gb n hlt;rw[hw,hq] at hy hp2;have hs:WP c gb n (k+1)=WP c gb n k++[(w,q)]:=by rw[Sj,hw,hq]
  have hv:(List.toArray [Ba c.a0,Ba c.a1,Ba c.a2,Ba c.a3,Ba c.a4,Ba c.a5])[k]?=some (Ba w):=by
   rw[<-hw];have:k=0\/k=1\/k=2\/k=3\/k=4\/k=5:=by omega
   rcases this with rfl|rfl|rfl|rfl|rfl|rfl<;>rfl
  refine Aj ?_;refine l6 (v:=Ba w) (by refine UY (m:=k) rfl rfl rfl hlt hv) rfl rfl rfl ?_;by_cases hkn:k<n
  case' pos=>
   obtain rfl:=hp Af;rw[Ae hkn] at hq;subst hq;refine Aj ?_
  case' neg=>
   rw[Ac hkn] at hq;subst hq;refine Aj ?_
  all_goals
   refine AS (CK rfl rfl hy) ?_;rintro v l' ⟨l1,rfl,⟨rfl,hI'⟩|⟨rfl,hx⟩⟩
   ·rw[<-hs] at hI';refine Aj ?_;exact BS (k+1,l1) ⟨by simp only;omega,hI'⟩ (by simp only;omega) ⟨rfl,rfl,rfl,rfl,rfl,trivial⟩ .refl
   ·refine Aj ?_;exact A8 .refl ⟨l1,rfl,.inr ⟨_,hp2,hx⟩⟩
 ·obtain rfl:k=6:=by omega
  refine Aj ?_;exact A8 .refl ⟨l,rfl,.inl ⟨_,rfl,hI⟩⟩
abbrev Jz:IO:=⟨0,0,0,0,0,0,0,0,⟨0,0,0,0⟩⟩
def Mb(o:IO)(i:Nat)(x:Int):IO:=
 match i with
 |1=>{o with a:=x}
 |2=>{o with b:=x}
 |4=>{o with n0:=x}
 |5=>{o with n1:=x}
 |6=>{o with n2:=x}
 |7=>{o with w:=x}
 |8=>{o with ms:={o.ms with a:=x}}
 |9=>{o with ms:={o.ms with b:=x}}
 |10=>{o with ms:={o.ms with c:=x}}
 |11=>{o with ms:={o.ms with d:=x}}
 |_=>o
theorem lF(h:i=1\/i=2\/i=4\/i=5\/i=6):P7 (Mb o i x)=(P7 o).set i (iV x):=by rcases h with rfl|rfl|rfl|rfl|rfl<;>rfl
theorem lG(h:i=7\/i=8\/i=9\/i=10\/i=11):P7 (Mb o i x)=(P7 o).set i (Ba x):=by rcases h with rfl|rfl|rfl|rfl|rfl<;>rfl
def Gt(o:IO)(cn:Int)(f:FoT)(x:Int):IO×Int:=match f.at' with
 |none=>(o,x)
 |some i=>(Mb o i x,cn)
def Vj(c:Nz)(L:List FoT):List Nat->IO->Int->Int->(IO×Int)×Int
 |[],o,cn,e=>((o,cn),e)
 |i::r,o,cn,e=>match L[i]? with
  |none=>if(Gj c).getD i 0=0 then Vj c L r o cn e else((o,cn),2)
  |some f=>if(Gj c).getD i 0<f.le\/f.mo<(Gj c).getD i 0 then Vj c L r o cn 3 else Vj c L r (Gt o cn f ((Gj c).getD i 0)).1 (Gt o cn f ((Gj c).getD i 0)).2 e
def Z6(c:Nz)(q:(IO×Int)×Int):IO×Int:=if q.2=0 then({q.1.1 with op:=c.op,n2:=q.1.1.n2+16*q.1.2},0) else(Jz,q.2)
def CF(c:Nz):IO×Int:=match OY c.op with
 |none=>(Jz,2)
 |some L=>if c.op=1/\U3 c=false then(Jz,2) else Z6 c (Vj c L (List.range 6) Jz 0 0)
def M8(f:FoT):Bool:=match f.at' with
 |none=>!f.wd&&decide (0<=f.le)&&decide (f.mo<=1000000)
 |some i=>if f.wd=true then[7,8,9,10,11].contains i else[1,2,4,5,6].contains i&&decide (0<=f.le)&&decide (f.mo<=1000000)
theorem YB{op:Int}{L:List FoT}(h:OY op=some L):L.all M8=true/\L.length<=6:=by
 unfold OY at h;by_cases h0:op=1
 ·rw[Ae h0] at h;obtain rfl:=AV h;exact⟨rfl,by decide⟩
 rw[Ac h0] at h;by_cases h1:op=2
 ·rw[Ae h1] at h;obtain rfl:=AV h;exact⟨rfl,by decide⟩
 rw[Ac h1] at h;by_cases h2:op=3
 ·rw[Ae h2] at h;obtain rfl:=AV h;exact⟨rfl,by decide⟩
 rw[Ac h2] at h;by_cases h3:op=4\/op=5\/op=12\/op=13
 ·rw[Ae h3] at h;obtain rfl:=AV h;exact⟨rfl,by decide⟩
 rw[Ac h3] at h;by_cases h4:op=6\/op=9\/op=11\/op=21\/op=22
 ·rw[Ae h4] at h;obtain rfl:=AV h;exact⟨rfl,by decide⟩
 rw[Ac h4] at h;by_cases h5:op=7
 ·rw[Ae h5] at h;obtain rfl:=AV h;exact⟨rfl,by decide⟩
 rw[Ac h5] at h;by_cases h6:op=8
 ·rw[Ae h6] at h;obtain rfl:=AV h;exact⟨rfl,by decide⟩
 rw[Ac h6] at h;by_cases h7:op=10
 ·rw[Ae h7] at h;obtain rfl:=AV h;exact⟨rfl,by decide⟩
 rw[Ac h7] at h;by_cases h8:op=14\/op=15
 ·rw[Ae h8] at h;obtain rfl:=AV h;exact⟨rfl,by decide⟩
 rw[Ac h8] at h;by_cases h9:op=16
 ·rw[Ae h9] at h;obtain rfl:=AV h;exact⟨rfl,by decide⟩
 rw[Ac h9] at h;by_cases h10:op=17
 ·rw[Ae h10] at h;obtain rfl:=AV h;exact⟨rfl,by decide⟩
 rw[Ac h10] at h;by_cases h11:op=18
 ·rw[Ae h11] at h;obtain rfl:=AV h;exact⟨rfl,by decide⟩
 rw[Ac h11] at h;by_cases h12:op=19
 ·rw[Ae h12] at h;obtain rfl:=AV h;exact⟨rfl,by decide⟩
 rw[Ac h12] at h;by_cases h13:op=20
 ·rw[Ae h13] at h;obtain rfl:=AV h;exact⟨rfl,by decide⟩
 rw[Ac h13] at h;by_cases h14:op=23
 ·rw[Ae h14] at h;obtain rfl:=AV h;exact⟨rfl,by decide⟩
 rw[Ac h14] at h;cases h
end Go.Proofs.YtlkgekpmileobaaGreat
