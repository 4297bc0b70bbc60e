/- Laws that the statement's proof leans on (joined out of several texts). -/
import Derived.Test.YtlifcingifodfaaGreatGc46
set_option maxHeartbeats 4000000
set_option linter.unusedVariables false
set_option linter.unusedSimpArgs false
namespace Go.Proofs.YtlifcingifodfaaGreat
open Tryz
open Go.RowKit
set_option maxRecDepth 20000
variable{i m:Nat}{l:Ad}{o:IY}{x:Int}
theorem eV: ∀{rows:List (Ap)},(∀r,r∈rows->r.length=4)->rows.flatten.length=rows.length*4
 |[],_=>rfl
 |r::rs,h=>by rw[Cv,Ah,h r (.head _),eV λx hx=>h x (.tail _ hx),BC];omega
theorem Fo{gb n:Nat}{rows:List (Ap)}(hn:rows.length=n)(hr: ∀r,r∈rows->r.length=4)(h:n<=100):OwnSl 183 4 (.slice (some ⟨gb,0,none⟩) n n) n rows.flatten [IO gb rows.flatten]:=by have hl:=eV hr;rw[hn] at hl;exact⟨hl,.inr ⟨gb,n,[],rfl,by rw[Bi],Bd _,by unfold maxLen;omega,by rw[Bi];exact hl⟩⟩
theorem IP(a b c:Bg):Keep (a::b::c::l) ([a]++l):=A8 [b,c]
theorem ux(a b c:Bg){c2:Ad}:Keep (c2++([a]++(b::c::l))) (c2++l):=A8 [a,b,c]
theorem n9(bo:Nat): ∀u,u∈(Xf bo).flatten->u.oneCell'=true:=λu hu=>by have h:(Xf bo).flatten.all (λu=>u.oneCell')=true:=rfl;exact A3.1 h u hu
def FoK(bo bc:Nat)(l:Ad)(R:Option (List FoT)):Value->Ad->Prop:=λv l'=>match R with
 |none=>v= .tuple #[.slice none 0 0,.bool false]/\l'=l
 |some L=> ∃sl cs,v= .tuple #[sl,.bool true]/\OwnSl 183 4 sl L.length (L.flatMap (UQ bo bc)) cs/\l'=cs++l
theorem V8(op:Int)(bo bc:Nat)(l:Ad):Fn prog 80 [Bc op,.pointer (some ⟨bo,0,none⟩),.pointer (some ⟨bc,0,none⟩)] l (FoK bo bc l (QE op)):=by
 obtain⟨R,hR⟩: ∃R,QE op=R:=⟨_,rfl⟩
 rw[hR];unfold QE at hR;refine AO func80 ntmps80 λE=>?_;refine Aj ?_;refine RJ (α:=Nat×Nat) (λz=>[(0,Bc op),(1,.pointer (some ⟨bo,0,none⟩)),(2,.pointer (some ⟨bc,0,none⟩)),(6,.slice none 0 0),(7,.bool false),(8,pV z.1),(9,pV z.2)]) (λz=>[IO z.1 (CK bo 1),IO z.2 (CK bo 2)]++l) (λ_=>True) ?_ ?_
 ·refine Lw [(0,true),(1,true),(2,true),(3,true),(4,true),(5,true),(6,true),(7,true),(8,false),(9,false),(10,false),(11,false)] [[],[0],[0,1],[0,1,2],[],[4],[4,5],[0,1,2,3,4,5,6],[],[],[0,1,2,3,4,5,6,7,8,9],[0,1,2,3,4,5,6,7,8,9,10]] 8 9 ([]) BB BB GZ UM ?_;refine BS ?_;refine Vs ?_;refine BS ?_;refine Vs ?_;refine BS ?_;refine N0 [(9,false),(8,false),(10,false),(11,false)] GZ (List.Perm.swap _ _ _) BB ?_ ?_;all_goals
   refine CS e_alloc rfl rfl rfl ?_ ?_
   ·rintro _ _ ⟨_,_,_,rfl⟩ c hc;cases hc
   rintro _ _ ⟨u,_,rfl,rfl⟩;refine CS e_alloc rfl rfl rfl ?_ ?_
   ·rintro _ _ ⟨_,_,_,rfl⟩ c hc;cases hc
   rintro _ _ ⟨v,_,rfl,rfl⟩;refine BS ?_
   first
    |exact EG (u,v) trivial ⟨rfl,rfl,rfl,rfl,rfl,rfl,rfl,trivial⟩ (.of_perm (.swap _ _ _))
    |exact EG (v,u) trivial ⟨rfl,rfl,rfl,rfl,rfl,rfl,rfl,trivial⟩ .refl
 rintro⟨b8,b9⟩-;simp only[Ae,Ag];refine Aj ?_;by_cases e1:op=1
 ·rw[Ac Af] at hR;subst hR;refine Aj ?_;refine Cx (Cr [19] 0 22) ?_;refine CC ?_;refine Ll (D1 (k:=4) (n:=6) (e:=183) (zs:=QV) (cs:=([CK bo 1,FR bo 4 0 15,FR bo 5 0 64,CK bo 2,FR bo 6 0 15,FR bc 0 1 4]:List (Ap)).flatten) (pvs:=EP 0 [CK bo 1,FR bo 4 0 15,FR bo 5 0 64,CK bo 2,FR bo 6 0 15,FR bc 0 1 4]) rfl AZ AZ rfl (EE [CK bo 1,FR bo 4 0 15,FR bo 5 0 64,CK bo 2,FR bo 6 0 15,FR bc 0 1 4] (CY rfl))) ?_;rintro _ _ ⟨gb,RQ,rfl,rfl⟩;refine CC ?_;refine Aj ?_;exact AV (vs:=[.slice (some ⟨gb,0,none⟩) 6 6,.bool true]) (l':=[IO gb ([CK bo 1,FR bo 4 0 15,FR bo 5 0 64,CK bo 2,FR bo 6 0 15,FR bc 0 1 4]:List (Ap)).flatten]++l) [] _ rfl .refl (by exact Ba) (.trans (.of_perm (.refl _)) (IP _ _ _)) ⟨_,[IO gb ([CK bo 1,FR bo 4 0 15,FR bo 5 0 64,CK bo 2,FR bo 6 0 15,FR bc 0 1 4]:List (Ap)).flatten],rfl,Fo (rows:=[CK bo 1,FR bo 4 0 15,FR bo 5 0 64,CK bo 2,FR bo 6 0 15,FR bc 0 1 4]) rfl (CY rfl) AZ,rfl⟩
 rw[Ab Af] at hR;by_cases e2:op=2
 ·rw[Ac Af] at hR;subst hR;refine Aj ?_;refine Cx (Cr [7] 0 10) ?_;refine CC ?_;refine Ll (D1 (k:=4) (n:=3) (e:=183) (zs:=QV) (cs:=([CK bo 1,CK bo 2,FR bo 4 0 7]:List (Ap)).flatten) (pvs:=EP 0 [CK bo 1,CK bo 2,FR bo 4 0 7]) rfl AZ AZ rfl (EE [CK bo 1,CK bo 2,FR bo 4 0 7] (CY rfl))) ?_;rintro _ _ ⟨gb,RQ,rfl,rfl⟩;refine CC ?_;refine Aj ?_;exact AV (vs:=[.slice (some ⟨gb,0,none⟩) 3 3,.bool true]) (l':=[IO gb ([CK bo 1,CK bo 2,FR bo 4 0 7]:List (Ap)).flatten]++l) [] _ rfl .refl (by exact Ba) (.trans (.of_perm (.refl _)) (IP _ _ _)) ⟨_,[IO gb ([CK bo 1,CK bo 2,FR bo 4 0 7]:List (Ap)).flatten],rfl,Fo (rows:=[CK bo 1,CK bo 2,FR bo 4 0 7]) rfl (CY rfl) AZ,rfl⟩
 rw[Ab Af] at hR;by_cases e3:op=3
 ·rw[Ac Af] at hR;subst hR;refine Aj ?_;refine Cx (Cr [11] 0 14) ?_;refine CC ?_;refine Ll (D1 (k:=4) (n:=4) (e:=183) (zs:=QV) (cs:=([CK bo 1,CK bo 2,FR bo 4 0 7,UR bo 7]:List (Ap)).flatten) (pvs:=EP 0 [CK bo 1,CK bo 2,FR bo 4 0 7,UR bo 7]) rfl AZ AZ rfl (EE [CK bo 1,CK bo 2,FR bo 4 0 7,UR bo 7] (CY rfl))) ?_;rintro _ _ ⟨gb,RQ,rfl,rfl⟩;refine CC ?_;refine Aj ?_;exact AV (vs:=[.slice (some ⟨gb,0,none⟩) 4 4,.bool true]) (l':=[IO gb ([CK bo 1,CK bo 2,FR bo 4 0 7,UR bo 7]:List (Ap)).flatten]++l) [] _ rfl .refl (by exact Ba) (.trans (.of_perm (.refl _)) (IP _ _ _)) ⟨_,[IO gb ([CK bo 1,CK bo 2,FR bo 4 0 7,UR bo 7]:List (Ap)).flatten],rfl,Fo (rows:=[CK bo 1,CK bo 2,FR bo 4 0 7,UR bo 7]) rfl (CY rfl) AZ,rfl⟩
 rw[Ab Af] at hR;by_cases e4:op=4
 ·rw[Ac Af] at hR;subst hR;refine Aj ?_;refine AR (D1 (k:=4) (n:=2) (e:=183) (zs:=QV) (cs:=([CK bo 1,CK bo 2]:List (Ap)).flatten) (pvs:=EP 0 [CK bo 1,CK bo 2]) rfl AZ AZ rfl (EE [CK bo 1,CK bo 2] (CY rfl))) ?_;rintro _ _ ⟨gb,RQ,rfl,rfl⟩;refine Aj ?_;exact AV (vs:=[.slice (some ⟨gb,0,none⟩) 2 2,.bool true]) (l':=[IO gb ([CK bo 1,CK bo 2]:List (Ap)).flatten]++l) [] _ rfl .refl (by exact Ba) (.trans (.of_perm (.refl _)) (IP _ _ _)) ⟨_,[IO gb ([CK bo 1,CK bo 2]:List (Ap)).flatten],rfl,Fo (rows:=[CK bo 1,CK bo 2]) rfl (CY rfl) AZ,rfl⟩
 by_cases e5:op=5
 ·rw[Ac Af] at hR;subst hR;refine Aj ?_;refine AR (D1 (k:=4) (n:=2) (e:=183) (zs:=QV) (cs:=([CK bo 1,CK bo 2]:List (Ap)).flatten) (pvs:=EP 0 [CK bo 1,CK bo 2]) rfl AZ AZ rfl (EE [CK bo 1,CK bo 2] (CY rfl))) ?_;rintro _ _ ⟨gb,RQ,rfl,rfl⟩;refine Aj ?_;exact AV (vs:=[.slice (some ⟨gb,0,none⟩) 2 2,.bool true]) (l':=[IO gb ([CK bo 1,CK bo 2]:List (Ap)).flatten]++l) [] _ rfl .refl (by exact Ba) (.trans (.of_perm (.refl _)) (IP _ _ _)) ⟨_,[IO gb ([CK bo 1,CK bo 2]:List (Ap)).flatten],rfl,Fo (rows:=[CK bo 1,CK bo 2]) rfl (CY rfl) AZ,rfl⟩
 by_cases yA:op=12
 ·rw[Ac Af] at hR;subst hR;refine Aj ?_;refine AR (D1 (k:=4) (n:=2) (e:=183) (zs:=QV) (cs:=([CK bo 1,CK bo 2]:List (Ap)).flatten) (pvs:=EP 0 [CK bo 1,CK bo 2]) rfl AZ AZ rfl (EE [CK bo 1,CK bo 2] (CY rfl))) ?_;rintro _ _ ⟨gb,RQ,rfl,rfl⟩;refine Aj ?_;exact AV (vs:=[.slice (some ⟨gb,0,none⟩) 2 2,.bool true]) (l':=[IO gb ([CK bo 1,CK bo 2]:List (Ap)).flatten]++l) [] _ rfl .refl (by exact Ba) (.trans (.of_perm (.refl _)) (IP _ _ _)) ⟨_,[IO gb ([CK bo 1,CK bo 2]:List (Ap)).flatten],rfl,Fo (rows:=[CK bo 1,CK bo 2]) rfl (CY rfl) AZ,rfl⟩
 by_cases yB:op=13
 ·rw[Ac Af] at hR;subst hR;refine Aj ?_;refine AR (D1 (k:=4) (n:=2) (e:=183) (zs:=QV) (cs:=([CK bo 1,CK bo 2]:List (Ap)).flatten) (pvs:=EP 0 [CK bo 1,CK bo 2]) rfl AZ AZ rfl (EE [CK bo 1,CK bo 2] (CY rfl))) ?_;rintro _ _ ⟨gb,RQ,rfl,rfl⟩;refine Aj ?_;exact AV (vs:=[.slice (some ⟨gb,0,none⟩) 2 2,.bool true]) (l':=[IO gb ([CK bo 1,CK bo 2]:List (Ap)).flatten]++l) [] _ rfl .refl (by exact Ba) (.trans (.of_perm (.refl _)) (IP _ _ _)) ⟨_,[IO gb ([CK bo 1,CK bo 2]:List (Ap)).flatten],rfl,Fo (rows:=[CK bo 1,CK bo 2]) rfl (CY rfl) AZ,rfl⟩
 rw[Ab Af] at hR;by_cases e6:op=6
 ·rw[Ac Af] at hR;subst hR;refine Aj ?_;refine AR (D1 (k:=4) (n:=1) (e:=183) (zs:=QV) (cs:=([CK bo 1]:List (Ap)).flatten) (pvs:=EP 0 [CK bo 1]) rfl AZ AZ rfl (EE [CK bo 1] (CY rfl))) ?_;rintro _ _ ⟨gb,RQ,rfl,rfl⟩;refine Aj ?_;exact AV (vs:=[.slice (some ⟨gb,0,none⟩) 1 1,.bool true]) (l':=[IO gb ([CK bo 1]:List (Ap)).flatten]++l) [] _ rfl .refl (by exact Ba) (.trans (.of_perm (.refl _)) (IP _ _ _)) ⟨_,[IO gb ([CK bo 1]:List (Ap)).flatten],rfl,Fo (rows:=[CK bo 1]) rfl (CY rfl) AZ,rfl⟩
 by_cases e9:op=9
 ·rw[Ac Af] at hR;subst hR;refine Aj ?_;refine AR (D1 (k:=4) (n:=1) (e:=183) (zs:=QV) (cs:=([CK bo 1]:List (Ap)).flatten) (pvs:=EP 0 [CK bo 1]) rfl AZ AZ rfl (EE [CK bo 1] (CY rfl))) ?_;rintro _ _ ⟨gb,RQ,rfl,rfl⟩;refine Aj ?_;exact AV (vs:=[.slice (some ⟨gb,0,none⟩) 1 1,.bool true]) (l':=[IO gb ([CK bo 1]:List (Ap)).flatten]++l) [] _ rfl .refl (by exact Ba) (.trans (.of_perm (.refl _)) (IP _ _ _)) ⟨_,[IO gb ([CK bo 1]:List (Ap)).flatten],rfl,Fo (rows:=[CK bo 1]) rfl (CY rfl) AZ,rfl⟩
 by_cases yz:op=11
 ·rw[Ac Af] at hR;subst hR;refine Aj ?_;refine AR (D1 (k:=4) (n:=1) (e:=183) (zs:=QV) (cs:=([CK bo 1]:List (Ap)).flatten) (pvs:=EP 0 [CK bo 1]) rfl AZ AZ rfl (EE [CK bo 1] (CY rfl))) ?_;rintro _ _ ⟨gb,RQ,rfl,rfl⟩;refine Aj ?_;exact AV (vs:=[.slice (some ⟨gb,0,none⟩) 1 1,.bool true]) (l':=[IO gb ([CK bo 1]:List (Ap)).flatten]++l) [] _ rfl .refl (by exact Ba) (.trans (.of_perm (.refl _)) (IP _ _ _)) ⟨_,[IO gb ([CK bo 1]:List (Ap)).flatten],rfl,Fo (rows:=[CK bo 1]) rfl (CY rfl) AZ,rfl⟩
 by_cases yE:op=21
 ·rw[Ac Af] at hR;subst hR;refine Aj ?_;refine AR (D1 (k:=4) (n:=1) (e:=183) (zs:=QV) (cs:=([CK bo 1]:List (Ap)).flatten) (pvs:=EP 0 [CK bo 1]) rfl AZ AZ rfl (EE [CK bo 1] (CY rfl))) ?_;rintro _ _ ⟨gb,RQ,rfl,rfl⟩;refine Aj ?_;exact AV (vs:=[.slice (some ⟨gb,0,none⟩) 1 1,.bool true]) (l':=[IO gb ([CK bo 1]:List (Ap)).flatten]++l) [] _ rfl .refl (by exact Ba) (.trans (.of_perm (.refl _)) (IP _ _ _)) ⟨_,[IO gb ([CK bo 1]:List (Ap)).flatten],rfl,Fo (rows:=[CK bo 1]) rfl (CY rfl) AZ,rfl⟩
 by_cases tA:op=22
 ·rw[Ac Af] at hR;subst hR;refine Aj ?_;refine AR (D1 (k:=4) (n:=1) (e:=183) (zs:=QV) (cs:=([CK bo 1]:List (Ap)).flatten) (pvs:=EP 0 [CK bo 1]) rfl AZ AZ rfl (EE [CK bo 1] (CY rfl))) ?_;rintro _ _ ⟨gb,RQ,rfl,rfl⟩;refine Aj ?_;exact AV (vs:=[.slice (some ⟨gb,0,none⟩) 1 1,.bool true]) (l':=[IO gb ([CK bo 1]:List (Ap)).flatten]++l) [] _ rfl .refl (by exact Ba) (.trans (.of_perm (.refl _)) (IP _ _ _)) ⟨_,[IO gb ([CK bo 1]:List (Ap)).flatten],rfl,Fo (rows:=[CK bo 1]) rfl (CY rfl) AZ,rfl⟩
 rw[Ab Af] at hR;by_cases e7:op=7
 ·rw[Ac Af] at hR;subst hR;refine Aj ?_;refine Cx (Cr [6] 0 9) ?_;refine CC ?_;refine Ll (D1 (k:=4) (n:=2) (e:=183) (zs:=QV) (cs:=([CK bo 1,FR bo 4 1 64]:List (Ap)).flatten) (pvs:=EP 0 [CK bo 1,FR bo 4 1 64]) rfl AZ AZ rfl (EE [CK bo 1,FR bo 4 1 64] (CY rfl))) ?_;rintro _ _ ⟨gb,RQ,rfl,rfl⟩;refine CC ?_;refine Aj ?_;exact AV (vs:=[.slice (some ⟨gb,0,none⟩) 2 2,.bool true]) (l':=[IO gb ([CK bo 1,FR bo 4 1 64]:List (Ap)).flatten]++l) [] _ rfl .refl (by exact Ba) (.trans (.of_perm (.refl _)) (IP _ _ _)) ⟨_,[IO gb ([CK bo 1,FR bo 4 1 64]:List (Ap)).flatten],rfl,Fo (rows:=[CK bo 1,FR bo 4 1 64]) rfl (CY rfl) AZ,rfl⟩
 rw[Ab Af] at hR;by_cases e8:op=8
 ·rw[Ac Af] at hR;subst hR;refine Aj ?_;refine Cx (Cr [6] 0 9) ?_;refine CC ?_;refine Ll (D1 (k:=4) (n:=3) (e:=183) (zs:=QV) (cs:=([CK bo 1,CK bo 2,UR bo 7]:List (Ap)).flatten) (pvs:=EP 0 [CK bo 1,CK bo 2,UR bo 7]) rfl AZ AZ rfl (EE [CK bo 1,CK bo 2,UR bo 7] (CY rfl))) ?_;rintro _ _ ⟨gb,RQ,rfl,rfl⟩;refine CC ?_;refine Aj ?_;exact AV (vs:=[.slice (some ⟨gb,0,none⟩) 3 3,.bool true]) (l':=[IO gb ([CK bo 1,CK bo 2,UR bo 7]:List (Ap)).flatten]++l) [] _ rfl .refl (by exact Ba) (.trans (.of_perm (.refl _)) (IP _ _ _)) ⟨_,[IO gb ([CK bo 1,CK bo 2,UR bo 7]:List (Ap)).flatten],rfl,Fo (rows:=[CK bo 1,CK bo 2,UR bo 7]) rfl (CY rfl) AZ,rfl⟩
 rw[Ab Af] at hR;by_cases yy:op=10
 ·rw[Ac Af] at hR;subst hR;refine Aj ?_;refine Cx (Cr [11] 0 14) ?_;refine CC ?_;refine Ll (D1 (k:=4) (n:=4) (e:=183) (zs:=QV) (cs:=([CK bo 1,CK bo 2,UR bo 7,FR bo 4 0 7]:List (Ap)).flatten) (pvs:=EP 0 [CK bo 1,CK bo 2,UR bo 7,FR bo 4 0 7]) rfl AZ AZ rfl (EE [CK bo 1,CK bo 2,UR bo 7,FR bo 4 0 7] (CY rfl))) ?_;rintro _ _ ⟨gb,RQ,rfl,rfl⟩;refine CC ?_;refine Aj ?_;exact AV (vs:=[.slice (some ⟨gb,0,none⟩) 4 4,.bool true]) (l':=[IO gb ([CK bo 1,CK bo 2,UR bo 7,FR bo 4 0 7]:List (Ap)).flatten]++l) [] _ rfl .refl (by exact Ba) (.trans (.of_perm (.refl _)) (IP _ _ _)) ⟨_,[IO gb ([CK bo 1,CK bo 2,UR bo 7,FR bo 4 0 7]:List (Ap)).flatten],rfl,Fo (rows:=[CK bo 1,CK bo 2,UR bo 7,FR bo 4 0 7]) rfl (CY rfl) AZ,rfl⟩
 rw[Ab Af] at hR;by_cases e14:op=14
 ·rw[Ac Af] at hR;subst hR;refine Aj ?_;refine Lw [(0,true),(1,true),(2,true),(3,true),(4,true),(5,true),(7,true),(6,false),(8,false),(9,false),(10,true),(11,true)] [[],[],[1],[1,2],[1,2,3],[1,2,3,4],[0,1,2,3,4,5],[],[1,2,3,4,5,7],[0,1,2,3,4,5,6,7,8],[0,1,2,3,4,5,6,7,8,9],[0,1,2,3,4,5,6,7,8,9,10]] 6 8 ([IO b8 (CK bo 1)]) BB BB GZ ((U2 BW)) ?_;refine BS ?_;refine Vs ?_;refine BS ?_;refine N0 [(8,false),(6,false),(9,false),(10,true),(11,true)] GZ (List.Perm.swap _ _ _) BB ?_ ?_
  case' refine_1=>
   refine CS (D1 (k:=4) (n:=2) (e:=183) (zs:=QV) (cs:=([CK bo 1,FR bo 4 0 4096]:List (Ap)).flatten) (pvs:=EP 0 ([CK bo 1,FR bo 4 0 4096]:List (Ap))) rfl AZ AZ rfl (EE ([CK bo 1,FR bo 4 0 4096]:List (Ap)) (CY rfl))) rfl rfl rfl ?_ ?_
   ·rintro _ _ ⟨_,_,_,rfl⟩ c hc;exact .tail _ (U2 BW c hc)
   rintro _ _ ⟨g1,_,rfl,rfl⟩;refine CS (AA rfl rfl (QG bo _)) rfl rfl rfl ?_ ?_
   ·rintro _ _ ⟨_,_,_,rfl⟩ c hc;exact .tail _ (U2 BW c hc)
   rintro _ _ ⟨g2,_,rfl,rfl⟩
  case' refine_2=>
   refine CS (AA rfl rfl (QG bo _)) rfl rfl rfl ?_ ?_
   ·rintro _ _ ⟨_,_,_,rfl⟩ c hc;exact .tail _ (U2 BW c hc)
   rintro _ _ ⟨g2,_,rfl,rfl⟩;refine CS (D1 (k:=4) (n:=2) (e:=183) (zs:=QV) (cs:=([CK bo 1,FR bo 4 0 4096]:List (Ap)).flatten) (pvs:=EP 0 ([CK bo 1,FR bo 4 0 4096]:List (Ap))) rfl AZ AZ rfl (EE ([CK bo 1,FR bo 4 0 4096]:List (Ap)) (CY rfl))) rfl rfl rfl ?_ ?_
   ·rintro _ _ ⟨_,_,_,rfl⟩ c hc;exact .tail _ (U2 BW c hc)
   rintro _ _ ⟨g1,_,rfl,rfl⟩
  all_goals
   refine CS (OpE.re (K':=λv l'=> ∃c2,OwnSl 183 4 v (2+4) (([CK bo 1,FR bo 4 0 4096]:List (Ap)).flatten++(Xf bo).flatten) c2/\l'=c2++([IO g2 (Xf bo).flatten]++(IO b8 (CK bo 1)::IO b9 (CK bo 2)::l))) (by first|exact Keep.of_perm (.swap _ _ _)|exact .refl) (Rk (k:=4) (n:=2) (m:=4) (xs:=([CK bo 1,FR bo 4 0 4096]:List (Ap)).flatten) (ys:=(Xf bo).flatten) (zs:=QV) (cs:=[IO g1 ([CK bo 1,FR bo 4 0 4096]:List (Ap)).flatten]) (cw:=[IO g2 (Xf bo).flatten]) (F:=IO b8 (CK bo 1)::IO b9 (CK bo 2)::l) rfl rfl rfl (Fo (rows:=([CK bo 1,FR bo 4 0 4096]:List (Ap))) rfl (CY rfl) AZ) (Fo (rows:=Xf bo) rfl (CY rfl) AZ) (n9 bo) Af Af AZ) (λv l' ⟨c2,h1,h2⟩=>⟨l',.refl,c2,h1,h2⟩)) rfl rfl rfl ?_ ?_
   ·rintro v l' ⟨c2,_,rfl⟩ c hc;exact Aa _ (.tail _ (U2 (.head _) c hc))
   rintro v _ ⟨c2,ho3,rfl⟩;refine BS ?_;refine Aj ?_;exact CM (vs:=[v,.bool true]) (l':=c2++l) _ .refl (ux _ _ _) ⟨v,c2,rfl,ho3,rfl⟩
 by_cases e15:op=15
 ·rw[Ac Af] at hR;subst hR;refine Aj ?_;refine Lw [(0,true),(1,true),(2,true),(3,true),(4,true),(5,true),(7,true),(6,false),(8,false),(9,false),(10,true),(11,true)] [[],[],[1],[1,2],[1,2,3],[1,2,3,4],[0,1,2,3,4,5],[],[1,2,3,4,5,7],[0,1,2,3,4,5,6,7,8],[0,1,2,3,4,5,6,7,8,9],[0,1,2,3,4,5,6,7,8,9,10]] 6 8 ([IO b8 (CK bo 1)]) BB BB GZ ((U2 BW)) ?_;refine BS ?_;refine Vs ?_;refine BS ?_;refine N0 [(8,false),(6,false),(9,false),(10,true),(11,true)] GZ (List.Perm.swap _ _ _) BB ?_ ?_
  case' refine_1=>
   refine CS (D1 (k:=4) (n:=2) (e:=183) (zs:=QV) (cs:=([CK bo 1,FR bo 4 0 4096]:List (Ap)).flatten) (pvs:=EP 0 ([CK bo 1,FR bo 4 0 4096]:List (Ap))) rfl AZ AZ rfl (EE ([CK bo 1,FR bo 4 0 4096]:List (Ap)) (CY rfl))) rfl rfl rfl ?_ ?_
   ·rintro _ _ ⟨_,_,_,rfl⟩ c hc;exact .tail _ (U2 BW c hc)
   rintro _ _ ⟨g1,_,rfl,rfl⟩;refine CS (AA rfl rfl (QG bo _)) rfl rfl rfl ?_ ?_
   ·rintro _ _ ⟨_,_,_,rfl⟩ c hc;exact .tail _ (U2 BW c hc)
   rintro _ _ ⟨g2,_,rfl,rfl⟩
  case' refine_2=>
   refine CS (AA rfl rfl (QG bo _)) rfl rfl rfl ?_ ?_
   ·rintro _ _ ⟨_,_,_,rfl⟩ c hc;exact .tail _ (U2 BW c hc)
   rintro _ _ ⟨g2,_,rfl,rfl⟩;refine CS (D1 (k:=4) (n:=2) (e:=183) (zs:=QV) (cs:=([CK bo 1,FR bo 4 0 4096]:List (Ap)).flatten) (pvs:=EP 0 ([CK bo 1,FR bo 4 0 4096]:List (Ap))) rfl AZ AZ rfl (EE ([CK bo 1,FR bo 4 0 4096]:List (Ap)) (CY rfl))) rfl rfl rfl ?_ ?_
   ·rintro _ _ ⟨_,_,_,rfl⟩ c hc;exact .tail _ (U2 BW c hc)
   rintro _ _ ⟨g1,_,rfl,rfl⟩
  all_goals
   refine CS (OpE.re (K':=λv l'=> ∃c2,OwnSl 183 4 v (2+4) (([CK bo 1,FR bo 4 0 4096]:List (Ap)).flatten++(Xf bo).flatten) c2/\l'=c2++([IO g2 (Xf bo).flatten]++(IO b8 (CK bo 1)::IO b9 (CK bo 2)::l))) (by first|exact Keep.of_perm (.swap _ _ _)|exact .refl) (Rk (k:=4) (n:=2) (m:=4) (xs:=([CK bo 1,FR bo 4 0 4096]:List (Ap)).flatten) (ys:=(Xf bo).flatten) (zs:=QV) (cs:=[IO g1 ([CK bo 1,FR bo 4 0 4096]:List (Ap)).flatten]) (cw:=[IO g2 (Xf bo).flatten]) (F:=IO b8 (CK bo 1)::IO b9 (CK bo 2)::l) rfl rfl rfl (Fo (rows:=([CK bo 1,FR bo 4 0 4096]:List (Ap))) rfl (CY rfl) AZ) (Fo (rows:=Xf bo) rfl (CY rfl) AZ) (n9 bo) Af Af AZ) (λv l' ⟨c2,h1,h2⟩=>⟨l',.refl,c2,h1,h2⟩)) rfl rfl rfl ?_ ?_
   ·rintro v l' ⟨c2,_,rfl⟩ c hc;exact Aa _ (.tail _ (U2 (.head _) c hc))
   rintro v _ ⟨c2,ho3,rfl⟩;refine BS ?_;refine Aj ?_;exact CM (vs:=[v,.bool true]) (l':=c2++l) _ .refl (ux _ _ _) ⟨v,c2,rfl,ho3,rfl⟩
 rw[Ab Af] at hR;by_cases e16:op=16
 ·rw[Ac Af] at hR;subst hR;refine Aj ?_;refine Cx (Cr [6] 0 9) ?_;refine CC ?_;refine Ll (D1 (k:=4) (n:=2) (e:=183) (zs:=QV) (cs:=([CK bo 1,FR bo 4 0 4096]:List (Ap)).flatten) (pvs:=EP 0 [CK bo 1,FR bo 4 0 4096]) rfl AZ AZ rfl (EE [CK bo 1,FR bo 4 0 4096] (CY rfl))) ?_;rintro _ _ ⟨gb,RQ,rfl,rfl⟩;refine CC ?_;refine Aj ?_;exact AV (vs:=[.slice (some ⟨gb,0,none⟩) 2 2,.bool true]) (l':=[IO gb ([CK bo 1,FR bo 4 0 4096]:List (Ap)).flatten]++l) [] _ rfl .refl (by exact Ba) (.trans (.of_perm (.refl _)) (IP _ _ _)) ⟨_,[IO gb ([CK bo 1,FR bo 4 0 4096]:List (Ap)).flatten],rfl,Fo (rows:=[CK bo 1,FR bo 4 0 4096]) rfl (CY rfl) AZ,rfl⟩
 rw[Ab Af] at hR;by_cases e17:op=17
 ·rw[Ac Af] at hR;subst hR;refine Aj ?_;refine AR (AA rfl rfl (QG bo _)) ?_;rintro _ _ ⟨gb,RQ,rfl,rfl⟩;refine Aj ?_;exact AV (vs:=[.slice (some ⟨gb,0,none⟩) 4 4,.bool true]) (l':=[IO gb (Xf bo).flatten]++l) [] _ rfl .refl (by exact Ba) (IP _ _ _) ⟨_,[IO gb (Xf bo).flatten],rfl,Fo (rows:=Xf bo) rfl (CY rfl) AZ,rfl⟩
 rw[Ab Af] at hR;by_cases yC:op=18
 ·rw[Ac Af] at hR;subst hR;refine Aj ?_;exact CM (vs:=[.slice none 0 0,.bool true]) _ .refl (.drop (.drop .refl)) ⟨_,[],rfl,OwnSl.nil _ _,rfl⟩
 rw[Ab Af] at hR;by_cases vE:op=19
 ·rw[Ac Af] at hR;subst hR;refine Aj ?_;refine Cx (Cr [7] 0 10) ?_;refine CC ?_;refine Ll (D1 (k:=4) (n:=3) (e:=183) (zs:=QV) (cs:=([CK bo 1,FR bo 4 0 2,CK bo 2]:List (Ap)).flatten) (pvs:=EP 0 [CK bo 1,FR bo 4 0 2,CK bo 2]) rfl AZ AZ rfl (EE [CK bo 1,FR bo 4 0 2,CK bo 2] (CY rfl))) ?_;rintro _ _ ⟨gb,RQ,rfl,rfl⟩;refine CC ?_;refine Aj ?_;exact AV (vs:=[.slice (some ⟨gb,0,none⟩) 3 3,.bool true]) (l':=[IO gb ([CK bo 1,FR bo 4 0 2,CK bo 2]:List (Ap)).flatten]++l) [] _ rfl .refl (by exact Ba) (.trans (.of_perm (.refl _)) (IP _ _ _)) ⟨_,[IO gb ([CK bo 1,FR bo 4 0 2,CK bo 2]:List (Ap)).flatten],rfl,Fo (rows:=[CK bo 1,FR bo 4 0 2,CK bo 2]) rfl (CY rfl) AZ,rfl⟩
 rw[Ab Af] at hR;by_cases yD:op=20
 ·rw[Ac Af] at hR;subst hR;refine Aj ?_;refine Cx (Cr [6] 0 9) ?_;refine CC ?_;refine Ll (D1 (k:=4) (n:=2) (e:=183) (zs:=QV) (cs:=([CK bo 1,FR bo 4 0 2]:List (Ap)).flatten) (pvs:=EP 0 [CK bo 1,FR bo 4 0 2]) rfl AZ AZ rfl (EE [CK bo 1,FR bo 4 0 2] (CY rfl))) ?_;rintro _ _ ⟨gb,RQ,rfl,rfl⟩;refine CC ?_;refine Aj ?_;exact AV (vs:=[.slice (some ⟨gb,0,none⟩) 2 2,.bool true]) (l':=[IO gb ([CK bo 1,FR bo 4 0 2]:List (Ap)).flatten]++l) [] _ rfl .refl (by exact Ba) (.trans (.of_perm (.refl _)) (IP _ _ _)) ⟨_,[IO gb ([CK bo 1,FR bo 4 0 2]:List (Ap)).flatten],rfl,Fo (rows:=[CK bo 1,FR bo 4 0 2]) rfl (CY rfl) AZ,rfl⟩
 rw[Ab Af] at hR;by_cases yF:op=23
 ·rw[Ac Af] at hR;subst hR;refine Aj ?_;refine Cx (Cr [6] 0 9) ?_;refine CC ?_;refine Ll (D1 (k:=4) (n:=2) (e:=183) (zs:=QV) (cs:=([CK bo 1,FR bo 4 0 7]:List (Ap)).flatten) (pvs:=EP 0 [CK bo 1,FR bo 4 0 7]) rfl AZ AZ rfl (EE [CK bo 1,FR bo 4 0 7] (CY rfl))) ?_;rintro _ _ ⟨gb,RQ,rfl,rfl⟩;refine CC ?_;refine Aj ?_;exact AV (vs:=[.slice (some ⟨gb,0,none⟩) 2 2,.bool true]) (l':=[IO gb ([CK bo 1,FR bo 4 0 7]:List (Ap)).flatten]++l) [] _ rfl .refl (by exact Ba) (.trans (.of_perm (.refl _)) (IP _ _ _)) ⟨_,[IO gb ([CK bo 1,FR bo 4 0 7]:List (Ap)).flatten],rfl,Fo (rows:=[CK bo 1,FR bo 4 0 7]) rfl (CY rfl) AZ,rfl⟩
 rw[Ab Af] at hR;subst hR;refine Aj ?_;exact CM _ .refl (.drop (.drop .refl)) ⟨rfl,rfl⟩
def G3(c:OG):A4:=[c.a0,c.a1,c.a2,c.a3,c.a4,c.a5]
def Zk(c:OG)(gb n m:Nat):List (Int×Value):=(List.range m).map λi:Nat=>((G3 c).getD i 0,if i<n then .pointer (some ⟨gb,i*4,none⟩) else .pointer none)
theorem Zl(c:OG)(gb n:Nat)(h:i<=m):(Zk c gb n m).take i=Zk c gb n i:=by unfold Zk;rw[<-G4,GV,ES h]
theorem Uy(c:OG)(gb n m:Nat):Zk c gb n (m+1)=Zk c gb n m++[((G3 c).getD m 0,if m<n then .pointer (some ⟨gb,m*4,none⟩) else .pointer none)]:=by unfold Zk;rw[CA,Aq];rfl
theorem eW(c:OG)(gb n:Nat)(h:i<m):Zk c gb n i++[((G3 c).getD i 0,if i<n then .pointer (some ⟨gb,i*4,none⟩) else .pointer none)]<+:Zk c gb n m:=by rw[<-Uy,<-Zl c gb n (show i+1<=m by omega)];exact BI _ _
abbrev wrV(x:Int×Value):Ap:=[Bc x.1,x.2]
abbrev xP(B:Nat)(c:OG):Bg:=(B,.cells (List.toArray (jv c)) 37 (0,0))
abbrev fsB(B:Nat)(v:Value):Bg:=(B,.cells (List.toArray [v]) 172 (0,0))
theorem iT(c:OG)(v:Value)(hv:v.oneCell'=true)(l:Ad):Fn prog 82 [py c,v] l λv' l'=> ∃B1 B2,v'= .func (.func 125) #[] #[pV B1,pV B2]/\l'=fsB B2 v::xP B1 c::l:=by refine AO func82 ntmps82 λE=>?_;refine AQ λb1=>?_;refine AR (Ex rfl hv) ?_;rintro _ _ ⟨b2,_,rfl,rfl⟩;refine Aj ?_;exact Bb .refl ⟨_,_,rfl,rfl⟩
theorem bV(B1 B2 gb n cap:Nat)(pp:Option Addr)(c:OG)(hp:0<n->pp=some ⟨gb,0,none⟩)(hn:n<=100):
 FA prog 125 [pV B1,pV B2] wrV (λxs=>xs=Zk c gb n 6) (λpre=>pre<+:Zk c gb n 6) (λ_ l=>xP B1 c∈l/\fsB B2 (.slice pp n cap)∈l):=by
 refine⟨λr I Ix G0 Ca hY l G hG h0=>?_⟩;obtain⟨n1,n2⟩:=Ca _ _ G hG h0;refine AO func125 ntmps125 λE=>?_;refine Aj ?_;refine CF (α:=Nat×Ad) (λx=>[(0,.func (.yield r) #[] #[]),(1,pV B1),(2,pV B2),(8,.agg (List.toArray [Bc c.a0,Bc c.a1,Bc c.a2,Bc c.a3,Bc c.a4,Bc c.a5])),(9,.int .i64 x.1)]) (λx=>x.2++G) (λx=>x.1<=6/\I (Zk c gb n x.1) x.2) (λx=>6-x.1) (0,l) ⟨Bm _,h0⟩ ⟨rfl,rfl,rfl,rfl,rfl,trivial⟩ .refl ?_;clear n1 n2;rintro⟨k,l⟩ ⟨hk,hI⟩;simp only at hk hI⊢;obtain⟨n1,n2⟩:=Ca _ _ G hG hI;by_cases Dc:k<6
 ·have hy:=hY (Zk c gb n k) _ l G hG hI (eW c gb n Dc);obtain⟨w,hw⟩: ∃w,(G3 c).getD k 0=w:=⟨_,rfl⟩
  obtain⟨q,hq⟩: ∃q:Value,(if k<n then .pointer (some ⟨gb,k*4,none⟩) else .pointer none)=q:=⟨_,rfl⟩
  have QN:=eW c gb n Dc;rw[hw,hq] at hy QN;have hs:Zk c gb n (k+1)=Zk c gb n k++[(w,q)]:=by rw[Uy,hw,hq]
  have hv:(List.toArray [Bc c.a0,Bc c.a1,Bc c.a2,Bc c.a3,Bc c.a4,Bc c.a5])[k]?=some (Bc w):=by
   rw[<-hw];have:k=0\/k=1\/k=2\/k=3\/k=4\/k=5:=by omega
   rcases this with rfl|rfl|rfl|rfl|rfl|rfl<;>rfl
  refine Aj ?_;refine tJ (v:=Bc w) (by refine Xa (m:=k) rfl rfl rfl Dc hv) rfl rfl rfl ?_;by_cases tx:k<n
  case' pos=>
   obtain rfl:=hp Af;rw[Ac tx] at hq;subst hq;refine Aj ?_
  case' neg=>
   rw[Ab tx] at hq;subst hq;refine Aj ?_
  all_goals
   refine AR (C0 rfl rfl hy) ?_;rintro v l' ⟨l1,rfl,⟨rfl,Lg⟩|⟨rfl,hx⟩⟩
   ·rw[<-hs] at Lg;refine Aj ?_;exact BR (k+1,l1) ⟨by simp only;omega,Lg⟩ (by simp only;omega) ⟨rfl,rfl,rfl,rfl,rfl,trivial⟩ .refl
   ·refine Aj ?_;exact Bb .refl ⟨l1,rfl,.inr ⟨_,QN,hx⟩⟩
 ·obtain rfl:k=6:=by omega
  refine Aj ?_;exact Bb .refl ⟨l,rfl,.inl ⟨_,rfl,hI⟩⟩
abbrev KE:IY:=⟨0,0,0,0,0,0,0,0,⟨0,0,0,0⟩⟩
def Nr(o:IY)(i:Nat)(x:Int):IY:=
 match i with
 |1=>{o with a:=x}
 |2=>{o with b:=x}
 |4=>{o with n0:=x}
 |5=>{o with n1:=x}
 |6=>{o with n2:=x}
 |7=>{o with w:=x}
 |8=>{o with ms:={o.ms with a:=x}}
 |9=>{o with ms:={o.ms with b:=x}}
 |10=>{o with ms:={o.ms with c:=x}}
 |11=>{o with ms:={o.ms with d:=x}}
 |_=>o
theorem sD(h:i=1\/i=2\/i=4\/i=5\/i=6):R4 (Nr o i x)=(R4 o).set i (iV x):=by rcases h with rfl|rfl|rfl|rfl|rfl<;>rfl
theorem sE(h:i=7\/i=8\/i=9\/i=10\/i=11):R4 (Nr o i x)=(R4 o).set i (Bc x):=by rcases h with rfl|rfl|rfl|rfl|rfl<;>rfl
def Hd(o:IY)(cn:Int)(f:FoT)(x:Int):IY×Int:=match f.at' with
 |none=>(o,x)
 |some i=>(Nr o i x,cn)
def XA(c:OG)(L:List FoT):List Nat->IY->Int->Int->(IY×Int)×Int
 |[],o,cn,e=>((o,cn),e)
 |i::r,o,cn,e=>match L[i]? with
  |none=>if(G3 c).getD i 0=0 then XA c L r o cn e else((o,cn),2)
  |some f=>if(G3 c).getD i 0<f.le\/f.mo<(G3 c).getD i 0 then XA c L r o cn 3 else XA c L r (Hd o cn f ((G3 c).getD i 0)).1 (Hd o cn f ((G3 c).getD i 0)).2 e
def eX(c:OG)(q:(IY×Int)×Int):IY×Int:=if q.2=0 then({q.1.1 with op:=c.op,n2:=q.1.1.n2+16*q.1.2},0) else(KE,q.2)
def BV(c:OG):IY×Int:=match QE c.op with
 |none=>(KE,2)
 |some L=>if c.op=1/\Xe c=false then(KE,2) else eX c (XA c L (List.range 6) KE 0 0)
def OH(f:FoT):Bool:=match f.at' with
 |none=>!f.wd&&decide (0<=f.le)&&decide (f.mo<=1000000)
 |some i=>if f.wd=true then[7,8,9,10,11].contains i else[1,2,4,5,6].contains i&&decide (0<=f.le)&&decide (f.mo<=1000000)
theorem bW{op:Int}{L:List FoT}(h:QE op=some L):L.all OH=true/\L.length<=6:=by
 unfold QE at h;by_cases h0:op=1
 ·rw[Ac h0] at h;obtain rfl:=AX h;exact⟨rfl,by decide⟩
 rw[Ab h0] at h;by_cases h1:op=2
 ·rw[Ac h1] at h;obtain rfl:=AX h;exact⟨rfl,by decide⟩
 rw[Ab h1] at h;by_cases h2:op=3
 ·rw[Ac h2] at h;obtain rfl:=AX h;exact⟨rfl,by decide⟩
 rw[Ab h2] at h;by_cases h3:op=4\/op=5\/op=12\/op=13
 ·rw[Ac h3] at h;obtain rfl:=AX h;exact⟨rfl,by decide⟩
 rw[Ab h3] at h;by_cases h4:op=6\/op=9\/op=11\/op=21\/op=22
 ·rw[Ac h4] at h;obtain rfl:=AX h;exact⟨rfl,by decide⟩
 rw[Ab h4] at h;by_cases h5:op=7
 ·rw[Ac h5] at h;obtain rfl:=AX h;exact⟨rfl,by decide⟩
 rw[Ab h5] at h;by_cases h6:op=8
 ·rw[Ac h6] at h;obtain rfl:=AX h;exact⟨rfl,by decide⟩
 rw[Ab h6] at h;by_cases h7:op=10
 ·rw[Ac h7] at h;obtain rfl:=AX h;exact⟨rfl,by decide⟩
 rw[Ab h7] at h;by_cases h8:op=14\/op=15
 ·rw[Ac h8] at h;obtain rfl:=AX h;exact⟨rfl,by decide⟩
 rw[Ab h8] at h;by_cases h9:op=16
 ·rw[Ac h9] at h;obtain rfl:=AX h;exact⟨rfl,by decide⟩
 rw[Ab h9] at h;by_cases Sa:op=17
 ·rw[Ac Sa] at h;obtain rfl:=AX h;exact⟨rfl,by decide⟩
 rw[Ab Sa] at h;by_cases jo:op=18
 ·rw[Ac jo] at h;obtain rfl:=AX h;exact⟨rfl,by decide⟩
 rw[Ab jo] at h;by_cases jR:op=19
 ·rw[Ac jR] at h;obtain rfl:=AX h;exact⟨rfl,by decide⟩
 rw[Ab jR] at h;by_cases zI:op=20
 ·rw[Ac zI] at h;obtain rfl:=AX h;exact⟨rfl,by decide⟩
 rw[Ab zI] at h;by_cases tu:op=23
 ·rw[Ac tu] at h;obtain rfl:=AX h;exact⟨rfl,by decide⟩
 rw[Ab tu] at h;cases h
end Go.Proofs.YtlifcingifodfaaGreat
