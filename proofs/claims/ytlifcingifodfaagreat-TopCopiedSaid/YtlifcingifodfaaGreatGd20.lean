/- Laws. -/
import Derived.Test.YtlifcingifodfaaGreatGd19
set_option maxHeartbeats 4000000
set_option linter.all false
namespace Go.Proofs.YtlifcingifodfaaGreat
open Tryz
open List renaming toArray→τ
open Go.RowKit
set_option maxRecDepth 20000
variable{i k gb n m N F C:Nat}{f:FoT}{o:Ja}{x cn:Int}{c:N0}{L:List FoT}{α:Type}{P:Program}{ro:Option Nat}{E:World}{Q:Exit->Act->World->Prop}{ds:List Deferred}{A G:Ac}{a b:Bh}{ws:Ap}{S:KT}{p:RP}{s:RL}
theorem gP: ∀{rows:List (Ap)},(∀r,r∈rows->r.length=4)->rows.flatten.length=rows.length*4
 |[],_=>rfl
 |r::rs,h=>by rw[CA,Ah,h r (.head _),gP λx hx=>h x (.tail _ hx),By];omega
theorem FD{rows:List (Ap)}(hn:rows.length=n)(hr: ∀r,r∈rows->r.length=4)(h:n<=100):OwnSl 183 4 (.slice (some ⟨gb,0,none⟩) n n) n rows.flatten [Jb gb rows.flatten]:=by have hl:=gP hr;rw[hn] at hl;exact⟨hl,.inr ⟨gb,n,[],rfl,by rw[Bj],Bf _,by unfold maxLen;omega,by rw[Bj];exact hl⟩⟩
theorem Jc(a b c:Bh){l:Ac}:Keep (a::b::c::l) ([a]++l):=γ [b,c]
theorem wY(a b c:Bh){c2 l:Ac}:Keep (c2++([a]++(b::c::l))) (c2++l):=γ [a,b,c]
theorem pQ(bo:Nat): ∀u,u∈(X9 bo).flatten->u.oneCell'=true:=λu hu=>by have h:(X9 bo).flatten.all (λu=>u.oneCell')=true:=rfl;exact AS.1 h u hu
def FoK(bo bc:Nat)(l:Ac)(R:Option (List FoT)):Value->Ac->Prop:=λv l'=>match R with
 |none=>v= .tuple #[.slice none 0 0,.bool false]/\l'=l
 |some L=> ∃sl cs,v= .tuple #[sl,.bool true]/\OwnSl 183 4 sl L.length (L.flatMap (Vx bo bc)) cs/\l'=cs++l
theorem WS(op:Int)(bo bc:Nat)(l:Ac):Fn prog 80 [Bb op,π bo,π bc] l (FoK bo bc l (PI op)):=by
 obtain⟨R,hR⟩:=ξ (PI op)
 rw[hR];unfold PI at hR;refine AO func80 ntmps80 λE=>?_;refine Aj ?_;refine Ss (α:=Nat×Nat) (λz=>[(0,Bb op),(1,π bo),(2,π bc),(6,.slice none 0 0),(7,.bool false),(8,pV z.1),(9,pV z.2)]) (λz=>[Jb z.1 (CT bo 1),Jb z.2 (CT bo 2)]++l) (λ_=>True) ?_ ?_
 ·refine L7 [(0,true),(1,true),(2,true),(3,true),(4,true),(5,true),(6,true),(7,true),(8,false),(9,false),(10,false),(11,false)] [[],[0],[0,1],[0,1,2],[],[4],[4,5],[0,1,2,3,4,5,6],[],[],[0,1,2,3,4,5,6,7,8,9],[0,1,2,3,4,5,6,7,8,9,10]] 8 9 ([]) Bu Bu GO Vq ?_;refine BJ ?_;refine Wb ?_;refine BJ ?_;refine Wb ?_;refine BJ ?_;refine Oz [(9,false),(8,false),(10,false),(11,false)] GO (List.Perm.swap _ _ _) Bu ?_ ?_;all_goals
   refine CX e_alloc rfl rfl rfl ?_ ?_
   ·rintro _ _ ⟨_,_,_,rfl⟩ c hc;cases hc
   rintro _ _ ⟨u,_,rfl,rfl⟩;refine CX e_alloc rfl rfl rfl ?_ ?_
   ·rintro _ _ ⟨_,_,_,rfl⟩ c hc;cases hc
   rintro _ _ ⟨v,_,rfl,rfl⟩;refine BJ ?_
   first
    |exact EM (u,v) trivial ⟨rfl,rfl,rfl,rfl,rfl,rfl,rfl,trivial⟩ (.of_perm (.swap _ _ _))
    |exact EM (v,u) trivial ⟨rfl,rfl,rfl,rfl,rfl,rfl,rfl,trivial⟩ .refl
 rintro⟨b8,b9⟩-;simp only[Ae,Ag];refine Aj ?_;by_cases e1:op=1
 ·rw[Ad Af] at hR;subst hR;refine Aj ?_;refine CC (Cy [19] 0 22) ?_;refine CG ?_;refine LP (D5 (k:=4) (n:=6) (e:=183) (zs:=Rv) (cs:=([CT bo 1,F9 bo 4 0 15,F9 bo 5 0 64,CT bo 2,F9 bo 6 0 15,F9 bc 0 1 4]:List (Ap)).flatten) (pvs:=EU 0 [CT bo 1,F9 bo 4 0 15,F9 bo 5 0 64,CT bo 2,F9 bo 6 0 15,F9 bc 0 1 4]) rfl A0 A0 rfl (EL [CT bo 1,F9 bo 4 0 15,F9 bo 5 0 64,CT bo 2,F9 bo 6 0 15,F9 bc 0 1 4] (C6 rfl))) ?_;rintro _ _ ⟨gb,Sz,rfl,rfl⟩;refine CG ?_;refine Aj ?_;exact AU (vs:=[.slice (some ⟨gb,0,none⟩) 6 6,.bool true]) (l':=[Jb gb ([CT bo 1,F9 bo 4 0 15,F9 bo 5 0 64,CT bo 2,F9 bo 6 0 15,F9 bc 0 1 4]:List (Ap)).flatten]++l) [] _ rfl .refl Ba (.trans (.of_perm (.refl _)) (Jc _ _ _)) ⟨_,[Jb gb ([CT bo 1,F9 bo 4 0 15,F9 bo 5 0 64,CT bo 2,F9 bo 6 0 15,F9 bc 0 1 4]:List (Ap)).flatten],rfl,FD (rows:=[CT bo 1,F9 bo 4 0 15,F9 bo 5 0 64,CT bo 2,F9 bo 6 0 15,F9 bc 0 1 4]) rfl (C6 rfl) A0,rfl⟩
 rw[Ab Af] at hR;by_cases e2:op=2
 ·rw[Ad Af] at hR;subst hR;refine Aj ?_;refine CC (Cy [7] 0 10) ?_;refine CG ?_;refine LP (D5 (k:=4) (n:=3) (e:=183) (zs:=Rv) (cs:=([CT bo 1,CT bo 2,F9 bo 4 0 7]:List (Ap)).flatten) (pvs:=EU 0 [CT bo 1,CT bo 2,F9 bo 4 0 7]) rfl A0 A0 rfl (EL [CT bo 1,CT bo 2,F9 bo 4 0 7] (C6 rfl))) ?_;rintro _ _ ⟨gb,Sz,rfl,rfl⟩;refine CG ?_;refine Aj ?_;exact AU (vs:=[.slice (some ⟨gb,0,none⟩) 3 3,.bool true]) (l':=[Jb gb ([CT bo 1,CT bo 2,F9 bo 4 0 7]:List (Ap)).flatten]++l) [] _ rfl .refl Ba (.trans (.of_perm (.refl _)) (Jc _ _ _)) ⟨_,[Jb gb ([CT bo 1,CT bo 2,F9 bo 4 0 7]:List (Ap)).flatten],rfl,FD (rows:=[CT bo 1,CT bo 2,F9 bo 4 0 7]) rfl (C6 rfl) A0,rfl⟩
 rw[Ab Af] at hR;by_cases e3:op=3
 ·rw[Ad Af] at hR;subst hR;refine Aj ?_;refine CC (Cy [11] 0 14) ?_;refine CG ?_;refine LP (D5 (k:=4) (n:=4) (e:=183) (zs:=Rv) (cs:=([CT bo 1,CT bo 2,F9 bo 4 0 7,Vy bo 7]:List (Ap)).flatten) (pvs:=EU 0 [CT bo 1,CT bo 2,F9 bo 4 0 7,Vy bo 7]) rfl A0 A0 rfl (EL [CT bo 1,CT bo 2,F9 bo 4 0 7,Vy bo 7] (C6 rfl))) ?_;rintro _ _ ⟨gb,Sz,rfl,rfl⟩;refine CG ?_;refine Aj ?_;exact AU (vs:=[.slice (some ⟨gb,0,none⟩) 4 4,.bool true]) (l':=[Jb gb ([CT bo 1,CT bo 2,F9 bo 4 0 7,Vy bo 7]:List (Ap)).flatten]++l) [] _ rfl .refl Ba (.trans (.of_perm (.refl _)) (Jc _ _ _)) ⟨_,[Jb gb ([CT bo 1,CT bo 2,F9 bo 4 0 7,Vy bo 7]:List (Ap)).flatten],rfl,FD (rows:=[CT bo 1,CT bo 2,F9 bo 4 0 7,Vy bo 7]) rfl (C6 rfl) A0,rfl⟩
 rw[Ab Af] at hR;by_cases e4:op=4
 ·rw[Ad Af] at hR;subst hR;refine Aj ?_;refine AP (D5 (k:=4) (n:=2) (e:=183) (zs:=Rv) (cs:=([CT bo 1,CT bo 2]:List (Ap)).flatten) (pvs:=EU 0 [CT bo 1,CT bo 2]) rfl A0 A0 rfl (EL [CT bo 1,CT bo 2] (C6 rfl))) ?_;rintro _ _ ⟨gb,Sz,rfl,rfl⟩;refine Aj ?_;exact AU (vs:=[.slice (some ⟨gb,0,none⟩) 2 2,.bool true]) (l':=[Jb gb ([CT bo 1,CT bo 2]:List (Ap)).flatten]++l) [] _ rfl .refl Ba (.trans (.of_perm (.refl _)) (Jc _ _ _)) ⟨_,[Jb gb ([CT bo 1,CT bo 2]:List (Ap)).flatten],rfl,FD (rows:=[CT bo 1,CT bo 2]) rfl (C6 rfl) A0,rfl⟩
 by_cases e5:op=5
 ·rw[Ad Af] at hR;subst hR;refine Aj ?_;refine AP (D5 (k:=4) (n:=2) (e:=183) (zs:=Rv) (cs:=([CT bo 1,CT bo 2]:List (Ap)).flatten) (pvs:=EU 0 [CT bo 1,CT bo 2]) rfl A0 A0 rfl (EL [CT bo 1,CT bo 2] (C6 rfl))) ?_;rintro _ _ ⟨gb,Sz,rfl,rfl⟩;refine Aj ?_;exact AU (vs:=[.slice (some ⟨gb,0,none⟩) 2 2,.bool true]) (l':=[Jb gb ([CT bo 1,CT bo 2]:List (Ap)).flatten]++l) [] _ rfl .refl Ba (.trans (.of_perm (.refl _)) (Jc _ _ _)) ⟨_,[Jb gb ([CT bo 1,CT bo 2]:List (Ap)).flatten],rfl,FD (rows:=[CT bo 1,CT bo 2]) rfl (C6 rfl) A0,rfl⟩
 by_cases e12:op=12
 ·rw[Ad Af] at hR;subst hR;refine Aj ?_;refine AP (D5 (k:=4) (n:=2) (e:=183) (zs:=Rv) (cs:=([CT bo 1,CT bo 2]:List (Ap)).flatten) (pvs:=EU 0 [CT bo 1,CT bo 2]) rfl A0 A0 rfl (EL [CT bo 1,CT bo 2] (C6 rfl))) ?_;rintro _ _ ⟨gb,Sz,rfl,rfl⟩;refine Aj ?_;exact AU (vs:=[.slice (some ⟨gb,0,none⟩) 2 2,.bool true]) (l':=[Jb gb ([CT bo 1,CT bo 2]:List (Ap)).flatten]++l) [] _ rfl .refl Ba (.trans (.of_perm (.refl _)) (Jc _ _ _)) ⟨_,[Jb gb ([CT bo 1,CT bo 2]:List (Ap)).flatten],rfl,FD (rows:=[CT bo 1,CT bo 2]) rfl (C6 rfl) A0,rfl⟩
 by_cases e13:op=13
 ·rw[Ad Af] at hR;subst hR;refine Aj ?_;refine AP (D5 (k:=4) (n:=2) (e:=183) (zs:=Rv) (cs:=([CT bo 1,CT bo 2]:List (Ap)).flatten) (pvs:=EU 0 [CT bo 1,CT bo 2]) rfl A0 A0 rfl (EL [CT bo 1,CT bo 2] (C6 rfl))) ?_;rintro _ _ ⟨gb,Sz,rfl,rfl⟩;refine Aj ?_;exact AU (vs:=[.slice (some ⟨gb,0,none⟩) 2 2,.bool true]) (l':=[Jb gb ([CT bo 1,CT bo 2]:List (Ap)).flatten]++l) [] _ rfl .refl Ba (.trans (.of_perm (.refl _)) (Jc _ _ _)) ⟨_,[Jb gb ([CT bo 1,CT bo 2]:List (Ap)).flatten],rfl,FD (rows:=[CT bo 1,CT bo 2]) rfl (C6 rfl) A0,rfl⟩
 rw[Ab Af] at hR;by_cases e6:op=6
 ·rw[Ad Af] at hR;subst hR;refine Aj ?_;refine AP (D5 (k:=4) (n:=1) (e:=183) (zs:=Rv) (cs:=([CT bo 1]:List (Ap)).flatten) (pvs:=EU 0 [CT bo 1]) rfl A0 A0 rfl (EL [CT bo 1] (C6 rfl))) ?_;rintro _ _ ⟨gb,Sz,rfl,rfl⟩;refine Aj ?_;exact AU (vs:=[.slice (some ⟨gb,0,none⟩) 1 1,.bool true]) (l':=[Jb gb ([CT bo 1]:List (Ap)).flatten]++l) [] _ rfl .refl Ba (.trans (.of_perm (.refl _)) (Jc _ _ _)) ⟨_,[Jb gb ([CT bo 1]:List (Ap)).flatten],rfl,FD (rows:=[CT bo 1]) rfl (C6 rfl) A0,rfl⟩
 by_cases e9:op=9
 ·rw[Ad Af] at hR;subst hR;refine Aj ?_;refine AP (D5 (k:=4) (n:=1) (e:=183) (zs:=Rv) (cs:=([CT bo 1]:List (Ap)).flatten) (pvs:=EU 0 [CT bo 1]) rfl A0 A0 rfl (EL [CT bo 1] (C6 rfl))) ?_;rintro _ _ ⟨gb,Sz,rfl,rfl⟩;refine Aj ?_;exact AU (vs:=[.slice (some ⟨gb,0,none⟩) 1 1,.bool true]) (l':=[Jb gb ([CT bo 1]:List (Ap)).flatten]++l) [] _ rfl .refl Ba (.trans (.of_perm (.refl _)) (Jc _ _ _)) ⟨_,[Jb gb ([CT bo 1]:List (Ap)).flatten],rfl,FD (rows:=[CT bo 1]) rfl (C6 rfl) A0,rfl⟩
 by_cases v6:op=11
 ·rw[Ad Af] at hR;subst hR;refine Aj ?_;refine AP (D5 (k:=4) (n:=1) (e:=183) (zs:=Rv) (cs:=([CT bo 1]:List (Ap)).flatten) (pvs:=EU 0 [CT bo 1]) rfl A0 A0 rfl (EL [CT bo 1] (C6 rfl))) ?_;rintro _ _ ⟨gb,Sz,rfl,rfl⟩;refine Aj ?_;exact AU (vs:=[.slice (some ⟨gb,0,none⟩) 1 1,.bool true]) (l':=[Jb gb ([CT bo 1]:List (Ap)).flatten]++l) [] _ rfl .refl Ba (.trans (.of_perm (.refl _)) (Jc _ _ _)) ⟨_,[Jb gb ([CT bo 1]:List (Ap)).flatten],rfl,FD (rows:=[CT bo 1]) rfl (C6 rfl) A0,rfl⟩
 by_cases e21:op=21
 ·rw[Ad Af] at hR;subst hR;refine Aj ?_;refine AP (D5 (k:=4) (n:=1) (e:=183) (zs:=Rv) (cs:=([CT bo 1]:List (Ap)).flatten) (pvs:=EU 0 [CT bo 1]) rfl A0 A0 rfl (EL [CT bo 1] (C6 rfl))) ?_;rintro _ _ ⟨gb,Sz,rfl,rfl⟩;refine Aj ?_;exact AU (vs:=[.slice (some ⟨gb,0,none⟩) 1 1,.bool true]) (l':=[Jb gb ([CT bo 1]:List (Ap)).flatten]++l) [] _ rfl .refl Ba (.trans (.of_perm (.refl _)) (Jc _ _ _)) ⟨_,[Jb gb ([CT bo 1]:List (Ap)).flatten],rfl,FD (rows:=[CT bo 1]) rfl (C6 rfl) A0,rfl⟩
 by_cases vX:op=22
 ·rw[Ad Af] at hR;subst hR;refine Aj ?_;refine AP (D5 (k:=4) (n:=1) (e:=183) (zs:=Rv) (cs:=([CT bo 1]:List (Ap)).flatten) (pvs:=EU 0 [CT bo 1]) rfl A0 A0 rfl (EL [CT bo 1] (C6 rfl))) ?_;rintro _ _ ⟨gb,Sz,rfl,rfl⟩;refine Aj ?_;exact AU (vs:=[.slice (some ⟨gb,0,none⟩) 1 1,.bool true]) (l':=[Jb gb ([CT bo 1]:List (Ap)).flatten]++l) [] _ rfl .refl Ba (.trans (.of_perm (.refl _)) (Jc _ _ _)) ⟨_,[Jb gb ([CT bo 1]:List (Ap)).flatten],rfl,FD (rows:=[CT bo 1]) rfl (C6 rfl) A0,rfl⟩
 rw[Ab Af] at hR;by_cases e7:op=7
 ·rw[Ad Af] at hR;subst hR;refine Aj ?_;refine CC (Cy [6] 0 9) ?_;refine CG ?_;refine LP (D5 (k:=4) (n:=2) (e:=183) (zs:=Rv) (cs:=([CT bo 1,F9 bo 4 1 64]:List (Ap)).flatten) (pvs:=EU 0 [CT bo 1,F9 bo 4 1 64]) rfl A0 A0 rfl (EL [CT bo 1,F9 bo 4 1 64] (C6 rfl))) ?_;rintro _ _ ⟨gb,Sz,rfl,rfl⟩;refine CG ?_;refine Aj ?_;exact AU (vs:=[.slice (some ⟨gb,0,none⟩) 2 2,.bool true]) (l':=[Jb gb ([CT bo 1,F9 bo 4 1 64]:List (Ap)).flatten]++l) [] _ rfl .refl Ba (.trans (.of_perm (.refl _)) (Jc _ _ _)) ⟨_,[Jb gb ([CT bo 1,F9 bo 4 1 64]:List (Ap)).flatten],rfl,FD (rows:=[CT bo 1,F9 bo 4 1 64]) rfl (C6 rfl) A0,rfl⟩
 rw[Ab Af] at hR;by_cases e8:op=8
 ·rw[Ad Af] at hR;subst hR;refine Aj ?_;refine CC (Cy [6] 0 9) ?_;refine CG ?_;refine LP (D5 (k:=4) (n:=3) (e:=183) (zs:=Rv) (cs:=([CT bo 1,CT bo 2,Vy bo 7]:List (Ap)).flatten) (pvs:=EU 0 [CT bo 1,CT bo 2,Vy bo 7]) rfl A0 A0 rfl (EL [CT bo 1,CT bo 2,Vy bo 7] (C6 rfl))) ?_;rintro _ _ ⟨gb,Sz,rfl,rfl⟩;refine CG ?_;refine Aj ?_;exact AU (vs:=[.slice (some ⟨gb,0,none⟩) 3 3,.bool true]) (l':=[Jb gb ([CT bo 1,CT bo 2,Vy bo 7]:List (Ap)).flatten]++l) [] _ rfl .refl Ba (.trans (.of_perm (.refl _)) (Jc _ _ _)) ⟨_,[Jb gb ([CT bo 1,CT bo 2,Vy bo 7]:List (Ap)).flatten],rfl,FD (rows:=[CT bo 1,CT bo 2,Vy bo 7]) rfl (C6 rfl) A0,rfl⟩
 rw[Ab Af] at hR;by_cases vZ:op=10
 ·rw[Ad Af] at hR;subst hR;refine Aj ?_;refine CC (Cy [11] 0 14) ?_;refine CG ?_;refine LP (D5 (k:=4) (n:=4) (e:=183) (zs:=Rv) (cs:=([CT bo 1,CT bo 2,Vy bo 7,F9 bo 4 0 7]:List (Ap)).flatten) (pvs:=EU 0 [CT bo 1,CT bo 2,Vy bo 7,F9 bo 4 0 7]) rfl A0 A0 rfl (EL [CT bo 1,CT bo 2,Vy bo 7,F9 bo 4 0 7] (C6 rfl))) ?_;rintro _ _ ⟨gb,Sz,rfl,rfl⟩;refine CG ?_;refine Aj ?_;exact AU (vs:=[.slice (some ⟨gb,0,none⟩) 4 4,.bool true]) (l':=[Jb gb ([CT bo 1,CT bo 2,Vy bo 7,F9 bo 4 0 7]:List (Ap)).flatten]++l) [] _ rfl .refl Ba (.trans (.of_perm (.refl _)) (Jc _ _ _)) ⟨_,[Jb gb ([CT bo 1,CT bo 2,Vy bo 7,F9 bo 4 0 7]:List (Ap)).flatten],rfl,FD (rows:=[CT bo 1,CT bo 2,Vy bo 7,F9 bo 4 0 7]) rfl (C6 rfl) A0,rfl⟩
 rw[Ab Af] at hR;by_cases e14:op=14
 ·rw[Ad Af] at hR;subst hR;refine Aj ?_;refine L7 [(0,true),(1,true),(2,true),(3,true),(4,true),(5,true),(7,true),(6,false),(8,false),(9,false),(10,true),(11,true)] [[],[],[1],[1,2],[1,2,3],[1,2,3,4],[0,1,2,3,4,5],[],[1,2,3,4,5,7],[0,1,2,3,4,5,6,7,8],[0,1,2,3,4,5,6,7,8,9],[0,1,2,3,4,5,6,7,8,9,10]] 6 8 ([Jb b8 (CT bo 1)]) Bu Bu GO ((UV Ca)) ?_;refine BJ ?_;refine Wb ?_;refine BJ ?_;refine Oz [(8,false),(6,false),(9,false),(10,true),(11,true)] GO (List.Perm.swap _ _ _) Bu ?_ ?_
  case' refine_1=>
   refine CX (D5 (k:=4) (n:=2) (e:=183) (zs:=Rv) (cs:=([CT bo 1,F9 bo 4 0 4096]:List (Ap)).flatten) (pvs:=EU 0 ([CT bo 1,F9 bo 4 0 4096]:List (Ap))) rfl A0 A0 rfl (EL ([CT bo 1,F9 bo 4 0 4096]:List (Ap)) (C6 rfl))) rfl rfl rfl ?_ ?_
   ·rintro _ _ ⟨_,_,_,rfl⟩ c hc;exact .tail _ (UV Ca c hc)
   rintro _ _ ⟨g1,_,rfl,rfl⟩;refine CX (Az rfl rfl (Rk bo _)) rfl rfl rfl ?_ ?_
   ·rintro _ _ ⟨_,_,_,rfl⟩ c hc;exact .tail _ (UV Ca c hc)
   rintro _ _ ⟨g2,_,rfl,rfl⟩
  case' refine_2=>
   refine CX (Az rfl rfl (Rk bo _)) rfl rfl rfl ?_ ?_
   ·rintro _ _ ⟨_,_,_,rfl⟩ c hc;exact .tail _ (UV Ca c hc)
   rintro _ _ ⟨g2,_,rfl,rfl⟩;refine CX (D5 (k:=4) (n:=2) (e:=183) (zs:=Rv) (cs:=([CT bo 1,F9 bo 4 0 4096]:List (Ap)).flatten) (pvs:=EU 0 ([CT bo 1,F9 bo 4 0 4096]:List (Ap))) rfl A0 A0 rfl (EL ([CT bo 1,F9 bo 4 0 4096]:List (Ap)) (C6 rfl))) rfl rfl rfl ?_ ?_
   ·rintro _ _ ⟨_,_,_,rfl⟩ c hc;exact .tail _ (UV Ca c hc)
   rintro _ _ ⟨g1,_,rfl,rfl⟩
  all_goals
   refine CX (OpE.re (K':=λv l'=> ∃c2,OwnSl 183 4 v (2+4) (([CT bo 1,F9 bo 4 0 4096]:List (Ap)).flatten++(X9 bo).flatten) c2/\l'=c2++([Jb g2 (X9 bo).flatten]++(Jb b8 (CT bo 1)::Jb b9 (CT bo 2)::l))) (by first|exact Keep.of_perm (.swap _ _ _)|exact .refl) (R3 (k:=4) (n:=2) (m:=4) (xs:=([CT bo 1,F9 bo 4 0 4096]:List (Ap)).flatten) (ys:=(X9 bo).flatten) (zs:=Rv) (cs:=[Jb g1 ([CT bo 1,F9 bo 4 0 4096]:List (Ap)).flatten]) (cw:=[Jb g2 (X9 bo).flatten]) (F:=Jb b8 (CT bo 1)::Jb b9 (CT bo 2)::l) rfl rfl rfl (FD (rows:=([CT bo 1,F9 bo 4 0 4096]:List (Ap))) rfl (C6 rfl) A0) (FD (rows:=X9 bo) rfl (C6 rfl) A0) (pQ bo) Af Af A0) (λv l' ⟨c2,h1,h2⟩=>⟨l',.refl,c2,h1,h2⟩)) rfl rfl rfl ?_ ?_
   ·rintro v l' ⟨c2,_,rfl⟩ c hc;exact Aa _ (.tail _ (UV (.head _) c hc))
   rintro v _ ⟨c2,ho3,rfl⟩;refine BJ ?_;refine Aj ?_;exact CY (vs:=[v,.bool true]) (l':=c2++l) _ .refl (wY _ _ _) ⟨v,c2,rfl,ho3,rfl⟩
 by_cases e15:op=15
 ·rw[Ad Af] at hR;subst hR;refine Aj ?_;refine L7 [(0,true),(1,true),(2,true),(3,true),(4,true),(5,true),(7,true),(6,false),(8,false),(9,false),(10,true),(11,true)] [[],[],[1],[1,2],[1,2,3],[1,2,3,4],[0,1,2,3,4,5],[],[1,2,3,4,5,7],[0,1,2,3,4,5,6,7,8],[0,1,2,3,4,5,6,7,8,9],[0,1,2,3,4,5,6,7,8,9,10]] 6 8 ([Jb b8 (CT bo 1)]) Bu Bu GO ((UV Ca)) ?_;refine BJ ?_;refine Wb ?_;refine BJ ?_;refine Oz [(8,false),(6,false),(9,false),(10,true),(11,true)] GO (List.Perm.swap _ _ _) Bu ?_ ?_
  case' refine_1=>
   refine CX (D5 (k:=4) (n:=2) (e:=183) (zs:=Rv) (cs:=([CT bo 1,F9 bo 4 0 4096]:List (Ap)).flatten) (pvs:=EU 0 ([CT bo 1,F9 bo 4 0 4096]:List (Ap))) rfl A0 A0 rfl (EL ([CT bo 1,F9 bo 4 0 4096]:List (Ap)) (C6 rfl))) rfl rfl rfl ?_ ?_
   ·rintro _ _ ⟨_,_,_,rfl⟩ c hc;exact .tail _ (UV Ca c hc)
   rintro _ _ ⟨g1,_,rfl,rfl⟩;refine CX (Az rfl rfl (Rk bo _)) rfl rfl rfl ?_ ?_
   ·rintro _ _ ⟨_,_,_,rfl⟩ c hc;exact .tail _ (UV Ca c hc)
   rintro _ _ ⟨g2,_,rfl,rfl⟩
  case' refine_2=>
   refine CX (Az rfl rfl (Rk bo _)) rfl rfl rfl ?_ ?_
   ·rintro _ _ ⟨_,_,_,rfl⟩ c hc;exact .tail _ (UV Ca c hc)
   rintro _ _ ⟨g2,_,rfl,rfl⟩;refine CX (D5 (k:=4) (n:=2) (e:=183) (zs:=Rv) (cs:=([CT bo 1,F9 bo 4 0 4096]:List (Ap)).flatten) (pvs:=EU 0 ([CT bo 1,F9 bo 4 0 4096]:List (Ap))) rfl A0 A0 rfl (EL ([CT bo 1,F9 bo 4 0 4096]:List (Ap)) (C6 rfl))) rfl rfl rfl ?_ ?_
   ·rintro _ _ ⟨_,_,_,rfl⟩ c hc;exact .tail _ (UV Ca c hc)
   rintro _ _ ⟨g1,_,rfl,rfl⟩
  all_goals
   refine CX (OpE.re (K':=λv l'=> ∃c2,OwnSl 183 4 v (2+4) (([CT bo 1,F9 bo 4 0 4096]:List (Ap)).flatten++(X9 bo).flatten) c2/\l'=c2++([Jb g2 (X9 bo).flatten]++(Jb b8 (CT bo 1)::Jb b9 (CT bo 2)::l))) (by first|exact Keep.of_perm (.swap _ _ _)|exact .refl) (R3 (k:=4) (n:=2) (m:=4) (xs:=([CT bo 1,F9 bo 4 0 4096]:List (Ap)).flatten) (ys:=(X9 bo).flatten) (zs:=Rv) (cs:=[Jb g1 ([CT bo 1,F9 bo 4 0 4096]:List (Ap)).flatten]) (cw:=[Jb g2 (X9 bo).flatten]) (F:=Jb b8 (CT bo 1)::Jb b9 (CT bo 2)::l) rfl rfl rfl (FD (rows:=([CT bo 1,F9 bo 4 0 4096]:List (Ap))) rfl (C6 rfl) A0) (FD (rows:=X9 bo) rfl (C6 rfl) A0) (pQ bo) Af Af A0) (λv l' ⟨c2,h1,h2⟩=>⟨l',.refl,c2,h1,h2⟩)) rfl rfl rfl ?_ ?_
   ·rintro v l' ⟨c2,_,rfl⟩ c hc;exact Aa _ (.tail _ (UV (.head _) c hc))
   rintro v _ ⟨c2,ho3,rfl⟩;refine BJ ?_;refine Aj ?_;exact CY (vs:=[v,.bool true]) (l':=c2++l) _ .refl (wY _ _ _) ⟨v,c2,rfl,ho3,rfl⟩
 rw[Ab Af] at hR;by_cases e16:op=16
 ·rw[Ad Af] at hR;subst hR;refine Aj ?_;refine CC (Cy [6] 0 9) ?_;refine CG ?_;refine LP (D5 (k:=4) (n:=2) (e:=183) (zs:=Rv) (cs:=([CT bo 1,F9 bo 4 0 4096]:List (Ap)).flatten) (pvs:=EU 0 [CT bo 1,F9 bo 4 0 4096]) rfl A0 A0 rfl (EL [CT bo 1,F9 bo 4 0 4096] (C6 rfl))) ?_;rintro _ _ ⟨gb,Sz,rfl,rfl⟩;refine CG ?_;refine Aj ?_;exact AU (vs:=[.slice (some ⟨gb,0,none⟩) 2 2,.bool true]) (l':=[Jb gb ([CT bo 1,F9 bo 4 0 4096]:List (Ap)).flatten]++l) [] _ rfl .refl Ba (.trans (.of_perm (.refl _)) (Jc _ _ _)) ⟨_,[Jb gb ([CT bo 1,F9 bo 4 0 4096]:List (Ap)).flatten],rfl,FD (rows:=[CT bo 1,F9 bo 4 0 4096]) rfl (C6 rfl) A0,rfl⟩
 rw[Ab Af] at hR;by_cases e17:op=17
 ·rw[Ad Af] at hR;subst hR;refine Aj ?_;refine AP (Az rfl rfl (Rk bo _)) ?_;rintro _ _ ⟨gb,Sz,rfl,rfl⟩;refine Aj ?_;exact AU (vs:=[.slice (some ⟨gb,0,none⟩) 4 4,.bool true]) (l':=[Jb gb (X9 bo).flatten]++l) [] _ rfl .refl Ba (Jc _ _ _) ⟨_,[Jb gb (X9 bo).flatten],rfl,FD (rows:=X9 bo) rfl (C6 rfl) A0,rfl⟩
 rw[Ab Af] at hR;by_cases e18:op=18
 ·rw[Ad Af] at hR;subst hR;refine Aj ?_;exact CY (vs:=[.slice none 0 0,.bool true]) _ .refl θ ⟨_,[],rfl,OwnSl.nil _ _,rfl⟩
 rw[Ab Af] at hR;by_cases yp:op=19
 ·rw[Ad Af] at hR;subst hR;refine Aj ?_;refine CC (Cy [7] 0 10) ?_;refine CG ?_;refine LP (D5 (k:=4) (n:=3) (e:=183) (zs:=Rv) (cs:=([CT bo 1,F9 bo 4 0 2,CT bo 2]:List (Ap)).flatten) (pvs:=EU 0 [CT bo 1,F9 bo 4 0 2,CT bo 2]) rfl A0 A0 rfl (EL [CT bo 1,F9 bo 4 0 2,CT bo 2] (C6 rfl))) ?_;rintro _ _ ⟨gb,Sz,rfl,rfl⟩;refine CG ?_;refine Aj ?_;exact AU (vs:=[.slice (some ⟨gb,0,none⟩) 3 3,.bool true]) (l':=[Jb gb ([CT bo 1,F9 bo 4 0 2,CT bo 2]:List (Ap)).flatten]++l) [] _ rfl .refl Ba (.trans (.of_perm (.refl _)) (Jc _ _ _)) ⟨_,[Jb gb ([CT bo 1,F9 bo 4 0 2,CT bo 2]:List (Ap)).flatten],rfl,FD (rows:=[CT bo 1,F9 bo 4 0 2,CT bo 2]) rfl (C6 rfl) A0,rfl⟩
 rw[Ab Af] at hR;by_cases e20:op=20
 ·rw[Ad Af] at hR;subst hR;refine Aj ?_;refine CC (Cy [6] 0 9) ?_;refine CG ?_;refine LP (D5 (k:=4) (n:=2) (e:=183) (zs:=Rv) (cs:=([CT bo 1,F9 bo 4 0 2]:List (Ap)).flatten) (pvs:=EU 0 [CT bo 1,F9 bo 4 0 2]) rfl A0 A0 rfl (EL [CT bo 1,F9 bo 4 0 2] (C6 rfl))) ?_;rintro _ _ ⟨gb,Sz,rfl,rfl⟩;refine CG ?_;refine Aj ?_;exact AU (vs:=[.slice (some ⟨gb,0,none⟩) 2 2,.bool true]) (l':=[Jb gb ([CT bo 1,F9 bo 4 0 2]:List (Ap)).flatten]++l) [] _ rfl .refl Ba (.trans (.of_perm (.refl _)) (Jc _ _ _)) ⟨_,[Jb gb ([CT bo 1,F9 bo 4 0 2]:List (Ap)).flatten],rfl,FD (rows:=[CT bo 1,F9 bo 4 0 2]) rfl (C6 rfl) A0,rfl⟩
 rw[Ab Af] at hR;by_cases e23:op=23
 ·rw[Ad Af] at hR;subst hR;refine Aj ?_;refine CC (Cy [6] 0 9) ?_;refine CG ?_;refine LP (D5 (k:=4) (n:=2) (e:=183) (zs:=Rv) (cs:=([CT bo 1,F9 bo 4 0 7]:List (Ap)).flatten) (pvs:=EU 0 [CT bo 1,F9 bo 4 0 7]) rfl A0 A0 rfl (EL [CT bo 1,F9 bo 4 0 7] (C6 rfl))) ?_;rintro _ _ ⟨gb,Sz,rfl,rfl⟩;refine CG ?_;refine Aj ?_;exact AU (vs:=[.slice (some ⟨gb,0,none⟩) 2 2,.bool true]) (l':=[Jb gb ([CT bo 1,F9 bo 4 0 7]:List (Ap)).flatten]++l) [] _ rfl .refl Ba (.trans (.of_perm (.refl _)) (Jc _ _ _)) ⟨_,[Jb gb ([CT bo 1,F9 bo 4 0 7]:List (Ap)).flatten],rfl,FD (rows:=[CT bo 1,F9 bo 4 0 7]) rfl (C6 rfl) A0,rfl⟩
 rw[Ab Af] at hR;subst hR;refine Aj ?_;exact CY _ .refl θ ⟨rfl,rfl⟩
def GU(c:N0):A8:=[c.a0,c.a1,c.a2,c.a3,c.a4,c.a5]
def ah(c:N0)(gb n m:Nat):List (Int×Value):=(List.range m).map λi:Nat=>((GU c).getD i 0,if i<n then .pointer (some ⟨gb,i*4,none⟩) else .pointer none)
theorem ai(c:N0)(gb n:Nat)(h:i<=m):(ah c gb n m).take i=ah c gb n i:=by unfold ah;rw[<-Hm,Hg,EX h]
theorem U1(c:N0)(gb n m:Nat):ah c gb n (m+1)=ah c gb n m++[((GU c).getD m 0,if m<n then .pointer (some ⟨gb,m*4,none⟩) else .pointer none)]:=by unfold ah;rw[Cx,At];rfl
theorem gQ(c:N0)(gb n:Nat)(h:i<m):ah c gb n i++[((GU c).getD i 0,if i<n then .pointer (some ⟨gb,i*4,none⟩) else .pointer none)]<+:ah c gb n m:=by rw[<-U1,<-ai c gb n (show i+1<=m by omega)];exact BL _ _
abbrev wrV(x:Int×Value):Ap:=[Bb x.1,x.2]
abbrev clB(B:Nat)(c:N0):Bh:=(B,.cells (τ (k9 c)) 37 (0,0))
abbrev fsB(B:Nat)(v:Value):Bh:=(B,.cells (τ [v]) 172 (0,0))
theorem ka(c:N0)(v:Value)(hv:v.oneCell'=true)(l:Ac):Fn prog 82 [rq c,v] l λv' l'=> ∃B1 B2,v'= .func (.func 125) #[] #[pV B1,pV B2]/\l'=fsB B2 v::clB B1 c::l:=by refine AO func82 ntmps82 λE=>?_;refine AR λb1=>?_;refine AP (EA rfl hv) ?_;rintro _ _ ⟨b2,_,rfl,rfl⟩;refine Aj ?_;exact Bc .refl ⟨_,_,rfl,rfl⟩
theorem dI(B1 B2 gb n cap:Nat)(pp:Option Addr)(c:N0)(hp:0<n->pp=some ⟨gb,0,none⟩)(hn:n<=100):
 FN prog 125 [pV B1,pV B2] wrV (λxs=>xs=ah c gb n 6) (λpre=>pre<+:ah c gb n 6) (λ_ l=>clB B1 c∈l/\fsB B2 (.slice pp n cap)∈l):=by
 refine⟨λr I Ix G0 Cf hY l G hG h0=>?_⟩;obtain⟨n1,n2⟩:=Cf _ _ G hG h0;refine AO func125 ntmps125 λE=>?_;refine Aj ?_;refine CF (α:=Nat×Ac) (λx=>[(0,.func (.yield r) #[] #[]),(1,pV B1),(2,pV B2),(8,.agg (τ [Bb c.a0,Bb c.a1,Bb c.a2,Bb c.a3,Bb c.a4,Bb c.a5])),(9,ι x.1)]) (λx=>x.2++G) (λx=>x.1<=6/\I (ah c gb n x.1) x.2) (λx=>6-x.1) (0,l) ⟨Bm _,h0⟩ ⟨rfl,rfl,rfl,rfl,rfl,trivial⟩ .refl ?_;clear n1 n2;rintro⟨k,l⟩ ⟨hk,hI⟩;simp only at hk hI⊢;obtain⟨n1,n2⟩:=Cf _ _ G hG hI;by_cases C7:k<6
 ·have hy:=hY (ah c gb n k) _ l G hG hI (gQ c gb n C7);obtain⟨w,hw⟩:=ξ ((GU c).getD k 0)
  obtain⟨q,hq⟩: ∃q:Value,(if k<n then .pointer (some ⟨gb,k*4,none⟩) else .pointer none)=q:=⟨_,rfl⟩
  have P1:=gQ c gb n C7;rw[hw,hq] at hy P1;have hs:ah c gb n (k+1)=ah c gb n k++[(w,q)]:=by rw[U1,hw,hq]
  have hv:(τ [Bb c.a0,Bb c.a1,Bb c.a2,Bb c.a3,Bb c.a4,Bb c.a5])[k]?=some (Bb w):=by
   rw[<-hw];have:k=0\/k=1\/k=2\/k=3\/k=4\/k=5:=by omega
   rcases this with rfl|rfl|rfl|rfl|rfl|rfl<;>rfl
  refine Aj ?_;refine wn (v:=Bb w) (by refine XY (m:=k) rfl rfl rfl C7 hv) rfl rfl rfl ?_;by_cases vV:k<n
  case' pos=>
   obtain rfl:=hp Af;rw[Ad vV] at hq;subst hq;refine Aj ?_
  case' neg=>
   rw[Ab vV] at hq;subst hq;refine Aj ?_
  all_goals
   refine AP (C8 rfl rfl hy) ?_;rintro v l' ⟨l1,rfl,⟨rfl,Kz⟩|⟨rfl,hx⟩⟩
   ·rw[<-hs] at Kz;refine Aj ?_;exact BZ (k+1,l1) ⟨by simp only;omega,Kz⟩ (by simp only;omega) ⟨rfl,rfl,rfl,rfl,rfl,trivial⟩ .refl
   ·refine Aj ?_;exact Bc .refl ⟨l1,rfl,.inr ⟨_,P1,hx⟩⟩
 ·obtain rfl:k=6:=by omega
  refine Aj ?_;exact Bc .refl ⟨l,rfl,.inl ⟨_,rfl,hI⟩⟩
abbrev Ji:Ja:=⟨0,0,0,0,0,0,0,0,⟨0,0,0,0⟩⟩
def Mo(o:Ja)(i:Nat)(x:Int):Ja:=
 match i with
 |1=>{o with a:=x}
 |2=>{o with b:=x}
 |4=>{o with n0:=x}
 |5=>{o with n1:=x}
 |6=>{o with n2:=x}
 |7=>{o with w:=x}
 |8=>{o with ms:={o.ms with a:=x}}
 |9=>{o with ms:={o.ms with b:=x}}
 |10=>{o with ms:={o.ms with c:=x}}
 |11=>{o with ms:={o.ms with d:=x}}
 |_=>o
theorem uH(h:i=1\/i=2\/i=4\/i=5\/i=6):SJ (Mo o i x)=(SJ o).set i (iV x):=by rcases h with rfl|rfl|rfl|rfl|rfl<;>rfl
theorem uI(h:i=7\/i=8\/i=9\/i=10\/i=11):SJ (Mo o i x)=(SJ o).set i (Bb x):=by rcases h with rfl|rfl|rfl|rfl|rfl<;>rfl
def GZ(o:Ja)(cn:Int)(f:FoT)(x:Int):Ja×Int:=match f.at' with
 |none=>(o,x)
 |some i=>(Mo o i x,cn)
def VQ(c:N0)(L:List FoT):List Nat->Ja->Int->Int->(Ja×Int)×Int
 |[],o,cn,e=>((o,cn),e)
 |i::r,o,cn,e=>match L[i]? with
  |none=>if(GU c).getD i 0=0 then VQ c L r o cn e else((o,cn),2)
  |some f=>if(GU c).getD i 0<f.le\/f.mo<(GU c).getD i 0 then VQ c L r o cn 3 else VQ c L r (GZ o cn f ((GU c).getD i 0)).1 (GZ o cn f ((GU c).getD i 0)).2 e
def U2(c:N0)(q:(Ja×Int)×Int):Ja×Int:=if q.2=0 then({q.1.1 with op:=c.op,n2:=q.1.1.n2+16*q.1.2},0) else(Ji,q.2)
def BW(c:N0):Ja×Int:=match PI c.op with
 |none=>(Ji,2)
 |some L=>if c.op=1/\X6 c=false then(Ji,2) else U2 c (VQ c L (List.range 6) Ji 0 0)
def Pa(f:FoT):Bool:=match f.at' with
 |none=>!f.wd&&decide (0<=f.le)&&decide (f.mo<=1000000)
 |some i=>if f.wd=true then[7,8,9,10,11].contains i else[1,2,4,5,6].contains i&&decide (0<=f.le)&&decide (f.mo<=1000000)
theorem dJ{op:Int}(h:PI op=some L):L.all Pa=true/\L.length<=6:=by
 unfold PI at h;by_cases h0:op=1
 ·rw[Ad h0] at h;obtain rfl:=AZ h;exact⟨rfl,by decide⟩
 rw[Ab h0] at h;by_cases h1:op=2
 ·rw[Ad h1] at h;obtain rfl:=AZ h;exact⟨rfl,by decide⟩
 rw[Ab h1] at h;by_cases h2:op=3
 ·rw[Ad h2] at h;obtain rfl:=AZ h;exact⟨rfl,by decide⟩
 rw[Ab h2] at h;by_cases h3:op=4\/op=5\/op=12\/op=13
 ·rw[Ad h3] at h;obtain rfl:=AZ h;exact⟨rfl,by decide⟩
 rw[Ab h3] at h;by_cases h4:op=6\/op=9\/op=11\/op=21\/op=22
 ·rw[Ad h4] at h;obtain rfl:=AZ h;exact⟨rfl,by decide⟩
 rw[Ab h4] at h;by_cases h5:op=7
 ·rw[Ad h5] at h;obtain rfl:=AZ h;exact⟨rfl,by decide⟩
 rw[Ab h5] at h;by_cases h6:op=8
 ·rw[Ad h6] at h;obtain rfl:=AZ h;exact⟨rfl,by decide⟩
 rw[Ab h6] at h;by_cases h7:op=10
 ·rw[Ad h7] at h;obtain rfl:=AZ h;exact⟨rfl,by decide⟩
 rw[Ab h7] at h;by_cases h8:op=14\/op=15
 ·rw[Ad h8] at h;obtain rfl:=AZ h;exact⟨rfl,by decide⟩
 rw[Ab h8] at h;by_cases h9:op=16
 ·rw[Ad h9] at h;obtain rfl:=AZ h;exact⟨rfl,by decide⟩
 rw[Ab h9] at h;by_cases VA:op=17
 ·rw[Ad VA] at h;obtain rfl:=AZ h;exact⟨rfl,by decide⟩
 rw[Ab VA] at h;by_cases kS:op=18
 ·rw[Ad kS] at h;obtain rfl:=AZ h;exact⟨rfl,by decide⟩
 rw[Ab kS] at h;by_cases iy:op=19
 ·rw[Ad iy] at h;obtain rfl:=AZ h;exact⟨rfl,by decide⟩
 rw[Ab iy] at h;by_cases h13:op=20
 ·rw[Ad h13] at h;obtain rfl:=AZ h;exact⟨rfl,by decide⟩
 rw[Ab h13] at h;by_cases vT:op=23
 ·rw[Ad vT] at h;obtain rfl:=AZ h;exact⟨rfl,by decide⟩
 rw[Ab vT] at h;cases h
section
variable{Q2:Exit->Act->World->Prop}{Q1:Act->World->Prop}{c:Code}{fr:Fr}{l:Ac}
def wZ(N:Nat)(E:World){α:Type}(fx:α->Fr)(dx:α->List Deferred)(lx:α->Ac)(pre:α->Prop)(a:Act)(W:World):Prop:=
 ∃y,pre y/\FSat N (fx y) a/\a.defers=dx y/\Sat E (lx y) W
theorem Aae(fx:α->Fr)(dx:α->List Deferred)(lx:α->Ac)(pre:α->Prop)(h1:BS P ro N E c (Exit.then (wZ N E fx dx lx pre) Q2) fr ds l)(h2: ∀x,pre x->C3 N E (Exit.then Q1 Q2) .normal (fx x) (dx x) (lx x)):BS P ro N E c (Exit.then Q1 Q2) fr ds l:=
 ⟨λa W hf hds hs=>wpIn_mono (h1.run a W hf hds hs) λe a' W' h=>by
   cases e with
   |normal=>obtain⟨y,h3,h4,h5,h6⟩:=h;exact(h2 y h3).run a' W' h4 h5 h6
   |_=>exact h⟩
theorem gR{fx:α->Fr}{dx:α->List Deferred}{lx:α->Ac}{pre:α->Prop}(y:α)(h1:pre y)(h2:ds=dx y)(h3:FSub (fx y) fr)(h4:Keep l (lx y)):C3 N E (Exit.then (wZ N E fx dx lx pre) Q) .normal fr ds l:=
 ⟨λa W hf hds hs=>⟨y,h1,hf.sub h3.spec,hds.trans h2,h4.sat hs⟩⟩
end
abbrev Iv(B:Nat)(o:Ja):Bh:=(B,.cells (τ (SJ o)) 57 (0,0))
abbrev Qm(B:Nat)(x:Int):Bh:=(B,.cells (τ [iV x]) 29 (0,0))
theorem uJ{c d:Bh}{l:Ac}:(A++(a::b::c::d::l)).Perm (a::b::c::d::(A++l)):=δ
theorem gS{enc:α->Ap}(hk: ∀x,(enc x).length=k){xs:List α}{x:α}(h:xs[i]?=some x)(sp:Ap):i*k+k<=(τ (xs.flatMap enc++sp)).size/\(τ (xs.flatMap enc++sp)).extract (i*k) (i*k+k)=τ (enc x):=by obtain⟨h1,h2⟩:=Lr hk sp xs i x h;refine⟨by rw[Bz];exact h2,?_⟩;rw[Fi,Co,CN];exact BM τ h1
theorem Agv(h:k<6):(List.range 6).drop k=k::(List.range 6).drop (k+1):=by
 have:k=0\/k=1\/k=2\/k=3\/k=4\/k=5:=by omega
 rcases this with rfl|rfl|rfl|rfl|rfl|rfl<;>rfl
theorem gT(c:N0)(gb n m:Nat):(ah c gb n m).length=m:=by unfold ah;simp
theorem Aaf{pre:List (Int×Value)}{x:Int×Value}(h:pre++[x]<+:ah c gb n 6):pre.length<6/\(GU c).getD pre.length 0=x.1/\(if pre.length<n then .pointer (some ⟨gb,pre.length*4,none⟩) else .pointer none)=x.2:=by have hl:=h.length_le;rw[gT,Ah,Bk] at hl;have h2:=I6.1 h;rw[ai c gb n (by simp;omega),Ah,Bk,U1] at h2;obtain⟨h3,h4⟩:=JW h2 rfl;have h5:=List.singleton_inj.1 h4;rw[h5];exact⟨Af,rfl,rfl⟩
theorem pR{op:Int}(h:PI op=some L):1<=op/\op<=23:=by
 by_cases hr:1<=op/\op<=23
 ·exact hr
 ·exfalso;unfold PI at h
  repeat rw[Ab Af] at h
  cases h
theorem Rl(c:N0)(L:List FoT)(i:Nat)(r:List Nat)(o:Ja)(cn e:Int):VQ c L (i::r) o cn e=match L[i]? with
 |none=>if(GU c).getD i 0=0 then VQ c L r o cn e else((o,cn),2)
 |some f=>if(GU c).getD i 0<f.le\/f.mo<(GU c).getD i 0 then VQ c L r o cn 3 else VQ c L r (GZ o cn f ((GU c).getD i 0)).1 (GZ o cn f ((GU c).getD i 0)).2 e:=rfl
theorem pS(h:Pa f=true)(ha:f.at'=some i):(f.wd=true/\(i=7\/i=8\/i=9\/i=10\/i=11))\/(f.wd=false/\(i=1\/i=2\/i=4\/i=5\/i=6)):=by
 unfold Pa at h;rw[ha] at h;dsimp only at h;cases hw:f.wd
 ·rw[hw] at h;simp at h;exact .inr ⟨rfl,Af⟩
 ·rw[hw] at h;simp at h;exact .inl ⟨rfl,Af⟩
theorem w9(h:Pa f=true)(ha:f.at'=none):f.wd=false:=by
 unfold Pa at h;rw[ha] at h;dsimp only at h;cases hw:f.wd
 ·rfl
 ·rw[hw] at h;simp at h
theorem pT(h:Pa f=true)(hw:f.wd=false):0<=f.le/\f.mo<=1000000:=by
 unfold Pa at h;rw[hw] at h;cases ha:f.at' with
 |none=>rw[ha] at h;simp only[Hy,BA,AM,A3] at h;exact h
 |some i=>rw[ha] at h;dsimp only at h;rw[Ab A0] at h;simp only[AM,A3] at h;exact⟨h.1.2,h.2⟩
def DcB(o:Ja)(cn:Int):Prop:=(0<=cn/\cn<=1000000)/\(0<=o.n2/\o.n2<=1000000)
theorem DcB.put(h:DcB o cn)(hf:Pa f=true)(h1:¬(x<f.le\/f.mo<x)):DcB (GZ o cn f x).1 (GZ o cn f x).2:=by
 obtain⟨h2,h3⟩:=h;unfold Pa at hf;unfold GZ;cases ha:f.at' with
 |none=>rw[ha] at hf;simp only[AM,A3] at hf;exact⟨by constructor<;>dsimp only<;>omega,h3⟩
 |some i=>
  rw[ha] at hf;dsimp only at hf⊢;refine⟨h2,?_⟩;unfold Mo
  repeat' split
  all_goals first
   |exact h3
   |(dsimp only
     cases hw:f.wd<;>rw[hw] at hf<;>simp at hf;omega)
theorem dK(c:N0)(hc:CL c)(k:Nat):Jj ((GU c).getD k 0):=by
 match k with
 |0=>exact hc.a0
 |1=>exact hc.a1
 |2=>exact hc.a2
 |3=>exact hc.a3
 |4=>exact hc.a4
 |5=>exact hc.a5
 |k+6=>exact⟨by simp[GU],by simp[GU]⟩
theorem U3(c:N0)(hc:CL c)(l:Ac):Fn prog 56 [rq c] l λv l'=>v= .tuple #[.agg (τ (SJ (BW c).1)),iV (BW c).2]/\l'=l:=by
 obtain⟨R,hR⟩:=ξ (BW c)
 rw[hR];unfold BW at hR;have huo:Jj c.op:=hc.op;obtain⟨u1,u2⟩:=huo;refine AO func56 ntmps56 λE=>?_;refine AR λb1=>?_;refine AR λb2=>?_;refine AR λb4=>?_;refine AR λb5=>?_;refine AP (Az rfl rfl (WS c.op b4 b5 _)) ?_;cases hL:PI c.op with
 |none=>rw[hL] at hR;subst hR;rintro _ _ ⟨rfl,rfl⟩;refine Aj ?_;exact AU (vs:=[.agg (τ (SJ Ji)),iV 2]) [] _ rfl .refl (B0 rfl ω (As.LSub.of_all (n:=12) (SJ Ji) rfl) Ba) φ ⟨rfl,rfl⟩
 |some L=>
 rw[hL] at hR;obtain⟨Dh,Ef⟩:=dJ hL;rintro _ _ ⟨sl,cs,rfl,N6,rfl⟩;obtain⟨pp,cap,rfl⟩:=N6.shape;refine Bt (.of_perm (uJ (a:=BX b5 0) (b:=Iv b4 Ji) (c:=Iv b2 Ji) (d:=clB b1 c))) ?_;refine Aj ?_;dsimp only at hR;by_cases h1:c.op=1/\X6 c=false
 ·rw[Ad h1] at hR;subst hR;obtain⟨h2,h3⟩:=h1;refine Aj ?_;refine EO (vs:=[rq c]) ?_;rw[h3];refine Aj ?_;exact AU (vs:=[.agg (τ (SJ Ji)),iV 2]) [] _ rfl .refl (B0 rfl ω (As.LSub.of_all (n:=12) (SJ Ji) rfl) Ba) (.drop (.drop (.drop (.drop (Keep.dropL' cs .refl))))) ⟨rfl,rfl⟩
 rw[Ab h1] at hR;obtain⟨gb,sp,hp,hg⟩: ∃gb sp,(0<L.length->pp=some ⟨gb,0,none⟩)/\(0<L.length->cs=[Jb gb (L.flatMap (Vx b4 b5)++sp)]):=by
  by_cases h0:0<L.length
  ·obtain⟨gb,cap2,sp,h2,h3⟩:=NO N6 h0;exact⟨gb,sp,λ_=>by simpa using BM (λv=>match v with|Value.slice p _ _=>p|_=>none) h2,λ_=>h3⟩
  ·exact⟨0,[],λh=>absurd h h0,λh=>absurd h h0⟩
 have Aft:c.op=1->X6 c=true:=λh=>by cases ho:X6 c with|true=>rfl|false=>exact absurd ⟨h,ho⟩ h1
 by_cases R7:c.op=1
 case' pos=>
  have ho:=Aft R7;refine Aj ?_;refine EO (vs:=[rq c]) ?_;rw[ho];refine Aj ?_
 case' neg=>
  refine Aj ?_
 all_goals
  refine AR λb8=>?_;refine AP (Az rfl rfl (ka c (.slice pp L.length cap) rfl _)) ?_;rintro _ _ ⟨B1,B2,rfl,rfl⟩;refine VW ?_;refine Ou ?_;refine Aae (α:=Nat×(Ja×Int)×Int) (λz=>[(1,pV b1),(2,pV b2),(4,pV b4),(5,pV b5),(8,pV b8)]) (λz=>[HJ z.1]) (λz=>Cv z.1::Qm b8 z.2.2::BX b5 z.2.1.2::Iv b4 z.2.1.1::Iv b2 Ji::clB b1 c::(cs++l)) (λz=>VQ c L (List.range 6) Ji 0 0=z.2/\DcB z.2.1.1 z.2.1.2) ?_ ?_
  ·refine Qz ?_;refine Dj (α:=Int×Value) (ps:=[33,34]) (lb:=[pV B1,pV B2]) rfl (dI B1 B2 gb L.length cap pp c hp Af) (λ_=>rfl) rfl
    (λpre l1=> ∃o cn e,VQ c L (List.range 6) Ji 0 0=VQ c L ((List.range 6).drop pre.length) o cn e/\DcB o cn/\l1=[Qm b8 e,BX b5 cn,Iv b4 o])
    (λc' pre l1=>c'= .exit 0/\ ∃o cn,VQ c L (List.range 6) Ji 0 0=((o,cn),2)/\DcB o cn/\l1=[Qm b8 2,BX b5 cn,Iv b4 o])
    [Qm b8 0,BX b5 0,Iv b4 Ji] ([fsB B2 (.slice pp L.length cap),clB B1 c,Iv b2 Ji,clB b1 c]++(cs++l)) (λpre l1 X hX h=>⟨Aa _ (hX _ ν),Aa _ (hX _ (.head _))⟩) AY ⟨Ji,0,0,rfl,⟨by decide,by decide⟩,rfl⟩ ?_ ?_ ?_
   ·rintro E r0 Gb pre ⟨w,q⟩ l1 T ⟨fn,tmps,D,rfl⟩ hT ⟨o,cn,e,R8,hb,rfl⟩ DG;obtain⟨hk,hw,hq⟩:=Aaf DG;simp only at hw hq;obtain⟨uw1,uw2⟩:=dK c hc pre.length;rw[hw] at uw1 uw2;rw[Agv hk,Rl,hw] at R8;simp only[DY,Ae,Ag];refine Aj ?_;refine CP D1 ?_;by_cases vV:pre.length<L.length
    ·rw[Ad vV] at hq;subst hq;obtain⟨f,hf⟩: ∃f,L[pre.length]?=some f:=⟨_,Ak vV⟩
     have vK:=AS.1 Dh f (Bg hf);rw[hf] at R8;dsimp only at R8;have mg:Jb gb (L.flatMap (Vx b4 b5)++sp)∈T:=hT _ (by rw[hg Af];simp);obtain⟨x1,x2⟩:=gS (k:=4) (enc:=Vx b4 b5) (λ_=>rfl) hf sp;have z0:(τ (L.flatMap (Vx b4 b5)++sp))[pre.length*4]?=some (Bb f.le):=ny x2 x1 (j:=0) A0 rfl;have z1:(τ (L.flatMap (Vx b4 b5)++sp))[pre.length*4+1]?=some (Bb f.mo):=ny x2 x1 (j:=1) A0 rfl;by_cases C7:w<f.le
     ·rw[Ad (.inl C7)] at R8;refine Aj ?_;exact Cn [Qm b8 3,BX b5 cn,Iv b4 o] AY ⟨o,cn,3,by rw[R8,Ah];rfl,hb,rfl⟩
     by_cases YB:f.mo<w
     ·rw[Ad (.inr YB)] at R8;refine Aj ?_;exact Cn [Qm b8 3,BX b5 cn,Iv b4 o] AY ⟨o,cn,3,by rw[R8,Ah];rfl,hb,rfl⟩
     have MK:¬(w<f.le\/f.mo<w):=by omega
     rw[Ab MK] at R8;have W7:=hb.put vK MK;cases ha:f.at' with
     |none=>
      have rI:f.wd=false:=w9 vK ha;obtain⟨r1,r2⟩:=pT vK rI;have hfc:Vx b4 b5 f=[Bb f.le,Bb f.mo,π b5,.pointer none]:=by unfold Vx;rw[rI,ha];rfl
      have hpf:GZ o cn f w=(o,w):=by unfold GZ;rw[ha]
      rw[hfc] at x2;rw[hpf] at R8 W7;refine Aj ?_;refine Be (Dp rfl Ca x1 x2) ?_;refine Aj ?_;refine Bt (l':=BX b5 cn::Qm b8 e::Iv b4 o::(r0,_)::T) AY ?_;refine AP (Az (vs:=[fnV f.le f.mo b5 0,Bb w]) rfl rfl (ag f.le f.mo b5 0 [iV cn] 3 w ⟨Af,Af⟩ Nat.one_pos _)) ?_;rintro _ _ ⟨rfl,rfl⟩;refine Aj ?_;exact Cn [Qm b8 e,BX b5 w,Iv b4 o] AY ⟨o,w,e,by rw[R8,Ah];rfl,W7,rfl⟩
     |some i=>
      have hpf:GZ o cn f w=(Mo o i w,cn):=by unfold GZ;rw[ha]
      rw[hpf] at R8 W7;rcases pS vK ha with⟨rI,hi⟩|⟨rI,hi⟩
      ·have hfc:Vx b4 b5 f=[Bb f.le,Bb f.mo,.pointer none,.pointer (some ⟨b4,i,none⟩)]:=by unfold Vx;rw[rI,ha];rfl
       rw[hfc] at x2;refine Aj ?_;refine Be (Dp rfl Ca x1 x2) ?_;refine Aj ?_;refine Bt (l':=Iv b4 o::Qm b8 e::BX b5 cn::(r0,_)::T) AY ?_;refine AP (Az (vs:=[fwV f.le f.mo b4 i,Bb w]) rfl rfl (pP f.le f.mo b4 i (SJ o) 57 w (by simp;omega) _)) ?_;rintro _ _ ⟨rfl,rfl⟩;rw[<-uI hi];refine Aj ?_;exact Cn [Qm b8 e,BX b5 cn,Iv b4 (Mo o i w)] AY ⟨Mo o i w,cn,e,by rw[R8,Ah];rfl,W7,rfl⟩
      ·obtain⟨r1,r2⟩:=pT vK rI;have hfc:Vx b4 b5 f=[Bb f.le,Bb f.mo,.pointer (some ⟨b4,i,none⟩),.pointer none]:=by unfold Vx;rw[rI,ha];rfl
       rw[hfc] at x2;refine Aj ?_;refine Be (Dp rfl Ca x1 x2) ?_;refine Aj ?_;refine Bt (l':=Iv b4 o::Qm b8 e::BX b5 cn::(r0,_)::T) AY ?_;refine AP (Az (vs:=[fnV f.le f.mo b4 i,Bb w]) rfl rfl (ag f.le f.mo b4 i (SJ o) 57 w ⟨Af,Af⟩ (by simp;omega) _)) ?_;rintro _ _ ⟨rfl,rfl⟩;rw[<-uH hi];refine Aj ?_;exact Cn [Qm b8 e,BX b5 cn,Iv b4 (Mo o i w)] AY ⟨Mo o i w,cn,e,by rw[R8,Ah];rfl,W7,rfl⟩
    ·rw[Ab vV] at hq;subst hq;rw[Bi Af] at R8;dsimp only at R8;by_cases hw0:w=0
     ·rw[Ad hw0] at R8;refine Aj ?_;exact Cn [Qm b8 e,BX b5 cn,Iv b4 o] AY ⟨o,cn,e,by rw[R8,Ah];rfl,hb,rfl⟩
     ·rw[Ab hw0] at R8;refine Aj ?_;exact Fe [Qm b8 2,BX b5 cn,Iv b4 o] AY ⟨rfl,o,cn,R8,hb,rfl⟩
   ·rintro D xs l1 rfl ⟨o,cn,e,R8,hb,rfl⟩;rw[gT] at R8;simp only[Ae,Ag];refine QC ?_;exact gR (D,(o,cn),e) ⟨R8,hb⟩ rfl ⟨rfl,rfl,rfl,rfl,rfl,trivial⟩ AY
   ·rintro D c' pre l1 DG ⟨rfl,o,cn,R8,hb,rfl⟩;simp only[Ae,Ag];refine TC ?_;refine Ju ?_;exact gR (D,(o,cn),2) ⟨R8,hb⟩ rfl ⟨rfl,rfl,rfl,rfl,rfl,trivial⟩ AY
  rintro⟨D,⟨o,cn⟩,e⟩ ⟨R8,hb⟩;rw[R8] at hR;unfold U2 at hR;dsimp only at hR hb⊢;obtain⟨⟨q1,q2⟩,q3,q4⟩:=hb;by_cases he:e=0
  case neg=>rw[Ab he] at hR;subst hR;refine Aj ?_;refine Ct [2] 4 _ ?_ (hR:=(λ_ h=>h));refine BJ ?_;refine Aj ?_;exact AU (vs:=[.agg (τ (SJ Ji)),iV e]) [D] _ rfl .refl (B0 rfl η (As.LSub.of_all (n:=12) (SJ Ji) rfl) Ba) (.drop (.drop (.drop (.drop (.drop (Keep.dropL' cs .refl)))))) ⟨rfl,rfl⟩
  rw[Ad he] at hR;subst hR he;obtain⟨p1,p2⟩:=pR hL;have z2:(τ (SJ {o with op:=c.op}))[4+(2:Int).toNat*1]?=some (iV o.n2):=rfl;refine Aj ?_;refine Nk (GM (cs:=SJ {o with op:=c.op}) (cs':=SJ {o with op:=c.op,n2:=o.n2+16*cn}) (l':=Cv D::Qm b8 0::BX b5 cn::Iv b4 {o with op:=c.op,n2:=o.n2+16*cn}::Iv b2 Ji::clB b1 c::(cs++l)) rfl rfl rfl Ca (by exact .succ (.succ (.succ (.succ (.succ (.succ .zero)))))) D1) rfl rfl ?_;rintro _ _ ⟨rfl,rfl⟩;refine Aj ?_;exact AU (vs:=[.agg (τ (SJ {o with op:=c.op,n2:=o.n2+16*cn})),iV 0]) [D] _ rfl .refl (B0 rfl η (As.LSub.of_all (n:=12) (SJ {o with op:=c.op,n2:=o.n2+16*cn}) rfl) Ba) (.drop (.drop (.drop (.drop (.drop (Keep.dropL' cs .refl)))))) ⟨rfl,rfl⟩
def WT(o:Ja)(i:Nat):Int:=
 match i with
 |1=>o.a
 |2=>o.b
 |4=>o.n0
 |5=>o.n1
 |6=>o.n2
 |7=>o.w
 |8=>o.ms.a
 |9=>o.ms.b
 |10=>o.ms.c
 |11=>o.ms.d
 |_=>0
def Jd(o:Ja)(cn:Int)(f:FoT):Int:=match f.at' with
 |none=>cn
 |some i=>WT o i
theorem dL(h:Pa f=true)(ha:f.at'=some i):i=1\/i=2\/i=4\/i=5\/i=6\/i=7\/i=8\/i=9\/i=10\/i=11:=by rcases pS h ha with⟨_,h⟩|⟨_,h⟩<;>omega
theorem uK(h:Pa f=true):Jd (GZ o cn f x).1 (GZ o cn f x).2 f=x:=by
 unfold Jd GZ;cases ha:f.at' with
 |none=>rfl
 |some i=>rcases dL h ha with rfl|rfl|rfl|rfl|rfl|rfl|rfl|rfl|rfl|rfl<;>rfl
theorem Aag{g:FoT}(hf:Pa f=true)(hg:Pa g=true)(GS:f.at'≠g.at'):Jd (GZ o cn f x).1 (GZ o cn f x).2 g=Jd o cn g:=by
 unfold Jd GZ;cases ha:f.at' with
 |none=>cases hb:g.at' with
  |none=>exact absurd (ha.trans hb.symm) GS
  |some j=>rfl
 |some i=>cases hb:g.at' with
  |none=>rfl
  |some j=>have W4:i≠j:=λh=>GS (by rw[ha,hb,h]);rcases dL hf ha with rfl|rfl|rfl|rfl|rfl|rfl|rfl|rfl|rfl|rfl<;>rcases dL hg hb with rfl|rfl|rfl|rfl|rfl|rfl|rfl|rfl|rfl|rfl<;>first|rfl|exact absurd rfl W4
def xb(L:List FoT):Prop:= ∀(i j:Nat) (f g:FoT),L[i]?=some f->L[j]?=some g->f.at'=g.at'->i=j
theorem Ya{c:N0}{L:List FoT}(hd:xb L)(Dh: ∀f,f∈L->Pa f=true): ∀(r:List Nat),r.Nodup-> ∀(o:Ja) (cn e:Int) (o':Ja) (v7:Int),VQ c L r o cn e=((o',v7),0)->
 e=0/\(∀i,i∈r->match L[i]? with
  |none=>(GU c).getD i 0=0
  |some f=>Jd o' v7 f=(GU c).getD i 0/\f.le<=(GU c).getD i 0/\(GU c).getD i 0<=f.mo)/\(∀(g:FoT) (j:Nat),L[j]?=some g->j∉r->Jd o' v7 g=Jd o cn g)
 |[],_,o,cn,e,o',v7,h=>by unfold VQ at h;obtain⟨h1,h2⟩:=Em h;obtain⟨rfl,rfl⟩:=Em h1;exact⟨h2,λ_ h=>(nomatch h),λ_ _ _ _=>rfl⟩
 |i::r,hn,o,cn,e,o',v7,h=>by
  rw[AQ] at hn;obtain⟨hi,hn⟩:=hn;rw[Rl] at h;cases hL:L[i]? with
  |none=>
   rw[hL] at h;dsimp only at h;by_cases h0:(GU c).getD i 0=0
   ·rw[Ad h0] at h;obtain⟨h1,h2,h3⟩:=Ya hd Dh r hn o cn e o' v7 h;refine⟨h1,λj hj=>?_,λg j hg hj=>h3 g j hg λhh=>hj (.tail _ hh)⟩;rcases Au.1 hj with rfl|hj
    ·rw[hL];exact h0
    ·exact h2 j hj
   ·rw[Ab h0] at h;exact absurd (show(2:Int)=0 from BM Prod.snd h) A0
  |some f=>
   rw[hL] at h;dsimp only at h;have hf:=Dh f (Bg hL);by_cases hb:(GU c).getD i 0<f.le\/f.mo<(GU c).getD i 0
   ·rw[Ad hb] at h;exact absurd (Ya hd Dh r hn o cn 3 o' v7 h).1 A0
   ·rw[Ab hb] at h;obtain⟨h1,h2,h3⟩:=Ya hd Dh r hn _ _ e o' v7 h;refine⟨h1,λj hj=>?_,λg j hg hj=>?_⟩
    ·rcases Au.1 hj with rfl|hj
     ·rw[hL];exact⟨(h3 f _ hL hi).trans (uK hf),Af,Af⟩
     ·exact h2 j hj
    ·rw[h3 g j hg λhh=>hj (.tail _ hh)];exact Aag hf (Dh g (Bg hg)) λhh=>hj (by rw[hd i j f g hL hg hh];exact .head _)
theorem uL(o:Ja)(i:Nat)(x:Int)(h:i≠6):(Mo o i x).n2=o.n2:=by
 unfold Mo
 split<;>first|rfl|exact absurd rfl h
theorem Yb{c:N0}{L:List FoT}(hL: ∀f,f∈L->f.at'≠none/\f.at'≠some 6): ∀(r:List Nat) (o:Ja) (cn e:Int),(VQ c L r o cn e).1.2=cn/\(VQ c L r o cn e).1.1.n2=o.n2
 |[],_,_,_=>⟨rfl,rfl⟩
 |i::r,o,cn,e=>by
  rw[Rl];cases h:L[i]? with
  |none=>
   dsimp only
   split
   ·exact Yb hL r _ _ _
   ·exact⟨rfl,rfl⟩
  |some f=>
   dsimp only;have hp:(GZ o cn f ((GU c).getD i 0)).2=cn/\(GZ o cn f ((GU c).getD i 0)).1.n2=o.n2:=by
    have h9:=hL f (Bg h);unfold GZ;cases ha:f.at' with
    |none=>exact absurd ha h9.1
    |some j=>exact⟨rfl,uL o j _ λhj=>h9.2 (by rw[ha,hj])⟩
   split
   ·exact Yb hL r _ _ _
   ·obtain⟨h1,h2⟩:=Yb hL r (GZ o cn f ((GU c).getD i 0)).1 (GZ o cn f ((GU c).getD i 0)).2 e;exact⟨h1.trans hp.1,h2.trans hp.2⟩
def DcU(o:Ja):Prop:=Jj o.a/\Jj o.b/\Jj o.w
theorem DcU.put(h:DcU o)(hx:Jj x):DcU (GZ o cn f x).1:=by
 obtain⟨h1,h2,h3⟩:=h;unfold GZ;cases f.at' with
 |none=>exact⟨h1,h2,h3⟩
 |some i=>
  dsimp only;unfold Mo
  split
  ·exact⟨hx,h2,h3⟩
  ·exact⟨h1,hx,h3⟩
  ·exact⟨h1,h2,h3⟩
  ·exact⟨h1,h2,h3⟩
  ·exact⟨h1,h2,h3⟩
  ·exact⟨h1,h2,hx⟩
  all_goals exact⟨h1,h2,h3⟩
theorem gU{c:N0}(hc:CL c){L:List FoT}: ∀(r:List Nat) (o:Ja) (cn e:Int),DcU o->DcU (VQ c L r o cn e).1.1
 |[],_,_,_,h=>h
 |i::r,o,cn,e,h=>by
  rw[Rl];cases L[i]? with
  |none=>
   dsimp only
   split
   ·exact gU hc r _ _ _ h
   ·exact h
  |some f=>
   dsimp only
   split
   ·exact gU hc r _ _ _ h
   ·exact gU hc r _ _ _ (h.put (dK c hc i))
def pU(L:List FoT):Bool:=decide ((L.map FoT.at').Nodup)
theorem uM(h:pU L=true):xb L:=by
 intro i j f g hf hg he;have hn:(L.map FoT.at').Nodup:=by simpa[pU] using h
 refine(List.getElem?_inj (l:=L.map FoT.at') (by rw[A5];exact(Aw.1 hf).1) hn).1 ?_;rw[A7,A7,hf,hg,BY,BY,he]
theorem pW{op:Int}(h:PI op=some L):pU L=true/\(op≠1->L.all (λf=>f.at' !=none&&f.at' !=some 6)=true)/\(op=1->L=[Ru 1,WR (some 4) 0 15,WR (some 5) 0 64,Ru 2,WR (some 6) 0 15,WR none 1 4]):=by
 unfold PI at h;by_cases h0:op=1
 ·rw[Ad h0] at h;obtain rfl:=AZ h;exact⟨by decide,λh=>absurd h0 h,λ_=>rfl⟩
 rw[Ab h0] at h;by_cases h1:op=2
 ·rw[Ad h1] at h;obtain rfl:=AZ h;exact⟨by decide,λ_=>rfl,λh=>absurd h h0⟩
 rw[Ab h1] at h;by_cases h2:op=3
 ·rw[Ad h2] at h;obtain rfl:=AZ h;exact⟨by decide,λ_=>rfl,λh=>absurd h h0⟩
 rw[Ab h2] at h;by_cases h3:op=4\/op=5\/op=12\/op=13
 ·rw[Ad h3] at h;obtain rfl:=AZ h;exact⟨by decide,λ_=>rfl,λh=>absurd h h0⟩
 rw[Ab h3] at h;by_cases h4:op=6\/op=9\/op=11\/op=21\/op=22
 ·rw[Ad h4] at h;obtain rfl:=AZ h;exact⟨by decide,λ_=>rfl,λh=>absurd h h0⟩
 rw[Ab h4] at h;by_cases h5:op=7
 ·rw[Ad h5] at h;obtain rfl:=AZ h;exact⟨by decide,λ_=>rfl,λh=>absurd h h0⟩
 rw[Ab h5] at h;by_cases h6:op=8
 ·rw[Ad h6] at h;obtain rfl:=AZ h;exact⟨by decide,λ_=>rfl,λh=>absurd h h0⟩
 rw[Ab h6] at h;by_cases h7:op=10
 ·rw[Ad h7] at h;obtain rfl:=AZ h;exact⟨by decide,λ_=>rfl,λh=>absurd h h0⟩
 rw[Ab h7] at h;by_cases h8:op=14\/op=15
 ·rw[Ad h8] at h;obtain rfl:=AZ h;exact⟨by decide,λ_=>rfl,λh=>absurd h h0⟩
 rw[Ab h8] at h;by_cases h9:op=16
 ·rw[Ad h9] at h;obtain rfl:=AZ h;exact⟨by decide,λ_=>rfl,λh=>absurd h h0⟩
 rw[Ab h9] at h;by_cases VA:op=17
 ·rw[Ad VA] at h;obtain rfl:=AZ h;exact⟨by decide,λ_=>rfl,λh=>absurd h h0⟩
 rw[Ab VA] at h;by_cases kS:op=18
 ·rw[Ad kS] at h;obtain rfl:=AZ h;exact⟨by decide,λ_=>rfl,λh=>absurd h h0⟩
 rw[Ab kS] at h;by_cases iy:op=19
 ·rw[Ad iy] at h;obtain rfl:=AZ h;exact⟨by decide,λ_=>rfl,λh=>absurd h h0⟩
 rw[Ab iy] at h;by_cases h13:op=20
 ·rw[Ad h13] at h;obtain rfl:=AZ h;exact⟨by decide,λ_=>rfl,λh=>absurd h h0⟩
 rw[Ab h13] at h;by_cases vT:op=23
 ·rw[Ad vT] at h;obtain rfl:=AZ h;exact⟨by decide,λ_=>rfl,λh=>absurd h h0⟩
 rw[Ab vT] at h;cases h
def kc(op:Int)(o:Ja):Ja:=if op=1 then{o with n2:=o.n2%16} else o
def kh(op:Int)(o:Ja):Int:=if op=1 then o.n2/16 else 0
theorem pX(h:(BW c).2=0): ∃L,PI c.op=some L/\(BW c).1.op=c.op/\0<=(BW c).1.n2/\(BW c).1.n2<=1000/\
 (∀i f,L[i]?=some f->i<6/\Pa f=true/\Jd (kc c.op (BW c).1) (kh c.op (BW c).1) f=(GU c).getD i 0/\f.le<=(GU c).getD i 0/\(GU c).getD i 0<=f.mo)/\(∀i,i<6->L.length<=i->(GU c).getD i 0=0):=by
 cases hL:PI c.op with
 |none=>exfalso;unfold BW at h;rw[hL] at h;exact absurd (show(2:Int)=0 from h) A0
 |some L=>
  refine⟨L,rfl,?_⟩;obtain⟨Dh,Ef⟩:=dJ hL;obtain⟨hd,rv,hc2⟩:=pW hL;have Ab1: ∀f,f∈L->Pa f=true:=λf hf=>AS.1 Dh f hf;obtain⟨R,hR⟩:=ξ (BW c)
  rw[hR] at h⊢;unfold BW at hR;rw[hL] at hR;dsimp only at hR;by_cases h1:c.op=1/\X6 c=false
  ·rw[Ad h1] at hR;subst hR;exact absurd (show(2:Int)=0 from h) A0
  rw[Ab h1] at hR;obtain⟨⟨⟨o,cn⟩,e⟩,hq⟩: ∃q,VQ c L (List.range 6) Ji 0 0=q:=⟨_,rfl⟩
  rw[hq] at hR;unfold U2 at hR;dsimp only at hR;by_cases he:e=0
  case neg=>rw[Ab he] at hR;subst hR;exact absurd h he
  rw[Ad he] at hR;subst he;obtain⟨_,h2,h3⟩:=Ya (uM hd) Ab1 (List.range 6) List.nodup_range Ji 0 0 o cn hq;have hz:¬c.op=1->cn=0/\o.n2=0:=λR7=>by have h9:=Yb (c:=c) (L:=L) (λf hf=>by simpa using AS.1 (rv R7) f hf) (List.range 6) Ji 0 0;rw[hq] at h9;exact h9
  have hy:c.op=1->(0<=o.n2/\o.n2<=15)/\1<=cn/\cn<=4:=λR7=>by have e1:=hc2 R7;subst e1;have g4:=h2 4 A0;have g5:=h2 5 A0;simp only[De,Df,Jd,WT] at g4 g5;omega
  have hx:kc c.op {o with op:=c.op,n2:=o.n2+16*cn}={o with op:=c.op}/\kh c.op {o with op:=c.op,n2:=o.n2+16*cn}=cn:=by
   unfold kc kh;by_cases R7:c.op=1
   ·obtain⟨⟨a1,a2⟩,a3,a4⟩:=hy R7;rw[Ad R7,Ad R7];dsimp only;rw[show(o.n2+16*cn)%16=o.n2 by omega];exact⟨rfl,Af⟩
   ·obtain⟨a1,a2⟩:=hz R7;rw[Ab R7,Ab R7];exact⟨by rw[show o.n2+16*cn=o.n2 by omega],a1.symm⟩
  have hb:0<=o.n2+16*cn/\o.n2+16*cn<=1000:=by
   by_cases R7:c.op=1
   ·have:=hy R7;omega
   ·have:=hz R7;omega
  subst hR;dsimp only;rw[hx.1,hx.2];refine⟨rfl,hb.1,hb.2,λi f hf=>?_,λi hi hl=>?_⟩
  ·have hi:i<L.length:=(Aw.1 hf).1;have h9:=h2 i (C9.2 Af);rw[hf] at h9;refine⟨Af,Ab1 f (Bg hf),?_,h9.2⟩;rw[<-h9.1];unfold Jd;cases f.at' with
   |none=>rfl
   |some j=>dsimp only;unfold WT;split<;>rfl
  ·have h9:=h2 i (C9.2 hi);rw[Bi hl] at h9;exact h9
theorem xd(hc:CL c):DcU (BW c).1:=by
 have hz:DcU Ji:=⟨G8,G8,G8⟩
 unfold BW;cases PI c.op with
 |none=>exact hz
 |some L=>
  dsimp only
  split
  ·exact hz
  ·unfold U2
   split
   ·exact gU hc _ _ _ _ hz
   ·exact hz
theorem uN{c d e:Bh}{l:Ac}:(A++(a::b::c::d::e::l)).Perm (c::a::b::d::e::(A++l)):=δ
theorem Yc{v:Int}(h:Jj v):IntKind.u64.wrap v=v:=by exact MS (QE h.1 h.2)
theorem pY(f:FoT)(hf:Pa f=true)(X:Ja)(n:Int)(b5 b6:Nat)(hu:Jj (Jd X n f))(l:Ac)(m5:Iv b5 X∈l)(m6:BX b6 n∈l):Fn prog 205 [.agg (τ (Vx b5 b6 f))] l λv l'=>v=Bb (Jd X n f)/\l'=l:=by
 cases ha:f.at' with
 |none=>
  have hw:=w9 hf ha;have e:Vx b5 b6 f=[Bb f.le,Bb f.mo,π b6,.pointer none]:=by unfold Vx;rw[hw,ha];rfl
  have g:Jd X n f=n:=by unfold Jd;rw[ha]
  rw[g] at hu⊢;rw[e,<-Yc hu];rw[Yc hu];have h:=af f.le f.mo b6 0 (τ [iV n]) 3 (0,0) n l m6 rfl;rw[Yc hu] at h;exact h
 |some i=>
  have g:Jd X n f=WT X i:=by unfold Jd;rw[ha]
  rw[g] at hu⊢;rcases pS hf ha with⟨hw,hi⟩|⟨hw,hi⟩
  ·have e:Vx b5 b6 f=[Bb f.le,Bb f.mo,.pointer none,.pointer (some ⟨b5,i,none⟩)]:=by unfold Vx;rw[hw,ha];rfl
   rw[e];exact pO f.le f.mo b5 i (τ (SJ X)) 57 (0,0) (WT X i) l m5 (by rcases hi with rfl|rfl|rfl|rfl|rfl<;>rfl)
  ·have e:Vx b5 b6 f=[Bb f.le,Bb f.mo,.pointer (some ⟨b5,i,none⟩),.pointer none]:=by unfold Vx;rw[hw,ha];rfl
   rw[e];have h:=af f.le f.mo b5 i (τ (SJ X)) 57 (0,0) (WT X i) l m5 (by rcases hi with rfl|rfl|rfl|rfl|rfl<;>rfl);rw[Yc hu] at h;exact h
instance:EQ prog 57 [some .i64,some .i64,some .i64,some .i64,some .i64,some .i64,some .i64,some .u64,some .u64,some .u64,some .u64,some .u64]:=⟨Bu⟩
abbrev cwB(B:Nat)(ws:Ap):Bh:=(B,.cells (τ ws) 37 (0,0))
abbrev clZ:N0:=⟨0,0,0,0,0,0,0⟩
structure EnW(c:N0)(k:Nat)(ws:Ap):Prop where
 len:ws.length=7
 op:ws[0]?=some (Bb c.op)
 ar: ∀j,j<6->ws[1+j]?=some (Bb (if j<k then(GU c).getD j 0 else 0))
theorem EnW.next(h:EnW c k ws)(hk:k<6):EnW c (k+1) (ws.set (1+k) (Bb ((GU c).getD k 0))):=by
 refine⟨by rw[CE];exact h.len,by rw[Gn Af];exact h.op,λj hj=>?_⟩;by_cases ly:j=k
 ·subst ly;rw[Ee (by rw[h.len];omega),Ad Af]
 ·rw[Gn Af,h.ar j hj];by_cases C7:j<k
  ·rw[Ad C7,Ad Af]
  ·rw[Ab C7,Ab Af]
theorem EnW.all(h:EnW c k ws)(hz: ∀i,i<6->k<=i->(GU c).getD i 0=0):ws=k9 c:=by
 have hj: ∀j,j<6->ws[1+j]?=some (Bb ((GU c).getD j 0)):=λj hj=>by
  rw[h.ar j hj];by_cases C7:j<k
  ·rw[Ad C7]
  ·rw[Ab C7,hz j hj Af]
 have hl:=h.len;have h0:=h.op
 match ws,hl with
 |[a,b,c1,d,e,f,g],_=>have j0:=hj 0 A0;have j1:=hj 1 A0;have j2:=hj 2 A0;have j3:=hj 3 A0;have j4:=hj 4 A0;have j5:=hj 5 A0;simp[GU] at h0 j0 j1 j2 j3 j4 j5;rw[h0,j0,j1,j2,j3,j4,j5]
theorem dM(c:N0)(hc:CL c)(h0:(BW c).2=0)(l:Ac):Fn prog 157 [orV (BW c).1] l λv l'=>v= .tuple #[rq c,iV 0]/\l'=l:=by
 obtain⟨L,hL,R7,Qq,Vj,hg,hz⟩:=pX h0;have Ab2:=λl=>U3 c hc l;obtain⟨o,ho⟩:=ξ ((BW c).1)
 simp only[ho,h0] at R7 Qq Vj hg Ab2⊢;obtain⟨vK,Ef⟩:=dJ hL;obtain⟨p1,p2⟩:=pR hL;obtain⟨X,hX⟩:=ξ (kc c.op o)
 obtain⟨n,hn⟩:=ξ (kh c.op o)
 rw[hX,hn] at hg;unfold kc at hX;unfold kh at hn;rw[<-R7] at p1 p2 hX hn;have z2:(τ (SJ o))[4+(2:Int).toNat*1]?=some (iV o.n2):=rfl;refine AO func157 ntmps157 λE=>?_;refine AR λb1=>?_;refine AR λb2=>?_;refine AR λb4=>?_;refine AR λb5=>?_;refine AR λb6=>?_;refine Ss (α:=Unit) (λ_=>[(1,pV b1),(2,pV b2),(4,pV b4),(5,pV b5),(6,pV b6)]) (λ_=>BX b6 n::Iv b5 X::cwB b4 (k9 {clZ with op:=c.op})::cwB b2 (k9 clZ)::Iv b1 o::l) (λ_=>True) ?_ ?_
 ·by_cases h1:o.op=1
  ·rw[Ad h1] at hX hn;subst hX hn;refine Aj ?_;refine Ct [10,11] 12 ([Iv b1 o]) ?_ (hR:=(UV Ca));refine BJ ?_;refine Oy (GM (cs:=SJ o) (cs':=SJ {o with n2:=o.n2%16}) (l':=BX b6 0::Iv b5 {o with n2:=o.n2%16}::cwB b4 (k9 {clZ with op:=o.op})::cwB b2 (k9 clZ)::Iv b1 o::l) rfl rfl rfl Ca (by exact .succ (.succ (.succ (.succ (.succ (.succ .zero)))))) D1) rfl rfl ?_ ?_
   ·rintro _ _ ⟨_,rfl⟩;exact UV Ca
   rintro _ _ ⟨rfl,rfl⟩;refine BJ ?_;refine Aj ?_;exact EM () trivial ⟨rfl,rfl,rfl,rfl,rfl,trivial⟩ (by rw[<-R7];exact .refl)
  ·rw[Ab h1] at hX hn;subst hX hn;refine Aj ?_;exact EM () trivial ⟨rfl,rfl,rfl,rfl,rfl,trivial⟩ (by rw[<-R7];exact .refl)
 rintro- -;refine Aj ?_;refine AP (Az rfl rfl (WS c.op b5 b6 _)) ?_;rw[hL];rintro _ _ ⟨sl,cs,rfl,N6,rfl⟩;obtain⟨pp,cap,rfl⟩:=N6.shape;refine Bt (.of_perm uN) ?_;refine Aj ?_;refine CF (α:=Nat×Ap) (λz=>[(1,pV b1),(2,pV b2),(4,pV b4),(47,.slice pp L.length cap),(48,ι (L.length:Nat)),(49,ι z.1)]) (λz=>cwB b4 z.2::BX b6 n::Iv b5 X::cwB b2 (k9 clZ)::Iv b1 o::(cs++l)) (λz=>z.1<=L.length/\EnW c z.1 z.2) (λz=>L.length-z.1) (0,k9 {clZ with op:=c.op}) ⟨Bm _,rfl,rfl,λj hj=>by
  have:j=0\/j=1\/j=2\/j=3\/j=4\/j=5:=by omega
  rcases this with rfl|rfl|rfl|rfl|rfl|rfl<;>rfl⟩ ⟨rfl,rfl,rfl,rfl,rfl,rfl,trivial⟩ .refl ?_
 rintro⟨k,ws⟩ ⟨hk,hw⟩;simp only at hk hw⊢;by_cases C7:k<L.length
 ·obtain⟨f,hf⟩: ∃f,L[k]?=some f:=⟨_,Ak C7⟩
  obtain⟨hk6,hfo2,hgf,_⟩:=hg k f hf;obtain⟨gb,cap2,sp,h2,rfl⟩:=NO N6 Af;cases h2;obtain⟨x1,x2⟩:=gS (k:=4) (enc:=Vx b5 b6) (λ_=>rfl) hf sp;have hu:=dK c hc k;rw[<-hgf] at hu;have W8:=hw.next hk6;have hl7:=hw.len;obtain⟨p,q,hpq⟩: ∃p q:Option Addr,Vx b5 b6 f=[Bb f.le,Bb f.mo,.pointer p,.pointer q]:=by unfold Vx foP;cases f.wd<;>cases f.at'<;>exact⟨_,_,rfl⟩
  rw[hpq] at x2;have YB:=λl m5 m6=>pY f hfo2 X n b5 b6 hu l m5 m6;rw[hpq] at YB;rw[Ce];refine Aj ?_;refine Be (Dp rfl Ca x1 x2) ?_;refine AR λGW=>?_;refine wn (v:=Bb (Jd X n f)) (by refine AI (vs:=[.agg (τ [Bb f.le,Bb f.mo,.pointer p,.pointer q])]) rfl rfl λl2 hl=>?_;exact YB l2 (hl _ Ca) (hl _ Ca)) rfl rfl rfl ?_
  refine Aj ?_;refine Nk (Dy (cs:=τ ws) (T:=37) (off:=1+k*1) (l':=(GW,_)::(b4,.cells ((τ ws).setIfInBounds (1+k*1) (Bb (Jd X n f))) 37 (0,0))::_) rfl rfl rfl D1 (by rw[Bz];omega)) rfl rfl ?_;rintro _ _ ⟨rfl,rfl⟩;rw[hgf,Dw,BB];refine Aj ?_;exact BZ (k+1,_) ⟨by simp only;omega,W8⟩ (by simp only;omega) ⟨rfl,rfl,rfl,rfl,rfl,rfl,trivial⟩ ζ
 ·obtain rfl:k=L.length:=by omega
  obtain rfl:=hw.all hz;refine Aj ?_;refine Be (AI (vs:=[rq c]) rfl rfl λl2 hl=>Ab2 l2) ?_;refine AR λMs=>?_;refine MU (mq rfl rfl (ks:=[some .i64,some .i64,some .i64,some .i64,some .i64,some .i64,some .i64,some .u64,some .u64,some .u64,some .u64,some .u64]) (Fg (by rfl))) rfl rfl rfl ?_;refine Aj ?_;exact AU (vs:=[rq c,iV 0]) [] _ rfl .refl (B0 rfl Ca (As.LSub.of_all (n:=7) (k9 c) rfl) Ba) (.drop (.drop (.drop (.drop (.drop (.drop (Keep.dropL' cs .refl))))))) ⟨rfl,rfl⟩
theorem Aah(hc:CL c)(h0:(BW c).2=0):OB (BW c).1:=by obtain⟨L,hL,R7,Qq,Vj,hg,_⟩:=pX h0;refine⟨(xd hc).2.2,λ_=>⟨Qq,Vj⟩,λh=>?_⟩;rw[<-R7,h] at hL;obtain rfl:[Ru 1,WR (some 4) 0 2,Ru 2]=L:=AZ hL;obtain⟨_,_,h1,h2,h3⟩:=hg 1 _ rfl;rw[<-R7,h] at h1;have e:Jd (kc 19 (BW c).1) (kh 19 (BW c).1) (WR (some 4) 0 2)=(BW c).1.n0:=rfl;rw[e] at h1;rw[h1];exact⟨h2,h3⟩
def ordE(S:KT)(t:Int)(o:Ja)(x y:Ch):(List NoT×Int)×KT:=match NZ S t o x with
 |some r=>r
 |none=>if(HZ S t o x y).1=0 then(([Kt t],0),(HZ S t o x y).2) else(([],(HZ S t o x y).1),(HZ S t o x y).2)
def KM(S:KT)(t:Int)(o:Ja):(List NoT×Int)×KT:=
 if Mw S t=false\/¬(DJ S t).st=1 then(([],2),S)
 else if(Ha o.op).1=true/\¬(GB S t o.a).2=0 then(([],(GB S t o.a).2),S)
 else if(Ha o.op).2=true/\¬(GB S t o.b).2=0 then(([],(GB S t o.b).2),S)
 else ordE S t o (if(Ha o.op).1=true then(GB S t o.a).1 else(0,0)) (if(Ha o.op).2=true then(GB S t o.b).1 else(0,0))
section
variable{b:Nat}
theorem uO(hK:IsK F C (k+8) S p s)(kb:Nat)(hk:PY kb b∈G)(t:Int)(c:N0)(hc:CL c)(h0:(BW c).2=0):Fn prog 107 [pV kb,ι t,orV (BW c).1] (AA b p s S G) (KN F C b p k (KM S t (BW c).1).1.1 (KM S t (BW c).1).1.2 (KM S t (BW c).1).2 G):=by
 have mr:CH b p∈AA b p s S G:=mR λ_ h=>h;have mk:PY kb b∈AA b p s S G:=mG (λ_ h=>h) _ hk;have aM:=Aah hc h0;obtain⟨⟨_,ha⟩,⟨_,hb⟩,_⟩:=xd hc;have Ab3:=λl=>dM c hc h0 l;obtain⟨o,ho⟩:=ξ ((BW c).1)
 simp only[ho] at aM ha hb Ab3⊢;obtain⟨R,hR⟩:=ξ (KM S t o)
 rw[hR];unfold KM at hR;refine AO func107 ntmps107 λE=>?_;refine AR λb5=>?_;refine EO ?_;refine Aj ?_;refine EO ?_;obtain⟨u,hu⟩:=ξ (DJ S t)
 obtain⟨ok,Dh⟩: ∃k,Mw S t=k:=⟨_,rfl⟩
 rw[Dh,hu] at hR;try rw[hu,show(Th.findH S.T t).isSome=ok from Dh]
 refine AR λb8=>?_;refine Be (AI (vs:=[orV o]) rfl rfl λl2 _=>Ab3 l2) ?_;refine AR λGW=>?_;have ad1:AD o.a:=⟨ha⟩
 have ad2:AD o.b:=⟨hb⟩
 cases ok with
 |false=>rw[Ad (.inl rfl)] at hR;subst hR;refine Aj ?_;exact Gh
 |true=>
 by_cases h1:u.st=1
 case neg=>rw[Ad (.inr h1)] at hR;subst hR;refine Aj ?_;exact Gh
 rw[Ab (by simp[h1])] at hR;refine Aj ?_;refine CC (Cy [7,8] 0 9) ?_;refine CG ?_;refine Is e_alloc (by rintro _ _ ⟨_,_,_,rfl⟩ c hc;exact .tail _ hc) ?_;rintro _ _ ⟨Ty,_,rfl,rfl⟩;refine CG ?_;refine Aj ?_;refine EO ?_;obtain⟨⟨p1,p2⟩,hp⟩: ∃q,Ha o.op=q:=⟨_,rfl⟩
 rw[hp] at hR;try rw[hp]
 dsimp only at hR;simp only[AN,AL,AX];refine Aj ?_;obtain⟨x,hx⟩:=ξ ((if p1=true then(GB S t o.a).1 else(0,0)))
 obtain⟨y,hy⟩:=ξ ((if p2=true then(GB S t o.b).1 else(0,0)))
 rw[hx,hy] at hR;by_cases hf1:p1=true/\¬(GB S t o.a).2=0
 ·rw[Ad hf1] at hR;subst hR;obtain⟨rfl,hf2⟩:=hf1;refine Aj ?_;refine CC (Cy [12] 0 14) ?_;refine CG ?_;simp only[AN,AL,AX];refine Aj ?_;exact Gh
 rw[Ab hf1] at hR;refine Ss (α:=Unit) (λ_=>[(0,pV kb),(1,iV t),(5,pV b5),(12,pV Ty),(14,.bool p2)]) (λ_=>Yw Ty b t o x (0,0)::Iv b5 o::AA b p s S G) (λ_=>True) ?_ ?_
 ·cases p1 with
  |false=>rw[Ab A0] at hx;subst hx;refine Aj ?_;exact EM () trivial ⟨rfl,rfl,rfl,rfl,rfl,trivial⟩ AY
  |true=>
   have hf2:(GB S t o.a).2=0:=by simpa using hf1
   rw[Ad rfl] at hx;refine Aj ?_;refine CC (Cy [12] 0 14) ?_;refine CG ?_;simp only[AN,AL,AX];rw[hf2];subst hx;refine Aj ?_;exact EM () trivial ⟨rfl,rfl,rfl,rfl,rfl,trivial⟩ AY
 rintro- -;by_cases hf3:p2=true/\¬(GB S t o.b).2=0
 ·rw[Ad hf3] at hR;subst hR;obtain⟨rfl,hf2⟩:=hf3;refine Aj ?_;refine CC (Cy [12] 0 14) ?_;refine CG ?_;simp only[AN,AL,AX];refine Aj ?_;exact Gh
 rw[Ab hf3] at hR;refine Aj ?_;refine Ss (α:=Unit) (λ_=>[(0,pV kb),(1,iV t),(12,pV Ty)]) (λ_=>Yw Ty b t o x y::AA b p s S G) (λ_=>True) ?_ ?_
 ·cases p2 with
  |false=>rw[Ab A0] at hy;subst hy;refine Aj ?_;exact EM () trivial ⟨rfl,rfl,rfl,trivial⟩ AY
  |true=>
   have hf2:(GB S t o.b).2=0:=by simpa using hf3
   rw[Ad rfl] at hy;refine Aj ?_;refine CC (Cy [12] 0 14) ?_;refine CG ?_;simp only[AN,AL,AX];rw[hf2];subst hy;refine Aj ?_;exact EM () trivial ⟨rfl,rfl,rfl,trivial⟩ AY
 rintro- -;refine Aj ?_;refine Bt (.of_perm (Fv b p s S [Yw Ty b t o x y] G)) ?_;refine AP (Az (vs:=[O7 b t o x y]) rfl rfl (zU (k:=k+6) hK t o x y)) ?_;unfold ordE at hR;cases hsy:NZ S t o x with
 |some r=>rw[hsy] at hR;dsimp only at hR;subst hR;rintro _ _ ⟨sl,cs,s1,L1,rfl,Gc,ED,DO,rfl⟩;obtain⟨L2,Qr,P1⟩:=Hr (b:=b) (p:=p) (s:=s1) (S:=r.2) DO;refine Aj ?_;exact AU (vs:=[sl,iV r.1.2]) [] _ rfl .refl Ba (.trans (.of_perm (P1.append_left cs)) Tq) ⟨sl,cs,s1,L2,rfl,Gc,ED.mono Af,Qr,rfl⟩
 |none=>
  rw[hsy] at hR;dsimp only at hR;rintro _ _ ⟨rfl,s1,L1,ED,DO,rfl⟩;obtain⟨L2,Qr,P1⟩:=Hr (b:=b) (p:=p) (s:=s1) (S:=S) DO;refine Bt (.of_perm P1) ?_;rw[Ce];have G6:CH b p∈AA b p s1 S L2:=mR λ_ h=>h;have ek:EK prog F C b p 161 [O7 b t o x y] (k+8) S k (iV (HZ S t o x y).1) (HZ S t o x y).2:=⟨λs G h=>Aaa h t o x y aM⟩
  refine Aj ?_;refine Gt ?_;intro S2 s2 L3 hS2 Gd F4 Ig;rw[<-hS2] at hR;refine Aj ?_;by_cases h9:(HZ S t o x y).1=0
  case neg=>rw[Ab h9] at hR;subst hR;refine Aj ?_;exact Gh
  rw[Ad h9] at hR;subst hR;refine Aj ?_;refine AP (FB (ws:=R4 (Kt t)) (k:=12) rfl rfl rfl A0 A0) ?_;rintro _ _ ⟨bn,_,rfl,rfl⟩;refine Aj ?_;exact AU [] _ rfl .refl Ba (l':=[Vv bn (Kt t)]++AA b p s2 S2 L3) AY ⟨_,_,s2,L3,rfl,⟨rfl,.inr ⟨bn,1,[],rfl,rfl,Bf _,by unfold maxLen;omega,rfl⟩⟩,Gd,F4.trans Qr,rfl⟩
end
class aI(e:ME):Prop where
 cl:CL e.cl
 va:Jj e.va
 vl:Jj e.vl
abbrev Yd(t co:Int):NoT:=⟨t,co,0,msZ,0,false,0,0,false⟩
def JT(S:KT)(t:Int)(c:N0):(List NoT×Int)×KT:=
 if(BW c).2=0 then(if(KM S t (BW c).1).1.2=0 then(((KM S t (BW c).1).1.1,0),(KM S t (BW c).1).2) else(([Yd t (KM S t (BW c).1).1.2],0),(KM S t (BW c).1).2))
 else(([Yd t (BW c).2],0),S)
def N1(S:KT)(e:ME):(List NoT×Int)×KT:=
 if e.co<0\/(S.K.length:Int)<=e.co then(([],3),S)
 else if Mw S (KL S.U e.co)=false then(([],19),S)
 else if(DJ S (KL S.U e.co)).hs=true then VO S e.co
 else if e.kd=3 then SL S e.co ⟨false,false,e.va,0⟩
 else if e.kd=4 then SL S e.co ⟨false,true,e.va,e.vl⟩
 else JT S (DJ S (KL S.U e.co)).id e.cl
abbrev Qn(B:Nat)(e:ME):Bh:=(B,.cells (τ (VP e)) 39 (0,0))
def gV(e:ME):Nat:=if e.kd=3\/e.kd=4 then 2 else 8
section
variable{b:Nat}
section
variable{ops:Array Oper}{fr:Fr}{l:Ac}{d f k':Nat}{x:Operand}{xs:List Operand}{vs:Ap}{at_:Array TypeId}{ty:TypeId}{pos:String}{aft:Array Edge}{S':KT}{ns:List NoT}{co:Int}{tbl:List (List Nat)}{sp:F5}{pl:List BI}{gg:Bool}
theorem mkn{Γ:Ac->Ac}(h: ∀G,Fn P f vs (AA b p s S G) (KN F C b p k' ns co S' G))(hk: ∀sl cs S1 s' L,S1=S'->OwnSl 69 12 sl ns.length (HY ns) cs->IsK F C k' S1 p s'->Tail L (cs++G)->CH b p∈AA b p s' S1 L->MP P ro N E ops Q tbl false sp pl ((d,.tuple #[sl,iV co])::fr) ds (Γ (AA b p s' S1 L)))(hx:ev fr x=some (.func (.func f) #[] #[]):=by rfl)(hy:SC fr xs=some vs:=by rfl)(hF:Fr1 (AA b p s S G) l Γ:=by exact fL)(c:EN P f:=by infer_instance)(hb:Nat.blt d N=true:=by rfl)(ha:(sp.map Prod.fst).all (λq=>FP tbl i q)=true:=by kernel_rfl):MP P ro N E ops Q tbl gg sp ((i,false,⟨some d,.call {callee:= .value x,args:=xs.toArray,argTypes:=at_},ty,pos,aft,none⟩)::pl) fr ds l:=by obtain⟨A,rfl,hA⟩:=hF.eq;refine LP (Az hx hy (Fn.re (.of_perm (Fv b p s S A G)) (h (A++G)) (K':=λv l'=> ∃sl cs s' L,v= .tuple #[sl,iV co]/\OwnSl 69 12 sl ns.length (HY ns) cs/\IsK F C k' S' p s'/\Tail L (cs++G)/\l'=Γ (AA b p s' S' L)) λv l' ⟨sl,cs,s',L,h1,h2,h3,⟨X,h4⟩,h5⟩=>⟨Γ (AA b p s' S' (X++(cs++G))),?_,sl,cs,s',_,h1,h2,h3,⟨X,rfl⟩,rfl⟩)) (λv l' ⟨sl,cs,s',L,h1,h2,h3,h4,h5⟩=>by rw[h1,h5];exact hk sl cs S' s' L rfl h2 h3 h4 (mR λ_ h=>h)) rfl rfl hb ha;rw[h5,h4,hA];refine .of_perm ?_;unfold AA;exact δ
end
theorem Aai(e:ME)(hK:IsK F C (k+gV e) S p s)(kb:Nat)(hk:PY kb b∈G)(he:aI e):Fn prog 70 [pV kb,NR e] (AA b p s S G) (KN F C b p k (N1 S e).1.1 (N1 S e).1.2 (N1 S e).2 G):=by
 have mr:CH b p∈AA b p s S G:=mR λ_ h=>h;have mk:PY kb b∈AA b p s S G:=mG (λ_ h=>h) _ hk;have JL:=dF hK e.co;have uva:U6 e.va:=⟨he.va⟩
 have uvl:U6 e.vl:=⟨he.vl⟩
 have N5:=he.cl;obtain⟨R,hR⟩:=ξ (N1 S e)
 rw[hR];unfold N1 at hR;refine AO func70 ntmps70 λE=>?_;refine AR λb3=>?_;by_cases h1:e.co<0
 ·rw[Ad (.inl h1)] at hR;subst hR;refine Ct [] 14 _ ?_ (hR:=(λ_ h=>h));refine BJ ?_;refine Aj ?_;exact Gh
 refine Ct [] 14 _ ?_ (hR:=(λ_ h=>h));refine BJ ?_;refine Wb ?_;refine BJ ?_;refine Wb ?_;refine BJ ?_;refine Aj ?_;by_cases h2:(S.K.length:Int)<=e.co
 ·rw[Ad (.inr h2)] at hR;subst hR;refine Aj ?_;exact Gh
 rw[Ab Af] at hR;refine Aj ?_;refine CC (Cy [16,17] 0 19) ?_;refine CG ?_;obtain⟨u,hu⟩:=ξ (DJ S (KL S.U e.co))
 obtain⟨ok,Dh⟩: ∃k,Mw S (KL S.U e.co)=k:=⟨_,rfl⟩
 rw[Dh,hu] at hR;try rw[hu,show(Th.findH S.T (KL S.U e.co)).isSome=ok from Dh]
 try simp only[AN,AL,AX]
 refine Is e_alloc (by rintro _ _ ⟨_,_,_,rfl⟩ c hc;exact .tail _ hc) ?_;rintro _ _ ⟨b6,_,rfl,rfl⟩;refine CG ?_;try simp only[AN,AL,AX]
 refine Aj ?_;cases ok with
 |false=>rw[Ad rfl] at hR;subst hR;refine Aj ?_;exact Gh
 |true=>
 rw[Ab A0] at hR;have Gd:IsK F C (k+2) S p s:=hK.mono (by unfold gV;split<;>omega);cases hhs:u.hs with
 |true=>
  rw[Ad hhs] at hR;subst hR;refine Aj ?_;refine CC (Cy [6] 0 11) ?_;refine CG ?_;refine mkn (vs:=[pV b,ι e.co]) (λG=>Adt Gd e.co) ?_;intro sl cs S1 s1 L1 Er Gc ED DO G6;refine CG ?_;try simp only[AN,AL,AX]
  refine Aj ?_;obtain⟨L4,hL4,hp4⟩:=Hr (b:=b) (p:=p) (s:=s1) (S:=S1) DO;exact AU [] _ rfl .refl Ba (.drop (.drop (.of_perm hp4))) ⟨sl,cs,s1,L4,rfl,Gc,by rw[<-Er];exact ED,hL4,by rw[<-Er]⟩
 |false=>
 rw[Ab (by rw[hhs];decide)] at hR;by_cases h3:e.kd=3
 ·rw[Ad h3] at hR;subst hR;have hva:U6 (⟨false,false,e.va,0⟩:U0).va:=uva;have xW:U6 (⟨false,false,e.va,0⟩:U0).vl:=⟨G8⟩
  refine Aj ?_;refine CC (Cy [9] 0 14) ?_;refine CG ?_;refine mkn (vs:=[pV b,ι e.co,zS ⟨false,false,e.va,0⟩]) (λG=>pI Gd e.co ⟨false,false,e.va,0⟩) ?_;intro sl cs S1 s1 L1 Er Gc ED DO G6;refine CG ?_;try simp only[AN,AL,AX]
  refine Aj ?_;obtain⟨L4,hL4,hp4⟩:=Hr (b:=b) (p:=p) (s:=s1) (S:=S1) DO;exact AU [] _ rfl .refl Ba (.drop (.drop (.of_perm hp4))) ⟨sl,cs,s1,L4,rfl,Gc,by rw[<-Er];exact ED,hL4,by rw[<-Er]⟩
 rw[Ab h3] at hR;by_cases h4:e.kd=4
 ·rw[Ad h4] at hR;subst hR;have hva:U6 (⟨false,true,e.va,e.vl⟩:U0).va:=uva;have xW:U6 (⟨false,true,e.va,e.vl⟩:U0).vl:=uvl;refine Aj ?_;refine CC (Cy [11] 0 16) ?_;refine CG ?_;refine mkn (vs:=[pV b,ι e.co,zS ⟨false,true,e.va,e.vl⟩]) (λG=>pI Gd e.co ⟨false,true,e.va,e.vl⟩) ?_;intro sl cs S1 s1 L1 Er Gc ED DO G6;refine CG ?_;try simp only[AN,AL,AX]
  refine Aj ?_;obtain⟨L4,hL4,hp4⟩:=Hr (b:=b) (p:=p) (s:=s1) (S:=S1) DO;exact AU [] _ rfl .refl Ba (.drop (.drop (.of_perm hp4))) ⟨sl,cs,s1,L4,rfl,Gc,by rw[<-Er];exact ED,hL4,by rw[<-Er]⟩
 rw[Ab h4] at hR;have hK8:IsK F C (k+8) S p s:=hK.mono (by unfold gV;rw[Ab Af];omega);unfold JT at hR;have rS:=λ(G:Ac) (hk:PY kb b∈G) h0=>uO (G:=G) hK8 kb hk u.id e.cl N5 h0;refine Aj ?_;refine Be (AI (vs:=[rq e.cl]) rfl rfl λl2 _=>U3 e.cl N5 l2) ?_;obtain⟨⟨o,d⟩,hd⟩: ∃D,BW e.cl=D:=⟨_,rfl⟩
 rw[hd] at hR⊢;simp only[hd] at rS;dsimp only at hR⊢;refine AR λb8=>?_;by_cases h5:d=0
 case neg=>rw[Ab h5] at hR;subst hR;refine Aj ?_;refine AP (FB (ws:=R4 (Yd u.id d)) (k:=12) rfl rfl rfl A0 A0) ?_;rintro _ _ ⟨bn,_,rfl,rfl⟩;refine Aj ?_;exact AU [] _ rfl .refl Ba (l':=[Vv bn (Yd u.id d)]++AA b p s S G) AY ⟨_,_,s,G,rfl,⟨rfl,.inr ⟨bn,1,[],rfl,rfl,Bf _,by unfold maxLen;omega,rfl⟩⟩,hK.mono Af,.nil,rfl⟩
 rw[Ad h5] at hR;have rS:=λG hk=>rS G hk h5;refine Aj ?_;refine Bt (.of_perm (Fv b p s S [Iv b8 o,Th.thC b6 {u with hs:=false},Qn b3 e] G)) ?_;refine AP (Az (vs:=[pV kb,ι u.id,orV o]) rfl rfl (rS _ (Aa _ hk))) ?_;rintro _ _ ⟨sl,cs,s1,L1,rfl,Gc,ED,DO,rfl⟩;obtain⟨q,hq⟩:=ξ (KM S u.id o)
 rw[hq] at hR Gc ED;try rw[hq]
 obtain⟨L2,Qr,P1⟩:=Hr (b:=b) (p:=p) (s:=s1) (S:=q.2) DO;refine Bt (.of_perm (l':=Iv b8 o::Th.thC b6 {u with hs:=false}::Qn b3 e::(cs++AA b p s1 q.2 L2)) ((P1.append_left cs).trans δ)) ?_;refine Aj ?_;by_cases h6:q.1.2=0
 ·rw[Ad h6] at hR;subst hR;refine Aj ?_;exact CY (vs:=[sl,iV 0]) _ .refl σ ⟨sl,cs,s1,L2,rfl,Gc,ED,Qr,rfl⟩
 ·rw[Ab h6] at hR;subst hR;refine Aj ?_;refine AP (FB (ws:=R4 (Yd u.id q.1.2)) (k:=12) rfl rfl rfl A0 A0) ?_;rintro _ _ ⟨bn,_,rfl,rfl⟩;refine Aj ?_;exact AU [] _ rfl .refl Ba (l':=[Vv bn (Yd u.id q.1.2)]++AA b p s1 q.2 L2) (show Keep (Vv bn (Yd u.id q.1.2)::Iv b8 o::Th.thC b6 {u with hs:=false}::Qn b3 e::(cs++AA b p s1 q.2 L2)) ([Vv bn (Yd u.id q.1.2)]++AA b p s1 q.2 L2) from γ ([Iv b8 o,Th.thC b6 {u with hs:=false},Qn b3 e]++cs)) ⟨_,_,s1,L2,rfl,⟨rfl,.inr ⟨bn,1,[],rfl,rfl,Bf _,by unfold maxLen;omega,rfl⟩⟩,ED,Qr,rfl⟩
end
end Go.Proofs.YtlifcingifodfaaGreat
