/- Laws that the statement's proof leans on (joined out of several texts). -/
import Derived.Test.YtlkgekpmileobaaGreatGb8
import Derived.Test.YtlkgekpmileobaaGreatGb35
import Derived.Test.YtlkgekpmileobaaGreatGb10
import Derived.Test.YtlkgekpmileobaaGreatGb30
set_option linter.unusedVariables false
set_option linter.unusedSimpArgs false
namespace Go.Proofs.YtlkgekpmileobaaGreat
open Tryz
open List(toArray)
open Go.RowKit
set_option maxRecDepth 20000
variable{E:World}{Q:Exit->Act->World->Prop}{ds:List Deferred}{fn:Func}{c:Code}{n:Nat}
def kF(F C T:Nat)(sh:Bool)(ids:List Int)(sp:List Value)(b1 b5 b8 bo b gb cap i:Nat):List Ab:=[L6 b8 (.slice (some ⟨gb,0,none⟩) (5*T+sh.toNat) cap),(gb,Obj.cells (toArray (ids.map CA++sp)) 3 (0,0)),iP b1 F C T sh,N5 b5 b,(bo,Obj.cells (toArray (Pn (N6 ids T i))) 203 (0,0))]
abbrev rL(T:Nat)(b1 b5 b8 bo:Nat):Fr:=[(1,pV b1),(5,pV b5),(7,.slice (some ⟨bo,0,none⟩) T T),(8,pV b8),(9,.int .i64 0)]
set_option maxHeartbeats 4000000 in
theorem tX(hf:prog.funcs[67]?=some fn)(hc:fn.body=some c)(F C T:Nat)(sh:Bool)(hT1:1<=T)(hT:T<=3)(ids:List Int)(sp:List Value)(hil:ids.length=5*T+sh.toNat)(b1 b5 b8 bo b gb cap:Nat)(Z:List Ab)
 (k:CH fn.ntmps E Q .normal (rL T b1 b5 b8 bo) ds (kF F C T sh ids sp b1 b5 b8 bo b gb cap T++Z)):BF prog none fn.ntmps E (qb (aft 7 c)) Q (rL T b1 b5 b8 bo) ds (kF F C T sh ids sp b1 b5 b8 bo b gb cap 0++Z):=by
 obtain rfl:=AV (hf.symm.trans func67);obtain rfl:=AV hc;simp only[func67,ntmps67,aft,qb] at k⊢;have hget: ∀(x:Int) (m:Nat),x=m->m<ids.length->(toArray (ids.map CA++sp))[0+x.toNat*1]?=some (CA (ids.getD m 0)):=λx m hx hm=>by subst hx;rw[A3,Dh,Bw,AE,AC (by rw[AZ];exact hm),A0,List.getD,Am hm];rfl
 refine Aj ?_;refine Cu (α:=Nat) (λi=>(56,.int .i64 T)::(57,.int .i64 i)::(55,.slice (some ⟨bo,0,none⟩) T T)::rL T b1 b5 b8 bo) (λi=>kF F C T sh ids sp b1 b5 b8 bo b gb cap i++Z)
  (λi=>i<=T) (λi=>T-i) 0 (Bf _) ⟨rfl,rfl,rfl,rfl,rfl,rfl,rfl,rfl,trivial⟩ .refl ?_
 intro i hi;have hsh:sh.toNat<=1:=by cases sh<;>decide
 by_cases hlt:i<T
 ·unfold kF;refine Aj ?_;have hsubA: ∀c,c∈[L6 b8 (.slice (some ⟨gb,0,none⟩) (5*T+sh.toNat) cap),(gb,Obj.cells (toArray (ids.map CA++sp)) 3 (0,0)),iP b1 F C T sh]->c∈L6 b8 (.slice (some ⟨gb,0,none⟩) (5*T+sh.toNat) cap)::(gb,Obj.cells (toArray (ids.map CA++sp)) 3 (0,0))::iP b1 F C T sh::N5 b5 b::(bo,Obj.cells (toArray (Pn (N6 ids T i))) 203 (0,0))::Z:=λc hc=>(@Ai _ c [_,_,_] _ hc)
  refine Ce [37] 38 ([L6 b8 (.slice (some ⟨gb,0,none⟩) (5*T+sh.toNat) cap),(gb,Obj.cells (toArray (ids.map CA++sp)) 3 (0,0)),iP b1 F C T sh]) ?_ (hR:=(hsubA));refine BI ?_;apply D7
  ·exact Dv (v:=CA (ids.getD (4*i) 0)) rfl (.tail _ (.head _)) (hget _ (4*i) Af Af)
  ·rfl
  ·rfl
  ·rfl
  refine BI ?_;apply D7
  ·exact Dv (v:=CA (ids.getD (4*i+1) 0)) rfl (.tail _ (.head _)) (hget _ (4*i+1) Af Af)
  ·rfl
  ·rfl
  ·rfl
  refine BI ?_;apply D7
  ·exact Dv (v:=CA (ids.getD (4*i+2) 0)) rfl (.tail _ (.head _)) (hget _ (4*i+2) Af Af)
  ·rfl
  ·rfl
  ·rfl
  refine BI ?_;apply D7
  ·exact Dv (v:=CA (ids.getD (4*i+3) 0)) rfl (.tail _ (.head _)) (hget _ (4*i+3) Af Af)
  ·rfl
  ·rfl
  ·rfl
  refine BI ?_;apply D7
  ·exact Dv (v:=CA (ids.getD (ids.length-T+i) 0)) rfl (.tail _ (.head _)) (hget _ (ids.length-T+i) Af Af)
  ·rfl
  ·rfl
  ·rfl
  refine BI ?_;apply Mu
  ·exact Ee (cs:=toArray (Pn (N6 ids T i))) (T:=203) rfl rfl rfl (by simp[CA,Value.oneCell']) (.there (.there (.there (.there .here)))) (by have:=UX (N6 ids T i);rw[Wv _ _ _ hi] at this;simp only[Bm,Bi,Eh,this];omega)
  ·rfl
  ·rfl
  ·rintro _ _ ⟨_,rfl⟩;exact λc hc=>(@Ai _ c [_,_,_] _ hc)
  rintro _ _ ⟨rfl,rfl⟩;refine BI ?_;refine Aj ?_;refine BS (i+1) Af Af ⟨rfl,rfl,rfl,rfl,rfl,rfl,rfl,rfl,trivial⟩ (.of_perm (.of_eq ?_));show _=kF F C T sh ids sp b1 b5 b8 bo b gb cap (i+1)++Z;unfold kF;rw[<-gd ids T i hlt];simp only[A3,Bw];rfl
 ·refine Aj ?_;obtain rfl:i=T:=by omega
  exact Yl (fr':=rL i b1 b5 b8 bo) ⟨rfl,rfl,rfl,rfl,rfl,trivial⟩ .refl k
def P4(R:RT)(os:List OwT):Nat->RT
 |0=>R
 |k+1=>R2 (P4 R os k) (os.getD k TR) (decide ((k:Int)=0))
abbrev TT(bo:Nat)(os:List OwT):Ab:=(bo,Obj.cells (toArray (Pn os)) 203 (0,0))
abbrev iQ(T:Nat)(b1 b5 bo:Nat)(v9 v14:Value):Fr:=[(1,pV b1),(5,pV b5),(7,.slice (some ⟨bo,0,none⟩) T T),(9,v9),(14,v14)]
set_option maxHeartbeats 4000000 in
theorem tY(hf:prog.funcs[67]?=some fn)(hc:fn.body=some c)(F C n:Nat)(R:RT)(b:Nat)(p:RP)(s:RL)(hR:IsRl F C n R p s)(hn:n<=800)(os:List OwT)(T:Nat)(hos:os.length=T)(hT:T<=3)(b1 b5 bo:Nat)(v9:Value)(Z:List Ab)
 (k: ∀s' X v cs,IsRl F C (n+8*T) (P4 R os T) p s'->OwnSl 3 1 v T ((os.map OwT.th).map CA) cs->CH fn.ntmps E Q .normal (iQ T b1 b5 bo v9 v) ds (N5 b5 b::TT bo os::(cs++Cn b p s' (P4 R os T) (X++Z)))):
 BF prog none fn.ntmps E (qb (aft 10 c)) Q (iQ T b1 b5 bo v9 (.slice none 0 0)) ds (N5 b5 b::TT bo os::Cn b p s R Z):=by
 subst hos;obtain rfl:=AV (hf.symm.trans func67);obtain rfl:=AV hc;simp only[func67,ntmps67,aft,qb] at k⊢;refine Aj ?_;refine Cu (α:=Nat×RL×List Ab×Value×List Ab) (λx=>(106,.slice (some ⟨bo,0,none⟩) os.length os.length)::(107,.int .i64 (os.length:Nat))::(108,.int .i64 x.1)::iQ os.length b1 b5 bo v9 x.2.2.2.1) (λx=>N5 b5 b::TT bo os::(x.2.2.2.2++Cn b p x.2.1 (P4 R os x.1) (x.2.2.1++Z)))
  (λx=>x.1<=os.length/\IsRl F C (n+8*x.1) (P4 R os x.1) p x.2.1/\OwnSl 3 1 x.2.2.2.1 x.1 (((os.take x.1).map OwT.th).map CA) x.2.2.2.2) (λx=>os.length-x.1) (0,s,[],.slice none 0 0,[]) ⟨Bf _,hR,OwnSl.nil _ _⟩ ⟨rfl,rfl,rfl,rfl,rfl,rfl,rfl,rfl,trivial⟩ .refl ?_
 rintro⟨i,s,X,v,cs⟩ ⟨hi,hR,ho⟩;simp only at hi hR ho⊢;by_cases hlt:i<os.length
 ·obtain⟨o,hio⟩: ∃o,os[i]?=some o:=⟨_,Am hlt⟩
  obtain⟨x1,x2⟩:=Qt hio;refine Aj ?_;refine Bc (Dm rfl (.tail _ (.head _)) x1 x2) ?_;refine AQ λb16=>?_;refine Bk (l':=Cn b p s (P4 R os i) (HX b16 o::N5 b5 b::TT bo os::(cs++(X++Z)))) (by unfold Cn;dsimp only[HX,PI];exact AY []) ?_;refine AS (Az rfl rfl (fY F C (n+8*i) _ b p s hR Af o (decide ((i:Int)=0)) _)) ?_;rintro _ _ ⟨rfl,s1,X1,hR1,rfl⟩;have e1:P4 R os (i+1)=R2 (P4 R os i) o (decide ((i:Int)=0)):=by show R2 _ (os.getD i TR) _=_;rw[List.getD,hio,Dn]
  have e2:os.take (i+1)=os.take i++[o]:=by rw[B0,hio];rfl
  rw[<-e1] at hR1⊢;refine Bk (l':=HX b16 o::N5 b5 b::TT bo os::(cs++Cn b p s1 (P4 R os (i+1)) (X1++(X++Z)))) (by unfold Cn;dsimp only[HX,PI];exact AY []) ?_;refine Aj ?_;refine AS (JL (v:=CA o.th) rfl rfl) ?_;rintro _ _ ⟨bl,_,rfl,rfl⟩;refine Bk (l':=cs++((bl,Obj.cells (toArray [CA o.th]) 3 (0,0))::HX b16 o::N5 b5 b::TT bo os::Cn b p s1 (P4 R os (i+1)) (X1++(X++Z)))) (AY []) ?_;refine AS (Gk (k:=1) (yb:=8) (n:=i) (xs:=((os.take i).map OwT.th).map CA) (news:=[CA o.th]) (zs:=[.int .i64 0]) (cs:=cs) rfl rfl rfl ho (Aa _ Ak) (λj u hj=>by simpa using hj) rfl (by simp[Value.oneCell',CA]) (by unfold maxLen;omega) Af) ?_;rintro v' _ ⟨cs',ho',rfl⟩;refine Aj ?_;refine BS (i+1,s1,(bl,Obj.cells (toArray [CA o.th]) 3 (0,0))::HX b16 o::(X1++X),v',cs') ⟨Af,hR1,?_⟩ (by simp only;omega) ⟨rfl,rfl,rfl,rfl,rfl,rfl,rfl,rfl,trivial⟩ (by unfold Cn;exact AY []);rw[e2,Ap,Ap];exact ho'
 ·refine Aj ?_;obtain rfl:i=os.length:=by omega
  rw[D1] at ho;exact Yl (fr':=iQ os.length b1 b5 bo v9 v) ⟨rfl,rfl,rfl,rfl,rfl,trivial⟩ .refl (k s X v cs hR ho)
def R3(R:RT)(id:Int):RT:={R with T:=(Th.setD R.T {(Th.findH R.T id).getD Th.thZ with pr:=1}).2}
def iR(R:RT)(os:List OwT):Nat->RT
 |0=>R
 |k+1=>LK (R3 (iR R os k) (os.getD k TR).th) (os.getD k TR).th
set_option maxHeartbeats 4000000 in
theorem tZ(hf:prog.funcs[67]?=some fn)(hc:fn.body=some c)(F C n:Nat)(R:RT)(b:Nat)(p:RP)(s:RL)(hR:IsRl F C n R p s)(hn:n<=800)(os:List OwT)(T:Nat)(hos:os.length=T)(hT:T<=3)(b1 b5 bo:Nat)(v9 v14:Value)(Z:List Ab)
 (k: ∀s' X,IsRl F C (n+T) (iR R os T) p s'->CH fn.ntmps E Q .normal (iQ T b1 b5 bo v9 v14) ds (N5 b5 b::Cn b p s' (iR R os T) (X++(TT bo os::Z)))):
 BF prog none fn.ntmps E (qb (aft 12 c)) Q (iQ T b1 b5 bo v9 v14) ds (N5 b5 b::Cn b p s R (TT bo os::Z)):=by
 subst hos;obtain rfl:=AV (hf.symm.trans func67);obtain rfl:=AV hc;simp only[func67,ntmps67,aft,qb] at k⊢;refine Aj ?_;refine Cu (α:=Nat×RL×List Ab) (λx=>(130,.slice (some ⟨bo,0,none⟩) os.length os.length)::(131,.int .i64 (os.length:Nat))::(132,.int .i64 x.1)::iQ os.length b1 b5 bo v9 v14) (λx=>N5 b5 b::Cn b p x.2.1 (iR R os x.1) (x.2.2++(TT bo os::Z)))
  (λx=>x.1<=os.length/\IsRl F C (n+x.1) (iR R os x.1) p x.2.1) (λx=>os.length-x.1) (0,s,[]) ⟨Bf _,hR⟩ ⟨rfl,rfl,rfl,rfl,rfl,rfl,rfl,rfl,trivial⟩ .refl ?_
 rintro⟨i,s,X⟩ ⟨hi,hR⟩;simp only at hi hR⊢;by_cases hlt:i<os.length
 ·obtain⟨o,hio⟩: ∃o,os[i]?=some o:=⟨_,Am hlt⟩
  obtain⟨x1,x2⟩:=Qt hio;have e1:iR R os (i+1)=LK (R3 (iR R os i) o.th) o.th:=by show LK (R3 _ (os.getD i TR).th) (os.getD i TR).th=_;rw[List.getD,hio,Dn]
  obtain⟨R1,hR1⟩: ∃R1,R1=iR R os i:=⟨_,rfl⟩
  rw[<-hR1] at hR e1⊢;refine DQ (l':=TT bo os::N5 b5 b::Co b p::(s.T++(As.asA p.n R1.N::(s.M++(s.C++(s.A++(s.H++(s.Q++(s.E++(s.V++(X++Z))))))))))) (by unfold Cn;exact AY []) ?_;refine Aj ?_;refine Bc (Dm rfl (.head _) x1 x2) ?_;refine AQ λb18=>?_;refine DQ (l':=HX b18 o::N5 b5 b::Co b p::(s.T++(TT bo os::(As.asA p.n R1.N::(s.M++(s.C++(s.A++(s.H++(s.Q++(s.E++(s.V++(X++Z)))))))))))) (by dsimp only[HX,PI];exact AY []) ?_;have hsub1: ∀c,c∈HX b18 o::N5 b5 b::Co b p::s.T->c∈HX b18 o::N5 b5 b::Co b p::(s.T++(TT bo os::(As.asA p.n R1.N::(s.M++(s.C++(s.A++(s.H++(s.Q++(s.E++(s.V++(X++Z))))))))))):=λc hc=> @Ai _ c (HX b18 o::N5 b5 b::Co b p::s.T) _ hc;refine Ce [8,9] 11 (HX b18 o::N5 b5 b::Co b p::s.T) ?_ (hR:=(hsub1));refine BI ?_;apply D7
  ·exact AK rfl rfl (λl hl=>LI b p l (hl _ (.tail _ (.tail _ (.head _)))))
  ·rfl
  ·rfl
  ·rfl
  refine BI ?_;apply D7
  ·exact AK rfl rfl (λl hl=>Th.get_any p.t R1.T s.T hR.th o.th l (λc hc=>hl _ (.tail _ (.tail _ (.tail _ hc)))))
  ·rfl
  ·rfl
  ·rfl
  obtain⟨t,ht⟩: ∃t,t=(Th.findH R1.T o.th).getD Th.thZ:=⟨_,rfl⟩
  rw[<-ht];refine BI ?_;apply CE
  ·exact e_alloc
  ·rfl
  ·rfl
  ·rfl
  ·rintro _ _ ⟨b5,_,_,rfl⟩ c hc;exact .tail _ (hsub1 c hc)
  rintro _ _ ⟨b19,_,rfl,rfl⟩;apply Mu
  ·exact SW (cs':=Th.encH t) rfl rfl rfl (by simp[Value.oneCell']) (.head _) (by repeat(first|apply LSetA.done|apply LSetA.put)) .here
  ·rfl
  ·rfl
  ·rintro _ _ ⟨_,rfl⟩ c hc;exact .tail _ (hsub1 c hc)
  rintro _ _ ⟨rfl,rfl⟩;refine BI ?_;refine Aj ?_;obtain⟨t1,ht1⟩: ∃t1,t1={t with pr:=1}:=⟨_,rfl⟩
  have hsub2: ∀(lq:List Ab) (c:Ab),c∈[Th.thC b19 t1,N5 b5 b,Co b p]->c∈lq++(Th.thC b19 t1::N5 b5 b::Co b p::(HX b18 o::TT bo os::As.asA p.n R1.N::(s.M++(s.C++(s.A++(s.H++(s.Q++(s.E++(s.V++(X++Z)))))))))):=λlq c hc=>Aa _ (@Ai _ c [_,_,_] _ hc);refine DQ (l':=s.T++(Th.thC b19 t1::N5 b5 b::Co b p::(HX b18 o::TT bo os::As.asA p.n R1.N::(s.M++(s.C++(s.A++(s.H++(s.Q++(s.E++(s.V++(X++Z))))))))))) (by rw[ht1];dsimp only[Th.thC,Th.encH];exact AY []) ?_;refine Ce [3] 4 ([Th.thC b19 t1,N5 b5 b,Co b p]) ?_ (hR:=(hsub2 _));refine BI ?_;apply D7
  ·exact AK rfl rfl (λl hl=>LI b p l (hl _ (.tail _ (.tail _ (.head _)))))
  ·rfl
  ·rfl
  ·rfl
  refine BI ?_;apply CE
  ·exact Az rfl rfl (Th.set_any p.t R1.T s.T hR.th t1 _)
  ·rfl
  ·rfl
  ·rfl
  ·rintro _ _ ⟨_,_,_,rfl⟩;exact hsub2 _
  rintro _ _ ⟨rfl,lT,hT,rfl⟩;refine BI ?_;rw[ht1,ht] at hT;have hR2:IsRl F C (n+i) (R3 R1 o.th) p ⟨s.M,s.C,s.A,s.H,lT,s.Q,s.E,s.V⟩:=⟨hR.mem,hR.co,hR.ar,hR.an,hR.ho,hR.inv,hR.giv,hT,hR.qu,hR.ql,hR.en,hR.cu,hR.c1⟩
  refine Jh (l':=HX b18 o::N5 b5 b::Cn b p ⟨s.M,s.C,s.A,s.H,lT,s.Q,s.E,s.V⟩ (R3 R1 o.th) (TT bo os::Th.thC b19 t1::(X++Z))) (by unfold Cn;dsimp only[R3];exact AY []) ?_;refine Aj ?_;refine Bk (l':=Cn b p ⟨s.M,s.C,s.A,s.H,lT,s.Q,s.E,s.V⟩ (R3 R1 o.th) (HX b18 o::N5 b5 b::TT bo os::Th.thC b19 t1::(X++Z))) (by unfold Cn;exact AY []) ?_;refine AS (Az rfl rfl (bU F C (n+i) _ b p _ hR2 Af o.th _)) ?_;rintro _ _ ⟨_,s1,X1,hR3,rfl⟩;rw[<-e1] at hR3⊢;refine Aj ?_;refine BS (i+1,s1,HX b18 o::Th.thC b19 t1::(X1++X)) ⟨Af,hR3⟩ (by simp only;omega) ⟨rfl,rfl,rfl,rfl,rfl,rfl,rfl,rfl,trivial⟩ (by unfold Cn;exact AY [])
 ·refine Aj ?_;obtain rfl:i=os.length:=by omega
  exact Yl (fr':=iQ os.length b1 b5 bo v9 v14) ⟨rfl,rfl,rfl,rfl,rfl,trivial⟩ .refl (k s X hR)
def ZK(F T:Nat)(sh:Bool):List Int:=(Vh F (DV F T sh)).2
def TU(F T:Nat)(sh:Bool):List OwT:=N6 (ZK F T sh) T T
def TV(F T:Nat)(sh:Bool):Int:=if sh=true then(ZK F T sh).getD (4*T) 0 else 0
def R4(F T:Nat)(sh:Bool):RT:=P4 (Vh F (DV F T sh)).1 (TU F T sh) T
def PJ(F T:Nat)(sh:Bool):RT:=if sh=true then{R4 F T sh with H:=Po (R4 F T sh).H (TU F T sh) (TV F T sh)} else R4 F T sh
def KA(F T:Nat)(sh:Bool):RT:=iR (PJ F T sh) (TU F T sh) T
theorem vy(b:Nat)(p:RP)(s:RL)(R:RT)(c1 c2 c3 c4 c5:Ab)(X:List Ab):Keep (c1::c2::c3::c4::c5::Cn b p s R X) (c4::c5::Cn b p s R (c1::c2::c3::X)):=by unfold Cn;exact AY []
theorem vz(b:Nat)(p:RP)(s:RL)(R:RT)(c1 c2 c3 c4 c5:Ab)(A Y X:List Ab):Keep (c4::c5::(A++Cn b p s R (Y++c1::c2::c3::X))) (c3::c4::c5::(A++Cn b p s R (Y++(c1::c2::X)))):=by unfold Cn;exact AY []
theorem vA(b:Nat)(p:RP)(s:RL)(R:RT)(c1 c2 c3 c4 c5:Ab)(A Y X:List Ab):Keep (c3::c4::c5::(A++Cn b p s R (Y++(c1::c2::X)))) (c4::c5::(A++Cn b p s R (Y++c1::c2::c3::X))):=by unfold Cn;exact AY []
theorem vB(b:Nat)(p:RP)(s:RL)(R:RT)(c3 c4 c5:Ab)(A X:List Ab):Keep (c3::c4::c5::(A++Cn b p s R X)) (Cn b p s R (c5::c4::c3::(A++X))):=by unfold Cn;exact AY []
theorem t6(b:Nat)(p:RP)(s:RL)(R:RT)(c1 c2 c3 c4 c5:Ab)(A Y2 Y X:List Ab):Keep (Cn b p s R (Y2++(c5::c4::c3::(A++(Y++(c1::c2::X)))))) (c4::c5::(A++Cn b p s R ((Y2++Y)++c1::c2::c3::X))):=by unfold Cn;exact AY []
theorem vC(b:Nat)(p:RP)(s:RL)(R:RT)(c4 c5:Ab)(A X:List Ab):Keep (c4::c5::(A++Cn b p s R X)) (c4::Cn b p s R (c5::(A++X))):=by unfold Cn;exact AY []
set_option maxHeartbeats 4000000 in
theorem vD(b:Nat)(p:RP)(s:RL)(R:RT)(k m c1 c2 c3 c4 c5:Ab)(A W Y X G:List Ab):Keep (k::c4::Cn b p s R (W++c5::(A++(Y++(c1::c2::c3::(X++m::G)))))) ([m]++(k::(A++Cn b p s R ((c4::c5::c1::c2::c3::(W++(Y++X)))++G)))):=by unfold Cn;exact AY []
set_option maxHeartbeats 4000000 in
theorem kG(F C T:Nat)(sh:Bool)(hT1:1<=T)(hT:T<=3)(hC1:1<=C)(hC:C<=3)(hF:11*T<=F)(hF2:F<=64)(G:List Ab):Fn prog 67 [.agg (toArray [.int .i64 F,.int .i64 C,.int .i64 T,.bool sh])] G λv l'=> ∃B b v14 p s X cs,v= .tuple #[pV B,v14,.int .i64 0]/\IsRl F C 60 (KA F T sh) p s/\OwnSl 3 1 v14 T (((TU F T sh).map OwT.th).map CA) cs/\l'=uR B b::(cs++Cn b p s (KA F T sh) (X++G)):=by
 have hmay:M3 F C T=true:=by simp[M3];omega
 refine AO func67 ntmps67 λE=>?_;refine Aj ?_;refine AS (CR rfl) ?_;rintro _ _ ⟨b1,_,rfl,rfl⟩;refine Aj ?_;refine Bc (AK rfl rfl (λl hl=>Wu F C T sh l)) ?_;rw[hmay];refine Aj ?_;refine AS (Az rfl rfl (ff F C ⟨Af,Af⟩ ⟨Af,Af⟩ _)) ?_;rintro _ _ ⟨b,p,s0,X0,rfl,hR0,rfl⟩;refine AQ λb5=>?_;refine Bk (l':=N5 b5 b::iP b1 F C T sh::Cn b p s0 (In F) (X0++G)) (by unfold Cn;dsimp only[N5,iP,pV];simp only[AL,AI];exact AY []) ?_;refine Aj ?_;refine AS (Fv (n:=T) (kk:=5) (yb:=40) (zs:=PI TR) (xs:=Pn (List.replicate T TR)) rfl rfl Af Af AW (gc T)) ?_;rintro _ _ ⟨bo,_,rfl,rfl⟩;refine AQ λb8=>?_;refine AS (CZ rfl rfl (Yj F C T sh _)) ?_;rintro _ _ ⟨B1,rfl,rfl⟩;refine Aj ?_;refine Vv (α:=Int×Int×Int) (ps:=[39]) (lb:=[pV B1]) rfl (Wt B1 F C T sh hT1 hT hF hF2) (λ_=>rfl) rfl (vw F C b p b8) (λ_ _ _=>False)
  (Cn b p s0 (In F) (L6 b8 (.slice none 0 0)::([]++X0))) ((bo,Obj.cells (toArray (Pn (List.replicate T TR))) 203 (0,0))::N5 b5 b::iP b1 F C T sh::G) (λ_ _ _ _ _=>trivial) (by unfold Cn;dsimp only[L6,SI];simp only[Ag,AL,AI];exact AY []) ⟨s0,_,[],X0,hR0,OwnSl.nil _ _,rfl⟩ ?_ ?_ ?_
 ·rintro E r rec pre x l1 T' ⟨fn,tmps,D,rfl⟩ hTs ⟨s,v,cs,X,hR,ho,rfl⟩ hsp;have hlen:(pre++[x]).length<=25:=by
   have:=hsp.length_le;have h2:(DV F T sh).length<=25:=by unfold DV;rw[M2,OQ];cases sh<;>simp<;>omega
   omega
  have hlen':pre.length+1<=25:=by simpa using hlen
  have hm5:N5 b5 b∈T':=hTs _ (.tail _ (.head _));simp only[Du];generalize hLO:Obj.loop _=LO;obtain⟨R,hRe⟩: ∃R,R=(Vh F pre).1:=⟨_,rfl⟩
  rw[<-hRe] at hR;rw[<-hRe];refine DQ (l':=(r,LO)::(Cn b p s R (L6 b8 v::(cs++X))++T')) (by unfold Cn;exact AY []) ?_;refine AQ λb10=>?_;subst hLO;refine Cp (by exact Dw) ?_;generalize hLO:Obj.loop _=LO;refine Aj ?_;refine Bc (Dv (v:=pV b) rfl (.tail _ (.tail _ (Aa _ hm5))) rfl) ?_;refine Aj ?_;refine Bk (l':=Cn b p s R ((b10,Obj.cells (toArray [.int .i64 x.1,.int .i64 x.2.1,.int .i64 x.2.2]) 199 (0,0))::(r,LO)::L6 b8 v::(cs++(X++T')))) (by unfold Cn;exact AY []) ?_;refine AS (Az rfl rfl (fC F C pre.length R b p s hR Af x.1 x.2.1 x.2.2 _)) ?_;rintro _ _ ⟨rfl,s1,X1,hR1,rfl⟩;refine Bk (l':=L6 b8 v::(cs++(Cn b p s1 (IA R x.1 x.2.1 x.2.2).2 (X1++((b10,Obj.cells (toArray [.int .i64 x.1,.int .i64 x.2.1,.int .i64 x.2.2]) 199 (0,0))::(r,LO)::(X++T')))))) (by unfold Cn;exact AY []) ?_;refine Aj ?_;refine AS (JL (v:=CA (IA R x.1 x.2.1 x.2.2).1.1) rfl rfl) ?_;rintro _ _ ⟨bl,_,rfl,rfl⟩;refine Bk (l':=cs++((bl,Obj.cells (toArray [CA (IA R x.1 x.2.1 x.2.2).1.1]) 3 (0,0))::L6 b8 v::Cn b p s1 (IA R x.1 x.2.1 x.2.2).2 (X1++((b10,Obj.cells (toArray [.int .i64 x.1,.int .i64 x.2.1,.int .i64 x.2.2]) 199 (0,0))::(r,LO)::(X++T'))))) (AY []) ?_;have hnl:(Vh F pre).2.length=pre.length:=ZI F pre;refine AS (Gk (k:=1) (yb:=8) (n:=pre.length) (xs:=(Vh F pre).2.map CA) (news:=[CA (IA R x.1 x.2.1 x.2.2).1.1]) (zs:=[.int .i64 0]) (cs:=cs) rfl rfl rfl ho (Aa _ Ak) (λj u hj=>by simpa using hj) rfl (by simp[Value.oneCell',CA]) (by unfold maxLen;omega) Af) ?_;rintro v' _ ⟨cs',ho',rfl⟩;have hv1:v'.oneCell'=true:=ho'.one;refine Bk (l':=L6 b8 v::(cs'++((bl,Obj.cells (toArray [CA (IA R x.1 x.2.1 x.2.2).1.1]) 3 (0,0))::Cn b p s1 (IA R x.1 x.2.1 x.2.2).2 (X1++((b10,Obj.cells (toArray [.int .i64 x.1,.int .i64 x.2.1,.int .i64 x.2.2]) 199 (0,0))::(r,LO)::(X++T')))))) (AY []) ?_;apply LV
  ·exact FP rfl rfl hv1 (by exact BO) .zero (by exact Dw)
  ·rfl
  ·rfl
  rintro _ _ ⟨rfl,rfl⟩;refine Aj ?_;subst hLO;have e1:Vh F (pre++[x])=((IA R x.1 x.2.1 x.2.2).2,(Vh F pre).2++[(IA R x.1 x.2.1 x.2.2).1.1]):=by rw[ga,hRe];rfl
  refine B9 (Cn b p s1 (Vh F (pre++[x])).1 (L6 b8 v'::(cs'++((bl,Obj.cells (toArray [CA (IA R x.1 x.2.1 x.2.2).1.1]) 3 (0,0))::(X1++((b10,Obj.cells (toArray [.int .i64 x.1,.int .i64 x.2.1,.int .i64 x.2.2]) 199 (0,0))::X)))))) ?_ ⟨s1,v',cs',_,?_,?_,rfl⟩
  ·rw[e1];unfold Cn;dsimp only[L6];exact AY []
  ·rw[e1,Ah];exact hR1
  ·rw[e1,Ah];simp only[Ap,AJ,CY];exact ho'
 ·rintro D xs l hxs ⟨s,v,cs,X,hR,ho,rfl⟩;subst hxs;obtain⟨ids,hids⟩: ∃ids,ids=ZK F T sh:=⟨_,rfl⟩
  have hids':(Vh F (DV F T sh)).2=ids:=hids.symm;rw[hids'] at ho;have hlen:(DV F T sh).length=5*T+sh.toNat:=by unfold DV;rw[M2,OQ]
  have hil:ids.length=5*T+sh.toNat:=by rw[hids];unfold ZK;rw[ZI,hlen]
  have hsh:sh.toNat<=1:=by cases sh<;>decide
  rw[hlen] at ho hR;rcases ho.2 with⟨_,h0,_⟩|⟨gb,cap,sp,rfl,rfl,_⟩
  ·omega
  obtain⟨R0,hR0⟩: ∃R0,R0=(Vh F (DV F T sh)).1:=⟨_,rfl⟩
  rw[<-hR0] at hR⊢;refine Jh (l':=kF F C T sh ids sp b1 b5 b8 bo b gb cap 0++(Cn b p s R0 (X++(Cd D::G)))) (by unfold kF Cn;simp only[N6,List.range_zero,CY,Ag,Nat.sub_zero];exact AY []) ?_;iterate 3 refine Xo ?_
  refine lY (fr':=rL T b1 b5 b8 bo) ⟨rfl,rfl,rfl,rfl,rfl,trivial⟩ (tX func67 rfl F C T sh hT1 hT ids sp hil b1 b5 b8 bo b gb cap _ ?_);obtain⟨os,hos⟩: ∃os,os=TU F T sh:=⟨_,rfl⟩
  have hos1:N6 ids T T=os:=by rw[hos,hids];rfl
  have hol:os.length=T:=by rw[hos];exact Wv _ _ _ (A5 _)
  refine Mo ?_;refine Xj (α:=Unit) (λ_=>[(1,pV b1),(5,pV b5),(7,.slice (some ⟨bo,0,none⟩) T T),(9,.int .i64 (TV F T sh))]) (λ_=>L6 b8 (.slice (some ⟨gb,0,none⟩) (5*T+sh.toNat) cap)::(gb,Obj.cells (toArray (ids.map CA++sp)) 3 (0,0))::iP b1 F C T sh::N5 b5 b::TT bo os::Cn b p s R0 (X++(Cd D::G))) (λ_=>True) ?_ ?_
  ·unfold kF;rw[hos1];simp only[Ad,Ag];have hget: ∀(x:Int) (m:Nat),x=m->m<ids.length->(toArray (ids.map CA++sp))[0+x.toNat*1]?=some (CA (ids.getD m 0)):=λx m hx hm=>by
    subst hx;rw[A3,Dh,Bw,AE,AC (by rw[AZ];exact hm),A0,List.getD,Am hm];rfl
   cases sh with
   |false=>refine Aj ?_;exact D8 () trivial ⟨rfl,rfl,rfl,rfl,trivial⟩ .refl
   |true=>refine Aj ?_;refine Bc (Dv (v:=CA (ids.getD (4*T) 0)) rfl (.tail _ (.head _)) (hget (4*(T:Int)) (4*T) Af (by rw[hil];simp only[Jg];omega))) ?_;refine Aj ?_;rw[hids];exact D8 () trivial ⟨rfl,rfl,rfl,rfl,trivial⟩ .refl
  ·rintro _ _;iterate 6 refine Xo ?_
   refine lY (fr':=iQ T b1 b5 bo (.int .i64 (TV F T sh)) (.slice none 0 0)) ⟨rfl,rfl,rfl,rfl,rfl,trivial⟩ ?_;obtain⟨Z,hZ⟩: ∃Z,Z=L6 b8 (.slice (some ⟨gb,0,none⟩) (5*T+sh.toNat) cap)::(gb,Obj.cells (toArray (ids.map CA++sp)) 3 (0,0))::iP b1 F C T sh::(X++(Cd D::G)):=⟨_,rfl⟩
   refine DQ (l':=N5 b5 b::TT bo os::Cn b p s R0 Z) (by rw[hZ];exact vy ..) ?_;have hRT:P4 R0 os T=R4 F T sh:=by rw[hR0,hos];rfl
   refine tY func67 rfl F C _ R0 b p s hR Af os T hol hT b1 b5 bo _ _ ?_;intro s1 Y v14 ct hR ht;rw[hRT] at hR⊢;refine Mo ?_;refine Xj (α:=RL×List Ab) (λ_=>iQ T b1 b5 bo (.int .i64 (TV F T sh)) v14) (λx=>N5 b5 b::TT bo os::(ct++(Cn b p x.1 (PJ F T sh) (x.2++Z)))) (λx=>IsRl F C 50 (PJ F T sh) p x.1) ?_ ?_
   ·rw[hZ];refine DQ (vz ..) ?_;cases sh with
    |false=>
     have hB:PJ F T false=R4 F T false:=by unfold PJ;rw[Ac AW]
     rw[hB];refine Aj ?_;refine D8 (s1,Y) ?_ ⟨rfl,rfl,rfl,rfl,rfl,trivial⟩ (vA ..);exact hR.mono (by simp only[KY];omega)
    |true=>
     have hB:PJ F T true={R4 F T true with H:=Po (R4 F T true).H os (TV F T true)}:=by unfold PJ;rw[Ae rfl,hos]
     rw[hB];refine Aj ?_;have hs:=bT F C _ _ b p s1 hR Af os Af Af (TV F T true) bo T 203 (0,0) (TT bo os::N5 b5 b::iP b1 F C T true::(ct++(Y++(L6 b8 (.slice (some ⟨gb,0,none⟩) (5*T+true.toNat) cap)::(gb,Obj.cells (toArray (ids.map CA++sp)) 3 (0,0))::(X++(Cd D::G)))))) (.head _);rw[hol] at hs;refine Bk (vB ..) ?_;refine AS (Az rfl rfl hs) ?_;rintro _ _ ⟨rfl,s2,Y2,hR2,rfl⟩;refine Aj ?_;refine D8 (s2,Y2++Y) ?_ ⟨rfl,rfl,rfl,rfl,rfl,trivial⟩ (t6 ..);exact hR2.mono (by simp only[Jg];omega)
   ·rintro⟨s2,Y2⟩ hR2;simp only at hR2⊢;iterate 1 refine Xo ?_
    have hBT:iR (PJ F T sh) os T=KA F T sh:=by rw[hos];rfl
    refine DQ (vC ..) ?_;refine tZ func67 rfl F C _ _ b p s2 hR2 Af os T hol hT b1 b5 bo _ _ _ ?_;intro s3 W hR3;rw[hBT] at hR3⊢;rw[hZ];refine Aj ?_;refine AS (Az rfl rfl (f9 b _)) ?_;rintro _ _ ⟨B,rfl,rfl⟩;refine Aj ?_;refine By [D] rfl (vD ..) (by exact A7) ⟨B,b,v14,p,s3,_,ct,rfl,hR3.mono Af,?_,rfl⟩;rw[<-hos];exact ht
 ·intro D c pre l hsp hx;exact hx.elim
set_option maxHeartbeats 400000
namespace Ar
open Tryz
open List(toArray)
theorem all_any(b:Nat)(S:ArT)(lq:List Ab)(hA:IsA b S lq)(l:List Ab)(hsub: ∀c,c∈lq->c∈l):
 Fn prog 74 [.pointer (some ⟨b,0,none⟩)] l λv l'=> ∃cs,OwnSl 100 9 v S.os.length (ocs S.os) cs/\l'=cs++l:=by
 have hlen:=hA.ok.len;obtain⟨hok,v,cs,rfl,ho⟩:=hA;obtain⟨gb,hrow,MM⟩:=Uq ho;refine AO func74 ntmps74 λE=>?_;refine Hj λb3=>?_;refine AS (Az rfl rfl (Ij _ rfl _)) ?_;rintro _ _ ⟨B,rfl,rfl⟩;refine gz ?_;refine CU (α:=ObT×Nat) (ps:=[8,9]) (lb:=[.pointer (some ⟨B,0,none⟩)]) rfl (G1 B b S.n S.g v S.os gb hrow Af) (λ_=>rfl) rfl
  (λpre l=> ∃u cs2,OwnSl 100 9 u pre.length (ocs (pre.map Prod.fst)) cs2/\l=[xB B (some ⟨b,0,none⟩),(b3,.cells #[u] 43 (0,0))]++cs2)
  (λc pre l=>False)
  _ l (λpre l2 X2 hX h=>by obtain⟨u,cs2,_,rfl⟩:=h;exact⟨List.Mem.head _,Aa _ (hX _ (hsub _ (.head _)))⟩) (by exact AR) ⟨_,[],OwnSl.nil _ _,rfl⟩ ?_ ?_ ?_
 ·rintro E r0 rec pre ⟨o,k⟩ l' T ⟨fn,tmps,D,rfl⟩ hT ⟨u,cs2,hown,rfl⟩ hsp;obtain⟨ho1,hk,_⟩:=Ox hsp;simp only at ho1 hk;have hkl:=(Ax.1 ho1).1;obtain⟨sp,rfl⟩:=MM _ _ ho1;have hmT:=hT _ (hsub _ (.tail _ (.head _)));obtain⟨x1,x2⟩:=Zb ho1 sp;have hu1:u.oneCell'=true:=hown.one;simp only[Du,Ad,Ag];refine gz ?_;refine Cp (.there (.there (Fa _ _ _ _ _))) ?_;generalize hX1:(r0,Obj.loop (Dp fn tmps _ _ _ D .busy none))::T=X1;have hmX:(gb,Obj.cells (toArray (ocs S.os++sp)) 100 (0,0))∈X1:=by rw[<-hX1];exact .tail _ hmT
  refine gz ?_;refine Ce [4,5,6] 7 ([]) ?_;refine pz ?_;apply FD (S:=[(b3,.cells #[u] 43 (0,0))])
  ·exact Dv rfl (.head _) rfl
  ·intro c hc;cases hc with
   |head=>exact .tail _ (.head _)
   |tail _ h=>cases h
  ·rfl
  ·rfl
  ·rfl
  refine pz ?_;apply FD (S:=[(gb,Obj.cells (toArray (ocs S.os++sp)) 100 (0,0))])
  ·exact Dm rfl (.head _) x1 x2
  ·intro c hc;cases hc with
   |head=>exact .tail _ (.tail _ (Aa _ hmX))
   |tail _ h=>cases h
  ·rfl
  ·rfl
  ·rfl
  refine pz ?_;apply Gq
  ·apply E3 (ws:=obC o) (k:=9)
   ·rfl
   ·rfl
   ·rfl
   ·decide
   ·decide
  ·rfl
  ·rfl
  ·rfl
  ·intro _ _ _ c hc;cases hc
  ·rintro _ _ ⟨bl,_,rfl,rfl⟩ x hx _ c hc;have h3: ∀q:Obj,(b3,q)∈(bl,Obj.cells (toArray (obC o)) 100 (0,0))::xB B (some ⟨b,0,none⟩)::(b3,q)::(cs2++X1):=λq=> .tail _ (.tail _ (.head _));simp only[Aq,BK,Ec] at hx;rcases hx with rfl|rfl<;>simp only[Aq,BK,Ec] at hc<;>subst hc
   ·exact .tail _ (.tail _ (.tail _ (Aa _ hmX)))
   ·exact h3 _
  rintro _ _ ⟨bl,_,rfl,rfl⟩;refine pz ?_;apply Gq
  ·apply GI (k:=9) (X:=[xB B (some ⟨b,0,none⟩),(b3,.cells #[u] 43 (0,0))]) (cs:=cs2) (xs:=ocs (pre.map Prod.fst)) (n:=pre.length) (zs:=iL) (ws:=obC o)
   ·rfl
   ·rfl
   ·rfl
   ·exact hown
   ·rfl
   ·simp[Value.oneCell']
   ·omega
   ·decide
  ·rfl
  ·rfl
  ·rfl
  ·intro _ _ _ c hc;cases hc
  ·exact λ_ _ _ x hx ha=>CV Bv hx ha
  rintro v' _ ⟨c2,ho2,rfl⟩;have hv1:v'.oneCell'=true:=ho2.one;simp only[Ad,Ag];apply GH
  ·apply FP (cs:=[u])
   ·rfl
   ·rfl
   ·exact hv1
   ·exact BO
   ·exact .zero
   ·exact Dw
  ·rfl
  ·rfl
  ·intro _ _ _ c hc;cases hc
  ·exact λ_ _ _ x hx ha=>CV Bv hx ha
  rintro _ _ ⟨rfl,rfl⟩;refine pz ?_;refine gz ?_;rw[<-hX1];refine B9 _ (.refl) ⟨v',c2,?_,rfl⟩;rw[Ap,show[(o,k)].map Prod.fst=[o] from rfl,dV,Ah];exact ho2
 ·rintro D xs l' rfl ⟨u,cs2,hown,rfl⟩;have hu1:u.oneCell'=true:=hown.one;simp only[Ad,Ag];refine gz ?_;refine AU [D] (cs2++l) rfl (l':=cs2++l) (by exact AR) (by exact A7) .refl ?_;rw[Zd,show(Ve S.os).map Prod.fst=S.os from List.zipIdx_map_fst ..] at hown;exact⟨cs2,hown,rfl⟩
 ·rintro D c pre l' hsp h;exact h.elim
end Ar
namespace As
open Tryz
open List(toArray)
theorem setFrom_all(cs vs:List Value)(h:vs.length=cs.length):CO (toArray cs) 0 vs=toArray vs:=by
 apply Dk;intro j;rw[PB _ _ _ _ (by simp[h])];by_cases hj:j<vs.length
 ·rw[Ae Af];simp
 ·rw[Ac Af];simp;rw[Bb Af,Bb Af]
theorem LSub.of_all(ws:List Value)(h:ws.length=n):LSub ws 0 n ws:=by
 subst h
 induction ws with
 |nil=>exact .done
 |cons w ws ih=>exact .take ih
theorem pools_any(b:Nat)(s:ASt)(ws:List Value)(hw:s.cells.extract 0 80=toArray ws)(hl:ws.length=80)(h1: ∀v,v∈ws->v.oneCell'=true)(l:List Ab)(hm:asA b s∈l):Fn prog 78 [.pointer (some ⟨b,0,none⟩)] l λv l'=>v= .agg (toArray ws)/\l'=l:=by
 refine AO func78 ntmps78 λE=>?_;refine Hj λb2=>?_;refine Bc (Dm (cs:=s.cells) (n:=80) rfl (by exact BO) (by rw[s.cells_size];omega) hw) ?_;refine gz ?_;apply LV
 ·apply Ee (n:=80)
  ·rfl
  ·rfl
  ·simpa using hl
  ·exact h1
  ·exact .here
  ·simp
 ·rfl
 ·rfl
 rintro _ _ ⟨rfl,rfl⟩;rw[DM,setFrom_all _ _ (by rw[hl];rfl)];refine gz ?_;refine AU [] ((b2,.cells (toArray ws) 50 (0,0))::l) rfl (l':=l) (by exact AR) (Cq rfl (by exact BO) (LSub.of_all (n:=80) _ hl) .nil) (by exact AR) ⟨rfl,rfl⟩
end As
abbrev rB(B b:Nat):Ab:=(B,.cells #[pV b] 125 (0,0))
theorem Nu(b:Nat)(l:List Ab):Fn prog 80 [pV b] l λv l'=> ∃B,v= .func (.func 121) #[] #[pV B]/\l'=rB B b::l:=by refine AO func80 ntmps80 λE=>?_;refine AQ λB=>?_;exact A8 .refl ⟨B,rfl,rfl⟩
theorem R5{k:Nat}(h:k<n):(List.range n).take (k+1)=(List.range n).take k++[k]:=by rw[Ge,Ge,DU Af,DU Af,Cs]
theorem LL(B b:Nat)(p:RP)(bv C cap:Nat)(hC:C<=100)(hv:p.v= .slice (some ⟨bv,0,none⟩) C cap):
 E2 prog 121 [pV B] (λi:Nat=>[.int .i64 i,.pointer (some ⟨bv,i*1,none⟩)]) (λxs=>xs=List.range C) (λpre=>pre<+:List.range C) (λ_ l=>rB B b∈l/\Co b p∈l):=by
 refine⟨λr I Ix G0 hneed hY l G hG h0=>?_⟩;obtain⟨n1,n2⟩:=hneed _ _ G hG h0;simp only[Co,hv] at hneed n2;refine AO func121 ntmps121 λE=>?_;refine Aj ?_;refine Cu (α:=Nat×List Ab) (λx=>[(0,.func (.yield r) #[] #[]),(1,pV B),(10,.int .i64 C),(11,.int .i64 x.1)]) (λx=>x.2++G) (λx=>x.1<=C/\I ((List.range C).take x.1) x.2) (λx=>C-x.1) (0,l) ⟨Bf _,h0⟩ ⟨rfl,rfl,rfl,rfl,trivial⟩ .refl ?_;clear n1 n2;rintro⟨k,l⟩ ⟨hk,hI⟩;simp only at hk hI⊢;obtain⟨n1,n2⟩:=hneed _ _ G hG hI;by_cases hlt:k<C
 ·refine Aj ?_;have hy:=hY ((List.range C).take k) k l G hG hI (by rw[<-R5 hlt];exact BD _ _);refine AS (CK rfl rfl hy) ?_;rintro v l' ⟨l1,rfl,⟨rfl,hI'⟩|⟨rfl,hx⟩⟩
  ·refine Aj ?_;exact BS (k+1,l1) ⟨by simp only;omega,by simp only;rw[R5 hlt];exact hI'⟩ (by simp only;omega) ⟨rfl,rfl,rfl,rfl,trivial⟩ .refl
  ·refine Aj ?_;exact By [] rfl .refl (by exact A7) ⟨l1,rfl,.inr ⟨_,by rw[<-R5 hlt];exact BD _ _,hx⟩⟩
 ·obtain rfl:k=C:=by omega
  rw[Bz (by simp)] at hI;refine Aj ?_;exact A8 .refl ⟨l,rfl,.inl ⟨_,rfl,hI⟩⟩
end Go.Proofs.YtlkgekpmileobaaGreat
