/- Laws that the statement's proof leans on (joined out of several texts). -/
import Derived.Test.YtlifcingifodfaaGreatGc35
set_option maxHeartbeats 4000000
set_option linter.unusedVariables false
set_option linter.unusedSimpArgs false
namespace Go.Proofs.YtlifcingifodfaaGreat
open Tryz
open List(toArray)
open Go.RowKit
set_option maxRecDepth 20000
variable{E:World}{Q:Exit->Act->World->Prop}{ds:List Deferred}{fn:Func}{c:Code}
def rK(F C T:Nat)(sh:Bool)(ids:A4)(sp:Ap)(b1 b5 b8 bo b gb cap i:Nat):Ad:=[Nm b8 (.slice (some ⟨gb,0,none⟩) (5*T+sh.toNat) cap),(gb,Obj.cells (toArray (ids.map CN++sp)) 3 (0,0)),pm b1 F C T sh,PI b5 b,(bo,Obj.cells (toArray (Rh (PJ ids T i))) 202 (0,0))]
abbrev laF(T:Nat)(b1 b5 b8 bo:Nat):Fr:=[(1,pV b1),(5,pV b5),(7,.slice (some ⟨bo,0,none⟩) T T),(8,pV b8),(9,.int .i64 0)]
theorem AdV(hf:prog.funcs[66]?=some fn)(hc:fn.body=some c)(F C T:Nat)(sh:Bool)(DL:1<=T)(hT:T<=3)(ids:A4)(sp:Ap)(uT:ids.length=5*T+sh.toNat)(b1 b5 b8 bo b gb cap:Nat)(Z:Ad)
 (k:CU fn.ntmps E Q .normal (laF T b1 b5 b8 bo) ds (rK F C T sh ids sp b1 b5 b8 bo b gb cap T++Z)):BN prog none fn.ntmps E (yO (aft 7 c)) Q (laF T b1 b5 b8 bo) ds (rK F C T sh ids sp b1 b5 b8 bo b gb cap 0++Z):=by
 obtain rfl:=AX (hf.symm.trans func66);obtain rfl:=AX hc;simp only[func66,ntmps66,aft,yO] at k⊢;have RO: ∀(x:Int) (m:Nat),x=m->m<ids.length->(toArray (ids.map CN++sp))[0+x.toNat*1]?=some (CN (ids.getD m 0)):=λx m hx hm=>by subst hx;rw[AY,Dq,BE,AF,AB (by rw[A7];exact hm),A5,List.getD,Al hm];rfl
 refine Aj ?_;refine CF (α:=Nat) (λi=>(56,.int .i64 T)::(57,.int .i64 i)::(55,.slice (some ⟨bo,0,none⟩) T T)::laF T b1 b5 b8 bo) (λi=>rK F C T sh ids sp b1 b5 b8 bo b gb cap i++Z)
  (λi=>i<=T) (λi=>T-i) 0 (Bm _) ⟨rfl,rfl,rfl,rfl,rfl,rfl,rfl,rfl,trivial⟩ .refl ?_
 intro i hi;have cL:sh.toNat<=1:=by cases sh<;>decide
 by_cases Dc:i<T
 ·unfold rK;refine Aj ?_;have NQ: ∀c,c∈[Nm b8 (.slice (some ⟨gb,0,none⟩) (5*T+sh.toNat) cap),(gb,Obj.cells (toArray (ids.map CN++sp)) 3 (0,0)),pm b1 F C T sh]->c∈Nm b8 (.slice (some ⟨gb,0,none⟩) (5*T+sh.toNat) cap)::(gb,Obj.cells (toArray (ids.map CN++sp)) 3 (0,0))::pm b1 F C T sh::PI b5 b::(bo,Obj.cells (toArray (Rh (PJ ids T i))) 202 (0,0))::Z:=λc hc=>(@Ai _ c [_,_,_] _ hc)
  refine Cn [37] 38 ([Nm b8 (.slice (some ⟨gb,0,none⟩) (5*T+sh.toNat) cap),(gb,Obj.cells (toArray (ids.map CN++sp)) 3 (0,0)),pm b1 F C T sh]) ?_ (hR:=(NQ));refine BS ?_;apply EF
  ·exact DP (v:=CN (ids.getD (4*i) 0)) rfl (.tail _ (.head _)) (RO _ (4*i) Af Af)
  ·rfl
  ·rfl
  ·rfl
  refine BS ?_;apply EF
  ·exact DP (v:=CN (ids.getD (4*i+1) 0)) rfl (.tail _ (.head _)) (RO _ (4*i+1) Af Af)
  ·rfl
  ·rfl
  ·rfl
  refine BS ?_;apply EF
  ·exact DP (v:=CN (ids.getD (4*i+2) 0)) rfl (.tail _ (.head _)) (RO _ (4*i+2) Af Af)
  ·rfl
  ·rfl
  ·rfl
  refine BS ?_;apply EF
  ·exact DP (v:=CN (ids.getD (4*i+3) 0)) rfl (.tail _ (.head _)) (RO _ (4*i+3) Af Af)
  ·rfl
  ·rfl
  ·rfl
  refine BS ?_;apply EF
  ·exact DP (v:=CN (ids.getD (ids.length-T+i) 0)) rfl (.tail _ (.head _)) (RO _ (ids.length-T+i) Af Af)
  ·rfl
  ·rfl
  ·rfl
  refine BS ?_;apply NZ
  ·exact El (cs:=toArray (Rh (PJ ids T i))) (T:=202) rfl rfl rfl (by simp[CN,Value.oneCell']) (.there (.there (.there (.there .here)))) (by have:=W9 (PJ ids T i);rw[Y1 _ _ _ hi] at this;simp only[Bt,BC,Ff,this];omega)
  ·rfl
  ·rfl
  ·rintro _ _ ⟨_,rfl⟩;exact λc hc=>(@Ai _ c [_,_,_] _ hc)
  rintro _ _ ⟨rfl,rfl⟩;refine BS ?_;refine Aj ?_;refine BR (i+1) Af Af ⟨rfl,rfl,rfl,rfl,rfl,rfl,rfl,rfl,trivial⟩ (.of_perm (.of_eq ?_));show _=rK F C T sh ids sp b1 b5 b8 bo b gb cap (i+1)++Z;unfold rK;rw[<-nc ids T i Dc];simp only[AY,BE];rfl
 ·refine Aj ?_;obtain rfl:i=T:=by omega
  exact bE (fr':=laF i b1 b5 b8 bo) ⟨rfl,rfl,rfl,rfl,rfl,trivial⟩ .refl k
def RZ(R:RT)(os:List OwT):Nat->RT
 |0=>R
 |k+1=>Uk (RZ R os k) (os.getD k VZ) (decide ((k:Int)=0))
abbrev V1(bo:Nat)(os:List OwT):Bg:=(bo,Obj.cells (toArray (Rh os)) 202 (0,0))
abbrev pn(T:Nat)(b1 b5 bo:Nat)(v9 v14:Value):Fr:=[(1,pV b1),(5,pV b5),(7,.slice (some ⟨bo,0,none⟩) T T),(9,v9),(14,v14)]
theorem AdW(hf:prog.funcs[66]?=some fn)(hc:fn.body=some c)(F C n:Nat)(R:RT)(b:Nat)(p:RP)(s:RL)(hR:IsRl F C n R p s)(hn:n<=800)(os:List OwT)(T:Nat)(Nv:os.length=T)(hT:T<=3)(b1 b5 bo:Nat)(v9:Value)(Z:Ad)
 (k: ∀s' X v cs,IsRl F C (n+8*T) (RZ R os T) p s'->OwnSl 3 1 v T ((os.map OwT.th).map CN) cs->CU fn.ntmps E Q .normal (pn T b1 b5 bo v9 v) ds (PI b5 b::V1 bo os::(cs++Cy b p s' (RZ R os T) (X++Z)))):
 BN prog none fn.ntmps E (yO (aft 10 c)) Q (pn T b1 b5 bo v9 (.slice none 0 0)) ds (PI b5 b::V1 bo os::Cy b p s R Z):=by
 subst Nv;obtain rfl:=AX (hf.symm.trans func66);obtain rfl:=AX hc;simp only[func66,ntmps66,aft,yO] at k⊢;refine Aj ?_;refine CF (α:=Nat×RL×Ad×Value×Ad) (λx=>(106,.slice (some ⟨bo,0,none⟩) os.length os.length)::(107,.int .i64 (os.length:Nat))::(108,.int .i64 x.1)::pn os.length b1 b5 bo v9 x.2.2.2.1) (λx=>PI b5 b::V1 bo os::(x.2.2.2.2++Cy b p x.2.1 (RZ R os x.1) (x.2.2.1++Z)))
  (λx=>x.1<=os.length/\IsRl F C (n+8*x.1) (RZ R os x.1) p x.2.1/\OwnSl 3 1 x.2.2.2.1 x.1 (((os.take x.1).map OwT.th).map CN) x.2.2.2.2) (λx=>os.length-x.1) (0,s,[],.slice none 0 0,[]) ⟨Bm _,hR,OwnSl.nil _ _⟩ ⟨rfl,rfl,rfl,rfl,rfl,rfl,rfl,rfl,trivial⟩ .refl ?_
 rintro⟨i,s,X,v,cs⟩ ⟨hi,hR,ho⟩;simp only at hi hR ho⊢;by_cases Dc:i<os.length
 ·obtain⟨o,hio⟩: ∃o,os[i]?=some o:=⟨_,Al Dc⟩
  obtain⟨x1,x2⟩:=Sz hio;refine Aj ?_;refine Be (Dt rfl (.tail _ (.head _)) x1 x2) ?_;refine AQ λPS=>?_;refine Bq (l':=Cy b p s (RZ R os i) (IX PS o::PI b5 b::V1 bo os::(cs++(X++Z)))) (by unfold Cy;dsimp only[IX,Rz];exact A8 []) ?_;refine AR (AA rfl rfl (mS F C (n+8*i) _ b p s hR Af o (decide ((i:Int)=0)) _)) ?_;rintro _ _ ⟨rfl,s1,X1,hR1,rfl⟩;have e1:RZ R os (i+1)=Uk (RZ R os i) o (decide ((i:Int)=0)):=by show Uk _ (os.getD i VZ) _=_;rw[List.getD,hio,Di]
  have e2:os.take (i+1)=os.take i++[o]:=by rw[Cf,hio];rfl
  rw[<-e1] at hR1⊢;refine Bq (l':=IX PS o::PI b5 b::V1 bo os::(cs++Cy b p s1 (RZ R os (i+1)) (X1++(X++Z)))) (by unfold Cy;dsimp only[IX,Rz];exact A8 []) ?_;refine Aj ?_;refine AR (KU (v:=CN o.th) rfl rfl) ?_;rintro _ _ ⟨bl,_,rfl,rfl⟩;refine Bq (l':=cs++((bl,Obj.cells (toArray [CN o.th]) 3 (0,0))::IX PS o::PI b5 b::V1 bo os::Cy b p s1 (RZ R os (i+1)) (X1++(X++Z)))) (A8 []) ?_;refine AR (Gy (k:=1) (yb:=8) (n:=i) (xs:=((os.take i).map OwT.th).map CN) (news:=[CN o.th]) (zs:=[.int .i64 0]) (cs:=cs) rfl rfl rfl ho (Aa _ Ak) (λj u hj=>by simpa using hj) rfl (by simp[Value.oneCell',CN]) (by unfold maxLen;omega) Af) ?_;rintro v' _ ⟨cs',cJ,rfl⟩;refine Aj ?_;refine BR (i+1,s1,(bl,Obj.cells (toArray [CN o.th]) 3 (0,0))::IX PS o::(X1++X),v',cs') ⟨Af,hR1,?_⟩ (by simp only;omega) ⟨rfl,rfl,rfl,rfl,rfl,rfl,rfl,rfl,trivial⟩ (by unfold Cy;exact A8 []);rw[e2,Aq,Aq];exact cJ
 ·refine Aj ?_;obtain rfl:i=os.length:=by omega
  rw[D7] at ho;exact bE (fr':=pn os.length b1 b5 bo v9 v) ⟨rfl,rfl,rfl,rfl,rfl,trivial⟩ .refl (k s X v cs hR ho)
def Ul(R:RT)(id:Int):RT:={R with T:=(Th.setD R.T {(Th.findH R.T id).getD Th.thZ with pr:=1}).2}
def po(R:RT)(os:List OwT):Nat->RT
 |0=>R
 |k+1=>Nb (Ul (po R os k) (os.getD k VZ).th) (os.getD k VZ).th
theorem AdX(hf:prog.funcs[66]?=some fn)(hc:fn.body=some c)(F C n:Nat)(R:RT)(b:Nat)(p:RP)(s:RL)(hR:IsRl F C n R p s)(hn:n<=800)(os:List OwT)(T:Nat)(Nv:os.length=T)(hT:T<=3)(b1 b5 bo:Nat)(v9 v14:Value)(Z:Ad)
 (k: ∀s' X,IsRl F C (n+T) (po R os T) p s'->CU fn.ntmps E Q .normal (pn T b1 b5 bo v9 v14) ds (PI b5 b::Cy b p s' (po R os T) (X++(V1 bo os::Z)))):
 BN prog none fn.ntmps E (yO (aft 12 c)) Q (pn T b1 b5 bo v9 v14) ds (PI b5 b::Cy b p s R (V1 bo os::Z)):=by
 subst Nv;obtain rfl:=AX (hf.symm.trans func66);obtain rfl:=AX hc;simp only[func66,ntmps66,aft,yO] at k⊢;refine Aj ?_;refine CF (α:=Nat×RL×Ad) (λx=>(130,.slice (some ⟨bo,0,none⟩) os.length os.length)::(131,.int .i64 (os.length:Nat))::(132,.int .i64 x.1)::pn os.length b1 b5 bo v9 v14) (λx=>PI b5 b::Cy b p x.2.1 (po R os x.1) (x.2.2++(V1 bo os::Z)))
  (λx=>x.1<=os.length/\IsRl F C (n+x.1) (po R os x.1) p x.2.1) (λx=>os.length-x.1) (0,s,[]) ⟨Bm _,hR⟩ ⟨rfl,rfl,rfl,rfl,rfl,rfl,rfl,rfl,trivial⟩ .refl ?_
 rintro⟨i,s,X⟩ ⟨hi,hR⟩;simp only at hi hR⊢;by_cases Dc:i<os.length
 ·obtain⟨o,hio⟩: ∃o,os[i]?=some o:=⟨_,Al Dc⟩
  obtain⟨x1,x2⟩:=Sz hio;have e1:po R os (i+1)=Nb (Ul (po R os i) o.th) o.th:=by show Nb (Ul _ (os.getD i VZ).th) (os.getD i VZ).th=_;rw[List.getD,hio,Di]
  obtain⟨R1,hR1⟩: ∃R1,R1=po R os i:=⟨_,rfl⟩
  rw[<-hR1] at hR e1⊢;refine Em (l':=V1 bo os::PI b5 b::CD b p::(s.T++(As.asA p.n R1.N::(s.M++(s.C++(s.A++(s.H++(s.Q++(s.E++(s.V++(X++Z))))))))))) (by unfold Cy;exact A8 []) ?_;refine Aj ?_;refine Be (Dt rfl (.head _) x1 x2) ?_;refine AQ λjQ=>?_;refine Em (l':=IX jQ o::PI b5 b::CD b p::(s.T++(V1 bo os::(As.asA p.n R1.N::(s.M++(s.C++(s.A++(s.H++(s.Q++(s.E++(s.V++(X++Z)))))))))))) (by dsimp only[IX,Rz];exact A8 []) ?_;have PW: ∀c,c∈IX jQ o::PI b5 b::CD b p::s.T->c∈IX jQ o::PI b5 b::CD b p::(s.T++(V1 bo os::(As.asA p.n R1.N::(s.M++(s.C++(s.A++(s.H++(s.Q++(s.E++(s.V++(X++Z))))))))))):=λc hc=> @Ai _ c (IX jQ o::PI b5 b::CD b p::s.T) _ hc;refine Cn [8,9] 11 (IX jQ o::PI b5 b::CD b p::s.T) ?_ (hR:=(PW));refine BS ?_;apply EF
  ·exact AL rfl rfl (λl hl=>M9 b p l (hl _ (.tail _ (.tail _ (.head _)))))
  ·rfl
  ·rfl
  ·rfl
  refine BS ?_;apply EF
  ·exact AL rfl rfl (λl hl=>Th.get_any p.t R1.T s.T hR.th o.th l (λc hc=>hl _ (.tail _ (.tail _ (.tail _ hc)))))
  ·rfl
  ·rfl
  ·rfl
  obtain⟨t,ht⟩: ∃t,t=(Th.findH R1.T o.th).getD Th.thZ:=⟨_,rfl⟩
  rw[<-ht];refine BS ?_;apply CS
  ·exact e_alloc
  ·rfl
  ·rfl
  ·rfl
  ·rintro _ _ ⟨b5,_,_,rfl⟩ c hc;exact .tail _ (PW c hc)
  rintro _ _ ⟨tz,_,rfl,rfl⟩;apply NZ
  ·exact Ve (cs':=Th.encH t) rfl rfl rfl (by simp[Value.oneCell']) (.head _) (by repeat(first|apply LSetA.done|apply LSetA.put)) .here
  ·rfl
  ·rfl
  ·rintro _ _ ⟨_,rfl⟩ c hc;exact .tail _ (PW c hc)
  rintro _ _ ⟨rfl,rfl⟩;refine BS ?_;refine Aj ?_;obtain⟨t1,ZJ⟩: ∃t1,t1={t with pr:=1}:=⟨_,rfl⟩
  have Ko: ∀(lq:Ad) (c:Bg),c∈[Th.thC tz t1,PI b5 b,CD b p]->c∈lq++(Th.thC tz t1::PI b5 b::CD b p::(IX jQ o::V1 bo os::As.asA p.n R1.N::(s.M++(s.C++(s.A++(s.H++(s.Q++(s.E++(s.V++(X++Z)))))))))):=λlq c hc=>Aa _ (@Ai _ c [_,_,_] _ hc);refine Em (l':=s.T++(Th.thC tz t1::PI b5 b::CD b p::(IX jQ o::V1 bo os::As.asA p.n R1.N::(s.M++(s.C++(s.A++(s.H++(s.Q++(s.E++(s.V++(X++Z))))))))))) (by rw[ZJ];dsimp only[Th.thC,Th.encH];exact A8 []) ?_;refine Cn [3] 4 ([Th.thC tz t1,PI b5 b,CD b p]) ?_ (hR:=(Ko _));refine BS ?_;apply EF
  ·exact AL rfl rfl (λl hl=>M9 b p l (hl _ (.tail _ (.tail _ (.head _)))))
  ·rfl
  ·rfl
  ·rfl
  refine BS ?_;apply CS
  ·exact AA rfl rfl (Th.set_any p.t R1.T s.T hR.th t1 _)
  ·rfl
  ·rfl
  ·rfl
  ·rintro _ _ ⟨_,_,_,rfl⟩;exact Ko _
  rintro _ _ ⟨rfl,lT,hT,rfl⟩;refine BS ?_;rw[ZJ,ht] at hT;have o9:IsRl F C (n+i) (Ul R1 o.th) p ⟨s.M,s.C,s.A,s.H,lT,s.Q,s.E,s.V⟩:=⟨hR.mem,hR.co,hR.ar,hR.an,hR.ho,hR.inv,hR.giv,hT,hR.qu,hR.ql,hR.en,hR.cu,hR.c1⟩
  refine Kf (l':=IX jQ o::PI b5 b::Cy b p ⟨s.M,s.C,s.A,s.H,lT,s.Q,s.E,s.V⟩ (Ul R1 o.th) (V1 bo os::Th.thC tz t1::(X++Z))) (by unfold Cy;dsimp only[Ul];exact A8 []) ?_;refine Aj ?_;refine Bq (l':=Cy b p ⟨s.M,s.C,s.A,s.H,lT,s.Q,s.E,s.V⟩ (Ul R1 o.th) (IX jQ o::PI b5 b::V1 bo os::Th.thC tz t1::(X++Z))) (by unfold Cy;exact A8 []) ?_;refine AR (AA rfl rfl (iu F C (n+i) _ b p _ o9 Af o.th _)) ?_;rintro _ _ ⟨_,s1,X1,hR3,rfl⟩;rw[<-e1] at hR3⊢;refine Aj ?_;refine BR (i+1,s1,IX jQ o::Th.thC tz t1::(X1++X)) ⟨Af,hR3⟩ (by simp only;omega) ⟨rfl,rfl,rfl,rfl,rfl,rfl,rfl,rfl,trivial⟩ (by unfold Cy;exact A8 [])
 ·refine Aj ?_;obtain rfl:i=os.length:=by omega
  exact bE (fr':=pn os.length b1 b5 bo v9 v14) ⟨rfl,rfl,rfl,rfl,rfl,trivial⟩ .refl (k s X hR)
def ed(F T:Nat)(sh:Bool):A4:=(Xx F (Es F T sh)).2
def V2(F T:Nat)(sh:Bool):List OwT:=PJ (ed F T sh) T T
def V3(F T:Nat)(sh:Bool):Int:=if sh=true then(ed F T sh).getD (4*T) 0 else 0
def Um(F T:Nat)(sh:Bool):RT:=RZ (Xx F (Es F T sh)).1 (V2 F T sh) T
def RA(F T:Nat)(sh:Bool):RT:=if sh=true then{Um F T sh with H:=Ri (Um F T sh).H (V2 F T sh) (V3 F T sh)} else Um F T sh
def La(F T:Nat)(sh:Bool):RT:=po (RA F T sh) (V2 F T sh) T
theorem kz1(b:Nat)(p:RP)(s:RL)(R:RT)(c1 c2 c3 c4 c5:Bg)(X:Ad):Keep (c1::c2::c3::c4::c5::Cy b p s R X) (c4::c5::Cy b p s R (c1::c2::c3::X)):=by unfold Cy;exact A8 []
theorem kz2(b:Nat)(p:RP)(s:RL)(R:RT)(c1 c2 c3 c4 c5:Bg)(A Y X:Ad):Keep (c4::c5::(A++Cy b p s R (Y++c1::c2::c3::X))) (c3::c4::c5::(A++Cy b p s R (Y++(c1::c2::X)))):=by unfold Cy;exact A8 []
theorem kz3(b:Nat)(p:RP)(s:RL)(R:RT)(c1 c2 c3 c4 c5:Bg)(A Y X:Ad):Keep (c3::c4::c5::(A++Cy b p s R (Y++(c1::c2::X)))) (c4::c5::(A++Cy b p s R (Y++c1::c2::c3::X))):=by unfold Cy;exact A8 []
theorem kz4(b:Nat)(p:RP)(s:RL)(R:RT)(c3 c4 c5:Bg)(A X:Ad):Keep (c3::c4::c5::(A++Cy b p s R X)) (Cy b p s R (c5::c4::c3::(A++X))):=by unfold Cy;exact A8 []
theorem AdY(b:Nat)(p:RP)(s:RL)(R:RT)(c1 c2 c3 c4 c5:Bg)(A Y2 Y X:Ad):Keep (Cy b p s R (Y2++(c5::c4::c3::(A++(Y++(c1::c2::X)))))) (c4::c5::(A++Cy b p s R ((Y2++Y)++c1::c2::c3::X))):=by unfold Cy;exact A8 []
theorem kz5(b:Nat)(p:RP)(s:RL)(R:RT)(c4 c5:Bg)(A X:Ad):Keep (c4::c5::(A++Cy b p s R X)) (c4::Cy b p s R (c5::(A++X))):=by unfold Cy;exact A8 []
theorem kz6(b:Nat)(p:RP)(s:RL)(R:RT)(k m c1 c2 c3 c4 c5:Bg)(A W Y X G:Ad):Keep (k::c4::Cy b p s R (W++c5::(A++(Y++(c1::c2::c3::(X++m::G)))))) ([m]++(k::(A++Cy b p s R ((c4::c5::c1::c2::c3::(W++(Y++X)))++G)))):=by unfold Cy;exact A8 []
theorem rL(F C T:Nat)(sh:Bool)(DL:1<=T)(hT:T<=3)(hC1:1<=C)(hC:C<=3)(hF:11*T<=F)(SO:F<=64)(G:Ad):Fn prog 66 [.agg (toArray [.int .i64 F,.int .i64 C,.int .i64 T,.bool sh])] G λv l'=> ∃B b v14 p s X cs,v= .tuple #[pV B,v14,.int .i64 0]/\IsRl F C 60 (La F T sh) p s/\OwnSl 3 1 v14 T (((V2 F T sh).map OwT.th).map CN) cs/\l'=knC B b::(cs++Cy b p s (La F T sh) (X++G)):=by
 have NR:Nz F C T=true:=by simp[Nz];omega
 refine AO func66 ntmps66 λE=>?_;refine Aj ?_;refine AR (C4 rfl) ?_;rintro _ _ ⟨b1,_,rfl,rfl⟩;refine Aj ?_;refine Be (AL rfl rfl (λl hl=>Y0 F C T sh l)) ?_;rw[NR];refine Aj ?_;refine AR (AA rfl rfl (lN F C ⟨Af,Af⟩ ⟨Af,Af⟩ _)) ?_;rintro _ _ ⟨b,p,s0,X0,rfl,hR0,rfl⟩;refine AQ λb5=>?_;refine Bq (l':=PI b5 b::pm b1 F C T sh::Cy b p s0 (Ji F) (X0++G)) (by unfold Cy;dsimp only[PI,pm,pV];simp only[AM,AK];exact A8 []) ?_;refine Aj ?_;refine AR (Ga (n:=T) (kk:=5) (yb:=40) (zs:=Rz VZ) (xs:=Rh (List.replicate T VZ)) rfl rfl Af Af AZ (na T)) ?_;rintro _ _ ⟨bo,_,rfl,rfl⟩;refine AQ λb8=>?_;refine AR (Dn rfl rfl (bA F C T sh _)) ?_;rintro _ _ ⟨B1,rfl,rfl⟩;refine Aj ?_;refine XU (α:=Int×Int×Int) (ps:=[39]) (lb:=[pV B1]) rfl (YZ B1 F C T sh DL hT hF SO) (λ_=>rfl) rfl (InL F C b p b8) (λ_ _ _=>False)
  (Cy b p s0 (Ji F) (Nm b8 (.slice none 0 0)::([]++X0))) ((bo,Obj.cells (toArray (Rh (List.replicate T VZ))) 202 (0,0))::PI b5 b::pm b1 F C T sh::G) (λ_ _ _ _ _=>trivial) (by unfold Cy;dsimp only[Nm,U1];simp only[Ag,AM,AK];exact A8 []) ⟨s0,_,[],X0,hR0,OwnSl.nil _ _,rfl⟩ ?_ ?_ ?_
 ·rintro E r FS pre x l1 T' ⟨fn,tmps,D,rfl⟩ hTs ⟨s,v,cs,X,hR,ho,rfl⟩ DB;have Ei:(pre++[x]).length<=25:=by
   have:=DB.length_le;have h2:(Es F T sh).length<=25:=by unfold Es;rw[Oy,Qq];cases sh<;>simp<;>omega
   omega
  have AeZ:pre.length+1<=25:=by simpa using Ei
  have jJ:PI b5 b∈T':=hTs _ (.tail _ (.head _));simp only[DU];generalize hLO:Obj.loop _=LO;obtain⟨R,hRe⟩: ∃R,R=(Xx F pre).1:=⟨_,rfl⟩
  rw[<-hRe] at hR;rw[<-hRe];refine Em (l':=(r,LO)::(Cy b p s R (Nm b8 v::(cs++X))++T')) (by unfold Cy;exact A8 []) ?_;refine AQ λGX=>?_;subst hLO;refine CH (by exact DX) ?_;generalize hLO:Obj.loop _=LO;refine Aj ?_;refine Be (DP (v:=pV b) rfl (.tail _ (.tail _ (Aa _ jJ))) rfl) ?_;refine Aj ?_;refine Bq (l':=Cy b p s R ((GX,Obj.cells (toArray [.int .i64 x.1,.int .i64 x.2.1,.int .i64 x.2.2]) 198 (0,0))::(r,LO)::Nm b8 v::(cs++(X++T')))) (by unfold Cy;exact A8 []) ?_;refine AR (AA rfl rfl (l9 F C pre.length R b p s hR Af x.1 x.2.1 x.2.2 _)) ?_;rintro _ _ ⟨rfl,s1,X1,hR1,rfl⟩;refine Bq (l':=Nm b8 v::(cs++(Cy b p s1 (Jy R x.1 x.2.1 x.2.2).2 (X1++((GX,Obj.cells (toArray [.int .i64 x.1,.int .i64 x.2.1,.int .i64 x.2.2]) 198 (0,0))::(r,LO)::(X++T')))))) (by unfold Cy;exact A8 []) ?_;refine Aj ?_;refine AR (KU (v:=CN (Jy R x.1 x.2.1 x.2.2).1.1) rfl rfl) ?_;rintro _ _ ⟨bl,_,rfl,rfl⟩;refine Bq (l':=cs++((bl,Obj.cells (toArray [CN (Jy R x.1 x.2.1 x.2.2).1.1]) 3 (0,0))::Nm b8 v::Cy b p s1 (Jy R x.1 x.2.1 x.2.2).2 (X1++((GX,Obj.cells (toArray [.int .i64 x.1,.int .i64 x.2.1,.int .i64 x.2.2]) 198 (0,0))::(r,LO)::(X++T'))))) (A8 []) ?_;have jE:(Xx F pre).2.length=pre.length:=ea F pre;refine AR (Gy (k:=1) (yb:=8) (n:=pre.length) (xs:=(Xx F pre).2.map CN) (news:=[CN (Jy R x.1 x.2.1 x.2.2).1.1]) (zs:=[.int .i64 0]) (cs:=cs) rfl rfl rfl ho (Aa _ Ak) (λj u hj=>by simpa using hj) rfl (by simp[Value.oneCell',CN]) (by unfold maxLen;omega) Af) ?_;rintro v' _ ⟨cs',cJ,rfl⟩;have Ju:v'.oneCell'=true:=cJ.one;refine Bq (l':=Nm b8 v::(cs'++((bl,Obj.cells (toArray [CN (Jy R x.1 x.2.1 x.2.2).1.1]) 3 (0,0))::Cy b p s1 (Jy R x.1 x.2.1 x.2.2).2 (X1++((GX,Obj.cells (toArray [.int .i64 x.1,.int .i64 x.2.1,.int .i64 x.2.2]) 198 (0,0))::(r,LO)::(X++T')))))) (A8 []) ?_;apply ME
  ·exact Gx rfl rfl Ju (by exact BW) .zero (by exact DX)
  ·rfl
  ·rfl
  rintro _ _ ⟨rfl,rfl⟩;refine Aj ?_;subst hLO;have e1:Xx F (pre++[x])=((Jy R x.1 x.2.1 x.2.2).2,(Xx F pre).2++[(Jy R x.1 x.2.1 x.2.2).1.1]):=by rw[mZ,hRe];rfl
  refine Cg (Cy b p s1 (Xx F (pre++[x])).1 (Nm b8 v'::(cs'++((bl,Obj.cells (toArray [CN (Jy R x.1 x.2.1 x.2.2).1.1]) 3 (0,0))::(X1++((GX,Obj.cells (toArray [.int .i64 x.1,.int .i64 x.2.1,.int .i64 x.2.2]) 198 (0,0))::X)))))) ?_ ⟨s1,v',cs',_,?_,?_,rfl⟩
  ·rw[e1];unfold Cy;dsimp only[Nm];exact A8 []
  ·rw[e1,Ah];exact hR1
  ·rw[e1,Ah];simp only[Aq,AJ,CQ];exact cJ
 ·rintro D xs l QX ⟨s,v,cs,X,hR,ho,rfl⟩;subst QX;obtain⟨ids,hids⟩: ∃ids,ids=ed F T sh:=⟨_,rfl⟩
  have zC:(Xx F (Es F T sh)).2=ids:=hids.symm;rw[zC] at ho;have Ei:(Es F T sh).length=5*T+sh.toNat:=by unfold Es;rw[Oy,Qq]
  have uT:ids.length=5*T+sh.toNat:=by rw[hids];unfold ed;rw[ea,Ei]
  have cL:sh.toNat<=1:=by cases sh<;>decide
  rw[Ei] at ho hR;rcases ho.2 with⟨_,h0,_⟩|⟨gb,cap,sp,rfl,rfl,_⟩
  ·omega
  obtain⟨R0,hR0⟩: ∃R0,R0=(Xx F (Es F T sh)).1:=⟨_,rfl⟩
  rw[<-hR0] at hR⊢;refine Kf (l':=rK F C T sh ids sp b1 b5 b8 bo b gb cap 0++(Cy b p s R0 (X++(Cm D::G)))) (by unfold rK Cy;simp only[PJ,List.range_zero,CQ,Ag,Nat.sub_zero];exact A8 []) ?_;iterate 3 refine ac ?_
  refine tF (fr':=laF T b1 b5 b8 bo) ⟨rfl,rfl,rfl,rfl,rfl,trivial⟩ (AdV func66 rfl F C T sh DL hT ids sp uT b1 b5 b8 bo b gb cap _ ?_);obtain⟨os,Nv⟩: ∃os,os=V2 F T sh:=⟨_,rfl⟩
  have Ac0:PJ ids T T=os:=by rw[Nv,hids];rfl
  have pa:os.length=T:=by rw[Nv];exact Y1 _ _ _ (Bd _)
  refine NU ?_;refine Z6 (α:=Unit) (λ_=>[(1,pV b1),(5,pV b5),(7,.slice (some ⟨bo,0,none⟩) T T),(9,.int .i64 (V3 F T sh))]) (λ_=>Nm b8 (.slice (some ⟨gb,0,none⟩) (5*T+sh.toNat) cap)::(gb,Obj.cells (toArray (ids.map CN++sp)) 3 (0,0))::pm b1 F C T sh::PI b5 b::V1 bo os::Cy b p s R0 (X++(Cm D::G))) (λ_=>True) ?_ ?_
  ·unfold rK;rw[Ac0];simp only[Ae,Ag];have RO: ∀(x:Int) (m:Nat),x=m->m<ids.length->(toArray (ids.map CN++sp))[0+x.toNat*1]?=some (CN (ids.getD m 0)):=λx m hx hm=>by
    subst hx;rw[AY,Dq,BE,AF,AB (by rw[A7];exact hm),A5,List.getD,Al hm];rfl
   cases sh with
   |false=>refine Aj ?_;exact EG () trivial ⟨rfl,rfl,rfl,rfl,trivial⟩ .refl
   |true=>refine Aj ?_;refine Be (DP (v:=CN (ids.getD (4*T) 0)) rfl (.tail _ (.head _)) (RO (4*(T:Int)) (4*T) Af (by rw[uT];simp only[Kd];omega))) ?_;refine Aj ?_;rw[hids];exact EG () trivial ⟨rfl,rfl,rfl,rfl,trivial⟩ .refl
  ·rintro _ _;iterate 6 refine ac ?_
   refine tF (fr':=pn T b1 b5 bo (.int .i64 (V3 F T sh)) (.slice none 0 0)) ⟨rfl,rfl,rfl,rfl,rfl,trivial⟩ ?_;obtain⟨Z,hZ⟩: ∃Z,Z=Nm b8 (.slice (some ⟨gb,0,none⟩) (5*T+sh.toNat) cap)::(gb,Obj.cells (toArray (ids.map CN++sp)) 3 (0,0))::pm b1 F C T sh::(X++(Cm D::G)):=⟨_,rfl⟩
   refine Em (l':=PI b5 b::V1 bo os::Cy b p s R0 Z) (by rw[hZ];exact kz1 ..) ?_;have hRT:RZ R0 os T=Um F T sh:=by rw[hR0,Nv];rfl
   refine AdW func66 rfl F C _ R0 b p s hR Af os T pa hT b1 b5 bo _ _ ?_;intro s1 Y v14 ct hR ht;rw[hRT] at hR⊢;refine NU ?_;refine Z6 (α:=RL×Ad) (λ_=>pn T b1 b5 bo (.int .i64 (V3 F T sh)) v14) (λx=>PI b5 b::V1 bo os::(ct++(Cy b p x.1 (RA F T sh) (x.2++Z)))) (λx=>IsRl F C 50 (RA F T sh) p x.1) ?_ ?_
   ·rw[hZ];refine Em (kz2 ..) ?_;cases sh with
    |false=>
     have hB:RA F T false=Um F T false:=by unfold RA;rw[Ab AZ]
     rw[hB];refine Aj ?_;refine EG (s1,Y) ?_ ⟨rfl,rfl,rfl,rfl,rfl,trivial⟩ (kz3 ..);exact hR.mono (by simp only[Mh];omega)
    |true=>
     have hB:RA F T true={Um F T true with H:=Ri (Um F T true).H os (V3 F T true)}:=by unfold RA;rw[Ac rfl,Nv]
     rw[hB];refine Aj ?_;have hs:=it F C _ _ b p s1 hR Af os Af Af (V3 F T true) bo T 202 (0,0) (V1 bo os::PI b5 b::pm b1 F C T true::(ct++(Y++(Nm b8 (.slice (some ⟨gb,0,none⟩) (5*T+true.toNat) cap)::(gb,Obj.cells (toArray (ids.map CN++sp)) 3 (0,0))::(X++(Cm D::G)))))) (.head _);rw[pa] at hs;refine Bq (kz4 ..) ?_;refine AR (AA rfl rfl hs) ?_;rintro _ _ ⟨rfl,s2,Y2,o9,rfl⟩;refine Aj ?_;refine EG (s2,Y2++Y) ?_ ⟨rfl,rfl,rfl,rfl,rfl,trivial⟩ (AdY ..);exact o9.mono (by simp only[Kd];omega)
   ·rintro⟨s2,Y2⟩ o9;simp only at o9⊢;iterate 1 refine ac ?_
    have hBT:po (RA F T sh) os T=La F T sh:=by rw[Nv];rfl
    refine Em (kz5 ..) ?_;refine AdX func66 rfl F C _ _ b p s2 o9 Af os T pa hT b1 b5 bo _ _ _ ?_;intro s3 W hR3;rw[hBT] at hR3⊢;rw[hZ];refine Aj ?_;refine AR (AA rfl rfl (mY b _)) ?_;rintro _ _ ⟨B,rfl,rfl⟩;refine Aj ?_;refine BD [D] rfl (kz6 ..) (by exact Ba) ⟨B,b,v14,p,s3,_,ct,rfl,hR3.mono Af,?_,rfl⟩;rw[<-Nv];exact ht
 ·intro D c pre l DB hx;exact hx.elim
namespace Ar
theorem all_any(b:Nat)(S:ArT)(lq:Ad)(hA:IsA b S lq)(l:Ad)(CE: ∀c,c∈lq->c∈l):
 Fn prog 73 [.pointer (some ⟨b,0,none⟩)] l λv l'=> ∃cs,OwnSl 100 9 v S.os.length (ocs S.os) cs/\l'=cs++l:=by
 have Ei:=hA.ok.len;obtain⟨Dm,v,cs,rfl,ho⟩:=hA;obtain⟨gb,Mk,Og⟩:=Wz ho;refine AO func73 ntmps73 λE=>?_;refine Ih λb3=>?_;refine AR (AA rfl rfl (Jf _ rfl _)) ?_;rintro _ _ ⟨B,rfl,rfl⟩;refine gz ?_;refine Df (α:=ObT×Nat) (ps:=[8,9]) (lb:=[.pointer (some ⟨B,0,none⟩)]) rfl (HR B b S.n S.g v S.os gb Mk Af) (λ_=>rfl) rfl
  (λpre l=> ∃u NG,OwnSl 100 9 u pre.length (ocs (pre.map Prod.fst)) NG/\l=[xB B (some ⟨b,0,none⟩),(b3,.cells #[u] 43 (0,0))]++NG)
  (λc pre l=>False)
  _ l (λpre l2 X2 hX h=>by obtain⟨u,NG,_,rfl⟩:=h;exact⟨List.Mem.head _,Aa _ (hX _ (CE _ (.head _)))⟩) (by exact AU) ⟨_,[],OwnSl.nil _ _,rfl⟩ ?_ ?_ ?_
 ·rintro E r0 FS pre ⟨o,k⟩ l' T ⟨fn,tmps,D,rfl⟩ hT ⟨u,NG,ET,rfl⟩ DB;obtain⟨Gh,hk,_⟩:=Qd DB;simp only at Gh hk;have Xn:=(Ay.1 Gh).1;obtain⟨sp,rfl⟩:=Og _ _ Gh;have tg:=hT _ (CE _ (.tail _ (.head _)));obtain⟨x1,x2⟩:=dr Gh sp;have hu1:u.oneCell'=true:=ET.one;simp only[DU,Ae,Ag];refine gz ?_;refine CH (.there (.there (FH _ _ _ _ _))) ?_;generalize hX1:(r0,Obj.loop (DN fn tmps _ _ _ D .busy none))::T=X1;have zD:(gb,Obj.cells (toArray (ocs S.os++sp)) 100 (0,0))∈X1:=by rw[<-hX1];exact .tail _ tg
  refine gz ?_;refine Cn [4,5,6] 7 ([]) ?_;refine pz ?_;apply Gi (S:=[(b3,.cells #[u] 43 (0,0))])
  ·exact DP rfl (.head _) rfl
  ·intro c hc;cases hc with
   |head=>exact .tail _ (.head _)
   |tail _ h=>cases h
  ·rfl
  ·rfl
  ·rfl
  refine pz ?_;apply Gi (S:=[(gb,Obj.cells (toArray (ocs S.os++sp)) 100 (0,0))])
  ·exact Dt rfl (.head _) x1 x2
  ·intro c hc;cases hc with
   |head=>exact .tail _ (.tail _ (Aa _ zD))
   |tail _ h=>cases h
  ·rfl
  ·rfl
  ·rfl
  refine pz ?_;apply Hb
  ·apply FB (ws:=obC o) (k:=9)
   ·rfl
   ·rfl
   ·rfl
   ·decide
   ·decide
  ·rfl
  ·rfl
  ·rfl
  ·intro _ _ _ c hc;cases hc
  ·rintro _ _ ⟨bl,_,rfl,rfl⟩ x hx _ c hc;have h3: ∀q:Obj,(b3,q)∈(bl,Obj.cells (toArray (obC o)) 100 (0,0))::xB B (some ⟨b,0,none⟩)::(b3,q)::(NG++X1):=λq=> .tail _ (.tail _ (.head _));simp only[At,BL,Ez] at hx;rcases hx with rfl|rfl<;>simp only[At,BL,Ez] at hc<;>subst hc
   ·exact .tail _ (.tail _ (.tail _ (Aa _ zD)))
   ·exact h3 _
  rintro _ _ ⟨bl,_,rfl,rfl⟩;refine pz ?_;apply Hb
  ·apply Ht (k:=9) (X:=[xB B (some ⟨b,0,none⟩),(b3,.cells #[u] 43 (0,0))]) (cs:=NG) (xs:=ocs (pre.map Prod.fst)) (n:=pre.length) (zs:=pd) (ws:=obC o)
   ·rfl
   ·rfl
   ·rfl
   ·exact ET
   ·rfl
   ·simp[Value.oneCell']
   ·omega
   ·decide
  ·rfl
  ·rfl
  ·rfl
  ·intro _ _ _ c hc;cases hc
  ·exact λ_ _ _ x hx ha=>Dg BB hx ha
  rintro v' _ ⟨c2,FK,rfl⟩;have Ju:v'.oneCell'=true:=FK.one;simp only[Ae,Ag];apply Hs
  ·apply Gx (cs:=[u])
   ·rfl
   ·rfl
   ·exact Ju
   ·exact BW
   ·exact .zero
   ·exact DX
  ·rfl
  ·rfl
  ·intro _ _ _ c hc;cases hc
  ·exact λ_ _ _ x hx ha=>Dg BB hx ha
  rintro _ _ ⟨rfl,rfl⟩;refine pz ?_;refine gz ?_;rw[<-hX1];refine Cg _ (.refl) ⟨v',c2,?_,rfl⟩;rw[Aq,show[(o,k)].map Prod.fst=[o] from rfl,kL,Ah];exact FK
 ·rintro D xs l' rfl ⟨u,NG,ET,rfl⟩;have hu1:u.oneCell'=true:=ET.one;simp only[Ae,Ag];refine gz ?_;refine AV [D] (NG++l) rfl (l':=NG++l) (by exact AU) (by exact Ba) .refl ?_;rw[du,show(Xu S.os).map Prod.fst=S.os from List.zipIdx_map_fst ..] at ET;exact⟨NG,ET,rfl⟩
 ·rintro D c pre l' DB h;exact h.elim
end Ar
namespace As
theorem setFrom_all(cs vs:Ap)(h:vs.length=cs.length):C8 (toArray cs) 0 vs=toArray vs:=by
 apply DH;intro j;rw[Rt _ _ _ _ (by simp[h])];by_cases hj:j<vs.length
 ·rw[Ac Af];simp
 ·rw[Ab Af];simp;rw[Bf Af,Bf Af]
theorem LSub.of_all{n:Nat}(ws:Ap)(h:ws.length=n):LSub ws 0 n ws:=by
 subst h
 induction ws with
 |nil=>exact .done
 |cons w ws ih=>exact .take ih
theorem pools_any(b:Nat)(s:ASt)(ws:Ap)(hw:s.cells.extract 0 80=toArray ws)(hl:ws.length=80)(h1: ∀v,v∈ws->v.oneCell'=true)(l:Ad)(hm:asA b s∈l):Fn prog 77 [.pointer (some ⟨b,0,none⟩)] l λv l'=>v= .agg (toArray ws)/\l'=l:=by
 refine AO func77 ntmps77 λE=>?_;refine Ih λb2=>?_;refine Be (Dt (cs:=s.cells) (n:=80) rfl (by exact BW) (by rw[s.cells_size];omega) hw) ?_;refine gz ?_;apply ME
 ·apply El (n:=80)
  ·rfl
  ·rfl
  ·simpa using hl
  ·exact h1
  ·exact .here
  ·simp
 ·rfl
 ·rfl
 rintro _ _ ⟨rfl,rfl⟩;rw[Dr,setFrom_all _ _ (by rw[hl];rfl)];refine gz ?_;refine AV [] ((b2,.cells (toArray ws) 50 (0,0))::l) rfl (l':=l) (by exact AU) (Cz rfl (by exact BW) (LSub.of_all (n:=80) _ hl) .nil) (by exact AU) ⟨rfl,rfl⟩
end As
abbrev rB(B b:Nat):Bg:=(B,.cells #[pV b] 124 (0,0))
theorem O6(b:Nat)(l:Ad):Fn prog 79 [pV b] l λv l'=> ∃B,v= .func (.func 120) #[] #[pV B]/\l'=rB B b::l:=by refine AO func79 ntmps79 λE=>?_;refine AQ λB=>?_;exact Bb .refl ⟨B,rfl,rfl⟩
theorem Un{n k:Nat}(h:k<n):(List.range n).take (k+1)=(List.range n).take k++[k]:=by rw[GV,GV,ES Af,ES Af,CA]
theorem Nc(B b:Nat)(p:RP)(bv C cap:Nat)(hC:C<=100)(hv:p.v= .slice (some ⟨bv,0,none⟩) C cap):
 FA prog 120 [pV B] (λi:Nat=>[.int .i64 i,.pointer (some ⟨bv,i*1,none⟩)]) (λxs=>xs=List.range C) (λpre=>pre<+:List.range C) (λ_ l=>rB B b∈l/\CD b p∈l):=by
 refine⟨λr I Ix G0 Ca hY l G hG h0=>?_⟩;obtain⟨n1,n2⟩:=Ca _ _ G hG h0;simp only[CD,hv] at Ca n2;refine AO func120 ntmps120 λE=>?_;refine Aj ?_;refine CF (α:=Nat×Ad) (λx=>[(0,.func (.yield r) #[] #[]),(1,pV B),(10,.int .i64 C),(11,.int .i64 x.1)]) (λx=>x.2++G) (λx=>x.1<=C/\I ((List.range C).take x.1) x.2) (λx=>C-x.1) (0,l) ⟨Bm _,h0⟩ ⟨rfl,rfl,rfl,rfl,trivial⟩ .refl ?_;clear n1 n2;rintro⟨k,l⟩ ⟨hk,hI⟩;simp only at hk hI⊢;obtain⟨n1,n2⟩:=Ca _ _ G hG hI;by_cases Dc:k<C
 ·refine Aj ?_;have hy:=hY ((List.range C).take k) k l G hG hI (by rw[<-Un Dc];exact BI _ _);refine AR (C0 rfl rfl hy) ?_;rintro v l' ⟨l1,rfl,⟨rfl,Lg⟩|⟨rfl,hx⟩⟩
  ·refine Aj ?_;exact BR (k+1,l1) ⟨by simp only;omega,by simp only;rw[Un Dc];exact Lg⟩ (by simp only;omega) ⟨rfl,rfl,rfl,rfl,trivial⟩ .refl
  ·refine Aj ?_;exact BD [] rfl .refl (by exact Ba) ⟨l1,rfl,.inr ⟨_,by rw[<-Un Dc];exact BI _ _,hx⟩⟩
 ·obtain rfl:k=C:=by omega
  rw[Bz (by simp)] at hI;refine Aj ?_;exact Bb .refl ⟨l,rfl,.inl ⟨_,rfl,hI⟩⟩
end Go.Proofs.YtlifcingifodfaaGreat
