/- Laws that the statement's proof leans on (joined out of several texts). -/
import Derived.Test.YtlifcingifodfaaGreatGc18
set_option maxHeartbeats 4000000
set_option linter.unusedVariables false
set_option linter.unusedSimpArgs false
namespace Go.Proofs.YtlifcingifodfaaGreat
open Tryz
open List(toArray)
namespace Tr
open Go.RowKit
set_option maxRecDepth 20000
variable{os X:List Nat}{p b rb m clock:Nat}{lq l l':Ad}{α:Type}
abbrev CO:=Int×Int
variable{es:List (Hf CO)}{s:CO}
abbrev Ct(s:CO):Ap:=[.int .i64 s.1,.int .i64 s.2]
theorem M0:Pj Ct [some .i64,some .i64]:=⟨λa=>⟨_,_,rfl,⟨_,rfl⟩,_,_,rfl,⟨_,rfl⟩,rfl⟩,λa b h=>by simp only[Ct,CZ,Value.int.injEq,Md,NK] at h;exact JV h.1 h.2⟩
structure NdT where
 sl:CO
 dp:Int
 pv:Nat
 nx:Nat
variable{F:Nat->NdT}
abbrev NdT.cells(x:NdT):Ap:=[.int .i64 x.sl.1,.int .i64 x.sl.2,.int .i64 x.dp,.pointer (some ⟨x.pv,0,none⟩),.pointer (some ⟨x.nx,0,none⟩)]
abbrev Ol(p:Nat)(x:NdT):Bg:=(p,.cells (toArray x.cells) 330 (0,0))
def Om(F:Nat->NdT)(all:List Nat):Ad:=all.map λp=>Ol p (F p)
theorem Qj{all:List Nat}(h:p∈all):Ol p (F p)∈Om F all:=Au.2 ⟨p,h,rfl⟩
theorem Rc{F':Nat->NdT}{all:List Nat}(h: ∀p,p∈all->F p=F' p):Om F all=Om F' all:=BA λp hp=>by rw[h p hp]
theorem LF{all:List Nat}(x:NdT)(hn:all.Nodup)(hp:p∈all):Upd (Om F all) p (Ol p (F p)).2 (Ol p x).2 (Om (upd F p x) all):=by
 induction all with
 |nil=>cases hp
 |cons q all ih=>
  rw[AP] at hn;by_cases e:q=p
  ·subst e;have h1:Om (upd F q x) all=Om F all:=Rc λr hr=>Dk _ _ _ _ λe=>hn.1 (e▸hr);show Upd (Ol q (F q)::Om F all) q _ _ (Ol q (upd F q x q)::Om (upd F q x) all);rw[DK,h1];exact .here
  ·rcases At.1 hp with h|h
   ·exact absurd h.symm e
   ·show Upd (Ol q (F q)::Om F all) p _ _ (Ol q (upd F p x q)::Om (upd F p x) all);rw[Dk _ _ _ _ e];exact .there (ih hn.2 h)
instance:EQ prog 61 [some .i64,some .i64]:=⟨BB⟩
abbrev DT:=List (CO×Int)
def qN(F:Nat->NdT):List Nat->Prop
 |[]=>True
 |[_]=>True
 |a::b::r=>(F a).nx=b/\(F b).pv=a/\qN F (b::r)
abbrev K0(b rb m:Nat):Bg:=(b,.cells (toArray [.pointer (some ⟨rb,0,none⟩),.map (some m)]) 328 (0,0))
structure TB(b rb m:Nat)(F:Nat->NdT)(all os:List Nat)(es:List (Hf CO))(clock:Nat)(lq:Ad):Prop where
 eq:lq=K0 b rb m::(m,Ic Ct es clock)::Om F all
 nd:all.Nodup
 rin:rb∈all
 sub: ∀p,p∈os->p∈all
 ond:(rb::os).Nodup
 adj:qN F (rb::(os++[rb]))
 snd:(os.map λp=>(F p).sl).Nodup
 keys:KeysOk es clock
 get: ∀s,HQ s es=(os.find? λp=>decide ((F p).sl=s)).map λp=> .pointer (some ⟨p,0,none⟩)
def Ft(F:Nat->NdT)(os:List Nat):DT:=os.map λp=>((F p).sl,(F p).dp)
def IsT(b:Nat)(D:DT)(lq:Ad):Prop:= ∃rb m F all os es clock,Ft F os=D/\TB b rb m F all os es clock lq
theorem TB.m1{all:List Nat}(h:TB b rb m F all os es clock lq):K0 b rb m∈lq:=by rw[h.eq];exact .head _
theorem TB.m2{all:List Nat}(h:TB b rb m F all os es clock lq):(m,Ic Ct es clock)∈lq:=by rw[h.eq];exact .tail _ (.head _)
theorem TB.m3{all:List Nat}(h:TB b rb m F all os es clock lq)(hp:p∈all):Ol p (F p)∈lq:=by rw[h.eq];exact .tail _ (.tail _ (Qj hp))
def blk(F:Nat->NdT)(os:List Nat)(s:CO):Option Nat:=os.find? λp=>decide ((F p).sl=s)
theorem Ip(h:blk F os s=some p):p∈os/\(F p).sl=s:=
 ⟨BK h,by have:=Er h;simpa using this⟩
def M1:Option Nat->Value
 |some p=> .pointer (some ⟨p,0,none⟩)
 |none=> .pointer none
theorem of_any(b rb m:Nat)(F:Nat->NdT)(all os:List Nat)(es:List (Hf CO))(clock:Nat)(lq:Ad)(s:CO)(hT:TB b rb m F all os es clock lq)(l:Ad)(CE: ∀c,c∈lq->c∈l):
 Fn prog 247 [.pointer (some ⟨b,0,none⟩),.agg (toArray (Ct s))] l λv l'=>v=M1 (blk F os s)/\l'=l:=by
 have h1:=CE _ hT.m1;have h2:=CE _ hT.m2;have hg:(HQ s es).getD (.pointer none)=M1 (blk F os s):=by rw[hT.get];unfold blk;cases os.find? λp=>decide ((F p).sl=s)<;>rfl
 refine AO func247 ntmps247 λE=>?_;refine gz ?_;refine AR (C4 rfl) ?_;rintro _ _ ⟨b3,hb3,rfl,rfl⟩;refine gz ?_;refine Cn [] 7 _ ?_ (hR:=(λ_ h=>h));refine pz ?_;apply EF
 ·apply ga (enc:=Ct) (a:=s) (es:=es) (clock:=clock) (ks:=[some .i64,some .i64])
  ·rfl
  ·rfl
  ·exact M0
  ·exact .tail _ h2
 ·rfl
 ·rfl
 ·rfl
 rw[hg];refine pz ?_;exact E4
theorem new_any(l:Ad):Fn prog 179 [] l λv l'=> ∃b,v= .pointer (some ⟨b,0,none⟩)/\ ∃lq,IsT b [] lq/\l'=lq++l:=by refine AO func179 ntmps179 λE=>?_;refine gz ?_;refine AR (C4 rfl) ?_;rintro _ _ ⟨rb,hrb,rfl,rfl⟩;refine gz ?_;refine AR OM ?_;rintro _ _ ⟨m,hm,rfl,rfl⟩;refine gz ?_;refine AR (C4 rfl) ?_;rintro _ _ ⟨b,hb,rfl,rfl⟩;refine gz ?_;exact BD [] rfl .refl (by exact Ba) ⟨b,rfl,[K0 b rb m,(m,.map #[] 0),Ol rb ⟨(0,0),0,rb,rb⟩],⟨rb,m,λ_=>⟨(0,0),0,rb,rb⟩,[rb],[],[],0,rfl,⟨rfl,by simp,by simp,by simp,by simp,⟨rfl,rfl,trivial⟩,by simp,⟨by simp,by simp,by simp⟩,λs=>rfl⟩⟩,rfl⟩
open Go.RowKit
set_option maxRecDepth 20000
theorem On{F F':Nat->NdT}: ∀{L:List Nat},qN F L->(∀u,u∈L.dropLast->(F' u).nx=(F u).nx)->(∀v,v∈L.tail->(F' v).pv=(F v).pv)->qN F' L
 |[],_,_,_=>trivial
 |[_],_,_,_=>trivial
 |a::b::r,⟨h1,h2,h3⟩,hn,hp=>by
  refine⟨by rw[hn a (by simp[List.dropLast]),h1],by rw[hp b (by simp),h2],On h3 (λu hu=>hn u ?_) λv hv=>hp v ?_⟩
  ·simp only[GT (Mg b r),At];exact .inr hu
  ·simp only[I5] at hv⊢;exact An _ hv
theorem PD{F F':Nat->NdT}{p n x:Nat}{Z:List Nat}: ∀{X:List Nat},qN F (X++p::n::Z)->(X++p::n::Z).dropLast.Nodup->(X++p::n::Z).tail.Nodup->x∉X++p::n::Z->
 (∀u,u≠x->u≠p->(F' u).nx=(F u).nx)->(∀v,v≠x->v≠n->(F' v).pv=(F v).pv)->(F' p).nx=x->(F' x).pv=p->(F' x).nx=n->(F' n).pv=x->qN F' (X++p::x::n::Z)
 |[],⟨h1,h2,h3⟩,hs,ht,hx,hn,hp,k1,k2,k3,k4=>by
  refine⟨k1,k2,k3,k4,On h3 (λu hu=>hn u ?_ ?_) λv hv=>hp v ?_ ?_⟩
  ·rintro rfl;exact hx (An _ (List.dropLast_subset _ hu))
  ·rintro rfl;have:(u::(n::Z).dropLast).Nodup:=by simpa using hs
   exact(AP.1 this).1 hu
  ·rintro rfl;exact hx (by simp only[Ag,At,I5] at hv⊢;exact .inr (.inr hv))
  ·rintro rfl;have:(v::Z).Nodup:=by simpa using ht
   exact(AP.1 this).1 hv
 |[a],⟨h1,h2,h3⟩,hs,ht,hx,hn,hp,k1,k2,k3,k4=>by
  have R8:(a::(p::n::Z).dropLast).Nodup:=by simpa using hs
  have NM:=AP.1 R8;have ZJ:(p::n::Z).Nodup:=by simpa using ht
  have ZK:=AP.1 ZJ;refine⟨by rw[hn a (λe=>hx (by simp[e])) (λe=>NM.1 (by rw[e];simp[List.dropLast]))];exact h1,by rw[hp p (λe=>hx (by simp[e])) (λe=>ZK.1 (by rw[e];simp))];exact h2,?_⟩;exact PD (X:=[]) h3 NM.2 ZK.2 (λh=>hx (An _ h)) hn hp k1 k2 k3 k4
 |a::b::X,⟨h1,h2,h3⟩,hs,ht,hx,hn,hp,k1,k2,k3,k4=>by
  have R8:(a::((b::X)++p::n::Z).dropLast).Nodup:=by have:((a::b::X)++p::n::Z).dropLast=a::((b::X)++p::n::Z).dropLast:=GT (by simp);rwa [this] at hs
  have NM:=AP.1 R8;have ZJ:(b::(X++p::n::Z)).Nodup:=ht;have ZK:=AP.1 ZJ;have ym:p∈((b::X)++p::n::Z).dropLast:=by rw[JC (by simp)];exact Aa _ (by simp[List.dropLast])
  refine⟨by rw[hn a (λe=>hx (by simp[e])) (λe=>NM.1 (by rw[e];exact ym))];exact h1,by rw[hp b (λe=>hx (by simp[e])) (λe=>ZK.1 (by rw[e];simp))];exact h2,?_⟩;exact PD (X:=b::X) h3 NM.2 ZK.2 (λh=>hx (An _ h)) hn hp k1 k2 k3 k4
theorem M2{F:Nat->NdT}{p n:Nat}{Z:List Nat}: ∀{X:List Nat},qN F (X++p::n::Z)->(F p).nx=n/\(F n).pv=p
 |[],⟨h1,h2,_⟩=>⟨h1,h2⟩
 |[a],⟨_,_,h⟩=>M2 (X:=[]) h
 |a::b::X,⟨_,_,h⟩=>M2 (X:=b::X) h
theorem J5{o o':Obj}(h:Upd l b o o' l')(r:Ad):Upd (l++r) b o o' (l'++r):=by
 induction h with
 |here=>exact .here
 |there _ ih=>exact .there ih
theorem J6(h:blk F os s=none): ∀p,p∈os->(F p).sl≠s:=λp hp e=>by have:=Br.1 h p hp;simp[e] at this
theorem dC(b rb m:Nat)(F:Nat->NdT)(all os:List Nat)(es:List (Hf CO))(clock:Nat)(lq:Ad)(hT:TB b rb m F all os es clock lq)(X Y:List Nat)(p:Nat)(hX:rb::os=X++p::Y)(s:CO)(dp:Int)(hs:blk F os s=none)(G:Ad):
 Fn prog 248 [.pointer (some ⟨b,0,none⟩),.pointer (some ⟨p,0,none⟩),.agg (toArray (Ct s)),.int .i64 dp] (lq++G) λv l'=>v= .tuple #[]/\ ∃DD,IsT b ((Ft F os).take X.length++(s,dp)::(Ft F os).drop X.length) DD/\l'=DD++G:=by
 obtain⟨n,Z,hnZ⟩: ∃n Z,Y++[rb]=n::Z:=by cases Y with|nil=>exact⟨_,_,rfl⟩|cons y Y=>exact⟨_,_,rfl⟩
 have hL:rb::(os++[rb])=X++p::n::Z:=by rw[<-Ae,hX,Am,Ae,hnZ]
 have O9:=hT.adj;rw[hL] at O9;obtain⟨hpn,hnp⟩:=M2 O9;have fI: ∀q,q∈X++p::n::Z->q∈all:=λq hq=>by
  rw[<-hL] at hq;rcases At.1 hq with rfl|hq
  ·exact hT.rin
  ·rcases AH.1 hq with hq|hq
   ·exact hT.sub q hq
   ·rw[AE.1 hq];exact hT.rin
 have vb:p∈all:=fI p (by simp);have pD:n∈all:=fI n (by simp);refine AO func248 ntmps248 λE=>?_;refine gz ?_;refine AR (C4 rfl) ?_;rintro _ _ ⟨b6,hb6,rfl,rfl⟩;have pJ:=hT.eq;have vf:Ol p (F p)∈lq++G:=Ai _ (hT.m3 vb);refine gz ?_;refine Cn [8] 10 _ ?_ (hR:=(λ_ h=>h));refine pz ?_;apply CS
 ·exact C4 rfl
 ·rfl
 ·rfl
 ·rfl
 ·rintro _ _ ⟨x,_,_,rfl⟩ c hc;exact .tail _ hc
 rintro _ _ ⟨x,hx,rfl,rfl⟩;refine pz ?_;have o7:x∉all:=λh=>hx _ (.tail _ (Ai _ (hT.m3 h))) rfl;rw[hpn];obtain⟨F1,hF1⟩: ∃F1,F1=upd F x ⟨s,dp,p,n⟩:=⟨_,rfl⟩
 have zi:F1 x=⟨s,dp,p,n⟩:=by rw[hF1,DK]
 have vg: ∀q,q≠x->F1 q=F q:=λq hq=>by rw[hF1,Dk _ _ _ _ hq]
 have hpx:p≠x:=λe=>o7 (e▸vb);have Wg:n≠x:=λe=>o7 (e▸pD);have vi:(x::all).Nodup:=AP.2 ⟨o7,hT.nd⟩;have pC:Om F1 (x::all)=Ol x ⟨s,dp,p,n⟩::Om F all:=by show Ol x (F1 x)::Om F1 all=_;rw[zi,Rc (F:=F1) (F':=F) λq hq=>vg q λe=>o7 (e▸hq)]
 refine Kf (l':=K0 b rb m::(m,Ic Ct es clock)::(Om F1 (x::all)++((b6,.cells (toArray (Ct s)) 61 (0,0))::G))) (Keep.of_perm ?_) ?_
 ·rw[pJ,pC];refine(Az [(x,_),(b6,_)] [K0 b rb m,(m,Ic Ct es clock)] (Om F all++G)).trans ?_;refine List.Perm.cons _ (List.Perm.cons _ (List.Perm.cons _ ?_));exact(AI (l₁:=Om F all)).symm
 have hmx:Ol x (F1 x)∈K0 b rb m::(m,Ic Ct es clock)::(Om F1 (x::all)++((b6,.cells (toArray (Ct s)) 61 (0,0))::G)):= .tail _ (.tail _ (Ai _ (Qj (.head _))));rw[zi] at hmx;refine gz ?_;refine Cn [12,15] 16 ([]) ?_;refine pz ?_;apply Gi (S:=[Ol x ⟨s,dp,p,n⟩])
 ·exact DP rfl (.head _) rfl
 ·intro c hc;cases hc with
  |head=>exact hmx
  |tail _ h=>cases h
 ·rfl
 ·rfl
 ·rfl
 refine pz ?_;apply Gi (S:=[Ol x ⟨s,dp,p,n⟩])
 ·exact DP rfl (.head _) rfl
 ·intro c hc;cases hc with
  |head=>exact hmx
  |tail _ h=>cases h
 ·rfl
 ·rfl
 ·rfl
 refine pz ?_;obtain⟨F2,SO⟩: ∃F2,F2=upd F1 p {F1 p with nx:=x}:=⟨_,rfl⟩
 obtain⟨F3,hF3⟩: ∃F3,F3=upd F2 n {F2 n with pv:=x}:=⟨_,rfl⟩
 apply Hs
 ·exact Du (b:=p) (off:=4) (cs:=toArray (F1 p).cells) rfl rfl rfl (.there (.there (J5 (LF {F1 p with nx:=x} vi (An _ vb)) _))) (by simp)
 ·rfl
 ·rfl
 ·intro _ _ _ c hc;cases hc
 ·exact λ_ _ _ x hx ha=>Dg BB hx ha
 rintro _ _ ⟨rfl,rfl⟩;rw[<-SO];refine pz ?_;apply Hs
 ·exact Du (b:=n) (off:=3) (cs:=toArray (F2 n).cells) rfl rfl rfl (.there (.there (J5 (LF {F2 n with pv:=x} vi (An _ pD)) _))) (by simp)
 ·rfl
 ·rfl
 ·intro _ _ _ c hc;cases hc
 ·exact λ_ _ _ x hx ha=>Dg BB hx ha
 rintro _ _ ⟨rfl,rfl⟩;rw[<-hF3];refine pz ?_;have hm6:(b6,Obj.cells (toArray (Ct s)) 61 (0,0))∈Om F3 (x::all)++((b6,.cells (toArray (Ct s)) 61 (0,0))::G):=Aa _ (.head _);refine gz ?_;refine Cn [6] 7 ([K0 b rb m]) ?_;refine pz ?_;apply Gi (S:=[(b6,.cells (toArray (Ct s)) 61 (0,0))])
 ·exact Jb rfl (.head _) (by(repeat(first|with_reducible apply LSub.done|with_reducible apply LSub.take|with_reducible apply LSub.drop)))
 ·intro c hc;cases hc with
  |head=>exact .tail _ (.tail _ hm6)
  |tail _ h=>cases h
 ·rfl
 ·rfl
 ·rfl
 refine pz ?_;apply Hs
 ·apply P7 (enc:=Ct) (a:=s) (es:=es) (clock:=clock) (ks:=[some .i64,some .i64])
  ·rfl
  ·rfl
  ·rfl
  ·exact M0
  ·exact DX
 ·rfl
 ·rfl
 ·rintro _ _ ⟨rfl,rfl⟩ c hc;cases hc with
  |head=>exact .head _
  |tail _ h=>cases h
 ·exact λ_ _ _ x hx ha=>Dg BB hx ha
 rintro _ _ ⟨rfl,rfl⟩;refine pz ?_;refine gz ?_;obtain⟨A,hA,Nv⟩: ∃A,X++[p]=rb::A/\os=A++Y:=by
  have h:rb::os=(X++[p])++Y:=by rw[hX];simp
  cases hXp:X++[p] with
  |nil=>simp at hXp
  |cons a A=>rw[hXp,Ae,CZ] at h;exact⟨A,by rw[h.1],h.2⟩
 have tf:A.length=X.length:=by have:=BO List.length hA;simp at this;omega
 have e3: ∀q,(F3 q).sl=(F1 q).sl/\(F3 q).dp=(F1 q).dp:=λq=>by
  rw[hF3,SO];unfold upd
  split<;>split<;>simp_all
 have yn: ∀q,(F3 q).nx=if q=p then x else(F1 q).nx:=λq=>by
  rw[hF3,SO];unfold upd
  split<;>split<;>simp_all
 have yo: ∀q,(F3 q).pv=if q=n then x else(F1 q).pv:=λq=>by
  rw[hF3,SO];unfold upd
  split<;>split<;>simp_all
 have zj: ∀q,q∈os->q≠x:=λq hq e=>o7 (e▸hT.sub q hq);have eo: ∀q,q∈os->(F3 q).sl=(F q).sl/\(F3 q).dp=(F q).dp:=λq hq=>by rw[(e3 q).1,(e3 q).2,vg q (zj q hq)];exact⟨rfl,rfl⟩
 have ex:(F3 x).sl=s/\(F3 x).dp=dp:=by rw[(e3 x).1,(e3 x).2,zi];exact⟨rfl,rfl⟩
 have I8:=J6 hs;obtain⟨DD,QZ⟩: ∃DD,DD=K0 b rb m::(m,Ic Ct (Lk s (.pointer (some ⟨x,0,none⟩)) clock es).1 (Lk s (.pointer (some ⟨x,0,none⟩)) clock es).2)::Om F3 (x::all):=⟨_,rfl⟩
 refine Bb (l':=DD++G) ?_ ⟨rfl,DD,⟨rb,m,F3,x::all,A++x::Y,_,_,?_,⟨QZ,vi,An _ hT.rin,λq hq=>?_,?_,?_,?_,hT.keys.set _ _,λs'=>?_⟩⟩,rfl⟩
 ·rw[QZ];refine⟨[(b6,.cells (toArray (Ct s)) 61 (0,0))],?_⟩;refine((List.Perm.cons _ (List.Perm.cons _ AI)).trans ?_);exact Az [_,_] [_] _
 ·unfold Ft;rw[Nv,Aq,AJ,Aq,<-tf];rw[GP (by simp),Ir (by simp),ex.1,ex.2];congr 1
  ·apply BA;intro q hq;have:=eo q (by rw[Nv];exact Ai _ hq);rw[this.1,this.2]
  ·congr 1;apply BA;intro q hq;have:=eo q (by rw[Nv];exact Aa _ hq);rw[this.1,this.2]
 ·rcases AH.1 hq with hq|hq
  ·exact An _ (hT.sub q (by rw[Nv];exact Ai _ hq))
  ·rcases At.1 hq with rfl|hq
   ·exact .head _
   ·exact An _ (hT.sub q (by rw[Nv];exact Aa _ hq))
 ·have QN:(rb::(A++x::Y)).Perm (x::(rb::os)):=by
   rw[Nv];exact(List.Perm.cons _ AI).trans (List.Perm.swap _ _ _)
  rw[QN.nodup_iff,AP];refine⟨λh=>?_,hT.ond⟩;rcases At.1 h with h|h
  ·exact o7 (h▸hT.rin)
  ·exact zj x h rfl
 ·have PR:rb::((A++x::Y)++[rb])=X++p::x::n::Z:=by
   have:rb::((A++x::Y)++[rb])=(rb::A)++(x::(Y++[rb])):=by simp
   rw[this,<-hA,hnZ];simp
  rw[PR];refine PD O9 ?_ ?_ (λh=>o7 (fI x h)) (λu h1 h2=>?_) (λv h1 h2=>?_) ?_ ?_ ?_ ?_
  ·rw[<-hL,<-Ae,List.dropLast_concat];exact hT.ond
  ·rw[<-hL,I5,By];have:=AP.1 hT.ond;exact⟨this.2,by simp,λa ha c hc e=>this.1 (by rw[AE.1 hc] at e;rw[<-e];exact ha)⟩
  ·rw[yn,Ab h2,vg u h1]
  ·rw[yo,Ab h2,vg v h1]
  ·rw[yn,Ac rfl]
  ·rw[yo,Ab (λe=>Wg e.symm),zi]
  ·rw[yn,Ab (λe=>hpx e.symm),zi]
  ·rw[yo,Ac rfl]
 ·have AcF:((A++x::Y).map λq=>(F3 q).sl).Perm (s::os.map λq=>(F q).sl):=by
   rw[Nv,Aq,AJ,Aq,ex.1];have h1:A.map (λq=>(F3 q).sl)=A.map (λq=>(F q).sl):=BA λq hq=>(eo q (by rw[Nv];exact Ai _ hq)).1;have h2:Y.map (λq=>(F3 q).sl)=Y.map (λq=>(F q).sl):=BA λq hq=>(eo q (by rw[Nv];exact Aa _ hq)).1;rw[h1,h2];exact AI
  rw[AcF.nodup_iff,AP];exact⟨λh=>by obtain⟨q,hq,e⟩:=Au.1 h;exact I8 q hq e,hT.snd⟩
 ·rw[J4];have hfA: ∀B:List Nat,(∀q,q∈B->q∈os)->B.find? (λq=>decide ((F3 q).sl=s'))=B.find? (λq=>decide ((F q).sl=s')):=λB hB=>by
   induction B with
   |nil=>rfl
   |cons z B ih=>rw[BG,BG,(eo z (hB z Ak)).1,ih λq hq=>hB q (An _ hq)]
  rw[Eh,hfA A (λq hq=>by rw[Nv];exact Ai _ hq),BG,ex.1];by_cases pM:s'=s
  ·rw[Ac pM,Av pM.symm];have:A.find? (λq=>decide ((F q).sl=s'))=none:=Br.2 λq hq=>by
    have:=I8 q (by rw[Nv];exact Ai _ hq);simpa[pM] using this
   rw[this];rfl
  ·rw[Ab pM,Ax (λe=>pM e.symm),hT.get,Nv,Eh,hfA Y (λq hq=>by rw[Nv];exact Aa _ hq)]
open Go.RowKit
set_option maxRecDepth 20000
section
variable{P:Program}{ro:Option Nat}{N:Nat}{E:World}{ops:Array Oper}{Q:Exit->Act->World->Prop}{R:Ad}{tbl:List (List Nat)}{sw:Sw}{sp:FM}{pl:List BH}{o:Oper}{fr fr':Fr}{ds:List Deferred}{K:Value->Ad->Prop}{v:Value}{i:Nat}{k:Bool}
theorem wk{d:Nat}(h:OpE P ro N fr l o K)(hw:Rr ops fr o.guard=some true)(hd:o.dst=some d)(hb:Nat.blt d N=true)(hR: ∀v l',K v l'->(∀c,c∈R->c∈l'))(hS: ∀v l',K v l'-> ∀x,x∈sp->FQ tbl i x.1=false-> ∀c,c∈x.2->c∈l')(hk: ∀v l',K v l'->PlanS P ro N E ops Q R tbl none sp pl ((d,v)::fr) ds l'):PlanS P ro N E ops Q R tbl none sp ((i,false,o)::pl) fr ds l:=by
 rcases KS hw with⟨h1,_⟩|⟨j,b,oj,dj,b',h1,h2,h3,h4,h5⟩
 ·exact Hb h h1 hd hb hR hS hk
 ·have:b'=b:=by simpa using h5
  subst this;exact .ge h h1 h2 h3 h4 (by rw[hd];exact hb) hR hS λv l' hkv=>by rw[hd];exact hk v l' hkv
end
theorem AaA{q r:Nat}(h:q≠r):(!decide ((⟨q,0,none⟩:Addr)=⟨r,0,none⟩))=true:=by rw[Ax (λe=>h (by injection e))];rfl
theorem AaB(q:Nat):(!decide ((⟨q,0,none⟩:Addr)=⟨q,0,none⟩))=false:=by rw[Av rfl];rfl
theorem TB.nxt{all:List Nat}(h:TB b rb m F all os es clock lq){Y:List Nat}(hX:rb::os=X++p::Y):(F p).nx=Y.headD rb:=by
 have O9:=h.adj;rw[show rb::(os++[rb])=X++p::(Y++[rb]) by rw[<-Ae,hX,Am,Ae]] at O9;cases Y with
 |nil=>exact(M2 (Z:=[]) O9).1
 |cons y Y=>exact(M2 (Z:=Y++[rb]) O9).1
theorem TB.prv{all:List Nat}(h:TB b rb m F all os es clock lq){Y:List Nat}(hX:rb::os=X++p::Y):(F (Y.headD rb)).pv=p:=by
 have O9:=h.adj;rw[show rb::(os++[rb])=X++p::(Y++[rb]) by rw[<-Ae,hX,Am,Ae]] at O9;cases Y with
 |nil=>exact(M2 (Z:=[]) O9).2
 |cons y Y=>exact(M2 (Z:=Y++[rb]) O9).2
def splitD(s:CO):DT->Option (DT×Int×DT)
 |[]=>none
 |x::r=>if x.1=s then some ([],x.2,r) else(splitD s r).map λy=>(x::y.1,y.2.1,y.2.2)
theorem G6{F:Nat->NdT}{s:CO}: ∀{os:List Nat} {p:Nat},blk F os s=some p-> ∃A B,os=A++p::B/\splitD s (Ft F os)=some (Ft F A,(F p).dp,Ft F B)
 |[],_,h=>by cases h
 |q::os,p,h=>by
  unfold blk at h;rw[BG] at h;by_cases e:(F q).sl=s
  ·rw[Av e] at h;cases h;exact⟨[],os,rfl,by show splitD s (((F q).sl,(F q).dp)::Ft F os)=_;unfold splitD;rw[Ac e];rfl⟩
  ·rw[Ax e] at h;obtain⟨A,B,rfl,h2⟩:=G6 (os:=os) h;exact⟨q::A,B,rfl,by show splitD s (((F q).sl,(F q).dp)::Ft F _)=_;unfold splitD;rw[Ab e,h2];rfl⟩
theorem JL{F:Nat->NdT}{s:CO}: ∀{os:List Nat},blk F os s=none->splitD s (Ft F os)=none
 |[],_=>rfl
 |q::os,h=>by
  unfold blk at h;rw[BG] at h;by_cases e:(F q).sl=s
  ·rw[Av e] at h;cases h
  ·rw[Ax e] at h;show splitD s (((F q).sl,(F q).dp)::Ft F os)=none;unfold splitD;rw[Ab e,JL (os:=os) h];rfl
abbrev Zx(B b:Nat):Bg:=(B,.cells #[.pointer (some ⟨b,0,none⟩)] 232 (0,0))
abbrev Yz(B p:Nat):Bg:=(B,.cells #[.pointer (some ⟨p,0,none⟩)] 325 (0,0))
theorem TN(b p:Nat)(l:Ad):Fn prog 171 [.pointer (some ⟨b,0,none⟩),.pointer (some ⟨p,0,none⟩)] l λv l'=> ∃B1 B2,v= .func (.func 234) #[] #[.pointer (some ⟨B1,0,none⟩),.pointer (some ⟨B2,0,none⟩)]/\l'=Yz B1 p::Zx B2 b::l:=by refine AO func171 ntmps171 λE=>?_;refine Ih λb2=>?_;refine Ih λb3=>?_;exact Bb .refl ⟨b3,b2,rfl,rfl⟩
def Nxs(F:Nat->NdT)(L:List Nat)(l:Ad):Prop:= ∀q,q∈L-> ∃x:NdT,Ol q x∈l/\x.nx=(F q).nx
theorem Rv(B1 B2 b rb m p:Nat)(F:Nat->NdT)(all os:List Nat)(es:List (Hf CO))(clock:Nat)(lq:Ad)(hT:TB b rb m F all os es clock lq)(X Y:List Nat)(hX:rb::os=X++p::Y):
 FA prog 234 [.pointer (some ⟨B1,0,none⟩),.pointer (some ⟨B2,0,none⟩)] (λq:Nat=>[.pointer (some ⟨q,0,none⟩)]) (λxs=>xs=Y) (λpre=>pre<+:Y)
  (λpre l=>Yz B1 p∈l/\Zx B2 b∈l/\K0 b rb m∈l/\Nxs F (rb::os) l):=by
 refine⟨λr I Ix G0 Ca hY l G hG h0=>?_⟩;have hpc:p∈rb::os:=by rw[hX];simp
 obtain⟨n1,n2,n3,n4⟩:=Ca _ _ G hG h0;obtain⟨xp,hxp,hxn⟩:=n4 p hpc;refine AO func234 ntmps234 λE=>?_;refine gz ?_;rw[hxn,hT.nxt hX];refine gz ?_;refine CF (α:=List Nat×List Nat×Ad) (λx=>[(0,.func (.yield r) #[] #[]),(1,.pointer (some ⟨B1,0,none⟩)),(2,.pointer (some ⟨B2,0,none⟩)),(4,.pointer (some ⟨x.2.1.headD rb,0,none⟩))]) (λx=>x.2.2++G) (λx=>x.1++x.2.1=Y/\I x.1 x.2.2) (λx=>x.2.1.length) ([],Y,l) ⟨rfl,h0⟩ ⟨rfl,rfl,rfl,rfl,trivial⟩ .refl ?_;rintro⟨pre,zk,l⟩ ⟨Nt,hI⟩;simp only at Nt hI⊢;obtain⟨n1,n2,n3,n4⟩:=Ca _ _ G hG hI;obtain⟨xr,hxr,hxrn⟩:=n4 rb Ak;cases zk with
 |nil=>rw[Bi] at Nt;subst Nt;simp only[List.headD_nil];refine gz ?_;refine Be (dk rfl rfl AZ hxr hxr) ?_;rw[AaB];refine gz ?_;exact Bb .refl ⟨l,rfl,.inl ⟨_,rfl,hI⟩⟩
 |cons q zk=>
  have hX2:rb::os=(X++p::pre)++q::zk:=by rw[hX,<-Nt];simp
  have hqc:q∈rb::os:=by rw[hX2];simp
  have hqr:q≠rb:=λe=>by
   have KP:=hT.ond;cases X with
   |nil=>rw[Ag,CZ] at hX;rw[hX.2,<-Nt,<-e] at KP;simp at KP
   |cons x X=>rw[Ae,CZ] at hX;rw[hX.2,<-Nt,<-e] at KP;simp at KP
  obtain⟨xq,hxq,hxqn⟩:=n4 q hqc;simp only[Iq];refine gz ?_;refine Be (dk rfl rfl AZ hxq hxr) ?_;rw[AaA hqr];refine gz ?_;have DB:pre++[q]<+:Y:=⟨zk,by rw[<-Nt];simp⟩
  refine AR (C0 rfl rfl (hY pre q l G hG hI DB)) ?_;rintro v l' ⟨l1,rfl,⟨rfl,Lg⟩|⟨rfl,hx⟩⟩
  ·obtain⟨k1,k2,k3,k4⟩:=Ca _ _ G hG Lg;obtain⟨xq2,hxq2,hxqn2⟩:=k4 q hqc;refine gz ?_;rw[hxqn2,hT.nxt hX2];refine gz ?_;exact BR (pre++[q],zk,l1) ⟨by rw[<-Nt];simp,Lg⟩ (by simp) ⟨rfl,rfl,rfl,rfl,trivial⟩ .refl
  ·refine gz ?_;exact Bb .refl ⟨l1,rfl,.inr ⟨_,DB,hx⟩⟩
open Go.RowKit
set_option maxRecDepth 20000
theorem qO{P:α->Bool}{pre:List α}{y:α}{Y:List α}(h1:pre++[y]<+:Y)(h2:pre<+:Y.takeWhile P)(hy:P y=true):pre++[y]<+:Y.takeWhile P:=by obtain⟨r,rfl⟩:=h1;have hp: ∀x,x∈pre->P x=true:=λx hx=>A3.1 (Iy (p:=P)) x (h2.subset hx);rw[Am,GQ hp];show pre++[y]<+:pre++List.takeWhile P (y::r);rw[Hn hy];exact⟨r.takeWhile P,by simp⟩
theorem qP{P:α->Bool}{pre:List α}{y:α}{Y:List α}(h1:pre++[y]<+:Y)(h2:pre<+:Y.takeWhile P)(hy:P y=false):pre=Y.takeWhile P:=by obtain⟨r,rfl⟩:=h1;have hp: ∀x,x∈pre->P x=true:=λx hx=>A3.1 (Iy (p:=P)) x (h2.subset hx);rw[Am,GQ hp];show pre=pre++List.takeWhile P (y::r);rw[Fx (by rw[hy];simp),Bi]
theorem wm{P:α->Bool}{Y:List α}(h2:Y<+:Y.takeWhile P):Y=Y.takeWhile P:=(h2.sublist.eq_of_length_le (Ej P).length_le)
theorem Keep.in_mid(A B C:Ad):Keep (A++(B++C)) (B++(A++C)):=Keep.of_perm (Az A B C)
def Dps(F:Nat->NdT)(L pre:List Nat)(l:Ad):Prop:= ∀q,q∈L-> ∃x:NdT,Ol q x∈l/\x.nx=(F q).nx/\(q∉pre->x.dp=(F q).dp)
open Go.RowKit
set_option maxRecDepth 20000
abbrev nV(x:CO×Int):Ap:=[.int .i64 x.1.1,.int .i64 x.1.2,.int .i64 x.2]
def ncs(D:DT):Ap:=D.flatMap nV
def scs(L:List CO):Ap:=L.flatMap Ct
theorem lu(D:DT)(x:CO×Int):ncs (D++[x])=ncs D++nV x:=by simp[ncs]
theorem scs_snoc(D:List CO)(x:CO):scs (D++[x])=scs D++Ct x:=by simp[scs]
theorem ly(F:Nat->NdT)(pre:List Nat)(y:Nat):Ft F (pre++[y])=Ft F pre++[((F y).sl,(F y).dp)]:=by simp[Ft]
def belowD(D:DT)(s:CO):List CO:=match splitD s D with
 |none=>[]
 |some (_,d,B)=>(B.takeWhile λx=>decide (d<x.2)).map Prod.fst
theorem all_any(b:Nat)(D:DT)(lq:Ad)(hq:IsT b D lq)(hn:D.length<=1000000)(l:Ad)(CE: ∀c,c∈lq->c∈l):
 Fn prog 116 [.pointer (some ⟨b,0,none⟩)] l λv l'=> ∃cs,OwnSl 129 3 v D.length (ncs D) cs/\l'=cs++l:=by
 obtain⟨rb,m,F,all,os,es,clock,rfl,hT⟩:=hq;have jE:os.length<=1000000:=by simpa[Ft] using hn
 have h1:=CE _ hT.m1;have jI: ∀q,q∈rb::os->Ol q (F q)∈l:=λq hq=>by
  rcases At.1 hq with rfl|hq
  ·exact CE _ (hT.m3 hT.rin)
  ·exact CE _ (hT.m3 (hT.sub q hq))
 refine AO func116 ntmps116 λE=>?_;refine Ih λb3=>?_;refine AR (Dn rfl rfl (TN _ _ _)) ?_;rintro v l' ⟨C1,C2,rfl,rfl⟩;refine gz ?_;refine Df (α:=Nat) (ps:=[13]) (lb:=[.pointer (some ⟨C1,0,none⟩),.pointer (some ⟨C2,0,none⟩)]) rfl (Rv C1 C2 b rb m rb F all os es clock lq hT [] os rfl) (λ_=>rfl) rfl
  (λpre l=> ∃v cs,OwnSl 129 3 v pre.length (ncs (Ft F pre)) cs/\l=[Yz C1 rb,Zx C2 b,(b3,.cells #[v] 45 (0,0))]++cs)
  (λc pre l=>False)
  _ l (λpre l2 X2 hX h=>by obtain⟨v,cs,_,rfl⟩:=h;exact⟨.head _,.tail _ (.head _),Aa _ (hX _ h1),λq hq=>⟨F q,Aa _ (hX _ (jI q hq)),rfl⟩⟩) (by exact AU) ⟨_,[],OwnSl.nil _ _,rfl⟩ ?_ ?_ ?_
 ·rintro E r0 FS pre y l' T ⟨fn,tmps,Dd,rfl⟩ QY ⟨v,cs',ET,rfl⟩ DB;have hy:y∈rb::os:=An _ (DB.subset (by simp));have hyT:=QY _ (jI y hy);have Xo:pre.length<=1000000:=by have:=DB.length_le;simp at this;omega
  simp only[DU,Ae,Ag];refine gz ?_;refine CH (.there (.there (.there (FH _ _ _ _ _)))) ?_;generalize hX1:(r0,Obj.loop (DN fn tmps _ _ _ Dd .busy none))::T=X1;have vj:Ol y (F y)∈X1:=by rw[<-hX1];exact .tail _ hyT
  refine gz ?_;refine Cn [10,11,12] 13 ([]) ?_;refine pz ?_;apply Gi (S:=[(b3,.cells #[v] 45 (0,0))])
  ·exact DP rfl (.head _) rfl
  ·intro c hc;cases hc with
   |head=>exact .tail _ (.tail _ (.head _))
   |tail _ h=>cases h
  ·rfl
  ·rfl
  ·rfl
  refine pz ?_;apply Gi (S:=[Ol y (F y)])
  ·exact Jb rfl (.head _) (by(repeat(first|with_reducible apply LSub.done|with_reducible apply LSub.take|with_reducible apply LSub.drop)))
  ·intro c hc;cases hc with
   |head=>exact .tail _ (.tail _ (.tail _ (Aa _ vj)))
   |tail _ h=>cases h
  ·rfl
  ·rfl
  ·rfl
  refine pz ?_;apply Gi (S:=[Ol y (F y)])
  ·exact DP rfl (.head _) rfl
  ·intro c hc;cases hc with
   |head=>exact .tail _ (.tail _ (.tail _ (Aa _ vj)))
   |tail _ h=>cases h
  ·rfl
  ·rfl
  ·rfl
  refine pz ?_;apply Hb
  ·apply FB (ws:=nV ((F y).sl,(F y).dp)) (k:=3)
   ·rfl
   ·rfl
   ·rfl
   ·decide
   ·decide
  ·rfl
  ·rfl
  ·rfl
  ·intro _ _ _ c hc;cases hc
  ·rintro _ _ ⟨bl,_,rfl,rfl⟩ x hx _ c hc;have h3: ∀o:Obj,(b3,o)∈(bl,Obj.cells (toArray (nV ((F y).sl,(F y).dp))) 129 (0,0))::Yz C1 rb::Zx C2 b::(b3,o)::(cs'++X1):=λo=> .tail _ (.tail _ (.tail _ (.head _)));simp only[At,BL,Ez] at hx;rcases hx with rfl|rfl|rfl<;>simp only[At,BL,Ez] at hc<;>subst hc
   ·exact .tail _ (.tail _ (.tail _ (.tail _ (Aa _ vj))))
   ·exact .tail _ (.tail _ (.tail _ (.tail _ (Aa _ vj))))
   ·exact h3 _
  rintro _ _ ⟨bl,_,rfl,rfl⟩;refine pz ?_;apply Hb
  ·apply Ht (k:=3) (X:=[Yz C1 rb,Zx C2 b,(b3,.cells #[v] 45 (0,0))]) (cs:=cs') (xs:=ncs (Ft F pre)) (n:=pre.length) (zs:=[.int .i64 0,.int .i64 0,.int .i64 0]) (ws:=nV ((F y).sl,(F y).dp))
   ·rfl
   ·rfl
   ·rfl
   ·exact ET
   ·rfl
   ·simp[Value.oneCell']
   ·omega
   ·decide
  ·rfl
  ·rfl
  ·rfl
  ·intro _ _ _ c hc;cases hc
  ·exact λ_ _ _ x hx ha=>Dg BB hx ha
  rintro v' _ ⟨c2,FK,rfl⟩;have Ju:v'.oneCell'=true:=FK.one;simp only[Ae,Ag];apply Hs
  ·apply Gx (cs:=[v])
   ·rfl
   ·rfl
   ·exact Ju
   ·exact BW
   ·exact .zero
   ·exact DX
  ·rfl
  ·rfl
  ·intro _ _ _ c hc;cases hc
  ·exact λ_ _ _ x hx ha=>Dg BB hx ha
  rintro _ _ ⟨rfl,rfl⟩;refine pz ?_;refine gz ?_;rw[<-hX1];refine Cg _ (.refl) ⟨v',c2,?_,rfl⟩;rw[ly,lu,Ah];exact FK
 ·rintro Dd xs l' rfl ⟨v,cs',ET,rfl⟩;have Ju:v.oneCell'=true:=ET.one;simp only[Ae,Ag];refine gz ?_;refine AV [Dd] (cs'++l) rfl (l':=cs'++l) (by exact AU) (by exact Ba) .refl ?_;exact⟨cs',by rw[show(Ft F xs).length=xs.length by simp[Ft]];exact ET,rfl⟩
 ·rintro Dd c pre l' DB h;exact h.elim
theorem TO{F:Nat->NdT}{d:Int}: ∀(B:List Nat),((Ft F B).takeWhile λx=>decide (d<x.2)).map Prod.fst=(B.takeWhile λq=>decide (d<(F q).dp)).map λq=>(F q).sl
 |[]=>rfl
 |q::B=>by
  show(List.takeWhile _ (((F q).sl,(F q).dp)::Ft F B)).map Prod.fst=_;rw[List.takeWhile_cons,List.takeWhile_cons];by_cases h:d<(F q).dp
  ·rw[Av h];show _::List.map Prod.fst _=_::List.map _ _;rw[TO B]
  ·rw[Ax h];rfl
end Tr
end Go.Proofs.YtlifcingifodfaaGreat
