/- Laws that the statement's proof leans on (joined out of several texts). -/
import Derived.Test.YtlkgekpmileobaaGreatGb8
import Derived.Test.YtlkgekpmileobaaGreatGb9
import Derived.Test.YtlkgekpmileobaaGreatGb11
import Derived.Test.YtlkgekpmileobaaGreatGb10
set_option linter.unusedVariables false
set_option linter.unusedSimpArgs false
namespace Go.Proofs.YtlkgekpmileobaaGreat.Tr
open Tryz
open List(toArray)
open Go.RowKit
set_option maxRecDepth 20000
variable{os X:List Nat}{p b rb m clock:Nat}{lq l l':List Ab}{α:Type}
abbrev CC:=Int×Int
variable{es:List (Gv CC)}{s:CC}
abbrev Cj(s:CC):List Value:=[.int .i64 s.1,.int .i64 s.2]
theorem Lz:NH Cj [some .i64,some .i64]:=⟨λa=>⟨_,_,rfl,⟨_,rfl⟩,_,_,rfl,⟨_,rfl⟩,rfl⟩,λa b h=>by simp only[Cj,CJ,Value.int.injEq,KU,Ml] at h;exact I0 h.1 h.2⟩
structure NdT where
 sl:CC
 dp:Int
 pv:Nat
 nx:Nat
variable{F:Nat->NdT}
abbrev NdT.cells(x:NdT):List Value:=[.int .i64 x.sl.1,.int .i64 x.sl.2,.int .i64 x.dp,.pointer (some ⟨x.pv,0,none⟩),.pointer (some ⟨x.nx,0,none⟩)]
abbrev MS(p:Nat)(x:NdT):Ab:=(p,.cells (toArray x.cells) 331 (0,0))
def MU(F:Nat->NdT)(all:List Nat):List Ab:=all.map λp=>MS p (F p)
theorem OG{all:List Nat}(h:p∈all):MS p (F p)∈MU F all:=Au.2 ⟨p,h,rfl⟩
theorem Ph{F':Nat->NdT}{all:List Nat}(h: ∀p,p∈all->F p=F' p):MU F all=MU F' all:=Bt λp hp=>by rw[h p hp]
theorem Kt{all:List Nat}(x:NdT)(hn:all.Nodup)(hp:p∈all):Upd (MU F all) p (MS p (F p)).2 (MS p x).2 (MU (upd F p x) all):=by
 induction all with
 |nil=>cases hp
 |cons q all ih=>
  rw[AM] at hn;by_cases e:q=p
  ·subst e;have h1:MU (upd F q x) all=MU F all:=Ph λr hr=>C3 _ _ _ _ λe=>hn.1 (e▸hr);show Upd (MS q (F q)::MU F all) q _ _ (MS q (upd F q x q)::MU (upd F q x) all);rw[DB,h1];exact .here
  ·rcases Aq.1 hp with h|h
   ·exact absurd h.symm e
   ·show Upd (MS q (F q)::MU F all) p _ _ (MS q (upd F p x q)::MU (upd F p x) all);rw[C3 _ _ _ _ e];exact .there (ih hn.2 h)
instance:EQ prog 61 [some .i64,some .i64]:=⟨Bv⟩
abbrev DT:=List (CC×Int)
def jG(F:Nat->NdT):List Nat->Prop
 |[]=>True
 |[_]=>True
 |a::b::r=>(F a).nx=b/\(F b).pv=a/\jG F (b::r)
abbrev JS(b rb m:Nat):Ab:=(b,.cells (toArray [.pointer (some ⟨rb,0,none⟩),.map (some m)]) 329 (0,0))
structure TB(b rb m:Nat)(F:Nat->NdT)(all os:List Nat)(es:List (Gv CC))(clock:Nat)(lq:List Ab):Prop where
 eq:lq=JS b rb m::(m,He Cj es clock)::MU F all
 nd:all.Nodup
 rin:rb∈all
 sub: ∀p,p∈os->p∈all
 ond:(rb::os).Nodup
 adj:jG F (rb::(os++[rb]))
 snd:(os.map λp=>(F p).sl).Nodup
 keys:KeysOk es clock
 get: ∀s,GZ s es=(os.find? λp=>decide ((F p).sl=s)).map λp=> .pointer (some ⟨p,0,none⟩)
def ER(F:Nat->NdT)(os:List Nat):DT:=os.map λp=>((F p).sl,(F p).dp)
def IsT(b:Nat)(D:DT)(lq:List Ab):Prop:= ∃rb m F all os es clock,ER F os=D/\TB b rb m F all os es clock lq
theorem TB.m1{all:List Nat}(h:TB b rb m F all os es clock lq):JS b rb m∈lq:=by rw[h.eq];exact .head _
theorem TB.m2{all:List Nat}(h:TB b rb m F all os es clock lq):(m,He Cj es clock)∈lq:=by rw[h.eq];exact .tail _ (.head _)
theorem TB.m3{all:List Nat}(h:TB b rb m F all os es clock lq)(hp:p∈all):MS p (F p)∈lq:=by rw[h.eq];exact .tail _ (.tail _ (OG hp))
def blk(F:Nat->NdT)(os:List Nat)(s:CC):Option Nat:=os.find? λp=>decide ((F p).sl=s)
theorem Hr(h:blk F os s=some p):p∈os/\(F p).sl=s:=
 ⟨BN h,by have:=Ei h;simpa using this⟩
def LA:Option Nat->Value
 |some p=> .pointer (some ⟨p,0,none⟩)
 |none=> .pointer none
set_option maxHeartbeats 400000
theorem of_any(b rb m:Nat)(F:Nat->NdT)(all os:List Nat)(es:List (Gv CC))(clock:Nat)(lq:List Ab)(s:CC)(hT:TB b rb m F all os es clock lq)(l:List Ab)(hsub: ∀c,c∈lq->c∈l):
 Fn prog 248 [.pointer (some ⟨b,0,none⟩),.agg (toArray (Cj s))] l λv l'=>v=LA (blk F os s)/\l'=l:=by
 have h1:=hsub _ hT.m1;have h2:=hsub _ hT.m2;have hg:(GZ s es).getD (.pointer none)=LA (blk F os s):=by rw[hT.get];unfold blk;cases os.find? λp=>decide ((F p).sl=s)<;>rfl
 refine AO func248 ntmps248 λE=>?_;refine gz ?_;refine AS (CR rfl) ?_;rintro _ _ ⟨b3,hb3,rfl,rfl⟩;refine gz ?_;refine Ce [] 7 _ ?_ (hR:=(λ_ h=>h));refine pz ?_;apply D7
 ·apply az (enc:=Cj) (a:=s) (es:=es) (clock:=clock) (ks:=[some .i64,some .i64])
  ·rfl
  ·rfl
  ·exact Lz
  ·exact .tail _ h2
 ·rfl
 ·rfl
 ·rfl
 rw[hg];refine pz ?_;exact Es
theorem new_any(l:List Ab):Fn prog 180 [] l λv l'=> ∃b,v= .pointer (some ⟨b,0,none⟩)/\ ∃lq,IsT b [] lq/\l'=lq++l:=by refine AO func180 ntmps180 λE=>?_;refine gz ?_;refine AS (CR rfl) ?_;rintro _ _ ⟨rb,hrb,rfl,rfl⟩;refine gz ?_;refine AS Na ?_;rintro _ _ ⟨m,hm,rfl,rfl⟩;refine gz ?_;refine AS (CR rfl) ?_;rintro _ _ ⟨b,hb,rfl,rfl⟩;refine gz ?_;exact By [] rfl .refl (by exact A7) ⟨b,rfl,[JS b rb m,(m,.map #[] 0),MS rb ⟨(0,0),0,rb,rb⟩],⟨rb,m,λ_=>⟨(0,0),0,rb,rb⟩,[rb],[],[],0,rfl,⟨rfl,by simp,by simp,by simp,by simp,⟨rfl,rfl,trivial⟩,by simp,⟨by simp,by simp,by simp⟩,λs=>rfl⟩⟩,rfl⟩
theorem MV{F F':Nat->NdT}: ∀{L:List Nat},jG F L->(∀u,u∈L.dropLast->(F' u).nx=(F u).nx)->(∀v,v∈L.tail->(F' v).pv=(F v).pv)->jG F' L
 |[],_,_,_=>trivial
 |[_],_,_,_=>trivial
 |a::b::r,⟨h1,h2,h3⟩,hn,hp=>by
  refine⟨by rw[hn a (by simp[List.dropLast]),h1],by rw[hp b (by simp),h2],MV h3 (λu hu=>hn u ?_) λv hv=>hp v ?_⟩
  ·simp only[Gc (KX b r),Aq];exact .inr hu
  ·simp only[Ia] at hv⊢;exact An _ hv
theorem NZ{F F':Nat->NdT}{p n x:Nat}{Z:List Nat}: ∀{X:List Nat},jG F (X++p::n::Z)->(X++p::n::Z).dropLast.Nodup->(X++p::n::Z).tail.Nodup->x∉X++p::n::Z->
 (∀u,u≠x->u≠p->(F' u).nx=(F u).nx)->(∀v,v≠x->v≠n->(F' v).pv=(F v).pv)->(F' p).nx=x->(F' x).pv=p->(F' x).nx=n->(F' n).pv=x->jG F' (X++p::x::n::Z)
 |[],⟨h1,h2,h3⟩,hs,ht,hx,hn,hp,k1,k2,k3,k4=>by
  refine⟨k1,k2,k3,k4,MV h3 (λu hu=>hn u ?_ ?_) λv hv=>hp v ?_ ?_⟩
  ·rintro rfl;exact hx (An _ (List.dropLast_subset _ hu))
  ·rintro rfl;have:(u::(n::Z).dropLast).Nodup:=by simpa using hs
   exact(AM.1 this).1 hu
  ·rintro rfl;exact hx (by simp only[Ag,Aq,Ia] at hv⊢;exact .inr (.inr hv))
  ·rintro rfl;have:(v::Z).Nodup:=by simpa using ht
   exact(AM.1 this).1 hv
 |[a],⟨h1,h2,h3⟩,hs,ht,hx,hn,hp,k1,k2,k3,k4=>by
  have hs1:(a::(p::n::Z).dropLast).Nodup:=by simpa using hs
  have hs2:=AM.1 hs1;have ht1:(p::n::Z).Nodup:=by simpa using ht
  have ht2:=AM.1 ht1;refine⟨by rw[hn a (λe=>hx (by simp[e])) (λe=>hs2.1 (by rw[e];simp[List.dropLast]))];exact h1,by rw[hp p (λe=>hx (by simp[e])) (λe=>ht2.1 (by rw[e];simp))];exact h2,?_⟩;exact NZ (X:=[]) h3 hs2.2 ht2.2 (λh=>hx (An _ h)) hn hp k1 k2 k3 k4
 |a::b::X,⟨h1,h2,h3⟩,hs,ht,hx,hn,hp,k1,k2,k3,k4=>by
  have hs1:(a::((b::X)++p::n::Z).dropLast).Nodup:=by have:((a::b::X)++p::n::Z).dropLast=a::((b::X)++p::n::Z).dropLast:=Gc (by simp);rwa [this] at hs
  have hs2:=AM.1 hs1;have ht1:(b::(X++p::n::Z)).Nodup:=ht;have ht2:=AM.1 ht1;have hpd:p∈((b::X)++p::n::Z).dropLast:=by rw[IE (by simp)];exact Aa _ (by simp[List.dropLast])
  refine⟨by rw[hn a (λe=>hx (by simp[e])) (λe=>hs2.1 (by rw[e];exact hpd))];exact h1,by rw[hp b (λe=>hx (by simp[e])) (λe=>ht2.1 (by rw[e];simp))];exact h2,?_⟩;exact NZ (X:=b::X) h3 hs2.2 ht2.2 (λh=>hx (An _ h)) hn hp k1 k2 k3 k4
theorem LB{F:Nat->NdT}{p n:Nat}{Z:List Nat}: ∀{X:List Nat},jG F (X++p::n::Z)->(F p).nx=n/\(F n).pv=p
 |[],⟨h1,h2,_⟩=>⟨h1,h2⟩
 |[a],⟨_,_,h⟩=>LB (X:=[]) h
 |a::b::X,⟨_,_,h⟩=>LB (X:=b::X) h
theorem Ja{o o':Obj}(h:Upd l b o o' l')(r:List Ab):Upd (l++r) b o o' (l'++r):=by
 induction h with
 |here=>exact .here
 |there _ ih=>exact .there ih
theorem Jb(h:blk F os s=none): ∀p,p∈os->(F p).sl≠s:=λp hp e=>by have:=Bu.1 h p hp;simp[e] at this
theorem Zj(b rb m:Nat)(F:Nat->NdT)(all os:List Nat)(es:List (Gv CC))(clock:Nat)(lq:List Ab)(hT:TB b rb m F all os es clock lq)(X Y:List Nat)(p:Nat)(hX:rb::os=X++p::Y)(s:CC)(dp:Int)(hs:blk F os s=none)(G:List Ab):
 Fn prog 249 [.pointer (some ⟨b,0,none⟩),.pointer (some ⟨p,0,none⟩),.agg (toArray (Cj s)),.int .i64 dp] (lq++G) λv l'=>v= .tuple #[]/\ ∃lq',IsT b ((ER F os).take X.length++(s,dp)::(ER F os).drop X.length) lq'/\l'=lq'++G:=by
 obtain⟨n,Z,hnZ⟩: ∃n Z,Y++[rb]=n::Z:=by cases Y with|nil=>exact⟨_,_,rfl⟩|cons y Y=>exact⟨_,_,rfl⟩
 have hL:rb::(os++[rb])=X++p::n::Z:=by rw[<-Ad,hX,Al,Ad,hnZ]
 have hadj:=hT.adj;rw[hL] at hadj;obtain⟨hpn,hnp⟩:=LB hadj;have hcyc: ∀q,q∈X++p::n::Z->q∈all:=λq hq=>by
  rw[<-hL] at hq;rcases Aq.1 hq with rfl|hq
  ·exact hT.rin
  ·rcases AF.1 hq with hq|hq
   ·exact hT.sub q hq
   ·rw[AA.1 hq];exact hT.rin
 have hpa:p∈all:=hcyc p (by simp);have hna:n∈all:=hcyc n (by simp);refine AO func249 ntmps249 λE=>?_;refine gz ?_;refine AS (CR rfl) ?_;rintro _ _ ⟨b6,hb6,rfl,rfl⟩;have hEq:=hT.eq;have hmp:MS p (F p)∈lq++G:=Ai _ (hT.m3 hpa);refine gz ?_;refine Ce [8] 10 _ ?_ (hR:=(λ_ h=>h));refine pz ?_;apply CE
 ·exact CR rfl
 ·rfl
 ·rfl
 ·rfl
 ·rintro _ _ ⟨x,_,_,rfl⟩ c hc;exact .tail _ hc
 rintro _ _ ⟨x,hx,rfl,rfl⟩;refine pz ?_;have hxa:x∉all:=λh=>hx _ (.tail _ (Ai _ (hT.m3 h))) rfl;rw[hpn];obtain⟨F1,hF1⟩: ∃F1,F1=upd F x ⟨s,dp,p,n⟩:=⟨_,rfl⟩
 have e1x:F1 x=⟨s,dp,p,n⟩:=by rw[hF1,DB]
 have e1o: ∀q,q≠x->F1 q=F q:=λq hq=>by rw[hF1,C3 _ _ _ _ hq]
 have hpx:p≠x:=λe=>hxa (e▸hpa);have hnx:n≠x:=λe=>hxa (e▸hna);have hnd1:(x::all).Nodup:=AM.2 ⟨hxa,hT.nd⟩;have hc1:MU F1 (x::all)=MS x ⟨s,dp,p,n⟩::MU F all:=by show MS x (F1 x)::MU F1 all=_;rw[e1x,Ph (F:=F1) (F':=F) λq hq=>e1o q λe=>hxa (e▸hq)]
 refine Jh (l':=JS b rb m::(m,He Cj es clock)::(MU F1 (x::all)++((b6,.cells (toArray (Cj s)) 61 (0,0))::G))) (Keep.of_perm ?_) ?_
 ·rw[hEq,hc1];refine(Ay [(x,_),(b6,_)] [JS b rb m,(m,He Cj es clock)] (MU F all++G)).trans ?_;refine List.Perm.cons _ (List.Perm.cons _ (List.Perm.cons _ ?_));exact(AH (l₁:=MU F all)).symm
 have hmx:MS x (F1 x)∈JS b rb m::(m,He Cj es clock)::(MU F1 (x::all)++((b6,.cells (toArray (Cj s)) 61 (0,0))::G)):= .tail _ (.tail _ (Ai _ (OG (.head _))));rw[e1x] at hmx;refine gz ?_;refine Ce [12,15] 16 ([]) ?_;refine pz ?_;apply FD (S:=[MS x ⟨s,dp,p,n⟩])
 ·exact Dv rfl (.head _) rfl
 ·intro c hc;cases hc with
  |head=>exact hmx
  |tail _ h=>cases h
 ·rfl
 ·rfl
 ·rfl
 refine pz ?_;apply FD (S:=[MS x ⟨s,dp,p,n⟩])
 ·exact Dv rfl (.head _) rfl
 ·intro c hc;cases hc with
  |head=>exact hmx
  |tail _ h=>cases h
 ·rfl
 ·rfl
 ·rfl
 refine pz ?_;obtain⟨F2,hF2⟩: ∃F2,F2=upd F1 p {F1 p with nx:=x}:=⟨_,rfl⟩
 obtain⟨F3,hF3⟩: ∃F3,F3=upd F2 n {F2 n with pv:=x}:=⟨_,rfl⟩
 apply GH
 ·exact C7 (b:=p) (off:=4) (cs:=toArray (F1 p).cells) rfl rfl rfl (.there (.there (Ja (Kt {F1 p with nx:=x} hnd1 (An _ hpa)) _))) (by simp)
 ·rfl
 ·rfl
 ·intro _ _ _ c hc;cases hc
 ·exact λ_ _ _ x hx ha=>CV Bv hx ha
 rintro _ _ ⟨rfl,rfl⟩;rw[<-hF2];refine pz ?_;apply GH
 ·exact C7 (b:=n) (off:=3) (cs:=toArray (F2 n).cells) rfl rfl rfl (.there (.there (Ja (Kt {F2 n with pv:=x} hnd1 (An _ hna)) _))) (by simp)
 ·rfl
 ·rfl
 ·intro _ _ _ c hc;cases hc
 ·exact λ_ _ _ x hx ha=>CV Bv hx ha
 rintro _ _ ⟨rfl,rfl⟩;rw[<-hF3];refine pz ?_;have hm6:(b6,Obj.cells (toArray (Cj s)) 61 (0,0))∈MU F3 (x::all)++((b6,.cells (toArray (Cj s)) 61 (0,0))::G):=Aa _ (.head _);refine gz ?_;refine Ce [6] 7 ([JS b rb m]) ?_;refine pz ?_;apply FD (S:=[(b6,.cells (toArray (Cj s)) 61 (0,0))])
 ·exact IR rfl (.head _) (by(repeat(first|with_reducible apply LSub.done|with_reducible apply LSub.take|with_reducible apply LSub.drop)))
 ·intro c hc;cases hc with
  |head=>exact .tail _ (.tail _ hm6)
  |tail _ h=>cases h
 ·rfl
 ·rfl
 ·rfl
 refine pz ?_;apply GH
 ·apply Oo (enc:=Cj) (a:=s) (es:=es) (clock:=clock) (ks:=[some .i64,some .i64])
  ·rfl
  ·rfl
  ·rfl
  ·exact Lz
  ·exact Dw
 ·rfl
 ·rfl
 ·rintro _ _ ⟨rfl,rfl⟩ c hc;cases hc with
  |head=>exact .head _
  |tail _ h=>cases h
 ·exact λ_ _ _ x hx ha=>CV Bv hx ha
 rintro _ _ ⟨rfl,rfl⟩;refine pz ?_;refine gz ?_;obtain⟨A,hA,hos⟩: ∃A,X++[p]=rb::A/\os=A++Y:=by
  have h:rb::os=(X++[p])++Y:=by rw[hX];simp
  cases hXp:X++[p] with
  |nil=>simp at hXp
  |cons a A=>rw[hXp,Ad,CJ] at h;exact⟨A,by rw[h.1],h.2⟩
 have hAl:A.length=X.length:=by have:=BM List.length hA;simp at this;omega
 have e3: ∀q,(F3 q).sl=(F1 q).sl/\(F3 q).dp=(F1 q).dp:=λq=>by
  rw[hF3,hF2];unfold upd
  split<;>split<;>simp_all
 have e3n: ∀q,(F3 q).nx=if q=p then x else(F1 q).nx:=λq=>by
  rw[hF3,hF2];unfold upd
  split<;>split<;>simp_all
 have e3p: ∀q,(F3 q).pv=if q=n then x else(F1 q).pv:=λq=>by
  rw[hF3,hF2];unfold upd
  split<;>split<;>simp_all
 have hosa: ∀q,q∈os->q≠x:=λq hq e=>hxa (e▸hT.sub q hq);have eo: ∀q,q∈os->(F3 q).sl=(F q).sl/\(F3 q).dp=(F q).dp:=λq hq=>by rw[(e3 q).1,(e3 q).2,e1o q (hosa q hq)];exact⟨rfl,rfl⟩
 have ex:(F3 x).sl=s/\(F3 x).dp=dp:=by rw[(e3 x).1,(e3 x).2,e1x];exact⟨rfl,rfl⟩
 have hno:=Jb hs;obtain⟨lq',hlq'⟩: ∃lq',lq'=JS b rb m::(m,He Cj (J6 s (.pointer (some ⟨x,0,none⟩)) clock es).1 (J6 s (.pointer (some ⟨x,0,none⟩)) clock es).2)::MU F3 (x::all):=⟨_,rfl⟩
 refine A8 (l':=lq'++G) ?_ ⟨rfl,lq',⟨rb,m,F3,x::all,A++x::Y,_,_,?_,⟨hlq',hnd1,An _ hT.rin,λq hq=>?_,?_,?_,?_,hT.keys.set _ _,λs'=>?_⟩⟩,rfl⟩
 ·rw[hlq'];refine⟨[(b6,.cells (toArray (Cj s)) 61 (0,0))],?_⟩;refine((List.Perm.cons _ (List.Perm.cons _ AH)).trans ?_);exact Ay [_,_] [_] _
 ·unfold ER;rw[hos,Ap,AJ,Ap,<-hAl];rw[F8 (by simp),Hu (by simp),ex.1,ex.2];congr 1
  ·apply Bt;intro q hq;have:=eo q (by rw[hos];exact Ai _ hq);rw[this.1,this.2]
  ·congr 1;apply Bt;intro q hq;have:=eo q (by rw[hos];exact Aa _ hq);rw[this.1,this.2]
 ·rcases AF.1 hq with hq|hq
  ·exact An _ (hT.sub q (by rw[hos];exact Ai _ hq))
  ·rcases Aq.1 hq with rfl|hq
   ·exact .head _
   ·exact An _ (hT.sub q (by rw[hos];exact Aa _ hq))
 ·have hp2:(rb::(A++x::Y)).Perm (x::(rb::os)):=by
   rw[hos];exact(List.Perm.cons _ AH).trans (List.Perm.swap _ _ _)
  rw[hp2.nodup_iff,AM];refine⟨λh=>?_,hT.ond⟩;rcases Aq.1 h with h|h
  ·exact hxa (h▸hT.rin)
  ·exact hosa x h rfl
 ·have hL2:rb::((A++x::Y)++[rb])=X++p::x::n::Z:=by
   have:rb::((A++x::Y)++[rb])=(rb::A)++(x::(Y++[rb])):=by simp
   rw[this,<-hA,hnZ];simp
  rw[hL2];refine NZ hadj ?_ ?_ (λh=>hxa (hcyc x h)) (λu h1 h2=>?_) (λv h1 h2=>?_) ?_ ?_ ?_ ?_
  ·rw[<-hL,<-Ad,List.dropLast_concat];exact hT.ond
  ·rw[<-hL,Ia,Bs];have:=AM.1 hT.ond;exact⟨this.2,by simp,λa ha c hc e=>this.1 (by rw[AA.1 hc] at e;rw[<-e];exact ha)⟩
  ·rw[e3n,Ac h2,e1o u h1]
  ·rw[e3p,Ac h2,e1o v h1]
  ·rw[e3n,Ae rfl]
  ·rw[e3p,Ac (λe=>hnx e.symm),e1x]
  ·rw[e3n,Ac (λe=>hpx e.symm),e1x]
  ·rw[e3p,Ae rfl]
 ·have hmp2:((A++x::Y).map λq=>(F3 q).sl).Perm (s::os.map λq=>(F q).sl):=by
   rw[hos,Ap,AJ,Ap,ex.1];have h1:A.map (λq=>(F3 q).sl)=A.map (λq=>(F q).sl):=Bt λq hq=>(eo q (by rw[hos];exact Ai _ hq)).1;have h2:Y.map (λq=>(F3 q).sl)=Y.map (λq=>(F q).sl):=Bt λq hq=>(eo q (by rw[hos];exact Aa _ hq)).1;rw[h1,h2];exact AH
  rw[hmp2.nodup_iff,AM];exact⟨λh=>by obtain⟨q,hq,e⟩:=Au.1 h;exact hno q hq e,hT.snd⟩
 ·rw[I9];have hfA: ∀B:List Nat,(∀q,q∈B->q∈os)->B.find? (λq=>decide ((F3 q).sl=s'))=B.find? (λq=>decide ((F q).sl=s')):=λB hB=>by
   induction B with
   |nil=>rfl
   |cons z B ih=>rw[BB,BB,(eo z (hB z Ak)).1,ih λq hq=>hB q (An _ hq)]
  rw[DP,hfA A (λq hq=>by rw[hos];exact Ai _ hq),BB,ex.1];by_cases hss:s'=s
  ·rw[Ae hss,At hss.symm];have:A.find? (λq=>decide ((F q).sl=s'))=none:=Bu.2 λq hq=>by
    have:=hno q (by rw[hos];exact Ai _ hq);simpa[hss] using this
   rw[this];rfl
  ·rw[Ac hss,Aw (λe=>hss e.symm),hT.get,hos,DP,hfA Y (λq hq=>by rw[hos];exact Aa _ hq)]
section
variable{P:Program}{ro:Option Nat}{N:Nat}{E:World}{ops:Array Oper}{Q:Exit->Act->World->Prop}{R:List Ab}{tbl:List (List Nat)}{sw:Sw}{sp:Fd}{pl:List BC}{o:Oper}{fr fr':Fr}{ds:List Deferred}{K:Value->List Ab->Prop}{v:Value}{i:Nat}{k:Bool}
theorem nX{d:Nat}(h:OpE P ro N fr l o K)(hw:Pz ops fr o.guard=some true)(hd:o.dst=some d)(hb:Nat.blt d N=true)(hR: ∀v l',K v l'->(∀c,c∈R->c∈l'))(hS: ∀v l',K v l'-> ∀x,x∈sp->Ff tbl i x.1=false-> ∀c,c∈x.2->c∈l')(hk: ∀v l',K v l'->PlanS P ro N E ops Q R tbl none sp pl ((d,v)::fr) ds l'):PlanS P ro N E ops Q R tbl none sp ((i,false,o)::pl) fr ds l:=by
 rcases JK hw with⟨h1,_⟩|⟨j,b,oj,dj,b',h1,h2,h3,h4,h5⟩
 ·exact Gq h h1 hd hb hR hS hk
 ·have:b'=b:=by simpa using h5
  subst this;exact .ge h h1 h2 h3 h4 (by rw[hd];exact hb) hR hS λv l' hkv=>by rw[hd];exact hk v l' hkv
end
theorem ra{q r:Nat}(h:q≠r):(!decide ((⟨q,0,none⟩:Addr)=⟨r,0,none⟩))=true:=by rw[Aw (λe=>h (by injection e))];rfl
theorem rc(q:Nat):(!decide ((⟨q,0,none⟩:Addr)=⟨q,0,none⟩))=false:=by rw[At rfl];rfl
theorem TB.nxt{all:List Nat}(h:TB b rb m F all os es clock lq){Y:List Nat}(hX:rb::os=X++p::Y):(F p).nx=Y.headD rb:=by
 have hadj:=h.adj;rw[show rb::(os++[rb])=X++p::(Y++[rb]) by rw[<-Ad,hX,Al,Ad]] at hadj;cases Y with
 |nil=>exact(LB (Z:=[]) hadj).1
 |cons y Y=>exact(LB (Z:=Y++[rb]) hadj).1
theorem TB.prv{all:List Nat}(h:TB b rb m F all os es clock lq){Y:List Nat}(hX:rb::os=X++p::Y):(F (Y.headD rb)).pv=p:=by
 have hadj:=h.adj;rw[show rb::(os++[rb])=X++p::(Y++[rb]) by rw[<-Ad,hX,Al,Ad]] at hadj;cases Y with
 |nil=>exact(LB (Z:=[]) hadj).2
 |cons y Y=>exact(LB (Z:=Y++[rb]) hadj).2
def splitD(s:CC):DT->Option (DT×Int×DT)
 |[]=>none
 |x::r=>if x.1=s then some ([],x.2,r) else(splitD s r).map λy=>(x::y.1,y.2.1,y.2.2)
theorem Gl{F:Nat->NdT}{s:CC}: ∀{os:List Nat} {p:Nat},blk F os s=some p-> ∃A B,os=A++p::B/\splitD s (ER F os)=some (ER F A,(F p).dp,ER F B)
 |[],_,h=>by cases h
 |q::os,p,h=>by
  unfold blk at h;rw[BB] at h;by_cases e:(F q).sl=s
  ·rw[At e] at h;cases h;exact⟨[],os,rfl,by show splitD s (((F q).sl,(F q).dp)::ER F os)=_;unfold splitD;rw[Ae e];rfl⟩
  ·rw[Aw e] at h;obtain⟨A,B,rfl,h2⟩:=Gl (os:=os) h;exact⟨q::A,B,rfl,by show splitD s (((F q).sl,(F q).dp)::ER F _)=_;unfold splitD;rw[Ac e,h2];rfl⟩
theorem IL{F:Nat->NdT}{s:CC}: ∀{os:List Nat},blk F os s=none->splitD s (ER F os)=none
 |[],_=>rfl
 |q::os,h=>by
  unfold blk at h;rw[BB] at h;by_cases e:(F q).sl=s
  ·rw[At e] at h;cases h
  ·rw[Aw e] at h;show splitD s (((F q).sl,(F q).dp)::ER F os)=none;unfold splitD;rw[Ac e,IL (os:=os) h];rfl
abbrev W3(B b:Nat):Ab:=(B,.cells #[.pointer (some ⟨b,0,none⟩)] 233 (0,0))
abbrev V3(B p:Nat):Ab:=(B,.cells #[.pointer (some ⟨p,0,none⟩)] 326 (0,0))
theorem Ru(b p:Nat)(l:List Ab):Fn prog 172 [.pointer (some ⟨b,0,none⟩),.pointer (some ⟨p,0,none⟩)] l λv l'=> ∃B1 B2,v= .func (.func 235) #[] #[.pointer (some ⟨B1,0,none⟩),.pointer (some ⟨B2,0,none⟩)]/\l'=V3 B1 p::W3 B2 b::l:=by refine AO func172 ntmps172 λE=>?_;refine Hj λb2=>?_;refine Hj λb3=>?_;exact A8 .refl ⟨b3,b2,rfl,rfl⟩
def vk(F:Nat->NdT)(L:List Nat)(l:List Ab):Prop:= ∀q,q∈L-> ∃x:NdT,MS q x∈l/\x.nx=(F q).nx
theorem PD(B1 B2 b rb m p:Nat)(F:Nat->NdT)(all os:List Nat)(es:List (Gv CC))(clock:Nat)(lq:List Ab)(hT:TB b rb m F all os es clock lq)(X Y:List Nat)(hX:rb::os=X++p::Y):
 E2 prog 235 [.pointer (some ⟨B1,0,none⟩),.pointer (some ⟨B2,0,none⟩)] (λq:Nat=>[.pointer (some ⟨q,0,none⟩)]) (λxs=>xs=Y) (λpre=>pre<+:Y)
  (λpre l=>V3 B1 p∈l/\W3 B2 b∈l/\JS b rb m∈l/\vk F (rb::os) l):=by
 refine⟨λr I Ix G0 hneed hY l G hG h0=>?_⟩;have hpc:p∈rb::os:=by rw[hX];simp
 obtain⟨n1,n2,n3,n4⟩:=hneed _ _ G hG h0;obtain⟨xp,hxp,hxn⟩:=n4 p hpc;refine AO func235 ntmps235 λE=>?_;refine gz ?_;rw[hxn,hT.nxt hX];refine gz ?_;refine Cu (α:=List Nat×List Nat×List Ab) (λx=>[(0,.func (.yield r) #[] #[]),(1,.pointer (some ⟨B1,0,none⟩)),(2,.pointer (some ⟨B2,0,none⟩)),(4,.pointer (some ⟨x.2.1.headD rb,0,none⟩))]) (λx=>x.2.2++G) (λx=>x.1++x.2.1=Y/\I x.1 x.2.2) (λx=>x.2.1.length) ([],Y,l) ⟨rfl,h0⟩ ⟨rfl,rfl,rfl,rfl,trivial⟩ .refl ?_;rintro⟨pre,suf,l⟩ ⟨hps,hI⟩;simp only at hps hI⊢;obtain⟨n1,n2,n3,n4⟩:=hneed _ _ G hG hI;obtain⟨xr,hxr,hxrn⟩:=n4 rb Ak;cases suf with
 |nil=>rw[Be] at hps;subst hps;simp only[List.headD_nil];refine gz ?_;refine Bc (Y7 rfl rfl AW hxr hxr) ?_;rw[rc];refine gz ?_;exact A8 .refl ⟨l,rfl,.inl ⟨_,rfl,hI⟩⟩
 |cons q suf=>
  have hX2:rb::os=(X++p::pre)++q::suf:=by rw[hX,<-hps];simp
  have hqc:q∈rb::os:=by rw[hX2];simp
  have hqr:q≠rb:=λe=>by
   have hnd:=hT.ond;cases X with
   |nil=>rw[Ag,CJ] at hX;rw[hX.2,<-hps,<-e] at hnd;simp at hnd
   |cons x X=>rw[Ad,CJ] at hX;rw[hX.2,<-hps,<-e] at hnd;simp at hnd
  obtain⟨xq,hxq,hxqn⟩:=n4 q hqc;simp only[Ht];refine gz ?_;refine Bc (Y7 rfl rfl AW hxq hxr) ?_;rw[ra hqr];refine gz ?_;have hsp:pre++[q]<+:Y:=⟨suf,by rw[<-hps];simp⟩
  refine AS (CK rfl rfl (hY pre q l G hG hI hsp)) ?_;rintro v l' ⟨l1,rfl,⟨rfl,hI'⟩|⟨rfl,hx⟩⟩
  ·obtain⟨k1,k2,k3,k4⟩:=hneed _ _ G hG hI';obtain⟨xq2,hxq2,hxqn2⟩:=k4 q hqc;refine gz ?_;rw[hxqn2,hT.nxt hX2];refine gz ?_;exact BS (pre++[q],suf,l1) ⟨by rw[<-hps];simp,hI'⟩ (by simp) ⟨rfl,rfl,rfl,rfl,trivial⟩ .refl
  ·refine gz ?_;exact A8 .refl ⟨l1,rfl,.inr ⟨_,hsp,hx⟩⟩
theorem jH{P:α->Bool}{pre:List α}{y:α}{Y:List α}(h1:pre++[y]<+:Y)(h2:pre<+:Y.takeWhile P)(hy:P y=true):pre++[y]<+:Y.takeWhile P:=by obtain⟨r,rfl⟩:=h1;have hp: ∀x,x∈pre->P x=true:=λx hx=>A6.1 (Hz (p:=P)) x (h2.subset hx);rw[Al,F9 hp];show pre++[y]<+:pre++List.takeWhile P (y::r);rw[GC hy];exact⟨r.takeWhile P,by simp⟩
theorem jI{P:α->Bool}{pre:List α}{y:α}{Y:List α}(h1:pre++[y]<+:Y)(h2:pre<+:Y.takeWhile P)(hy:P y=false):pre=Y.takeWhile P:=by obtain⟨r,rfl⟩:=h1;have hp: ∀x,x∈pre->P x=true:=λx hx=>A6.1 (Hz (p:=P)) x (h2.subset hx);rw[Al,F9 hp];show pre=pre++List.takeWhile P (y::r);rw[EZ (by rw[hy];simp),Be]
theorem nY{P:α->Bool}{Y:List α}(h2:Y<+:Y.takeWhile P):Y=Y.takeWhile P:=(h2.sublist.eq_of_length_le (E9 P).length_le)
theorem Keep.in_mid(A B C:List Ab):Keep (A++(B++C)) (B++(A++C)):=Keep.of_perm (Ay A B C)
def vm(F:Nat->NdT)(L pre:List Nat)(l:List Ab):Prop:= ∀q,q∈L-> ∃x:NdT,MS q x∈l/\x.nx=(F q).nx/\(q∉pre->x.dp=(F q).dp)
abbrev nV(x:CC×Int):List Value:=[.int .i64 x.1.1,.int .i64 x.1.2,.int .i64 x.2]
def ncs(D:DT):List Value:=D.flatMap nV
def scs(L:List CC):List Value:=L.flatMap Cj
theorem eM(D:DT)(x:CC×Int):ncs (D++[x])=ncs D++nV x:=by simp[ncs]
theorem scs_snoc(D:List CC)(x:CC):scs (D++[x])=scs D++Cj x:=by simp[scs]
theorem eN(F:Nat->NdT)(pre:List Nat)(y:Nat):ER F (pre++[y])=ER F pre++[((F y).sl,(F y).dp)]:=by simp[ER]
def belowD(D:DT)(s:CC):List CC:=match splitD s D with
 |none=>[]
 |some (_,d,B)=>(B.takeWhile λx=>decide (d<x.2)).map Prod.fst
theorem all_any(b:Nat)(D:DT)(lq:List Ab)(hq:IsT b D lq)(hn:D.length<=1000000)(l:List Ab)(hsub: ∀c,c∈lq->c∈l):
 Fn prog 117 [.pointer (some ⟨b,0,none⟩)] l λv l'=> ∃cs,OwnSl 130 3 v D.length (ncs D) cs/\l'=cs++l:=by
 obtain⟨rb,m,F,all,os,es,clock,rfl,hT⟩:=hq;have hnl:os.length<=1000000:=by simpa[ER] using hn
 have h1:=hsub _ hT.m1;have hnod: ∀q,q∈rb::os->MS q (F q)∈l:=λq hq=>by
  rcases Aq.1 hq with rfl|hq
  ·exact hsub _ (hT.m3 hT.rin)
  ·exact hsub _ (hT.m3 (hT.sub q hq))
 refine AO func117 ntmps117 λE=>?_;refine Hj λb3=>?_;refine AS (CZ rfl rfl (Ru _ _ _)) ?_;rintro v l' ⟨C1,C2,rfl,rfl⟩;refine gz ?_;refine CU (α:=Nat) (ps:=[13]) (lb:=[.pointer (some ⟨C1,0,none⟩),.pointer (some ⟨C2,0,none⟩)]) rfl (PD C1 C2 b rb m rb F all os es clock lq hT [] os rfl) (λ_=>rfl) rfl
  (λpre l=> ∃v cs,OwnSl 130 3 v pre.length (ncs (ER F pre)) cs/\l=[V3 C1 rb,W3 C2 b,(b3,.cells #[v] 45 (0,0))]++cs)
  (λc pre l=>False)
  _ l (λpre l2 X2 hX h=>by obtain⟨v,cs,_,rfl⟩:=h;exact⟨.head _,.tail _ (.head _),Aa _ (hX _ h1),λq hq=>⟨F q,Aa _ (hX _ (hnod q hq)),rfl⟩⟩) (by exact AR) ⟨_,[],OwnSl.nil _ _,rfl⟩ ?_ ?_ ?_
 ·rintro E r0 rec pre y l' T ⟨fn,tmps,Dd,rfl⟩ hT0 ⟨v,cs',hown,rfl⟩ hsp;have hy:y∈rb::os:=An _ (hsp.subset (by simp));have hyT:=hT0 _ (hnod y hy);have hpl:pre.length<=1000000:=by have:=hsp.length_le;simp at this;omega
  simp only[Du,Ad,Ag];refine gz ?_;refine Cp (.there (.there (.there (Fa _ _ _ _ _)))) ?_;generalize hX1:(r0,Obj.loop (Dp fn tmps _ _ _ Dd .busy none))::T=X1;have hyX:MS y (F y)∈X1:=by rw[<-hX1];exact .tail _ hyT
  refine gz ?_;refine Ce [10,11,12] 13 ([]) ?_;refine pz ?_;apply FD (S:=[(b3,.cells #[v] 45 (0,0))])
  ·exact Dv rfl (.head _) rfl
  ·intro c hc;cases hc with
   |head=>exact .tail _ (.tail _ (.head _))
   |tail _ h=>cases h
  ·rfl
  ·rfl
  ·rfl
  refine pz ?_;apply FD (S:=[MS y (F y)])
  ·exact IR rfl (.head _) (by(repeat(first|with_reducible apply LSub.done|with_reducible apply LSub.take|with_reducible apply LSub.drop)))
  ·intro c hc;cases hc with
   |head=>exact .tail _ (.tail _ (.tail _ (Aa _ hyX)))
   |tail _ h=>cases h
  ·rfl
  ·rfl
  ·rfl
  refine pz ?_;apply FD (S:=[MS y (F y)])
  ·exact Dv rfl (.head _) rfl
  ·intro c hc;cases hc with
   |head=>exact .tail _ (.tail _ (.tail _ (Aa _ hyX)))
   |tail _ h=>cases h
  ·rfl
  ·rfl
  ·rfl
  refine pz ?_;apply Gq
  ·apply E3 (ws:=nV ((F y).sl,(F y).dp)) (k:=3)
   ·rfl
   ·rfl
   ·rfl
   ·decide
   ·decide
  ·rfl
  ·rfl
  ·rfl
  ·intro _ _ _ c hc;cases hc
  ·rintro _ _ ⟨bl,_,rfl,rfl⟩ x hx _ c hc;have h3: ∀o:Obj,(b3,o)∈(bl,Obj.cells (toArray (nV ((F y).sl,(F y).dp))) 130 (0,0))::V3 C1 rb::W3 C2 b::(b3,o)::(cs'++X1):=λo=> .tail _ (.tail _ (.tail _ (.head _)));simp only[Aq,BK,Ec] at hx;rcases hx with rfl|rfl|rfl<;>simp only[Aq,BK,Ec] at hc<;>subst hc
   ·exact .tail _ (.tail _ (.tail _ (.tail _ (Aa _ hyX))))
   ·exact .tail _ (.tail _ (.tail _ (.tail _ (Aa _ hyX))))
   ·exact h3 _
  rintro _ _ ⟨bl,_,rfl,rfl⟩;refine pz ?_;apply Gq
  ·apply GI (k:=3) (X:=[V3 C1 rb,W3 C2 b,(b3,.cells #[v] 45 (0,0))]) (cs:=cs') (xs:=ncs (ER F pre)) (n:=pre.length) (zs:=[.int .i64 0,.int .i64 0,.int .i64 0]) (ws:=nV ((F y).sl,(F y).dp))
   ·rfl
   ·rfl
   ·rfl
   ·exact hown
   ·rfl
   ·simp[Value.oneCell']
   ·omega
   ·decide
  ·rfl
  ·rfl
  ·rfl
  ·intro _ _ _ c hc;cases hc
  ·exact λ_ _ _ x hx ha=>CV Bv hx ha
  rintro v' _ ⟨c2,ho2,rfl⟩;have hv1:v'.oneCell'=true:=ho2.one;simp only[Ad,Ag];apply GH
  ·apply FP (cs:=[v])
   ·rfl
   ·rfl
   ·exact hv1
   ·exact BO
   ·exact .zero
   ·exact Dw
  ·rfl
  ·rfl
  ·intro _ _ _ c hc;cases hc
  ·exact λ_ _ _ x hx ha=>CV Bv hx ha
  rintro _ _ ⟨rfl,rfl⟩;refine pz ?_;refine gz ?_;rw[<-hX1];refine B9 _ (.refl) ⟨v',c2,?_,rfl⟩;rw[eN,eM,Ah];exact ho2
 ·rintro Dd xs l' rfl ⟨v,cs',hown,rfl⟩;have hv1:v.oneCell'=true:=hown.one;simp only[Ad,Ag];refine gz ?_;refine AU [Dd] (cs'++l) rfl (l':=cs'++l) (by exact AR) (by exact A7) .refl ?_;exact⟨cs',by rw[show(ER F xs).length=xs.length by simp[ER]];exact hown,rfl⟩
 ·rintro Dd c pre l' hsp h;exact h.elim
theorem Rv{F:Nat->NdT}{d:Int}: ∀(B:List Nat),((ER F B).takeWhile λx=>decide (d<x.2)).map Prod.fst=(B.takeWhile λq=>decide (d<(F q).dp)).map λq=>(F q).sl
 |[]=>rfl
 |q::B=>by
  show(List.takeWhile _ (((F q).sl,(F q).dp)::ER F B)).map Prod.fst=_;rw[List.takeWhile_cons,List.takeWhile_cons];by_cases h:d<(F q).dp
  ·rw[At h];show _::List.map Prod.fst _=_::List.map _ _;rw[Rv B]
  ·rw[Aw h];rfl
end Go.Proofs.YtlkgekpmileobaaGreat.Tr
