/- Laws that the statement's proof leans on (joined out of several texts). -/
import Derived.Test.YtlkgekpmileobaaGreatGd5
set_option maxHeartbeats 4000000
set_option linter.unusedVariables false
set_option linter.unusedSimpArgs false
namespace Go.Proofs.YtlkgekpmileobaaGreat
open Tryz
open List(toArray)
open Go.RowKit
variable{n m b bs bt:Nat}{s t a:Ce}{D:SD}{c:CapT}{ls lq:List Ab}{α:Type}
theorem Wx{p:Prop}(h:p:=by
 by_cases hl:xs.length=ys.length
 ·refine gz ?_;refine CE (α:=Nat) (λk=>[(0,.slice a xs.length ca),(1,.slice a' ys.length ca'),(5,.int .i64 k)]) (λk=>l) (λk=>k<=xs.length/\ ∀j,j<k->xs[j]?=ys[j]?) (λk=>xs.length-k) 0 ⟨Bl _,λj h=>by omega⟩ ⟨rfl,rfl,rfl,trivial⟩ .refl ?_;rintro k ⟨hk2,hj⟩;by_cases hlt:k<xs.length
  ·obtain⟨b,off,cs,t,fz,rfl,hm,hc⟩:=h1 Af;obtain⟨b',off',cs',t',fz',rfl,hm',hc'⟩:=h2 Af;obtain⟨x,e1⟩: ∃x,xs[k]?=some x:=⟨_,Al hlt⟩
   obtain⟨y,e2⟩: ∃y,ys[k]?=some y:=⟨_,Al (show k<ys.length by omega)⟩
   obtain⟨g1,g2⟩:=hc k x e1;obtain⟨g1',g2'⟩:=hc' k y e2;refine gz ?_;refine Ch [] 9 _ ?_ (hR:=(λ_ h=>h));refine pz ?_;apply Ej
   ·exact Dn rfl hm g1 g2
   ·rfl
   ·rfl
   ·rfl
   refine pz ?_;apply Ej
   ·exact Dn rfl hm' g1' g2'
   ·rfl
   ·rfl
   ·rfl
   refine pz ?_;apply Ej
   ·exact QE rfl rfl (hk x) (hk y)
   ·rfl
   ·rfl
   ·rfl
   by_cases hxy:x=y
   ·rw[show(!BX (enc x) (enc y))=false by rw[hxy,Ge (hk y)];rfl];refine pz ?_;refine gz ?_;exact BV (k+1) ⟨Af,λj hjk=>by
     by_cases e:j=k
     ·subst e;rw[e1,e2,hxy]
     ·exact hj j Af⟩ Af ⟨rfl,rfl,rfl,trivial⟩ .refl
   ·rw[show(!BX (enc x) (enc y))=true by
     cases h:BX (enc x) (enc y) with
     |false=>rfl
     |true=>exact absurd (hin _ _ ((F9 (hk x) (hk y)).1 h)) hxy]
    refine pz ?_;refine gz ?_;refine A9 .refl ⟨?_,rfl⟩;rw[show decide (xs=ys)=false from Av λe=>by subst e;rw[e1] at e2;exact hxy (by cases e2;rfl)];rfl
  ·obtain rfl:k=xs.length:=by omega
   refine gz ?_;refine A9 .refl ⟨?_,rfl⟩;rw[show decide (xs=ys)=true from At (C9 λj=>by
    by_cases h:j<xs.length
    ·exact hj j h
    ·rw[Bc Af,Bc Af])];rfl
 ·refine gz ?_;refine A9 .refl ⟨?_,rfl⟩;rw[show decide (xs=ys)=false from Av λe=>hl (by rw[e])];rfl):p:=h
set_option maxRecDepth 20000
abbrev wJ:List (Option IntKind):=some .i64::some .i64::qq
instance:EQ prog 132 wJ:=⟨Bs⟩
theorem qy(h:Pe):AllK wJ (Nk h):=⟨_,_,rfl,⟨_,rfl⟩,_,_,rfl,⟨_,rfl⟩,Ec h.2⟩
theorem gT(x y:Pe)(h:Nk x=Nk y):x=y:=by have e: ∀z:Pe,Nk z=[.int .i64 z.1.1,.int .i64 z.1.2]++BW z.2:=λ_=>rfl;rw[e,e] at h;obtain⟨h1,h2⟩:=List.append_inj h rfl;simp only[Cc,Value.int.injEq,HF,IF] at h1;exact Gn (Gn h1.1 h1.2) (Wo _ _ h2)
set_option maxRecDepth 20000 in
theorem UY[DecidableEq α](enc:α->List Value)(hin: ∀x y,enc x=enc y->x=y)(hk: ∀x,AllK wJ (enc x))(v u:Value)(xs ys:List α)(l:List Ab)(h1:RowSl l v 10 enc xs)(h2:RowSl l u 10 enc ys)(hx:xs.length<=1000000):
 Fn prog 64 [v,u] l λr l'=>r= .bool (decide (xs=ys))/\l'=l:=by
 obtain⟨a,ca,rfl,h1⟩:=h1;obtain⟨a',ca',rfl,h2⟩:=h2;refine AM func64 ntmps64 λE=>?_;exact Wx
theorem UR(D:SD)(x:Int×List CapT):(LB Prod.fst D x).length=D.length+1:=(RN D x).length_eq
theorem RowSl.mono{l l':List Ab}{v:Value}{k:Nat}{enc:α->List Value}{xs:List α}(h:RowSl l v k enc xs)(hs: ∀c,c∈l->c∈l'):RowSl l' v k enc xs:=by
 obtain⟨a,cap,h1,h2⟩:=h;exact⟨a,cap,h1,λh0=>by obtain⟨b,off,cs,t,fz,k1,k2,k3⟩:=h2 h0;exact⟨b,off,cs,t,fz,k1,hs _ k2,k3⟩⟩
namespace Tr
variable{os B A X pre:List Nat}{p b m clock rb n q N r:Nat}{lq l' R:List Ab}{α:Type}{ro:Option Nat}
abbrev SlotT:=Int×Int
variable{es:List (GY SlotT)}{s a c:SlotT}
abbrev Co(s:SlotT):List Value:=[.int .i64 s.1,.int .i64 s.2]
theorem Mc:Og Co [some .i64,some .i64]:=⟨λa=>⟨_,_,rfl,⟨_,rfl⟩,_,_,rfl,⟨_,rfl⟩,rfl⟩,λa b h=>by simp only[Co,Cc,Value.int.injEq,HF,IF] at h;exact Gn h.1 h.2⟩
structure NdT where
 sl:SlotT
 dp:Int
 pv:Nat
 nx:Nat
variable{F F':Nat->NdT}
abbrev NdT.cells(x:NdT):List Value:=[.int .i64 x.sl.1,.int .i64 x.sl.2,.int .i64 x.dp,.pointer (some ⟨x.pv,0,none⟩),.pointer (some ⟨x.nx,0,none⟩)]
abbrev No(p:Nat)(x:NdT):Ab:=(p,.cells (toArray x.cells) 331 (0,0))
def Np(F:Nat->NdT)(all:List Nat):List Ab:=all.map λp=>No p (F p)
theorem Pf{all:List Nat}(h:p∈all):No p (F p)∈Np F all:=Au.2 ⟨p,h,rfl⟩
theorem PO{all:List Nat}(h: ∀p,p∈all->F p=F' p):Np F all=Np F' all:=Bw λp hp=>by rw[h p hp]
theorem KZ{all:List Nat}(x:NdT)(hn:all.Nodup)(hp:p∈all):Upd (Np F all) p (No p (F p)).2 (No p x).2 (Np (upd F p x) all):=by
 induction all with
 |nil=>cases hp
 |cons q all ih=>
  rw[AN] at hn;by_cases e:q=p
  ·subst e;have h1:Np (upd F q x) all=Np F all:=PO λr hr=>C7 _ _ _ _ λe=>hn.1 (e▸hr);show Upd (No q (F q)::Np F all) q _ _ (No q (upd F q x q)::Np (upd F q x) all);rw[Du,h1];exact .here
  ·rcases Ap.1 hp with h|h
   ·exact absurd h.symm e
   ·show Upd (No q (F q)::Np F all) p _ _ (No q (upd F p x q)::Np (upd F p x) all);rw[C7 _ _ _ _ e];exact .there (ih hn.2 h)
instance:EQ prog 61 [some .i64,some .i64]:=⟨Bs⟩
abbrev DT:=List (SlotT×Int)
variable{D:DT}
def mp(F:Nat->NdT):List Nat->Prop
 |[]=>True
 |[_]=>True
 |a::b::r=>(F a).nx=b/\(F b).pv=a/\mp F (b::r)
abbrev Kn(b rb m:Nat):Ab:=(b,.cells (toArray [.pointer (some ⟨rb,0,none⟩),.map (some m)]) 329 (0,0))
structure TB(b rb m:Nat)(F:Nat->NdT)(all os:List Nat)(es:List (GY SlotT))(clock:Nat)(lq:List Ab):Prop where
 eq:lq=Kn b rb m::(m,Hx Co es clock)::Np F all
 nd:all.Nodup
 rin:rb∈all
 sub: ∀p,p∈os->p∈all
 ond:(rb::os).Nodup
 adj:mp F (rb::(os++[rb]))
 snd:(os.map λp=>(F p).sl).Nodup
 keys:KeysOk es clock
 get: ∀s,Hl s es=(os.find? λp=>decide ((F p).sl=s)).map λp=> .pointer (some ⟨p,0,none⟩)
def E3(F:Nat->NdT)(os:List Nat):DT:=os.map λp=>((F p).sl,(F p).dp)
def IsT(b:Nat)(D:DT)(lq:List Ab):Prop:= ∃rb m F all os es clock,E3 F os=D/\TB b rb m F all os es clock lq
theorem TB.m1{all:List Nat}(h:TB b rb m F all os es clock lq):Kn b rb m∈lq:=by rw[h.eq];exact .head _
theorem TB.m2{all:List Nat}(h:TB b rb m F all os es clock lq):(m,Hx Co es clock)∈lq:=by rw[h.eq];exact .tail _ (.head _)
theorem TB.m3{all:List Nat}(h:TB b rb m F all os es clock lq)(hp:p∈all):No p (F p)∈lq:=by rw[h.eq];exact .tail _ (.tail _ (Pf hp))
def blk(F:Nat->NdT)(os:List Nat)(s:SlotT):Option Nat:=os.find? λp=>decide ((F p).sl=s)
theorem HM(h:blk F os s=some p):p∈os/\(F p).sl=s:=
 ⟨Bz h,by have:=DO h;simpa using this⟩
def Md:Option Nat->Value
 |some p=> .pointer (some ⟨p,0,none⟩)
 |none=> .pointer none
theorem of_any(b rb m:Nat)(F:Nat->NdT)(all os:List Nat)(es:List (GY SlotT))(clock:Nat)(lq:List Ab)(s:SlotT)(hT:TB b rb m F all os es clock lq)(l:List Ab)(hsub: ∀c,c∈lq->c∈l):
 Fn prog 248 [.pointer (some ⟨b,0,none⟩),.agg (toArray (Co s))] l λv l'=>v=Md (blk F os s)/\l'=l:=by
 have h1:=hsub _ hT.m1;have h2:=hsub _ hT.m2;have hg:(Hl s es).getD (.pointer none)=Md (blk F os s):=by rw[hT.get];unfold blk;cases os.find? λp=>decide ((F p).sl=s)<;>rfl
 refine AM func248 ntmps248 λE=>?_;refine gz ?_;refine AP (CK rfl) ?_;rintro _ _ ⟨b3,hb3,rfl,rfl⟩;refine gz ?_;refine Ch [] 7 _ ?_ (hR:=(λ_ h=>h));refine pz ?_;apply Ej
 ·apply bS (enc:=Co) (a:=s) (es:=es) (clock:=clock) (ks:=[some .i64,some .i64])
  ·rfl
  ·rfl
  ·exact Mc
  ·exact .tail _ h2
 ·rfl
 ·rfl
 ·rfl
 rw[hg];refine pz ?_;exact EA
theorem new_any(l:List Ab):Fn prog 180 [] l λv l'=> ∃b,v= .pointer (some ⟨b,0,none⟩)/\ ∃lq,IsT b [] lq/\l'=lq++l:=by refine AM func180 ntmps180 λE=>?_;refine gz ?_;refine AP (CK rfl) ?_;rintro _ _ ⟨rb,hrb,rfl,rfl⟩;refine gz ?_;refine AP NK ?_;rintro _ _ ⟨m,hm,rfl,rfl⟩;refine gz ?_;refine AP (CK rfl) ?_;rintro _ _ ⟨b,hb,rfl,rfl⟩;refine gz ?_;exact BA [] rfl .refl (by exact A8) ⟨b,rfl,[Kn b rb m,(m,.map #[] 0),No rb ⟨(0,0),0,rb,rb⟩],⟨rb,m,λ_=>⟨(0,0),0,rb,rb⟩,[rb],[],[],0,rfl,⟨rfl,by simp,by simp,by simp,by simp,⟨rfl,rfl,trivial⟩,by simp,⟨by simp,by simp,by simp⟩,λs=>rfl⟩⟩,rfl⟩
theorem Nq{F F':Nat->NdT}: ∀{L:List Nat},mp F L->(∀u,u∈L.dropLast->(F' u).nx=(F u).nx)->(∀v,v∈L.tail->(F' v).pv=(F v).pv)->mp F' L
 |[],_,_,_=>trivial
 |[_],_,_,_=>trivial
 |a::b::r,⟨h1,h2,h3⟩,hn,hp=>by
  refine⟨by rw[hn a (by simp[List.dropLast]),h1],by rw[hp b (by simp),h2],Nq h3 (λu hu=>hn u ?_) λv hv=>hp v ?_⟩
  ·simp only[Gp (Lr b r),Ap];exact .inr hu
  ·simp only[IC] at hv⊢;exact An _ hv
theorem OE{F F':Nat->NdT}{p n x:Nat}{Z:List Nat}: ∀{X:List Nat},mp F (X++p::n::Z)->(X++p::n::Z).dropLast.Nodup->(X++p::n::Z).tail.Nodup->x∉X++p::n::Z->
 (∀u,u≠x->u≠p->(F' u).nx=(F u).nx)->(∀v,v≠x->v≠n->(F' v).pv=(F v).pv)->(F' p).nx=x->(F' x).pv=p->(F' x).nx=n->(F' n).pv=x->mp F' (X++p::x::n::Z)
 |[],⟨h1,h2,h3⟩,hs,ht,hx,hn,hp,k1,k2,k3,k4=>by
  refine⟨k1,k2,k3,k4,Nq h3 (λu hu=>hn u ?_ ?_) λv hv=>hp v ?_ ?_⟩
  ·rintro rfl;exact hx (An _ (List.dropLast_subset _ hu))
  ·rintro rfl;have:(u::(n::Z).dropLast).Nodup:=by simpa using hs
   exact(AN.1 this).1 hu
  ·rintro rfl;exact hx (by simp only[Ag,Ap,IC] at hv⊢;exact .inr (.inr hv))
  ·rintro rfl;have:(v::Z).Nodup:=by simpa using ht
   exact(AN.1 this).1 hv
 |[a],⟨h1,h2,h3⟩,hs,ht,hx,hn,hp,k1,k2,k3,k4=>by
  have hs1:(a::(p::n::Z).dropLast).Nodup:=by simpa using hs
  have hs2:=AN.1 hs1;have ht1:(p::n::Z).Nodup:=by simpa using ht
  have ht2:=AN.1 ht1;refine⟨by rw[hn a (λe=>hx (by simp[e])) (λe=>hs2.1 (by rw[e];simp[List.dropLast]))];exact h1,by rw[hp p (λe=>hx (by simp[e])) (λe=>ht2.1 (by rw[e];simp))];exact h2,?_⟩;exact OE (X:=[]) h3 hs2.2 ht2.2 (λh=>hx (An _ h)) hn hp k1 k2 k3 k4
 |a::b::X,⟨h1,h2,h3⟩,hs,ht,hx,hn,hp,k1,k2,k3,k4=>by
  have hs1:(a::((b::X)++p::n::Z).dropLast).Nodup:=by have:((a::b::X)++p::n::Z).dropLast=a::((b::X)++p::n::Z).dropLast:=Gp (by simp);rwa [this] at hs
  have hs2:=AN.1 hs1;have ht1:(b::(X++p::n::Z)).Nodup:=ht;have ht2:=AN.1 ht1;have hpd:p∈((b::X)++p::n::Z).dropLast:=by rw[I8 (by simp)];exact Aa _ (by simp[List.dropLast])
  refine⟨by rw[hn a (λe=>hx (by simp[e])) (λe=>hs2.1 (by rw[e];exact hpd))];exact h1,by rw[hp b (λe=>hx (by simp[e])) (λe=>ht2.1 (by rw[e];simp))];exact h2,?_⟩;exact OE (X:=b::X) h3 hs2.2 ht2.2 (λh=>hx (An _ h)) hn hp k1 k2 k3 k4
theorem Me{F:Nat->NdT}{p n:Nat}{Z:List Nat}: ∀{X:List Nat},mp F (X++p::n::Z)->(F p).nx=n/\(F n).pv=p
 |[],⟨h1,h2,_⟩=>⟨h1,h2⟩
 |[a],⟨_,_,h⟩=>Me (X:=[]) h
 |a::b::X,⟨_,_,h⟩=>Me (X:=b::X) h
theorem Jw{l:List Ab}{o o':Obj}(h:Upd l b o o' l')(r:List Ab):Upd (l++r) b o o' (l'++r):=by
 induction h with
 |here=>exact .here
 |there _ ih=>exact .there ih
theorem Jx(h:blk F os s=none): ∀p,p∈os->(F p).sl≠s:=λp hp e=>by have:=By.1 h p hp;simp[e] at this
theorem Z3(b rb m:Nat)(F:Nat->NdT)(all os:List Nat)(es:List (GY SlotT))(clock:Nat)(lq:List Ab)(hT:TB b rb m F all os es clock lq)(X Y:List Nat)(p:Nat)(hX:rb::os=X++p::Y)(s:SlotT)(dp:Int)(hs:blk F os s=none)(G:List Ab):
 Fn prog 249 [.pointer (some ⟨b,0,none⟩),.pointer (some ⟨p,0,none⟩),.agg (toArray (Co s)),.int .i64 dp] (lq++G) λv l'=>v= .tuple #[]/\ ∃lq',IsT b ((E3 F os).take X.length++(s,dp)::(E3 F os).drop X.length) lq'/\l'=lq'++G:=by
 obtain⟨n,Z,hnZ⟩: ∃n Z,Y++[rb]=n::Z:=by cases Y with|nil=>exact⟨_,_,rfl⟩|cons y Y=>exact⟨_,_,rfl⟩
 have hL:rb::(os++[rb])=X++p::n::Z:=by rw[<-Ae,hX,Am,Ae,hnZ]
 have hadj:=hT.adj;rw[hL] at hadj;obtain⟨hpn,hnp⟩:=Me hadj;have hcyc: ∀q,q∈X++p::n::Z->q∈all:=λq hq=>by
  rw[<-hL] at hq;rcases Ap.1 hq with rfl|hq
  ·exact hT.rin
  ·rcases AE.1 hq with hq|hq
   ·exact hT.sub q hq
   ·rw[Ax.1 hq];exact hT.rin
 have hpa:p∈all:=hcyc p (by simp);have hna:n∈all:=hcyc n (by simp);refine AM func249 ntmps249 λE=>?_;refine gz ?_;refine AP (CK rfl) ?_;rintro _ _ ⟨b6,hb6,rfl,rfl⟩;have hEq:=hT.eq;have hmp:No p (F p)∈lq++G:=Ah _ (hT.m3 hpa);refine gz ?_;refine Ch [8] 10 _ ?_ (hR:=(λ_ h=>h));refine pz ?_;apply CM
 ·exact CK rfl
 ·rfl
 ·rfl
 ·rfl
 ·rintro _ _ ⟨x,_,_,rfl⟩ c hc;exact .tail _ hc
 rintro _ _ ⟨x,hx,rfl,rfl⟩;refine pz ?_;have hxa:x∉all:=λh=>hx _ (.tail _ (Ah _ (hT.m3 h))) rfl;rw[hpn];obtain⟨F1,hF1⟩: ∃F1,F1=upd F x ⟨s,dp,p,n⟩:=⟨_,rfl⟩
 have e1x:F1 x=⟨s,dp,p,n⟩:=by rw[hF1,Du]
 have e1o: ∀q,q≠x->F1 q=F q:=λq hq=>by rw[hF1,C7 _ _ _ _ hq]
 have hpx:p≠x:=λe=>hxa (e▸hpa);have hnx:n≠x:=λe=>hxa (e▸hna);have hnd1:(x::all).Nodup:=AN.2 ⟨hxa,hT.nd⟩;have hc1:Np F1 (x::all)=No x ⟨s,dp,p,n⟩::Np F all:=by show No x (F1 x)::Np F1 all=_;rw[e1x,PO (F:=F1) (F':=F) λq hq=>e1o q λe=>hxa (e▸hq)]
 refine JF (l':=Kn b rb m::(m,Hx Co es clock)::(Np F1 (x::all)++((b6,.cells (toArray (Co s)) 61 (0,0))::G))) (Keep.of_perm ?_) ?_
 ·rw[hEq,hc1];refine(AA [(x,_),(b6,_)] [Kn b rb m,(m,Hx Co es clock)] (Np F all++G)).trans ?_;refine List.Perm.cons _ (List.Perm.cons _ (List.Perm.cons _ ?_));exact(AH (l₁:=Np F all)).symm
 have hmx:No x (F1 x)∈Kn b rb m::(m,Hx Co es clock)::(Np F1 (x::all)++((b6,.cells (toArray (Co s)) 61 (0,0))::G)):= .tail _ (.tail _ (Ah _ (Pf (.head _))));rw[e1x] at hmx;refine gz ?_;refine Ch [12,15] 16 ([]) ?_;refine pz ?_;apply FM (S:=[No x ⟨s,dp,p,n⟩])
 ·exact DH rfl (.head _) rfl
 ·intro c hc;cases hc with
  |head=>exact hmx
  |tail _ h=>cases h
 ·rfl
 ·rfl
 ·rfl
 refine pz ?_;apply FM (S:=[No x ⟨s,dp,p,n⟩])
 ·exact DH rfl (.head _) rfl
 ·intro c hc;cases hc with
  |head=>exact hmx
  |tail _ h=>cases h
 ·rfl
 ·rfl
 ·rfl
 refine pz ?_;obtain⟨F2,hF2⟩: ∃F2,F2=upd F1 p {F1 p with nx:=x}:=⟨_,rfl⟩
 obtain⟨F3,hF3⟩: ∃F3,F3=upd F2 n {F2 n with pv:=x}:=⟨_,rfl⟩
 apply GW
 ·exact Dg (b:=p) (off:=4) (cs:=toArray (F1 p).cells) rfl rfl rfl (.there (.there (Jw (KZ {F1 p with nx:=x} hnd1 (An _ hpa)) _))) (by simp)
 ·rfl
 ·rfl
 ·intro _ _ _ c hc;cases hc
 ·exact λ_ _ _ x hx ha=>C3 Bs hx ha
 rintro _ _ ⟨rfl,rfl⟩;rw[<-hF2];refine pz ?_;apply GW
 ·exact Dg (b:=n) (off:=3) (cs:=toArray (F2 n).cells) rfl rfl rfl (.there (.there (Jw (KZ {F2 n with pv:=x} hnd1 (An _ hna)) _))) (by simp)
 ·rfl
 ·rfl
 ·intro _ _ _ c hc;cases hc
 ·exact λ_ _ _ x hx ha=>C3 Bs hx ha
 rintro _ _ ⟨rfl,rfl⟩;rw[<-hF3];refine pz ?_;have hm6:(b6,Obj.cells (toArray (Co s)) 61 (0,0))∈Np F3 (x::all)++((b6,.cells (toArray (Co s)) 61 (0,0))::G):=Aa _ (.head _);refine gz ?_;refine Ch [6] 7 ([Kn b rb m]) ?_;refine pz ?_;apply FM (S:=[(b6,.cells (toArray (Co s)) 61 (0,0))])
 ·exact HQ rfl (.head _) (by(repeat(first|with_reducible apply LSub.done|with_reducible apply LSub.take|with_reducible apply LSub.drop)))
 ·intro c hc;cases hc with
  |head=>exact .tail _ (.tail _ hm6)
  |tail _ h=>cases h
 ·rfl
 ·rfl
 ·rfl
 refine pz ?_;apply GW
 ·apply O2 (enc:=Co) (a:=s) (es:=es) (clock:=clock) (ks:=[some .i64,some .i64])
  ·rfl
  ·rfl
  ·rfl
  ·exact Mc
  ·exact DI
 ·rfl
 ·rfl
 ·rintro _ _ ⟨rfl,rfl⟩ c hc;cases hc with
  |head=>exact .head _
  |tail _ h=>cases h
 ·exact λ_ _ _ x hx ha=>C3 Bs hx ha
 rintro _ _ ⟨rfl,rfl⟩;refine pz ?_;refine gz ?_;obtain⟨A,hA,hos⟩: ∃A,X++[p]=rb::A/\os=A++Y:=by
  have h:rb::os=(X++[p])++Y:=by rw[hX];simp
  cases hXp:X++[p] with
  |nil=>simp at hXp
  |cons a A=>rw[hXp,Ae,Cc] at h;exact⟨A,by rw[h.1],h.2⟩
 have hAl:A.length=X.length:=by have:=BN List.length hA;simp at this;omega
 have e3: ∀q,(F3 q).sl=(F1 q).sl/\(F3 q).dp=(F1 q).dp:=λq=>by
  rw[hF3,hF2];unfold upd
  split<;>split<;>simp_all
 have e3n: ∀q,(F3 q).nx=if q=p then x else(F1 q).nx:=λq=>by
  rw[hF3,hF2];unfold upd
  split<;>split<;>simp_all
 have e3p: ∀q,(F3 q).pv=if q=n then x else(F1 q).pv:=λq=>by
  rw[hF3,hF2];unfold upd
  split<;>split<;>simp_all
 have hosa: ∀q,q∈os->q≠x:=λq hq e=>hxa (e▸hT.sub q hq);have eo: ∀q,q∈os->(F3 q).sl=(F q).sl/\(F3 q).dp=(F q).dp:=λq hq=>by rw[(e3 q).1,(e3 q).2,e1o q (hosa q hq)];exact⟨rfl,rfl⟩
 have ex:(F3 x).sl=s/\(F3 x).dp=dp:=by rw[(e3 x).1,(e3 x).2,e1x];exact⟨rfl,rfl⟩
 have hno:=Jx hs;obtain⟨lq',hlq'⟩: ∃lq',lq'=Kn b rb m::(m,Hx Co (KE s (.pointer (some ⟨x,0,none⟩)) clock es).1 (KE s (.pointer (some ⟨x,0,none⟩)) clock es).2)::Np F3 (x::all):=⟨_,rfl⟩
 refine A9 (l':=lq'++G) ?_ ⟨rfl,lq',⟨rb,m,F3,x::all,A++x::Y,_,_,?_,⟨hlq',hnd1,An _ hT.rin,λq hq=>?_,?_,?_,?_,hT.keys.set _ _,λs'=>?_⟩⟩,rfl⟩
 ·rw[hlq'];refine⟨[(b6,.cells (toArray (Co s)) 61 (0,0))],?_⟩;refine((List.Perm.cons _ (List.Perm.cons _ AH)).trans ?_);exact AA [_,_] [_] _
 ·unfold E3;rw[hos,Aq,AI,Aq,<-hAl];rw[Gj (by simp),HP (by simp),ex.1,ex.2];congr 1
  ·apply Bw;intro q hq;have:=eo q (by rw[hos];exact Ah _ hq);rw[this.1,this.2]
  ·congr 1;apply Bw;intro q hq;have:=eo q (by rw[hos];exact Aa _ hq);rw[this.1,this.2]
 ·rcases AE.1 hq with hq|hq
  ·exact An _ (hT.sub q (by rw[hos];exact Ah _ hq))
  ·rcases Ap.1 hq with rfl|hq
   ·exact .head _
   ·exact An _ (hT.sub q (by rw[hos];exact Aa _ hq))
 ·have hp2:(rb::(A++x::Y)).Perm (x::(rb::os)):=by
   rw[hos];exact(List.Perm.cons _ AH).trans (List.Perm.swap _ _ _)
  rw[hp2.nodup_iff,AN];refine⟨λh=>?_,hT.ond⟩;rcases Ap.1 h with h|h
  ·exact hxa (h▸hT.rin)
  ·exact hosa x h rfl
 ·have hL2:rb::((A++x::Y)++[rb])=X++p::x::n::Z:=by
   have:rb::((A++x::Y)++[rb])=(rb::A)++(x::(Y++[rb])):=by simp
   rw[this,<-hA,hnZ];simp
  rw[hL2];refine OE hadj ?_ ?_ (λh=>hxa (hcyc x h)) (λu h1 h2=>?_) (λv h1 h2=>?_) ?_ ?_ ?_ ?_
  ·rw[<-hL,<-Ae,List.dropLast_concat];exact hT.ond
  ·rw[<-hL,IC,Bu];have:=AN.1 hT.ond;exact⟨this.2,by simp,λa ha c hc e=>this.1 (by rw[Ax.1 hc] at e;rw[<-e];exact ha)⟩
  ·rw[e3n,Ac h2,e1o u h1]
  ·rw[e3p,Ac h2,e1o v h1]
  ·rw[e3n,Ad rfl]
  ·rw[e3p,Ac (λe=>hnx e.symm),e1x]
  ·rw[e3n,Ac (λe=>hpx e.symm),e1x]
  ·rw[e3p,Ad rfl]
 ·have hmp2:((A++x::Y).map λq=>(F3 q).sl).Perm (s::os.map λq=>(F q).sl):=by
   rw[hos,Aq,AI,Aq,ex.1];have h1:A.map (λq=>(F3 q).sl)=A.map (λq=>(F q).sl):=Bw λq hq=>(eo q (by rw[hos];exact Ah _ hq)).1;have h2:Y.map (λq=>(F3 q).sl)=Y.map (λq=>(F q).sl):=Bw λq hq=>(eo q (by rw[hos];exact Aa _ hq)).1;rw[h1,h2];exact AH
  rw[hmp2.nodup_iff,AN];exact⟨λh=>by obtain⟨q,hq,e⟩:=Au.1 h;exact hno q hq e,hT.snd⟩
 ·rw[Jv];have hfA: ∀B:List Nat,(∀q,q∈B->q∈os)->B.find? (λq=>decide ((F3 q).sl=s'))=B.find? (λq=>decide ((F q).sl=s')):=λB hB=>by
   induction B with
   |nil=>rfl
   |cons z B ih=>rw[BB,BB,(eo z (hB z Ak)).1,ih λq hq=>hB q (An _ hq)]
  rw[Dm,hfA A (λq hq=>by rw[hos];exact Ah _ hq),BB,ex.1];by_cases hss:s'=s
  ·rw[Ad hss,At hss.symm];have:A.find? (λq=>decide ((F q).sl=s'))=none:=By.2 λq hq=>by
    have:=hno q (by rw[hos];exact Ah _ hq);simpa[hss] using this
   rw[this];rfl
  ·rw[Ac hss,Av (λe=>hss e.symm),hT.get,hos,Dm,hfA Y (λq hq=>by rw[hos];exact Aa _ hq)]
section
variable{P:Program}{E:World}{ops:Array Oper}{Q:Exit->Act->World->Prop}{tbl:List (List Nat)}{sw:Sw}{sp:Fj}{pl:List BF}{o:Oper}{fr fr':Fr}{ds:List Deferred}{l:List Ab}{K:Value->List Ab->Prop}{v:Value}{i:Nat}{k:Bool}
theorem qz{d:Nat}(h:OpE P ro N fr l o K)(hw:P6 ops fr o.guard=some true)(hd:o.dst=some d)(hb:Nat.blt d N=true)(hR: ∀v l',K v l'->(∀c,c∈R->c∈l'))(hS: ∀v l',K v l'-> ∀x,x∈sp->Fl tbl i x.1=false-> ∀c,c∈x.2->c∈l')(hk: ∀v l',K v l'->PlanS P ro N E ops Q R tbl none sp pl ((d,v)::fr) ds l'):PlanS P ro N E ops Q R tbl none sp ((i,false,o)::pl) fr ds l:=by
 rcases Kf hw with⟨h1,_⟩|⟨j,b,oj,dj,b',h1,h2,h3,h4,h5⟩
 ·exact GC h h1 hd hb hR hS hk
 ·have:b'=b:=by simpa using h5
  subst this;exact .ge h h1 h2 h3 h4 (by rw[hd];exact hb) hR hS λv l' hkv=>by rw[hd];exact hk v l' hkv
end
theorem t7(h:q≠r):(!decide ((⟨q,0,none⟩:Addr)=⟨r,0,none⟩))=true:=by rw[Av (λe=>h (by injection e))];rfl
theorem t8(q:Nat):(!decide ((⟨q,0,none⟩:Addr)=⟨q,0,none⟩))=false:=by rw[At rfl];rfl
theorem TB.nxt{all:List Nat}(h:TB b rb m F all os es clock lq){Y:List Nat}(hX:rb::os=X++p::Y):(F p).nx=Y.headD rb:=by
 have hadj:=h.adj;rw[show rb::(os++[rb])=X++p::(Y++[rb]) by rw[<-Ae,hX,Am,Ae]] at hadj;cases Y with
 |nil=>exact(Me (Z:=[]) hadj).1
 |cons y Y=>exact(Me (Z:=Y++[rb]) hadj).1
theorem TB.prv{all:List Nat}(h:TB b rb m F all os es clock lq){Y:List Nat}(hX:rb::os=X++p::Y):(F (Y.headD rb)).pv=p:=by
 have hadj:=h.adj;rw[show rb::(os++[rb])=X++p::(Y++[rb]) by rw[<-Ae,hX,Am,Ae]] at hadj;cases Y with
 |nil=>exact(Me (Z:=[]) hadj).2
 |cons y Y=>exact(Me (Z:=Y++[rb]) hadj).2
def splitD(s:SlotT):DT->Option (DT×Int×DT)
 |[]=>none
 |x::r=>if x.1=s then some ([],x.2,r) else(splitD s r).map λy=>(x::y.1,y.2.1,y.2.2)
theorem Gy{F:Nat->NdT}{s:SlotT}: ∀{os:List Nat} {p:Nat},blk F os s=some p-> ∃A B,os=A++p::B/\splitD s (E3 F os)=some (E3 F A,(F p).dp,E3 F B)
 |[],_,h=>by cases h
 |q::os,p,h=>by
  unfold blk at h;rw[BB] at h;by_cases e:(F q).sl=s
  ·rw[At e] at h;cases h;exact⟨[],os,rfl,by show splitD s (((F q).sl,(F q).dp)::E3 F os)=_;unfold splitD;rw[Ad e];rfl⟩
  ·rw[Av e] at h;obtain⟨A,B,rfl,h2⟩:=Gy (os:=os) h;exact⟨q::A,B,rfl,by show splitD s (((F q).sl,(F q).dp)::E3 F _)=_;unfold splitD;rw[Ac e,h2];rfl⟩
theorem Jf{F:Nat->NdT}{s:SlotT}: ∀{os:List Nat},blk F os s=none->splitD s (E3 F os)=none
 |[],_=>rfl
 |q::os,h=>by
  unfold blk at h;rw[BB] at h;by_cases e:(F q).sl=s
  ·rw[At e] at h;cases h
  ·rw[Av e] at h;show splitD s (((F q).sl,(F q).dp)::E3 F os)=none;unfold splitD;rw[Ac e,Jf (os:=os) h];rfl
abbrev XC(B b:Nat):Ab:=(B,.cells #[.pointer (some ⟨b,0,none⟩)] 233 (0,0))
abbrev Wy(B p:Nat):Ab:=(B,.cells #[.pointer (some ⟨p,0,none⟩)] 326 (0,0))
theorem RY(b p:Nat)(l:List Ab):Fn prog 172 [.pointer (some ⟨b,0,none⟩),.pointer (some ⟨p,0,none⟩)] l λv l'=> ∃B1 B2,v= .func (.func 235) #[] #[.pointer (some ⟨B1,0,none⟩),.pointer (some ⟨B2,0,none⟩)]/\l'=Wy B1 p::XC B2 b::l:=by refine AM func172 ntmps172 λE=>?_;refine HC λb2=>?_;refine HC λb3=>?_;exact A9 .refl ⟨b3,b2,rfl,rfl⟩
def yA(F:Nat->NdT)(L:List Nat)(l:List Ab):Prop:= ∀q,q∈L-> ∃x:NdT,No q x∈l/\x.nx=(F q).nx
theorem Qa(B1 B2 b rb m p:Nat)(F:Nat->NdT)(all os:List Nat)(es:List (GY SlotT))(clock:Nat)(lq:List Ab)(hT:TB b rb m F all os es clock lq)(X Y:List Nat)(hX:rb::os=X++p::Y):
 Fa prog 235 [.pointer (some ⟨B1,0,none⟩),.pointer (some ⟨B2,0,none⟩)] (λq:Nat=>[.pointer (some ⟨q,0,none⟩)]) (λxs=>xs=Y) (λpre=>pre<+:Y)
  (λpre l=>Wy B1 p∈l/\XC B2 b∈l/\Kn b rb m∈l/\yA F (rb::os) l):=by
 refine⟨λr I Ix G0 hneed hY l G hG h0=>?_⟩;have hpc:p∈rb::os:=by rw[hX];simp
 obtain⟨n1,n2,n3,n4⟩:=hneed _ _ G hG h0;obtain⟨xp,hxp,hxn⟩:=n4 p hpc;refine AM func235 ntmps235 λE=>?_;refine gz ?_;rw[hxn,hT.nxt hX];refine gz ?_;refine CE (α:=List Nat×List Nat×List Ab) (λx=>[(0,.func (.yield r) #[] #[]),(1,.pointer (some ⟨B1,0,none⟩)),(2,.pointer (some ⟨B2,0,none⟩)),(4,.pointer (some ⟨x.2.1.headD rb,0,none⟩))]) (λx=>x.2.2++G) (λx=>x.1++x.2.1=Y/\I x.1 x.2.2) (λx=>x.2.1.length) ([],Y,l) ⟨rfl,h0⟩ ⟨rfl,rfl,rfl,rfl,trivial⟩ .refl ?_;rintro⟨pre,suf,l⟩ ⟨hps,hI⟩;simp only at hps hI⊢;obtain⟨n1,n2,n3,n4⟩:=hneed _ _ G hG hI;obtain⟨xr,hxr,hxrn⟩:=n4 rb Ak;cases suf with
 |nil=>rw[Bf] at hps;subst hps;simp only[List.headD_nil];refine gz ?_;refine Bb (ZQ rfl rfl AX hxr hxr) ?_;rw[t8];refine gz ?_;exact A9 .refl ⟨l,rfl,.inl ⟨_,rfl,hI⟩⟩
 |cons q suf=>
  have hX2:rb::os=(X++p::pre)++q::suf:=by rw[hX,<-hps];simp
  have hqc:q∈rb::os:=by rw[hX2];simp
  have hqr:q≠rb:=λe=>by
   have hnd:=hT.ond;cases X with
   |nil=>rw[Ag,Cc] at hX;rw[hX.2,<-hps,<-e] at hnd;simp at hnd
   |cons x X=>rw[Ae,Cc] at hX;rw[hX.2,<-hps,<-e] at hnd;simp at hnd
  obtain⟨xq,hxq,hxqn⟩:=n4 q hqc;simp only[HO];refine gz ?_;refine Bb (ZQ rfl rfl AX hxq hxr) ?_;rw[t7 hqr];refine gz ?_;have hsp:pre++[q]<+:Y:=⟨suf,by rw[<-hps];simp⟩
  refine AP (CQ rfl rfl (hY pre q l G hG hI hsp)) ?_;rintro v l' ⟨l1,rfl,⟨rfl,hI'⟩|⟨rfl,hx⟩⟩
  ·obtain⟨k1,k2,k3,k4⟩:=hneed _ _ G hG hI';obtain⟨xq2,hxq2,hxqn2⟩:=k4 q hqc;refine gz ?_;rw[hxqn2,hT.nxt hX2];refine gz ?_;exact BV (pre++[q],suf,l1) ⟨by rw[<-hps];simp,hI'⟩ (by simp) ⟨rfl,rfl,rfl,rfl,trivial⟩ .refl
  ·refine gz ?_;exact A9 .refl ⟨l1,rfl,.inr ⟨_,hsp,hx⟩⟩
theorem mq{P:α->Bool}{pre:List α}{y:α}{Y:List α}(h1:pre++[y]<+:Y)(h2:pre<+:Y.takeWhile P)(hy:P y=true):pre++[y]<+:Y.takeWhile P:=by obtain⟨r,rfl⟩:=h1;have hp: ∀x,x∈pre->P x=true:=λx hx=>AZ.1 (H0 (p:=P)) x (h2.subset hx);rw[Am,Gk hp];show pre++[y]<+:pre++List.takeWhile P (y::r);rw[GS hy];exact⟨r.takeWhile P,by simp⟩
theorem mu{P:α->Bool}{pre:List α}{y:α}{Y:List α}(h1:pre++[y]<+:Y)(h2:pre<+:Y.takeWhile P)(hy:P y=false):pre=Y.takeWhile P:=by obtain⟨r,rfl⟩:=h1;have hp: ∀x,x∈pre->P x=true:=λx hx=>AZ.1 (H0 (p:=P)) x (h2.subset hx);rw[Am,Gk hp];show pre=pre++List.takeWhile P (y::r);rw[E7 (by rw[hy];simp),Bf]
theorem qA{P:α->Bool}{Y:List α}(h2:Y<+:Y.takeWhile P):Y=Y.takeWhile P:=(h2.sublist.eq_of_length_le (DZ P).length_le)
theorem Keep.in_mid(A B C:List Ab):Keep (A++(B++C)) (B++(A++C)):=Keep.of_perm (AA A B C)
def yB(F:Nat->NdT)(L pre:List Nat)(l:List Ab):Prop:= ∀q,q∈L-> ∃x:NdT,No q x∈l/\x.nx=(F q).nx/\(q∉pre->x.dp=(F q).dp)
abbrev nV(x:SlotT×Int):List Value:=[.int .i64 x.1.1,.int .i64 x.1.2,.int .i64 x.2]
def ncs(D:DT):List Value:=D.flatMap nV
def scs(L:List SlotT):List Value:=L.flatMap Co
theorem gU(D:DT)(x:SlotT×Int):ncs (D++[x])=ncs D++nV x:=by simp[ncs]
theorem scs_snoc(D:List SlotT)(x:SlotT):scs (D++[x])=scs D++Co x:=by simp[scs]
theorem gV(F:Nat->NdT)(pre:List Nat)(y:Nat):E3 F (pre++[y])=E3 F pre++[((F y).sl,(F y).dp)]:=by simp[E3]
def belowD(D:DT)(s:SlotT):List SlotT:=match splitD s D with
 |none=>[]
 |some (_,d,B)=>(B.takeWhile λx=>decide (d<x.2)).map Prod.fst
theorem all_any(b:Nat)(D:DT)(lq:List Ab)(hq:IsT b D lq)(hn:D.length<=1000000)(l:List Ab)(hsub: ∀c,c∈lq->c∈l):
 Fn prog 117 [.pointer (some ⟨b,0,none⟩)] l λv l'=> ∃cs,OwnSl 130 3 v D.length (ncs D) cs/\l'=cs++l:=by
 obtain⟨rb,m,F,all,os,es,clock,rfl,hT⟩:=hq;have hnl:os.length<=1000000:=by simpa[E3] using hn
 have h1:=hsub _ hT.m1;have hnod: ∀q,q∈rb::os->No q (F q)∈l:=λq hq=>by
  rcases Ap.1 hq with rfl|hq
  ·exact hsub _ (hT.m3 hT.rin)
  ·exact hsub _ (hT.m3 (hT.sub q hq))
 refine AM func117 ntmps117 λE=>?_;refine HC λb3=>?_;refine AP (Da rfl rfl (RY _ _ _)) ?_;rintro v l' ⟨C1,C2,rfl,rfl⟩;refine gz ?_;refine C0 (α:=Nat) (ps:=[13]) (lb:=[.pointer (some ⟨C1,0,none⟩),.pointer (some ⟨C2,0,none⟩)]) rfl (Qa C1 C2 b rb m rb F all os es clock lq hT [] os rfl) (λ_=>rfl) rfl
  (λpre l=> ∃v cs,OwnSl 130 3 v pre.length (ncs (E3 F pre)) cs/\l=[Wy C1 rb,XC C2 b,(b3,.cells #[v] 45 (0,0))]++cs)
  (λc pre l=>False)
  _ l (λpre l2 X2 hX h=>by obtain⟨v,cs,_,rfl⟩:=h;exact⟨.head _,.tail _ (.head _),Aa _ (hX _ h1),λq hq=>⟨F q,Aa _ (hX _ (hnod q hq)),rfl⟩⟩) (by exact AS) ⟨_,[],OwnSl.nil _ _,rfl⟩ ?_ ?_ ?_
 ·rintro E r0 rec pre y l' T ⟨fn,tmps,Dd,rfl⟩ hT0 ⟨v,cs',hown,rfl⟩ hsp;have hy:y∈rb::os:=An _ (hsp.subset (by simp));have hyT:=hT0 _ (hnod y hy);have hpl:pre.length<=1000000:=by have:=hsp.length_le;simp at this;omega
  simp only[DG,Ae,Ag];refine gz ?_;refine Cy (.there (.there (.there (Fg _ _ _ _ _)))) ?_;generalize hX1:(r0,Obj.loop (Dz fn tmps _ _ _ Dd .busy none))::T=X1;have hyX:No y (F y)∈X1:=by rw[<-hX1];exact .tail _ hyT
  refine gz ?_;refine Ch [10,11,12] 13 ([]) ?_;refine pz ?_;apply FM (S:=[(b3,.cells #[v] 45 (0,0))])
  ·exact DH rfl (.head _) rfl
  ·intro c hc;cases hc with
   |head=>exact .tail _ (.tail _ (.head _))
   |tail _ h=>cases h
  ·rfl
  ·rfl
  ·rfl
  refine pz ?_;apply FM (S:=[No y (F y)])
  ·exact HQ rfl (.head _) (by(repeat(first|with_reducible apply LSub.done|with_reducible apply LSub.take|with_reducible apply LSub.drop)))
  ·intro c hc;cases hc with
   |head=>exact .tail _ (.tail _ (.tail _ (Aa _ hyX)))
   |tail _ h=>cases h
  ·rfl
  ·rfl
  ·rfl
  refine pz ?_;apply FM (S:=[No y (F y)])
  ·exact DH rfl (.head _) rfl
  ·intro c hc;cases hc with
   |head=>exact .tail _ (.tail _ (.tail _ (Aa _ hyX)))
   |tail _ h=>cases h
  ·rfl
  ·rfl
  ·rfl
  refine pz ?_;apply GC
  ·apply Fb (ws:=nV ((F y).sl,(F y).dp)) (k:=3)
   ·rfl
   ·rfl
   ·rfl
   ·decide
   ·decide
  ·rfl
  ·rfl
  ·rfl
  ·intro _ _ _ c hc;cases hc
  ·rintro _ _ ⟨bl,_,rfl,rfl⟩ x hx _ c hc;have h3: ∀o:Obj,(b3,o)∈(bl,Obj.cells (toArray (nV ((F y).sl,(F y).dp))) 130 (0,0))::Wy C1 rb::XC C2 b::(b3,o)::(cs'++X1):=λo=> .tail _ (.tail _ (.tail _ (.head _)));simp only[Ap,BQ,Eo] at hx;rcases hx with rfl|rfl|rfl<;>simp only[Ap,BQ,Eo] at hc<;>subst hc
   ·exact .tail _ (.tail _ (.tail _ (.tail _ (Aa _ hyX))))
   ·exact .tail _ (.tail _ (.tail _ (.tail _ (Aa _ hyX))))
   ·exact h3 _
  rintro _ _ ⟨bl,_,rfl,rfl⟩;refine pz ?_;apply GC
  ·apply GX (k:=3) (X:=[Wy C1 rb,XC C2 b,(b3,.cells #[v] 45 (0,0))]) (cs:=cs') (xs:=ncs (E3 F pre)) (n:=pre.length) (zs:=[.int .i64 0,.int .i64 0,.int .i64 0]) (ws:=nV ((F y).sl,(F y).dp))
   ·rfl
   ·rfl
   ·rfl
   ·exact hown
   ·rfl
   ·simp[Value.oneCell']
   ·omega
   ·decide
  ·rfl
  ·rfl
  ·rfl
  ·intro _ _ _ c hc;cases hc
  ·exact λ_ _ _ x hx ha=>C3 Bs hx ha
  rintro v' _ ⟨c2,ho2,rfl⟩;have hv1:v'.oneCell'=true:=ho2.one;simp only[Ae,Ag];apply GW
  ·apply F0 (cs:=[v])
   ·rfl
   ·rfl
   ·exact hv1
   ·exact BS
   ·exact .zero
   ·exact DI
  ·rfl
  ·rfl
  ·intro _ _ _ c hc;cases hc
  ·exact λ_ _ _ x hx ha=>C3 Bs hx ha
  rintro _ _ ⟨rfl,rfl⟩;refine pz ?_;refine gz ?_;rw[<-hX1];refine B0 _ (.refl) ⟨v',c2,?_,rfl⟩;rw[gV,gU,Ai];exact ho2
 ·rintro Dd xs l' rfl ⟨v,cs',hown,rfl⟩;have hv1:v.oneCell'=true:=hown.one;simp only[Ae,Ag];refine gz ?_;refine AW [Dd] (cs'++l) rfl (l':=cs'++l) (by exact AS) (by exact A8) .refl ?_;exact⟨cs',by rw[show(E3 F xs).length=xs.length by simp[E3]];exact hown,rfl⟩
 ·rintro Dd c pre l' hsp h;exact h.elim
theorem RZ{F:Nat->NdT}{d:Int}: ∀(B:List Nat),((E3 F B).takeWhile λx=>decide (d<x.2)).map Prod.fst=(B.takeWhile λq=>decide (d<(F q).dp)).map λq=>(F q).sl
 |[]=>rfl
 |q::B=>by
  show(List.takeWhile _ (((F q).sl,(F q).dp)::E3 F B)).map Prod.fst=_;rw[List.takeWhile_cons,List.takeWhile_cons];by_cases h:d<(F q).dp
  ·rw[At h];show _::List.map Prod.fst _=_::List.map _ _;rw[RZ B]
  ·rw[Av h];rfl
theorem CS{c:Ab}{l:List Ab}(h:c∈l): ∀x,x∈[c]->x∈l:=λx hx=>by rw[Ax.1 hx];exact h
abbrev Dh(B:Nat)(s:SlotT):Ab:=(B,.cells (toArray (Co s)) 61 (0,0))
def hasD(D:DT)(s:SlotT):Bool:=(splitD s D).isSome
def rootD(D:DT)(s:SlotT):Int×DT:=if hasD D s=true then(11,D) else(0,D++[(s,0)])
def childD(D:DT)(par s:SlotT):Int×DT:=match splitD par D with
 |none=>(10,D)
 |some (A,d,B)=>if hasD D s=true then(11,D) else(0,A++(par,d)::(s,d+1)::B)
theorem Mf:hasD (E3 F os) s=(blk F os s).isSome:=by
 unfold hasD;cases h:blk F os s with
 |none=>rw[Jf h];rfl
 |some p=>obtain⟨A,B,_,h2⟩:=Gy h;rw[h2];rfl
def SmallD(D:DT):Prop:= ∀x,x∈D-> -1000000<=x.2/\x.2<=1000000
theorem gW(p:Nat):(E3 F (A++p::B)).take (A.length+1)=E3 F A++[((F p).sl,(F p).dp)]:=by unfold E3;rw[Aq,AI,List.take_append,Bv (by simp)];simp
theorem gX(p:Nat):(E3 F (A++p::B)).drop (A.length+1)=E3 F B:=by unfold E3;rw[Aq,AI,I6,Dp (by simp)];simp
theorem root_any(b:Nat)(D:DT)(lq:List Ab)(hq:IsT b D lq)(s:SlotT)(G:List Ab):
 Fn prog 188 [.pointer (some ⟨b,0,none⟩),.agg (toArray (Co s))] (lq++G) λv l'=>v= .int .i64 (rootD D s).1/\ ∃lq',IsT b (rootD D s).2 lq'/\l'=lq'++G:=by
 obtain⟨rb,m,F,all,os,es,clock,rfl,hT⟩:=hq;refine AM func188 ntmps188 λE=>?_;refine gz ?_;refine AP (CK rfl) ?_;rintro _ _ ⟨b3,hb3,rfl,rfl⟩;refine Bk (Keep.of_perm (l':=lq++(Dh b3 s::G)) AH.symm) ?_;have hsub: ∀c,c∈lq->c∈lq++(Dh b3 s::G):=λc hc=>Ah _ hc;have hbm:Dh b3 s∈lq++(Dh b3 s::G):=Aa _ (.head _);refine gz ?_;refine Bb (AJ (R:=lq++(Dh b3 s::G)) rfl rfl λl2 hl2=>of_any b rb m F all os es clock lq s hT l2 λc hc=>hl2 c (hsub c hc)) ?_;cases hbk:blk F os s with
 |some p=>rw[show rootD (E3 F os) s=(11,E3 F os) by unfold rootD;rw[Mf,hbk];rfl];simp only[Md];refine gz ?_;exact A9 (l':=lq++G) (Keep.trans (.of_perm AH) (.drop .refl)) ⟨rfl,lq,⟨rb,m,F,all,os,es,clock,rfl,hT⟩,rfl⟩
 |none=>
  rw[show rootD (E3 F os) s=(0,E3 F os++[(s,0)]) by unfold rootD;rw[Mf,hbk];rfl];simp only[Md];obtain⟨X,p,hX⟩: ∃X p,rb::os=X++[p]:=⟨_,_,(Gq (Lr rb os)).symm⟩
  have hpv:(F rb).pv=p:=hT.prv (Y:=[]) hX;have hXl:X.length=os.length:=by have:=BN List.length hX;simp at this;omega
  refine gz ?_;refine Ch [9] 10 ([]) ?_;refine pz ?_;apply FM (S:=[Kn b rb m]);(·exact Tf);(·exact CS (hsub _ hT.m1));(·rfl);(·rfl);(·rfl);refine pz ?_;apply FM (S:=[No rb (F rb)]);(·exact Tf);(·exact CS (hsub _ (hT.m3 hT.rin)));(·rfl);(·rfl);(·rfl);refine pz ?_;rw[hpv];apply FM (S:=[Dh b3 s]);(·exact Tf);(·exact CS (hbm));(·rfl);(·rfl);(·rfl);refine pz ?_;apply GC
  ·exact Az rfl rfl (Z3 b rb m F all os es clock lq hT X [] p hX s 0 hbk (Dh b3 s::G))
  (·rfl);(·rfl);(·rfl);(·intro _ _ _ c hc;cases hc);(·exact λ_ _ _ x hx ha=>C3 Bs hx ha)
  rintro _ _ ⟨rfl,lq',hq',rfl⟩;refine pz ?_;refine gz ?_;refine A9 (l':=lq'++G) (Keep.trans (.of_perm AH) (.drop .refl)) ⟨rfl,lq',?_,rfl⟩;rw[hXl,Bv (by simp[E3]),Dp (by simp[E3])] at hq';exact hq'
theorem child_any(b:Nat)(D:DT)(lq:List Ab)(hq:IsT b D lq)(hd:SmallD D)(par s:SlotT)(G:List Ab):
 Fn prog 314 [.pointer (some ⟨b,0,none⟩),.agg (toArray (Co par)),.agg (toArray (Co s))] (lq++G) λv l'=>v= .int .i64 (childD D par s).1/\ ∃lq',IsT b (childD D par s).2 lq'/\l'=lq'++G:=by
 obtain⟨rb,m,F,all,os,es,clock,rfl,hT⟩:=hq;refine AM func314 ntmps314 λE=>?_;refine gz ?_;refine AP (CK rfl) ?_;rintro _ _ ⟨b4,hb4,rfl,rfl⟩;refine gz ?_;refine AP (CK rfl) ?_;rintro _ _ ⟨b5,hb5,rfl,rfl⟩;have hk2: ∀lq:List Ab,Keep (lq++(Dh b5 s::Dh b4 par::G)) (lq++G):=λlq=>Keep.trans (.of_perm (AA lq [Dh b5 s,Dh b4 par] G)) (.drop (.drop .refl));refine Bk (Keep.of_perm (l':=lq++(Dh b5 s::Dh b4 par::G)) (AA [Dh b5 s,Dh b4 par] lq G)) ?_;have hsub: ∀c,c∈lq->c∈lq++(Dh b5 s::Dh b4 par::G):=λc hc=>Ah _ hc;have hm4:Dh b4 par∈lq++(Dh b5 s::Dh b4 par::G):=Aa _ (.tail _ (.head _));have hm5:Dh b5 s∈lq++(Dh b5 s::Dh b4 par::G):=Aa _ (.head _);refine gz ?_;refine Bb (AJ (R:=lq++(Dh b5 s::Dh b4 par::G)) rfl rfl λl2 hl2=>of_any b rb m F all os es clock lq par hT l2 λc hc=>hl2 c (hsub c hc)) ?_;cases hbp:blk F os par with
 |none=>rw[show childD (E3 F os) par s=(10,E3 F os) by unfold childD;rw[Jf hbp]];simp only[Md];refine gz ?_;exact A9 (l':=lq++G) (hk2 lq) ⟨rfl,lq,⟨rb,m,F,all,os,es,clock,rfl,hT⟩,rfl⟩
 |some p=>
  simp only[Md];refine gz ?_;refine Bb (AJ (R:=lq++(Dh b5 s::Dh b4 par::G)) rfl rfl λl2 hl2=>of_any b rb m F all os es clock lq s hT l2 λc hc=>hl2 c (hsub c hc)) ?_;cases hbk:blk F os s with
  |some q=>rw[show childD (E3 F os) par s=(11,E3 F os) by unfold childD;obtain⟨A,B,_,h2⟩:=Gy hbp;rw[h2];simp only;rw[Mf,hbk];rfl];simp only[Md];refine gz ?_;exact A9 (l':=lq++G) (hk2 lq) ⟨rfl,lq,⟨rb,m,F,all,os,es,clock,rfl,hT⟩,rfl⟩
  |none=>
   obtain⟨A,B,hos,h2⟩:=Gy hbp;have hps:=(HM hbp).2;have hpo:=(HM hbp).1;rw[show childD (E3 F os) par s=(0,E3 F A++(par,(F p).dp)::(s,(F p).dp+1)::E3 F B) by unfold childD;rw[h2];simp only;rw[Mf,hbk];rfl];have hX:rb::os=(rb::A)++p::B:=by rw[hos];rfl
   have hr:=hd _ (Au.2 ⟨p,hpo,rfl⟩);simp only at hr;simp only[Md];refine gz ?_;refine Ch [8] 9 ([]) ?_;refine pz ?_;apply FM (S:=[Dh b5 s]);(·exact Tf);(·exact CS (hm5));(·rfl);(·rfl);(·rfl);refine pz ?_;apply FM (S:=[No p (F p)]);(·exact Tf);(·exact CS (hsub _ (hT.m3 (hT.sub p hpo))));(·rfl);(·rfl);(·rfl);refine pz ?_;apply GC
   ·exact Az rfl rfl (Z3 b rb m F all os es clock lq hT (rb::A) B p hX s _ hbk (Dh b5 s::Dh b4 par::G))
   (·rfl);(·rfl);(·rfl);(·intro _ _ _ c hc;cases hc);(·exact λ_ _ _ x hx ha=>C3 Bs hx ha)
   rintro _ _ ⟨rfl,lq',hq',rfl⟩;refine pz ?_;refine gz ?_;refine A9 (l':=lq'++G) (hk2 lq') ⟨rfl,lq',?_,rfl⟩;rw[Br,hos,gW,gX,hps] at hq';simpa using hq'
theorem Hp:blk F os s=none<-> ∀p,p∈os->(F p).sl≠s:=
 ⟨Jx,λh=>By.2 λq hq=>by simpa using h q hq⟩
theorem UZ:blk F (A++p::B) s=(blk F A s).or (if(F p).sl=s then some p else blk F B s):=by
 unfold blk;rw[Dm,BB];congr 1;by_cases h:(F p).sl=s
 ·rw[At h,Ad h]
 ·rw[Av h,Ac h]
theorem NS{F F':Nat->NdT}{s:SlotT}: ∀{os:List Nat},(∀q,q∈os->(F' q).sl=(F q).sl)->blk F' os s=blk F os s
 |[],_=>rfl
 |q::os,h=>by have ih:=NS (s:=s) (os:=os) λz hz=>h z (An _ hz);unfold blk at ih⊢;rw[BB,BB,h q Ak,ih]
theorem NT(h: ∀q,q∈os->(F' q).sl=(F q).sl/\(F' q).dp=(F q).dp):E3 F' os=E3 F os:=by unfold E3;exact Bw λq hq=>by rw[(h q hq).1,(h q hq).2]
theorem TB.uniq{all:List Nat}(h:TB b rb m F all (A++p::B) es clock lq):(∀q,q∈A->(F q).sl≠(F p).sl)/\(∀q,q∈B->(F q).sl≠(F p).sl):=by
 have hn:=h.snd;rw[Aq,AI] at hn;refine⟨λq hq e=>?_,λq hq e=>?_⟩
 ·exact(Bu.1 hn).2.2 _ (Au.2 ⟨q,hq,rfl⟩) _ Ak e
 ·exact(AN.1 (Bu.1 hn).2.1).1 (Au.2 ⟨q,hq,e⟩)
theorem TB.out{all:List Nat}(h:TB b rb m F all (A++p::B) es clock lq):p∉A/\p∉B/\rb∉A/\rb∉B/\p≠rb:=by have hn:=AN.1 h.ond;have h2:=Bu.1 hn.2;refine⟨λhp=>h2.2.2 p hp p Ak rfl,(AN.1 h2.2.1).1,λhr=>hn.1 (Ah _ hr),λhr=>hn.1 (Aa _ (.tail _ hr)),λe=>hn.1 (by rw[<-e];simp)⟩
def moveD(D:DT)(a c:SlotT):Int×DT:=match splitD a D with
 |none=>(10,D)
 |some (A,d,B)=>if hasD D c=true then(11,D) else(0,A++(c,d)::B)
def decW(d:Int)(B:DT):DT:=(B.takeWhile λx=>decide (d<x.2)).map (λx=>(x.1,x.2-1))++B.dropWhile λx=>decide (d<x.2)
def removeD(D:DT)(s:SlotT):Int×DT:=match splitD s D with
 |none=>(10,D)
 |some (A,d,B)=>(0,A++decW d B)
def Mg(F:Nat->NdT)(pre:List Nat):Nat->NdT:=λq=>if q∈pre then{F q with dp:=(F q).dp-1} else F q
theorem LC(h:q∉pre):Mg F pre q=F q:=Ac h
theorem cF{y:Nat}(h:y∉pre):upd (Mg F pre) y {F y with dp:=(F y).dp-1}=Mg F (pre++[y]):=by
 funext q;unfold upd Mg;by_cases e:q=y
 ·subst e;simp[h]
 ·simp[e]
theorem R2(F:Nat->NdT)(pre:List Nat)(q:Nat):(Mg F pre q).sl=(F q).sl/\(Mg F pre q).nx=(F q).nx/\(Mg F pre q).pv=(F q).pv:=by unfold Mg;split<;>exact⟨rfl,rfl,rfl⟩
theorem my{d:Int}(hn:B.Nodup):E3 (Mg F (B.takeWhile λq=>decide (d<(F q).dp))) B=decW d (E3 F B):=by
 have e1:(E3 F B).takeWhile (λx=>decide (d<x.2))=E3 F (B.takeWhile λq=>decide (d<(F q).dp)):=by unfold E3;rw[List.takeWhile_map];rfl
 have e2:(E3 F B).dropWhile (λx=>decide (d<x.2))=E3 F (B.dropWhile λq=>decide (d<(F q).dp)):=by unfold E3;rw[List.dropWhile_map];rfl
 unfold decW;rw[e1,e2];obtain⟨tw,htw⟩: ∃tw,tw=B.takeWhile λq=>decide (d<(F q).dp):=⟨_,rfl⟩
 obtain⟨dw,hdw⟩: ∃dw,dw=B.dropWhile λq=>decide (d<(F q).dp):=⟨_,rfl⟩
 have hB:B=tw++dw:=by rw[htw,hdw,BI]
 rw[<-htw,<-hdw,hB];unfold E3;rw[Aq,CJ];congr 1
 ·apply Bw;intro q hq;unfold Mg;rw[Ad hq];rfl
 ·apply Bw;intro q hq;rw[hB] at hn;rw[LC λh=>(Bu.1 hn).2.2 q h q hq rfl]
theorem OF{F F':Nat->NdT}{p x n:Nat}{Z:List Nat}: ∀{X:List Nat},mp F (X++p::x::n::Z)->(X++p::x::n::Z).dropLast.Nodup->(X++p::x::n::Z).tail.Nodup->
 (∀u,u≠p->(F' u).nx=(F u).nx)->(∀v,v≠n->(F' v).pv=(F v).pv)->(F' p).nx=n->(F' n).pv=p->mp F' (X++p::n::Z)
 |[],⟨h1,h2,h3,h4,h5⟩,hs,ht,hn,hp,k1,k2=>by
  refine⟨k1,k2,Nq h5 (λu hu=>hn u ?_) λv hv=>hp v ?_⟩
  ·rintro rfl;have:(u::x::(n::Z).dropLast).Nodup:=by simpa using hs
   exact(AN.1 this).1 (.tail _ hu)
  ·rintro rfl;have:(x::v::Z).Nodup:=by simpa using ht
   exact(AN.1 (AN.1 this).2).1 hv
 |[a],⟨h1,h2,h3⟩,hs,ht,hn,hp,k1,k2=>by
  have hs1:(a::(p::x::n::Z).dropLast).Nodup:=by simpa using hs
  have hs2:=AN.1 hs1;have ht1:(p::x::n::Z).Nodup:=by simpa using ht
  have ht2:=AN.1 ht1;refine⟨by rw[hn a (λe=>hs2.1 (by rw[e];simp[List.dropLast]))];exact h1,by rw[hp p (λe=>ht2.1 (by rw[e];simp))];exact h2,?_⟩;exact OF (X:=[]) h3 hs2.2 ht2.2 hn hp k1 k2
 |a::b::X,⟨h1,h2,h3⟩,hs,ht,hn,hp,k1,k2=>by
  have hs1:(a::((b::X)++p::x::n::Z).dropLast).Nodup:=by have:((a::b::X)++p::x::n::Z).dropLast=a::((b::X)++p::x::n::Z).dropLast:=Gp (by simp);rwa [this] at hs
  have hs2:=AN.1 hs1;have ht1:(b::(X++p::x::n::Z)).Nodup:=ht;have ht2:=AN.1 ht1;have hpd:p∈((b::X)++p::x::n::Z).dropLast:=by rw[I8 (by simp)];exact Aa _ (by simp[List.dropLast])
  refine⟨by rw[hn a (λe=>hs2.1 (by rw[e];exact hpd))];exact h1,by rw[hp b (λe=>ht2.1 (by rw[e];simp))];exact h2,?_⟩;exact OF (X:=b::X) h3 hs2.2 ht2.2 hn hp k1 k2
section
variable{P:Program}{fr:Fr}{d:Option Nat}{ty t t2:TypeId}{pos:String}{aft:Array Edge}{g:Option (Nat×Bool)}{x y:Operand}
theorem gY{p:Option Addr}{e:Nat}(hx:ev fr x=some (.pointer none))(hy:ev fr y=some (.pointer p))[c:PT P t e]:OpQ P ro N fr R ⟨d,.binOp .eql t x y t2,ty,pos,aft,g⟩ (.bool p.isNone):=BK rfl λρ l hρ _=>by simp only[execOp,hρ x _ hx,hρ y _ hy,AB,Js,Bj,binOp];unfold Op.equal Op.maxDepth Op.equalIn;rw[B9 (M1 c.out)];cases p<;>exact⟨rfl,rfl⟩
end
theorem ua(q:Nat):decide ((⟨q,0,none⟩:Addr)=⟨q,0,none⟩)=true:=At rfl
theorem ub(h:q≠r):decide ((⟨q,0,none⟩:Addr)=⟨r,0,none⟩)=false:=Av λe=>h (by injection e)
theorem Z4{κ:Type}[DecidableEq κ]{a:κ}{u:Value}{es:List (GY κ)}(hk:KeysOk es clock)(h:Hl a es=some u)(v:Value): ∃A e B,es=A++e::B/\e.1=a/\(∀x∈A,x.1≠a)/\(∀x∈A,x.2.2≠e.2.2)/\A++(e.1,v,e.2.2)::B=(KE a v clock es).1/\(KE a v clock es).2=clock:=by
 unfold Hl at h;cases hf:Ez a es 0 with
 |none=>rw[hf] at h;cases h
 |some p=>
  obtain⟨k,w⟩:=p;obtain⟨A,e,B,rfl,rfl,h1,h2,h3⟩:=G1 hf;have hm:(A++e::B).modify A.length (λx=>(x.1,v,x.2.2))=A++(e.1,v,e.2.2)::B:=GZ _ e B A;refine⟨A,e,B,rfl,h1,h3,λx hx e'=>?_,?_,?_⟩
  ·have hs:=hk.stamps;rw[Aq,AI] at hs;exact(Bu.1 hs).2.2 _ (Au.2 ⟨x,hx,rfl⟩) _ Ak e'
  ·unfold KE;rw[hf];exact hm.symm
  ·unfold KE;rw[hf]
def LD(a c:SlotT)(x:SlotT×Int):SlotT×Int:=if x.1=a then(c,x.2) else if x.1=c then(a,x.2) else x
def swapD(D:DT)(a c:SlotT):DT:=D.map (LD a c)
theorem cG(a:SlotT)(x:SlotT×Int):LD a a x=x:=by
 unfold LD;by_cases h:x.1=a
 ·rw[Ad h,<-h]
 ·rw[Ac h,Ac h]
def swf(a c s:SlotT):SlotT:=if s=a then c else if s=c then a else s
theorem swpS_fst(a c:SlotT)(x:SlotT×Int):(LD a c x).1=swf a c x.1:=by
 unfold LD swf;by_cases h:x.1=a
 ·rw[Ad h,Ad h]
 ·rw[Ac h,Ac h];by_cases h2:x.1=c
  ·rw[Ad h2,Ad h2]
  ·rw[Ac h2,Ac h2]
theorem swf_swf(a c s:SlotT):swf a c (swf a c s)=s:=by
 unfold swf;by_cases h:s=a
 ·rw[Ad h];by_cases h3:c=a
  ·rw[Ad h3,h,h3]
  ·rw[Ac h3,Ad rfl,h]
 ·rw[Ac h];by_cases h2:s=c
  ·rw[Ad h2,Ad rfl,h2]
  ·rw[Ac h2,Ac h,Ac h2]
theorem Wz{x y:SlotT×Int}(h:(LD a c x).1=(LD a c y).1):x.1=y.1:=by rw[swpS_fst,swpS_fst] at h;rw[<-swf_swf a c x.1,h,swf_swf]
theorem cH(a c:SlotT)(x:SlotT×Int):LD a c x=LD c a x:=by
 unfold LD;by_cases h:x.1=a
 ·by_cases h2:x.1=c
  ·rw[Ad h,Ad h2,<-h,<-h2]
  ·rw[Ad h,Ac h2,Ad h]
 ·rw[Ac h,Ac h]
theorem Ym(D:DT)(a c:SlotT):swapD D a c=swapD D c a:=Bw λx _=>cH a c x
theorem R3(ha: ∀q,q∈os->(F q).sl≠a)(hc: ∀q,q∈os->(F q).sl≠c):swapD (E3 F os) a c=E3 F os:=by
 unfold swapD E3;rw[CJ];exact Bw λq hq=>by show LD a c ((F q).sl,(F q).dp)=_;unfold LD;rw[Ac (ha q hq),Ac (hc q hq)]
theorem T3{all:List Nat}(hT:TB b rb m F all os es clock lq)(h1:blk F os a=some p)(h2:blk F os c=none):moveD (E3 F os) a c=(0,swapD (E3 F os) a c):=by
 unfold moveD;obtain⟨A,B,rfl,hs⟩:=Gy h1;have hps:=(HM h1).2;rw[hs];simp only;rw[Mf,h2];simp only[E8,Bi,CR];obtain⟨uA,uB⟩:=hT.uniq;rw[hps] at uA uB;have hno:=Jx h2;have e:swapD (E3 F (A++p::B)) a c=swapD (E3 F A) a c++LD a c ((F p).sl,(F p).dp)::swapD (E3 F B) a c:=by unfold swapD E3;rw[Aq,AI,Aq,AI]
 rw[e,R3 uA λq hq=>hno q (Ah _ hq),R3 uB λq hq=>hno q (Aa _ (.tail _ hq))];congr 3;unfold LD;rw[Ad hps]
def DepOk:Int->DT->Prop
 |_,[]=>True
 |e,x::r=>0<=x.2/\x.2<=e/\DepOk (x.2+1) r
theorem DepOk.mono: ∀{D:DT} {e f:Int},DepOk e D->e<=f->DepOk f D
 |[],_,_,_,_=>trivial
 |x::r,e,f,⟨h1,h2,h3⟩,h=>⟨h1,Af,h3⟩
theorem DepOk.bound: ∀{D:DT} {e:Int},DepOk e D-> ∀x,x∈D->0<=x.2/\x.2<=e+D.length
 |[],_,_,x,hx=>by cases hx
 |y::r,e,⟨h1,h2,h3⟩,x,hx=>by
  rw[Br];rcases Ap.1 hx with rfl|hx
  ·exact⟨h1,Af⟩
  ·have:=DepOk.bound h3 x hx;exact⟨this.1,Af⟩
def WA:Int->DT->Int
 |e,[]=>e
 |_,x::r=>WA (x.2+1) r
theorem DepOk.app: ∀{A B:DT} {e:Int},DepOk e (A++B)<->DepOk e A/\DepOk (WA e A) B
 |[],B,e=>⟨λh=>⟨trivial,h⟩,λh=>h.2⟩
 |x::A,B,e=>by show 0<=x.2/\x.2<=e/\DepOk (x.2+1) (A++B)<->(0<=x.2/\x.2<=e/\DepOk (x.2+1) A)/\DepOk (WA (x.2+1) A) B;rw[DepOk.app (A:=A)];exact⟨λ⟨h1,h2,h3,h4⟩=>⟨⟨h1,h2,h3⟩,h4⟩,λ⟨⟨h1,h2,h3⟩,h4⟩=>⟨h1,h2,h3,h4⟩⟩
theorem DepOk.last: ∀{A:DT} {e:Int},DepOk e A->0<=e->0<=WA e A
 |[],_,_,h=>h
 |x::A,e,⟨h1,_,h3⟩,_=>by show 0<=WA (x.2+1) A;exact DepOk.last h3 Af
theorem DepOk.dec{d:Int}(hd:0<=d): ∀{B:DT} {e f:Int},DepOk e B->e<=f+1->d<=f->DepOk f (decW d B)
 |[],_,_,_,_,_=>trivial
 |x::r,e,f,⟨h1,h2,h3⟩,he,hf=>by
  by_cases h:d<x.2
  ·have e1:decW d (x::r)=(x.1,x.2-1)::decW d r:=by
    unfold decW;rw[GS (by simpa using h),List.dropWhile_cons_of_pos (by simpa using h)];rfl
   rw[e1];refine⟨by simp only;omega,by simp only;omega,?_⟩;exact DepOk.dec hd h3 (by simp only;omega) (by simp only;omega)
  ·have e1:decW d (x::r)=x::r:=by
    unfold decW;rw[E7 (by simpa using h),GR (by simpa using h)];rfl
   rw[e1];exact⟨h1,Af,h3⟩
theorem decW_fst(d:Int)(B:DT):(decW d B).map Prod.fst=B.map Prod.fst:=by unfold decW;rw[Aq,CJ];have:(List.takeWhile (λx:SlotT×Int=>decide (d<x.2)) B).map (Prod.fst∘λx=>(x.1,x.2-1))=(List.takeWhile (λx:SlotT×Int=>decide (d<x.2)) B).map Prod.fst:=rfl;rw[this,<-Aq,BI]
theorem R4(d:Int)(B:DT):(decW d B).length=B.length:=by have:=BN List.length (decW_fst d B);simpa using this
structure GoodT(D:DT)(n:Nat):Prop where
 nd:(D.map Prod.fst).Nodup
 dep:DepOk 0 D
 len:D.length<=n
theorem GoodT.small(h:GoodT D n)(hn:n<=1000000):SmallD D:=λx hx=>by have:=h.dep.bound x hx;have:=h.len;omega
theorem splitD_some{s:SlotT}: ∀{D A B:DT} {d:Int},splitD s D=some (A,d,B)->D=A++(s,d)::B/\ ∀x,x∈A->x.1≠s
 |[],_,_,_,h=>by cases h
 |y::r,A,B,d,h=>by
  unfold splitD at h;by_cases e:y.1=s
  ·rw[Ad e] at h;cases h;refine⟨by rw[<-e];rfl,by simp⟩
  ·rw[Ac e] at h;cases h2:splitD s r with
   |none=>rw[h2] at h;cases h
   |some z=>
    rw[h2] at h;obtain⟨A',d',B'⟩:=z;cases h;obtain⟨rfl,h3⟩:=splitD_some h2;refine⟨rfl,λx hx=>?_⟩;rcases Ap.1 hx with rfl|hx
    ·exact e
    ·exact h3 x hx
theorem Nr{s:SlotT}: ∀{D:DT},splitD s D=none<-> ∀x,x∈D->x.1≠s
 |[]=>⟨λ_ x hx=>(by cases hx),λ_=>rfl⟩
 |y::r=>by
  unfold splitD;by_cases e:y.1=s
  ·rw[Ad e];exact⟨λh=>(by cases h),λh=>absurd e (h y Ak)⟩
  ·rw[Ac e];constructor
   ·intro h x hx;have h2:splitD s r=none:=by cases h2:splitD s r with|none=>rfl|some z=>rw[h2] at h;cases h
    rcases Ap.1 hx with rfl|hx
    ·exact e
    ·exact Nr.1 h2 x hx
   ·intro h;rw[Nr.2 λx hx=>h x (An _ hx)];rfl
theorem hasD_no:hasD D s=false<-> ∀x,x∈D->x.1≠s:=by unfold hasD;rw[<-Nr];cases splitD s D<;>simp
theorem hasD_yes:hasD D s=true<->s∈D.map Prod.fst:=by
 constructor
 ·intro h;unfold hasD at h;cases h2:splitD s D with
  |none=>rw[h2] at h;cases h
  |some z=>obtain⟨A,d,B⟩:=z;rw[(splitD_some h2).1];simp
 ·intro h;cases h2:hasD D s with
  |true=>rfl
  |false=>obtain⟨x,hx,rfl⟩:=Au.1 h;exact absurd rfl (hasD_no.1 h2 x hx)
theorem GoodT.mono(h:GoodT D n)(hm:n<=m):GoodT D m:=⟨h.nd,h.dep,BP h.len hm⟩
theorem GoodT.root(h:GoodT D n)(s:SlotT):GoodT (rootD D s).2 (n+1):=by
 unfold rootD;by_cases hs:hasD D s=true
 ·rw[Ad hs];exact h.mono Af
 ·rw[Ac hs];have hno:=hasD_no.1 (by simpa using hs);refine⟨?_,DepOk.app.2 ⟨h.dep,by simp only;omega,h.dep.last Af,trivial⟩,by have:=h.len;simp;omega⟩;rw[Aq,Bu];refine⟨h.nd,by simp,λa ha c hc e=>?_⟩;obtain⟨x,hx,rfl⟩:=Au.1 ha;exact hno x hx (by rw[e];simpa using hc)
theorem GoodT.child(h:GoodT D n)(p s:SlotT):GoodT (childD D p s).2 (n+1):=by
 unfold childD;cases h2:splitD p D with
 |none=>exact h.mono Af
 |some z=>
  obtain⟨A,d,B⟩:=z;simp only;by_cases hs:hasD D s=true
  ·rw[Ad hs];exact h.mono Af
  ·rw[Ac hs];have hno:=hasD_no.1 (by simpa using hs);obtain⟨rfl,hA⟩:=splitD_some h2;obtain⟨h3,h4,h5,h6⟩:=DepOk.app.1 h.dep;refine⟨?_,DepOk.app.2 ⟨h3,h4,h5,by simp only;omega,by simp only;omega,h6.mono (by simp only;omega)⟩,by have:=h.len;simp at this⊢;omega⟩;have hp:((A++(p,d)::(s,d+1)::B).map Prod.fst).Perm (s::(A++(p,d)::B).map Prod.fst):=by
    have:(A++(p,d)::(s,d+1)::B).Perm ((s,d+1)::(A++(p,d)::B)):=by
     have e:A++(p,d)::(s,d+1)::B=(A++[(p,d)])++(s,d+1)::B:=by simp
     have e2:A++(p,d)::B=(A++[(p,d)])++B:=by simp
     rw[e,e2];exact AH
    exact this.map _
   rw[hp.nodup_iff,AN];refine⟨λhm=>?_,h.nd⟩;obtain⟨x,hx,e⟩:=Au.1 hm;exact hno x hx e
theorem GoodT.remove(h:GoodT D n)(s:SlotT):GoodT (removeD D s).2 n:=by
 unfold removeD;cases h2:splitD s D with
 |none=>exact h
 |some z=>obtain⟨A,d,B⟩:=z;simp only;obtain⟨rfl,hA⟩:=splitD_some h2;obtain⟨h3,h4,h5,h6⟩:=DepOk.app.1 h.dep;refine⟨?_,DepOk.app.2 ⟨h3,h6.dec h4 (by simp only at h5⊢;omega) h5⟩,by have:=h.len;rw[Ai,R4];simp at this⊢;omega⟩;rw[Aq,decW_fst,<-Aq];exact h.nd.sublist ((FJ (DQ _ _) _).map _)
theorem GoodT.move(h:GoodT D n)(a c:SlotT):GoodT (moveD D a c).2 n:=by
 unfold moveD;cases h2:splitD a D with
 |none=>exact h
 |some z=>
  obtain⟨A,d,B⟩:=z;simp only;by_cases hs:hasD D c=true
  ·rw[Ad hs];exact h
  ·rw[Ac hs];have hno:=hasD_no.1 (by simpa using hs);obtain⟨rfl,hA⟩:=splitD_some h2;obtain⟨h3,h4,h5,h6⟩:=DepOk.app.1 h.dep;refine⟨?_,DepOk.app.2 ⟨h3,h4,h5,h6⟩,by have:=h.len;simp at this⊢;omega⟩;have hn:=h.nd;rw[Aq,AI] at hn⊢;have hn2:=AN.1 (AH.nodup_iff.1 hn);refine AH.nodup_iff.2 (AN.2 ⟨λhm=>?_,hn2.2⟩);rcases AE.1 hm with hm|hm
   ·obtain⟨x,hx,e⟩:=Au.1 hm;exact hno x (Ah _ hx) e
   ·obtain⟨x,hx,e⟩:=Au.1 hm;exact hno x (Aa _ (.tail _ hx)) e
theorem DepOk.map{f:SlotT×Int->SlotT×Int}(hf: ∀x,(f x).2=x.2): ∀{D:DT} {e:Int},DepOk e D->DepOk e (D.map f)
 |[],_,_=>trivial
 |x::r,e,⟨h1,h2,h3⟩=>by refine⟨by rw[hf];exact h1,by rw[hf];exact h2,?_⟩;rw[hf];exact DepOk.map hf h3
theorem gZ(a c:SlotT)(x:SlotT×Int):(LD a c x).2=x.2:=by unfold LD;split<;>(try split)<;>rfl
theorem GoodT.swap(h:GoodT D n)(a c:SlotT):GoodT (swapD D a c) n:=by refine⟨?_,h.dep.map (gZ a c),by unfold swapD;rw[A3];exact h.len⟩;unfold swapD;rw[CJ,DM,Cp];have hn:=h.nd;rw[DM,Cp] at hn;exact hn.imp λhne e=>hne (Wz e)
theorem GoodT.none:GoodT [] 0:=⟨by simp,trivial,by simp⟩
end Tr
variable{T:Tr.DT}
abbrev HS:=SD×Tr.DT
variable{H:HS}
def K0(c:CapT):Bool:=Fd c&&!decide (c.kind=0)
def FR(H:HS)(s:Ce)(c:CapT):Int×HS:=
 if Fi H.1 s=false then(3,H) else if K0 c=false then(5,H) else if(DJ H.1 s).kind≠0 then(11,H) else(0,(FS H.1 s c,(Tr.rootD H.2 s).2))
def Gz(H:HS)(p s:Ce)(c:CapT):Int×HS:=
 if Fi H.1 p=false\/Fi H.1 s=false then(3,H) else if K0 c=false then(5,H) else if(DJ H.1 p).kind=0 then(10,H) else if(DJ H.1 s).kind≠0 then(11,H) else(0,(FS H.1 s c,(Tr.childD H.2 p s).2))
def Oa(H:HS)(s:Ce)(c:CapT):Int×HS:=
 if Fi H.1 s=false then(3,H) else if(DJ H.1 s).kind=0 then(10,H) else if Ie (DJ H.1 s) c=false then(5,H) else(0,(FS H.1 s c,H.2))
def G7(H:HS)(a b:Ce):Int:=
 if Fi H.1 a=false\/Fi H.1 b=false then 3 else if(DJ H.1 a).kind=0 then 10 else if(DJ H.1 b).kind≠0 then 11 else 0
def Fs(H:HS)(a b:Ce)(r:CapT×Int):Int×HS:=if G7 H a b≠0 then(G7 H a b,H) else if r.2≠0 then(r.2,H) else Gz H a b r.1
def HN(H:HS)(a b:Ce):Int×HS:=if G7 H a b≠0 then(G7 H a b,H) else(0,(FS (FS H.1 a CA) b (DJ H.1 a),(Tr.moveD H.2 a b).2))
def Jy(H:HS)(a b:Ce):Int×HS:=if Fi H.1 a=false\/Fi H.1 b=false then(3,H) else(0,(FS (FS H.1 a (DJ H.1 b)) b (DJ H.1 a),Tr.swapD H.2 a b))
def DS(H:HS)(s:Ce):(CapT×Int)×HS:=if Fi H.1 s=false then((CA,3),H) else if(DJ H.1 s).kind=0 then((CA,10),H) else((DJ H.1 s,0),(FS H.1 s CA,(Tr.removeD H.2 s).2))
def Lf(H:HS)(s:Ce):Bool:=Fi H.1 s&&!decide ((DJ H.1 s).kind=0)&&(Dv H.1).all λx=>decide (x.1=s)||!Ie x.2 (DJ H.1 s)
structure InvH(H:HS)(n:Nat):Prop where
 tree:Tr.GoodT H.2 n
 asc:H.1.Pairwise λx y=>x.1<y.1
 val: ∀x,x∈H.1-> ∀c,c∈x.2->Fd c=true/\IM c
 link: ∀s,Tr.hasD H.2 s=true<->Fi H.1 s=true/\(DJ H.1 s).kind≠0
 len:H.1.length<=n+3
theorem K3:Fd CA=true/\IM CA:=⟨rfl,by decide,by decide⟩
theorem InvH.at(h:InvH H n)(s:Ce):Fd (DJ H.1 s)=true/\IM (DJ H.1 s):=by
 unfold DJ
 split
 ·rename_i x hx;have hm:=(ED hx).1;rw[Bd];cases hk:x.2[s.2.toNat]? with
  |none=>exact K3
  |some c=>exact h.val x hm c (A6 hk)
 ·exact K3
theorem InvH.mono(h:InvH H n)(hm:n<=m):InvH H m:=⟨h.tree.mono hm,h.asc,h.val,h.link,BP h.len Af⟩
theorem U0(h:D.Pairwise λx y=>x.1<y.1)(s:Ce)(c:CapT):(FS D s c).Pairwise λx y=>x.1<y.1:=by
 have e:(FS D s c).map Prod.fst=D.map Prod.fst:=by
  unfold FS;rw[CJ];apply Bw;intro x _;show(if x.1=s.1 then(x.1,x.2.set s.2.toNat c) else x).1=x.1
  split<;>rfl
 have h2:(D.map Prod.fst).Pairwise (· < ·):=Cp.2 h;rw[<-e] at h2;exact Cp.1 h2
theorem U1(h: ∀x,x∈D-> ∀c,c∈x.2->Fd c=true/\IM c)(s:Ce)(hc:Fd c=true/\IM c): ∀x,x∈FS D s c-> ∀d,d∈x.2->Fd d=true/\IM d:=by
 intro x hx y hy;obtain⟨z,hz,rfl⟩:=Au.1 hx
 split at hy
 ·rcases CC hy with hy|rfl
  ·exact h z hz y hy
  ·exact hc
 ·exact h z hz y hy
theorem U2(D:SD)(s:Ce)(c:CapT):(FS D s c).length=D.length:=by simp[FS]
theorem pc(h:Fi D s=true):0<=s.2:=by unfold Fi at h;rw[AR,Bg] at h;exact h.1
theorem NU(hs:Fi D s=true)(ht:Fi D t=true):DJ (FS D s c) t=if t=s then c else DJ D t:=by
 by_cases h:t=s
 ·rw[Ad h,h,qx hs]
 ·rw[Ac h,cE (pc hs) (pc ht) h]
theorem Ko(h:Fi D s=true)(hc:Fd c=true):setD D s c=(0,FS D s c):=by unfold setD;rw[Ad h,Ad hc]
theorem InvH.put(h:InvH H n)(hm:n<=m)(hs:Fi H.1 s=true)(hc:Fd c=true/\IM c)(hT:Tr.GoodT T m)(hl: ∀t,Tr.hasD T t=true<->Fi H.1 t=true/\(if t=s then c else DJ H.1 t).kind≠0):InvH (FS H.1 s c,T) m:=
 ⟨hT,U0 h.asc s c,U1 h.val s hc,λt=>by
   rw[hl t,Nn];constructor
   ·rintro⟨h1,h2⟩;exact⟨h1,by rw[NU hs h1];exact h2⟩
   ·rintro⟨h1,h2⟩;exact⟨h1,by rw[NU hs h1] at h2;exact h2⟩,by rw[U2];have:=h.len;omega⟩
theorem InvH.put2(h:InvH H n)(hm:n<=m){u:Ce}{d:CapT}(hs:Fi H.1 s=true)(hu:Fi H.1 u=true)(hc:Fd c=true/\IM c)(hd:Fd d=true/\IM d)(hT:Tr.GoodT T m)(hl: ∀t,Tr.hasD T t=true<->Fi H.1 t=true/\(if t=u then d else if t=s then c else DJ H.1 t).kind≠0):InvH (FS (FS H.1 s c) u d,T) m:=
 ⟨hT,U0 (U0 h.asc s c) u d,U1 (U1 h.val s hc) u hd,λt=>by
   have hu':Fi (FS H.1 s c) u=true:=by rw[Nn];exact hu
   rw[hl t,Nn,Nn];constructor
   ·rintro⟨h1,h2⟩;exact⟨h1,by rw[NU hu' (by rw[Nn];exact h1),NU hs h1];exact h2⟩
   ·rintro⟨h1,h2⟩;exact⟨h1,by rw[NU hu' (by rw[Nn];exact h1),NU hs h1] at h2;exact h2⟩,by rw[U2,U2];have:=h.len;omega⟩
theorem ia(h:K0 c=true):Fd c=true/\c.kind≠0:=by unfold K0 at h;rw[AR] at h;exact⟨h.1,by simpa using h.2⟩
theorem Jn{D:Tr.DT}:Tr.hasD D s=true<->s∈D.map Prod.fst:=Tr.hasD_yes
theorem WB{D:Tr.DT}(h:Tr.hasD D s=false):(Tr.rootD D s).1=0/\(Tr.hasD (Tr.rootD D s).2 t=true<->t=s\/Tr.hasD D t=true):=by
 have e:Tr.rootD D s=(0,D++[(s,0)]):=by unfold Tr.rootD;rw[h];rfl
 rw[e];refine⟨rfl,?_⟩;rw[Jn,Jn];simp only[Aq,AI,CI,AE,Ax];exact Or.comm
theorem T4{D:Tr.DT}{p:Ce}(hp:Tr.hasD D p=true)(h:Tr.hasD D s=false):(Tr.childD D p s).1=0/\(Tr.hasD (Tr.childD D p s).2 t=true<->t=s\/Tr.hasD D t=true):=by
 unfold Tr.hasD at hp;cases h2:Tr.splitD p D with
 |none=>rw[h2] at hp;cases hp
 |some z=>
  obtain⟨A,d,B⟩:=z;have e:Tr.childD D p s=(0,A++(p,d)::(s,d+1)::B):=by unfold Tr.childD;rw[h2];simp only;rw[Ac (by rw[h];decide)]
  rw[e];refine⟨rfl,?_⟩;have hD:=(Tr.splitD_some h2).1;rw[Jn,Jn,hD];simp only[Aq,AI,AE,Ap];constructor
  ·rintro(h|h|h|h)
   ·exact .inr (.inl h)
   ·exact .inr (.inr (.inl h))
   ·exact .inl h
   ·exact .inr (.inr (.inr h))
  ·rintro(h|h|h|h)
   ·exact .inr (.inr (.inl h))
   ·exact .inl h
   ·exact .inr (.inl h)
   ·exact .inr (.inr (.inr h))
theorem ib{A B:List Ce}(h:(A++s::B).Nodup):t∈A++B<->t∈A++s::B/\t≠s:=by
 have h1:=AN.1 (AH.nodup_iff.1 h);constructor
 ·intro ht;refine⟨AH.symm.mem_iff.1 (.tail _ ht),λe=>h1.1 (e▸ht)⟩
 ·rintro⟨h2,h3⟩;rcases Ap.1 (AH.mem_iff.1 h2) with h4|h4
  ·exact absurd h4 h3
  ·exact h4
theorem Yn{D:Tr.DT}(hg:Tr.GoodT D n)(h:Tr.hasD D s=true):(Tr.removeD D s).1=0/\(Tr.hasD (Tr.removeD D s).2 t=true<->Tr.hasD D t=true/\t≠s):=by
 unfold Tr.hasD at h;cases h2:Tr.splitD s D with
 |none=>rw[h2] at h;cases h
 |some z=>
  obtain⟨A,d,B⟩:=z;have e:Tr.removeD D s=(0,A++Tr.decW d B):=by unfold Tr.removeD;rw[h2]
  rw[e];refine⟨rfl,?_⟩;have hD:=(Tr.splitD_some h2).1;have hn:=hg.nd;rw[Jn,Jn];rw[hD] at hn⊢;rw[Aq,AI] at hn;rw[Aq,Aq,AI,Tr.decW_fst];exact ib hn
theorem WC{D:Tr.DT}(hg:Tr.GoodT D n){b:Ce}(ha:Tr.hasD D a=true)(hb:Tr.hasD D b=false):(Tr.moveD D a b).1=0/\(Tr.hasD (Tr.moveD D a b).2 t=true<->t=b\/(Tr.hasD D t=true/\t≠a)):=by
 unfold Tr.hasD at ha;cases h2:Tr.splitD a D with
 |none=>rw[h2] at ha;cases ha
 |some z=>
  obtain⟨A,d,B⟩:=z;have e:Tr.moveD D a b=(0,A++(b,d)::B):=by unfold Tr.moveD;rw[h2];simp only;rw[Ac (by rw[hb];decide)]
  rw[e];refine⟨rfl,?_⟩;have hD:=(Tr.splitD_some h2).1;have hn:=hg.nd;rw[Jn,Jn];rw[hD] at hn⊢;rw[Aq,AI] at hn;rw[Aq,Aq,AI,AI,<-ib hn,AH.mem_iff,Ap]
theorem ic(D:Tr.DT)(a b t:Ce):Tr.hasD (Tr.swapD D a b) t=Tr.hasD D (Tr.swf a b t):=by
 rw[JD,Jn,Jn];unfold Tr.swapD;rw[CJ];simp only[Au,Function.comp_apply,Tr.swpS_fst];constructor
 ·rintro⟨x,hx,rfl⟩;exact⟨x,hx,(Tr.swf_swf a b x.1).symm⟩
 ·rintro⟨x,hx,he⟩;exact⟨x,hx,by rw[he,Tr.swf_swf]⟩
theorem InvH.no(h:InvH H n)(hk:(DJ H.1 s).kind=0):Tr.hasD H.2 s=false:=by
 cases e:Tr.hasD H.2 s with
 |false=>rfl
 |true=>exact absurd hk ((h.link s).1 e).2
theorem InvH.root(h:InvH H n)(s:Ce)(c:CapT)(hw:IM c):InvH (FR H s c).2 (n+1):=by
 unfold FR;by_cases h1:Fi H.1 s=false
 ·rw[Ad h1];exact h.mono Af
 rw[Ac h1];by_cases h2:K0 c=false
 ·rw[Ad h2];exact h.mono Af
 rw[Ac h2];by_cases h3:(DJ H.1 s).kind≠0
 ·rw[Ad h3];exact h.mono Af
 rw[Ac h3];obtain⟨c1,c2⟩:=ia (by simpa using h2);have hok:Fi H.1 s=true:=by simpa using h1
 refine h.put Af hok ⟨c1,hw⟩ (h.tree.root s) λt=>?_;rw[(WB (h.no (by simpa using h3))).2,h.link];by_cases e:t=s
 ·subst e;simp[hok,c2]
 ·simp[e]
theorem InvH.child(h:InvH H n)(p s:Ce)(c:CapT)(hw:IM c):InvH (Gz H p s c).2 (n+1):=by
 unfold Gz;by_cases h1:Fi H.1 p=false\/Fi H.1 s=false
 ·rw[Ad h1];exact h.mono Af
 rw[Ac h1];by_cases h2:K0 c=false
 ·rw[Ad h2];exact h.mono Af
 rw[Ac h2];by_cases h3:(DJ H.1 p).kind=0
 ·rw[Ad h3];exact h.mono Af
 rw[Ac h3];by_cases h4:(DJ H.1 s).kind≠0
 ·rw[Ad h4];exact h.mono Af
 rw[Ac h4];obtain⟨c1,c2⟩:=ia (by simpa using h2);have hok:Fi H.1 s=true:=by cases e:Fi H.1 s<;>simp_all
 have hokp:Fi H.1 p=true:=by cases e:Fi H.1 p<;>simp_all
 refine h.put Af hok ⟨c1,hw⟩ (h.tree.child p s) λt=>?_;rw[(T4 ((h.link p).2 ⟨hokp,h3⟩) (h.no (by simpa using h4))).2,h.link];by_cases e:t=s
 ·subst e;simp[hok,c2]
 ·simp[e]
theorem InvH.set(h:InvH H n)(s:Ce)(c:CapT)(hw:IM c):InvH (Oa H s c).2 n:=by
 unfold Oa;by_cases h1:Fi H.1 s=false
 ·rw[Ad h1];exact h
 rw[Ac h1];by_cases h2:(DJ H.1 s).kind=0
 ·rw[Ad h2];exact h
 rw[Ac h2];by_cases h3:Ie (DJ H.1 s) c=false
 ·rw[Ad h3];exact h
 rw[Ac h3];have h3':Ie (DJ H.1 s) c=true:=by simpa using h3
 unfold Ie at h3';simp only[AR,DC,Bg,Ef] at h3';obtain⟨⟨⟨⟨a1,a2⟩,a3⟩,a4⟩,a5⟩:=h3';refine h.put (A7 _) (by simpa using h1) ⟨a2,hw⟩ h.tree λt=>?_;rw[h.link];by_cases e:t=s
 ·subst e;simp[h2,<-a4]
 ·simp[e]
theorem qB{b:Ce}(h:G7 H a b=0):Fi H.1 a=true/\Fi H.1 b=true/\(DJ H.1 a).kind≠0/\(DJ H.1 b).kind=0:=by
 unfold G7 at h
 split at h
 ·cases h
 rename_i h1
 split at h
 ·cases h
 rename_i h2
 split at h
 ·cases h
 rename_i h3;exact⟨by cases e:Fi H.1 a<;>simp_all,by cases e:Fi H.1 b<;>simp_all,h2,by simpa using h3⟩
theorem InvH.der(h:InvH H n)(a b:Ce)(r:CapT×Int)(hw:IM r.1):InvH (Fs H a b r).2 (n+1):=by
 unfold Fs
 split
 ·exact h.mono Af
 split
 ·exact h.mono Af
 ·exact h.child a b _ hw
theorem InvH.move(h:InvH H n)(a b:Ce):InvH (HN H a b).2 n:=by
 unfold HN;by_cases h0:G7 H a b=0
 ·rw[Ac (by simpa using h0)];obtain⟨h1,h2,h3,h4⟩:=qB h0;have hne:a≠b:=λe=>h3 (e▸h4);refine h.put2 (A7 _) h1 h2 K3 (h.at a) (h.tree.move a b) λt=>?_;rw[(WC h.tree ((h.link a).2 ⟨h1,h3⟩) (h.no h4)).2,h.link];by_cases e:t=b
  ·subst e;simp[h2,h3]
  ·by_cases e2:t=a
   ·subst e2;simp[e]
   ·simp[e,e2]
 ·rw[Ad h0];exact h
theorem InvH.swap(h:InvH H n)(a b:Ce):InvH (Jy H a b).2 n:=by
 unfold Jy;by_cases h1:Fi H.1 a=false\/Fi H.1 b=false
 ·rw[Ad h1];exact h
 rw[Ac h1];have ha:Fi H.1 a=true:=by cases e:Fi H.1 a<;>simp_all
 have hb:Fi H.1 b=true:=by cases e:Fi H.1 b<;>simp_all
 refine h.put2 (A7 _) ha hb (h.at b) (h.at a) (h.tree.swap a b) λt=>?_;rw[ic,h.link];unfold Tr.swf;by_cases e:t=a
 ·by_cases e2:t=b
  ·subst e;subst e2;simp
  ·subst e;simp[e2,ha,hb]
 ·by_cases e2:t=b
  ·subst e2;simp[e,ha,hb]
  ·simp[e,e2]
theorem InvH.clear(h:InvH H n)(s:Ce):InvH (DS H s).2 n:=by
 unfold DS;by_cases h1:Fi H.1 s=false
 ·rw[Ad h1];exact h
 rw[Ac h1];by_cases h2:(DJ H.1 s).kind=0
 ·rw[Ad h2];exact h
 rw[Ac h2];have hok:Fi H.1 s=true:=by simpa using h1
 refine h.put (A7 _) hok K3 (h.tree.remove s) λt=>?_;rw[(Yn h.tree ((h.link s).2 ⟨hok,h2⟩)).2,h.link];by_cases e:t=s
 ·subst e;simp
 ·simp[e]
theorem ie(h:D.Pairwise λx y=>x.1<y.1){x:Int×List CapT}(hn:DP Prod.fst D x.1=none)(a:Int):DP Prod.fst (LB Prod.fst D x) a=if a=x.1 then some x else DP Prod.fst D a:=by
 have ha:=QM (key:=Prod.fst) h hn;by_cases e:a=x.1
 ·rw[Ad e,e];exact Yl ha (NR.2 (.inl rfl))
 ·rw[Ac e];cases hf:DP Prod.fst D a with
  |none=>
   refine FN.2 λy hy=>?_;rcases NR.1 hy with rfl|hy
   ·exact λe2=>e e2.symm
   ·exact FN.1 hf y hy
  |some y=>obtain⟨h1,h2⟩:=ED hf;rw[<-h2];exact Yl ha (NR.2 (.inr h1))
theorem InvH.add(h:InvH H n)(id k:Int):InvH ((GI H.1 id k).2,H.2) (n+1):=by
 unfold GI
 split
 ·exact h.mono Af
 split
 ·exact h.mono Af
 rename_i h1 h2;have hn:DP Prod.fst H.1 id=none:=by cases e:DP Prod.fst H.1 id<;>simp_all
 have hf:=ie h.asc (x:=(id,List.replicate k.toNat CA)) hn;refine⟨h.tree.mono Af,QM h.asc hn,λx hx c hc=>?_,λs=>?_,?_⟩
 ·rcases NR.1 hx with rfl|hx
  ·rw[D1 hc];exact K3
  ·exact h.val x hx c hc
 ·rw[h.link];have e1:IY H.1 id=0:=by unfold IY;rw[hn]
  unfold Fi IY DJ;simp only;rw[hf];by_cases e:s.1=id
  ·rw[Ad e,e,hn];simp;intro _ _;have:List.getD (List.replicate k.toNat CA) s.2.toNat CA=CA:=by
    rw[Bd];cases e3:(List.replicate k.toNat CA)[s.2.toNat]? with
    |none=>rfl
    |some c=>rw[D1 (A6 e3)];rfl
   rw[Bd] at this;rw[this]
  ·rw[Ac e]
 ·show(LB Prod.fst H.1 (id,_)).length<=_;rw[UR];have:=h.len;omega
theorem InvH.drop(h:InvH H n)(a:Int):InvH ((G4 H.1 a).2,H.2) n:=by
 unfold G4
 split
 ·exact h
 split
 ·rename_i x hx hall;rw[AZ] at hall;have hf: ∀b,DP Prod.fst (H.1.filter λx=>decide (x.1≠a)) b=if b=a then none else DP Prod.fst H.1 b:=λb=>by
   by_cases e:b=a
   ·rw[Ad e];refine FN.2 λy hy=>?_;have:=(Ci.1 hy).2;rw[e];simpa using this
   ·rw[Ac e];cases hb:DP Prod.fst H.1 b with
    |none=>exact FN.2 λy hy=>FN.1 hb y (Ci.1 hy).1
    |some y=>obtain⟨h1,h2⟩:=ED hb;rw[<-h2];exact Yl (h.asc.filter _) (Ci.2 ⟨h1,by rw[h2];simpa using e⟩)
  refine⟨h.tree,h.asc.filter _,λy hy=>h.val y (Ci.1 hy).1,λs=>?_,BP (CU ..) h.len⟩;rw[h.link];unfold Fi IY DJ;simp only;rw[hf];by_cases e:s.1=a
  ·rw[Ad e,e,hx];simp;intro h0 h1;have hx2:x.2[s.2.toNat]?=some (x.2[s.2.toNat]'Af):=Al Af;have h3:=hall _ (A6 hx2);rw[UT] at h3;rw[hx2,h3];rfl
  ·rw[Ac e]
 ·exact h
abbrev LE(b bs bt:Nat):Ab:=(b,.cells (toArray [.pointer (some ⟨bs,0,none⟩),.pointer (some ⟨bt,0,none⟩)]) 235 (0,0))
structure HB(b bs bt:Nat)(H:HS)(ls lt lq:List Ab):Prop where
 eq:lq=LE b bs bt::(ls++lt)
 s:IsS bs H.1 ls
 t:Tr.IsT bt H.2 lt
def IsH(b:Nat)(H:HS)(lq:List Ab):Prop:= ∃bs bt ls lt,HB b bs bt H ls lt lq
theorem HB.h{lt:List Ab}(h:HB b bs bt H ls lt lq):LE b bs bt∈lq:=by rw[h.eq];exact .head _
theorem HB.m1{lt:List Ab}(h:HB b bs bt H ls lt lq): ∀c,c∈ls->c∈lq:=λc hc=>by rw[h.eq];exact .tail _ (Ah _ hc)
theorem HB.m2{lt:List Ab}(h:HB b bs bt H ls lt lq): ∀c,c∈lt->c∈lq:=λc hc=>by rw[h.eq];exact .tail _ (Aa _ hc)
theorem InvH.small(h:InvH H n)(hn:n<=1000):H.1.length<=2000/\H.2.length<=1000/\Tr.SmallD H.2:=⟨by have:=h.len;omega,by have:=h.tree.len;omega,h.tree.small Af⟩
theorem WD(l:List Ab):Fn prog 130 [] l λv l'=> ∃b,v= .pointer (some ⟨b,0,none⟩)/\ ∃lq,IsH b ([],[]) lq/\l'=lq++l:=by refine AM func130 ntmps130 λE=>?_;refine Aj ?_;refine AP (Az rfl rfl (new_any _)) ?_;rintro _ _ ⟨bs,rfl,ls,hs,rfl⟩;refine Aj ?_;refine AP (Az rfl rfl (Tr.new_any _)) ?_;rintro _ _ ⟨bt,rfl,lt,ht,rfl⟩;refine AO λb=>?_;exact A9 (l':=(LE b bs bt::(ls++lt))++l) (A4 (A:=LE b bs bt::(lt++(ls++l))) []) ⟨b,rfl,_,⟨bs,bt,ls,lt,rfl,hs,ht⟩,rfl⟩
theorem Kp(b bs bt:Nat)(l:List Ab)(hm:LE b bs bt∈l):Fn prog 115 [.pointer (some ⟨b,0,none⟩)] l λv l'=>v= .pointer (some ⟨bs,0,none⟩)/\l'=l:=by refine AM func115 ntmps115 λE=>?_;exact EA
theorem NV(b:Nat)(H:HS)(lq:List Ab)(hq:IsH b H lq)(id n:Int)(G:List Ab):
 Fn prog 140 [.pointer (some ⟨b,0,none⟩),.int .i64 id,.int .i64 n] (lq++G) λv l'=>v= .int .i64 (GI H.1 id n).1/\ ∃lq',IsH b ((GI H.1 id n).2,H.2) lq'/\l'=lq'++G:=by
 obtain⟨bs,bt,ls,lt,rfl,hs,ht⟩:=hq;refine AM func140 ntmps140 λE=>?_;simp only[Ae,Am];refine Aj ?_;refine Bb (AJ rfl rfl λl2 hl=>Kp b bs bt l2 (hl _ (.head _))) ?_;refine Aj ?_;refine AP (Da rfl rfl (Fn.mvP (λA=>LE b bs bt::(A++(lt++G))) (add_any bs H.1 ls hs id n (LE b bs bt::(lt++G))))) ?_;rintro _ _ ⟨rfl,ls',hs',rfl⟩;refine Aj ?_;exact A9 (l':=(LE b bs bt::(ls'++lt))++G) (.of_perm (.of_eq (by simp))) ⟨rfl,_,⟨bs,bt,ls',lt,rfl,hs',ht⟩,rfl⟩
theorem IN(b:Nat)(H:HS)(lq:List Ab)(hq:IsH b H lq)(s:Ce)(l:List Ab)(hsub: ∀c,c∈lq->c∈l):
 Fn prog 166 [.pointer (some ⟨b,0,none⟩),.agg (toArray (Co s))] l λv l'=>v= .tuple #[.agg (toArray (BW (getD' H.1 s).1)),.int .i64 (getD' H.1 s).2]/\l'=l:=by
 obtain⟨bs,bt,ls,lt,hb⟩:=hq;refine AM func166 ntmps166 λE=>?_;refine AO λb3=>?_;refine AO λb4=>?_;refine Ch [6] 8 (Dh b3 s::l) ?_;refine BM ?_;refine XQ (AJ rfl rfl λl2 hl=>Kp b bs bt l2 (hl _ (.tail _ (hsub _ hb.h)))) rfl rfl rfl ?_;refine BM ?_;refine XQ (AJ rfl rfl λl2 hl=>get_any bs H.1 ls hb.s s l2 λc hc=>hl _ (.tail _ (hsub _ (hb.m1 c hc)))) rfl rfl rfl ?_;refine BM ?_;refine Aj ?_;exact CF (l':=l) (Bq b4 (getD' H.1 s).1::Dh b3 s::l) .refl (.drop (.drop .refl)) ⟨rfl,rfl⟩
def T5(D:SD)(a c:Ce):Int:=if(getD' D a).2=0 then(getD' D c).2 else(getD' D a).2
theorem NW(b:Nat)(H:HS)(lq:List Ab)(hq:IsH b H lq)(a c:Ce)(l:List Ab)(hsub: ∀c,c∈lq->c∈l):
 Fn prog 250 [.pointer (some ⟨b,0,none⟩),.agg (toArray (Co a)),.agg (toArray (Co c))] l λv l'=>v= .tuple #[.agg (toArray (BW (getD' H.1 a).1)),.agg (toArray (BW (getD' H.1 c).1)),.int .i64 (T5 H.1 a c)]/\l'=l:=by
 refine AM func250 ntmps250 λE=>?_;refine AO λb4=>?_;refine AO λb5=>?_;refine AO λb6=>?_;refine AO λb7=>?_;refine Bb (AJ rfl rfl λl2 hl=>IN b H lq hq a l2 λc hc=>hl c (.tail _ (.tail _ (.tail _ (.tail _ (hsub c hc)))))) ?_;refine AO λb9=>?_;refine Bb (AJ rfl rfl λl2 hl=>IN b H lq hq c l2 λc hc=>hl c (.tail _ (.tail _ (.tail _ (.tail _ (.tail _ (hsub c hc))))))) ?_;refine AO λb11=>?_;unfold T5;by_cases h:(getD' H.1 a).2=0
 case' pos=>rw[Ad h]
 case' neg=>rw[Ac h]
 all_goals
  refine Aj ?_;refine Ch [3,4] 6 ([Bq b11 (getD' H.1 c).1,Bq b9 (getD' H.1 a).1]) ?_;refine BM ?_;refine Aj ?_;exact CF (l':=l) (Bq b7 (getD' H.1 c).1::Bq b6 (getD' H.1 a).1::l) (.drop (.drop (.pick .here (.pick .here (.drop (.drop .refl)))))) (.drop (.drop .refl)) ⟨rfl,rfl⟩
theorem T6(b:Nat)(H:HS)(lq:List Ab)(hq:IsH b H lq)(hn:H.1.length<=2000)(l:List Ab)(hsub: ∀c,c∈lq->c∈l):
 Fn prog 75 [.pointer (some ⟨b,0,none⟩)] l λv l'=> ∃cs,OwnSl 132 10 v (Dv H.1).length (Nl (Dv H.1)) cs/\l'=cs++l:=by
 obtain⟨bs,bt,ls,lt,hb⟩:=hq;refine AM func75 ntmps75 λE=>?_;refine Aj ?_;refine Bb (AJ rfl rfl λl2 hl=>Kp b bs bt l2 (hl _ (hsub _ hb.h))) ?_;refine Aj ?_;refine AP (Az rfl rfl (all_any bs H.1 ls hb.s Af _ λc hc=>hsub _ (hb.m1 c hc))) ?_;rintro v _ ⟨cs,ho,rfl⟩;refine Aj ?_;refine A9 (l':=cs++l) .refl ?_;exact⟨cs,ho,rfl⟩
theorem cI(b:Nat)(H:HS)(lq:List Ab)(hq:IsH b H lq)(hn:H.2.length<=1000)(l:List Ab)(hsub: ∀c,c∈lq->c∈l):
 Fn prog 76 [.pointer (some ⟨b,0,none⟩)] l λv l'=> ∃cs,OwnSl 130 3 v H.2.length (Tr.ncs H.2) cs/\l'=cs++l:=by
 obtain⟨bs,bt,ls,lt,hb⟩:=hq;have hm:=hsub _ hb.h;refine AM func76 ntmps76 λE=>?_;refine Aj ?_;refine AP (Az rfl rfl (Tr.all_any bt H.2 lt hb.t Af _ λc hc=>hsub _ (hb.m2 c hc))) ?_;rintro v _ ⟨cs,ho,rfl⟩;refine Aj ?_;refine A9 (l':=cs++l) .refl ?_;exact⟨cs,ho,rfl⟩
theorem uc:(Fi D s=true/\getD' D s=(DJ D s,0))\/(Fi D s=false/\getD' D s=(CA,3)):=by
 unfold getD';cases Fi D s with
 |false=>exact .inr ⟨rfl,rfl⟩
 |true=>exact .inl ⟨rfl,rfl⟩
theorem K4(h:Fi D s=true):getD' D s=(DJ D s,0):=by unfold getD';rw[h];rfl
theorem T7(h:Fi D s=false):getD' D s=(CA,3):=by unfold getD';rw[h];rfl
theorem U3{c:Ce}(ha:Fi D a=true)(hc:Fi D c=true):T5 D a c=0:=by unfold T5;rw[K4 ha,K4 hc];rfl
theorem U4{c:Ce}(h:Fi D a=false\/Fi D c=false):T5 D a c=3:=by
 unfold T5;rcases h with h|h
 ·rw[T7 h];rfl
 ·rw[T7 h];split
  ·rfl
  ·rename_i h2;rcases uc (D:=D) (s:=a) with⟨_,h3⟩|⟨_,h3⟩
   ·rw[h3] at h2;exact absurd rfl h2
   ·rw[h3]
theorem Z5{c:Ce}(h:¬(Fi D a=false\/Fi D c=false)):Fi D a=true/\Fi D c=true:=by cases h1:Fi D a<;>cases h2:Fi D c<;>simp_all
theorem Fy(b:Nat)(H:HS)(n:Nat)(hI:InvH H n)(lq:List Ab)(hq:IsH b H lq)(s:Ce)(c:CapT)(G:List Ab):
 Fn prog 145 [.pointer (some ⟨b,0,none⟩),.agg (toArray (Co s)),.agg (toArray (BW c))] (lq++G) λv l'=>v= .int .i64 (FR H s c).1/\ ∃lq',IsH b (FR H s c).2 lq'/\l'=lq'++G:=by
 have hq0:=hq;refine AM func145 ntmps145 λE=>?_;refine AO λb4=>?_;refine AO λb5=>?_;refine Bb (AJ rfl rfl λl2 hl=>IN b H lq hq s l2 λc hc=>hl c (.tail _ (.tail _ (Ah _ hc)))) ?_;have hret: ∀(d:CapT) (B:Nat),Keep (Bq B d::Bq b5 c::Dh b4 s::(lq++G)) (lq++G):=λ_ _=> .drop (.drop (.drop .refl));cases hok:Fi H.1 s with
 |false=>rw[T7 hok,show FR H s c=(3,H) by unfold FR;rw[Ad hok]];refine AO λb7=>?_;exact A9 (hret _ _) ⟨rfl,_,hq0,rfl⟩
 |true=>
 rw[K4 hok];have e0:FR H s c=if K0 c=false then(5,H) else if(DJ H.1 s).kind≠0 then(11,H) else(0,(FS H.1 s c,(Tr.rootD H.2 s).2)):=by unfold FR;rw[Ac (by rw[hok];decide)]
 rw[e0];refine AO λb7=>?_;refine Bb (AJ rfl rfl λl2 hl=>HL c l2) ?_;cases hm:Fd c with
 |false=>rw[Ad (by unfold K0;rw[hm];rfl)];refine Aj ?_;exact A9 (hret _ _) ⟨rfl,_,hq0,rfl⟩
 |true=>
 by_cases hk:c.kind=0
 ·rw[Ad (by unfold K0;rw[At hk,hm];rfl)];refine Aj ?_;exact A9 (hret _ _) ⟨rfl,_,hq0,rfl⟩
 rw[Ac (by unfold K0;rw[Av hk,hm];decide)];by_cases hw:(DJ H.1 s).kind≠0
 ·rw[Ad hw];refine Aj ?_;exact A9 (hret _ _) ⟨rfl,_,hq0,rfl⟩
 rw[Ac hw];obtain⟨bs,bt,ls,lt,rfl,hs,ht⟩:=hq;have hr0:=(WB (t:=s) (hI.no (by simpa using hw))).1;have H1:=Fn.mvP (λA=>Bq b7 (DJ H.1 s)::Bq b5 c::Dh b4 s::LE b bs bt::(A++(lt++G))) (set_any bs H.1 ls hs s c (Bq b7 (DJ H.1 s)::Bq b5 c::Dh b4 s::LE b bs bt::(lt++G)));have H2:=λls=>Fn.mvP (λA=>Bq b7 (DJ H.1 s)::Bq b5 c::Dh b4 s::LE b bs bt::(ls++(A++G))) (Tr.root_any bt H.2 lt ht s (Bq b7 (DJ H.1 s)::Bq b5 c::Dh b4 s::LE b bs bt::(ls++G)));rw[Ko hok hm] at H1;rw[hr0] at H2;simp only[Ae,Am];refine Aj ?_;refine Ch [6] 7 ([Bq b5 c,Dh b4 s,LE b bs bt]) ?_;refine BM ?_;apply CM
 ·exact Da rfl rfl H1
 ·rfl
 ·rfl
 ·rfl
 ·rintro _ _ ⟨_,ls',_,rfl⟩;exact SY
 rintro _ _ ⟨rfl,ls',hs',rfl⟩;refine BM ?_;refine Aj ?_;refine Ch [5] 7 ([Dh b4 s,LE b bs bt]) ?_;refine BM ?_;apply CM
 ·exact Da rfl rfl (H2 ls')
 ·rfl
 ·rfl
 ·rfl
 ·rintro _ _ ⟨_,lt',_,rfl⟩;exact SY
 rintro _ _ ⟨rfl,lt',ht',rfl⟩;refine BM ?_;refine Aj ?_;exact A9 (l':=(LE b bs bt::(ls'++lt'))++G) (.drop (.drop (.drop (.of_perm (.of_eq (by simp)))))) ⟨rfl,_,⟨bs,bt,ls',lt',rfl,hs',ht'⟩,rfl⟩
theorem R5(b:Nat)(H:HS)(n:Nat)(hI:InvH H n)(hn:n<=1000)(lq:List Ab)(hq:IsH b H lq)(p s:Ce)(c:CapT)(G:List Ab):
 Fn prog 251 [.pointer (some ⟨b,0,none⟩),.agg (toArray (Co p)),.agg (toArray (Co s)),.agg (toArray (BW c))] (lq++G) λv l'=>v= .int .i64 (Gz H p s c).1/\ ∃lq',IsH b (Gz H p s c).2 lq'/\l'=lq'++G:=by
 have hq0:=hq;refine AM func251 ntmps251 λE=>?_;refine AO λb5=>?_;refine AO λb6=>?_;refine AO λb7=>?_;refine Bb (AJ rfl rfl λl2 hl=>NW b H lq hq p s l2 λc hc=>hl c (.tail _ (.tail _ (.tail _ (Ah _ hc))))) ?_;have hret: ∀(d e:CapT) (B C:Nat),Keep (Bq B d::Bq C e::Bq b7 c::Dh b6 s::Dh b5 p::(lq++G)) (lq++G):=λ_ _ _ _=> .drop (.drop (.drop (.drop (.drop .refl))));by_cases hok:Fi H.1 p=false\/Fi H.1 s=false
 ·rw[U4 hok,show Gz H p s c=(3,H) by unfold Gz;rw[Ad hok]];refine Aj ?_;refine AP e_alloc ?_;rintro _ _ ⟨b9,_,rfl,rfl⟩;refine AO λb10=>?_;exact A9 (hret _ _ _ _) ⟨rfl,_,hq0,rfl⟩
 obtain⟨okp,oks⟩:=Z5 hok;rw[U3 okp oks,K4 okp,K4 oks];have e0:Gz H p s c=if K0 c=false then(5,H) else if(DJ H.1 p).kind=0 then(10,H) else if(DJ H.1 s).kind≠0 then(11,H) else(0,(FS H.1 s c,(Tr.childD H.2 p s).2)):=by unfold Gz;rw[Ac hok]
 rw[e0];refine Aj ?_;refine AP e_alloc ?_;rintro _ _ ⟨b9,_,rfl,rfl⟩;refine AO λb10=>?_;refine Bb (AJ rfl rfl λl2 hl=>HL c l2) ?_;cases hm:Fd c with
 |false=>rw[Ad (by unfold K0;rw[hm];rfl)];refine Aj ?_;exact A9 (hret _ _ _ _) ⟨rfl,_,hq0,rfl⟩
 |true=>
 by_cases hk:c.kind=0
 ·rw[Ad (by unfold K0;rw[At hk,hm];rfl)];refine Aj ?_;exact A9 (hret _ _ _ _) ⟨rfl,_,hq0,rfl⟩
 rw[Ac (by unfold K0;rw[Av hk,hm];decide)];by_cases hp:(DJ H.1 p).kind=0
 ·rw[Ad hp];refine Aj ?_;exact A9 (hret _ _ _ _) ⟨rfl,_,hq0,rfl⟩
 rw[Ac hp];by_cases hw:(DJ H.1 s).kind≠0
 ·rw[Ad hw];refine Aj ?_;exact A9 (hret _ _ _ _) ⟨rfl,_,hq0,rfl⟩
 rw[Ac hw];obtain⟨bs,bt,ls,lt,rfl,hs,ht⟩:=hq;have hr0:=(T4 (t:=s) ((hI.link p).2 ⟨okp,hp⟩) (hI.no (by simpa using hw))).1;obtain⟨X,hX⟩: ∃X,X=[Bq b10 (DJ H.1 s),Bq b9 (DJ H.1 p),Bq b7 c,Dh b6 s,Dh b5 p,LE b bs bt]:=⟨_,rfl⟩
 have H1:=Fn.mvP (λA=>X++(A++(lt++G))) (set_any bs H.1 ls hs s c (X++(lt++G)));have H2:=λls=>Fn.mvP (λA=>X++(ls++(A++G))) (Tr.child_any bt H.2 lt ht (hI.small hn).2.2 p s (X++(ls++G)));rw[Ko oks hm] at H1;rw[hr0] at H2;rw[hX] at H1 H2;simp only[Ae,Am,Ag] at H1 H2⊢;refine Aj ?_;refine Ch [6] 7 ([Bq b7 c,Dh b6 s,LE b bs bt]) ?_;refine BM ?_;apply CM
 ·exact Da rfl rfl H1
 ·rfl
 ·rfl
 ·rfl
 ·rintro _ _ ⟨_,ls',_,rfl⟩;exact SY
 rintro _ _ ⟨rfl,ls',hs',rfl⟩;refine BM ?_;refine Aj ?_;refine Ch [6] 8 ([Dh b6 s,Dh b5 p,LE b bs bt]) ?_;refine BM ?_;apply CM
 ·exact Da rfl rfl (H2 ls')
 ·rfl
 ·rfl
 ·rfl
 ·rintro _ _ ⟨_,lt',_,rfl⟩;exact SY
 rintro _ _ ⟨rfl,lt',ht',rfl⟩;refine BM ?_;refine Aj ?_;exact A9 (l':=(LE b bs bt::(ls'++lt'))++G) (.drop (.drop (.drop (.drop (.drop (.of_perm (.of_eq (by simp)))))))) ⟨rfl,_,⟨bs,bt,ls',lt',rfl,hs',ht'⟩,rfl⟩
theorem cJ{a:CapT}(h:Ie a c=true):Fd c=true:=by unfold Ie at h;simp only[AR] at h;exact h.1.1.1.2
theorem Pg(b:Nat)(H:HS)(n:Nat)(hI:InvH H n)(hn:n<=1000)(lq:List Ab)(hq:IsH b H lq)(a c:Ce)(gf:Nat)[EN prog gf](cs:List Value)(r:CapT->CapT×Int)(hr: ∀d,IM d->IM (r d).1)(X:List Ab)
 (hf: ∀d l2,IM d->(∀x,x∈X->x∈l2)->Fn prog gf ([.agg (toArray (BW d))]++cs) l2 λv l'=>v= .tuple #[.agg (toArray (BW (r d).1)),.int .i64 (r d).2]/\l'=l2)(G:List Ab)(hX: ∀x,x∈X->x∈G):
 Fn prog 189 [.pointer (some ⟨b,0,none⟩),.agg (toArray (Co a)),.agg (toArray (Co c)),.func (.func gf) #[] (toArray cs)] (lq++G) λv l'=>v= .int .i64 (Fs H a c (r (DJ H.1 a))).1/\ ∃lq',IsH b (Fs H a c (r (DJ H.1 a))).2 lq'/\l'=lq'++G:=by
 refine AM func189 ntmps189 λE=>?_;refine AO λb5=>?_;refine AO λb6=>?_;refine Bb (AJ rfl rfl λl2 hl=>NW b H lq hq a c l2 λc hc=>hl c (.tail _ (.tail _ (Ah _ hc)))) ?_;have hret: ∀(d e:CapT) (B C:Nat),Keep (Bq B d::Bq C e::Dh b6 c::Dh b5 a::(lq++G)) (lq++G):=λ_ _ _ _=> .drop (.drop (.drop (.drop .refl)));by_cases hok:Fi H.1 a=false\/Fi H.1 c=false
 ·rw[U4 hok];have e1:G7 H a c=3:=by unfold G7;rw[Ad hok]
  rw[show Fs H a c (r (DJ H.1 a))=(3,H) by unfold Fs;rw[Ad (by rw[e1];decide),e1]];refine Aj ?_;refine AP e_alloc ?_;rintro _ _ ⟨b9,_,rfl,rfl⟩;refine AO λb10=>?_;exact A9 (hret _ _ _ _) ⟨rfl,_,hq,rfl⟩
 obtain⟨oka,okc⟩:=Z5 hok;rw[U3 oka okc,K4 oka,K4 okc];refine Aj ?_;refine AP e_alloc ?_;rintro _ _ ⟨b9,_,rfl,rfl⟩;refine AO λb10=>?_;by_cases hp:(DJ H.1 a).kind=0
 ·have e1:G7 H a c=10:=by unfold G7;rw[Ac hok,Ad hp]
  rw[show Fs H a c (r (DJ H.1 a))=(10,H) by unfold Fs;rw[Ad (by rw[e1];decide),e1]];refine Aj ?_;exact A9 (hret _ _ _ _) ⟨rfl,_,hq,rfl⟩
 by_cases hw:(DJ H.1 c).kind≠0
 ·have e1:G7 H a c=11:=by unfold G7;rw[Ac hok,Ac hp,Ad hw]
  rw[show Fs H a c (r (DJ H.1 a))=(11,H) by unfold Fs;rw[Ad (by rw[e1];decide),e1]];refine Aj ?_;exact A9 (hret _ _ _ _) ⟨rfl,_,hq,rfl⟩
 have e1:G7 H a c=0:=by unfold G7;rw[Ac hok,Ac hp,Ac hw]
 have hwa:=(hI.at a).2;have hwr:=hr _ hwa;refine Aj ?_;refine Bb (Fh rfl rfl λl2 hl=>by simpa using hf (DJ H.1 a) l2 hwa λx hx=>hl x (.tail _ (.tail _ (.tail _ (.tail _ (Aa _ (hX x hx))))))) ?_;by_cases he:(r (DJ H.1 a)).2≠0
 ·rw[show Fs H a c (r (DJ H.1 a))=((r (DJ H.1 a)).2,H) by unfold Fs;rw[Ac (by rw[e1];decide),Ad he]];refine AO λb12=>?_;exact A9 (.drop (hret _ _ _ _)) ⟨rfl,_,hq,rfl⟩
 have he0:(r (DJ H.1 a)).2=0:=by simpa using he
 rw[show Fs H a c (r (DJ H.1 a))=Gz H a c (r (DJ H.1 a)).1 by unfold Fs;rw[Ac (by rw[e1];decide),Ac he]];rw[he0];refine AO λb12=>?_;refine AP (Da rfl rfl (Fn.mvP (λA=>Bq b12 (r (DJ H.1 a)).1::Bq b10 (DJ H.1 c)::Bq b9 (DJ H.1 a)::Dh b6 c::Dh b5 a::(A++G)) (R5 b H n hI hn lq hq a c (r (DJ H.1 a)).1 (Bq b12 (r (DJ H.1 a)).1::Bq b10 (DJ H.1 c)::Bq b9 (DJ H.1 a)::Dh b6 c::Dh b5 a::G)))) ?_;rintro _ _ ⟨rfl,lq',hq',rfl⟩;refine Aj ?_;exact A9 (l':=lq'++G) (.drop (.drop (.drop (.drop (.drop .refl))))) ⟨rfl,_,hq',rfl⟩
theorem Yo(c:CapT)(hw:IM c)(b1:Nat)(mask:Int)(l:List Ab)(hm:F6 b1 mask∈l):
 Fn prog 190 ([.agg (toArray (BW c))]++[.pointer (some ⟨b1,0,none⟩)]) l λv l'=>v= .tuple #[.agg (toArray (BW (D4 c mask).1)),.int .i64 (D4 c mask).2]/\l'=l:=by
 rw[show[Value.agg (toArray (BW c))]++[.pointer (some ⟨b1,0,none⟩)]=[.agg (toArray (BW c)),.pointer (some ⟨b1,0,none⟩)] from rfl];refine AM func190 ntmps190 λE=>?_;refine Aj ?_
 (first|refine AP (Eb rfl rfl) ?_|refine AP (CK rfl) ?_);rintro _ _ ⟨b2,_,rfl,rfl⟩
 have hm2:F6 b1 mask∈Bq b2 c::l:= .tail _ hm;refine Aj ?_;refine AP e_alloc ?_;rintro _ _ ⟨b3,_,rfl,rfl⟩;have hm3:F6 b1 mask∈Bq b3 CA::Bq b2 c::l:= .tail _ (.tail _ hm);refine Aj ?_;refine Bb (AJ rfl rfl λl2 hl=>Nj c hw mask l2) ?_;refine Aj ?_;exact CF (l':=l) (Bq b3 (D4 c mask).1::Bq b2 c::l) .refl (.drop (.drop .refl)) ⟨rfl,rfl⟩
theorem Yp(c:CapT)(hw:IM c)(b1 b2:Nat)(mask:Int)(data:Nat)(hd:data<18446744073709551616)(l:List Ab)(hm:F6 b1 mask∈l)(hm':PL b2 data∈l):
 Fn prog 196 ([.agg (toArray (BW c))]++[.pointer (some ⟨b1,0,none⟩),.pointer (some ⟨b2,0,none⟩)]) l λv l'=>v= .tuple #[.agg (toArray (BW (G5 c mask data).1)),.int .i64 (G5 c mask data).2]/\l'=l:=by
 rw[show[Value.agg (toArray (BW c))]++[.pointer (some ⟨b1,0,none⟩),.pointer (some ⟨b2,0,none⟩)]=[.agg (toArray (BW c)),.pointer (some ⟨b1,0,none⟩),.pointer (some ⟨b2,0,none⟩)] from rfl];refine AM func196 ntmps196 λE=>?_;refine AO λb3=>?_;refine AP e_alloc ?_;rintro _ _ ⟨b4,_,rfl,rfl⟩;have hm3:F6 b1 mask∈Bq b4 CA::Bq b3 c::l:= .tail _ (.tail _ hm);have hm4:PL b2 data∈Bq b4 CA::Bq b3 c::l:= .tail _ (.tail _ hm');refine Aj ?_;refine Bb (AJ rfl rfl λl2 hl=>gM c hw mask data hd l2) ?_;refine Aj ?_;exact CF (l':=l) (Bq b4 (G5 c mask data).1::Bq b3 c::l) .refl (.drop (.drop .refl)) ⟨rfl,rfl⟩
theorem LF(b:Nat)(H:HS)(n:Nat)(hI:InvH H n)(hn:n<=1000)(lq:List Ab)(hq:IsH b H lq)(a c:Ce)(mask:Int)(G:List Ab):
 Fn prog 146 [.pointer (some ⟨b,0,none⟩),.agg (toArray (Co a)),.agg (toArray (Co c)),.int .i64 mask] (lq++G) λv l'=>v= .int .i64 (Fs H a c (D4 (DJ H.1 a) mask)).1/\ ∃lq',IsH b (Fs H a c (D4 (DJ H.1 a) mask)).2 lq'/\l'=lq'++G:=by
 refine AM func146 ntmps146 λE=>?_;refine AO λb5=>?_;refine AO λb6=>?_;refine AO λb7=>?_;refine AP (Da (vs:=[.pointer (some ⟨b,0,none⟩),.agg (toArray (Co a)),.agg (toArray (Co c)),.func (.func 190) #[] (toArray [.pointer (some ⟨b7,0,none⟩)])]) rfl rfl (Fn.mvP (λA=>F6 b7 mask::Dh b6 c::Dh b5 a::(A++G)) (Pg b H n hI hn lq hq a c 190 [.pointer (some ⟨b7,0,none⟩)] (λd=>D4 d mask) (λd h=>Ni h mask) [F6 b7 mask] (λd l2 hd hx=>Yo d hd b7 mask l2 (hx _ (.head _))) (F6 b7 mask::Dh b6 c::Dh b5 a::G) (CS (.head _))))) ?_;rintro _ _ ⟨rfl,lq',hq',rfl⟩;refine Aj ?_;exact A9 (l':=lq'++G) (.drop (.drop (.drop .refl))) ⟨rfl,_,hq',rfl⟩
theorem PQ(b:Nat)(H:HS)(n:Nat)(hI:InvH H n)(hn:n<=1000)(lq:List Ab)(hq:IsH b H lq)(a c:Ce)(mask:Int)(data:Nat)(hd:data<18446744073709551616)(G:List Ab):
 Fn prog 150 [.pointer (some ⟨b,0,none⟩),.agg (toArray (Co a)),.agg (toArray (Co c)),.int .i64 mask,.int .u64 (data:Nat)] (lq++G) λv l'=>v= .int .i64 (Fs H a c (G5 (DJ H.1 a) mask data)).1/\ ∃lq',IsH b (Fs H a c (G5 (DJ H.1 a) mask data)).2 lq'/\l'=lq'++G:=by
 refine AM func150 ntmps150 λE=>?_;refine AO λb5=>?_;refine AO λb6=>?_;refine AO λb7=>?_;refine AO λb8=>?_;refine AP (Da (vs:=[.pointer (some ⟨b,0,none⟩),.agg (toArray (Co a)),.agg (toArray (Co c)),.func (.func 196) #[] (toArray [.pointer (some ⟨b7,0,none⟩),.pointer (some ⟨b8,0,none⟩)])]) rfl rfl (Fn.mvP (λA=>PL b8 data::F6 b7 mask::Dh b6 c::Dh b5 a::(A++G)) (Pg b H n hI hn lq hq a c 196 [.pointer (some ⟨b7,0,none⟩),.pointer (some ⟨b8,0,none⟩)] (λd=>G5 d mask data) (λd h=>RR h mask data) [F6 b7 mask,PL b8 data] (λd l2 hd2 hx=>Yp d hd2 b7 b8 mask data hd l2 (hx _ (.head _)) (hx _ (.tail _ (.head _)))) (PL b8 data::F6 b7 mask::Dh b6 c::Dh b5 a::G) (λx hx=>by
  rcases Ap.1 hx with rfl|hx
  ·exact .tail _ (.head _)
  ·rw[Ax.1 hx];exact .head _)))) ?_
 rintro _ _ ⟨rfl,lq',hq',rfl⟩;refine Aj ?_;exact A9 (l':=lq'++G) (.drop (.drop (.drop (.drop .refl)))) ⟨rfl,_,hq',rfl⟩
namespace Th
variable{es:List KB}{clock:Nat}{a:Int}
structure ThT where
 id:Int
 st:Int
 pr:Int
 m0:Int
 m1:Int
 m2:Int
 m3:Int
 bd:Int
 got:Bool
 ca:Int
 wa:Int
 o0:Int
 o1:Int
 o2:Int
 o3:Int
 ob:Int
 gv:Int
 inn:Int
 cl:Bool
 fa:Bool
 hs:Bool
 wr:Bool
 va:Int
 vl:Int
variable{t:ThT}
abbrev encH(t:ThT):List Value:=[.int .i64 t.id,.int .i64 t.st,.int .i64 t.pr,.int .u64 t.m0,.int .u64 t.m1,.int .u64 t.m2,.int .u64 t.m3,.int .u64 t.bd,.bool t.got,.int .i64 t.ca,.int .i64 t.wa,.int .u64 t.o0,.int .u64 t.o1,.int .u64 t.o2,.int .u64 t.o3,.int .u64 t.ob,.int .i64 t.gv,.int .i64 t.inn,.bool t.cl,.bool t.fa,.bool t.hs,.bool t.wr,.int .u64 t.va,.int .u64 t.vl]
abbrev thK:List (Option IntKind):=[some .i64,some .i64,some .i64,some .u64,some .u64,some .u64,some .u64,some .u64,none,some .i64,some .i64,some .u64,some .u64,some .u64,some .u64,some .u64,some .i64,some .i64,none,none,none,none,some .u64,some .u64]
theorem encH_k(t:ThT):AllK thK (encH t):=⟨_,_,rfl,⟨_,rfl⟩,_,_,rfl,⟨_,rfl⟩,_,_,rfl,⟨_,rfl⟩,_,_,rfl,⟨_,rfl⟩,_,_,rfl,⟨_,rfl⟩,_,_,rfl,⟨_,rfl⟩,_,_,rfl,⟨_,rfl⟩,_,_,rfl,⟨_,rfl⟩,_,_,rfl,⟨_,rfl⟩,_,_,rfl,⟨_,rfl⟩,_,_,rfl,⟨_,rfl⟩,_,_,rfl,⟨_,rfl⟩,_,_,rfl,⟨_,rfl⟩,_,_,rfl,⟨_,rfl⟩,_,_,rfl,⟨_,rfl⟩,_,_,rfl,⟨_,rfl⟩,_,_,rfl,⟨_,rfl⟩,_,_,rfl,⟨_,rfl⟩,_,_,rfl,⟨_,rfl⟩,_,_,rfl,⟨_,rfl⟩,_,_,rfl,⟨_,rfl⟩,_,_,rfl,⟨_,rfl⟩,_,_,rfl,⟨_,rfl⟩,_,_,rfl,⟨_,rfl⟩,rfl⟩
theorem encH_inj: ∀x y,encH x=encH y->x=y:=λx y h=>by cases x;cases y;simp only[encH,Cc,Value.int.injEq,Value.bool.injEq,HF,IF] at h;simp only[ThT.mk.injEq];exact h
instance:EQ prog 79 thK:=⟨Bs⟩
abbrev thZ:ThT:=⟨0,0,0,0,0,0,0,0,false,0,0,0,0,0,0,0,0,0,false,false,false,false,0,0⟩
abbrev ig(id:Int):ThT:=⟨id,0,0,0,0,0,0,0,false,0,0,0,0,0,0,0,4096,4096,false,false,false,false,0,0⟩
def mayH(t:ThT):Bool:=decide (1<=t.id)&&decide (0<=t.st)&&decide (t.st<=4)&&decide (0<=t.pr)&&decide (t.pr<=7)&&decide (0<=t.ca)&&decide (0<=t.wa)&&decide (0<=t.gv)&&decide (t.gv<=4096)&&decide (0<=t.inn)&&decide (t.inn<=4096)
abbrev TL:=List ThT
variable{L:TL}
def findH(L:TL)(a:Int):Option ThT:=L.find? λt=>decide (t.id=a)
theorem JU(a:Int): ∀(es:List KB) (i:Nat),Gs a es i=Ez a es i
 |[],i=>rfl
 |e::es,i=>by unfold Gs Ez;rw[JU a es (i+1)]
theorem Jd(a:Int)(es:List KB):KC a es=Hl a es:=by unfold KC Hl;rw[JU]
theorem UU(a:Int)(v:Value)(clock:Nat)(es:List KB):M5 a v clock es=KE a v clock es:=by unfold M5 KE;rw[JU];rfl
theorem Yh(a:Int)(es:List KB):Ox a es=N9 a es:=by unfold Ox N9;rw[JU];rfl
theorem RJ:a∈es.map (·.1)<->(Hl a es).isSome=true:=by
 unfold Hl;cases h:Ez a es 0 with
 |none=>
  simp only[Dt,E8,Bi,iff_false];exact λhm=>by obtain⟨e,he,h2⟩:=Au.1 hm;exact Ib.1 h e he h2
 |some p=>obtain⟨A,e,B,rfl,_,h1,_⟩:=G1 (k:=p.1) (v:=p.2) h;simp[h1]
structure XB(L:TL)(es:List KB)(clock:Nat):Prop where
 ok:KeysOk es clock
 get: ∀a,KC a es=(findH L a).map λt=> .agg (toArray (encH t))
 asc:L.Pairwise λx y=>x.id<y.id
theorem XB.zero:XB [] [] 0:=⟨⟨by simp,by simp,by simp⟩,λa=>rfl,by simp⟩
theorem findH_some(h:findH L a=some t):t∈L/\t.id=a:=⟨Bz h,by simpa using DO h⟩
theorem OG:findH L a=none<-> ∀t,t∈L->t.id≠a:=by unfold findH;rw[By];simp
theorem XB.nd(h:XB L es clock):(L.map ThT.id).Nodup:=by refine(Cp.2 (h.asc.imp λhxy=>?_));omega
theorem XB.keys(h:XB L es clock):(es.map (·.1)).Perm (L.map ThT.id):=by
 refine(E9 h.ok.keys h.nd).2 λa=>?_;rw[RJ,<-Jd,h.get];cases hf:findH L a with
 |none=>
  simp only[Dt,E8,Bi,false_iff];exact λhm=>by obtain⟨t,ht,h2⟩:=Au.1 hm;exact OG.1 hf t ht h2
 |some t=>obtain⟨h1,h2⟩:=findH_some hf;simp only[BL,HZ,true_iff];exact Au.2 ⟨t,h1,h2⟩
theorem XB.len(h:XB L es clock):es.length=L.length:=by simpa using h.keys.length_eq
theorem XB.at_(h:XB L es clock)(ht:t∈L):findH L t.id=some t:=by
 cases hf:findH L t.id with
 |none=>exact absurd rfl (OG.1 hf t ht)
 |some u=>obtain⟨h1,h2⟩:=findH_some hf;rw[Na h.nd h1 ht h2]
def insH(L:TL)(t:ThT):TL:=L.takeWhile (λx=>decide (x.id<t.id))++t::L.dropWhile λx=>decide (x.id<t.id)
theorem Km{α:Type}{p q:α->Bool}: ∀{l:List α},(∀x,x∈l->p x=q x)->l.find? p=l.find? q
 |[],_=>rfl
 |x::l,h=>by rw[BB,BB,h x Ak,Km λy hy=>h y (An _ hy)]
def addD(L:TL)(id:Int):Int×TL:=if id<1 then(2,L) else if(findH L id).isSome=true then(11,L) else(0,insH L (ig id))
def dropD(L:TL)(id:Int):Int×TL:=if(findH L id).isSome=true then(0,L.filter λx=>decide (x.id≠id)) else(2,L)
def putH(L:TL)(t:ThT):TL:=L.map λx=>if x.id=t.id then t else x
def setD(L:TL)(t:ThT):Int×TL:=if(findH L t.id).isSome=true/\mayH t=true then(0,putH L t) else(2,L)
def serverD(L:TL)(id:Int):Int:=if id=0 then 0 else match L.find? (λt=>decide (t.ca=id)) with
 |some t=>t.id
 |none=>0
theorem E2{α:Type}(p:α->Bool): ∀(A B:List α),(A++B).find? p=(A.find? p).or (B.find? p)
 |[],B=>rfl
 |x::A,B=>by
  rw[Ae,BB,BB];cases p x with
  |true=>rfl
  |false=>exact E2 p A B
theorem XB.add(h:XB L es clock)(hn:findH L t.id=none):XB (insH L t) (M5 t.id (.agg (toArray (encH t))) clock es).1 (M5 t.id (.agg (toArray (encH t))) clock es).2:=by
 have hne:=OG.1 hn;have hall: ∀x,x∈L.takeWhile (λx=>decide (x.id<t.id))->x.id<t.id:=λx hx=>by simpa using AZ.1 (H0 (l:=L) (p:=λx=>decide (x.id<t.id))) x hx
 have hL:L.takeWhile (λx=>decide (x.id<t.id))++L.dropWhile (λx=>decide (x.id<t.id))=L:=BI ..;have hs:=h.asc;rw[<-hL,Bm] at hs;have hgt: ∀x,x∈L.dropWhile (λx=>decide (x.id<t.id))->t.id<x.id:=λx hx=>by
  cases hd:L.dropWhile (λx=>decide (x.id<t.id)) with
  |nil=>rw[hd] at hx;cases hx
  |cons y r=>
   have hy:¬y.id<t.id:=by have:=List.head?_dropWhile_not (λx:ThT=>decide (x.id<t.id)) L;rw[hd] at this;simpa using this
   have hyL:y∈L:=(ID _).subset (by rw[hd];exact Ak);have:=hne y hyL;rw[hd] at hx;rcases Ap.1 hx with rfl|hx
   ·omega
   ·have h2:=hs.2.1;rw[hd] at h2;have:=(BY.1 h2).1 x hx;omega
 rw[UU];refine⟨h.ok.set _ _,λa=>?_,?_⟩
 ·rw[Jd,Jv,<-Jd,h.get];unfold insH findH;rw[E2,BB];have e0:L.find? (λt=>decide (t.id=a))=((L.takeWhile (λx=>decide (x.id<t.id))).find? (λt=>decide (t.id=a))).or ((L.dropWhile (λx=>decide (x.id<t.id))).find? (λt=>decide (t.id=a))):=by rw[<-E2,hL]
  rw[e0];by_cases ha:a=t.id
  ·subst ha;rw[Ad rfl,At rfl];have:(L.takeWhile (λx=>decide (x.id<t.id))).find? (λx=>decide (x.id=t.id))=none:=By.2 λx hx=>by have:=hall x hx;simp;omega
   rw[this];rfl
  ·rw[Ac ha,Av λe=>ha e.symm]
 ·unfold insH;refine Bm.2 ⟨hs.1,BY.2 ⟨λx hx=>hgt x hx,hs.2.1⟩,λx hx y hy=>?_⟩;have h1:=hall x hx;rcases Ap.1 hy with rfl|hy
  ·exact h1
  ·have:=hgt y hy;omega
theorem XB.drop(h:XB L es clock)(a:Int):XB (L.filter λx=>decide (x.id≠a)) (Ox a es) clock:=by
 rw[Yh];refine⟨h.ok.del a,λc=>?_,h.asc.filter _⟩;rw[Jd,O0 h.ok,<-Jd,h.get];unfold findH;rw[List.find?_filter];by_cases hc:c=a
 ·subst hc;rw[Ad rfl];rw[show L.find? (λx=>decide (decide (x.id≠c)=true/\decide (x.id=c)=true))=none from By.2 λx _=>by simp];rfl
 ·rw[Ac hc];congr 1;apply Km;intro x _;by_cases hx:x.id=c
  ·simp[hx,hc]
  ·simp[hx]
theorem ii(L:TL)(t:ThT):(putH L t).map ThT.id=L.map ThT.id:=by
 unfold putH;rw[CJ];apply Bw;intro x _;show(if x.id=t.id then t else x).id=x.id
 split
 ·rename_i h;exact h.symm
 ·rfl
theorem find_put(L:TL)(t:ThT)(a:Int):findH (putH L t) a=if a=t.id then(findH L a).map λ_=>t else findH L a:=by
 unfold findH putH
 induction L with
 |nil=>split<;>rfl
 |cons x L ih=>
  rw[AI,BB,BB];by_cases hx:x.id=t.id
  ·rw[Ad hx,hx];by_cases ha:t.id=a
   ·rw[At ha,Ad ha.symm];rfl
   ·rw[Av ha,Ac λe=>ha e.symm];rw[Ac λe=>ha e.symm] at ih;exact ih
  ·rw[Ac hx];by_cases ha:x.id=a
   ·rw[At ha,Ac λe=>hx (ha.trans e)]
   ·rw[Av ha];exact ih
theorem XB.put(h:XB L es clock)(hn:(findH L t.id).isSome=true):XB (putH L t) (M5 t.id (.agg (toArray (encH t))) clock es).1 (M5 t.id (.agg (toArray (encH t))) clock es).2:=by
 rw[UU];refine⟨h.ok.set _ _,λa=>?_,?_⟩
 ·rw[Jd,Jv,<-Jd,h.get,find_put];by_cases ha:a=t.id
  ·rw[Ad ha,Ad ha,ha];obtain⟨u,hu⟩:=HH.1 hn;rw[hu];rfl
  ·rw[Ac ha,Ac ha]
 ·have h2:(L.map ThT.id).Pairwise (λx y=>x<y):=Cp.2 h.asc;rw[<-ii L t] at h2;exact Cp.1 h2
abbrev xC(b m:Nat):Ab:=(b,.cells (toArray [.map (some m)]) 278 (0,0))
def IsX(b:Nat)(L:TL)(lq:List Ab):Prop:= ∃m es clock,lq=[xC b m,(m,Fq .i64 es clock)]/\XB L es clock
abbrev thV(t:ThT):Value:= .agg (toArray (encH t))
abbrev thC(B:Nat)(t:ThT):Ab:=(B,.cells (toArray (encH t)) 79 (0,0))
theorem new_any(l:List Ab):Fn prog 132 [] l λv l'=> ∃b,v= .pointer (some ⟨b,0,none⟩)/\ ∃lq,IsX b [] lq/\l'=lq++l:=by refine AM func132 ntmps132 λE=>?_;refine gz ?_;refine AP NK ?_;rintro _ _ ⟨m,hm,rfl,rfl⟩;refine HC λb=>?_;exact A9 .refl ⟨b,rfl,_,⟨m,[],0,rfl,XB.zero⟩,rfl⟩
theorem O6(t:ThT)(l:List Ab):Fn prog 151 [thV t] l λv l'=>v= .bool (mayH t)/\l'=l:=by
 refine AM func151 ntmps151 λE=>?_;refine gz ?_
 (first|refine AP (Eb rfl rfl) ?_|refine AP (CK rfl) ?_);rintro _ _ ⟨b,_,rfl,rfl⟩
 by_cases h0:1<=t.id
 case neg=>
  have e:mayH t=false:=by unfold mayH;rw[Av h0];simp
  rw[e];exact EA
 by_cases h1:0<=t.st
 case neg=>
  have e:mayH t=false:=by unfold mayH;rw[Av h1];simp
  rw[e];exact EA
 by_cases h2:t.st<=4
 case neg=>
  have e:mayH t=false:=by unfold mayH;rw[Av h2];simp
  rw[e];exact EA
 by_cases h3:0<=t.pr
 case neg=>
  have e:mayH t=false:=by unfold mayH;rw[Av h3];simp
  rw[e];exact EA
 by_cases h4:t.pr<=7
 case neg=>
  have e:mayH t=false:=by unfold mayH;rw[Av h4];simp
  rw[e];exact EA
 by_cases h5:0<=t.ca
 case neg=>
  have e:mayH t=false:=by unfold mayH;rw[Av h5];simp
  rw[e];exact EA
 by_cases h6:0<=t.wa
 case neg=>
  have e:mayH t=false:=by unfold mayH;rw[Av h6];simp
  rw[e];exact EA
 by_cases h7:0<=t.gv
 case neg=>
  have e:mayH t=false:=by unfold mayH;rw[Av h7];simp
  rw[e];exact EA
 by_cases h8:t.gv<=4096
 case neg=>
  have e:mayH t=false:=by unfold mayH;rw[Av h8];simp
  rw[e];exact EA
 by_cases h9:0<=t.inn
 case neg=>
  have e:mayH t=false:=by unfold mayH;rw[Av h9];simp
  rw[e];exact EA
 have e:mayH t=decide (t.inn<=4096):=by unfold mayH;rw[At h0,At h1,At h2,At h3,At h4,At h5,At h6,At h7,At h8,At h9];simp
 rw[e];exact EA
theorem XB.look(h:XB L es clock)(a:Int):(KC a es).getD (thV thZ)=thV ((findH L a).getD thZ):=by rw[h.get];cases findH L a<;>rfl
theorem XB.has(h:XB L es clock)(a:Int):(KC a es).isSome=(findH L a).isSome:=by rw[h.get];cases findH L a<;>rfl
theorem add_any(b:Nat)(L:TL)(lq:List Ab)(hq:IsX b L lq)(id:Int)(G:List Ab):
 Fn prog 141 [.pointer (some ⟨b,0,none⟩),.int .i64 id] (lq++G) λv l'=>v= .int .i64 (addD L id).1/\ ∃lq',IsX b (addD L id).2 lq'/\l'=lq'++G:=by
 have hq0:=hq;obtain⟨m,es,clock,rfl,hX⟩:=hq;refine AM func141 ntmps141 λE=>?_;by_cases h1:id<1
 ·rw[show addD L id=(2,L) by unfold addD;rw[Ad h1]];refine gz ?_;exact A9 .refl ⟨rfl,_,hq0,rfl⟩
 simp only[Ae,Ag];refine gz ?_;rw[hX.look,hX.has];refine gz ?_;refine AP e_alloc ?_;rintro _ _ ⟨b5,_,rfl,rfl⟩;iterate 4 refine tL ?_
 cases hf:findH L id with
 |some t=>rw[show addD L id=(11,L) by unfold addD;rw[Ac h1,hf];rfl];refine gz ?_;exact A9 (.drop .refl) ⟨rfl,_,hq0,rfl⟩
 |none=>rw[show addD L id=(0,insH L (ig id)) by unfold addD;rw[Ac h1,hf];rfl];refine gz ?_;refine Mu (KS (a:=id) (es:=es) (clock:=clock) rfl rfl rfl (by exact DI)) rfl rfl ?_;rintro _ _ ⟨rfl,rfl⟩;refine gz ?_;exact A9 (.drop .refl) ⟨rfl,_,⟨m,_,_,rfl,hX.add (t:=ig id) hf⟩,rfl⟩
theorem get_any(b:Nat)(L:TL)(lq:List Ab)(hq:IsX b L lq)(id:Int)(l:List Ab)(hsub: ∀c,c∈lq->c∈l):
 Fn prog 96 [.pointer (some ⟨b,0,none⟩),.int .i64 id] l λv l'=>v= .tuple #[thV ((findH L id).getD thZ),.bool (findH L id).isSome]/\l'=l:=by
 obtain⟨m,es,clock,rfl,hX⟩:=hq;have hm1:=hsub _ (.head _);have hm2:=hsub _ (.tail _ (.head _));refine AM func96 ntmps96 λE=>?_;refine HC λb4=>?_;rw[hX.look,hX.has];refine HC λb6=>?_;exact CF (l':=l) (thC b6 ((findH L id).getD thZ)::thC b4 ((findH L id).getD thZ)::l) .refl (.drop (.drop .refl)) ⟨rfl,rfl⟩
theorem set_any(b:Nat)(L:TL)(lq:List Ab)(hq:IsX b L lq)(t:ThT)(G:List Ab):
 Fn prog 97 [.pointer (some ⟨b,0,none⟩),thV t] (lq++G) λv l'=>v= .int .i64 (setD L t).1/\ ∃lq',IsX b (setD L t).2 lq'/\l'=lq'++G:=by
 have hq0:=hq;obtain⟨m,es,clock,rfl,hX⟩:=hq;refine AM func97 ntmps97 λE=>?_;simp only[Ae,Ag];refine HC λb3=>?_;refine Ch [10,11] 13 _ ?_ (hR:=(λ_ h=>h));refine pz ?_;rw[hX.look,hX.has];refine pz ?_;apply CM
 ·exact e_alloc
 ·rfl
 ·rfl
 ·rfl
 ·rintro _ _ ⟨b5,_,_,rfl⟩ c hc;exact .tail _ hc
 rintro _ _ ⟨b5,_,rfl,rfl⟩;refine pz ?_;cases hf:findH L t.id with
 |none=>rw[show setD L t=(2,L) by unfold setD;rw[hf];simp];refine gz ?_;exact A9 (.drop (.drop .refl)) ⟨rfl,_,hq0,rfl⟩
 |some u=>
  cases hM:mayH t with
  |false=>rw[show setD L t=(2,L) by unfold setD;rw[hf,hM];simp];refine gz ?_;refine Mv (AJ rfl rfl λl2 hl=>O6 t l2) rfl rfl rfl ?_;rw[hM];refine gz ?_;exact A9 (.drop (.drop .refl)) ⟨rfl,_,hq0,rfl⟩
  |true=>
   rw[show setD L t=(0,putH L t) by unfold setD;rw[hf,hM];simp];refine gz ?_;refine Mv (AJ rfl rfl λl2 hl=>O6 t l2) rfl rfl rfl ?_;rw[hM];refine gz ?_;refine Ch [7] 8 ([thC b3 t,xC b m]) ?_;refine pz ?_;apply M2
   ·exact KS (a:=t.id) (es:=es) (clock:=clock) rfl rfl rfl (by exact DI)
   ·rfl
   ·rfl
   ·rintro _ _ ⟨rfl,rfl⟩;exact BZ (by exact Ly)
   rintro _ _ ⟨rfl,rfl⟩;refine pz ?_;refine gz ?_;exact BA [] rfl (.drop (.drop .refl)) (by exact A8) ⟨rfl,_,⟨m,_,_,rfl,hX.put (by rw[hf];rfl)⟩,rfl⟩
abbrev xB(B:Nat)(v:Value):Ab:=(B,.cells #[v] 159 (0,0))
abbrev F6(B:Nat)(x:Int):Ab:=(B,.cells #[.int .i64 x] 3 (0,0))
theorem IL(v:Value)(h1:v.oneCell'=true)(l:List Ab):Fn prog 119 [v] l λr l'=> ∃B,r= .func (.func 174) #[] #[.pointer (some ⟨B,0,none⟩)]/\l'=xB B v::l:=by refine AM func119 ntmps119 λE=>?_;refine gz ?_;refine AP (Eb rfl h1) ?_;rintro _ _ ⟨B,hB,rfl,rfl⟩;refine gz ?_;exact A9 .refl ⟨B,rfl,rfl⟩
def thcs(L:TL):List Value:=L.flatMap encH
theorem cK(L:TL)(t:ThT):thcs (L++[t])=thcs L++encH t:=by simp[thcs]
theorem WE(gf:Nat)[EN prog gf](lb:List Value)(S Sp:TL->Prop)(Need:TL->List Ab->Prop)(hit:Fa prog gf lb (λt:ThT=>[thV t]) S Sp Need)(n:Nat)(hsp: ∀pre,Sp pre->pre.length<=n)(hn:n<=900000)(l:List Ab)(hneed: ∀pre l2,(∀c,c∈l->c∈l2)->Need pre l2):
 Fn prog 173 [.slice none 0 0,.func (.func gf) #[] lb.toArray] l λv l'=> ∃xs cs,S xs/\OwnSl 79 24 v xs.length (thcs xs) cs/\l'=cs++l:=by
 refine AM func173 ntmps173 λE=>?_;refine gz ?_;refine AP (Eb rfl rfl) ?_;rintro _ _ ⟨b2,hb2,rfl,rfl⟩;refine gz ?_;refine C0 (α:=ThT) (ps:=[7]) (lb:=lb) rfl hit (λ_=>rfl) rfl
  (λpre l=> ∃v cs,OwnSl 79 24 v pre.length (thcs pre) cs/\l=[(b2,.cells #[v] 46 (0,0))]++cs)
  (λc pre l=>False)
  _ l (λpre l2 X2 hX h=>by obtain⟨v,cs,_,rfl⟩:=h;exact hneed _ _ λc hc=>Aa _ (hX _ hc)) (by exact AS) ⟨_,[],OwnSl.nil _ _,rfl⟩ ?_ ?_ ?_
 ·rintro E r0 rec pre y l' T ⟨fn,tmps,Dd,rfl⟩ hT0 ⟨v,cs',hown,rfl⟩ hsp0;have hpl:=hsp _ hsp0;rw[Ai] at hpl;simp only[DG,Ae,Ag];refine HC λb5=>?_;refine Cy (.there (.there (Fg _ _ _ _ _))) ?_;generalize hX1:(r0,Obj.loop (Dz fn tmps _ _ _ Dd .busy none))::T=X1;refine gz ?_;refine AP (Fb (k:=24) rfl rfl rfl AX AX) ?_;rintro _ _ ⟨bl,_,rfl,rfl⟩;refine AP (GX (k:=24) (X:=[thC b5 y,(b2,.cells #[v] 46 (0,0))]) (cs:=cs') (F:=X1) (xs:=thcs pre) (n:=pre.length) (ws:=encH y) rfl rfl rfl hown rfl (by simp[Value.oneCell']) Af AX) ?_;rintro v' _ ⟨c2,ho2,rfl⟩;have hv1:v'.oneCell'=true:=ho2.one;simp only[Ae,Ag];refine gz ?_;rw[<-hX1];refine B0 _ (.drop .refl) ⟨v',c2,?_,rfl⟩;rw[Ai,cK];exact ho2
 ·rintro Dd xs l' hS ⟨v,cs',hown,rfl⟩;have hv1:v.oneCell'=true:=hown.one;simp only[Ae,Ag];refine gz ?_;refine AW [Dd] (cs'++l) rfl (l':=cs'++l) (by exact AS) (by exact A8) .refl ?_;exact⟨xs,cs',hS,hown,rfl⟩
 ·rintro Dd c pre l' hsp h;exact h.elim
theorem U5(gf:Nat)[EN prog gf](lb:List Value)(S Sp:TL->Prop)(Need:TL->List Ab->Prop)(hit:Fa prog gf lb (λt:ThT=>[thV t]) S Sp Need)(n:Nat)(hsp: ∀pre,Sp pre->pre.length<=n)(hn:n<=900000)(l:List Ab)(hneed: ∀pre l2,(∀c,c∈l->c∈l2)->Need pre l2):
 Fn prog 118 [.func (.func gf) #[] lb.toArray] l λv l'=> ∃xs cs,S xs/\OwnSl 79 24 v xs.length (thcs xs) cs/\l'=cs++l:=by
 refine AM func118 ntmps118 λE=>?_;refine gz ?_;refine AP (Az rfl rfl (WE gf lb S Sp Need hit n hsp hn l hneed)) ?_;rintro v _ ⟨xs,cs,hS,ho,rfl⟩;have hv1:v.oneCell'=true:=ho.one;refine gz ?_;refine A9 .refl ?_;exact⟨xs,cs,hS,ho,rfl⟩
theorem RS(mb:Option Nat)(l:List Ab):Fn prog 176 [.map mb] l λv l'=> ∃B,v= .func (.func 238) #[] #[.pointer (some ⟨B,0,none⟩)]/\l'=(B,.cells #[.map mb] 276 (0,0))::l:=by refine AM func176 ntmps176 λE=>?_;refine gz ?_;refine AP (Eb rfl rfl) ?_;rintro _ _ ⟨B,hB,rfl,rfl⟩;refine gz ?_;exact A9 .refl ⟨B,rfl,rfl⟩
theorem PM(B m clock:Nat)(es:List KB)(hnd:(es.map (·.2.2)).Nodup)(hst: ∀e,e∈es->e.2.2<clock):
 Fa prog 238 [.pointer (some ⟨B,0,none⟩)] (λk:Int=>[.int .i64 k]) (λxs=>xs.Perm (es.map (·.1))) (λpre=>pre.length<=es.length)
  (λ_ l=>(B,.cells #[.map (some m)] 276 (0,0))∈l/\(m,Fq .i64 es clock)∈l):=by
 refine⟨λq I Ix G0 hneed hY l G hG h0=>?_⟩;refine AM func238 ntmps238 λE=>?_;exact xV
theorem Nm(B m clock:Nat)(es:List KB)(hnd:(es.map (·.2.2)).Nodup)(hst: ∀e,e∈es->e.2.2<clock)(hn:es.length<=900000)(l:List Ab)(h1:(B,Obj.cells #[.map (some m)] 276 (0,0))∈l)(h2:(m,Fq .i64 es clock)∈l):
 Fn prog 175 [.func (.func 238) #[] #[.pointer (some ⟨B,0,none⟩)]] l λv l'=> ∃xs cs,xs.Perm (es.map (·.1))/\OwnSl 3 1 v (Ti xs).length ((Ti xs).map LZ) cs/\l'=cs++l:=
 RU 238 [.pointer (some ⟨B,0,none⟩)] _ es.length _ (PM B m clock es hnd hst) hn (λxs h=>by rw[h.length_eq];simp) l λ_ l2 hl=>⟨hl _ h1,hl _ h2⟩
end Th
end Go.Proofs.YtlkgekpmileobaaGreat
