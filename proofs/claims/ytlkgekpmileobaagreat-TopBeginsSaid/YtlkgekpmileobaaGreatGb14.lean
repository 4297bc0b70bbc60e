/- Laws that the statement's proof leans on (joined out of several texts). -/
import Derived.Test.YtlkgekpmileobaaGreatGb8
import Derived.Test.YtlkgekpmileobaaGreatGb13
import Derived.Test.YtlkgekpmileobaaGreatGb10
import Derived.Test.YtlkgekpmileobaaGreatGb11
import Derived.WalkKit
import Derived.ProofKit
import Derived.Test.YtlkgekpmileobaaGreatGb6
import Derived.Test.YtlkgekpmileobaaGreatGb7
set_option linter.unusedVariables false
set_option linter.unusedSimpArgs false
namespace Go.Proofs.YtlkgekpmileobaaGreat.Qu
open Tryz
open List(toArray)
open Go.RowKit
set_option maxRecDepth 20000
variable{ro:Option Nat}{N:Nat}{fr:Fr}
def allX(X:Nat->List Int)(pre:List Nat):List Int:=pre.flatMap X
theorem aG(X:Nat->List Int)(pre:List Nat)(y:Nat):allX X (pre++[y])=allX X pre++X y:=by simp[allX]
theorem VO(X:Nat->List Int)(N:Nat): ∀(pre:List Nat),(∀p∈pre,(X p).length<=N)->(allX X pre).length<=pre.length*N
 |[],_=>by simp[allX]
 |p::pre,h=>by have h1:=h p Ak;have h2:=VO X N pre λq hq=>h q (An _ hq);unfold allX at h2⊢;rw[Cm,Ah,Bi,Fq];omega
theorem aH(ne:Nat->Bool):(fallT ne 0).length<=8:=by unfold fallT;refine BW (C6 _ _) ?_;simp
set_option maxHeartbeats 400000
theorem all_any(b:Nat)(X:Nat->List Int)(lq:List Ab)(hq:IsQ b X lq)(hb: ∀p,p<8->(X p).length<=1000000)(l:List Ab)(hsub: ∀c,c∈lq->c∈l):
 Fn prog 79 [.pointer (some ⟨b,0,none⟩)] l λv l'=> ∃cs,OwnSl 3 1 v (allX X (fallT (neX X) 0)).length ((allX X (fallT (neX X) 0)).map CA) cs/\l'=cs++l:=by
 obtain⟨vs,cs,hqs,rfl⟩:=hq;have hsub2: ∀c,c∈Hp cs 8->c∈l:=λc hc=>hsub c (An _ hc);refine AO func79 ntmps79 λE=>?_;refine Hj λb3=>?_;refine AS (CZ rfl rfl (MH _ _)) ?_;rintro v l' ⟨B,hB,rfl,rfl⟩;refine gz ?_;refine CU (α:=Nat) (ps:=[8,9]) (lb:=[.pointer (some ⟨B,0,none⟩)]) rfl (Pc B b vs (λp=>(X p).length) hqs.shape) (λ_=>rfl) rfl
  (λpre l=> ∃v cs,OwnSl 3 1 v (allX X pre).length ((allX X pre).map CA) cs/\l=[(B,.cells #[.pointer (some ⟨b,0,none⟩)] 160 (0,0)),(b3,.cells #[v] 40 (0,0))]++cs)
  (λc pre l=>False)
  _ l (λpre l2 X2 hX h=>by obtain⟨v,cs,_,rfl⟩:=h;exact⟨List.Mem.head _,Aa _ (hX _ (hsub _ Ak))⟩) (by exact AR) ⟨_,[],OwnSl.nil _ _,rfl⟩ ?_ ?_ ?_
 ·rintro E r0 rec pre y l' T ⟨fn,tmps,D,rfl⟩ hT ⟨v,cs',hown,rfl⟩ hsp;have hy:=(K8 _ _ _).1 (GD hsp (Aa _ Ak));have hn0:0<(X y).length:=by have:=hy.2.2;simp at this;exact List.length_pos_iff.2 this
  have hplen:pre.length<8:=by have h1:=List.IsPrefix.length_le hsp;have h2:=aH (λp=>(X p).length !=0);simp at h1;omega
  have hlen:(allX X pre).length<=8000000:=by refine BW (VO X 1000000 pre λp hp=>hb p ?_) Af;exact((K8 _ _ _).1 (GD hsp (Ai _ hp))).2.1
  have hby:=hb y hy.2.1;obtain⟨a,cap,hv,hI⟩:=hqs.ints y hy.2.1 (Hp cs 8) (λ_ h=>h);obtain⟨gb,off,cc,t,fz,rfl,hm,hc⟩:=hI hn0;have hmT:(gb,Obj.cells cc t fz)∈T:=hT _ (hsub2 _ hm);simp only[Du,Ad,Ag];rw[hv];refine gz ?_;refine Cp (.there (.there (Fa _ _ _ _ _))) ?_;refine gz ?_;refine Bk (Keep.of_perm (Ay [(B,.cells #[.pointer (some ⟨b,0,none⟩)] 160 (0,0)),(b3,.cells #[v] 40 (0,0))] cs' _)) ?_;apply db
  ·apply Gk (xs:=(allX X pre).map CA) (news:=(X y).map CA) (zs:=[.int .i64 0]) (cl:=cc)
   ·rfl
   ·rfl
   ·rfl
   ·exact hown
   ·exact Aa _ (.tail _ (.tail _ (.tail _ hmT)))
   ·intro j u hj;rw[A0,DJ] at hj;obtain⟨x,hx,rfl⟩:=hj;have:=hc j x hx;rwa [Dh] at this
   ·simp
   ·intro u hu;rw[Au] at hu;obtain⟨a,_,rfl⟩:=hu;rfl
   ·unfold maxLen;omega
   ·omega
  ·rfl
  ·rfl
  ·rfl
  rintro v' _ ⟨cs2,hown',rfl⟩;have hv1:v'.oneCell'=true:=hown'.one;refine Bk (Keep.of_perm (Ay cs2 [(B,.cells #[.pointer (some ⟨b,0,none⟩)] 160 (0,0)),(b3,.cells #[v] 40 (0,0))] _)) ?_;simp only[Ad,Ag];refine gz ?_;refine B9 _ (.refl) ⟨v',cs2,?_,rfl⟩;rw[aG,Ah,Ap];exact hown'
 ·rintro D xs l' rfl ⟨v,cs',hown,rfl⟩;simp only[Ad,Ag];refine gz ?_;refine AU [D] (cs'++l) rfl (l':=cs'++l) (by exact AR) (by exact A7) .refl ?_;exact⟨cs',hown,rfl⟩
 ·rintro D c pre l' hsp h;exact h.elim
def noX:Nat->List Int:=λ_=>[]
theorem jz:QS noX (λ_=> .slice none 0 0) (λ_=>[]):=⟨λp hp=>OwnSl.nil _ _⟩
theorem aI(v:Value):(Array.ofFn (n:=8) λi=>(λ_=>v) i.val)=toArray [v,v,v,v,v,v,v,v]:=Bv
theorem new_any(l:List Ab):Fn prog 133 [] l λv l'=> ∃b,v= .pointer (some ⟨b,0,none⟩)/\ ∃lq,IsQ b noX lq/\l'=lq++l:=by refine AO func133 ntmps133 λE=>?_;refine gz ?_;refine AS (CR rfl) ?_;rintro _ _ ⟨b,hb,rfl,rfl⟩;refine gz ?_;exact By [] rfl .refl (by exact A7) ⟨b,rfl,[qC b λ_=> .slice none 0 0],⟨_,_,jz,rfl⟩,by rw[qC,aI];rfl⟩
theorem OpE.re{P:Program}{l l2:List Ab}{o:Oper}{K K':Value->List Ab->Prop}(k:Keep l l2)(h:OpE P ro N fr l2 o K)(hk: ∀v l',K v l'-> ∃l3,Keep l' l3/\K' v l3):OpE P ro N fr l o K':=
 ⟨h.nodef,λE a W hf hs=>(h.val E a W hf (k.sat hs)).mono λv W' ⟨l',h1,h2⟩=>by obtain⟨l3,h3,h4⟩:=hk v l' h1;exact⟨l3,h4,h3.sat h2⟩⟩
theorem Tm(cs:Nat->List Ab)(p:Nat)(hp:p<8)(c:List Ab):(c++Hp (upd cs p []) 8).Perm (Hp (upd cs p c) 8):=by have h:=Lw (upd cs p c) p 8 hp;rw[DB,Zf] at h;exact h.symm
section
variable{d:Option Nat}{ty:TypeId}{pos:String}{aft:Array Edge}{g:Option (Nat×Bool)}
theorem dY{s x:Operand}{X:Nat->List Int}{vs:Nat->Value}{cs:Nat->List Ab}{p b bl:Nat}{id:Int}{F:List Ab}(hqs:QS X vs cs)(hp:p<8)(hlen:(X p).length<=1000000)(hx:ev fr s=some (vs p))(hy:ev fr x=some (.slice (some ⟨bl,0,none⟩) 1 1)):
 OpE prog ro N fr ((bl,.cells (toArray [.int .i64 id]) 3 (0,0))::qC b vs::(Hp cs 8++F)) ⟨d,.call {callee:= .builtin .append,args:=#[s,x],argTypes:=#[40,40]},ty,pos,aft,g⟩
  (λv' l'=> ∃c2,OwnSl 3 1 v' (X p++[id]).length ((X p++[id]).map CA) c2/\l'=qC b vs::(Hp (upd cs p c2) 8++F)):=by
 have hpm:((bl,Obj.cells (toArray [.int .i64 id]) 3 (0,0))::qC b vs::(Hp cs 8++F)).Perm (cs p++((bl,Obj.cells (toArray [.int .i64 id]) 3 (0,0))::qC b vs::(Hp (upd cs p []) 8++F))):=by refine(List.Perm.cons _ (List.Perm.cons _ ((Lw cs p 8 hp).append_right F))).trans ?_;rw[Al];exact Ay [(bl,Obj.cells (toArray [.int .i64 id]) 3 (0,0)),qC b vs] (cs p) _
 refine OpE.re (Keep.of_perm hpm) (Gk (k:=1) (yb:=8) (xs:=(X p).map CA) (news:=[.int .i64 id]) (zs:=[.int .i64 0]) hx hy rfl (hqs.own p hp) (Aa _ Ak) (λj u hj=>by simpa using hj) rfl (by simp[Value.oneCell']) (by unfold maxLen;omega) Af) ?_;rintro v' _ ⟨c2,ho,rfl⟩;refine⟨_,?_,c2,by rw[Ah,Ap];exact ho,rfl⟩;refine Keep.trans (Keep.of_perm (Ay c2 [(bl,Obj.cells (toArray [.int .i64 id]) 3 (0,0)),qC b vs] _)) (.drop (.of_perm ?_));refine List.Perm.cons _ ?_;show List.Perm (c2++(Hp (upd cs p []) 8++F)) _;rw[<-Al];exact(Tm cs p hp c2).append_right F
end
def addQ(X:Nat->List Int)(id prio:Int):Int×(Nat->List Int):=
 if id<1\/prio<0\/7<prio then(2,X) else if(findP X id).isSome then(16,X) else(0,upd X prio.toNat (X prio.toNat++[id]))
theorem add_any(b:Nat)(X:Nat->List Int)(lq:List Ab)(id prio:Int)(hq:IsQ b X lq)(hb: ∀p,p<8->(X p).length<=1000000)(F:List Ab):
 Fn prog 152 [.pointer (some ⟨b,0,none⟩),.int .i64 id,.int .i64 prio] (lq++F) λv l'=>v= .int .i64 (addQ X id prio).1/\ ∃lq',IsQ b (addQ X id prio).2 lq'/\l'=lq'++F:=by
 have H:=jy b X lq id hq hb;obtain⟨vs,cs,hqs,rfl⟩:=hq;refine AO func152 ntmps152 λE=>?_;simp only[Ad];by_cases h0:id<1\/prio<0\/7<prio
 ·have e:addQ X id prio=(2,X):=Ae h0;rw[e];rcases h0 with h0|h0|h0
  ·refine gz ?_;exact A8 .refl ⟨rfl,_,⟨vs,cs,hqs,rfl⟩,rfl⟩
  ·by_cases h1:id<1
   ·refine gz ?_;exact A8 .refl ⟨rfl,_,⟨vs,cs,hqs,rfl⟩,rfl⟩
   ·refine gz ?_;exact A8 .refl ⟨rfl,_,⟨vs,cs,hqs,rfl⟩,rfl⟩
  ·by_cases h1:id<1
   ·refine gz ?_;exact A8 .refl ⟨rfl,_,⟨vs,cs,hqs,rfl⟩,rfl⟩
   ·refine gz ?_;exact A8 .refl ⟨rfl,_,⟨vs,cs,hqs,rfl⟩,rfl⟩
 ·obtain⟨p,rfl⟩: ∃p:Nat,prio=p:=⟨prio.toNat,Af⟩
  have hp:p<8:=by omega
  refine gz ?_;refine Bc (AK rfl rfl (λl2 hl=>H l2 λc hc=>hl c (Ai F hc))) ?_;cases hf:(findP X id).isSome with
  |true=>
   have e:addQ X id p=(16,X):=by unfold addQ;rw[Ac h0,Ae hf]
   rw[e];refine gz ?_;exact A8 .refl ⟨rfl,_,⟨vs,cs,hqs,rfl⟩,rfl⟩
  |false=>
   have e:addQ X id p=(0,upd X p (X p++[id])):=by unfold addQ;rw[Ac h0,Ac (by rw[hf];simp),A3]
   rw[e];have hg:=Ut vs p hp;obtain⟨v,hv⟩: ∃v,vs p=v:=⟨_,rfl⟩
   rw[hv] at hg;refine gz ?_;refine KH [(0,true),(1,true),(2,true),(3,true),(4,true),(5,true),(6,true),(7,true),(8,true),(11,true),(12,true),(9,false),(10,false),(13,true),(14,false)] [[],[],[],[],[2],[2,4],[2,3,4,5],[2,3,4,5,6],[],[8],[2,3,4,5,6,7,8,9],[0],[0,11],[0,1,2,3,4,5,6,7,8,9,10,11,12],[0,1,2,3,4,5,6,7,8,9,10,11,12,13]] ([]) Bv Bv Gh Sn ?_;refine pz ?_;apply FD (S:=[qC b vs])
   ·exact Dv rfl Ak hg
   ·intro c hc;cases hc with
    |head=>exact Ak
    |tail _ h=>cases h
   ·rfl
   ·rfl
   ·rfl
   refine pz ?_;apply Gq
   ·exact JL rfl rfl
   ·rfl
   ·rfl
   ·rfl
   ·intro _ _ _ c hc;cases hc
   ·rintro _ _ ⟨bl,_,rfl,rfl⟩ x hx _ c hc;cases hx with
    |head=>cases hc with
     |head=>exact .tail _ (.head _)
     |tail _ h=>cases h
    |tail _ h=>cases h
   rintro _ _ ⟨bl,_,rfl,rfl⟩;refine pz ?_;apply Gq
   ·exact dY hqs hp (hb p hp) (by rw[hv];rfl) rfl
   ·rfl
   ·rfl
   ·rfl
   ·intro _ _ _ c hc;cases hc
   ·exact λ_ _ _ x hx ha=>CV Bv hx ha
   rintro v' _ ⟨c2,ho,rfl⟩;have hv1:v'.oneCell'=true:=ho.one;refine pz ?_;apply GH
   ·exact C7 rfl rfl hv1 .here (by simp[hp])
   ·rfl
   ·rfl
   ·intro _ _ _ c hc;cases hc
   ·exact λ_ _ _ x hx ha=>CV Bv hx ha
   rintro _ _ ⟨rfl,rfl⟩;rw[Xv vs p hp v'];refine pz ?_;refine gz ?_;refine A8 .refl ⟨rfl,_,⟨_,_,hqs.upd p _ v' c2 ho,rfl⟩,rfl⟩
end Go.Proofs.YtlkgekpmileobaaGreat.Qu
namespace Go.Proofs.YtlkgekpmileobaaGreat.En
open Tryz
open List(toArray)
open Go.RowKit
open Qu
set_option maxRecDepth 20000
variable{b m clock:Nat}{lq:List Ab}{a:Int}
structure Row where
 id:Int
 th:List Int
 sd:Bool
 pb:Nat
 v:Value
 cs:List Ab
 st:Nat
variable{rows:List Row}{r:Row}
def Row.ent(r:Row):Kl:=(r.id,.pointer (some ⟨r.pb,0,none⟩),r.st)
abbrev Row.bl(r:Row):Ab:=(r.pb,.cells (toArray [r.v,.bool r.sd]) 354 (0,0))
def Row.ch(r:Row):List Ab:=r.bl::r.cs
def Row.d(r:Row):Int×List Int×Bool:=(r.id,r.th,r.sd)
abbrev Pd(b m:Nat):Ab:=(b,.cells #[.map (some m)] 345 (0,0))
structure EB(b:Nat)(rows:List Row)(m clock:Nat)(lq:List Ab):Prop where
 eq:lq=Pd b m::(m,Fh .i64 (rows.map Row.ent) clock)::rows.flatMap Row.ch
 own: ∀r,r∈rows->OwnSl 3 1 r.v r.th.length (r.th.map CA) r.cs
 st: ∀r,r∈rows->r.st<clock
 nd:(rows.map Row.st).Nodup
 ids:(rows.map Row.id).Nodup
abbrev DE:=List (Int×List Int×Bool)
def IsE(b:Nat)(D:DE)(lq:List Ab):Prop:= ∃rows m clock,rows.map Row.d=D/\EB b rows m clock lq
theorem EB.m1(h:EB b rows m clock lq):Pd b m∈lq:=by rw[h.eq];exact .head _
theorem EB.m2(h:EB b rows m clock lq):(m,Fh .i64 (rows.map Row.ent) clock)∈lq:=by rw[h.eq];exact .tail _ (.head _)
theorem EB.m3(h:EB b rows m clock lq)(hr:r∈rows){c:Ab}(hc:c∈r.ch):c∈lq:=by rw[h.eq];exact .tail _ (.tail _ (ID.2 ⟨r,hr,hc⟩))
theorem EB.ints{l:List Ab}(h:EB b rows m clock lq)(hr:r∈rows)(hs: ∀c,c∈lq->c∈l):Tk l r.v r.th:=(h.own r hr).intsQ λc hc=>hs c (h.m3 hr (.tail _ hc))
theorem Re{α β:Type}{f:α->β}: ∀{l:List α},(l.map f).Nodup-> ∀{x y:α},x∈l->y∈l->f x=f y->x=y
 |[],_,x,y,h,_,_=>by cases h
 |z::l,hn,x,y,hx,hy,e=>by
  rw[AJ,AM] at hn;rcases Aq.1 hx with h1|h1<;>rcases Aq.1 hy with h2|h2
  ·rw[h1,h2]
  ·exact absurd (Au.2 ⟨y,h2,by rw[<-e,h1]⟩) hn.1
  ·exact absurd (Au.2 ⟨x,h1,by rw[e,h2]⟩) hn.1
  ·exact Re hn.2 h1 h2 e
theorem Tn{α:Type}{p q:α->Bool}(hpq: ∀x,p x=true->q x=true): ∀{l:List α} {x:α},x∈l->q x=true->p x=false->(l.filter p).length<(l.filter q).length
 |[],x,h,_,_=>by cases h
 |y::l,x,h,hq,hp=>by
  have hle: ∀(l:List α),(l.filter p).length<=(l.filter q).length:=λl=>by
   induction l with
   |nil=>exact A5 _
   |cons z l ih=>
    rw[ET,ET]
    split
    ·rename_i h1;rw[Ae (hpq z h1)];exact Nat.succ_le_succ ih
    ·split
     ·exact Ez ih
     ·exact ih
  rw[ET,ET];rcases Aq.1 h with rfl|h
  ·rw[hp,Ac (by simp),Ae hq];exact Nat.lt_succ_of_le (hle l)
  ·have ih:=Tn hpq h hq hp
   split
   ·rename_i h1;rw[Ae (hpq y h1)];exact Nat.succ_lt_succ ih
   ·split
    ·exact Kd ih
    ·exact ih
set_option maxHeartbeats 400000
theorem new_any(l:List Ab):Fn prog 134 [] l λv l'=> ∃b,v= .pointer (some ⟨b,0,none⟩)/\ ∃lq,IsE b [] lq/\l'=lq++l:=by refine AO func134 ntmps134 λE=>?_;refine gz ?_;refine AS Na ?_;rintro _ _ ⟨m,hm,rfl,rfl⟩;refine gz ?_;refine AS (CR rfl) ?_;rintro _ _ ⟨b,hb,rfl,rfl⟩;refine gz ?_;exact By [] rfl .refl (by exact A7) ⟨b,rfl,[Pd b m,(m,.map #[] 0)],⟨[],m,0,rfl,⟨rfl,by simp,by simp,by simp,by simp⟩⟩,rfl⟩
def findD(D:DE)(id:Int):Option (List Int×Bool):=(D.find? λx=>x.1==id).map (·.2)
def addD(D:DE)(id:Int):Int×DE:=if id<1 then(2,D) else if(findD D id).isSome then(11,D) else(0,D++[(id,[],false)])
def dropD(D:DE)(id:Int):List Int×Int×DE:=match findD D id with
 |some x=>(x.1,0,D.eraseP λx=>x.1==id)
 |none=>([],2,D)
def listD(D:DE)(id:Int):List Int×Bool:=match findD D id with
 |some x=>if x.1.length=0 then([],false) else x
 |none=>([],false)
theorem Nb(h: ∀r,r∈rows->r.id≠a):J4 a (rows.map Row.ent)=none:=by
 unfold J4;rw[Lr.2 λe he=>by rw[Au] at he;obtain⟨r,hr,rfl⟩:=he;exact h r hr];rfl
theorem Nc(hn:(rows.map Row.id).Nodup)(hr:r∈rows):J4 r.id (rows.map Row.ent)=some (.pointer (some ⟨r.pb,0,none⟩)):=by
 unfold J4;cases h:Gg r.id (rows.map Row.ent) 0 with
 |none=>have:=Lr.1 h _ (Au.2 ⟨r,hr,rfl⟩);exact absurd rfl this
 |some p=>obtain⟨i,v⟩:=p;obtain⟨_,e,he,h1,h2,_⟩:=NU h;have hm:=A9 he;rw[Au] at hm;obtain⟨r',hr',rfl⟩:=hm;have:r'=r:=Re hn hr' hr h1;subst this;rw[<-h2];rfl
theorem Lx(h: ∀r,r∈rows->r.id≠a):findD (rows.map Row.d) a=none:=by
 unfold findD;rw[Bu.2 λx hx=>by rw[Au] at hx;obtain⟨r,hr,rfl⟩:=hx;simpa[Row.d] using h r hr];rfl
theorem JO(hn:(rows.map Row.id).Nodup)(hr:r∈rows):findD (rows.map Row.d) r.id=some (r.th,r.sd):=by unfold findD;have hs:((rows.map Row.d).find? λx=>x.1==r.id).isSome=true:=List.find?_isSome.2 ⟨r.d,Au.2 ⟨r,hr,rfl⟩,by simp[Row.d]⟩;obtain⟨x,hx⟩:=Hl.1 hs;rw[hx];have h1:=Ei hx;have hm:=BN hx;rw[Au] at hm;obtain⟨r',hr',rfl⟩:=hm;have:r'=r:=Re hn hr' hr (by simpa[Row.d] using h1);subst this;rfl
theorem aJ(h: ∀r,r∈rows->r.id≠a)(v:Value)(clock:Nat):Mw a v clock (rows.map Row.ent)=(rows.map Row.ent++[(a,v,clock)],clock+1):=by
 unfold Mw;rw[Lr.2 λe he=>by rw[Au] at he;obtain⟨r,hr,rfl⟩:=he;exact h r hr]
theorem To{a:Int}{v:Value}{s:Nat}: ∀(A B:List Kl) (i:Nat),(∀x,x∈A->x.1≠a)->Gg a (A++(a,v,s)::B) i=some (i+A.length,v)
 |[],B,i,_=>by simp[Gg]
 |x::A,B,i,h=>by have:=h x Ak;rw[Ad,Gg,Ac (λe=>this e.symm),To A B (i+1) λy hy=>h y (An _ hy)];simp;omega
theorem dZ{v:Value}{s:Nat}(A B:List Kl)(h: ∀x,x∈A->x.1≠a):NT a (A++(a,v,s)::B)=A++B:=by unfold NT;rw[To A B 0 h];simp only[Bw];rw[HU (A5 _),Dr];rfl
theorem EB.split(h:EB b rows m clock lq)(hr:r∈rows): ∃A B,rows=A++r::B/\(∀x,x∈A->x.id≠r.id)/\(∀x,x∈B->x.id≠r.id):=by obtain⟨A,B,rfl⟩:=FX hr;have hn:=h.ids;rw[Ap,AJ,Bs] at hn;obtain⟨h1,h2,h3⟩:=hn;rw[AM] at h2;exact⟨A,B,rfl,λx hx e=>h3 _ (Au.2 ⟨x,hx,rfl⟩) _ Ak e,λx hx e=>h2.1 (Au.2 ⟨x,hx,e⟩)⟩
theorem add_any(b:Nat)(D:DE)(lq:List Ab)(id:Int)(hq:IsE b D lq)(F:List Ab):
 Fn prog 142 [.pointer (some ⟨b,0,none⟩),.int .i64 id] (lq++F) λv l'=>v= .int .i64 (addD D id).1/\ ∃lq',IsE b (addD D id).2 lq'/\l'=lq'++F:=by
 obtain⟨rows,m,clock,rfl,hE⟩:=hq;refine AO func142 ntmps142 λE=>?_;by_cases h0:id<1
 ·rw[show addD (rows.map Row.d) id=(2,rows.map Row.d) from Ae h0];refine gz ?_;exact A8 .refl ⟨rfl,_,⟨rows,m,clock,rfl,hE⟩,rfl⟩
 have hEq:=hE.eq;by_cases h1: ∃r,r∈rows/\r.id=id
 ·obtain⟨r,hr,rfl⟩:=h1;have hg:=Nc hE.ids hr;rw[show addD (rows.map Row.d) r.id=(11,rows.map Row.d) by unfold addD;rw[Ac h0,JO hE.ids hr];rfl];rw[hEq];simp only[Ad];refine gz ?_;rw[hg];refine gz ?_;refine By [] rfl .refl (by exact A7) ⟨rfl,_,⟨rows,m,clock,rfl,hE⟩,by rw[hEq];rfl⟩
 ·have hno: ∀r,r∈rows->r.id≠id:=λr hr e=>h1 ⟨r,hr,e⟩;have hg:=Nb hno;rw[show addD (rows.map Row.d) id=(0,rows.map Row.d++[(id,[],false)]) by unfold addD;rw[Ac h0,Lx hno];rfl];rw[hEq];simp only[Ad];refine gz ?_;rw[hg];refine gz ?_;refine AS (CR rfl) ?_;rintro _ _ ⟨pb,hpb,rfl,rfl⟩;refine LV (Kn rfl rfl rfl (by exact Dw)) rfl rfl ?_;rintro _ _ ⟨rfl,rfl⟩;rw[aJ hno];refine gz ?_;obtain⟨r,hr⟩: ∃r:Row,r=⟨id,[],false,pb,.slice none 0 0,[],clock⟩:=⟨_,rfl⟩
  refine By [] rfl (l':=(Pd b m::(m,Fh .i64 ((rows++[r]).map Row.ent) (clock+1))::(rows++[r]).flatMap Row.ch)++F) ?_ (by exact A7) ⟨rfl,_,⟨rows++[r],m,clock+1,by rw[Ap,hr];rfl,⟨rfl,λx hx=>?_,λx hx=>?_,?_,?_⟩⟩,rfl⟩
  ·rw[Ap,DL,hr];refine .of_perm ?_;show List.Perm ((pb,_)::Pd b m::(m,_)::(rows.flatMap Row.ch++F)) (Pd b m::(m,_)::((rows.flatMap Row.ch++[_])++F));refine(List.Perm.swap _ _ _).trans (List.Perm.cons _ ((List.Perm.swap _ _ _).trans (List.Perm.cons _ ?_)));rw[Al];exact AH.symm
  ·rcases AF.1 hx with hx|hx
   ·exact hE.own x hx
   ·rw[AA.1 hx,hr];exact OwnSl.nil _ _
  ·rcases AF.1 hx with hx|hx
   ·exact Kd (hE.st x hx)
   ·rw[AA.1 hx,hr];exact GW _
  ·rw[Ap,Bs];refine⟨hE.nd,by simp,λx hx y hy=>?_⟩;rw[Au] at hx hy;obtain⟨x',hx',rfl⟩:=hx;obtain⟨y',hy',rfl⟩:=hy;have:=hE.st x' hx';rw[AA.1 hy',hr];simp only;omega
  ·rw[Ap,Bs];refine⟨hE.ids,by simp,λx hx y hy=>?_⟩;rw[Au] at hx hy;obtain⟨x',hx',rfl⟩:=hx;obtain⟨y',hy',rfl⟩:=hy;rw[AA.1 hy',hr];exact hno x' hx'
end Go.Proofs.YtlkgekpmileobaaGreat.En
namespace Go.Proofs.YtlkgekpmileobaaGreat.As
open Tryz
open List(toArray)
open Go.RowKit
set_option maxRecDepth 20000
variable{α:Type}
structure ASt where
 obj:Nat->Int
 dead:Nat->Bool
 root:Nat->Int
 ser:Nat->Int
 given:Nat->Int
def ASt.at(s:ASt)(j:Nat):Value:=
 if j<80 then
  (if j%10=0 then .int .i64 (s.obj (j/10))
   else if j%10=1 then .bool (s.dead (j/10))
   else if j%10<6 then .int .i64 (s.root (4*(j/10)+(j%10-2)))
   else .int .i64 (s.ser (4*(j/10)+(j%10-6))))
 else .int .i64 (s.given (j-80))
def ASt.cells(s:ASt):Array Value:=Array.ofFn (n:=112) λi=>s.at i.val
theorem ASt.cells_get(s:ASt)(j:Nat)(h:j<112):s.cells[j]?=some (s.at j):=by simp[ASt.cells,h]
theorem ASt.cells_size(s:ASt):s.cells.size=112:=by simp[ASt.cells]
def upd{α:Type}(f:Nat->α)(k:Nat)(v:α):Nat->α:=λi=>if i=k then v else f i
theorem DB(f:Nat->α)(k:Nat)(v:α):upd f k v k=v:=by simp[upd]
theorem C3(f:Nat->α)(k i:Nat)(v:α)(h:i≠k):upd f k v i=f i:=by simp[upd,h]
theorem Nd(s s':ASt)(k:Nat)(v:Value)(hk:k<112)(h1:s'.at k=v)(h2: ∀j,j<112->j≠k->s'.at j=s.at j):s.cells.setIfInBounds k v=s'.cells:=by
 apply Array.ext
 ·simp[ASt.cells]
 ·intro j hj1 hj2;have hj:j<112:=by simpa[ASt.cells] using hj2
  rw[Array.getElem_setIfInBounds (by simpa[ASt.cells] using hj)];by_cases e:k=j
  ·subst e;simp[ASt.cells,h1]
  ·rw[Ac e];simp[ASt.cells,h2 j hj (λh=>e h.symm)]
def D4(p:Nat->Bool)(k:Nat):Option Nat:=(List.range k).find? p
theorem G3(p:Nat->Bool)(k:Nat):D4 p (k+1)=(D4 p k).or (if p k then some k else none):=by unfold D4;rw[Cs,DP];cases h:p k<;>simp[List.find?,h]
theorem Oy(p:Nat->Bool)(k:Nat):D4 p k=none<-> ∀i,i<k->p i=false:=by unfold D4;simp
theorem Kp(p:Nat->Bool)(k m:Nat)(hm:m<k)(hp:p m=true)(h:D4 p m=none):D4 p k=some m:=by
 have: ∀d,D4 p (m+1+d)=some m:=by
  intro d
  induction d with
  |zero=>rw[CN,G3,h,hp];rfl
  |succ d ih=>rw[<-IP,G3,ih];rfl
 have:=this (k-(m+1));rwa [show m+1+(k-(m+1))=k by omega] at this
theorem Oz(p:Nat->Bool)(k m:Nat)(h:D4 p k=some m):m<k/\p m=true/\ ∀i,i<m->p i=false:=by
 unfold D4 at h;have h1:=Ei h;have h2:=BN h;refine⟨by simpa using h2,h1,λi hi=>?_⟩;cases hb:p i
 ·rfl
 ·exfalso;have hk:m<k:=by simpa using h2
  have hf:D4 p i=none\/ ∃q,D4 p i=some q:=by cases D4 p i<;>simp
  have key: ∀n,n<=k-> ∀q,D4 p n=some q->D4 p k=some q:=by
   intro n hn q hq;have: ∀d,D4 p (n+d)=some q:=by
    intro d
    induction d with
    |zero=>exact hq
    |succ d ih=>rw[<-IP,G3,ih];rfl
   have:=this (k-n);rwa [show n+(k-n)=k by omega] at this
  rcases hf with hf|⟨q,hf⟩
  ·have:=Kp p k i Af hb hf;have e:D4 p k=some m:=h;rw[this] at e;cases e;omega
  ·have:=key i Af q hf;have e:D4 p k=some m:=h;rw[this] at e;obtain rfl:q=m:=AV e;have:q<i:=by unfold D4 at hf;have:=BN hf;simpa using this
   omega
abbrev asA(b:Nat)(s:ASt):Ab:=(b,.cells s.cells 242 (0,0))
theorem ASt.c_obj(s:ASt)(p:Nat)(hp:p<8):s.cells[p*10]?=some (.int .i64 (s.obj p)):=by rw[s.cells_get _ Af];unfold ASt.at;rw[Ae Af,Ae Af,show p*10/10=p by omega]
theorem ASt.c_dead(s:ASt)(p:Nat)(hp:p<8):s.cells[p*10+1]?=some (.bool (s.dead p)):=by rw[s.cells_get _ Af];unfold ASt.at;rw[Ae Af,Ac Af,Ae Af,show(p*10+1)/10=p by omega]
theorem ASt.c_root(s:ASt)(p i:Nat)(hp:p<8)(hi:i<4):s.cells[p*10+2+i*1]?=some (.int .i64 (s.root (4*p+i))):=by rw[s.cells_get _ Af];unfold ASt.at;rw[Ae Af,Ac Af,Ac Af,Ae Af,show 4*((p*10+2+i*1)/10)+((p*10+2+i*1)%10-2)=4*p+i by omega]
theorem ASt.c_ser(s:ASt)(p i:Nat)(hp:p<8)(hi:i<4):s.cells[p*10+6+i*1]?=some (.int .i64 (s.ser (4*p+i))):=by rw[s.cells_get _ Af];unfold ASt.at;rw[Ae Af,Ac Af,Ac Af,Ac Af,show 4*((p*10+6+i*1)/10)+((p*10+6+i*1)%10-6)=4*p+i by omega]
theorem ASt.c_given(s:ASt)(n:Nat)(hn:n<32):s.cells[80+n*1]?=some (.int .i64 (s.given n)):=by rw[s.cells_get _ Af];unfold ASt.at;rw[Ac Af,show 80+n*1-80=n by omega]
def atO(s:ASt)(o:Int):Option Nat:=if o<1 then none else D4 (λp=>s.obj p==o) 8
def Up(s:ASt)(o:Int):Int:=match atO s o with|some p=>(p:Int)|none=> -1
set_option maxHeartbeats 1000000 in
theorem II(b:Nat)(s:ASt)(o:Int)(l:List Ab)(hm:asA b s∈l):
 Fn prog 192 [.pointer (some ⟨b,0,none⟩),.int .i64 o] l λv l'=>v= .int .i64 (Up s o)/\l'=l:=by
 refine AO func192 ntmps192 λE=>?_;refine gz ?_;refine jh rfl (λho=>?_) (λho=>?_)
 ·refine gz ?_;refine A8 .refl ⟨?_,rfl⟩;simp[Iw,Up,atO,ho]
 ·refine gz ?_;refine Cu (α:=Nat) (λk=>[(0,.pointer (some ⟨b,0,none⟩)),(1,.int .i64 o),(12,.int .i64 k)]) (λk=>l) (λk=>k<=8/\D4 (λp=>s.obj p==o) k=none) (λk=>8-k) 0 ⟨Af,rfl⟩ ⟨rfl,rfl,rfl,trivial⟩ .refl ?_;rintro k ⟨hk,hf⟩;by_cases hlt:k<8
  ·have hc:=s.c_obj k hlt;refine gz ?_;refine jh rfl (λhq=>?_) (λhq=>?_)
   ·refine gz ?_;refine A8 .refl ⟨?_,rfl⟩;simp only[Iw,Up,atO,Ac ho];rw[Kp _ 8 k hlt (by simp[hq]) hf]
   ·refine gz ?_;exact BS (k+1) ⟨Af,by rw[G3,hf];simp[hq]⟩ Af ⟨rfl,rfl,rfl,trivial⟩ .refl
  ·obtain rfl:k=8:=by omega
   refine gz ?_;refine A8 .refl ⟨?_,rfl⟩;simp only[Iw,Up,atO,Ac ho];rw[hf]
def GL(p k:Nat):List (Fin 4):=(List.range k).filterMap λi=>if h:i<4 then(if 4*p+i=0 then none else some ⟨i,h⟩) else none
def PY(p:Nat):List (Fin 4):=GL p 4
theorem Kq(p k:Nat)(hk:k<4):GL p (k+1)=GL p k++if 4*p+k=0 then[] else[⟨k,hk⟩]:=by unfold GL;rw[Cs,List.filterMap_append];congr 1;simp only[List.filterMap_cons,List.filterMap_nil,dif_pos hk];by_cases h:4*p+k=0<;>simp only[h,CT,CS]
theorem Xw(p k m:Nat)(h:k<=m)(hm:m<=4):GL p k<+:GL p m:=by
 induction m with
 |zero=>obtain rfl:k=0:=by omega
        exact Ga
 |succ m ih=>
  by_cases hk:k=m+1
  ·subst hk;exact Ga
  ·rw[Kq _ _ Af];exact(ih Af Af).trans (FZ _ _)
set_option maxHeartbeats 1000000 in
theorem MJ(p:Nat)(l:List Ab):Fn prog 195 [.int .i64 p] l λv l'=> ∃B,(∀c,c∈l->c.1≠B)/\v= .func (.func 253) #[] #[.pointer (some ⟨B,0,none⟩)]/\l'=(B,.cells #[.int .i64 p] 3 (0,0))::l:=by refine AO func195 ntmps195 λE=>?_;refine gz ?_;refine AS (DZ rfl rfl) ?_;rintro _ _ ⟨B,hB,rfl,rfl⟩;refine gz ?_;exact A8 .refl ⟨B,hB,rfl,rfl⟩
set_option maxHeartbeats 1000000 in
theorem KI(B p:Nat)(hp:p<8):E2 prog 253 [.pointer (some ⟨B,0,none⟩)] (λi:Fin 4=>[.int .i64 ((4*p+i.val:Nat):Int),.int .i64 (i.val:Nat)]) (λxs=>xs=PY p) (λpre=>pre<+:PY p)
 (λ_ l=>(B,.cells #[.int .i64 p] 3 (0,0))∈l):=by
 refine⟨λr I Ix G0 hneed hY l G hG h0=>?_⟩;refine AO func253 ntmps253 λE=>?_;refine gz ?_;refine Cu (α:=Nat×List Ab) (λx=>[(0,.func (.yield r) #[] #[]),(1,.pointer (some ⟨B,0,none⟩)),(5,.int .i64 x.1)]) (λx=>x.2++G) (λx=>x.1<=4/\I (GL p x.1) x.2) (λx=>4-x.1) (0,l) ⟨by simp,h0⟩ ⟨rfl,rfl,rfl,trivial⟩ .refl ?_;rintro⟨k,l⟩ ⟨hk,hI⟩;simp only at hk hI⊢;by_cases hlt:k<4
 ·have hm:=hneed _ _ G hG hI;by_cases hz:4*p+k=0
  ·have e1:GL p (k+1)=GL p k:=by rw[Kq _ _ hlt,Ae hz];simp
   refine gz ?_;exact BS (k+1,l) ⟨by simp;omega,by simp only;rw[e1];exact hI⟩ (by simp;omega) ⟨rfl,rfl,rfl,trivial⟩ .refl
  ·have e1:GL p (k+1)=GL p k++[⟨k,hlt⟩]:=by rw[Kq _ _ hlt,Ac hz]
   have hsp:GL p k++[⟨k,hlt⟩]<+:PY p:=by rw[<-e1];exact Xw _ _ _ Af Af
   have hy:=hY (GL p k) ⟨k,hlt⟩ l G hG hI hsp;rw[<-e1] at hy;refine gz ?_;refine AS (CK rfl rfl hy) ?_;rintro v l' ⟨l1,rfl,⟨rfl,hI'⟩|⟨rfl,hx⟩⟩
   ·refine gz ?_;exact BS (k+1,l1) ⟨by simp;omega,hI'⟩ (by simp;omega) ⟨rfl,rfl,rfl,trivial⟩ .refl
   ·refine gz ?_;exact By [] rfl .refl (by exact A7) ⟨l1,rfl,.inr ⟨_,by rw[e1];exact hsp,hx⟩⟩
 ·obtain rfl:k=4:=by omega
  refine gz ?_;exact A8 .refl ⟨l,rfl,.inl ⟨_,rfl,hI⟩⟩
end Go.Proofs.YtlkgekpmileobaaGreat.As
