/- Laws that the statement's proof leans on (joined out of several texts). -/
import Derived.Test.YtlifcingifodfaaGreatGc13
set_option maxHeartbeats 4000000
set_option linter.unusedVariables false
set_option linter.unusedSimpArgs false
namespace Go.Proofs.YtlifcingifodfaaGreat
open Tryz
open List(toArray)
namespace Qu
open Go.RowKit
set_option maxRecDepth 20000
variable{ro:Option Nat}{N:Nat}
def allX(X:Nat->A4)(pre:List Nat):A4:=pre.flatMap X
theorem gl(X:Nat->A4)(pre:List Nat)(y:Nat):allX X (pre++[y])=allX X pre++X y:=by simp[allX]
theorem allX_len(X:Nat->A4)(N:Nat): ∀(pre:List Nat),(∀p∈pre,(X p).length<=N)->(allX X pre).length<=pre.length*N
 |[],_=>by simp[allX]
 |p::pre,h=>by have h1:=h p Ak;have h2:=allX_len X N pre λq hq=>h q (An _ hq);unfold allX at h2⊢;rw[Cw,Ah,BC,F5];omega
theorem gn(ne:Nat->Bool):(fallT ne 0).length<=8:=by unfold fallT;refine BY (C7 _ _) ?_;simp
theorem all_any(b:Nat)(X:Nat->A4)(lq:Ad)(hq:IsQ b X lq)(hb: ∀p,p<8->(X p).length<=1000000)(l:Ad)(CE: ∀c,c∈lq->c∈l):
 Fn prog 78 [.pointer (some ⟨b,0,none⟩)] l λv l'=> ∃cs,OwnSl 3 1 v (allX X (fallT (neX X) 0)).length ((allX X (fallT (neX X) 0)).map CN) cs/\l'=cs++l:=by
 obtain⟨vs,cs,OJ,rfl⟩:=hq;have Ko: ∀c,c∈In cs 8->c∈l:=λc hc=>CE c (An _ hc);refine AO func78 ntmps78 λE=>?_;refine Ih λb3=>?_;refine AR (Dn rfl rfl (Ob _ _)) ?_;rintro v l' ⟨B,hB,rfl,rfl⟩;refine gz ?_;refine Df (α:=Nat) (ps:=[8,9]) (lb:=[.pointer (some ⟨B,0,none⟩)]) rfl (Q7 B b vs (λp=>(X p).length) OJ.shape) (λ_=>rfl) rfl
  (λpre l=> ∃v cs,OwnSl 3 1 v (allX X pre).length ((allX X pre).map CN) cs/\l=[(B,.cells #[.pointer (some ⟨b,0,none⟩)] 159 (0,0)),(b3,.cells #[v] 40 (0,0))]++cs)
  (λc pre l=>False)
  _ l (λpre l2 X2 hX h=>by obtain⟨v,cs,_,rfl⟩:=h;exact⟨List.Mem.head _,Aa _ (hX _ (CE _ Ak))⟩) (by exact AU) ⟨_,[],OwnSl.nil _ _,rfl⟩ ?_ ?_ ?_
 ·rintro E r0 FS pre y l' T ⟨fn,tmps,D,rfl⟩ hT ⟨v,cs',ET,rfl⟩ DB;have hy:=(fallT_mem _ _ _).1 (Ho DB (Aa _ Ak));have PQ:0<(X y).length:=by have:=hy.2.2;simp at this;exact List.length_pos_iff.2 this
  have AeB:pre.length<8:=by have h1:=List.IsPrefix.length_le DB;have h2:=gn (λp=>(X p).length !=0);simp at h1;omega
  have Ei:(allX X pre).length<=8000000:=by refine BY (allX_len X 1000000 pre λp hp=>hb p ?_) Af;exact((fallT_mem _ _ _).1 (Ho DB (Ai _ hp))).2.1
  have cI:=hb y hy.2.1;obtain⟨a,cap,hv,hI⟩:=OJ.ints y hy.2.1 (In cs 8) (λ_ h=>h);obtain⟨gb,off,cc,t,fz,rfl,hm,hc⟩:=hI PQ;have tg:(gb,Obj.cells cc t fz)∈T:=hT _ (Ko _ hm);simp only[DU,Ae,Ag];rw[hv];refine gz ?_;refine CH (.there (.there (FH _ _ _ _ _))) ?_;refine gz ?_;refine Bq (Keep.of_perm (Az [(B,.cells #[.pointer (some ⟨b,0,none⟩)] 159 (0,0)),(b3,.cells #[v] 40 (0,0))] cs' _)) ?_;apply jp
  ·apply Gy (xs:=(allX X pre).map CN) (news:=(X y).map CN) (zs:=[.int .i64 0]) (cl:=cc)
   ·rfl
   ·rfl
   ·rfl
   ·exact ET
   ·exact Aa _ (.tail _ (.tail _ (.tail _ tg)))
   ·intro j u hj;rw[A5,D9] at hj;obtain⟨x,hx,rfl⟩:=hj;have:=hc j x hx;rwa [Dq] at this
   ·simp
   ·intro u hu;rw[Au] at hu;obtain⟨a,_,rfl⟩:=hu;rfl
   ·unfold maxLen;omega
   ·omega
  ·rfl
  ·rfl
  ·rfl
  rintro v' _ ⟨NG,hown',rfl⟩;have Ju:v'.oneCell'=true:=hown'.one;refine Bq (Keep.of_perm (Az NG [(B,.cells #[.pointer (some ⟨b,0,none⟩)] 159 (0,0)),(b3,.cells #[v] 40 (0,0))] _)) ?_;simp only[Ae,Ag];refine gz ?_;refine Cg _ (.refl) ⟨v',NG,?_,rfl⟩;rw[gl,Ah,Aq];exact hown'
 ·rintro D xs l' rfl ⟨v,cs',ET,rfl⟩;simp only[Ae,Ag];refine gz ?_;refine AV [D] (cs'++l) rfl (l':=cs'++l) (by exact AU) (by exact Ba) .refl ?_;exact⟨cs',ET,rfl⟩
 ·rintro D c pre l' DB h;exact h.elim
def noX:Nat->A4:=λ_=>[]
theorem qG:QS noX (λ_=> .slice none 0 0) (λ_=>[]):=⟨λp hp=>OwnSl.nil _ _⟩
theorem go(v:Value):(Array.ofFn (n:=8) λi=>(λ_=>v) i.val)=toArray [v,v,v,v,v,v,v,v]:=BB
theorem new_any(l:Ad):Fn prog 132 [] l λv l'=> ∃b,v= .pointer (some ⟨b,0,none⟩)/\ ∃lq,IsQ b noX lq/\l'=lq++l:=by refine AO func132 ntmps132 λE=>?_;refine gz ?_;refine AR (C4 rfl) ?_;rintro _ _ ⟨b,hb,rfl,rfl⟩;refine gz ?_;exact BD [] rfl .refl (by exact Ba) ⟨b,rfl,[qC b λ_=> .slice none 0 0],⟨_,_,qG,rfl⟩,by rw[qC,go];rfl⟩
open Go.RowKit
set_option maxRecDepth 20000
theorem OpE.re{P:Program}{fr:Fr}{l l2:Ad}{o:Oper}{K K':Value->Ad->Prop}(k:Keep l l2)(h:OpE P ro N fr l2 o K)(hk: ∀v l',K v l'-> ∃l3,Keep l' l3/\K' v l3):OpE P ro N fr l o K':=
 ⟨h.nodef,λE a W hf hs=>(h.val E a W hf (k.sat hs)).mono λv W' ⟨l',h1,h2⟩=>by obtain⟨l3,h3,h4⟩:=hk v l' h1;exact⟨l3,h4,h3.sat h2⟩⟩
theorem Vy(cs:Nat->Ad)(p:Nat)(hp:p<8)(c:Ad):(c++In (upd cs p []) 8).Perm (In (upd cs p c) 8):=by have h:=MX (upd cs p c) p 8 hp;rw[DK,dy] at h;exact h.symm
section
variable{fr:Fr}{d:Option Nat}{ty:TypeId}{pos:String}{aft:Array Edge}{g:Option (Nat×Bool)}
theorem kO{s x:Operand}{X:Nat->A4}{vs:Nat->Value}{cs:Nat->Ad}{p b bl:Nat}{id:Int}{F:Ad}(OJ:QS X vs cs)(hp:p<8)(Ei:(X p).length<=1000000)(hx:ev fr s=some (vs p))(hy:ev fr x=some (.slice (some ⟨bl,0,none⟩) 1 1)):
 OpE prog ro N fr ((bl,.cells (toArray [.int .i64 id]) 3 (0,0))::qC b vs::(In cs 8++F)) ⟨d,.call {callee:= .builtin .append,args:=#[s,x],argTypes:=#[40,40]},ty,pos,aft,g⟩
  (λv' l'=> ∃c2,OwnSl 3 1 v' (X p++[id]).length ((X p++[id]).map CN) c2/\l'=qC b vs::(In (upd cs p c2) 8++F)):=by
 have o5:((bl,Obj.cells (toArray [.int .i64 id]) 3 (0,0))::qC b vs::(In cs 8++F)).Perm (cs p++((bl,Obj.cells (toArray [.int .i64 id]) 3 (0,0))::qC b vs::(In (upd cs p []) 8++F))):=by refine(List.Perm.cons _ (List.Perm.cons _ ((MX cs p 8 hp).append_right F))).trans ?_;rw[Am];exact Az [(bl,Obj.cells (toArray [.int .i64 id]) 3 (0,0)),qC b vs] (cs p) _
 refine OpE.re (Keep.of_perm o5) (Gy (k:=1) (yb:=8) (xs:=(X p).map CN) (news:=[.int .i64 id]) (zs:=[.int .i64 0]) hx hy rfl (OJ.own p hp) (Aa _ Ak) (λj u hj=>by simpa using hj) rfl (by simp[Value.oneCell']) (by unfold maxLen;omega) Af) ?_;rintro v' _ ⟨c2,ho,rfl⟩;refine⟨_,?_,c2,by rw[Ah,Aq];exact ho,rfl⟩;refine Keep.trans (Keep.of_perm (Az c2 [(bl,Obj.cells (toArray [.int .i64 id]) 3 (0,0)),qC b vs] _)) (.drop (.of_perm ?_));refine List.Perm.cons _ ?_;show List.Perm (c2++(In (upd cs p []) 8++F)) _;rw[<-Am];exact(Vy cs p hp c2).append_right F
end
def addQ(X:Nat->A4)(id prio:Int):Int×(Nat->A4):=
 if id<1\/prio<0\/7<prio then(2,X) else if(findP X id).isSome then(16,X) else(0,upd X prio.toNat (X prio.toNat++[id]))
theorem add_any(b:Nat)(X:Nat->A4)(lq:Ad)(id prio:Int)(hq:IsQ b X lq)(hb: ∀p,p<8->(X p).length<=1000000)(F:Ad):
 Fn prog 151 [.pointer (some ⟨b,0,none⟩),.int .i64 id,.int .i64 prio] (lq++F) λv l'=>v= .int .i64 (addQ X id prio).1/\ ∃DD,IsQ b (addQ X id prio).2 DD/\l'=DD++F:=by
 have H:=qF b X lq id hq hb;obtain⟨vs,cs,OJ,rfl⟩:=hq;refine AO func151 ntmps151 λE=>?_;simp only[Ae];by_cases h0:id<1\/prio<0\/7<prio
 ·have e:addQ X id prio=(2,X):=Ac h0;rw[e];rcases h0 with h0|h0|h0
  ·refine gz ?_;exact Bb .refl ⟨rfl,_,⟨vs,cs,OJ,rfl⟩,rfl⟩
  ·by_cases h1:id<1
   ·refine gz ?_;exact Bb .refl ⟨rfl,_,⟨vs,cs,OJ,rfl⟩,rfl⟩
   ·refine gz ?_;exact Bb .refl ⟨rfl,_,⟨vs,cs,OJ,rfl⟩,rfl⟩
  ·by_cases h1:id<1
   ·refine gz ?_;exact Bb .refl ⟨rfl,_,⟨vs,cs,OJ,rfl⟩,rfl⟩
   ·refine gz ?_;exact Bb .refl ⟨rfl,_,⟨vs,cs,OJ,rfl⟩,rfl⟩
 ·obtain⟨p,rfl⟩: ∃p:Nat,prio=p:=⟨prio.toNat,Af⟩
  have hp:p<8:=by omega
  refine gz ?_;refine Be (AL rfl rfl (λl2 hl=>H l2 λc hc=>hl c (Ai F hc))) ?_;cases hf:(findP X id).isSome with
  |true=>
   have e:addQ X id p=(16,X):=by unfold addQ;rw[Ab h0,Ac hf]
   rw[e];refine gz ?_;exact Bb .refl ⟨rfl,_,⟨vs,cs,OJ,rfl⟩,rfl⟩
  |false=>
   have e:addQ X id p=(0,upd X p (X p++[id])):=by unfold addQ;rw[Ab h0,Ab (by rw[hf];simp),AY]
   rw[e];have hg:=WC vs p hp;obtain⟨v,hv⟩: ∃v,vs p=v:=⟨_,rfl⟩
   rw[hv] at hg;refine gz ?_;refine LV [(0,true),(1,true),(2,true),(3,true),(4,true),(5,true),(6,true),(7,true),(8,true),(11,true),(12,true),(9,false),(10,false),(13,true),(14,false)] [[],[],[],[],[2],[2,4],[2,3,4,5],[2,3,4,5,6],[],[8],[2,3,4,5,6,7,8,9],[0],[0,11],[0,1,2,3,4,5,6,7,8,9,10,11,12],[0,1,2,3,4,5,6,7,8,9,10,11,12,13]] ([]) BB BB GZ UM ?_;refine pz ?_;apply Gi (S:=[qC b vs])
   ·exact DP rfl Ak hg
   ·intro c hc;cases hc with
    |head=>exact Ak
    |tail _ h=>cases h
   ·rfl
   ·rfl
   ·rfl
   refine pz ?_;apply Hb
   ·exact KU rfl rfl
   ·rfl
   ·rfl
   ·rfl
   ·intro _ _ _ c hc;cases hc
   ·rintro _ _ ⟨bl,_,rfl,rfl⟩ x hx _ c hc;cases hx with
    |head=>cases hc with
     |head=>exact .tail _ (.head _)
     |tail _ h=>cases h
    |tail _ h=>cases h
   rintro _ _ ⟨bl,_,rfl,rfl⟩;refine pz ?_;apply Hb
   ·exact kO OJ hp (hb p hp) (by rw[hv];rfl) rfl
   ·rfl
   ·rfl
   ·rfl
   ·intro _ _ _ c hc;cases hc
   ·exact λ_ _ _ x hx ha=>Dg BB hx ha
   rintro v' _ ⟨c2,ho,rfl⟩;have Ju:v'.oneCell'=true:=ho.one;refine pz ?_;apply Hs
   ·exact Du rfl rfl Ju .here (by simp[hp])
   ·rfl
   ·rfl
   ·intro _ _ _ c hc;cases hc
   ·exact λ_ _ _ x hx ha=>Dg BB hx ha
   rintro _ _ ⟨rfl,rfl⟩;rw[aj vs p hp v'];refine pz ?_;refine gz ?_;refine Bb .refl ⟨rfl,_,⟨_,_,OJ.upd p _ v' c2 ho,rfl⟩,rfl⟩
end Qu
namespace En
open Go.RowKit
open Qu
set_option maxRecDepth 20000
variable{b m clock:Nat}{lq:Ad}{a:Int}
structure Row where
 id:Int
 th:A4
 sd:Bool
 pb:Nat
 v:Value
 cs:Ad
 st:Nat
variable{rows:List Row}{r:Row}
def Row.ent(r:Row):Lx:=(r.id,.pointer (some ⟨r.pb,0,none⟩),r.st)
abbrev Row.bl(r:Row):Bg:=(r.pb,.cells (toArray [r.v,.bool r.sd]) 353 (0,0))
def Row.ch(r:Row):Ad:=r.bl::r.cs
def Row.d(r:Row):Int×A4×Bool:=(r.id,r.th,r.sd)
abbrev Q8(b m:Nat):Bg:=(b,.cells #[.map (some m)] 344 (0,0))
structure EB(b:Nat)(rows:List Row)(m clock:Nat)(lq:Ad):Prop where
 eq:lq=Q8 b m::(m,FU .i64 (rows.map Row.ent) clock)::rows.flatMap Row.ch
 own: ∀r,r∈rows->OwnSl 3 1 r.v r.th.length (r.th.map CN) r.cs
 st: ∀r,r∈rows->r.st<clock
 nd:(rows.map Row.st).Nodup
 ids:(rows.map Row.id).Nodup
abbrev DE:=List (Int×A4×Bool)
def IsE(b:Nat)(D:DE)(lq:Ad):Prop:= ∃rows m clock,rows.map Row.d=D/\EB b rows m clock lq
theorem EB.m1(h:EB b rows m clock lq):Q8 b m∈lq:=by rw[h.eq];exact .head _
theorem EB.m2(h:EB b rows m clock lq):(m,FU .i64 (rows.map Row.ent) clock)∈lq:=by rw[h.eq];exact .tail _ (.head _)
theorem EB.m3(h:EB b rows m clock lq)(hr:r∈rows){c:Bg}(hc:c∈r.ch):c∈lq:=by rw[h.eq];exact .tail _ (.tail _ (JB.2 ⟨r,hr,hc⟩))
theorem EB.ints{l:Ad}(h:EB b rows m clock lq)(hr:r∈rows)(hs: ∀c,c∈lq->c∈l):Vw l r.v r.th:=(h.own r hr).intsQ λc hc=>hs c (h.m3 hr (.tail _ hc))
theorem Tu{α β:Type}{f:α->β}: ∀{l:List α},(l.map f).Nodup-> ∀{x y:α},x∈l->y∈l->f x=f y->x=y
 |[],_,x,y,h,_,_=>by cases h
 |z::l,hn,x,y,hx,hy,e=>by
  rw[AJ,AP] at hn;rcases At.1 hx with h1|h1<;>rcases At.1 hy with h2|h2
  ·rw[h1,h2]
  ·exact absurd (Au.2 ⟨y,h2,by rw[<-e,h1]⟩) hn.1
  ·exact absurd (Au.2 ⟨x,h1,by rw[e,h2]⟩) hn.1
  ·exact Tu hn.2 h1 h2 e
theorem Vz{α:Type}{p q:α->Bool}(yj: ∀x,p x=true->q x=true): ∀{l:List α} {x:α},x∈l->q x=true->p x=false->(l.filter p).length<(l.filter q).length
 |[],x,h,_,_=>by cases h
 |y::l,x,h,hq,hp=>by
  have Lr: ∀(l:List α),(l.filter p).length<=(l.filter q).length:=λl=>by
   induction l with
   |nil=>exact Bd _
   |cons z l ih=>
    rw[Fu,Fu]
    split
    ·rename_i h1;rw[Ac (yj z h1)];exact Nat.succ_le_succ ih
    ·split
     ·exact E9 ih
     ·exact ih
  rw[Fu,Fu];rcases At.1 h with rfl|h
  ·rw[hp,Ab (by simp),Ac hq];exact Nat.lt_succ_of_le (Lr l)
  ·have ih:=Vz yj h hq hp
   split
   ·rename_i h1;rw[Ac (yj y h1)];exact Nat.succ_lt_succ ih
   ·split
    ·exact Lq ih
    ·exact ih
theorem new_any(l:Ad):Fn prog 133 [] l λv l'=> ∃b,v= .pointer (some ⟨b,0,none⟩)/\ ∃lq,IsE b [] lq/\l'=lq++l:=by refine AO func133 ntmps133 λE=>?_;refine gz ?_;refine AR OM ?_;rintro _ _ ⟨m,hm,rfl,rfl⟩;refine gz ?_;refine AR (C4 rfl) ?_;rintro _ _ ⟨b,hb,rfl,rfl⟩;refine gz ?_;exact BD [] rfl .refl (by exact Ba) ⟨b,rfl,[Q8 b m,(m,.map #[] 0)],⟨[],m,0,rfl,⟨rfl,by simp,by simp,by simp,by simp⟩⟩,rfl⟩
open Go.RowKit
open Qu
set_option maxRecDepth 20000
def findD(D:DE)(id:Int):Option (A4×Bool):=(D.find? λx=>x.1==id).map (·.2)
def addD(D:DE)(id:Int):Int×DE:=if id<1 then(2,D) else if(findD D id).isSome then(11,D) else(0,D++[(id,[],false)])
def dropD(D:DE)(id:Int):A4×Int×DE:=match findD D id with
 |some x=>(x.1,0,D.eraseP λx=>x.1==id)
 |none=>([],2,D)
def listD(D:DE)(id:Int):A4×Bool:=match findD D id with
 |some x=>if x.1.length=0 then([],false) else x
 |none=>([],false)
theorem ON(h: ∀r,r∈rows->r.id≠a):Li a (rows.map Row.ent)=none:=by
 unfold Li;rw[MS.2 λe he=>by rw[Au] at he;obtain⟨r,hr,rfl⟩:=he;exact h r hr];rfl
theorem OO(hn:(rows.map Row.id).Nodup)(hr:r∈rows):Li r.id (rows.map Row.ent)=some (.pointer (some ⟨r.pb,0,none⟩)):=by
 unfold Li;cases h:GY r.id (rows.map Row.ent) 0 with
 |none=>have:=MS.1 h _ (Au.2 ⟨r,hr,rfl⟩);exact absurd rfl this
 |some p=>obtain⟨i,v⟩:=p;obtain⟨_,e,he,h1,h2,_⟩:=Pz h;have hm:=A6 he;rw[Au] at hm;obtain⟨r',UH,rfl⟩:=hm;have:r'=r:=Tu hn UH hr h1;subst this;rw[<-h2];rfl
theorem MY(h: ∀r,r∈rows->r.id≠a):findD (rows.map Row.d) a=none:=by
 unfold findD;rw[Br.2 λx hx=>by rw[Au] at hx;obtain⟨r,hr,rfl⟩:=hx;simpa[Row.d] using h r hr];rfl
theorem KW(hn:(rows.map Row.id).Nodup)(hr:r∈rows):findD (rows.map Row.d) r.id=some (r.th,r.sd):=by unfold findD;have hs:((rows.map Row.d).find? λx=>x.1==r.id).isSome=true:=List.find?_isSome.2 ⟨r.d,Au.2 ⟨r,hr,rfl⟩,by simp[Row.d]⟩;obtain⟨x,hx⟩:=Ik.1 hs;rw[hx];have h1:=Er hx;have hm:=BK hx;rw[Au] at hm;obtain⟨r',UH,rfl⟩:=hm;have:r'=r:=Tu hn UH hr (by simpa[Row.d] using h1);subst this;rfl
theorem gp(h: ∀r,r∈rows->r.id≠a)(v:Value)(clock:Nat):N2 a v clock (rows.map Row.ent)=(rows.map Row.ent++[(a,v,clock)],clock+1):=by
 unfold N2;rw[MS.2 λe he=>by rw[Au] at he;obtain⟨r,hr,rfl⟩:=he;exact h r hr]
theorem VA{a:Int}{v:Value}{s:Nat}: ∀(A B:List Lx) (i:Nat),(∀x,x∈A->x.1≠a)->GY a (A++(a,v,s)::B) i=some (i+A.length,v)
 |[],B,i,_=>by simp[GY]
 |x::A,B,i,h=>by have:=h x Ak;rw[Ae,GY,Ab (λe=>this e.symm),VA A B (i+1) λy hy=>h y (An _ hy)];simp;omega
theorem kP{v:Value}{s:Nat}(A B:List Lx)(h: ∀x,x∈A->x.1≠a):Py a (A++(a,v,s)::B)=A++B:=by unfold Py;rw[VA A B 0 h];simp only[BE];rw[IS (Bd _),DR];rfl
theorem EB.split(h:EB b rows m clock lq)(hr:r∈rows): ∃A B,rows=A++r::B/\(∀x,x∈A->x.id≠r.id)/\(∀x,x∈B->x.id≠r.id):=by obtain⟨A,B,rfl⟩:=GE hr;have hn:=h.ids;rw[Aq,AJ,By] at hn;obtain⟨h1,h2,h3⟩:=hn;rw[AP] at h2;exact⟨A,B,rfl,λx hx e=>h3 _ (Au.2 ⟨x,hx,rfl⟩) _ Ak e,λx hx e=>h2.1 (Au.2 ⟨x,hx,e⟩)⟩
theorem add_any(b:Nat)(D:DE)(lq:Ad)(id:Int)(hq:IsE b D lq)(F:Ad):
 Fn prog 141 [.pointer (some ⟨b,0,none⟩),.int .i64 id] (lq++F) λv l'=>v= .int .i64 (addD D id).1/\ ∃DD,IsE b (addD D id).2 DD/\l'=DD++F:=by
 obtain⟨rows,m,clock,rfl,hE⟩:=hq;refine AO func141 ntmps141 λE=>?_;by_cases h0:id<1
 ·rw[show addD (rows.map Row.d) id=(2,rows.map Row.d) from Ac h0];refine gz ?_;exact Bb .refl ⟨rfl,_,⟨rows,m,clock,rfl,hE⟩,rfl⟩
 have pJ:=hE.eq;by_cases h1: ∃r,r∈rows/\r.id=id
 ·obtain⟨r,hr,rfl⟩:=h1;have hg:=OO hE.ids hr;rw[show addD (rows.map Row.d) r.id=(11,rows.map Row.d) by unfold addD;rw[Ab h0,KW hE.ids hr];rfl];rw[pJ];simp only[Ae];refine gz ?_;rw[hg];refine gz ?_;refine BD [] rfl .refl (by exact Ba) ⟨rfl,_,⟨rows,m,clock,rfl,hE⟩,by rw[pJ];rfl⟩
 ·have I8: ∀r,r∈rows->r.id≠id:=λr hr e=>h1 ⟨r,hr,e⟩;have hg:=ON I8;rw[show addD (rows.map Row.d) id=(0,rows.map Row.d++[(id,[],false)]) by unfold addD;rw[Ab h0,MY I8];rfl];rw[pJ];simp only[Ae];refine gz ?_;rw[hg];refine gz ?_;refine AR (C4 rfl) ?_;rintro _ _ ⟨pb,je,rfl,rfl⟩;refine ME (Lz rfl rfl rfl (by exact DX)) rfl rfl ?_;rintro _ _ ⟨rfl,rfl⟩;rw[gp I8];refine gz ?_;obtain⟨r,hr⟩: ∃r:Row,r=⟨id,[],false,pb,.slice none 0 0,[],clock⟩:=⟨_,rfl⟩
  refine BD [] rfl (l':=(Q8 b m::(m,FU .i64 ((rows++[r]).map Row.ent) (clock+1))::(rows++[r]).flatMap Row.ch)++F) ?_ (by exact Ba) ⟨rfl,_,⟨rows++[r],m,clock+1,by rw[Aq,hr];rfl,⟨rfl,λx hx=>?_,λx hx=>?_,?_,?_⟩⟩,rfl⟩
  ·rw[Aq,Ed,hr];refine .of_perm ?_;show List.Perm ((pb,_)::Q8 b m::(m,_)::(rows.flatMap Row.ch++F)) (Q8 b m::(m,_)::((rows.flatMap Row.ch++[_])++F));refine(List.Perm.swap _ _ _).trans (List.Perm.cons _ ((List.Perm.swap _ _ _).trans (List.Perm.cons _ ?_)));rw[Am];exact AI.symm
  ·rcases AH.1 hx with hx|hx
   ·exact hE.own x hx
   ·rw[AE.1 hx,hr];exact OwnSl.nil _ _
  ·rcases AH.1 hx with hx|hx
   ·exact Lq (hE.st x hx)
   ·rw[AE.1 hx,hr];exact HM _
  ·rw[Aq,By];refine⟨hE.nd,by simp,λx hx y hy=>?_⟩;rw[Au] at hx hy;obtain⟨x',jc,rfl⟩:=hx;obtain⟨y',hy',rfl⟩:=hy;have:=hE.st x' jc;rw[AE.1 hy',hr];simp only;omega
  ·rw[Aq,By];refine⟨hE.ids,by simp,λx hx y hy=>?_⟩;rw[Au] at hx hy;obtain⟨x',jc,rfl⟩:=hx;obtain⟨y',hy',rfl⟩:=hy;rw[AE.1 hy',hr];exact I8 x' jc
end En
namespace As
open Go.RowKit
set_option maxRecDepth 20000
variable{α:Type}
structure ASt where
 obj:Nat->Int
 dead:Nat->Bool
 root:Nat->Int
 ser:Nat->Int
 given:Nat->Int
def ASt.at(s:ASt)(j:Nat):Value:=
 if j<80 then
  (if j%10=0 then .int .i64 (s.obj (j/10))
   else if j%10=1 then .bool (s.dead (j/10))
   else if j%10<6 then .int .i64 (s.root (4*(j/10)+(j%10-2)))
   else .int .i64 (s.ser (4*(j/10)+(j%10-6))))
 else .int .i64 (s.given (j-80))
def ASt.cells(s:ASt):Array Value:=Array.ofFn (n:=112) λi=>s.at i.val
theorem ASt.cells_get(s:ASt)(j:Nat)(h:j<112):s.cells[j]?=some (s.at j):=by simp[ASt.cells,h]
theorem ASt.cells_size(s:ASt):s.cells.size=112:=by simp[ASt.cells]
def upd{α:Type}(f:Nat->α)(k:Nat)(v:α):Nat->α:=λi=>if i=k then v else f i
theorem DK(f:Nat->α)(k:Nat)(v:α):upd f k v k=v:=by simp[upd]
theorem Dk(f:Nat->α)(k i:Nat)(v:α)(h:i≠k):upd f k v i=f i:=by simp[upd,h]
theorem OP(s s':ASt)(k:Nat)(v:Value)(hk:k<112)(h1:s'.at k=v)(h2: ∀j,j<112->j≠k->s'.at j=s.at j):s.cells.setIfInBounds k v=s'.cells:=by
 apply Array.ext
 ·simp[ASt.cells]
 ·intro j hj1 hj2;have hj:j<112:=by simpa[ASt.cells] using hj2
  rw[Array.getElem_setIfInBounds (by simpa[ASt.cells] using hj)];by_cases e:k=j
  ·subst e;simp[ASt.cells,h1]
  ·rw[Ab e];simp[ASt.cells,h2 j hj (λh=>e h.symm)]
def ED(p:Nat->Bool)(k:Nat):Option Nat:=(List.range k).find? p
theorem HT(p:Nat->Bool)(k:Nat):ED p (k+1)=(ED p k).or (if p k then some k else none):=by unfold ED;rw[CA,Eh];cases h:p k<;>simp[List.find?,h]
theorem Qe(p:Nat->Bool)(k:Nat):ED p k=none<-> ∀i,i<k->p i=false:=by unfold ED;simp
theorem LB(p:Nat->Bool)(k m:Nat)(hm:m<k)(hp:p m=true)(h:ED p m=none):ED p k=some m:=by
 have: ∀d,ED p (m+1+d)=some m:=by
  intro d
  induction d with
  |zero=>rw[CP,HT,h,hp];rfl
  |succ d ih=>rw[<-JM,HT,ih];rfl
 have:=this (k-(m+1));rwa [show m+1+(k-(m+1))=k by omega] at this
theorem Qf(p:Nat->Bool)(k m:Nat)(h:ED p k=some m):m<k/\p m=true/\ ∀i,i<m->p i=false:=by
 unfold ED at h;have h1:=Er h;have h2:=BK h;refine⟨by simpa using h2,h1,λi hi=>?_⟩;cases hb:p i
 ·rfl
 ·exfalso;have hk:m<k:=by simpa using h2
  have hf:ED p i=none\/ ∃q,ED p i=some q:=by cases ED p i<;>simp
  have key: ∀n,n<=k-> ∀q,ED p n=some q->ED p k=some q:=by
   intro n hn q hq;have: ∀d,ED p (n+d)=some q:=by
    intro d
    induction d with
    |zero=>exact hq
    |succ d ih=>rw[<-JM,HT,ih];rfl
   have:=this (k-n);rwa [show n+(k-n)=k by omega] at this
  rcases hf with hf|⟨q,hf⟩
  ·have:=LB p k i Af hb hf;have e:ED p k=some m:=h;rw[this] at e;cases e;omega
  ·have:=key i Af q hf;have e:ED p k=some m:=h;rw[this] at e;obtain rfl:q=m:=AX e;have:q<i:=by unfold ED at hf;have:=BK hf;simpa using this
   omega
open Go.RowKit
set_option maxRecDepth 20000
abbrev asA(b:Nat)(s:ASt):Bg:=(b,.cells s.cells 241 (0,0))
theorem ASt.c_obj(s:ASt)(p:Nat)(hp:p<8):s.cells[p*10]?=some (.int .i64 (s.obj p)):=by rw[s.cells_get _ Af];unfold ASt.at;rw[Ac Af,Ac Af,show p*10/10=p by omega]
theorem ASt.c_dead(s:ASt)(p:Nat)(hp:p<8):s.cells[p*10+1]?=some (.bool (s.dead p)):=by rw[s.cells_get _ Af];unfold ASt.at;rw[Ac Af,Ab Af,Ac Af,show(p*10+1)/10=p by omega]
theorem ASt.c_root(s:ASt)(p i:Nat)(hp:p<8)(hi:i<4):s.cells[p*10+2+i*1]?=some (.int .i64 (s.root (4*p+i))):=by rw[s.cells_get _ Af];unfold ASt.at;rw[Ac Af,Ab Af,Ab Af,Ac Af,show 4*((p*10+2+i*1)/10)+((p*10+2+i*1)%10-2)=4*p+i by omega]
theorem ASt.c_ser(s:ASt)(p i:Nat)(hp:p<8)(hi:i<4):s.cells[p*10+6+i*1]?=some (.int .i64 (s.ser (4*p+i))):=by rw[s.cells_get _ Af];unfold ASt.at;rw[Ac Af,Ab Af,Ab Af,Ab Af,show 4*((p*10+6+i*1)/10)+((p*10+6+i*1)%10-6)=4*p+i by omega]
theorem ASt.c_given(s:ASt)(n:Nat)(hn:n<32):s.cells[80+n*1]?=some (.int .i64 (s.given n)):=by rw[s.cells_get _ Af];unfold ASt.at;rw[Ab Af,show 80+n*1-80=n by omega]
def atO(s:ASt)(o:Int):Option Nat:=if o<1 then none else ED (λp=>s.obj p==o) 8
def Wy(s:ASt)(o:Int):Int:=match atO s o with|some p=>(p:Int)|none=> -1
theorem JI(b:Nat)(s:ASt)(o:Int)(l:Ad)(hm:asA b s∈l):
 Fn prog 191 [.pointer (some ⟨b,0,none⟩),.int .i64 o] l λv l'=>v= .int .i64 (Wy s o)/\l'=l:=by
 refine AO func191 ntmps191 λE=>?_;refine gz ?_;refine qj rfl (λho=>?_) (λho=>?_)
 ·refine gz ?_;refine Bb .refl ⟨?_,rfl⟩;simp[Jv,Wy,atO,ho]
 ·refine gz ?_;refine CF (α:=Nat) (λk=>[(0,.pointer (some ⟨b,0,none⟩)),(1,.int .i64 o),(12,.int .i64 k)]) (λk=>l) (λk=>k<=8/\ED (λp=>s.obj p==o) k=none) (λk=>8-k) 0 ⟨Af,rfl⟩ ⟨rfl,rfl,rfl,trivial⟩ .refl ?_;rintro k ⟨hk,hf⟩;by_cases Dc:k<8
  ·have hc:=s.c_obj k Dc;refine gz ?_;refine qj rfl (λhq=>?_) (λhq=>?_)
   ·refine gz ?_;refine Bb .refl ⟨?_,rfl⟩;simp only[Jv,Wy,atO,Ab ho];rw[LB _ 8 k Dc (by simp[hq]) hf]
   ·refine gz ?_;exact BR (k+1) ⟨Af,by rw[HT,hf];simp[hq]⟩ Af ⟨rfl,rfl,rfl,trivial⟩ .refl
  ·obtain rfl:k=8:=by omega
   refine gz ?_;refine Bb .refl ⟨?_,rfl⟩;simp only[Jv,Wy,atO,Ab ho];rw[hf]
def Hw(p k:Nat):List (Fin 4):=(List.range k).filterMap λi=>if h:i<4 then(if 4*p+i=0 then none else some ⟨i,h⟩) else none
def RU(p:Nat):List (Fin 4):=Hw p 4
theorem LC(p k:Nat)(hk:k<4):Hw p (k+1)=Hw p k++if 4*p+k=0 then[] else[⟨k,hk⟩]:=by unfold Hw;rw[CA,List.filterMap_append];congr 1;simp only[List.filterMap_cons,List.filterMap_nil,dif_pos hk];by_cases h:4*p+k=0<;>simp only[h,C6,C3]
theorem ak(p k m:Nat)(h:k<=m)(hm:m<=4):Hw p k<+:Hw p m:=by
 induction m with
 |zero=>obtain rfl:k=0:=by omega
        exact GR
 |succ m ih=>
  by_cases hk:k=m+1
  ·subst hk;exact GR
  ·rw[LC _ _ Af];exact(ih Af Af).trans (GH _ _)
theorem Od(p:Nat)(l:Ad):Fn prog 194 [.int .i64 p] l λv l'=> ∃B,(∀c,c∈l->c.1≠B)/\v= .func (.func 252) #[] #[.pointer (some ⟨B,0,none⟩)]/\l'=(B,.cells #[.int .i64 p] 3 (0,0))::l:=by refine AO func194 ntmps194 λE=>?_;refine gz ?_;refine AR (Ex rfl rfl) ?_;rintro _ _ ⟨B,hB,rfl,rfl⟩;refine gz ?_;exact Bb .refl ⟨B,hB,rfl,rfl⟩
theorem LW(B p:Nat)(hp:p<8):FA prog 252 [.pointer (some ⟨B,0,none⟩)] (λi:Fin 4=>[.int .i64 ((4*p+i.val:Nat):Int),.int .i64 (i.val:Nat)]) (λxs=>xs=RU p) (λpre=>pre<+:RU p)
 (λ_ l=>(B,.cells #[.int .i64 p] 3 (0,0))∈l):=by
 refine⟨λr I Ix G0 Ca hY l G hG h0=>?_⟩;refine AO func252 ntmps252 λE=>?_;refine gz ?_;refine CF (α:=Nat×Ad) (λx=>[(0,.func (.yield r) #[] #[]),(1,.pointer (some ⟨B,0,none⟩)),(5,.int .i64 x.1)]) (λx=>x.2++G) (λx=>x.1<=4/\I (Hw p x.1) x.2) (λx=>4-x.1) (0,l) ⟨by simp,h0⟩ ⟨rfl,rfl,rfl,trivial⟩ .refl ?_;rintro⟨k,l⟩ ⟨hk,hI⟩;simp only at hk hI⊢;by_cases Dc:k<4
 ·have hm:=Ca _ _ G hG hI;by_cases hz:4*p+k=0
  ·have e1:Hw p (k+1)=Hw p k:=by rw[LC _ _ Dc,Ac hz];simp
   refine gz ?_;exact BR (k+1,l) ⟨by simp;omega,by simp only;rw[e1];exact hI⟩ (by simp;omega) ⟨rfl,rfl,rfl,trivial⟩ .refl
  ·have e1:Hw p (k+1)=Hw p k++[⟨k,Dc⟩]:=by rw[LC _ _ Dc,Ab hz]
   have DB:Hw p k++[⟨k,Dc⟩]<+:RU p:=by rw[<-e1];exact ak _ _ _ Af Af
   have hy:=hY (Hw p k) ⟨k,Dc⟩ l G hG hI DB;rw[<-e1] at hy;refine gz ?_;refine AR (C0 rfl rfl hy) ?_;rintro v l' ⟨l1,rfl,⟨rfl,Lg⟩|⟨rfl,hx⟩⟩
   ·refine gz ?_;exact BR (k+1,l1) ⟨by simp;omega,Lg⟩ (by simp;omega) ⟨rfl,rfl,rfl,trivial⟩ .refl
   ·refine gz ?_;exact BD [] rfl .refl (by exact Ba) ⟨l1,rfl,.inr ⟨_,by rw[e1];exact DB,hx⟩⟩
 ·obtain rfl:k=4:=by omega
  refine gz ?_;exact Bb .refl ⟨l,rfl,.inl ⟨_,rfl,hI⟩⟩
end As
end Go.Proofs.YtlifcingifodfaaGreat
