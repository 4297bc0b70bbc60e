/- Laws that the statement's proof leans on (joined out of several texts). -/
import Derived.Test.YtlkgekpmileobaaGreatGb8
import Derived.Test.YtlkgekpmileobaaGreatGb33
import Derived.Test.YtlkgekpmileobaaGreatGb10
import Derived.Test.YtlkgekpmileobaaGreatGb29
set_option linter.unusedVariables false
set_option linter.unusedSimpArgs false
namespace Go.Proofs.YtlkgekpmileobaaGreat
open Tryz
open List(toArray)
open Go.RowKit
set_option maxRecDepth 20000
variable{F T C b k k' m f i:Nat}{G l:List Ab}{S S':KT}{p:RP}{sh:Bool}{s:RL}{P:Program}{vs:List Value}{Γ:List Ab->List Ab}{L:List (Int×Int)}{x:Int×Int}
def NO(S:KT)(id st:Int):Int×KT:=
 if(Th.findH S.T id).isSome=false\/st<0\/4<st then(2,S)
 else(0,if st=1 then{S with T:=(Th.setD S.T {Er S id with st:=st}).2,Q:=(Qu.addQ S.Q id (Er S id).pr).2} else{S with T:=(Th.setD S.T {Er S id with st:=st}).2,Q:=(Qu.dropQ S.Q id).2})
theorem M0(t:Th.ThT)(ht:TW t):EK prog F C b p 97 [pV p.t,Th.thV t] k S k (iV (Th.setD S.T t).1) {S with T:=(Th.setD S.T t).2}:=inferInstance
section
set_option maxHeartbeats 1000000 in
theorem OP(hK:IsK F C k S p s)(id st:Int)(hk:k'+(if st=1 then 1 else 0)<=k):Fn prog 98 [pV b,.int .i64 id,.int .i64 st] (Av b p s S G) (KK F C b p k' (iV (NO S id st).1) (NO S id st).2 G):=by
 have mr:Co b p∈Av b p s S G:=mR λ_ h=>h;refine AO func98 ntmps98 λE=>?_;refine Aj ?_;refine Ea ?_;refine AQ λb7=>?_;cases hf:(Th.findH S.T id).isSome with
 |false=>rw[show NO S id st=(2,S) by unfold NO;rw[Ae (.inl hf)]];refine Aj ?_;exact A4 (hk:=by split at hk<;>omega)
 |true=>
 by_cases hb:st<0\/4<st
 ·rw[show NO S id st=(2,S) by unfold NO;rw[Ae (.inr hb)]];by_cases h1:st<0<;>by_cases h2:4<st;all_goals first
   |(exfalso;omega)
   |(refine Aj ?_
     exact A4 (hk:=by split at hk<;>omega))
 have htw:=hK.tO id;obtain⟨t,ht⟩: ∃t,Er S id=t:=⟨_,rfl⟩
 rw[ht] at htw⊢
 replace htw:TW {t with st:=st}:=⟨htw.out⟩
 by_cases h1:st=1
 ·rw[show NO S id st=(0,{S with T:=(Th.setD S.T {t with st:=st}).2,Q:=(Qu.addQ S.Q id t.pr).2}) by unfold NO;rw[Ac (by rw[hf];simp;omega),Ae h1,ht]];rw[Ae h1] at hk
  replace hK:IsK F C (k'+1) S p s:=hK.mono hk
  refine Aj ?_;refine Ch (Cf [5] 0 6) ?_;refine Ci ?_;refine Lj ?_ (q:=M0 {t with st:=st} htw);intro S1 s1 L1 hS1 hK1 hT1 mr1;refine Ci ?_;refine Aj ?_;refine Ch (Cf [7] 0 8) ?_;refine Ci ?_;refine Lj ?_;intro S2 s2 L2 hS2 hK2 hT2 mr2;refine Ci ?_;refine Aj ?_;exact A4
 ·rw[show NO S id st=(0,{S with T:=(Th.setD S.T {t with st:=st}).2,Q:=(Qu.dropQ S.Q id).2}) by unfold NO;rw[Ac (by rw[hf];simp;omega),Ac h1,ht]];rw[Ac h1] at hk
  replace hK:IsK F C k' S p s:=hK.mono hk
  refine Aj ?_;refine Ch (Cf [5] 0 6) ?_;refine Ci ?_;refine Lj ?_ (q:=M0 {t with st:=st} htw);intro S1 s1 L1 hS1 hK1 hT1 mr1;refine Ci ?_;refine Aj ?_;refine Fy ?_;intro S2 s2 L2 hS2 hK2 hT2 mr2;refine Aj ?_;exact A4
def G6(S:KT)(id addr:Int):CB×Int:=if(Th.findH S.T id).isSome=false then((0,0),2) else if addr<0 then((0,0),3) else Wa S.H.1 S.A (getD' S.H.1 (id,0)).1 addr.toNat 12
set_option maxHeartbeats 1000000 in
theorem oD(hK:IsK F C k S p s)(id addr:Int)(ha:addr<18446744073709551616)(l:List Ab)(hl: ∀c,c∈Av b p s S G->c∈l):Fn prog 160 [pV b,.int .i64 id,.int .i64 addr] l λv l'=>v= .tuple #[Fp (G6 S id addr).1,iV (G6 S id addr).2]/\l'=l:=by
 have mr:Co b p∈l:=mR hl;obtain⟨bs,bt,ls,lt,hb⟩:=hK.ho;have mh:Lc p.h bs bt∈l:=mH hl _ (by rw[hb.eq];exact .head _);have QT: ∀l2,(∀c,c∈l->c∈l2)->Fn prog 96 [pV p.t,.int .i64 id] l2 _:=λl2 h2=>Th.get_any p.t S.T s.T hK.th id l2 λc hc=>h2 _ (mT hl c hc);have QH: ∀l2,(∀c,c∈l->c∈l2)->Fn prog 166 [pV p.h,.agg (toArray [.int .i64 id,.int .i64 0])] l2 _:=λl2 h2=>Im p.h S.H s.H hK.ho (id,0) l2 λc hc=>h2 _ (mH hl c hc);refine AO func160 ntmps160 λE=>?_;refine AQ λb6=>?_;refine tq (λl2 h2=>QT l2 λc hc=>h2 _ (.tail _ hc)) ?_;refine AQ λb8=>?_;cases hf:(Th.findH S.T id).isSome with
 |false=>rw[show G6 S id addr=((0,0),2) by unfold G6;rw[Ae hf]];refine Aj ?_;exact qr
 |true=>
 by_cases h0:addr<0
 ·rw[show G6 S id addr=((0,0),3) by unfold G6;rw[Ac (by rw[hf];decide),Ae h0]];refine Aj ?_;exact qr
 obtain⟨a,rfl⟩: ∃q:Nat,addr=q:=⟨addr.toNat,Af⟩
 obtain⟨r,hr⟩: ∃r,(getD' S.H.1 (id,0)).1=r:=⟨_,rfl⟩
 rw[show G6 S id a=Wa S.H.1 S.A r a 12 by unfold G6;rw[Ac (by rw[hf];decide),Ac h0,hr,A3]];refine Aj ?_;refine tq (λl2 h2=>QH l2 λc hc=>h2 _ (.tail _ (.tail _ hc))) ?_;rw[hr];refine AQ λb10=>?_;refine Ch (Cf [15] 0 17) ?_;refine Ci ?_;refine Y8 ?_ (AK rfl rfl λl2 h2=>JU p.h bs bt l2 (h2 _ (.tail _ (.tail _ (.tail _ mh)))));refine Ci ?_;refine Y8 ?_ (AK rfl rfl λl2 h2=>Wb bs p.a S.H.1 S.A ls s.A hb.s hK.ar hK.rad a Af r 12 l2 (λc hc=>h2 _ (.tail _ (.tail _ (.tail _ (mH hl c (by rw[hb.eq];exact .tail _ (Ai _ hc))))))) (λc hc=>h2 _ (.tail _ (.tail _ (.tail _ (mA hl c hc))))));refine Ci ?_;refine Aj ?_;exact qr
class EV(P:Program)(F C b:Nat)(p:RP)(f:Nat)(vs:List Value)(k:Nat)(S:KT)(k':outParam Nat)(S':outParam KT):Prop where
 out: ∀s G,IsK F C k S p s->Fn P f vs (Av b p s S G) λ_ l'=> ∃s L,IsK F C k' S' p s/\Tail L G/\l'=Av b p s S' L
theorem EV.on(q:EV P F C b p f vs k S k' S')(hK:IsK F C k S p s)(hF:Fr1 (Av b p s S G) l Γ):Fn P f vs l λ_ l'=> ∃s' L,IsK F C k' S' p s'/\Tail L G/\l'=Γ (Av b p s' S' L):=by
 obtain⟨A,rfl,hA⟩:=hF.eq;refine Fn.re (.of_perm (EF b p s S A G)) (q.out s (A++G) hK) λv l' ⟨s',L,h2,⟨X,h3⟩,h4⟩=>⟨Γ (Av b p s' S' (X++G)),?_,s',_,h2,⟨X,rfl⟩,rfl⟩
 rw[h4,h3,hA];exact .of_perm (RI ..)
theorem vv{ro:Option Nat}{N:Nat}{E:World}{ops:Array Oper}{Q:Exit->Act->World->Prop}{rest:List Oper}{fr:Fr}{ds:List Deferred}{d:Nat}{x:Operand}{xs:List Operand}{at_:Array TypeId}{ty:TypeId}{pos:String}{aft:Array Edge}{g:Option (Nat×Bool)}(hk: ∀x0 S1 s' L,S1=S'->IsK F C k' S1 p s'->Tail L G->Co b p∈Av b p s' S1 L->Df P ro N E ops Q rest ((d,x0)::fr) ds (Γ (Av b p s' S1 L)))(hx:ev fr x=some (.func (.func f) #[] #[]):=by rfl)(hy:PX fr xs=some vs:=by rfl)(hF:Fr1 (Av b p s S G) l Γ:=by exact Zr)(c:EN P f:=by infer_instance)(hK:IsK F C k S p s:=by infer_instance)(q:EV P F C b p f vs k S k' S':=by infer_instance)(hw:Pz ops fr g=some true:=by rfl)(hb:Nat.blt d N=true:=by rfl):Df P ro N E ops Q (⟨some d,.call {callee:= .value x,args:=xs.toArray,argTypes:=at_},ty,pos,aft,g⟩::rest) fr ds l:=
 It (Az hx hy (q.on hK hF)) hw rfl hb λv l' ⟨s',L,h2,h3,h4⟩=>by rw[h4];exact hk v S' s' L rfl h2 h3 (mR λ_ h=>h)
theorem M1{D:En.DE}{id:Int}: ∀x,x∈(En.dropD D id).2.2->x∈D:=λx hx=>by
 unfold En.dropD at hx
 split at hx
 ·dsimp only at hx;first|exact(Cr.1 hx).1|exact List.mem_of_mem_eraseP hx|exact hx
 ·dsimp only at hx;first|exact(Cr.1 hx).1|exact hx
instance{id:Int}:EV prog F C b p 369 [pV p.e,.int .i64 id] k S k {S with E:=(En.dropD S.E id).2.2}:=⟨λs G h=>
 Fn.re (.of_perm (by unfold Av;exact Cc)) (En.drop_any p.e S.E s.E id h.en (Co b p::As.asA p.n S.N::(s.M++(s.C++(s.A++(s.H++(s.T++(s.Q++(s.V++G))))))))) λv l' ⟨sl,cs,h1,h2,q,h3,h4⟩=>⟨Av b p {s with E:=q} {S with E:=(En.dropD S.E id).2.2} (cs++G),by rw[h4];unfold Av;exact AY [],{s with E:=q},_,{h with en:=h3,el:=λy hy=>h.el y (M1 y hy),eo:=λt x y hx hy=>h.eo t x y (M1 x hx) (M1 y hy)},⟨cs,rfl⟩,rfl⟩⟩
def bQ(S:KT)(id:Int):Int×KT:=
 if(Ar.getD' S.A id).2=false then(2,S)
 else if(Iz S.H.1 id).1=16 then(16,{S with H:=((Iz S.H.1 id).2,S.H.2)})
 else(0,{S with H:=((Iz S.H.1 id).2,S.H.2),A:=(Ar.dropD S.A id).2,T:=(Th.dropD S.T id).2,Q:=(Qu.dropQ S.Q id).2,E:=(En.dropD S.E id).2.2})
set_option maxHeartbeats 1000000 in
theorem fS(hK:IsK F C k S p s)(id:Int):Fn prog 330 [pV b,.int .i64 id] (Av b p s S G) (KK F C b p k (iV (bQ S id).1) (bQ S id).2 G):=by
 have mr:Co b p∈Av b p s S G:=mR λ_ h=>h;unfold bQ;refine AO func330 ntmps330 λE=>?_;refine Aj ?_;refine Ea ?_;refine AQ λb5=>?_;cases hf:(Ar.getD' S.A id).2 with
 |false=>rw[Ae rfl];refine Aj ?_;exact A4
 |true=>
 rw[Ac AW];refine Aj ?_;refine Fy ?_;intro S1 s1 L1 hS1 hK1 hT1 mr1;obtain⟨e,he⟩: ∃e,(Iz S.H.1 id).1=e:=⟨_,rfl⟩
 rw[he];by_cases h16:e=16
 ·rw[Ae h16];refine Aj ?_;exact A4
 rw[Ac h16];refine Aj ?_;refine Fy ?_;intro S2 s2 L2 hS2 hK2 hT2 mr2;refine Aj ?_;refine Fy ?_;intro S3 s3 L3 hS3 hK3 hT3 mr3;refine Aj ?_;refine Fy ?_;intro S4 s4 L4 hS4 hK4 hT4 mr4;refine Aj ?_;refine vv ?_;intro v5 S5 s5 L5 hS5 hK5 hT5 mr5;refine Aj ?_;exact A4
instance{id:Int}:EK prog F C b p 330 [pV b,.int .i64 id] k S k (iV (bQ S id).1) (bQ S id).2:=⟨λs G h=>fS h id⟩
end
abbrev fT(t:Th.ThT):Th.ThT:={t with wa:=0,o0:=0,o1:=0,o2:=0,o3:=0,ob:=0,cl:=false,fa:=false,hs:=false,wr:=false,va:=0,vl:=0,gv:=4096,inn:=4096}
abbrev DS(S:KT)(t:Th.ThT):KT:={S with T:=(Th.setD S.T t).2}
abbrev Oa(S:KT)(id:Int):Bool:=(Th.findH S.T id).isSome
def rK(S:KT)(id:Int):KT:=if Oa S (Th.serverD S.T id)=true/\(Er S id).st=4 then DS S {Er S (Th.serverD S.T id) with ca:=0} else S
def ZF(S:KT)(id:Int):Int×KT:=NO (DS S (fT (Er S id))) id 0
def Jq(S:KT)(id:Int):Int×KT:=
 if Oa S id=false then(2,S)
 else ZF (rK {S with E:=(En.removeD S.E id).2} id) id
section
instance{id:Int}:EK prog F C b p 98 [pV b,.int .i64 id,.int .i64 1] (k+1) S k (iV (NO S id 1).1) (NO S id 1).2:=⟨λs G h=>OP h id 1 (A5 _)⟩
instance{id:Int}:EK prog F C b p 98 [pV b,.int .i64 id,.int .i64 0] k S k (iV (NO S id 0).1) (NO S id 0).2:=⟨λs G h=>OP h id 0 (A5 _)⟩
instance{id:Int}:EK prog F C b p 98 [pV b,.int .i64 id,.int .i64 2] k S k (iV (NO S id 2).1) (NO S id 2).2:=⟨λs G h=>OP h id 2 (A5 _)⟩
instance{id:Int}:EK prog F C b p 98 [pV b,.int .i64 id,.int .i64 3] k S k (iV (NO S id 3).1) (NO S id 3).2:=⟨λs G h=>OP h id 3 (A5 _)⟩
instance{id:Int}:EK prog F C b p 98 [pV b,.int .i64 id,.int .i64 4] k S k (iV (NO S id 4).1) (NO S id 4).2:=⟨λs G h=>OP h id 4 (A5 _)⟩
set_option maxHeartbeats 2000000 in
theorem oE(hK:IsK F C k S p s)(id:Int):Fn prog 204 [pV b,.int .i64 id] (Av b p s S G) (KK F C b p k (iV (Jq S id).1) (Jq S id).2 G):=by
 have mr:Co b p∈Av b p s S G:=mR λ_ h=>h;unfold Jq Oa;refine AO func204 ntmps204 λE=>?_;refine Aj ?_;refine Ea ?_;refine Aj ?_;refine AS e_alloc ?_;rintro _ _ ⟨b5,_,rfl,rfl⟩;cases hf:(Th.findH S.T id).isSome with
 |false=>rw[Ae rfl];refine Aj ?_;exact A4
 |true=>
 rw[Ac AW];refine Aj ?_;refine Fy ?_;intro S1 s1 L1 hS1 hK1 hT1 mr1;have eT:S1.T=S.T:=by rw[hS1]
 have eO: ∀i,Er S1 i=Er S i:=λi=>by unfold Er;rw[eT]
 have eI: ∀i,Oa S1 i=Oa S i:=λi=>by unfold Oa;rw[eT]
 rw[<-hS1];refine Aj ?_;refine Ch (Cf [14,15] 0 17) ?_;refine Ci ?_;refine Hf e_alloc (by rintro _ _ ⟨_,_,_,rfl⟩ c hc;exact .tail _ hc) ?_;rintro _ _ ⟨b7,_,rfl,rfl⟩;refine Ci ?_;obtain⟨t,ht⟩: ∃t,Er S id=t:=⟨_,rfl⟩
 have htu:=hK1.tO (Th.serverD S1.T id);obtain⟨u,hu⟩: ∃u,Er S1 (Th.serverD S1.T id)=u:=⟨_,rfl⟩
 rw[hu] at htu;obtain⟨ok,hok⟩: ∃ok,(Th.findH S1.T (Th.serverD S1.T id)).isSome=ok:=⟨_,rfl⟩
 rw[ht,hu,hok];have hfr:rK S1 id=if ok=true/\t.st=4 then DS S1 {u with ca:=0} else S1:=by unfold rK Oa;rw[hok,eO id,ht,hu]
 refine Ci ?_;have e1:=eO id;rw[ht] at e1;by_cases h4:ok=true/\t.st=4
 case' pos=>
  obtain⟨rfl,h4⟩:=h4;rw[Ae ⟨rfl,h4⟩] at hfr;rw[hfr];refine Aj ?_;refine Ch (Cf [5] 0 6) ?_;refine Ci ?_;refine Lj ?_ (q:=M0 {u with ca:=0} ⟨htu.out⟩);intro S2 s2 L2 hS2 hK2 hT2 mr2;rw[show DS S1 {u with ca:=0}=S2 from hS2.symm];refine Ci ?_;refine Aj ?_;refine Ea ?_;obtain⟨t2,ht2⟩: ∃t2,Er S2 id=t2:=⟨_,rfl⟩
  unfold ZF;rw[ht2];refine Aj ?_
 case' neg=>
  rw[Ac h4] at hfr;rw[hfr];have h4':ok=true->¬t.st=4:=λa c=>h4 ⟨a,c⟩;unfold ZF;rw[e1];cases ok
  case' true=>have h4':=h4' rfl
  all_goals refine Aj ?_
 case' pos=>obtain⟨t3,ht3⟩: ∃t3,t3=t2:=⟨_,rfl⟩
 case' neg.true=>obtain⟨t3,ht3⟩: ∃t3,t3=t:=⟨_,rfl⟩
 case' neg.false=>obtain⟨t3,ht3⟩: ∃t3,t3=t:=⟨_,rfl⟩
 all_goals
  rw[<-ht3];refine Bc (F5 (zs:=[.int .u64 0,.int .u64 0,.int .u64 0,.int .u64 0]) (cs:=[.int .u64 0,.int .u64 0,.int .u64 0,.int .u64 0]) rfl rfl) ?_;refine Aj ?_;refine Ch (Cf [5] 0 6) ?_;refine Ci ?_;refine Lj ?_ (q:=M0 (fT t3) ⟨Lf,Lf⟩);intro S3 s3 L3 hS3 hK3 hT3 mr3;rw[show DS _ (fT t3)=S3 from hS3.symm];refine Ci ?_;refine Aj ?_;refine Fy ?_;intro S4 s4 L4 hS4 hK4 hT4 mr4;refine Aj ?_;exact A4
end
def UW:Int->List (Int×Int)->List (Int×Int×Int)
 |_,[]=>[]
 |f,x::r=>(x.1,x.2,f)::UW (f+Ar.framesD x.1 x.2) r
def LJ:Int->List (Int×Int)->Int
 |f,[]=>f
 |f,x::r=>LJ (f+Ar.framesD x.1 x.2) r
theorem fU(a b:List (Int×Int)): ∀f,LJ f (a++b)=LJ (LJ f a) b:=by
 induction a with
 |nil=>intro f;rfl
 |cons x r ih=>intro f;exact ih _
theorem M2: ∀(L:List (Int×Int)) (f:Int),(UW f L).length=L.length
 |[],_=>rfl
 |x::r,f=>by show(UW _ r).length+1=r.length+1;rw[M2 r]
theorem Wr: ∀(L:List (Int×Int)) (f:Int) (m:Nat),(UW f L)[m]?=L[m]?.map λx=>(x.1,x.2,LJ f (L.take m))
 |[],_,m=>by simp[UW]
 |x::r,f,0=>rfl
 |x::r,f,m+1=>by show(UW (f+Ar.framesD x.1 x.2) r)[m]?=_;rw[Wr r];rfl
theorem bR(h:L[m]?=some x)(f:Int):LJ f (L.take (m+1))=LJ f (L.take m)+Ar.framesD x.1 x.2:=by rw[B0,h,fU];rfl
theorem bS(h:L[m]?=some x)(f:Int):(UW f L).take (m+1)=(UW f L).take m++[(x.1,x.2,LJ f (L.take m))]:=by rw[B0,Wr,h];rfl
abbrev oF(x:Int×Int×Int):Value:= .agg (toArray [.int .i64 x.1,.int .i64 x.2.1,.int .i64 x.2.2])
abbrev iO(B:Nat)(f:Int):Ab:=(B,.cells (toArray [.int .i64 f]) 3 (0,0))
abbrev kD(B r:Nat):Ab:=(B,.cells (toArray [.func (.yield r) #[] #[]]) 265 (0,0))
set_option maxHeartbeats 1000000 in
theorem fV(r:Nat)(k z f:Int)(hf:0<=f/\f<=1000000)(B3 B2:Nat)(l G:List Ab)(J1 J2:List Ab->Prop)(hy: ∀G2,(∀c,c∈G->c∈G2)->Mn prog r [oF (k,z,f)] (l++G2) (λv l'=> ∃l1,l'=l1++G2/\((v= .bool true/\J1 l1)\/(v= .bool false/\J2 l1)))):
 Fn prog 136 [.int .i64 k,.int .i64 z,pV B3,pV B2] (iO B3 f::kD B2 r::(l++G)) λv l'=> ∃l1 X bb,l'=iO B3 (f+Ar.framesD k z)::kD B2 r::(l1++(X++G))/\v= .bool bb/\((bb=true/\J1 l1)\/(bb=false/\J2 l1)):=by
 have hfr:=Ar.frames_rng k z;refine AO func136 ntmps136 λE=>?_;refine AQ λb7=>?_;refine Ce [5] 6 ([]) ?_;refine BI ?_;apply FD (S:=[iO B3 f]);(·exact SA);(·exact CM (.tail _ (.head _)));(·rfl);(·rfl);(·rfl);refine BI ?_;apply D7
 ·exact AK rfl rfl (λl hl=>Ar.frames_any k z l)
 ·rfl
 ·rfl
 ·rfl
 refine BI ?_;apply GH
 ·exact FP rfl rfl rfl (by exact BO) .zero (by exact Dw)
 (·rfl);(·rfl);(·intro _ _ _ c hc;cases hc);(·exact λ_ _ _ x hx ha=>CV Bv hx ha)
 rintro _ _ ⟨rfl,rfl⟩;refine BI ?_;refine Aj ?_;refine Bk (l':=l++((b7,.cells (toArray [.int .i64 k,.int .i64 z,.int .i64 f]) 199 (0,0))::iO B3 (f+Ar.framesD k z)::kD B2 r::G)) (Keep.of_perm (Ay [_,_,_] l G)) ?_;refine AS (CK rfl rfl (hy _ λc hc=> .tail _ (.tail _ (.tail _ hc)))) ?_;rintro v _ ⟨l1,rfl,hJ⟩;obtain⟨bb,rfl,hK⟩: ∃bb,v= .bool bb/\((bb=true/\J1 l1)\/(bb=false/\J2 l1)):=by
  rcases hJ with⟨rfl,h⟩|⟨rfl,h⟩
  ·exact⟨true,rfl,.inl ⟨rfl,h⟩⟩
  ·exact⟨false,rfl,.inr ⟨rfl,h⟩⟩
 refine Aj ?_;refine A8 (l':=iO B3 (f+Ar.framesD k z)::kD B2 r::(l1++([(b7,.cells (toArray [.int .i64 k,.int .i64 z,.int .i64 f]) 199 (0,0))]++G))) (AY []) ?_;exact⟨l1,_,bb,rfl,rfl,hK⟩
def df(T:Nat)(sh:Bool):List (Int×Int):=(List.replicate T [(9,0),(2,4),(5,0),(6,0)]).flatten++(if sh then[(8,0)] else[])
def p8(F T:Nat)(sh:Bool):Int:=((F:Int)-LJ 0 (df T sh))/T
def Yi(F T:Nat)(sh:Bool):List (Int×Int):=df T sh++List.replicate T (1,p8 F T sh)
def DV(F T:Nat)(sh:Bool):List (Int×Int×Int):=UW 0 (Yi F T sh)
def ND(F T:Nat)(sh:Bool)(m:Nat):Int:=LJ 0 ((Yi F T sh).take m)
abbrev SI(B F C T:Nat)(sh:Bool):Ab:=(B,.cells (toArray [.int .i64 F,.int .i64 C,.int .i64 T,.bool sh]) 23 (0,0))
theorem Ws: ∀(L:List (Int×Int)) (f:Int),0<=f->0<=LJ f L/\LJ f L<=f+64*L.length
 |[],f,h=>by show 0<=f/\f<=f+64*0;omega
 |x::r,f,h=>by have h1:=Ar.frames_rng x.1 x.2;have h2:=Ws r (f+Ar.framesD x.1 x.2) Af;show 0<=LJ _ r/\LJ _ r<=f+64*((r.length+1:Nat):Int);omega
theorem mU: ∀(T i j:Nat),i<T->j<4->((List.replicate T [((9:Int),(0:Int)),(2,4),(5,0),(6,0)]).flatten)[4*i+j]?=[((9:Int),(0:Int)),(2,4),(5,0),(6,0)][j]?
 |0,i,j,h,_=>by omega
 |T+1,0,j,_,hj=>by rw[BE,Cl,Nat.mul_zero,Bw,AC (by simpa using hj)]
 |T+1,i+1,j,h,hj=>by rw[BE,Cl,show 4*(i+1)+j=(4*i+j)+4 by omega,AP (by simp)];exact mU T i j Af hj
theorem Ns(T:Nat):((List.replicate T [((9:Int),(0:Int)),(2,4),(5,0),(6,0)]).flatten).length=4*T:=by
 induction T with
 |zero=>rfl
 |succ T ih=>rw[BE,Cl,Ah,ih];simp;omega
theorem Nt(T:Nat)(sh:Bool):(df T sh).length=4*T+sh.toNat:=by unfold df;rw[Ah,Ns];cases sh<;>rfl
theorem OQ(F T:Nat)(sh:Bool):(Yi F T sh).length=5*T+sh.toNat:=by unfold Yi;rw[Ah,Nt,List.length_replicate];omega
theorem Qr{j:Nat}(hi:i<T)(hj:j<4):(Yi F T sh)[4*i+j]?=[((9:Int),(0:Int)),(2,4),(5,0),(6,0)][j]?:=by unfold Yi;rw[AC (by rw[Nt];omega)];unfold df;rw[AC (by rw[Ns];omega)];exact mU T i j hi hj
theorem oG:(Yi F T true)[4*T]?=some (8,0):=by unfold Yi;rw[AC (by rw[Nt];simp)];unfold df;rw[AP (by rw[Ns];omega),Ns,Dr];rfl
theorem fW(hi:i<T):(Yi F T sh)[4*T+sh.toNat+i]?=some (1,p8 F T sh):=by unfold Yi;rw[AP (by rw[Nt];omega),Nt,CP,List.getElem?_replicate,Ae hi]
theorem ZG(F T:Nat)(sh:Bool):(Yi F T sh).take (4*T+sh.toNat)=df T sh:=by unfold Yi;rw[<-Nt,List.take_left]
theorem Jx{L1 G':List Ab}(h:Keep G G'):Keep (L1++G) (L1++G'):=by obtain⟨X,hX⟩:=h;exact⟨X,(hX.append_left L1).trans (Ay L1 X G')⟩
theorem RZ(hT:T<=3){k z:Int}(hm:(Yi F T sh)[m]?=some (k,z)){r:Nat}{I Ix:List (Int×Int×Int)->List Ab->Prop}{G0:List Ab}
 (hY: ∀pre x l G,(∀c,c∈G0->c∈G)->I pre l->pre++[x]<+:DV F T sh->Mn prog r [oF x] (l++G) (λv l'=> ∃l1,l'=l1++G/\((v= .bool true/\I (pre++[x]) l1)\/(v= .bool false/\Ix (pre++[x]) l1))))
  (hG: ∀c,c∈G0->c∈G)(hI:I ((DV F T sh).take m) l)(B3 B2:Nat):
 Fn prog 136 [.int .i64 k,.int .i64 z,pV B3,pV B2] (iO B3 (ND F T sh m)::kD B2 r::(l++G)) λv l'=> ∃l1 X bb,l'=iO B3 (ND F T sh (m+1))::kD B2 r::(l1++(X++G))/\v= .bool bb/\((bb=true/\I ((DV F T sh).take (m+1)) l1)\/(bb=false/\Ix ((DV F T sh).take (m+1)) l1)):=by
 have e1:(DV F T sh).take (m+1)=(DV F T sh).take m++[(k,z,ND F T sh m)]:=bS hm 0;have e2:ND F T sh (m+1)=ND F T sh m+Ar.framesD k z:=bR hm 0;rw[e1,e2];have hb:0<=ND F T sh m/\ND F T sh m<=1000000:=by
  have h1:=Ws ((Yi F T sh).take m) 0 (Int.le_refl 0);have h2:((Yi F T sh).take m).length<=16:=by
   rw[BU,OQ];have:sh.toNat<=1:=by cases sh<;>decide
   omega
  unfold ND;omega
 exact fV r k z _ hb B3 B2 l G _ _ λG2 hG2=>hY _ (k,z,ND F T sh m) l G2 (λc hc=>hG2 c (hG c hc)) hI (by rw[<-e1];exact BD _ _)
theorem Yj(F C T:Nat)(sh:Bool)(l:List Ab):Fn prog 91 [.agg (toArray [.int .i64 F,.int .i64 C,.int .i64 T,.bool sh])] l λv l'=> ∃B1,v= .func (.func 135) #[] #[pV B1]/\l'=SI B1 F C T sh::l:=by refine AO func91 ntmps91 λE=>?_;refine Aj ?_;refine AS (CR rfl) ?_;rintro _ _ ⟨B1,_,rfl,rfl⟩;refine Aj ?_;exact A8 .refl ⟨B1,rfl,rfl⟩
set_option maxHeartbeats 4000000 in
theorem Wt(B1 F C T:Nat)(sh:Bool)(hT1:1<=T)(hT:T<=3)(hF:11*T<=F)(hF2:F<=64):md prog 135 [pV B1] (λx=>[oF x]) (λxs=>xs=DV F T sh) (λpre=>pre<+:DV F T sh) (λ_ _=>True) [SI B1 F C T sh]:=by
 refine⟨λr I Ix G0 hneed hY l G hG h0=>?_⟩;refine AO func135 ntmps135 λE=>?_;refine Aj ?_;refine AS (DZ rfl rfl) ?_;rintro _ _ ⟨B2,_,rfl,rfl⟩;refine Aj ?_;refine AS e_alloc ?_;rintro _ _ ⟨B3,_,rfl,rfl⟩;have hmc:SI B1 F C T sh∈l++([SI B1 F C T sh]++G):=Aa _ (.head _);refine Aj ?_;refine Cu (α:=Nat×List Ab×List Ab) (λx=>[(1,pV B1),(3,pV B3),(4,.func (.func 136) #[] #[pV B3,pV B2]),(8,.int .i64 T),(9,.int .i64 x.1)]) (λx=>iO B3 (ND F T sh (4*x.1))::kD B2 r::(x.2.1++(x.2.2++(SI B1 F C T sh::G)))) (λx=>x.1<=T/\I ((DV F T sh).take (4*x.1)) x.2.1) (λx=>T-x.1) (0,l,[]) ⟨Bf _,h0⟩ ⟨rfl,rfl,rfl,rfl,rfl,trivial⟩ .refl ?_;rintro⟨i,l0,X0⟩ ⟨hi,hI0⟩;simp only at hi hI0⊢;have hmc:SI B1 F C T sh∈l0++(X0++(SI B1 F C T sh::G)):=Aa _ (Aa _ (.head _));by_cases hlt:i<T
 ·refine Aj ?_;refine AS (CZ rfl rfl (RZ (F:=F) (sh:=sh) hT (m:=4*i+0) (Qr hlt AW) hY (G:=X0++(SI B1 F C T sh::G)) (λc hc=>Aa _ ((.tail _ (hG c hc)))) hI0 B3 B2)) ?_;rintro _ _ ⟨l1,X1,bb,rfl,rfl,hbb⟩;rcases hbb.symm with⟨rfl,hx⟩|⟨rfl,hI1⟩
  ·refine Aj ?_;exact A8 (l':=l1++G) (.drop (.drop (Jx (Keep.dropL X1 (Keep.dropL X0 ((.drop .refl))))))) ⟨l1,rfl,.inr ⟨_,BD _ _,hx⟩⟩
  refine Aj ?_;refine It (CZ rfl rfl (RZ (F:=F) (sh:=sh) hT (m:=4*i+1) (Qr hlt AW) hY (G:=X1++(X0++(SI B1 F C T sh::G))) (λc hc=>Aa _ (Aa _ ((.tail _ (hG c hc))))) hI1 B3 B2)) rfl rfl rfl ?_;rintro _ _ ⟨l2,X2,bb,rfl,rfl,hbb⟩;rcases hbb.symm with⟨rfl,hx⟩|⟨rfl,hI2⟩
  ·refine Aj ?_;exact A8 (l':=l2++G) (.drop (.drop (Jx (Keep.dropL X2 (Keep.dropL X1 (Keep.dropL X0 ((.drop .refl)))))))) ⟨l2,rfl,.inr ⟨_,BD _ _,hx⟩⟩
  refine Aj ?_;refine It (CZ rfl rfl (RZ (F:=F) (sh:=sh) hT (m:=4*i+2) (Qr hlt AW) hY (G:=X2++(X1++(X0++(SI B1 F C T sh::G)))) (λc hc=>Aa _ (Aa _ (Aa _ ((.tail _ (hG c hc)))))) hI2 B3 B2)) rfl rfl rfl ?_;rintro _ _ ⟨l3,X3,bb,rfl,rfl,hbb⟩;rcases hbb.symm with⟨rfl,hx⟩|⟨rfl,hI3⟩
  ·refine Aj ?_;exact A8 (l':=l3++G) (.drop (.drop (Jx (Keep.dropL X3 (Keep.dropL X2 (Keep.dropL X1 (Keep.dropL X0 ((.drop .refl))))))))) ⟨l3,rfl,.inr ⟨_,BD _ _,hx⟩⟩
  refine Aj ?_;refine It (CZ rfl rfl (RZ (F:=F) (sh:=sh) hT (m:=4*i+3) (Qr hlt AW) hY (G:=X3++(X2++(X1++(X0++(SI B1 F C T sh::G))))) (λc hc=>Aa _ (Aa _ (Aa _ (Aa _ ((.tail _ (hG c hc))))))) hI3 B3 B2)) rfl rfl rfl ?_;rintro _ _ ⟨l4,X4,bb,rfl,rfl,hbb⟩;rcases hbb.symm with⟨rfl,hx⟩|⟨rfl,hI4⟩
  ·refine Aj ?_;exact A8 (l':=l4++G) (.drop (.drop (Jx (Keep.dropL X4 (Keep.dropL X3 (Keep.dropL X2 (Keep.dropL X1 (Keep.dropL X0 ((.drop .refl)))))))))) ⟨l4,rfl,.inr ⟨_,BD _ _,hx⟩⟩
  refine Aj ?_;exact BS (i+1,l4,X4++(X3++(X2++(X1++X0)))) ⟨by simp only;omega,hI4⟩ (by simp only;omega) ⟨rfl,rfl,rfl,rfl,rfl,trivial⟩ (by simp only[Al];exact .refl)
 ·obtain rfl:i=T:=by omega
  have hv:LJ 0 (df i sh)=7*i+sh.toNat:=by
   have h3:i=1\/i=2\/i=3:=by omega
   rcases h3 with rfl|rfl|rfl<;>cases sh<;>rfl
  cases sh with
  |true=>
   have hv:LJ 0 (df i true)=7*i+1:=hv;refine Aj ?_;refine It (CZ rfl rfl (RZ (F:=F) (sh:=true) hT (m:=4*i) oG hY (G:=X0++(SI B1 F C i true::G)) (λc hc=>Aa _ ((.tail _ (hG c hc)))) hI0 B3 B2)) rfl rfl rfl ?_;rintro _ _ ⟨l1,X1,bb,rfl,rfl,hbb⟩;rcases hbb.symm with⟨rfl,hx⟩|⟨rfl,hI1⟩
   ·refine Aj ?_;exact A8 (l':=l1++G) (.drop (.drop (Jx (Keep.dropL X1 (Keep.dropL X0 ((.drop .refl))))))) ⟨l1,rfl,.inr ⟨_,BD _ _,hx⟩⟩
   refine Aj ?_;have hfe:ND F i true (4*i+1)=LJ 0 (df i true):=by rw[<-ZG F i true];rfl
   have hu:((F:Int)-ND F i true (4*i+1))/i=p8 F i true:=by rw[hfe];rfl
   have hmd:SI B1 F C i true∈l1++(X1++(X0++(SI B1 F C i true::G))):=Aa _ (Aa _ (Aa _ (.head _)));refine Aj ?_;rw[hu];refine Aj ?_;refine Cu (α:=Nat×List Ab×List Ab) (λx=>[(4,.func (.func 136) #[] #[pV B3,pV B2]),(5,.int .i64 (p8 F i true)),(45,.int .i64 i),(46,.int .i64 x.1)]) (λx=>iO B3 (ND F i true ((4*i+1)+x.1))::kD B2 r::(x.2.1++(x.2.2++(SI B1 F C i true::G)))) (λx=>x.1<=i/\I ((DV F i true).take ((4*i+1)+x.1)) x.2.1) (λx=>i-x.1) (0,l1,X1++X0) ⟨Bf _,hI1⟩ ⟨rfl,rfl,rfl,rfl,trivial⟩ (by simp only[Al];exact .refl) ?_;rintro⟨j,l7,X7⟩ ⟨hj,hI7⟩;simp only at hj hI7⊢;by_cases hlt2:j<i
   ·refine Aj ?_;refine AS (CZ rfl rfl (RZ (F:=F) (sh:=true) hT (m:=(4*i+1)+j) (fW (sh:=true) hlt2) hY (G:=X7++(SI B1 F C i true::G)) (λc hc=>Aa _ (.tail _ (hG c hc))) hI7 B3 B2)) ?_;rintro _ _ ⟨l8,X8,bb,rfl,rfl,hbb⟩;rcases hbb.symm with⟨rfl,hx⟩|⟨rfl,hI8⟩
    ·refine Aj ?_;exact A8 (l':=l8++G) (.drop (.drop (Jx (Keep.dropL X8 (Keep.dropL X7 ((.drop .refl))))))) ⟨l8,rfl,.inr ⟨_,BD _ _,hx⟩⟩
    refine Aj ?_;exact BS (j+1,l8,X8++X7) ⟨by simp only;omega,hI8⟩ (by simp only;omega) ⟨rfl,rfl,rfl,rfl,trivial⟩ (by simp only[Al];exact .refl)
   ·obtain rfl:j=i:=by omega
    have hall:(DV F j true).take ((4*j+1)+j)=DV F j true:=Bz (by unfold DV;rw[M2,OQ];simp only[Jg,KY];omega);rw[hall] at hI7;refine Aj ?_;exact A8 (l':=l7++G) (.drop (.drop (Jx (Keep.dropL X7 (.drop .refl))))) ⟨l7,rfl,.inl ⟨_,rfl,hI7⟩⟩
  |false=>
   have hv:LJ 0 (df i false)=7*i:=by simpa using hv
   have hfe:ND F i false (4*i)=LJ 0 (df i false):=by rw[<-ZG F i false];rfl
   have hu:((F:Int)-ND F i false (4*i))/i=p8 F i false:=by rw[hfe];rfl
   have hmd:SI B1 F C i false∈l0++(X0++(SI B1 F C i false::G)):=Aa _ (Aa _ (.head _));refine Aj ?_;rw[hu];refine Aj ?_;refine Cu (α:=Nat×List Ab×List Ab) (λx=>[(4,.func (.func 136) #[] #[pV B3,pV B2]),(5,.int .i64 (p8 F i false)),(45,.int .i64 i),(46,.int .i64 x.1)]) (λx=>iO B3 (ND F i false ((4*i)+x.1))::kD B2 r::(x.2.1++(x.2.2++(SI B1 F C i false::G)))) (λx=>x.1<=i/\I ((DV F i false).take ((4*i)+x.1)) x.2.1) (λx=>i-x.1) (0,l0,X0) ⟨Bf _,hI0⟩ ⟨rfl,rfl,rfl,rfl,trivial⟩ (by simp only[Al];exact .refl) ?_;rintro⟨j,l7,X7⟩ ⟨hj,hI7⟩;simp only at hj hI7⊢;by_cases hlt2:j<i
   ·refine Aj ?_;refine AS (CZ rfl rfl (RZ (F:=F) (sh:=false) hT (m:=(4*i)+j) (fW (sh:=false) hlt2) hY (G:=X7++(SI B1 F C i false::G)) (λc hc=>Aa _ (.tail _ (hG c hc))) hI7 B3 B2)) ?_;rintro _ _ ⟨l8,X8,bb,rfl,rfl,hbb⟩;rcases hbb.symm with⟨rfl,hx⟩|⟨rfl,hI8⟩
    ·refine Aj ?_;exact A8 (l':=l8++G) (.drop (.drop (Jx (Keep.dropL X8 (Keep.dropL X7 ((.drop .refl))))))) ⟨l8,rfl,.inr ⟨_,BD _ _,hx⟩⟩
    refine Aj ?_;exact BS (j+1,l8,X8++X7) ⟨by simp only;omega,hI8⟩ (by simp only;omega) ⟨rfl,rfl,rfl,rfl,trivial⟩ (by simp only[Al];exact .refl)
   ·obtain rfl:j=i:=by omega
    have hall:(DV F j false).take ((4*j)+j)=DV F j false:=Bz (by unfold DV;rw[M2,OQ];simp only[Jg,KY];omega);rw[hall] at hI7;refine Aj ?_;exact A8 (l':=l7++G) (.drop (.drop (Jx (Keep.dropL X7 (.drop .refl))))) ⟨l7,rfl,.inl ⟨_,rfl,hI7⟩⟩
end Go.Proofs.YtlkgekpmileobaaGreat
