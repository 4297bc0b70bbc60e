/- Laws that the statement's proof leans on (joined out of several texts). -/
import Derived.Test.YtlifcingifodfaaGreatGc33
set_option maxHeartbeats 4000000
set_option linter.unusedVariables false
set_option linter.unusedSimpArgs false
namespace Go.Proofs.YtlifcingifodfaaGreat
open Tryz
open List(toArray)
open Go.RowKit
set_option maxRecDepth 20000
variable{F T C b k k' m f i:Nat}{G l:Ad}{S S':KT}{p:RP}{sh:Bool}{s:RL}{P:Program}{vs:Ap}{Γ:Ad->Ad}{L:List (Int×Int)}{x:Int×Int}
def Ov(S:KT)(id st:Int):Int×KT:=
 if(Th.findH S.T id).isSome=false\/st<0\/4<st then(2,S)
 else(0,if st=1 then{S with T:=(Th.setD S.T {DW S id with st:=st}).2,Q:=(Qu.addQ S.Q id (DW S id).pr).2} else{S with T:=(Th.setD S.T {DW S id with st:=st}).2,Q:=(Qu.dropQ S.Q id).2})
theorem Ow(t:Th.ThT)(ht:TW t):EK prog F C b p 96 [pV p.t,Th.thV t] k S k (iV (Th.setD S.T t).1) {S with T:=(Th.setD S.T t).2}:=inferInstance
section
theorem Qp(hK:IsK F C k S p s)(id st:Int)(hk:k'+(if st=1 then 1 else 0)<=k):Fn prog 97 [pV b,.int .i64 id,.int .i64 st] (Aw b p s S G) (KK F C b p k' (iV (Ov S id st).1) (Ov S id st).2 G):=by
 have mr:CD b p∈Aw b p s S G:=mR λ_ h=>h;refine AO func97 ntmps97 λE=>?_;refine Aj ?_;refine EI ?_;refine AQ λb7=>?_;cases hf:(Th.findH S.T id).isSome with
 |false=>rw[show Ov S id st=(2,S) by unfold Ov;rw[Ac (.inl hf)]];refine Aj ?_;exact A9 (hk:=by split at hk<;>omega)
 |true=>
 by_cases hb:st<0\/4<st
 ·rw[show Ov S id st=(2,S) by unfold Ov;rw[Ac (.inr hb)]];by_cases h1:st<0<;>by_cases h2:4<st;all_goals first
   |(exfalso;omega)
   |(refine Aj ?_
     exact A9 (hk:=by split at hk<;>omega))
 have Jq:=hK.tO id;obtain⟨t,ht⟩: ∃t,DW S id=t:=⟨_,rfl⟩
 rw[ht] at Jq⊢
 replace Jq:TW {t with st:=st}:=⟨Jq.out⟩
 by_cases h1:st=1
 ·rw[show Ov S id st=(0,{S with T:=(Th.setD S.T {t with st:=st}).2,Q:=(Qu.addQ S.Q id t.pr).2}) by unfold Ov;rw[Ab (by rw[hf];simp;omega),Ac h1,ht]];rw[Ac h1] at hk
  replace hK:IsK F C (k'+1) S p s:=hK.mono hk
  refine Aj ?_;refine Cx (Cr [5] 0 6) ?_;refine CC ?_;refine MG ?_ (q:=Ow {t with st:=st} Jq);intro S1 s1 L1 EA Ey DL GI;refine CC ?_;refine Aj ?_;refine Cx (Cr [7] 0 8) ?_;refine CC ?_;refine MG ?_;intro S2 s2 L2 hS2 FT FL HP;refine CC ?_;refine Aj ?_;exact A9
 ·rw[show Ov S id st=(0,{S with T:=(Th.setD S.T {t with st:=st}).2,Q:=(Qu.dropQ S.Q id).2}) by unfold Ov;rw[Ab (by rw[hf];simp;omega),Ab h1,ht]];rw[Ab h1] at hk
  replace hK:IsK F C k' S p s:=hK.mono hk
  refine Aj ?_;refine Cx (Cr [5] 0 6) ?_;refine CC ?_;refine MG ?_ (q:=Ow {t with st:=st} Jq);intro S1 s1 L1 EA Ey DL GI;refine CC ?_;refine Aj ?_;refine Gc ?_;intro S2 s2 L2 hS2 FT FL HP;refine Aj ?_;exact A9
def HV(S:KT)(id Ch:Int):Ck×Int:=if(Th.findH S.T id).isSome=false then((0,0),2) else if Ch<0 then((0,0),3) else YG S.H.1 S.A (getD' S.H.1 (id,0)).1 Ch.toNat 12
theorem wK(hK:IsK F C k S p s)(id Ch:Int)(ha:Ch<18446744073709551616)(l:Ad)(hl: ∀c,c∈Aw b p s S G->c∈l):Fn prog 159 [pV b,.int .i64 id,.int .i64 Ch] l λv l'=>v= .tuple #[F4 (HV S id Ch).1,iV (HV S id Ch).2]/\l'=l:=by
 have mr:CD b p∈l:=mR hl;obtain⟨bs,bt,ls,lt,hb⟩:=hK.ho;have mh:Mw p.h bs bt∈l:=mH hl _ (by rw[hb.eq];exact .head _);have QT: ∀l2,(∀c,c∈l->c∈l2)->Fn prog 95 [pV p.t,.int .i64 id] l2 _:=λl2 h2=>Th.get_any p.t S.T s.T hK.th id l2 λc hc=>h2 _ (mT hl c hc);have QH: ∀l2,(∀c,c∈l->c∈l2)->Fn prog 165 [pV p.h,.agg (toArray [.int .i64 id,.int .i64 0])] l2 _:=λl2 h2=>Jh p.h S.H s.H hK.ho (id,0) l2 λc hc=>h2 _ (mH hl c hc);refine AO func159 ntmps159 λE=>?_;refine AQ λb6=>?_;refine tq (λl2 h2=>QT l2 λc hc=>h2 _ (.tail _ hc)) ?_;refine AQ λb8=>?_;cases hf:(Th.findH S.T id).isSome with
 |false=>rw[show HV S id Ch=((0,0),2) by unfold HV;rw[Ac hf]];refine Aj ?_;exact qr
 |true=>
 by_cases h0:Ch<0
 ·rw[show HV S id Ch=((0,0),3) by unfold HV;rw[Ab (by rw[hf];decide),Ac h0]];refine Aj ?_;exact qr
 obtain⟨a,rfl⟩: ∃q:Nat,Ch=q:=⟨Ch.toNat,Af⟩
 obtain⟨r,hr⟩: ∃r,(getD' S.H.1 (id,0)).1=r:=⟨_,rfl⟩
 rw[show HV S id a=YG S.H.1 S.A r a 12 by unfold HV;rw[Ab (by rw[hf];decide),Ab h0,hr,AY]];refine Aj ?_;refine tq (λl2 h2=>QH l2 λc hc=>h2 _ (.tail _ (.tail _ hc))) ?_;rw[hr];refine AQ λGX=>?_;refine Cx (Cr [15] 0 17) ?_;refine CC ?_;refine dl ?_ (AL rfl rfl λl2 h2=>K4 p.h bs bt l2 (h2 _ (.tail _ (.tail _ (.tail _ mh)))));refine CC ?_;refine dl ?_ (AL rfl rfl λl2 h2=>YH bs p.a S.H.1 S.A ls s.A hb.s hK.ar hK.rad a Af r 12 l2 (λc hc=>h2 _ (.tail _ (.tail _ (.tail _ (mH hl c (by rw[hb.eq];exact .tail _ (Ai _ hc))))))) (λc hc=>h2 _ (.tail _ (.tail _ (.tail _ (mA hl c hc))))));refine CC ?_;refine Aj ?_;exact qr
class EV(P:Program)(F C b:Nat)(p:RP)(f:Nat)(vs:Ap)(k:Nat)(S:KT)(k':outParam Nat)(S':outParam KT):Prop where
 out: ∀s G,IsK F C k S p s->Fn P f vs (Aw b p s S G) λ_ l'=> ∃s L,IsK F C k' S' p s/\Tail L G/\l'=Aw b p s S' L
theorem EV.on(q:EV P F C b p f vs k S k' S')(hK:IsK F C k S p s)(hF:Fr1 (Aw b p s S G) l Γ):Fn P f vs l λ_ l'=> ∃s' L,IsK F C k' S' p s'/\Tail L G/\l'=Γ (Aw b p s' S' L):=by
 obtain⟨A,rfl,hA⟩:=hF.eq;refine Fn.re (.of_perm (Fi b p s S A G)) (q.out s (A++G) hK) λv l' ⟨s',L,h2,⟨X,h3⟩,h4⟩=>⟨Γ (Aw b p s' S' (X++G)),?_,s',_,h2,⟨X,rfl⟩,rfl⟩
 rw[h4,h3,hA];exact .of_perm (T4 ..)
theorem tev{ro:Option Nat}{N:Nat}{E:World}{ops:Array Oper}{Q:Exit->Act->World->Prop}{A0:List Oper}{fr:Fr}{ds:List Deferred}{d:Nat}{x:Operand}{xs:List Operand}{at_:Array TypeId}{ty:TypeId}{pos:String}{aft:Array Edge}{g:Option (Nat×Bool)}(hk: ∀x0 S1 s' L,S1=S'->IsK F C k' S1 p s'->Tail L G->CD b p∈Aw b p s' S1 L->Dz P ro N E ops Q A0 ((d,x0)::fr) ds (Γ (Aw b p s' S1 L)))(hx:ev fr x=some (.func (.func f) #[] #[]):=by rfl)(hy:RS fr xs=some vs:=by rfl)(hF:Fr1 (Aw b p s S G) l Γ:=by exact dI)(c:EN P f:=by infer_instance)(hK:IsK F C k S p s:=by infer_instance)(q:EV P F C b p f vs k S k' S':=by infer_instance)(hw:Rr ops fr g=some true:=by rfl)(hb:Nat.blt d N=true:=by rfl):Dz P ro N E ops Q (⟨some d,.call {callee:= .value x,args:=xs.toArray,argTypes:=at_},ty,pos,aft,g⟩::A0) fr ds l:=
 Jr (AA hx hy (q.on hK hF)) hw rfl hb λv l' ⟨s',L,h2,h3,h4⟩=>by rw[h4];exact hk v S' s' L rfl h2 h3 (mR λ_ h=>h)
theorem Ox{D:En.DE}{id:Int}: ∀x,x∈(En.dropD D id).2.2->x∈D:=λx hx=>by
 unfold En.dropD at hx
 split at hx
 ·dsimp only at hx;first|exact(Co.1 hx).1|exact List.mem_of_mem_eraseP hx|exact hx
 ·dsimp only at hx;first|exact(Co.1 hx).1|exact hx
instance{id:Int}:EV prog F C b p 368 [pV p.e,.int .i64 id] k S k {S with E:=(En.dropD S.E id).2.2}:=⟨λs G h=>
 Fn.re (.of_perm (by unfold Aw;exact B0)) (En.drop_any p.e S.E s.E id h.en (CD b p::As.asA p.n S.N::(s.M++(s.C++(s.A++(s.H++(s.T++(s.Q++(s.V++G))))))))) λv l' ⟨sl,cs,h1,h2,q,h3,h4⟩=>⟨Aw b p {s with E:=q} {S with E:=(En.dropD S.E id).2.2} (cs++G),by rw[h4];unfold Aw;exact A8 [],{s with E:=q},_,{h with en:=h3,el:=λy hy=>h.el y (Ox y hy),eo:=λt x y hx hy=>h.eo t x y (Ox x hx) (Ox y hy)},⟨cs,rfl⟩,rfl⟩⟩
def Ui(S:KT)(id:Int):Int×KT:=
 if(Ar.getD' S.A id).2=false then(2,S)
 else if(Hx S.H.1 id).1=16 then(16,{S with H:=((Hx S.H.1 id).2,S.H.2)})
 else(0,{S with H:=((Hx S.H.1 id).2,S.H.2),A:=(Ar.dropD S.A id).2,T:=(Th.dropD S.T id).2,Q:=(Qu.dropQ S.Q id).2,E:=(En.dropD S.E id).2.2})
theorem mJ(hK:IsK F C k S p s)(id:Int):Fn prog 329 [pV b,.int .i64 id] (Aw b p s S G) (KK F C b p k (iV (Ui S id).1) (Ui S id).2 G):=by
 have mr:CD b p∈Aw b p s S G:=mR λ_ h=>h;unfold Ui;refine AO func329 ntmps329 λE=>?_;refine Aj ?_;refine EI ?_;refine AQ λb5=>?_;cases hf:(Ar.getD' S.A id).2 with
 |false=>rw[Ac rfl];refine Aj ?_;exact A9
 |true=>
 rw[Ab AZ];refine Aj ?_;refine Gc ?_;intro S1 s1 L1 EA Ey DL GI;obtain⟨e,he⟩: ∃e,(Hx S.H.1 id).1=e:=⟨_,rfl⟩
 rw[he];by_cases h16:e=16
 ·rw[Ac h16];refine Aj ?_;exact A9
 rw[Ab h16];refine Aj ?_;refine Gc ?_;intro S2 s2 L2 hS2 FT FL HP;refine Aj ?_;refine Gc ?_;intro S3 s3 L3 hS3 MD KQ PV;refine Aj ?_;refine Gc ?_;intro S4 s4 L4 hS4 hK4 jm mr4;refine Aj ?_;refine tev ?_;intro v5 S5 s5 L5 hS5 hK5 hT5 mr5;refine Aj ?_;exact A9
instance{id:Int}:EK prog F C b p 329 [pV b,.int .i64 id] k S k (iV (Ui S id).1) (Ui S id).2:=⟨λs G h=>mJ h id⟩
end
abbrev dX(t:Th.ThT):Th.ThT:={t with wa:=0,o0:=0,o1:=0,o2:=0,o3:=0,ob:=0,cl:=false,fa:=false,hs:=false,wr:=false,va:=0,vl:=0,gv:=4096,inn:=4096}
abbrev DV(S:KT)(t:Th.ThT):KT:={S with T:=(Th.setD S.T t).2}
abbrev Ps(S:KT)(id:Int):Bool:=(Th.findH S.T id).isSome
def wL(S:KT)(id:Int):KT:=if Ps S (Th.serverD S.T id)=true/\(DW S id).st=4 then DV S {DW S (Th.serverD S.T id) with ca:=0} else S
def haltE(S:KT)(id:Int):Int×KT:=Ov (DV S (dX (DW S id))) id 0
def IN(S:KT)(id:Int):Int×KT:=
 if Ps S id=false then(2,S)
 else haltE (wL {S with E:=(En.removeD S.E id).2} id) id
section
instance{id:Int}:EK prog F C b p 97 [pV b,.int .i64 id,.int .i64 1] (k+1) S k (iV (Ov S id 1).1) (Ov S id 1).2:=⟨λs G h=>Qp h id 1 (Bd _)⟩
instance{id:Int}:EK prog F C b p 97 [pV b,.int .i64 id,.int .i64 0] k S k (iV (Ov S id 0).1) (Ov S id 0).2:=⟨λs G h=>Qp h id 0 (Bd _)⟩
instance{id:Int}:EK prog F C b p 97 [pV b,.int .i64 id,.int .i64 2] k S k (iV (Ov S id 2).1) (Ov S id 2).2:=⟨λs G h=>Qp h id 2 (Bd _)⟩
instance{id:Int}:EK prog F C b p 97 [pV b,.int .i64 id,.int .i64 3] k S k (iV (Ov S id 3).1) (Ov S id 3).2:=⟨λs G h=>Qp h id 3 (Bd _)⟩
instance{id:Int}:EK prog F C b p 97 [pV b,.int .i64 id,.int .i64 4] k S k (iV (Ov S id 4).1) (Ov S id 4).2:=⟨λs G h=>Qp h id 4 (Bd _)⟩
theorem wM(hK:IsK F C k S p s)(id:Int):Fn prog 203 [pV b,.int .i64 id] (Aw b p s S G) (KK F C b p k (iV (IN S id).1) (IN S id).2 G):=by
 have mr:CD b p∈Aw b p s S G:=mR λ_ h=>h;unfold IN Ps;refine AO func203 ntmps203 λE=>?_;refine Aj ?_;refine EI ?_;refine Aj ?_;refine AR e_alloc ?_;rintro _ _ ⟨b5,_,rfl,rfl⟩;cases hf:(Th.findH S.T id).isSome with
 |false=>rw[Ac rfl];refine Aj ?_;exact A9
 |true=>
 rw[Ab AZ];refine Aj ?_;refine Gc ?_;intro S1 s1 L1 EA Ey DL GI;have eT:S1.T=S.T:=by rw[EA]
 have eO: ∀i,DW S1 i=DW S i:=λi=>by unfold DW;rw[eT]
 have eI: ∀i,Ps S1 i=Ps S i:=λi=>by unfold Ps;rw[eT]
 rw[<-EA];refine Aj ?_;refine Cx (Cr [14,15] 0 17) ?_;refine CC ?_;refine Id e_alloc (by rintro _ _ ⟨_,_,_,rfl⟩ c hc;exact .tail _ hc) ?_;rintro _ _ ⟨b7,_,rfl,rfl⟩;refine CC ?_;obtain⟨t,ht⟩: ∃t,DW S id=t:=⟨_,rfl⟩
 have htu:=Ey.tO (Th.serverD S1.T id);obtain⟨u,hu⟩: ∃u,DW S1 (Th.serverD S1.T id)=u:=⟨_,rfl⟩
 rw[hu] at htu;obtain⟨ok,Dm⟩: ∃ok,(Th.findH S1.T (Th.serverD S1.T id)).isSome=ok:=⟨_,rfl⟩
 rw[ht,hu,Dm];have fA:wL S1 id=if ok=true/\t.st=4 then DV S1 {u with ca:=0} else S1:=by unfold wL Ps;rw[Dm,eO id,ht,hu]
 refine CC ?_;have e1:=eO id;rw[ht] at e1;by_cases h4:ok=true/\t.st=4
 case' pos=>
  obtain⟨rfl,h4⟩:=h4;rw[Ac ⟨rfl,h4⟩] at fA;rw[fA];refine Aj ?_;refine Cx (Cr [5] 0 6) ?_;refine CC ?_;refine MG ?_ (q:=Ow {u with ca:=0} ⟨htu.out⟩);intro S2 s2 L2 hS2 FT FL HP;rw[show DV S1 {u with ca:=0}=S2 from hS2.symm];refine CC ?_;refine Aj ?_;refine EI ?_;obtain⟨t2,ZK⟩: ∃t2,DW S2 id=t2:=⟨_,rfl⟩
  unfold haltE;rw[ZK];refine Aj ?_
 case' neg=>
  rw[Ab h4] at fA;rw[fA];have h4':ok=true->¬t.st=4:=λa c=>h4 ⟨a,c⟩;unfold haltE;rw[e1];cases ok
  case' true=>have h4':=h4' rfl
  all_goals refine Aj ?_
 case' pos=>obtain⟨t3,ht3⟩: ∃t3,t3=t2:=⟨_,rfl⟩
 case' neg.true=>obtain⟨t3,ht3⟩: ∃t3,t3=t:=⟨_,rfl⟩
 case' neg.false=>obtain⟨t3,ht3⟩: ∃t3,t3=t:=⟨_,rfl⟩
 all_goals
  rw[<-ht3];refine Be (GL (zs:=[.int .u64 0,.int .u64 0,.int .u64 0,.int .u64 0]) (cs:=[.int .u64 0,.int .u64 0,.int .u64 0,.int .u64 0]) rfl rfl) ?_;refine Aj ?_;refine Cx (Cr [5] 0 6) ?_;refine CC ?_;refine MG ?_ (q:=Ow (dX t3) ⟨Mz,Mz⟩);intro S3 s3 L3 hS3 MD KQ PV;rw[show DV _ (dX t3)=S3 from hS3.symm];refine CC ?_;refine Aj ?_;refine Gc ?_;intro S4 s4 L4 hS4 hK4 jm mr4;refine Aj ?_;exact A9
end
def W8:Int->List (Int×Int)->List (Int×Int×Int)
 |_,[]=>[]
 |f,x::r=>(x.1,x.2,f)::W8 (f+Ar.framesD x.1 x.2) r
def Na:Int->List (Int×Int)->Int
 |f,[]=>f
 |f,x::r=>Na (f+Ar.framesD x.1 x.2) r
theorem mK(a b:List (Int×Int)): ∀f,Na f (a++b)=Na (Na f a) b:=by
 induction a with
 |nil=>intro f;rfl
 |cons x r ih=>intro f;exact ih _
theorem Oy: ∀(L:List (Int×Int)) (f:Int),(W8 f L).length=L.length
 |[],_=>rfl
 |x::r,f=>by show(W8 _ r).length+1=r.length+1;rw[Oy r]
theorem YX: ∀(L:List (Int×Int)) (f:Int) (m:Nat),(W8 f L)[m]?=L[m]?.map λx=>(x.1,x.2,Na f (L.take m))
 |[],_,m=>by simp[W8]
 |x::r,f,0=>rfl
 |x::r,f,m+1=>by show(W8 (f+Ar.framesD x.1 x.2) r)[m]?=_;rw[YX r];rfl
theorem io(h:L[m]?=some x)(f:Int):Na f (L.take (m+1))=Na f (L.take m)+Ar.framesD x.1 x.2:=by rw[Cf,h,mK];rfl
theorem iq(h:L[m]?=some x)(f:Int):(W8 f L).take (m+1)=(W8 f L).take m++[(x.1,x.2,Na f (L.take m))]:=by rw[Cf,YX,h];rfl
abbrev wN(x:Int×Int×Int):Value:= .agg (toArray [.int .i64 x.1,.int .i64 x.2.1,.int .i64 x.2.2])
abbrev pk(B:Nat)(f:Int):Bg:=(B,.cells (toArray [.int .i64 f]) 3 (0,0))
abbrev rI(B r:Nat):Bg:=(B,.cells (toArray [.func (.yield r) #[] #[]]) 264 (0,0))
theorem mL(r:Nat)(k z f:Int)(hf:0<=f/\f<=1000000)(B3 B2:Nat)(l G:Ad)(J1 J2:Ad->Prop)(hy: ∀G2,(∀c,c∈G->c∈G2)->NT prog r [wN (k,z,f)] (l++G2) (λv l'=> ∃l1,l'=l1++G2/\((v= .bool true/\J1 l1)\/(v= .bool false/\J2 l1)))):
 Fn prog 135 [.int .i64 k,.int .i64 z,pV B3,pV B2] (pk B3 f::rI B2 r::(l++G)) λv l'=> ∃l1 X bb,l'=pk B3 (f+Ar.framesD k z)::rI B2 r::(l1++(X++G))/\v= .bool bb/\((bb=true/\J1 l1)\/(bb=false/\J2 l1)):=by
 have fA:=Ar.frames_rng k z;refine AO func135 ntmps135 λE=>?_;refine AQ λb7=>?_;refine Cn [5] 6 ([]) ?_;refine BS ?_;apply Gi (S:=[pk B3 f]);(·exact UV);(·exact C5 (.tail _ (.head _)));(·rfl);(·rfl);(·rfl);refine BS ?_;apply EF
 ·exact AL rfl rfl (λl hl=>Ar.frames_any k z l)
 ·rfl
 ·rfl
 ·rfl
 refine BS ?_;apply Hs
 ·exact Gx rfl rfl rfl (by exact BW) .zero (by exact DX)
 (·rfl);(·rfl);(·intro _ _ _ c hc;cases hc);(·exact λ_ _ _ x hx ha=>Dg BB hx ha)
 rintro _ _ ⟨rfl,rfl⟩;refine BS ?_;refine Aj ?_;refine Bq (l':=l++((b7,.cells (toArray [.int .i64 k,.int .i64 z,.int .i64 f]) 198 (0,0))::pk B3 (f+Ar.framesD k z)::rI B2 r::G)) (Keep.of_perm (Az [_,_,_] l G)) ?_;refine AR (C0 rfl rfl (hy _ λc hc=> .tail _ (.tail _ (.tail _ hc)))) ?_;rintro v _ ⟨l1,rfl,hJ⟩;obtain⟨bb,rfl,hK⟩: ∃bb,v= .bool bb/\((bb=true/\J1 l1)\/(bb=false/\J2 l1)):=by
  rcases hJ with⟨rfl,h⟩|⟨rfl,h⟩
  ·exact⟨true,rfl,.inl ⟨rfl,h⟩⟩
  ·exact⟨false,rfl,.inr ⟨rfl,h⟩⟩
 refine Aj ?_;refine Bb (l':=pk B3 (f+Ar.framesD k z)::rI B2 r::(l1++([(b7,.cells (toArray [.int .i64 k,.int .i64 z,.int .i64 f]) 198 (0,0))]++G))) (A8 []) ?_;exact⟨l1,_,bb,rfl,rfl,hK⟩
def js(T:Nat)(sh:Bool):List (Int×Int):=(List.replicate T [(9,0),(2,4),(5,0),(6,0)]).flatten++(if sh then[(8,0)] else[])
def yM(F T:Nat)(sh:Bool):Int:=((F:Int)-Na 0 (js T sh))/T
def br(F T:Nat)(sh:Bool):List (Int×Int):=js T sh++List.replicate T (1,yM F T sh)
def Es(F T:Nat)(sh:Bool):List (Int×Int×Int):=W8 0 (br F T sh)
def Pe(F T:Nat)(sh:Bool)(m:Nat):Int:=Na 0 ((br F T sh).take m)
abbrev U1(B F C T:Nat)(sh:Bool):Bg:=(B,.cells (toArray [.int .i64 F,.int .i64 C,.int .i64 T,.bool sh]) 23 (0,0))
theorem YY: ∀(L:List (Int×Int)) (f:Int),0<=f->0<=Na f L/\Na f L<=f+64*L.length
 |[],f,h=>by show 0<=f/\f<=f+64*0;omega
 |x::r,f,h=>by have h1:=Ar.frames_rng x.1 x.2;have h2:=YY r (f+Ar.framesD x.1 x.2) Af;show 0<=Na _ r/\Na _ r<=f+64*((r.length+1:Nat):Int);omega
theorem uj: ∀(T i j:Nat),i<T->j<4->((List.replicate T [((9:Int),(0:Int)),(2,4),(5,0),(6,0)]).flatten)[4*i+j]?=[((9:Int),(0:Int)),(2,4),(5,0),(6,0)][j]?
 |0,i,j,h,_=>by omega
 |T+1,0,j,_,hj=>by rw[BJ,Cv,Nat.mul_zero,BE,AB (by simpa using hj)]
 |T+1,i+1,j,h,hj=>by rw[BJ,Cv,show 4*(i+1)+j=(4*i+j)+4 by omega,AN (by simp)];exact uj T i j Af hj
theorem O4(T:Nat):((List.replicate T [((9:Int),(0:Int)),(2,4),(5,0),(6,0)]).flatten).length=4*T:=by
 induction T with
 |zero=>rfl
 |succ T ih=>rw[BJ,Cv,Ah,ih];simp;omega
theorem O5(T:Nat)(sh:Bool):(js T sh).length=4*T+sh.toNat:=by unfold js;rw[Ah,O4];cases sh<;>rfl
theorem Qq(F T:Nat)(sh:Bool):(br F T sh).length=5*T+sh.toNat:=by unfold br;rw[Ah,O5,DO];omega
theorem Sv{j:Nat}(hi:i<T)(hj:j<4):(br F T sh)[4*i+j]?=[((9:Int),(0:Int)),(2,4),(5,0),(6,0)][j]?:=by unfold br;rw[AB (by rw[O5];omega)];unfold js;rw[AB (by rw[O4];omega)];exact uj T i j hi hj
theorem wO:(br F T true)[4*T]?=some (8,0):=by unfold br;rw[AB (by rw[O5];simp)];unfold js;rw[AN (by rw[O4];omega),O4,DR];rfl
theorem mO(hi:i<T):(br F T sh)[4*T+sh.toNat+i]?=some (1,yM F T sh):=by unfold br;rw[AN (by rw[O5];omega),O5,CG,Dy,Ac hi]
theorem dY(F T:Nat)(sh:Bool):(br F T sh).take (4*T+sh.toNat)=js T sh:=by unfold br;rw[<-O5,List.take_left]
theorem Ky{L1 G':Ad}(h:Keep G G'):Keep (L1++G) (L1++G'):=by obtain⟨X,hX⟩:=h;exact⟨X,(hX.append_left L1).trans (Az L1 X G')⟩
theorem Uj(hT:T<=3){k z:Int}(hm:(br F T sh)[m]?=some (k,z)){r:Nat}{I Ix:List (Int×Int×Int)->Ad->Prop}{G0:Ad}
 (hY: ∀pre x l G,(∀c,c∈G0->c∈G)->I pre l->pre++[x]<+:Es F T sh->NT prog r [wN x] (l++G) (λv l'=> ∃l1,l'=l1++G/\((v= .bool true/\I (pre++[x]) l1)\/(v= .bool false/\Ix (pre++[x]) l1))))
  (hG: ∀c,c∈G0->c∈G)(hI:I ((Es F T sh).take m) l)(B3 B2:Nat):
 Fn prog 135 [.int .i64 k,.int .i64 z,pV B3,pV B2] (pk B3 (Pe F T sh m)::rI B2 r::(l++G)) λv l'=> ∃l1 X bb,l'=pk B3 (Pe F T sh (m+1))::rI B2 r::(l1++(X++G))/\v= .bool bb/\((bb=true/\I ((Es F T sh).take (m+1)) l1)\/(bb=false/\Ix ((Es F T sh).take (m+1)) l1)):=by
 have e1:(Es F T sh).take (m+1)=(Es F T sh).take m++[(k,z,Pe F T sh m)]:=iq hm 0;have e2:Pe F T sh (m+1)=Pe F T sh m+Ar.framesD k z:=io hm 0;rw[e1,e2];have hb:0<=Pe F T sh m/\Pe F T sh m<=1000000:=by
  have h1:=YY ((br F T sh).take m) 0 (Int.le_refl 0);have h2:((br F T sh).take m).length<=16:=by
   rw[CV,Qq];have:sh.toNat<=1:=by cases sh<;>decide
   omega
  unfold Pe;omega
 exact mL r k z _ hb B3 B2 l G _ _ λG2 hG2=>hY _ (k,z,Pe F T sh m) l G2 (λc hc=>hG2 c (hG c hc)) hI (by rw[<-e1];exact BI _ _)
theorem bA(F C T:Nat)(sh:Bool)(l:Ad):Fn prog 90 [.agg (toArray [.int .i64 F,.int .i64 C,.int .i64 T,.bool sh])] l λv l'=> ∃B1,v= .func (.func 134) #[] #[pV B1]/\l'=U1 B1 F C T sh::l:=by refine AO func90 ntmps90 λE=>?_;refine Aj ?_;refine AR (C4 rfl) ?_;rintro _ _ ⟨B1,_,rfl,rfl⟩;refine Aj ?_;exact Bb .refl ⟨B1,rfl,rfl⟩
theorem YZ(B1 F C T:Nat)(sh:Bool)(DL:1<=T)(hT:T<=3)(hF:11*T<=F)(SO:F<=64):tL prog 134 [pV B1] (λx=>[wN x]) (λxs=>xs=Es F T sh) (λpre=>pre<+:Es F T sh) (λ_ _=>True) [U1 B1 F C T sh]:=by
 refine⟨λr I Ix G0 Ca hY l G hG h0=>?_⟩;refine AO func134 ntmps134 λE=>?_;refine Aj ?_;refine AR (Ex rfl rfl) ?_;rintro _ _ ⟨B2,_,rfl,rfl⟩;refine Aj ?_;refine AR e_alloc ?_;rintro _ _ ⟨B3,_,rfl,rfl⟩;have pL:U1 B1 F C T sh∈l++([U1 B1 F C T sh]++G):=Aa _ (.head _);refine Aj ?_;refine CF (α:=Nat×Ad×Ad) (λx=>[(1,pV B1),(3,pV B3),(4,.func (.func 135) #[] #[pV B3,pV B2]),(8,.int .i64 T),(9,.int .i64 x.1)]) (λx=>pk B3 (Pe F T sh (4*x.1))::rI B2 r::(x.2.1++(x.2.2++(U1 B1 F C T sh::G)))) (λx=>x.1<=T/\I ((Es F T sh).take (4*x.1)) x.2.1) (λx=>T-x.1) (0,l,[]) ⟨Bm _,h0⟩ ⟨rfl,rfl,rfl,rfl,rfl,trivial⟩ .refl ?_;rintro⟨i,l0,X0⟩ ⟨hi,hI0⟩;simp only at hi hI0⊢;have pL:U1 B1 F C T sh∈l0++(X0++(U1 B1 F C T sh::G)):=Aa _ (Aa _ (.head _));by_cases Dc:i<T
 ·refine Aj ?_;refine AR (Dn rfl rfl (Uj (F:=F) (sh:=sh) hT (m:=4*i+0) (Sv Dc AZ) hY (G:=X0++(U1 B1 F C T sh::G)) (λc hc=>Aa _ ((.tail _ (hG c hc)))) hI0 B3 B2)) ?_;rintro _ _ ⟨l1,X1,bb,rfl,rfl,hbb⟩;rcases hbb.symm with⟨rfl,hx⟩|⟨rfl,jn⟩
  ·refine Aj ?_;exact Bb (l':=l1++G) (.drop (.drop (Ky (Keep.dropL X1 (Keep.dropL X0 ((.drop .refl))))))) ⟨l1,rfl,.inr ⟨_,BI _ _,hx⟩⟩
  refine Aj ?_;refine Jr (Dn rfl rfl (Uj (F:=F) (sh:=sh) hT (m:=4*i+1) (Sv Dc AZ) hY (G:=X1++(X0++(U1 B1 F C T sh::G))) (λc hc=>Aa _ (Aa _ ((.tail _ (hG c hc))))) jn B3 B2)) rfl rfl rfl ?_;rintro _ _ ⟨l2,X2,bb,rfl,rfl,hbb⟩;rcases hbb.symm with⟨rfl,hx⟩|⟨rfl,NP⟩
  ·refine Aj ?_;exact Bb (l':=l2++G) (.drop (.drop (Ky (Keep.dropL X2 (Keep.dropL X1 (Keep.dropL X0 ((.drop .refl)))))))) ⟨l2,rfl,.inr ⟨_,BI _ _,hx⟩⟩
  refine Aj ?_;refine Jr (Dn rfl rfl (Uj (F:=F) (sh:=sh) hT (m:=4*i+2) (Sv Dc AZ) hY (G:=X2++(X1++(X0++(U1 B1 F C T sh::G)))) (λc hc=>Aa _ (Aa _ (Aa _ ((.tail _ (hG c hc)))))) NP B3 B2)) rfl rfl rfl ?_;rintro _ _ ⟨l3,X3,bb,rfl,rfl,hbb⟩;rcases hbb.symm with⟨rfl,hx⟩|⟨rfl,ZR⟩
  ·refine Aj ?_;exact Bb (l':=l3++G) (.drop (.drop (Ky (Keep.dropL X3 (Keep.dropL X2 (Keep.dropL X1 (Keep.dropL X0 ((.drop .refl))))))))) ⟨l3,rfl,.inr ⟨_,BI _ _,hx⟩⟩
  refine Aj ?_;refine Jr (Dn rfl rfl (Uj (F:=F) (sh:=sh) hT (m:=4*i+3) (Sv Dc AZ) hY (G:=X3++(X2++(X1++(X0++(U1 B1 F C T sh::G))))) (λc hc=>Aa _ (Aa _ (Aa _ (Aa _ ((.tail _ (hG c hc))))))) ZR B3 B2)) rfl rfl rfl ?_;rintro _ _ ⟨l4,X4,bb,rfl,rfl,hbb⟩;rcases hbb.symm with⟨rfl,hx⟩|⟨rfl,vz⟩
  ·refine Aj ?_;exact Bb (l':=l4++G) (.drop (.drop (Ky (Keep.dropL X4 (Keep.dropL X3 (Keep.dropL X2 (Keep.dropL X1 (Keep.dropL X0 ((.drop .refl)))))))))) ⟨l4,rfl,.inr ⟨_,BI _ _,hx⟩⟩
  refine Aj ?_;exact BR (i+1,l4,X4++(X3++(X2++(X1++X0)))) ⟨by simp only;omega,vz⟩ (by simp only;omega) ⟨rfl,rfl,rfl,rfl,rfl,trivial⟩ (by simp only[Am];exact .refl)
 ·obtain rfl:i=T:=by omega
  have hv:Na 0 (js i sh)=7*i+sh.toNat:=by
   have h3:i=1\/i=2\/i=3:=by omega
   rcases h3 with rfl|rfl|rfl<;>cases sh<;>rfl
  cases sh with
  |true=>
   have hv:Na 0 (js i true)=7*i+1:=hv;refine Aj ?_;refine Jr (Dn rfl rfl (Uj (F:=F) (sh:=true) hT (m:=4*i) wO hY (G:=X0++(U1 B1 F C i true::G)) (λc hc=>Aa _ ((.tail _ (hG c hc)))) hI0 B3 B2)) rfl rfl rfl ?_;rintro _ _ ⟨l1,X1,bb,rfl,rfl,hbb⟩;rcases hbb.symm with⟨rfl,hx⟩|⟨rfl,jn⟩
   ·refine Aj ?_;exact Bb (l':=l1++G) (.drop (.drop (Ky (Keep.dropL X1 (Keep.dropL X0 ((.drop .refl))))))) ⟨l1,rfl,.inr ⟨_,BI _ _,hx⟩⟩
   refine Aj ?_;have hfe:Pe F i true (4*i+1)=Na 0 (js i true):=by rw[<-dY F i true];rfl
   have hu:((F:Int)-Pe F i true (4*i+1))/i=yM F i true:=by rw[hfe];rfl
   have hmd:U1 B1 F C i true∈l1++(X1++(X0++(U1 B1 F C i true::G))):=Aa _ (Aa _ (Aa _ (.head _)));refine Aj ?_;rw[hu];refine Aj ?_;refine CF (α:=Nat×Ad×Ad) (λx=>[(4,.func (.func 135) #[] #[pV B3,pV B2]),(5,.int .i64 (yM F i true)),(45,.int .i64 i),(46,.int .i64 x.1)]) (λx=>pk B3 (Pe F i true ((4*i+1)+x.1))::rI B2 r::(x.2.1++(x.2.2++(U1 B1 F C i true::G)))) (λx=>x.1<=i/\I ((Es F i true).take ((4*i+1)+x.1)) x.2.1) (λx=>i-x.1) (0,l1,X1++X0) ⟨Bm _,jn⟩ ⟨rfl,rfl,rfl,rfl,trivial⟩ (by simp only[Am];exact .refl) ?_;rintro⟨j,l7,X7⟩ ⟨hj,XI⟩;simp only at hj XI⊢;by_cases vA:j<i
   ·refine Aj ?_;refine AR (Dn rfl rfl (Uj (F:=F) (sh:=true) hT (m:=(4*i+1)+j) (mO (sh:=true) vA) hY (G:=X7++(U1 B1 F C i true::G)) (λc hc=>Aa _ (.tail _ (hG c hc))) XI B3 B2)) ?_;rintro _ _ ⟨l8,X8,bb,rfl,rfl,hbb⟩;rcases hbb.symm with⟨rfl,hx⟩|⟨rfl,vB⟩
    ·refine Aj ?_;exact Bb (l':=l8++G) (.drop (.drop (Ky (Keep.dropL X8 (Keep.dropL X7 ((.drop .refl))))))) ⟨l8,rfl,.inr ⟨_,BI _ _,hx⟩⟩
    refine Aj ?_;exact BR (j+1,l8,X8++X7) ⟨by simp only;omega,vB⟩ (by simp only;omega) ⟨rfl,rfl,rfl,rfl,trivial⟩ (by simp only[Am];exact .refl)
   ·obtain rfl:j=i:=by omega
    have Gv:(Es F j true).take ((4*j+1)+j)=Es F j true:=Bz (by unfold Es;rw[Oy,Qq];simp only[Kd,Mh];omega);rw[Gv] at XI;refine Aj ?_;exact Bb (l':=l7++G) (.drop (.drop (Ky (Keep.dropL X7 (.drop .refl))))) ⟨l7,rfl,.inl ⟨_,rfl,XI⟩⟩
  |false=>
   have hv:Na 0 (js i false)=7*i:=by simpa using hv
   have hfe:Pe F i false (4*i)=Na 0 (js i false):=by rw[<-dY F i false];rfl
   have hu:((F:Int)-Pe F i false (4*i))/i=yM F i false:=by rw[hfe];rfl
   have hmd:U1 B1 F C i false∈l0++(X0++(U1 B1 F C i false::G)):=Aa _ (Aa _ (.head _));refine Aj ?_;rw[hu];refine Aj ?_;refine CF (α:=Nat×Ad×Ad) (λx=>[(4,.func (.func 135) #[] #[pV B3,pV B2]),(5,.int .i64 (yM F i false)),(45,.int .i64 i),(46,.int .i64 x.1)]) (λx=>pk B3 (Pe F i false ((4*i)+x.1))::rI B2 r::(x.2.1++(x.2.2++(U1 B1 F C i false::G)))) (λx=>x.1<=i/\I ((Es F i false).take ((4*i)+x.1)) x.2.1) (λx=>i-x.1) (0,l0,X0) ⟨Bm _,hI0⟩ ⟨rfl,rfl,rfl,rfl,trivial⟩ (by simp only[Am];exact .refl) ?_;rintro⟨j,l7,X7⟩ ⟨hj,XI⟩;simp only at hj XI⊢;by_cases vA:j<i
   ·refine Aj ?_;refine AR (Dn rfl rfl (Uj (F:=F) (sh:=false) hT (m:=(4*i)+j) (mO (sh:=false) vA) hY (G:=X7++(U1 B1 F C i false::G)) (λc hc=>Aa _ (.tail _ (hG c hc))) XI B3 B2)) ?_;rintro _ _ ⟨l8,X8,bb,rfl,rfl,hbb⟩;rcases hbb.symm with⟨rfl,hx⟩|⟨rfl,vB⟩
    ·refine Aj ?_;exact Bb (l':=l8++G) (.drop (.drop (Ky (Keep.dropL X8 (Keep.dropL X7 ((.drop .refl))))))) ⟨l8,rfl,.inr ⟨_,BI _ _,hx⟩⟩
    refine Aj ?_;exact BR (j+1,l8,X8++X7) ⟨by simp only;omega,vB⟩ (by simp only;omega) ⟨rfl,rfl,rfl,rfl,trivial⟩ (by simp only[Am];exact .refl)
   ·obtain rfl:j=i:=by omega
    have Gv:(Es F j false).take ((4*j)+j)=Es F j false:=Bz (by unfold Es;rw[Oy,Qq];simp only[Kd,Mh];omega);rw[Gv] at XI;refine Aj ?_;exact Bb (l':=l7++G) (.drop (.drop (Ky (Keep.dropL X7 (.drop .refl))))) ⟨l7,rfl,.inl ⟨_,rfl,XI⟩⟩
end Go.Proofs.YtlifcingifodfaaGreat
