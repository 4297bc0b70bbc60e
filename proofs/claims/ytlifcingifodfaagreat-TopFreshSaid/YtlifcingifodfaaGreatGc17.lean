/- Laws that the statement's proof leans on (joined out of several texts). -/
import Derived.Test.YtlifcingifodfaaGreatGc16
set_option maxHeartbeats 4000000
set_option linter.unusedVariables false
set_option linter.unusedSimpArgs false
namespace Go.Proofs.YtlifcingifodfaaGreat
open Tryz
open List(toArray replicate)
open Go.RowKit
set_option maxRecDepth 20000
variable{n k a v N b:Nat}{c x:CapT}{C:List CapT}{α:Type}{P:Program}{ro:Option Nat}{R l:Ad}{ty t t2:TypeId}{pos:String}{g:Option (Nat×Bool)}{y:Operand}
theorem setFrom_mid: ∀(us ws X Y:Ap),us.length=ws.length->C8 (toArray (X++(us++Y))) X.length ws=toArray (X++(ws++Y))
 |[],[],X,Y,_=>rfl
 |u::us,w::ws,X,Y,h=>by
  have h1:(toArray (X++(u::us++Y))).setIfInBounds X.length w=toArray ((X++[w])++(us++Y)):=by apply BU.1;rw[Array.toList_setIfInBounds];show(X++(u::(us++Y))).set X.length w=_;rw[Cs _ _ Af,DR,Fv];simp
  unfold C8;rw[h1];have h2:=setFrom_mid us ws (X++[w]) Y (by simpa using h);rw[Ah] at h2;rw[show X.length+1=X.length+[w].length from rfl,h2];simp
theorem qJ(A B:List CapT):Sn (A++B)=Sn A++Sn B:=Ed
theorem Ys: ∀n:Nat,Sn (replicate n CI)=(replicate n (B9 CI)).flatten
 |0=>rfl
 |n+1=>by rw[BJ,BJ,Cv,<-Ys n];rfl
theorem VF(h:C[k]?=some x):C=C.take k++x::C.drop (k+1)/\(C.take k).length=k:=by
 have hk:=(Ay.1 h).1;have h1:=Cj k C;rw[Dh hk] at h1;have h2:C[k]=x:=by rw[Al hk] at h;exact AX h
 rw[h2] at h1;exact⟨h1.symm,by rw[CV];omega⟩
theorem gA(h:C[k]?=some x):C.set k c=C.take k++c::C.drop (k+1):=by
 obtain⟨h1,h2⟩:=VF h
 conv=>lhs;rw[h1]
 rw[Cs _ _ Af,h2,DR,Fv]
theorem qK(h:C[k]?=some x):C8 (toArray (Sn C)) (k*8) (B9 c)=toArray (Sn (C.set k c)):=by
 obtain⟨h1,h2⟩:=VF h;rw[gA h];have e: ∀y:CapT,Sn (C.take k++y::C.drop (k+1))=Sn (C.take k)++(B9 y++Sn (C.drop (k+1))):=λy=>by rw[qJ];rfl
 have hl:(Sn (C.take k)).length=k*8:=by rw[Aau,h2]
 rw[e c,<-hl]
 conv=>lhs;rw[show Sn C=Sn (C.take k)++(B9 x++Sn (C.drop (k+1))) by rw[<-e x,<-h1]]
 exact setFrom_mid _ _ _ _ rfl
theorem TD{key:α->Int}(S:List α)(x:α):(Mt key S x).Perm (x::S):=by unfold Mt;refine AI.trans (List.Perm.cons x ?_);rw[Cb]
theorem OT{key:α->Int}{S:List α}{x y:α}:y∈Mt key S x<->y=x\/y∈S:=by rw[(TD S x).mem_iff];simp
def Hx(D:SD)(a:Int):Int×SD:=match D6 Prod.fst D a with
 |none=>(2,D)
 |some x=>if x.2.all (λc=>Mb c CI)=true then(0,D.filter λx=>decide (x.1≠a)) else(16,D)
def Gn(D:SD)(s:Ck)(c:CapT):SD:=D.map λx=>if x.1=s.1 then(x.1,x.2.set s.2.toNat c) else x
def setD(D:SD)(s:Ck)(c:CapT):Int×SD:=if FJ D s=true then(if FD c=true then(0,Gn D s c) else(5,D)) else(3,D)
theorem add_any(b:Nat)(D:SD)(lq:Ad)(hq:IsS b D lq)(id n:Int)(G:Ad):
 Fn prog 184 [.pointer (some ⟨b,0,none⟩),.int .i64 id,.int .i64 n] (lq++G) λv l'=>v= .int .i64 (Hg D id n).1/\ ∃DD,IsS b (Hg D id n).2 DD/\l'=DD++G:=by
 have MJ:=hq;obtain⟨S,m,es,clock,rfl,hS⟩:=hq;have Xr:xC b m∈lq++G:=Ai _ hS.m1;have UL:(m,FU .i64 es clock)∈lq++G:=Ai _ hS.m2;refine AO func184 ntmps184 λE=>?_;by_cases h1:id<1
 ·rw[show Hg (S.map NdS.d) id n=(2,S.map NdS.d) by unfold Hg;rw[Ac (.inl h1)]];refine gz ?_;exact Bb .refl ⟨rfl,_,MJ,rfl⟩
 by_cases h2:n<1
 ·rw[show Hg (S.map NdS.d) id n=(2,S.map NdS.d) by unfold Hg;rw[Ac (.inr (.inl h2))]];refine gz ?_;exact Bb .refl ⟨rfl,_,MJ,rfl⟩
 by_cases h3:16<n
 ·rw[show Hg (S.map NdS.d) id n=(2,S.map NdS.d) by unfold Hg;rw[Ac (.inr (.inr h3))]];refine gz ?_;exact Bb .refl ⟨rfl,_,MJ,rfl⟩
 have zf:¬(id<1\/n<1\/16<n):=by omega
 obtain⟨k,rfl⟩: ∃k:Nat,n=(k:Nat):=⟨n.toNat,Af⟩
 obtain⟨p,n0,cap,ZI,PQ⟩:=hS.look1 id;cases hf:D6 NdS.id S id with
 |some nd=>
  rw[show Hg (S.map NdS.d) id (k:Nat)=(11,S.map NdS.d) by unfold Hg;rw[Ab zf,Kh,hf];rfl];have y5:0<n0:=by unfold Jw at PQ;rw[Kh,hf] at PQ;have:=(hS.sz nd (Fg hf).1).1;simp at PQ;omega
  refine gz ?_;rw[ZI];refine gz ?_;exact Bb .refl ⟨rfl,_,MJ,rfl⟩
 |none=>
  rw[show Hg (S.map NdS.d) id (k:Nat)=(0,Mt Prod.fst (S.map NdS.d) (id,replicate k CI)) by unfold Hg;rw[Ab zf,Kh,hf];rfl];have hz:n0=0:=by unfold Jw at PQ;rw[Kh,hf] at PQ;simp at PQ;omega
  refine gz ?_;rw[ZI];refine gz ?_;refine Cn [6,7] 8 ([xC b m]) ?_ (hR:=(C5 Xr));refine pz ?_;apply CS
  ·exact Ga (n:=k) (kk:=8) (xs:=Sn (replicate k CI)) rfl rfl Af Af AZ (Ys k)
  ·rfl
  ·rfl
  ·rfl
  ·rintro _ _ ⟨gb,_,_,rfl⟩ c hc;rw[AE.1 hc];exact .tail _ Xr
  rintro _ _ ⟨gb,RQ,rfl,rfl⟩;refine pz ?_;obtain⟨nd,KP⟩: ∃nd:NdS,nd=⟨id,replicate k CI,gb⟩:=⟨_,rfl⟩
  have u7:NdS.val nd= .slice (some ⟨gb,0,none⟩) k k:=by rw[KP];simp[NdS.val]
  rw[hS.eq];simp only[Ae];apply NZ
  ·exact Lz (a:=id) (es:=es) (clock:=clock) rfl rfl rfl (.there (.there .here))
  ·rfl
  ·rfl
  ·rintro _ _ ⟨rfl,rfl⟩ c hc;rw[AE.1 hc];exact .tail _ (.head _)
  rintro _ _ ⟨rfl,rfl⟩;refine pz ?_;refine gz ?_;have zg:=hS.mb.add (t:=nd) (by rw[KP];exact hf);rw[u7,show nd.id=id by rw[KP]] at zg;refine Bb (l':=(xC b m::(m,FU .i64 (N2 id (.slice (some ⟨gb,0,none⟩) k k) clock es).1 (N2 id (.slice (some ⟨gb,0,none⟩) k k) clock es).2)::(Mt NdS.id S nd).map NdS.blk)++G) ?_ ⟨rfl,_,⟨Mt NdS.id S nd,m,_,_,?_,rfl,zg,?_⟩,rfl⟩
  ·have hp:((Mt NdS.id S nd).map NdS.blk++G).Perm (nd.blk::(S.map NdS.blk++G)):=((TD S nd).map _).append_right G;refine Keep.of_perm ?_;have hb:(gb,Obj.cells (toArray (Sn (replicate k CI))) 74 (0,0))=nd.blk:=by rw[KP]
   rw[hb];exact(List.Perm.trans (List.Perm.swap _ _ _) (((List.Perm.swap _ _ _).trans (hp.symm.cons _)).cons _))
  ·rw[qI (key':=Prod.fst) (λx=>rfl),KP]
  ·intro x hx;rcases OT.1 hx with rfl|hx
   ·rw[KP];simp;omega
   ·exact hS.sz x hx
theorem kX(A B l:Ad)(x:Bg):Keep ((A++x::B)++l) ((A++B)++l):=
 ⟨[x],by have h:(A++x::B).Perm (x::(A++B)):=AI;exact h.append_right l⟩
theorem kY{S:List NdS}{a:Int}:(S.filter λx=>decide (x.id≠a)).map NdS.d=(S.map NdS.d).filter λx=>decide (x.1≠a):=by rw[List.filter_map];rfl
theorem Aav{A B:List NdS}{nd:NdS}(hs:(A++nd::B).Pairwise λx y=>x.id<y.id):Gn ((A++nd::B).map NdS.d) (nd.id,(k:Nat)) c=(A++{nd with C:=nd.C.set k c}::B).map NdS.d:=by
 obtain⟨_,h2,h3⟩:=Bp.1 hs;have h4:=(Cd.1 h2).1;unfold Gn;simp only[Aq,AJ,CR];congr 1
 ·apply BA;intro x hx;have:=h3 x hx nd Ak;show(if x.id=nd.id then _ else x.d)=x.d;rw[Ab Af]
 ·refine List.cons_eq_cons.2 ⟨?_,?_⟩
  ·rw[Ac trivial];rfl
  ·apply BA;intro x hx;have:=h4 x hx;show(if x.id=nd.id then _ else x.d)=x.d;rw[Ab Af]
theorem set_any(b:Nat)(D:SD)(lq:Ad)(hq:IsS b D lq)(s:Ck)(c:CapT)(G:Ad):
 Fn prog 186 [.pointer (some ⟨b,0,none⟩),.agg (toArray (Ct s)),.agg (toArray (B9 c))] (lq++G) λv l'=>v= .int .i64 (setD D s c).1/\ ∃DD,IsS b (setD D s c).2 DD/\l'=DD++G:=by
 have MJ:=hq;obtain⟨S,m,es,clock,rfl,hS⟩:=hq;refine AO func186 ntmps186 λE=>?_;refine Ih λb4=>?_;refine Ih λb5=>?_;refine Be (AL rfl rfl λl2 hl=>JI b _ S m clock es lq rfl hS s l2 λc hc=>hl c (.tail _ (.tail _ (Ai _ hc)))) ?_;cases Dm:FJ (S.map NdS.d) s with
 |false=>rw[show setD (S.map NdS.d) s c=(3,S.map NdS.d) by unfold setD;rw[Dm];rfl];simp only[Bl,C3];refine gz ?_;exact Bb (.drop (.drop .refl)) ⟨rfl,_,MJ,rfl⟩
 |true=>
  have jH:=Dm;unfold FJ at jH;rw[AW,Bj,Bj] at jH;obtain⟨p,n,cap,ZI,hn⟩:=hS.look1 s.1;obtain⟨nd,hf,Ei,KP⟩:=hS.look2 s.1 hn Af;obtain⟨k,hk⟩: ∃k:Nat,s.2=(k:Nat):=⟨s.2.toNat,Af⟩
  obtain⟨x,hx⟩: ∃x,nd.C[k]?=some x:=⟨_,Al Af⟩
  rw[show kW S s=some ⟨nd.gb,k*8,none⟩ by unfold kW;rw[Dm,hf,hk];rfl];simp only[C6];cases hM:FD c with
  |false=>rw[show setD (S.map NdS.d) s c=(5,S.map NdS.d) by unfold setD;rw[Dm,hM];rfl];refine gz ?_;refine Be (AL rfl rfl λl2 _=>Io c l2) ?_;rw[hM];refine gz ?_;exact Bb (.drop (.drop .refl)) ⟨rfl,_,MJ,rfl⟩
  |true=>
   rw[show setD (S.map NdS.d) s c=(0,Gn (S.map NdS.d) s c) by unfold setD;rw[Dm,hM];rfl];refine gz ?_;refine Be (AL rfl rfl λl2 _=>Io c l2) ?_;rw[hM];refine gz ?_;obtain⟨A,B,ZF,Va,_⟩:=TC hf;obtain⟨g1,g2⟩:=WF hx;have u6:S.map NdS.blk=A.map NdS.blk++nd.blk::B.map NdS.blk:=by rw[ZF,Aq,AJ]
   rw[hS.eq,u6];simp only[Ae,Am];refine ME (El (b:=nd.gb) (off:=k*8) (cs:=toArray (Sn nd.C)) (n:=8) rfl rfl rfl (by simp[Value.oneCell']) (.there (.there (.there (.there (FH _ _ _ _ _))))) g2) rfl rfl ?_;rintro _ _ ⟨rfl,rfl⟩;rw[show C8 (toArray (Sn nd.C)) (k*8) (toArray (B9 c)).toList=toArray (Sn (nd.C.set k c)) from qK hx];refine gz ?_;have hs:s=(nd.id,((k:Nat):Int)):=by rw[Va,<-hk]
   refine Bb (l':=(xC b m::(m,FU .i64 es clock)::(A++{nd with C:=nd.C.set k c}::B).map NdS.blk)++G) (.drop (.drop (by rw[Aq,AJ];exact .of_perm (.of_eq (by simp))))) ⟨rfl,_,⟨A++{nd with C:=nd.C.set k c}::B,m,es,clock,?_,rfl,?_,?_⟩,rfl⟩
   ·rw[hs,ZF,Aav (by rw[<-ZF];exact hS.mb.asc)]
   ·have hm:=hS.mb;rw[ZF] at hm;exact hm.repl rfl (by simp[NdS.val])
   ·intro y hy;have h1:=hS.sz;rw[ZF] at h1;rcases AH.1 hy with hy|hy
    ·exact h1 y (Ai _ hy)
    ·rcases At.1 hy with rfl|hy
     ·have:=h1 nd (Aa _ Ak);simpa using this
     ·exact h1 y (Aa _ (.tail _ hy))
theorem Aaw(h:a<9223372036854775808):IntKind.i64.wrap ((a:Nat):Int)=((a:Nat):Int):=by simp[IntKind.wrap,IntKind.signed,IntKind.bits];omega
section
variable{fr:Fr}{d:Option Nat}{aft:Array Edge}{x:Operand}
theorem wh(hx:ev fr x=some (.int .i64 (a:Nat)))(hy:ev fr y=some (.int .i64 (b:Nat)))(ha:a<2^63)(hb:b<2^63):OpQ P ro N fr R ⟨d,.binOp .and t x y t2,ty,pos,aft,g⟩ (.int .i64 ((a&&& b:Nat):Int)):=
 IK hx hy (λ_ _=>Db _ _ _ _ _) (by
  have e1:(BitVec.ofInt IntKind.i64.bits ((a:Nat):Int)).toNat=a:=by show(BitVec.ofInt 64 ((a:Nat):Int)).toNat=a;rw[D4,Eu,Dx Af]
  have e2:(BitVec.ofInt IntKind.i64.bits ((b:Nat):Int)).toNat=b:=by show(BitVec.ofInt 64 ((b:Nat):Int)).toNat=b;rw[D4,Eu,Dx Af]
  simp only[binOp,Op.intBits,Mf,e1,e2];rw[Aaw (Et Ka ha)];rfl)
end
def UW(r:Int):Bool:=decide (0<=r)&&decide (r<=7)
def LE(a b:Int):Int:=if UW a&&UW b then((a.toNat&&& b.toNat:Nat):Int) else 0
def Eo(c:CapT)(DC:Int):CapT×Int:=
 if FD c=false\/UW DC=false then(CI,2) else if c.kind=0 then(CI,10) else if c.kind=1\/c.kind=7 then(CI,8)
 else if c.kind=3 then(if LE c.rights DC=0 then(CI,9) else(⟨c.kind,c.obj,LE c.rights DC,c.badge,c.guard,c.bits,0,0⟩,0))
 else if c.kind=8 then(⟨c.kind,c.obj,LE c.rights DC,c.badge,c.guard,c.bits,c.serial,c.page⟩,0) else(c,0)
abbrev Ru(d:CapT)(Ew:Nat):CapT:=⟨d.kind,d.obj,d.rights,d.badge,((Ew%4096:Nat):Int),((Ew/4096:Nat):Int),d.serial,d.page⟩
def TE(d:CapT)(Ew:Nat):CapT×Int:=
 if d.kind=8 then(if Ew>16777215 then(CI,3) else if d.badge≠0 then(CI,9) else(⟨d.kind,d.obj,d.rights,((Ew:Nat):Int),d.guard,d.bits,d.serial,d.page⟩,0))
 else if d.kind=2 then(if Ew>=65536 then(CI,3) else if FD (Ru d Ew)=false then(CI,3) else(Ru d Ew,0))
 else if Ew≠0 then(CI,2) else(d,0)
def Hy(c:CapT)(DC:Int)(Ew:Nat):CapT×Int:=if(Eo c DC).2≠0 then(CI,(Eo c DC).2) else TE (Eo c DC).1 Ew
theorem wi{c:CapT}{DC:Int}(h:(Eo c DC).2≠0):(Eo c DC).1=CI:=by
 unfold Eo at h⊢
 repeat' (split at h<;>first|exact absurd rfl h|(simp only[*,C6,C3,not_true,not_false_iff];done)|skip)
 all_goals first|rfl|(split<;>rfl)|skip
theorem TF(r:Int)(l:Ad):Fn prog 245 [.int .i64 r] l λv l'=>v= .bool (UW r)/\l'=l:=by
 refine AO func245 ntmps245 λE=>?_;unfold UW;by_cases h0:0<=r
 ·rw[Av h0];exact E4
 ·rw[Ax h0];exact E4
theorem Yt{r:Int}(h:UW r=true): ∃n:Nat,r=n/\n<8:=by unfold UW at h;rw[AW,Bj,Bj] at h;exact⟨r.toNat,Af,Af⟩
theorem VG(a b:Int)(l:Ad):Fn prog 251 [.int .i64 a,.int .i64 b] l λv l'=>v= .int .i64 (LE a b)/\l'=l:=by
 refine AO func251 ntmps251 λE=>?_;refine Aj ?_;refine Be (AL rfl rfl λl2 _=>TF a l2) ?_;unfold LE;cases ha:UW a with
 |false=>exact E4
 |true=>
 refine Aj ?_;refine QO (AL rfl rfl λl2 _=>TF b l2) rfl rfl rfl ?_;cases hb:UW b with
 |false=>exact E4
 |true=>
 obtain⟨a,rfl,ha8⟩:=Yt ha;obtain⟨b,rfl,hb8⟩:=Yt hb;refine Aj ?_;refine Be (wh rfl rfl Af Af) ?_;exact E4
theorem Oe(h:Jg c)(DC:Int):Jg (Eo c DC).1:=by
 have hz:Jg CI:=⟨by decide,by decide⟩
 unfold Eo
 split
 ·exact hz
 split
 ·exact hz
 split
 ·exact hz
 split
 ·split
  ·exact hz
  ·exact⟨h.badge,h.guard⟩
 split
 ·exact⟨h.badge,h.guard⟩
 ·exact h
theorem Of(c:CapT)(hw:Jg c)(DC:Int)(l:Ad):Fn prog 190 [.agg (toArray (B9 c)),.int .i64 DC] l λv l'=>v= .tuple #[.agg (toArray (B9 (Eo c DC).1)),.int .i64 (Eo c DC).2]/\l'=l:=by
 refine AO func190 ntmps190 λE=>?_;refine AQ λb2=>?_;refine AQ λb4=>?_;refine Be (AL rfl rfl λl2 _=>Io c l2) ?_;have hz: ∀(e:Int) (d:CapT),Keep (Bv b4 CI::Bv b2 d::l) l:=λ_ _=> .drop (.drop .refl);cases hm:FD c with
 |false=>rw[show Eo c DC=(CI,2) by unfold Eo;rw[Ac (.inl hm)]];refine Aj ?_;exact CM (l':=l) (Bv b4 CI::Bv b2 c::l) .refl (hz 0 _) ⟨rfl,rfl⟩
 |true=>
 refine Aj ?_;refine QO (AL rfl rfl λl2 _=>TF DC l2) rfl rfl rfl ?_;cases hr:UW DC with
 |false=>rw[show Eo c DC=(CI,2) by unfold Eo;rw[Ac (.inr hr)]];refine Aj ?_;exact CM (l':=l) (Bv b4 CI::Bv b2 c::l) .refl (hz 0 _) ⟨rfl,rfl⟩
 |true=>
 have e0:Eo c DC=if c.kind=0 then(CI,10) else if c.kind=1\/c.kind=7 then(CI,8)
  else if c.kind=3 then(if LE c.rights DC=0 then(CI,9) else(⟨c.kind,c.obj,LE c.rights DC,c.badge,c.guard,c.bits,0,0⟩,0))
  else if c.kind=8 then(⟨c.kind,c.obj,LE c.rights DC,c.badge,c.guard,c.bits,c.serial,c.page⟩,0) else(c,0):=by
  unfold Eo;rw[Ab (by rw[hm,hr];simp)]
 rw[e0];by_cases k0:c.kind=0
 ·rw[Ac k0];refine Aj ?_;exact CM (l':=l) (Bv b4 CI::Bv b2 c::l) .refl (hz 0 _) ⟨rfl,rfl⟩
 rw[Ab k0];by_cases k17:c.kind=1\/c.kind=7
 ·rw[Ac k17];by_cases k1:c.kind=1
  ·refine Aj ?_;exact CM (l':=l) (Bv b4 CI::Bv b2 c::l) .refl (hz 0 _) ⟨rfl,rfl⟩
  ·have k7:c.kind=7:=by omega
   refine Aj ?_;exact CM (l':=l) (Bv b4 CI::Bv b2 c::l) .refl (hz 0 _) ⟨rfl,rfl⟩
 rw[Ab k17];by_cases k3:c.kind=3
 ·rw[Ac k3];refine Aj ?_;refine Be (AL rfl rfl λl2 _=>VG c.rights DC l2) ?_;by_cases hz0:LE c.rights DC=0
  ·rw[Ac hz0];refine Aj ?_;exact CM (l':=l) (Bv b4 CI::Bv b2 ⟨c.kind,c.obj,LE c.rights DC,c.badge,c.guard,c.bits,0,0⟩::l) .refl (hz 0 _) ⟨rfl,rfl⟩
  ·rw[Ab hz0];refine Aj ?_;exact CM (l':=l) (Bv b4 ⟨c.kind,c.obj,LE c.rights DC,c.badge,c.guard,c.bits,0,0⟩::Bv b2 ⟨c.kind,c.obj,LE c.rights DC,c.badge,c.guard,c.bits,0,0⟩::l) .refl (.drop (.drop .refl)) ⟨rfl,rfl⟩
 rw[Ab k3];by_cases k8:c.kind=8
 ·rw[Ac k8];refine Aj ?_;refine Be (AL rfl rfl λl2 _=>VG c.rights DC l2) ?_;refine Aj ?_;exact CM (l':=l) (Bv b4 ⟨c.kind,c.obj,LE c.rights DC,c.badge,c.guard,c.bits,c.serial,c.page⟩::Bv b2 ⟨c.kind,c.obj,LE c.rights DC,c.badge,c.guard,c.bits,c.serial,c.page⟩::l) .refl (.drop (.drop .refl)) ⟨rfl,rfl⟩
 rw[Ab k8];refine Aj ?_;exact CM (l':=l) (Bv b4 c::Bv b2 c::l) .refl (.drop (.drop .refl)) ⟨rfl,rfl⟩
section
variable{fr:Fr}{d:Option Nat}{aft:Array Edge}{x:Operand}{k k':IntKind}{i:Int}
theorem AdI(hx:ev fr x=some (.int .u64 (a:Nat)))(hy:ev fr y=some (.int .u64 (b:Nat)))(ha:a<18446744073709551616)(hb:b<18446744073709551616):OpQ P ro N fr R ⟨d,.binOp .or t x y t2,ty,pos,aft,g⟩ (.int .u64 ((a|||b:Nat):Int)):=
 IK hx hy (λ_ _=>Db _ _ _ _ _) (by
  have e1:(BitVec.ofInt IntKind.u64.bits ((a:Nat):Int)).toNat=a:=by show(BitVec.ofInt 64 ((a:Nat):Int)).toNat=a;rw[D4,Eu,Dx ha]
  have e2:(BitVec.ofInt IntKind.u64.bits ((b:Nat):Int)).toNat=b:=by show(BitVec.ofInt 64 ((b:Nat):Int)).toNat=b;rw[D4,Eu,Dx hb]
  simp only[binOp,Op.intBits,BitVec.toNat_or,e1,e2];rw[Vq (Nat.or_lt_two_pow (n:=64) ha hb)];rfl)
theorem kZ(hx:ev fr x=some (.int .u64 (a:Nat)))(hy:ev fr y=some (.int .u64 (b:Nat)))(ha:a<18446744073709551616)(hb:b<18446744073709551616):OpQ P ro N fr R ⟨d,.binOp .andNot t x y t2,ty,pos,aft,g⟩ (.int .u64 ((a&&& (2^64-(b+1)):Nat):Int)):=
 IK hx hy (λ_ _=>Db _ _ _ _ _) (by
  have e1:(BitVec.ofInt IntKind.u64.bits ((a:Nat):Int)).toNat=a:=by show(BitVec.ofInt 64 ((a:Nat):Int)).toNat=a;rw[D4,Eu,Dx ha]
  have e2:(~~~ BitVec.ofInt IntKind.u64.bits ((b:Nat):Int)).toNat=2^64-(b+1):=by show(~~~ BitVec.ofInt 64 ((b:Nat):Int)).toNat=_;rw[BitVec.toNat_not,D4,Eu,Dx hb];omega
  simp only[binOp,Op.intBits,Mf,e1,e2];rw[Vq (Et Ka ha)];rfl)
end
def Po(w at' n v:Nat):Nat:=2^at'*(2^n*(w/2^(at'+n))+v)+w%2^at'
def Ee(w at' n:Nat):Nat:=w/2^at'%2^n
theorem Qi{at':Nat}(h:at'+n<=64):(2^n-1)*2^at'<18446744073709551616:=by
 have h1:2^n*2^at'<=2^64:=by rw[<-Nat.pow_add];exact CT Af Af
 have h2:0<2^at':=GS _;have h3:0<2^n:=GS _;have h4:(2^n-1)*2^at'<2^n*2^at':=Nat.mul_lt_mul_of_pos_right Af h2;exact Ev h4 h1
theorem dB{at':Nat}(h:at'+n<=64)(hv:v<2^n):v*2^at'<18446744073709551616:=by have h1:(2^n-1)*2^at'<18446744073709551616:=Qi h;have h2:v*2^at'<=(2^n-1)*2^at':=F6 _ Af;omega
theorem gB{w at':Nat}(hv:v<2^n)(i:Nat):(Po w at' n v).testBit i=if i<at' then w.testBit i else if i<at'+n then v.testBit (i-at') else w.testBit i:=by
 unfold Po;rw[Nat.testBit_two_pow_mul_add _ (Hi _ (GS _))]
 split
 ·rw[II];simp[*]
 ·rw[Nat.testBit_two_pow_mul_add _ hv];by_cases h:i<at'+n
  ·rw[Ac Af,Ac h]
  ·rw[Ab Af,Ab h,Fa];congr 1;omega
theorem qL{w at':Nat}(hw:w<18446744073709551616)(h:at'+n<=64)(hv:v<2^n):(w&&& (2^64-((2^n-1)*2^at'+1)))|||v*2^at'=Po w at' n v:=by
 apply JU;intro i;rw[gB hv,Nat.testBit_or,Nat.testBit_and,Nat.testBit_two_pow_sub_succ (by exact Qi h),MH _ (2^at'),MH _ (2^at'),Nat.testBit_two_pow_mul,Nat.testBit_two_pow_mul,Nat.testBit_two_pow_sub_one];by_cases h1:i<at'
 ·rw[Ac h1,Ax (show ¬at'<=i by omega),Av (show i<64 by omega)];simp
 ·rw[Ab h1,Av (show at'<=i by omega)];by_cases h2:i<at'+n
  ·rw[Ac h2,Av (show i-at'<n by omega)];simp
  ·rw[Ab h2,Ax (show ¬i-at'<n by omega)];have h3:v.testBit (i-at')=false:=Fk (Ev hv (CT Af Af));rw[h3];by_cases h4:i<64
   ·rw[Av h4];simp
   ·have:w.testBit i=false:=Fk (Ev hw (by exact CT (n:=2) Af (show 64<=i by omega)));rw[this];simp
theorem k9{w at':Nat}:(w/2^at')&&& (2^n-1)=Ee w at' n:=Nat.and_two_pow_sub_one_eq_mod _ _
theorem Yu(a n:Nat)(h1:1<=n)(h2:a+n<=64)(l:Ad):Fn prog 314 [.int .i64 (a:Nat),.int .i64 (n:Nat)] l λv l'=>v= .bool true/\l'=l:=by refine AO func314 ntmps314 λE=>?_;refine gz ?_;refine Bb .refl ⟨?_,rfl⟩;rw[Av Af];rfl
theorem VH(n:Nat)(h1:1<=n)(h2:n<=63)(l:Ad):Fn prog 315 [.int .i64 (n:Nat)] l λv l'=>v= .int .u64 ((2^n-1:Nat):Int)/\l'=l:=by
 refine AO func315 ntmps315 λE=>?_;have hp:2^n<=2^63:=CT Af h2;have hp0:0<2^n:=GS _;have hw:IntKind.u64.wrap (1*2^n)=((2^n:Nat):Int):=by rw[Int.one_mul,show(2:Int)^n=((2^n:Nat):Int) by simp,Vq Af]
 refine gz ?_;refine Be (Tj (n:=n) (i:=1) rfl rfl (by show n<=64;omega)) ?_;rw[hw];obtain⟨q,hq⟩: ∃q,2^n=q:=⟨_,rfl⟩
 rw[hq] at hp hp0⊢;refine Be (tH (i:=((q:Nat):Int)) (j:=1) rfl rfl ⟨Af,Af⟩) ?_;refine gz ?_;refine Bb .refl ⟨?_,rfl⟩;rw[show((q:Nat):Int)-1=((q-1:Nat):Int) by omega];rfl
theorem JK(w a n:Nat)(hw:w<18446744073709551616)(h1:1<=n)(h2:n<=63)(h3:a+n<=64)(l:Ad):
 Fn prog 253 [.int .u64 (w:Nat),.int .i64 (a:Nat),.int .i64 (n:Nat)] l λr l'=>r= .tuple #[.int .u64 (Ee w a n:Nat),.int .i64 0]/\l'=l:=by
 have hp:2^n-1<18446744073709551616:=by have:2^n<=2^63:=CT Af h2;omega
 refine AO func253 ntmps253 λE=>?_;refine gz ?_;refine Be (AL rfl rfl λl2 _=>Yu a n h1 h3 l2) ?_;refine gz ?_;refine Be (tQ (n:=a) rfl rfl (by show a<=64;omega)) ?_;rw[show((w:Nat):Int)/2^a=((w/2^a:Nat):Int) by norm_cast];refine gz ?_;refine Be (AL rfl rfl λl2 _=>VH n h1 h2 l2) ?_;refine Be (tS rfl rfl (Et (Nat.div_le_self _ _) hw) hp) ?_;rw[k9];exact E4
theorem TG(h:Jg c)(DC:Int)(Ew:Nat):Jg (Hy c DC Ew).1:=by
 have hz:Jg CI:=⟨by decide,by decide⟩
 have hw:=Oe h DC;unfold Hy
 split
 ·exact hz
 unfold TE
 split
 ·split
  ·exact hz
  ·split
   ·exact hz
   ·exact⟨by simp only;omega,hw.guard⟩
 split
 ·split
  ·exact hz
  ·split
   ·exact hz
   ·exact⟨hw.badge,by simp only;omega⟩
 split
 ·exact hz
 ·exact hw
theorem ld(c:CapT)(hw:Jg c)(DC:Int)(Ew:Nat)(hd:Ew<18446744073709551616)(l:Ad):Fn prog 196 [.agg (toArray (B9 c)),.int .i64 DC,.int .u64 (Ew:Nat)] l λv l'=>v= .tuple #[.agg (toArray (B9 (Hy c DC Ew).1)),.int .i64 (Hy c DC Ew).2]/\l'=l:=by
 refine AO func196 ntmps196 λE=>?_;refine AQ λb3=>?_;refine AQ λb6=>?_;refine Be (AL rfl rfl λl2 _=>Of c hw DC l2) ?_;have pK:=Oe hw DC;have hce:= @wi c DC;unfold Hy;obtain⟨d,hd0⟩: ∃d,(Eo c DC).1=d:=⟨_,rfl⟩
 obtain⟨e,yl⟩: ∃e,(Eo c DC).2=e:=⟨_,rfl⟩
 rw[hd0] at pK;rw[hd0,yl] at hce⊢;refine AQ λb8=>?_;have hK: ∀(d2 c6:CapT),Keep (Bv b8 d2::Bv b6 c6::Bv b3 c::l) (Bv b6 c6::l):=λ_ _=> .drop (.pick .here (.drop .refl));by_cases he:e≠0
 ·rw[Ac he];refine Aj ?_;exact CM (l':=l) (Bv b6 CI::l) (hK d CI) (.drop .refl) ⟨rfl,rfl⟩
 rw[Ab he];have u9:e=0:=by simpa using he
 clear he;subst u9;refine Aj ?_;refine CF (α:=Unit) (λ_=>[(2,.int .u64 (Ew:Nat)),(6,.pointer (some ⟨b6,0,none⟩)),(8,.pointer (some ⟨b8,0,none⟩)),(9,.int .i64 0),(24,.int .i64 0)]) (λ_=>Bv b8 d::Bv b6 CI::Bv b3 c::l) (λ_=>True) (λ_=>0) () trivial ⟨rfl,rfl,rfl,rfl,rfl,trivial⟩ .refl ?_;rintro _ _;unfold TE;by_cases k8:d.kind=8
 ·rw[Ac k8];by_cases h1:Ew>16777215
  ·rw[Ac h1];refine Aj ?_;exact CM (l':=l) (Bv b6 CI::l) (hK d CI) (.drop .refl) ⟨rfl,rfl⟩
  rw[Ab h1];by_cases h2:d.badge≠0
  ·rw[Ac h2];refine Aj ?_;exact CM (l':=l) (Bv b6 CI::l) (hK d CI) (.drop .refl) ⟨rfl,rfl⟩
  rw[Ab h2];refine Aj ?_;exact CM (l':=l) (Bv b6 ⟨d.kind,d.obj,d.rights,((Ew:Nat):Int),d.guard,d.bits,d.serial,d.page⟩::l) (hK ⟨d.kind,d.obj,d.rights,((Ew:Nat):Int),d.guard,d.bits,d.serial,d.page⟩ ⟨d.kind,d.obj,d.rights,((Ew:Nat):Int),d.guard,d.bits,d.serial,d.page⟩) (.drop .refl) ⟨rfl,rfl⟩
 rw[Ab k8];by_cases k2:d.kind=2
 ·rw[Ac k2];refine Aj ?_;refine Be (AL rfl rfl λl2 _=>JK Ew 0 12 hd AZ AZ AZ l2) ?_;refine Aj ?_;refine Be (AL rfl rfl λl2 _=>JK Ew 12 4 hd AZ AZ AZ l2) ?_;have f1:Ee Ew 0 12=Ew%4096:=by unfold Ee;rw[Nat.pow_zero,Nat.div_one]
  have f2:Ee Ew 12 4=Ew/4096%16:=rfl;rw[f1,f2];refine Aj ?_;refine Be (AL rfl rfl λl2 _=>Qh Ew hd 16 l2) ?_;have We:KY Ew 16=decide (Ew<65536):=Yr hd (n:=16) AZ;by_cases h1:Ew>=65536
  ·rw[Ac h1,We,Ax Af];refine Aj ?_;exact CM (l':=l) (Bv b6 CI::l) (hK ⟨d.kind,d.obj,d.rights,d.badge,((Ew%4096:Nat):Int),((Ew/4096%16:Nat):Int),d.serial,d.page⟩ CI) (.drop .refl) ⟨rfl,rfl⟩
  rw[Ab h1,We,Av Af];rw[show Ew/4096%16=Ew/4096 by omega];refine Aj ?_;refine QO (AL rfl rfl λl2 _=>Io (Ru d Ew) l2) rfl rfl rfl ?_;cases hm:FD (Ru d Ew) with
  |false=>rw[Ac rfl];refine Aj ?_;exact CM (l':=l) (Bv b6 CI::l) (hK (Ru d Ew) CI) (.drop .refl) ⟨rfl,rfl⟩
  |true=>rw[Ab AZ];refine Aj ?_;exact CM (l':=l) (Bv b6 (Ru d Ew)::l) (hK (Ru d Ew) (Ru d Ew)) (.drop .refl) ⟨rfl,rfl⟩
 rw[Ab k2];by_cases h1:Ew≠0
 ·rw[Ac h1];refine Aj ?_;exact CM (l':=l) (Bv b6 CI::l) (hK d CI) (.drop .refl) ⟨rfl,rfl⟩
 ·rw[Ab h1];refine Aj ?_;exact CM (l':=l) (Bv b6 d::l) (hK d d) (.drop .refl) ⟨rfl,rfl⟩
abbrev RW:=Ck×CapT
abbrev RX(h:RW):Ap:=[.int .i64 h.1.1,.int .i64 h.1.2,.int .i64 h.2.kind,.int .i64 h.2.obj,.int .i64 h.2.rights,.int .u64 h.2.badge,.int .i64 h.2.guard,.int .i64 h.2.bits,.int .i64 h.2.serial,.int .i64 h.2.page]
abbrev hdV(h:RW):Value:= .agg (toArray (RX h))
abbrev hdC(B:Nat)(h:RW):Bg:=(B,.cells (toArray (RX h)) 131 (0,0))
def Og(L:List RW):Ap:=L.flatMap RX
theorem lg(L:List RW)(t:RW):Og (L++[t])=Og L++RX t:=by simp[Og]
abbrev xB(B:Nat)(v:Value):Bg:=(B,.cells #[v] 230 (0,0))
theorem li(v:Value)(h1:v.oneCell'=true)(l:Ad):Fn prog 170 [v] l λr l'=> ∃B,r= .func (.func 232) #[] #[.pointer (some ⟨B,0,none⟩)]/\l'=xB B v::l:=by refine AO func170 ntmps170 λE=>?_;refine gz ?_;refine AR (Ex rfl h1) ?_;rintro _ _ ⟨B,hB,rfl,rfl⟩;refine gz ?_;exact Bb .refl ⟨B,rfl,rfl⟩
theorem Yv(gf:Nat)[EN prog gf](lb:Ap)(S Sp:List RW->Prop)(Need:List RW->Ad->Prop)(hit:FA prog gf lb (λt:RW=>[hdV t]) S Sp Need)(n:Nat)(DB: ∀pre,Sp pre->pre.length<=n)(hn:n<=900000)(l:Ad)(Ca: ∀pre l2,(∀c,c∈l->c∈l2)->Need pre l2):
 Fn prog 231 [.slice none 0 0,.func (.func gf) #[] lb.toArray] l λv l'=> ∃xs cs,S xs/\OwnSl 131 10 v xs.length (Og xs) cs/\l'=cs++l:=by
 refine AO func231 ntmps231 λE=>?_;refine gz ?_;refine AR (Ex rfl rfl) ?_;rintro _ _ ⟨b2,Wf,rfl,rfl⟩;refine gz ?_;refine Df (α:=RW) (ps:=[7]) (lb:=lb) rfl hit (λ_=>rfl) rfl
  (λpre l=> ∃v cs,OwnSl 131 10 v pre.length (Og pre) cs/\l=[(b2,.cells #[v] 44 (0,0))]++cs)
  (λc pre l=>False)
  _ l (λpre l2 X2 hX h=>by obtain⟨v,cs,_,rfl⟩:=h;exact Ca _ _ λc hc=>Aa _ (hX _ hc)) (by exact AU) ⟨_,[],OwnSl.nil _ _,rfl⟩ ?_ ?_ ?_
 ·rintro E r0 FS pre y l' T ⟨fn,tmps,Dd,rfl⟩ QY ⟨v,cs',ET,rfl⟩ hsp0;have Xo:=DB _ hsp0;rw[Ah] at Xo;simp only[DU,Ae,Ag];refine Ih λb5=>?_;refine CH (.there (.there (FH _ _ _ _ _))) ?_;generalize hX1:(r0,Obj.loop (DN fn tmps _ _ _ Dd .busy none))::T=X1;refine gz ?_;refine AR (FB (k:=10) rfl rfl rfl AZ AZ) ?_;rintro _ _ ⟨bl,_,rfl,rfl⟩;refine AR (Ht (k:=10) (X:=[hdC b5 y,(b2,.cells #[v] 44 (0,0))]) (cs:=cs') (F:=X1) (xs:=Og pre) (n:=pre.length) (ws:=RX y) rfl rfl rfl ET rfl (by simp[Value.oneCell']) Af AZ) ?_;rintro v' _ ⟨c2,FK,rfl⟩;have Ju:v'.oneCell'=true:=FK.one;simp only[Ae,Ag];refine gz ?_;rw[<-hX1];refine Cg _ (.drop .refl) ⟨v',c2,?_,rfl⟩;rw[Ah,lg];exact FK
 ·rintro Dd xs l' hS ⟨v,cs',ET,rfl⟩;have Ju:v.oneCell'=true:=ET.one;simp only[Ae,Ag];refine gz ?_;refine AV [Dd] (cs'++l) rfl (l':=cs'++l) (by exact AU) (by exact Ba) .refl ?_;exact⟨xs,cs',hS,ET,rfl⟩
 ·rintro Dd c pre l' DB h;exact h.elim
theorem WG(gf:Nat)[EN prog gf](lb:Ap)(S Sp:List RW->Prop)(Need:List RW->Ad->Prop)(hit:FA prog gf lb (λt:RW=>[hdV t]) S Sp Need)(n:Nat)(DB: ∀pre,Sp pre->pre.length<=n)(hn:n<=900000)(l:Ad)(Ca: ∀pre l2,(∀c,c∈l->c∈l2)->Need pre l2):
 Fn prog 169 [.func (.func gf) #[] lb.toArray] l λv l'=> ∃xs cs,S xs/\OwnSl 131 10 v xs.length (Og xs) cs/\l'=cs++l:=by
 refine AO func169 ntmps169 λE=>?_;refine gz ?_;refine AR (AA rfl rfl (Yv gf lb S Sp Need hit n DB hn l Ca)) ?_;rintro v _ ⟨xs,cs,hS,ho,rfl⟩;have Ju:v.oneCell'=true:=ho.one;refine gz ?_;refine Bb .refl ?_;exact⟨xs,cs,hS,ho,rfl⟩
end Go.Proofs.YtlifcingifodfaaGreat
