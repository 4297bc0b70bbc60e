/- Laws that the statement's proof leans on (joined out of several texts). -/
import Derived.Test.YtlkgekpmileobaaGreatGb8
import Derived.Test.YtlkgekpmileobaaGreatGb16
import Derived.Test.YtlkgekpmileobaaGreatGb10
import Derived.Test.YtlkgekpmileobaaGreatGb9
import Derived.Test.YtlkgekpmileobaaGreatGb11
set_option linter.unusedVariables false
set_option linter.unusedSimpArgs false
namespace Go.Proofs.YtlkgekpmileobaaGreat
open Tryz
open List(toArray replicate)
open Go.RowKit
set_option maxRecDepth 20000
variable{n k a v w N b:Nat}{c x:CapT}{C:List CapT}{α:Type}{P:Program}{ro:Option Nat}{fr:Fr}{R l:List Ab}{ty t t2:TypeId}{pos:String}{g:Option (Nat×Bool)}{y:Operand}
theorem setFrom_mid: ∀(us ws X Y:List Value),us.length=ws.length->CO (toArray (X++(us++Y))) X.length ws=toArray (X++(ws++Y))
 |[],[],X,Y,_=>rfl
 |u::us,w::ws,X,Y,h=>by
  have h1:(toArray (X++(u::us++Y))).setIfInBounds X.length w=toArray ((X++[w])++(us++Y)):=by apply BJ.1;rw[Array.toList_setIfInBounds];show(X++(u::(us++Y))).set X.length w=_;rw[Cg _ _ Af,Dr,EX];simp
  unfold CO;rw[h1];have h2:=setFrom_mid us ws (X++[w]) Y (by simpa using h);rw[Ah] at h2;rw[show X.length+1=X.length+[w].length from rfl,h2];simp
theorem jC(A B:List CapT):Qk (A++B)=Qk A++Qk B:=DL
theorem VW: ∀n:Nat,Qk (replicate n Cv)=(replicate n (BR Cv)).flatten
 |0=>rfl
 |n+1=>by rw[BE,BE,Cl,<-VW n];rfl
theorem Tu(h:C[k]?=some x):C=C.take k++x::C.drop (k+1)/\(C.take k).length=k:=by
 have hk:=(Ax.1 h).1;have h1:=Cb k C;rw[CX hk] at h1;have h2:C[k]=x:=by rw[Am hk] at h;exact AV h
 rw[h2] at h1;exact⟨h1.symm,by rw[BU];omega⟩
theorem aL(h:C[k]?=some x):C.set k c=C.take k++c::C.drop (k+1):=by
 obtain⟨h1,h2⟩:=Tu h
 conv=>lhs;rw[h1]
 rw[Cg _ _ Af,h2,Dr,EX]
theorem jD(h:C[k]?=some x):CO (toArray (Qk C)) (k*8) (BR c)=toArray (Qk (C.set k c)):=by
 obtain⟨h1,h2⟩:=Tu h;rw[aL h];have e: ∀y:CapT,Qk (C.take k++y::C.drop (k+1))=Qk (C.take k)++(BR y++Qk (C.drop (k+1))):=λy=>by rw[jC];rfl
 have hl:(Qk (C.take k)).length=k*8:=by rw[qX,h2]
 rw[e c,<-hl]
 conv=>lhs;rw[show Qk C=Qk (C.take k)++(BR x++Qk (C.drop (k+1))) by rw[<-e x,<-h1]]
 exact setFrom_mid _ _ _ _ rfl
theorem Rm{key:α->Int}(S:List α)(x:α):(K9 key S x).Perm (x::S):=by unfold K9;refine AH.trans (List.Perm.cons x ?_);rw[BV]
theorem OE{key:α->Int}{S:List α}{x y:α}:y∈K9 key S x<->y=x\/y∈S:=by rw[(Rm S x).mem_iff];simp
def Iz(D:SD)(a:Int):Int×SD:=match DG Prod.fst D a with
 |none=>(2,D)
 |some x=>if x.2.all (λc=>KR c Cv)=true then(0,D.filter λx=>decide (x.1≠a)) else(16,D)
def FS(D:SD)(s:CB)(c:CapT):SD:=D.map λx=>if x.1=s.1 then(x.1,x.2.set s.2.toNat c) else x
def setD(D:SD)(s:CB)(c:CapT):Int×SD:=if Fc D s=true then(if E5 c=true then(0,FS D s c) else(5,D)) else(3,D)
set_option maxHeartbeats 400000
theorem add_any(b:Nat)(D:SD)(lq:List Ab)(hq:IsS b D lq)(id n:Int)(G:List Ab):
 Fn prog 185 [.pointer (some ⟨b,0,none⟩),.int .i64 id,.int .i64 n] (lq++G) λv l'=>v= .int .i64 (G4 D id n).1/\ ∃lq',IsS b (G4 D id n).2 lq'/\l'=lq'++G:=by
 have hq0:=hq;obtain⟨S,m,es,clock,rfl,hS⟩:=hq;have hm1:xC b m∈lq++G:=Ai _ hS.m1;have hm2:(m,Fh .i64 es clock)∈lq++G:=Ai _ hS.m2;refine AO func185 ntmps185 λE=>?_;by_cases h1:id<1
 ·rw[show G4 (S.map NdS.d) id n=(2,S.map NdS.d) by unfold G4;rw[Ae (.inl h1)]];refine gz ?_;exact A8 .refl ⟨rfl,_,hq0,rfl⟩
 by_cases h2:n<1
 ·rw[show G4 (S.map NdS.d) id n=(2,S.map NdS.d) by unfold G4;rw[Ae (.inr (.inl h2))]];refine gz ?_;exact A8 .refl ⟨rfl,_,hq0,rfl⟩
 by_cases h3:16<n
 ·rw[show G4 (S.map NdS.d) id n=(2,S.map NdS.d) by unfold G4;rw[Ae (.inr (.inr h3))]];refine gz ?_;exact A8 .refl ⟨rfl,_,hq0,rfl⟩
 have h123:¬(id<1\/n<1\/16<n):=by omega
 obtain⟨k,rfl⟩: ∃k:Nat,n=(k:Nat):=⟨n.toNat,Af⟩
 obtain⟨p,n0,cap,hlk,hn0⟩:=hS.look1 id;cases hf:DG NdS.id S id with
 |some nd=>
  rw[show G4 (S.map NdS.d) id (k:Nat)=(11,S.map NdS.d) by unfold G4;rw[Ac h123,Jj,hf];rfl];have hpos:0<n0:=by unfold Iy at hn0;rw[Jj,hf] at hn0;have:=(hS.sz nd (E6 hf).1).1;simp at hn0;omega
  refine gz ?_;rw[hlk];refine gz ?_;exact A8 .refl ⟨rfl,_,hq0,rfl⟩
 |none=>
  rw[show G4 (S.map NdS.d) id (k:Nat)=(0,K9 Prod.fst (S.map NdS.d) (id,replicate k Cv)) by unfold G4;rw[Ac h123,Jj,hf];rfl];have hz:n0=0:=by unfold Iy at hn0;rw[Jj,hf] at hn0;simp at hn0;omega
  refine gz ?_;rw[hlk];refine gz ?_;refine Ce [6,7] 8 ([xC b m]) ?_ (hR:=(CM hm1));refine pz ?_;apply CE
  ·exact Fv (n:=k) (kk:=8) (xs:=Qk (replicate k Cv)) rfl rfl Af Af AW (VW k)
  ·rfl
  ·rfl
  ·rfl
  ·rintro _ _ ⟨gb,_,_,rfl⟩ c hc;rw[AA.1 hc];exact .tail _ hm1
  rintro _ _ ⟨gb,hgb,rfl,rfl⟩;refine pz ?_;obtain⟨nd,hnd⟩: ∃nd:NdS,nd=⟨id,replicate k Cv,gb⟩:=⟨_,rfl⟩
  have hvl:NdS.val nd= .slice (some ⟨gb,0,none⟩) k k:=by rw[hnd];simp[NdS.val]
  rw[hS.eq];simp only[Ad];apply Mu
  ·exact Kn (a:=id) (es:=es) (clock:=clock) rfl rfl rfl (.there (.there .here))
  ·rfl
  ·rfl
  ·rintro _ _ ⟨rfl,rfl⟩ c hc;rw[AA.1 hc];exact .tail _ (.head _)
  rintro _ _ ⟨rfl,rfl⟩;refine pz ?_;refine gz ?_;have hMB:=hS.mb.add (t:=nd) (by rw[hnd];exact hf);rw[hvl,show nd.id=id by rw[hnd]] at hMB;refine A8 (l':=(xC b m::(m,Fh .i64 (Mw id (.slice (some ⟨gb,0,none⟩) k k) clock es).1 (Mw id (.slice (some ⟨gb,0,none⟩) k k) clock es).2)::(K9 NdS.id S nd).map NdS.blk)++G) ?_ ⟨rfl,_,⟨K9 NdS.id S nd,m,_,_,?_,rfl,hMB,?_⟩,rfl⟩
  ·have hp:((K9 NdS.id S nd).map NdS.blk++G).Perm (nd.blk::(S.map NdS.blk++G)):=((Rm S nd).map _).append_right G;refine Keep.of_perm ?_;have hb:(gb,Obj.cells (toArray (Qk (replicate k Cv))) 74 (0,0))=nd.blk:=by rw[hnd]
   rw[hb];exact(List.Perm.trans (List.Perm.swap _ _ _) (((List.Perm.swap _ _ _).trans (hp.symm.cons _)).cons _))
  ·rw[jB (key':=Prod.fst) (λx=>rfl),hnd]
  ·intro x hx;rcases OE.1 hx with rfl|hx
   ·rw[hnd];simp;omega
   ·exact hS.sz x hx
theorem eh(A B l:List Ab)(x:Ab):Keep ((A++x::B)++l) ((A++B)++l):=
 ⟨[x],by have h:(A++x::B).Perm (x::(A++B)):=AH;exact h.append_right l⟩
theorem ei{S:List NdS}{a:Int}:(S.filter λx=>decide (x.id≠a)).map NdS.d=(S.map NdS.d).filter λx=>decide (x.1≠a):=by rw[List.filter_map];rfl
theorem qY{A B:List NdS}{nd:NdS}(hs:(A++nd::B).Pairwise λx y=>x.id<y.id):FS ((A++nd::B).map NdS.d) (nd.id,(k:Nat)) c=(A++{nd with C:=nd.C.set k c}::B).map NdS.d:=by
 obtain⟨_,h2,h3⟩:=Bh.1 hs;have h4:=(BY.1 h2).1;unfold FS;simp only[Ap,AJ,CD];congr 1
 ·apply Bt;intro x hx;have:=h3 x hx nd Ak;show(if x.id=nd.id then _ else x.d)=x.d;rw[Ac Af]
 ·refine List.cons_eq_cons.2 ⟨?_,?_⟩
  ·rw[Ae trivial];rfl
  ·apply Bt;intro x hx;have:=h4 x hx;show(if x.id=nd.id then _ else x.d)=x.d;rw[Ac Af]
theorem set_any(b:Nat)(D:SD)(lq:List Ab)(hq:IsS b D lq)(s:CB)(c:CapT)(G:List Ab):
 Fn prog 187 [.pointer (some ⟨b,0,none⟩),.agg (toArray (Cj s)),.agg (toArray (BR c))] (lq++G) λv l'=>v= .int .i64 (setD D s c).1/\ ∃lq',IsS b (setD D s c).2 lq'/\l'=lq'++G:=by
 have hq0:=hq;obtain⟨S,m,es,clock,rfl,hS⟩:=hq;refine AO func187 ntmps187 λE=>?_;refine Hj λb4=>?_;refine Hj λb5=>?_;refine Bc (AK rfl rfl λl2 hl=>II b _ S m clock es lq rfl hS s l2 λc hc=>hl c (.tail _ (.tail _ (Ai _ hc)))) ?_;cases hok:Fc (S.map NdS.d) s with
 |false=>rw[show setD (S.map NdS.d) s c=(3,S.map NdS.d) by unfold setD;rw[hok];rfl];simp only[Bg,CS];refine gz ?_;exact A8 (.drop (.drop .refl)) ⟨rfl,_,hq0,rfl⟩
 |true=>
  have hok2:=hok;unfold Fc at hok2;rw[AX,Br,Br] at hok2;obtain⟨p,n,cap,hlk,hn⟩:=hS.look1 s.1;obtain⟨nd,hf,hlen,hnd⟩:=hS.look2 s.1 hn Af;obtain⟨k,hk⟩: ∃k:Nat,s.2=(k:Nat):=⟨s.2.toNat,Af⟩
  obtain⟨x,hx⟩: ∃x,nd.C[k]?=some x:=⟨_,Am Af⟩
  rw[show eg S s=some ⟨nd.gb,k*8,none⟩ by unfold eg;rw[hok,hf,hk];rfl];simp only[CT];cases hM:E5 c with
  |false=>rw[show setD (S.map NdS.d) s c=(5,S.map NdS.d) by unfold setD;rw[hok,hM];rfl];refine gz ?_;refine Bc (AK rfl rfl λl2 _=>Hq c l2) ?_;rw[hM];refine gz ?_;exact A8 (.drop (.drop .refl)) ⟨rfl,_,hq0,rfl⟩
  |true=>
   rw[show setD (S.map NdS.d) s c=(0,FS (S.map NdS.d) s c) by unfold setD;rw[hok,hM];rfl];refine gz ?_;refine Bc (AK rfl rfl λl2 _=>Hq c l2) ?_;rw[hM];refine gz ?_;obtain⟨A,B,hAB,hid,_⟩:=Rl hf;obtain⟨g1,g2⟩:=Uw hx;have hmb:S.map NdS.blk=A.map NdS.blk++nd.blk::B.map NdS.blk:=by rw[hAB,Ap,AJ]
   rw[hS.eq,hmb];simp only[Ad,Al];refine LV (Ee (b:=nd.gb) (off:=k*8) (cs:=toArray (Qk nd.C)) (n:=8) rfl rfl rfl (by simp[Value.oneCell']) (.there (.there (.there (.there (Fa _ _ _ _ _))))) g2) rfl rfl ?_;rintro _ _ ⟨rfl,rfl⟩;rw[show CO (toArray (Qk nd.C)) (k*8) (toArray (BR c)).toList=toArray (Qk (nd.C.set k c)) from jD hx];refine gz ?_;have hs:s=(nd.id,((k:Nat):Int)):=by rw[hid,<-hk]
   refine A8 (l':=(xC b m::(m,Fh .i64 es clock)::(A++{nd with C:=nd.C.set k c}::B).map NdS.blk)++G) (.drop (.drop (by rw[Ap,AJ];exact .of_perm (.of_eq (by simp))))) ⟨rfl,_,⟨A++{nd with C:=nd.C.set k c}::B,m,es,clock,?_,rfl,?_,?_⟩,rfl⟩
   ·rw[hs,hAB,qY (by rw[<-hAB];exact hS.mb.asc)]
   ·have hm:=hS.mb;rw[hAB] at hm;exact hm.repl rfl (by simp[NdS.val])
   ·intro y hy;have h1:=hS.sz;rw[hAB] at h1;rcases AF.1 hy with hy|hy
    ·exact h1 y (Ai _ hy)
    ·rcases Aq.1 hy with rfl|hy
     ·have:=h1 nd (Aa _ Ak);simpa using this
     ·exact h1 y (Aa _ (.tail _ hy))
theorem qZ(h:a<9223372036854775808):IntKind.i64.wrap ((a:Nat):Int)=((a:Nat):Int):=by simp[IntKind.wrap,IntKind.signed,IntKind.bits];omega
section
variable{d:Option Nat}{aft:Array Edge}{x:Operand}
theorem nT(hx:ev fr x=some (.int .i64 (a:Nat)))(hy:ev fr y=some (.int .i64 (b:Nat)))(ha:a<2^63)(hb:b<2^63):OpQ P ro N fr R ⟨d,.binOp .and t x y t2,ty,pos,aft,g⟩ (.int .i64 ((a&&& b:Nat):Int)):=
 HN hx hy (λ_ _=>CQ _ _ _ _ _) (by
  have e1:(BitVec.ofInt IntKind.i64.bits ((a:Nat):Int)).toNat=a:=by show(BitVec.ofInt 64 ((a:Nat):Int)).toNat=a;rw[DA,DX,Db Af]
  have e2:(BitVec.ofInt IntKind.i64.bits ((b:Nat):Int)).toNat=b:=by show(BitVec.ofInt 64 ((b:Nat):Int)).toNat=b;rw[DA,DX,Db Af]
  simp only[binOp,Op.intBits,KW,e1,e2];rw[qZ (DW Jd ha)];rfl)
end
def SC(r:Int):Bool:=decide (0<=r)&&decide (r<=7)
def Ks(a b:Int):Int:=if SC a&&SC b then((a.toNat&&& b.toNat:Nat):Int) else 0
def Ej(c:CapT)(mask:Int):CapT×Int:=
 if E5 c=false\/SC mask=false then(Cv,2) else if c.kind=0 then(Cv,10) else if c.kind=1\/c.kind=7 then(Cv,8)
 else if c.kind=3 then(if Ks c.rights mask=0 then(Cv,9) else(⟨c.kind,c.obj,Ks c.rights mask,c.badge,c.guard,c.bits,0,0⟩,0))
 else if c.kind=8 then(⟨c.kind,c.obj,Ks c.rights mask,c.badge,c.guard,c.bits,c.serial,c.page⟩,0) else(c,0)
abbrev PC(d:CapT)(data:Nat):CapT:=⟨d.kind,d.obj,d.rights,d.badge,((data%4096:Nat):Int),((data/4096:Nat):Int),d.serial,d.page⟩
def ej(d:CapT)(data:Nat):CapT×Int:=
 if d.kind=8 then(if data>16777215 then(Cv,3) else if d.badge≠0 then(Cv,9) else(⟨d.kind,d.obj,d.rights,((data:Nat):Int),d.guard,d.bits,d.serial,d.page⟩,0))
 else if d.kind=2 then(if data>=65536 then(Cv,3) else if E5 (PC d data)=false then(Cv,3) else(PC d data,0))
 else if data≠0 then(Cv,2) else(d,0)
def Il(c:CapT)(mask:Int)(data:Nat):CapT×Int:=if(Ej c mask).2≠0 then(Cv,(Ej c mask).2) else ej (Ej c mask).1 data
theorem nU{c:CapT}{mask:Int}(h:(Ej c mask).2≠0):(Ej c mask).1=Cv:=by
 unfold Ej at h⊢
 repeat' (split at h<;>first|exact absurd rfl h|(simp only[*,CT,CS,not_true,not_false_iff];done)|skip)
 all_goals first|rfl|(split<;>rfl)|skip
theorem Rn(r:Int)(l:List Ab):Fn prog 246 [.int .i64 r] l λv l'=>v= .bool (SC r)/\l'=l:=by
 refine AO func246 ntmps246 λE=>?_;unfold SC;by_cases h0:0<=r
 ·rw[At h0];exact Es
 ·rw[Aw h0];exact Es
theorem VX{r:Int}(h:SC r=true): ∃n:Nat,r=n/\n<8:=by unfold SC at h;rw[AX,Br,Br] at h;exact⟨r.toNat,Af,Af⟩
theorem Tv(a b:Int)(l:List Ab):Fn prog 252 [.int .i64 a,.int .i64 b] l λv l'=>v= .int .i64 (Ks a b)/\l'=l:=by
 refine AO func252 ntmps252 λE=>?_;refine Aj ?_;refine Bc (AK rfl rfl λl2 _=>Rn a l2) ?_;unfold Ks;cases ha:SC a with
 |false=>exact Es
 |true=>
 refine Aj ?_;refine N9 (AK rfl rfl λl2 _=>Rn b l2) rfl rfl rfl ?_;cases hb:SC b with
 |false=>exact Es
 |true=>
 obtain⟨a,rfl,ha8⟩:=VX ha;obtain⟨b,rfl,hb8⟩:=VX hb;refine Aj ?_;refine Bc (nT rfl rfl Af Af) ?_;exact Es
theorem MK(h:Ik c)(mask:Int):Ik (Ej c mask).1:=by
 have hz:Ik Cv:=⟨by decide,by decide⟩
 unfold Ej
 split
 ·exact hz
 split
 ·exact hz
 split
 ·exact hz
 split
 ·split
  ·exact hz
  ·exact⟨h.badge,h.guard⟩
 split
 ·exact⟨h.badge,h.guard⟩
 ·exact h
theorem ML(c:CapT)(hw:Ik c)(mask:Int)(l:List Ab):Fn prog 191 [.agg (toArray (BR c)),.int .i64 mask] l λv l'=>v= .tuple #[.agg (toArray (BR (Ej c mask).1)),.int .i64 (Ej c mask).2]/\l'=l:=by
 refine AO func191 ntmps191 λE=>?_;refine AQ λb2=>?_;refine AQ λb4=>?_;refine Bc (AK rfl rfl λl2 _=>Hq c l2) ?_;have hz: ∀(e:Int) (d:CapT),Keep (Bp b4 Cv::Bp b2 d::l) l:=λ_ _=> .drop (.drop .refl);cases hm:E5 c with
 |false=>rw[show Ej c mask=(Cv,2) by unfold Ej;rw[Ae (.inl hm)]];refine Aj ?_;exact Cy (l':=l) (Bp b4 Cv::Bp b2 c::l) .refl (hz 0 _) ⟨rfl,rfl⟩
 |true=>
 refine Aj ?_;refine N9 (AK rfl rfl λl2 _=>Rn mask l2) rfl rfl rfl ?_;cases hr:SC mask with
 |false=>rw[show Ej c mask=(Cv,2) by unfold Ej;rw[Ae (.inr hr)]];refine Aj ?_;exact Cy (l':=l) (Bp b4 Cv::Bp b2 c::l) .refl (hz 0 _) ⟨rfl,rfl⟩
 |true=>
 have e0:Ej c mask=if c.kind=0 then(Cv,10) else if c.kind=1\/c.kind=7 then(Cv,8)
  else if c.kind=3 then(if Ks c.rights mask=0 then(Cv,9) else(⟨c.kind,c.obj,Ks c.rights mask,c.badge,c.guard,c.bits,0,0⟩,0))
  else if c.kind=8 then(⟨c.kind,c.obj,Ks c.rights mask,c.badge,c.guard,c.bits,c.serial,c.page⟩,0) else(c,0):=by
  unfold Ej;rw[Ac (by rw[hm,hr];simp)]
 rw[e0];by_cases k0:c.kind=0
 ·rw[Ae k0];refine Aj ?_;exact Cy (l':=l) (Bp b4 Cv::Bp b2 c::l) .refl (hz 0 _) ⟨rfl,rfl⟩
 rw[Ac k0];by_cases k17:c.kind=1\/c.kind=7
 ·rw[Ae k17];by_cases k1:c.kind=1
  ·refine Aj ?_;exact Cy (l':=l) (Bp b4 Cv::Bp b2 c::l) .refl (hz 0 _) ⟨rfl,rfl⟩
  ·have k7:c.kind=7:=by omega
   refine Aj ?_;exact Cy (l':=l) (Bp b4 Cv::Bp b2 c::l) .refl (hz 0 _) ⟨rfl,rfl⟩
 rw[Ac k17];by_cases k3:c.kind=3
 ·rw[Ae k3];refine Aj ?_;refine Bc (AK rfl rfl λl2 _=>Tv c.rights mask l2) ?_;by_cases hz0:Ks c.rights mask=0
  ·rw[Ae hz0];refine Aj ?_;exact Cy (l':=l) (Bp b4 Cv::Bp b2 ⟨c.kind,c.obj,Ks c.rights mask,c.badge,c.guard,c.bits,0,0⟩::l) .refl (hz 0 _) ⟨rfl,rfl⟩
  ·rw[Ac hz0];refine Aj ?_;exact Cy (l':=l) (Bp b4 ⟨c.kind,c.obj,Ks c.rights mask,c.badge,c.guard,c.bits,0,0⟩::Bp b2 ⟨c.kind,c.obj,Ks c.rights mask,c.badge,c.guard,c.bits,0,0⟩::l) .refl (.drop (.drop .refl)) ⟨rfl,rfl⟩
 rw[Ac k3];by_cases k8:c.kind=8
 ·rw[Ae k8];refine Aj ?_;refine Bc (AK rfl rfl λl2 _=>Tv c.rights mask l2) ?_;refine Aj ?_;exact Cy (l':=l) (Bp b4 ⟨c.kind,c.obj,Ks c.rights mask,c.badge,c.guard,c.bits,c.serial,c.page⟩::Bp b2 ⟨c.kind,c.obj,Ks c.rights mask,c.badge,c.guard,c.bits,c.serial,c.page⟩::l) .refl (.drop (.drop .refl)) ⟨rfl,rfl⟩
 rw[Ac k8];refine Aj ?_;exact Cy (l':=l) (Bp b4 c::Bp b2 c::l) .refl (.drop (.drop .refl)) ⟨rfl,rfl⟩
section
variable{d:Option Nat}{aft:Array Edge}{x:Operand}{k k':IntKind}{i:Int}
theorem tI(hx:ev fr x=some (.int .u64 (a:Nat)))(hy:ev fr y=some (.int .u64 (b:Nat)))(ha:a<18446744073709551616)(hb:b<18446744073709551616):OpQ P ro N fr R ⟨d,.binOp .or t x y t2,ty,pos,aft,g⟩ (.int .u64 ((a|||b:Nat):Int)):=
 HN hx hy (λ_ _=>CQ _ _ _ _ _) (by
  have e1:(BitVec.ofInt IntKind.u64.bits ((a:Nat):Int)).toNat=a:=by show(BitVec.ofInt 64 ((a:Nat):Int)).toNat=a;rw[DA,DX,Db ha]
  have e2:(BitVec.ofInt IntKind.u64.bits ((b:Nat):Int)).toNat=b:=by show(BitVec.ofInt 64 ((b:Nat):Int)).toNat=b;rw[DA,DX,Db hb]
  simp only[binOp,Op.intBits,BitVec.toNat_or,e1,e2];rw[Td (Nat.or_lt_two_pow (n:=64) ha hb)];rfl)
theorem eu(hx:ev fr x=some (.int .u64 (a:Nat)))(hy:ev fr y=some (.int .u64 (b:Nat)))(ha:a<18446744073709551616)(hb:b<18446744073709551616):OpQ P ro N fr R ⟨d,.binOp .andNot t x y t2,ty,pos,aft,g⟩ (.int .u64 ((a&&& (2^64-(b+1)):Nat):Int)):=
 HN hx hy (λ_ _=>CQ _ _ _ _ _) (by
  have e1:(BitVec.ofInt IntKind.u64.bits ((a:Nat):Int)).toNat=a:=by show(BitVec.ofInt 64 ((a:Nat):Int)).toNat=a;rw[DA,DX,Db ha]
  have e2:(~~~ BitVec.ofInt IntKind.u64.bits ((b:Nat):Int)).toNat=2^64-(b+1):=by show(~~~ BitVec.ofInt 64 ((b:Nat):Int)).toNat=_;rw[BitVec.toNat_not,DA,DX,Db hb];omega
  simp only[binOp,Op.intBits,KW,e1,e2];rw[Td (DW Jd ha)];rfl)
end
def NK(w at' n v:Nat):Nat:=2^at'*(2^n*(w/2^(at'+n))+v)+w%2^at'
def DN(w at' n:Nat):Nat:=w/2^at'%2^n
theorem OF{at':Nat}(h:at'+n<=64):(2^n-1)*2^at'<18446744073709551616:=by
 have h1:2^n*2^at'<=2^64:=by rw[<-Nat.pow_add];exact CG Af Af
 have h2:0<2^at':=Gb _;have h3:0<2^n:=Gb _;have h4:(2^n-1)*2^at'<2^n*2^at':=Nat.mul_lt_mul_of_pos_right Af h2;exact DY h4 h1
theorem Zi{at':Nat}(h:at'+n<=64)(hv:v<2^n):v*2^at'<18446744073709551616:=by have h1:(2^n-1)*2^at'<18446744073709551616:=OF h;have h2:v*2^at'<=(2^n-1)*2^at':=Gx _ Af;omega
theorem aM{at':Nat}(hv:v<2^n)(i:Nat):(NK w at' n v).testBit i=if i<at' then w.testBit i else if i<at'+n then v.testBit (i-at') else w.testBit i:=by
 unfold NK;rw[Nat.testBit_two_pow_mul_add _ (Gy _ (Gb _))]
 split
 ·rw[HK];simp[*]
 ·rw[Nat.testBit_two_pow_mul_add _ hv];by_cases h:i<at'+n
  ·rw[Ae Af,Ae h]
  ·rw[Ac Af,Ac h,EA];congr 1;omega
theorem jE{at':Nat}(hw:w<18446744073709551616)(h:at'+n<=64)(hv:v<2^n):(w&&& (2^64-((2^n-1)*2^at'+1)))|||v*2^at'=NK w at' n v:=by
 apply IZ;intro i;rw[aM hv,Nat.testBit_or,Nat.testBit_and,Nat.testBit_two_pow_sub_succ (by exact OF h),Nat.mul_comm _ (2^at'),Nat.mul_comm _ (2^at'),Nat.testBit_two_pow_mul,Nat.testBit_two_pow_mul,Nat.testBit_two_pow_sub_one];by_cases h1:i<at'
 ·rw[Ae h1,Aw (show ¬at'<=i by omega),At (show i<64 by omega)];simp
 ·rw[Ac h1,At (show at'<=i by omega)];by_cases h2:i<at'+n
  ·rw[Ae h2,At (show i-at'<n by omega)];simp
  ·rw[Ac h2,Aw (show ¬i-at'<n by omega)];have h3:v.testBit (i-at')=false:=EH (DY hv (CG Af Af));rw[h3];by_cases h4:i<64
   ·rw[At h4];simp
   ·have:w.testBit i=false:=EH (DY hw (by exact CG (n:=2) Af (show 64<=i by omega)));rw[this];simp
theorem ey{at':Nat}:(w/2^at')&&& (2^n-1)=DN w at' n:=Nat.and_two_pow_sub_one_eq_mod _ _
theorem VY(a n:Nat)(h1:1<=n)(h2:a+n<=64)(l:List Ab):Fn prog 315 [.int .i64 (a:Nat),.int .i64 (n:Nat)] l λv l'=>v= .bool true/\l'=l:=by refine AO func315 ntmps315 λE=>?_;refine gz ?_;refine A8 .refl ⟨?_,rfl⟩;rw[At Af];rfl
theorem Tw(n:Nat)(h1:1<=n)(h2:n<=63)(l:List Ab):Fn prog 316 [.int .i64 (n:Nat)] l λv l'=>v= .int .u64 ((2^n-1:Nat):Int)/\l'=l:=by
 refine AO func316 ntmps316 λE=>?_;have hp:2^n<=2^63:=CG Af h2;have hp0:0<2^n:=Gb _;have hw:IntKind.u64.wrap (1*2^n)=((2^n:Nat):Int):=by rw[Int.one_mul,show(2:Int)^n=((2^n:Nat):Int) by simp,Td Af]
 refine gz ?_;refine Bc (Q4 (n:=n) (i:=1) rfl rfl (by show n<=64;omega)) ?_;rw[hw];obtain⟨q,hq⟩: ∃q,2^n=q:=⟨_,rfl⟩
 rw[hq] at hp hp0⊢;refine Bc (lZ (i:=((q:Nat):Int)) (j:=1) rfl rfl ⟨Af,Af⟩) ?_;refine gz ?_;refine A8 .refl ⟨?_,rfl⟩;rw[show((q:Nat):Int)-1=((q-1:Nat):Int) by omega];rfl
theorem IK(w a n:Nat)(hw:w<18446744073709551616)(h1:1<=n)(h2:n<=63)(h3:a+n<=64)(l:List Ab):
 Fn prog 254 [.int .u64 (w:Nat),.int .i64 (a:Nat),.int .i64 (n:Nat)] l λr l'=>r= .tuple #[.int .u64 (DN w a n:Nat),.int .i64 0]/\l'=l:=by
 have hp:2^n-1<18446744073709551616:=by have:2^n<=2^63:=CG Af h2;omega
 refine AO func254 ntmps254 λE=>?_;refine gz ?_;refine Bc (AK rfl rfl λl2 _=>VY a n h1 h3 l2) ?_;refine gz ?_;refine Bc (mi (n:=a) rfl rfl (by show a<=64;omega)) ?_;rw[show((w:Nat):Int)/2^a=((w/2^a:Nat):Int) by norm_cast];refine gz ?_;refine Bc (AK rfl rfl λl2 _=>Tw n h1 h2 l2) ?_;refine Bc (mj rfl rfl (DW (Nat.div_le_self _ _) hw) hp) ?_;rw[ey];exact Es
theorem Ro(h:Ik c)(mask:Int)(data:Nat):Ik (Il c mask data).1:=by
 have hz:Ik Cv:=⟨by decide,by decide⟩
 have hw:=MK h mask;unfold Il
 split
 ·exact hz
 unfold ej
 split
 ·split
  ·exact hz
  ·split
   ·exact hz
   ·exact⟨by simp only;omega,hw.guard⟩
 split
 ·split
  ·exact hz
  ·split
   ·exact hz
   ·exact⟨hw.badge,by simp only;omega⟩
 split
 ·exact hz
 ·exact hw
theorem ez(c:CapT)(hw:Ik c)(mask:Int)(data:Nat)(hd:data<18446744073709551616)(l:List Ab):Fn prog 197 [.agg (toArray (BR c)),.int .i64 mask,.int .u64 (data:Nat)] l λv l'=>v= .tuple #[.agg (toArray (BR (Il c mask data).1)),.int .i64 (Il c mask data).2]/\l'=l:=by
 refine AO func197 ntmps197 λE=>?_;refine AQ λb3=>?_;refine AQ λb6=>?_;refine Bc (AK rfl rfl λl2 _=>ML c hw mask l2) ?_;have hwd:=MK hw mask;have hce:= @nU c mask;unfold Il;obtain⟨d,hd0⟩: ∃d,(Ej c mask).1=d:=⟨_,rfl⟩
 obtain⟨e,he0⟩: ∃e,(Ej c mask).2=e:=⟨_,rfl⟩
 rw[hd0] at hwd;rw[hd0,he0] at hce⊢;refine AQ λb8=>?_;have hK: ∀(d2 c6:CapT),Keep (Bp b8 d2::Bp b6 c6::Bp b3 c::l) (Bp b6 c6::l):=λ_ _=> .drop (.pick .here (.drop .refl));by_cases he:e≠0
 ·rw[Ae he];refine Aj ?_;exact Cy (l':=l) (Bp b6 Cv::l) (hK d Cv) (.drop .refl) ⟨rfl,rfl⟩
 rw[Ac he];have he':e=0:=by simpa using he
 clear he;subst he';refine Aj ?_;refine Cu (α:=Unit) (λ_=>[(2,.int .u64 (data:Nat)),(6,.pointer (some ⟨b6,0,none⟩)),(8,.pointer (some ⟨b8,0,none⟩)),(9,.int .i64 0),(24,.int .i64 0)]) (λ_=>Bp b8 d::Bp b6 Cv::Bp b3 c::l) (λ_=>True) (λ_=>0) () trivial ⟨rfl,rfl,rfl,rfl,rfl,trivial⟩ .refl ?_;rintro _ _;unfold ej;by_cases k8:d.kind=8
 ·rw[Ae k8];by_cases h1:data>16777215
  ·rw[Ae h1];refine Aj ?_;exact Cy (l':=l) (Bp b6 Cv::l) (hK d Cv) (.drop .refl) ⟨rfl,rfl⟩
  rw[Ac h1];by_cases h2:d.badge≠0
  ·rw[Ae h2];refine Aj ?_;exact Cy (l':=l) (Bp b6 Cv::l) (hK d Cv) (.drop .refl) ⟨rfl,rfl⟩
  rw[Ac h2];refine Aj ?_;exact Cy (l':=l) (Bp b6 ⟨d.kind,d.obj,d.rights,((data:Nat):Int),d.guard,d.bits,d.serial,d.page⟩::l) (hK ⟨d.kind,d.obj,d.rights,((data:Nat):Int),d.guard,d.bits,d.serial,d.page⟩ ⟨d.kind,d.obj,d.rights,((data:Nat):Int),d.guard,d.bits,d.serial,d.page⟩) (.drop .refl) ⟨rfl,rfl⟩
 rw[Ac k8];by_cases k2:d.kind=2
 ·rw[Ae k2];refine Aj ?_;refine Bc (AK rfl rfl λl2 _=>IK data 0 12 hd AW AW AW l2) ?_;refine Aj ?_;refine Bc (AK rfl rfl λl2 _=>IK data 12 4 hd AW AW AW l2) ?_;have f1:DN data 0 12=data%4096:=by unfold DN;rw[Nat.pow_zero,Nat.div_one]
  have f2:DN data 12 4=data/4096%16:=rfl;rw[f1,f2];refine Aj ?_;refine Bc (AK rfl rfl λl2 _=>OD data hd 16 l2) ?_;have hfit:JQ data 16=decide (data<65536):=VV hd (n:=16) AW;by_cases h1:data>=65536
  ·rw[Ae h1,hfit,Aw Af];refine Aj ?_;exact Cy (l':=l) (Bp b6 Cv::l) (hK ⟨d.kind,d.obj,d.rights,d.badge,((data%4096:Nat):Int),((data/4096%16:Nat):Int),d.serial,d.page⟩ Cv) (.drop .refl) ⟨rfl,rfl⟩
  rw[Ac h1,hfit,At Af];rw[show data/4096%16=data/4096 by omega];refine Aj ?_;refine N9 (AK rfl rfl λl2 _=>Hq (PC d data) l2) rfl rfl rfl ?_;cases hm:E5 (PC d data) with
  |false=>rw[Ae rfl];refine Aj ?_;exact Cy (l':=l) (Bp b6 Cv::l) (hK (PC d data) Cv) (.drop .refl) ⟨rfl,rfl⟩
  |true=>rw[Ac AW];refine Aj ?_;exact Cy (l':=l) (Bp b6 (PC d data)::l) (hK (PC d data) (PC d data)) (.drop .refl) ⟨rfl,rfl⟩
 rw[Ac k2];by_cases h1:data≠0
 ·rw[Ae h1];refine Aj ?_;exact Cy (l':=l) (Bp b6 Cv::l) (hK d Cv) (.drop .refl) ⟨rfl,rfl⟩
 ·rw[Ac h1];refine Aj ?_;exact Cy (l':=l) (Bp b6 d::l) (hK d d) (.drop .refl) ⟨rfl,rfl⟩
abbrev P0:=CB×CapT
abbrev P1(h:P0):List Value:=[.int .i64 h.1.1,.int .i64 h.1.2,.int .i64 h.2.kind,.int .i64 h.2.obj,.int .i64 h.2.rights,.int .u64 h.2.badge,.int .i64 h.2.guard,.int .i64 h.2.bits,.int .i64 h.2.serial,.int .i64 h.2.page]
abbrev tJ(h:P0):Value:= .agg (toArray (P1 h))
abbrev q5(B:Nat)(h:P0):Ab:=(B,.cells (toArray (P1 h)) 132 (0,0))
def MM(L:List P0):List Value:=L.flatMap P1
theorem eC(L:List P0)(t:P0):MM (L++[t])=MM L++P1 t:=by simp[MM]
abbrev xB(B:Nat)(v:Value):Ab:=(B,.cells #[v] 231 (0,0))
theorem eD(v:Value)(h1:v.oneCell'=true)(l:List Ab):Fn prog 171 [v] l λr l'=> ∃B,r= .func (.func 233) #[] #[.pointer (some ⟨B,0,none⟩)]/\l'=xB B v::l:=by refine AO func171 ntmps171 λE=>?_;refine gz ?_;refine AS (DZ rfl h1) ?_;rintro _ _ ⟨B,hB,rfl,rfl⟩;refine gz ?_;exact A8 .refl ⟨B,rfl,rfl⟩
theorem VZ(gf:Nat)[EN prog gf](lb:List Value)(S Sp:List P0->Prop)(Need:List P0->List Ab->Prop)(hit:E2 prog gf lb (λt:P0=>[tJ t]) S Sp Need)(n:Nat)(hsp: ∀pre,Sp pre->pre.length<=n)(hn:n<=900000)(l:List Ab)(hneed: ∀pre l2,(∀c,c∈l->c∈l2)->Need pre l2):
 Fn prog 232 [.slice none 0 0,.func (.func gf) #[] lb.toArray] l λv l'=> ∃xs cs,S xs/\OwnSl 132 10 v xs.length (MM xs) cs/\l'=cs++l:=by
 refine AO func232 ntmps232 λE=>?_;refine gz ?_;refine AS (DZ rfl rfl) ?_;rintro _ _ ⟨b2,hb2,rfl,rfl⟩;refine gz ?_;refine CU (α:=P0) (ps:=[7]) (lb:=lb) rfl hit (λ_=>rfl) rfl
  (λpre l=> ∃v cs,OwnSl 132 10 v pre.length (MM pre) cs/\l=[(b2,.cells #[v] 44 (0,0))]++cs)
  (λc pre l=>False)
  _ l (λpre l2 X2 hX h=>by obtain⟨v,cs,_,rfl⟩:=h;exact hneed _ _ λc hc=>Aa _ (hX _ hc)) (by exact AR) ⟨_,[],OwnSl.nil _ _,rfl⟩ ?_ ?_ ?_
 ·rintro E r0 rec pre y l' T ⟨fn,tmps,Dd,rfl⟩ hT0 ⟨v,cs',hown,rfl⟩ hsp0;have hpl:=hsp _ hsp0;rw[Ah] at hpl;simp only[Du,Ad,Ag];refine Hj λb5=>?_;refine Cp (.there (.there (Fa _ _ _ _ _))) ?_;generalize hX1:(r0,Obj.loop (Dp fn tmps _ _ _ Dd .busy none))::T=X1;refine gz ?_;refine AS (E3 (k:=10) rfl rfl rfl AW AW) ?_;rintro _ _ ⟨bl,_,rfl,rfl⟩;refine AS (GI (k:=10) (X:=[q5 b5 y,(b2,.cells #[v] 44 (0,0))]) (cs:=cs') (F:=X1) (xs:=MM pre) (n:=pre.length) (ws:=P1 y) rfl rfl rfl hown rfl (by simp[Value.oneCell']) Af AW) ?_;rintro v' _ ⟨c2,ho2,rfl⟩;have hv1:v'.oneCell'=true:=ho2.one;simp only[Ad,Ag];refine gz ?_;rw[<-hX1];refine B9 _ (.drop .refl) ⟨v',c2,?_,rfl⟩;rw[Ah,eC];exact ho2
 ·rintro Dd xs l' hS ⟨v,cs',hown,rfl⟩;have hv1:v.oneCell'=true:=hown.one;simp only[Ad,Ag];refine gz ?_;refine AU [Dd] (cs'++l) rfl (l':=cs'++l) (by exact AR) (by exact A7) .refl ?_;exact⟨xs,cs',hS,hown,rfl⟩
 ·rintro Dd c pre l' hsp h;exact h.elim
theorem Ux(gf:Nat)[EN prog gf](lb:List Value)(S Sp:List P0->Prop)(Need:List P0->List Ab->Prop)(hit:E2 prog gf lb (λt:P0=>[tJ t]) S Sp Need)(n:Nat)(hsp: ∀pre,Sp pre->pre.length<=n)(hn:n<=900000)(l:List Ab)(hneed: ∀pre l2,(∀c,c∈l->c∈l2)->Need pre l2):
 Fn prog 170 [.func (.func gf) #[] lb.toArray] l λv l'=> ∃xs cs,S xs/\OwnSl 132 10 v xs.length (MM xs) cs/\l'=cs++l:=by
 refine AO func170 ntmps170 λE=>?_;refine gz ?_;refine AS (Az rfl rfl (VZ gf lb S Sp Need hit n hsp hn l hneed)) ?_;rintro v _ ⟨xs,cs,hS,ho,rfl⟩;have hv1:v.oneCell'=true:=ho.one;refine gz ?_;refine A8 .refl ?_;exact⟨xs,cs,hS,ho,rfl⟩
end Go.Proofs.YtlkgekpmileobaaGreat
