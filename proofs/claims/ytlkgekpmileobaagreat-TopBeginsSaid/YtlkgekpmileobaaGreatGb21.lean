/- Laws that the statement's proof leans on (joined out of several texts). -/
import Derived.Test.YtlkgekpmileobaaGreatGb18
import Derived.Test.YtlkgekpmileobaaGreatGb17
import Derived.Test.YtlkgekpmileobaaGreatGb20
import Derived.Test.YtlkgekpmileobaaGreatGb8
import Derived.Test.YtlkgekpmileobaaGreatGb10
set_option linter.unusedVariables false
set_option linter.unusedSimpArgs false
namespace Go.Proofs.YtlkgekpmileobaaGreat
open Tryz
open List(toArray)
open Go.RowKit
set_option maxRecDepth 20000
variable{n m b bs bt:Nat}{s t a:CB}{D:SD}{c:CapT}{ls lq:List Ab}{T:Tr.DT}
abbrev HS:=SD×Tr.DT
variable{H:HS}
def Ku(c:CapT):Bool:=E5 c&&!decide (c.kind=0)
def FH(H:HS)(s:CB)(c:CapT):Int×HS:=
 if Fc H.1 s=false then(3,H) else if Ku c=false then(5,H) else if(DH H.1 s).kind≠0 then(11,H) else(0,(FS H.1 s c,(Tr.rootD H.2 s).2))
def IM(H:HS)(p s:CB)(c:CapT):Int×HS:=
 if Fc H.1 p=false\/Fc H.1 s=false then(3,H) else if Ku c=false then(5,H) else if(DH H.1 p).kind=0 then(10,H) else if(DH H.1 s).kind≠0 then(11,H) else(0,(FS H.1 s c,(Tr.childD H.2 p s).2))
def OH(H:HS)(s:CB)(c:CapT):Int×HS:=
 if Fc H.1 s=false then(3,H) else if(DH H.1 s).kind=0 then(10,H) else if HF (DH H.1 s) c=false then(5,H) else(0,(FS H.1 s c,H.2))
def GN(H:HS)(a b:CB):Int:=
 if Fc H.1 a=false\/Fc H.1 b=false then 3 else if(DH H.1 a).kind=0 then 10 else if(DH H.1 b).kind≠0 then 11 else 0
def Gi(H:HS)(a b:CB)(r:CapT×Int):Int×HS:=if GN H a b≠0 then(GN H a b,H) else if r.2≠0 then(r.2,H) else IM H a b r.1
def Jo(H:HS)(a b:CB):Int×HS:=if GN H a b≠0 then(GN H a b,H) else(0,(FS (FS H.1 a Cv) b (DH H.1 a),(Tr.moveD H.2 a b).2))
def LY(H:HS)(a b:CB):Int×HS:=if Fc H.1 a=false\/Fc H.1 b=false then(3,H) else(0,(FS (FS H.1 a (DH H.1 b)) b (DH H.1 a),Tr.swapD H.2 a b))
def DR(H:HS)(s:CB):(CapT×Int)×HS:=if Fc H.1 s=false then((Cv,3),H) else if(DH H.1 s).kind=0 then((Cv,10),H) else((DH H.1 s,0),(FS H.1 s Cv,(Tr.removeD H.2 s).2))
def KJ(H:HS)(s:CB):Bool:=Fc H.1 s&&!decide ((DH H.1 s).kind=0)&&(DC H.1).all λx=>decide (x.1=s)||!HF x.2 (DH H.1 s)
structure InvH(H:HS)(n:Nat):Prop where
 tree:Tr.GoodT H.2 n
 asc:H.1.Pairwise λx y=>x.1<y.1
 val: ∀x,x∈H.1-> ∀c,c∈x.2->E5 c=true/\Ik c
 link: ∀s,Tr.hasD H.2 s=true<->Fc H.1 s=true/\(DH H.1 s).kind≠0
 len:H.1.length<=n+3
theorem Kw:E5 Cv=true/\Ik Cv:=⟨rfl,by decide,by decide⟩
theorem InvH.at(h:InvH H n)(s:CB):E5 (DH H.1 s)=true/\Ik (DH H.1 s):=by
 unfold DH
 split
 ·rename_i x hx;have hm:=(E6 hx).1;rw[De];cases hk:x.2[s.2.toNat]? with
  |none=>exact Kw
  |some c=>exact h.val x hm c (A9 hk)
 ·exact Kw
theorem InvH.mono(h:InvH H n)(hm:n<=m):InvH H m:=⟨h.tree.mono hm,h.asc,h.val,h.link,BW h.len Af⟩
theorem UA(h:D.Pairwise λx y=>x.1<y.1)(s:CB)(c:CapT):(FS D s c).Pairwise λx y=>x.1<y.1:=by
 have e:(FS D s c).map Prod.fst=D.map Prod.fst:=by
  unfold FS;rw[CD];apply Bt;intro x _;show(if x.1=s.1 then(x.1,x.2.set s.2.toNat c) else x).1=x.1
  split<;>rfl
 have h2:(D.map Prod.fst).Pairwise (· < ·):=Ck.2 h;rw[<-e] at h2;exact Ck.1 h2
theorem UB(h: ∀x,x∈D-> ∀c,c∈x.2->E5 c=true/\Ik c)(s:CB)(hc:E5 c=true/\Ik c): ∀x,x∈FS D s c-> ∀d,d∈x.2->E5 d=true/\Ik d:=by
 intro x hx y hy;obtain⟨z,hz,rfl⟩:=Au.1 hx
 split at hy
 ·rcases Ek hy with hy|rfl
  ·exact h z hz y hy
  ·exact hc
 ·exact h z hz y hy
theorem UC(D:SD)(s:CB)(c:CapT):(FS D s c).length=D.length:=by simp[FS]
theorem mp(h:Fc D s=true):0<=s.2:=by unfold Fc at h;rw[AX,Br] at h;exact h.1
theorem Nk(hs:Fc D s=true)(ht:Fc D t=true):DH (FS D s c) t=if t=s then c else DH D t:=by
 by_cases h:t=s
 ·rw[Ae h,h,nW hs]
 ·rw[Ac h,aP (mp hs) (mp ht) h]
theorem JT(h:Fc D s=true)(hc:E5 c=true):setD D s c=(0,FS D s c):=by unfold setD;rw[Ae h,Ae hc]
theorem InvH.put(h:InvH H n)(hm:n<=m)(hs:Fc H.1 s=true)(hc:E5 c=true/\Ik c)(hT:Tr.GoodT T m)(hl: ∀t,Tr.hasD T t=true<->Fc H.1 t=true/\(if t=s then c else DH H.1 t).kind≠0):InvH (FS H.1 s c,T) m:=
 ⟨hT,UA h.asc s c,UB h.val s hc,λt=>by
   rw[hl t,MR];constructor
   ·rintro⟨h1,h2⟩;exact⟨h1,by rw[Nk hs h1];exact h2⟩
   ·rintro⟨h1,h2⟩;exact⟨h1,by rw[Nk hs h1] at h2;exact h2⟩,by rw[UC];have:=h.len;omega⟩
theorem InvH.put2(h:InvH H n)(hm:n<=m){u:CB}{d:CapT}(hs:Fc H.1 s=true)(hu:Fc H.1 u=true)(hc:E5 c=true/\Ik c)(hd:E5 d=true/\Ik d)(hT:Tr.GoodT T m)(hl: ∀t,Tr.hasD T t=true<->Fc H.1 t=true/\(if t=u then d else if t=s then c else DH H.1 t).kind≠0):InvH (FS (FS H.1 s c) u d,T) m:=
 ⟨hT,UA (UA h.asc s c) u d,UB (UB h.val s hc) u hd,λt=>by
   have hu':Fc (FS H.1 s c) u=true:=by rw[MR];exact hu
   rw[hl t,MR,MR];constructor
   ·rintro⟨h1,h2⟩;exact⟨h1,by rw[Nk hu' (by rw[MR];exact h1),Nk hs h1];exact h2⟩
   ·rintro⟨h1,h2⟩;exact⟨h1,by rw[Nk hu' (by rw[MR];exact h1),Nk hs h1] at h2;exact h2⟩,by rw[UC,UC];have:=h.len;omega⟩
theorem eW(h:Ku c=true):E5 c=true/\c.kind≠0:=by unfold Ku at h;rw[AX] at h;exact⟨h.1,by simpa using h.2⟩
theorem IX{D:Tr.DT}:Tr.hasD D s=true<->s∈D.map Prod.fst:=Tr.hasD_yes
theorem V6{D:Tr.DT}(h:Tr.hasD D s=false):(Tr.rootD D s).1=0/\(Tr.hasD (Tr.rootD D s).2 t=true<->t=s\/Tr.hasD D t=true):=by
 have e:Tr.rootD D s=(0,D++[(s,0)]):=by unfold Tr.rootD;rw[h];rfl
 rw[e];refine⟨rfl,?_⟩;rw[IX,IX];simp only[Ap,AJ,CY,AF,AA];exact Or.comm
theorem Tz{D:Tr.DT}{p:CB}(hp:Tr.hasD D p=true)(h:Tr.hasD D s=false):(Tr.childD D p s).1=0/\(Tr.hasD (Tr.childD D p s).2 t=true<->t=s\/Tr.hasD D t=true):=by
 unfold Tr.hasD at hp;cases h2:Tr.splitD p D with
 |none=>rw[h2] at hp;cases hp
 |some z=>
  obtain⟨A,d,B⟩:=z;have e:Tr.childD D p s=(0,A++(p,d)::(s,d+1)::B):=by unfold Tr.childD;rw[h2];simp only;rw[Ac (by rw[h];decide)]
  rw[e];refine⟨rfl,?_⟩;have hD:=(Tr.splitD_some h2).1;rw[IX,IX,hD];simp only[Ap,AJ,AF,Aq];constructor
  ·rintro(h|h|h|h)
   ·exact .inr (.inl h)
   ·exact .inr (.inr (.inl h))
   ·exact .inl h
   ·exact .inr (.inr (.inr h))
  ·rintro(h|h|h|h)
   ·exact .inr (.inr (.inl h))
   ·exact .inl h
   ·exact .inr (.inl h)
   ·exact .inr (.inr (.inr h))
theorem eX{A B:List CB}(h:(A++s::B).Nodup):t∈A++B<->t∈A++s::B/\t≠s:=by
 have h1:=AM.1 (AH.nodup_iff.1 h);constructor
 ·intro ht;refine⟨AH.symm.mem_iff.1 (.tail _ ht),λe=>h1.1 (e▸ht)⟩
 ·rintro⟨h2,h3⟩;rcases Aq.1 (AH.mem_iff.1 h2) with h4|h4
  ·exact absurd h4 h3
  ·exact h4
theorem XG{D:Tr.DT}(hg:Tr.GoodT D n)(h:Tr.hasD D s=true):(Tr.removeD D s).1=0/\(Tr.hasD (Tr.removeD D s).2 t=true<->Tr.hasD D t=true/\t≠s):=by
 unfold Tr.hasD at h;cases h2:Tr.splitD s D with
 |none=>rw[h2] at h;cases h
 |some z=>
  obtain⟨A,d,B⟩:=z;have e:Tr.removeD D s=(0,A++Tr.decW d B):=by unfold Tr.removeD;rw[h2]
  rw[e];refine⟨rfl,?_⟩;have hD:=(Tr.splitD_some h2).1;have hn:=hg.nd;rw[IX,IX];rw[hD] at hn⊢;rw[Ap,AJ] at hn;rw[Ap,Ap,AJ,Tr.decW_fst];exact eX hn
theorem V7{D:Tr.DT}(hg:Tr.GoodT D n){b:CB}(ha:Tr.hasD D a=true)(hb:Tr.hasD D b=false):(Tr.moveD D a b).1=0/\(Tr.hasD (Tr.moveD D a b).2 t=true<->t=b\/(Tr.hasD D t=true/\t≠a)):=by
 unfold Tr.hasD at ha;cases h2:Tr.splitD a D with
 |none=>rw[h2] at ha;cases ha
 |some z=>
  obtain⟨A,d,B⟩:=z;have e:Tr.moveD D a b=(0,A++(b,d)::B):=by unfold Tr.moveD;rw[h2];simp only;rw[Ac (by rw[hb];decide)]
  rw[e];refine⟨rfl,?_⟩;have hD:=(Tr.splitD_some h2).1;have hn:=hg.nd;rw[IX,IX];rw[hD] at hn⊢;rw[Ap,AJ] at hn;rw[Ap,Ap,AJ,AJ,<-eX hn,AH.mem_iff,Aq]
theorem eY(D:Tr.DT)(a b t:CB):Tr.hasD (Tr.swapD D a b) t=Tr.hasD D (Tr.swf a b t):=by
 rw[Jf,IX,IX];unfold Tr.swapD;rw[CD];simp only[Au,Function.comp_apply,Tr.swpS_fst];constructor
 ·rintro⟨x,hx,rfl⟩;exact⟨x,hx,(Tr.swf_swf a b x.1).symm⟩
 ·rintro⟨x,hx,he⟩;exact⟨x,hx,by rw[he,Tr.swf_swf]⟩
theorem InvH.no(h:InvH H n)(hk:(DH H.1 s).kind=0):Tr.hasD H.2 s=false:=by
 cases e:Tr.hasD H.2 s with
 |false=>rfl
 |true=>exact absurd hk ((h.link s).1 e).2
theorem InvH.root(h:InvH H n)(s:CB)(c:CapT)(hw:Ik c):InvH (FH H s c).2 (n+1):=by
 unfold FH;by_cases h1:Fc H.1 s=false
 ·rw[Ae h1];exact h.mono Af
 rw[Ac h1];by_cases h2:Ku c=false
 ·rw[Ae h2];exact h.mono Af
 rw[Ac h2];by_cases h3:(DH H.1 s).kind≠0
 ·rw[Ae h3];exact h.mono Af
 rw[Ac h3];obtain⟨c1,c2⟩:=eW (by simpa using h2);have hok:Fc H.1 s=true:=by simpa using h1
 refine h.put Af hok ⟨c1,hw⟩ (h.tree.root s) λt=>?_;rw[(V6 (h.no (by simpa using h3))).2,h.link];by_cases e:t=s
 ·subst e;simp[hok,c2]
 ·simp[e]
theorem InvH.child(h:InvH H n)(p s:CB)(c:CapT)(hw:Ik c):InvH (IM H p s c).2 (n+1):=by
 unfold IM;by_cases h1:Fc H.1 p=false\/Fc H.1 s=false
 ·rw[Ae h1];exact h.mono Af
 rw[Ac h1];by_cases h2:Ku c=false
 ·rw[Ae h2];exact h.mono Af
 rw[Ac h2];by_cases h3:(DH H.1 p).kind=0
 ·rw[Ae h3];exact h.mono Af
 rw[Ac h3];by_cases h4:(DH H.1 s).kind≠0
 ·rw[Ae h4];exact h.mono Af
 rw[Ac h4];obtain⟨c1,c2⟩:=eW (by simpa using h2);have hok:Fc H.1 s=true:=by cases e:Fc H.1 s<;>simp_all
 have hokp:Fc H.1 p=true:=by cases e:Fc H.1 p<;>simp_all
 refine h.put Af hok ⟨c1,hw⟩ (h.tree.child p s) λt=>?_;rw[(Tz ((h.link p).2 ⟨hokp,h3⟩) (h.no (by simpa using h4))).2,h.link];by_cases e:t=s
 ·subst e;simp[hok,c2]
 ·simp[e]
theorem InvH.set(h:InvH H n)(s:CB)(c:CapT)(hw:Ik c):InvH (OH H s c).2 n:=by
 unfold OH;by_cases h1:Fc H.1 s=false
 ·rw[Ae h1];exact h
 rw[Ac h1];by_cases h2:(DH H.1 s).kind=0
 ·rw[Ae h2];exact h
 rw[Ac h2];by_cases h3:HF (DH H.1 s) c=false
 ·rw[Ae h3];exact h
 rw[Ac h3];have h3':HF (DH H.1 s) c=true:=by simpa using h3
 unfold HF at h3';simp only[AX,Ex,Br,HL] at h3';obtain⟨⟨⟨⟨a1,a2⟩,a3⟩,a4⟩,a5⟩:=h3';refine h.put (A5 _) (by simpa using h1) ⟨a2,hw⟩ h.tree λt=>?_;rw[h.link];by_cases e:t=s
 ·subst e;simp[h2,<-a4]
 ·simp[e]
theorem nZ{b:CB}(h:GN H a b=0):Fc H.1 a=true/\Fc H.1 b=true/\(DH H.1 a).kind≠0/\(DH H.1 b).kind=0:=by
 unfold GN at h
 split at h
 ·cases h
 rename_i h1
 split at h
 ·cases h
 rename_i h2
 split at h
 ·cases h
 rename_i h3;exact⟨by cases e:Fc H.1 a<;>simp_all,by cases e:Fc H.1 b<;>simp_all,h2,by simpa using h3⟩
theorem InvH.der(h:InvH H n)(a b:CB)(r:CapT×Int)(hw:Ik r.1):InvH (Gi H a b r).2 (n+1):=by
 unfold Gi
 split
 ·exact h.mono Af
 split
 ·exact h.mono Af
 ·exact h.child a b _ hw
theorem InvH.move(h:InvH H n)(a b:CB):InvH (Jo H a b).2 n:=by
 unfold Jo;by_cases h0:GN H a b=0
 ·rw[Ac (by simpa using h0)];obtain⟨h1,h2,h3,h4⟩:=nZ h0;have hne:a≠b:=λe=>h3 (e▸h4);refine h.put2 (A5 _) h1 h2 Kw (h.at a) (h.tree.move a b) λt=>?_;rw[(V7 h.tree ((h.link a).2 ⟨h1,h3⟩) (h.no h4)).2,h.link];by_cases e:t=b
  ·subst e;simp[h2,h3]
  ·by_cases e2:t=a
   ·subst e2;simp[e]
   ·simp[e,e2]
 ·rw[Ae h0];exact h
theorem InvH.swap(h:InvH H n)(a b:CB):InvH (LY H a b).2 n:=by
 unfold LY;by_cases h1:Fc H.1 a=false\/Fc H.1 b=false
 ·rw[Ae h1];exact h
 rw[Ac h1];have ha:Fc H.1 a=true:=by cases e:Fc H.1 a<;>simp_all
 have hb:Fc H.1 b=true:=by cases e:Fc H.1 b<;>simp_all
 refine h.put2 (A5 _) ha hb (h.at b) (h.at a) (h.tree.swap a b) λt=>?_;rw[eY,h.link];unfold Tr.swf;by_cases e:t=a
 ·by_cases e2:t=b
  ·subst e;subst e2;simp
  ·subst e;simp[e2,ha,hb]
 ·by_cases e2:t=b
  ·subst e2;simp[e,ha,hb]
  ·simp[e,e2]
theorem InvH.clear(h:InvH H n)(s:CB):InvH (DR H s).2 n:=by
 unfold DR;by_cases h1:Fc H.1 s=false
 ·rw[Ae h1];exact h
 rw[Ac h1];by_cases h2:(DH H.1 s).kind=0
 ·rw[Ae h2];exact h
 rw[Ac h2];have hok:Fc H.1 s=true:=by simpa using h1
 refine h.put (A5 _) hok Kw (h.tree.remove s) λt=>?_;rw[(XG h.tree ((h.link s).2 ⟨hok,h2⟩)).2,h.link];by_cases e:t=s
 ·subst e;simp
 ·simp[e]
theorem eZ(h:D.Pairwise λx y=>x.1<y.1){x:Int×List CapT}(hn:DG Prod.fst D x.1=none)(a:Int):DG Prod.fst (K9 Prod.fst D x) a=if a=x.1 then some x else DG Prod.fst D a:=by
 have ha:=Qj (key:=Prod.fst) h hn;by_cases e:a=x.1
 ·rw[Ae e,e];exact XE ha (OE.2 (.inl rfl))
 ·rw[Ac e];cases hf:DG Prod.fst D a with
  |none=>
   refine FE.2 λy hy=>?_;rcases OE.1 hy with rfl|hy
   ·exact λe2=>e e2.symm
   ·exact FE.1 hf y hy
  |some y=>obtain⟨h1,h2⟩:=E6 hf;rw[<-h2];exact XE ha (OE.2 (.inr h1))
theorem InvH.add(h:InvH H n)(id k:Int):InvH ((G4 H.1 id k).2,H.2) (n+1):=by
 unfold G4
 split
 ·exact h.mono Af
 split
 ·exact h.mono Af
 rename_i h1 h2;have hn:DG Prod.fst H.1 id=none:=by cases e:DG Prod.fst H.1 id<;>simp_all
 have hf:=eZ h.asc (x:=(id,List.replicate k.toNat Cv)) hn;refine⟨h.tree.mono Af,Qj h.asc hn,λx hx c hc=>?_,λs=>?_,?_⟩
 ·rcases OE.1 hx with rfl|hx
  ·rw[Fz hc];exact Kw
  ·exact h.val x hx c hc
 ·rw[h.link];have e1:Iy H.1 id=0:=by unfold Iy;rw[hn]
  unfold Fc Iy DH;simp only;rw[hf];by_cases e:s.1=id
  ·rw[Ae e,e,hn];simp;intro _ _;have:List.getD (List.replicate k.toNat Cv) s.2.toNat Cv=Cv:=by
    rw[De];cases e3:(List.replicate k.toNat Cv)[s.2.toNat]? with
    |none=>rfl
    |some c=>rw[Fz (A9 e3)];rfl
   rw[De] at this;rw[this]
  ·rw[Ac e]
 ·show(K9 Prod.fst H.1 (id,_)).length<=_;rw[Ur];have:=h.len;omega
theorem InvH.drop(h:InvH H n)(a:Int):InvH ((Iz H.1 a).2,H.2) n:=by
 unfold Iz
 split
 ·exact h
 split
 ·rename_i x hx hall;rw[A6] at hall;have hf: ∀b,DG Prod.fst (H.1.filter λx=>decide (x.1≠a)) b=if b=a then none else DG Prod.fst H.1 b:=λb=>by
   by_cases e:b=a
   ·rw[Ae e];refine FE.2 λy hy=>?_;have:=(Cr.1 hy).2;rw[e];simpa using this
   ·rw[Ac e];cases hb:DG Prod.fst H.1 b with
    |none=>exact FE.2 λy hy=>FE.1 hb y (Cr.1 hy).1
    |some y=>obtain⟨h1,h2⟩:=E6 hb;rw[<-h2];exact XE (h.asc.filter _) (Cr.2 ⟨h1,by rw[h2];simpa using e⟩)
  refine⟨h.tree,h.asc.filter _,λy hy=>h.val y (Cr.1 hy).1,λs=>?_,BW (C6 ..) h.len⟩;rw[h.link];unfold Fc Iy DH;simp only;rw[hf];by_cases e:s.1=a
  ·rw[Ae e,e,hx];simp;intro h0 h1;have hx2:x.2[s.2.toNat]?=some (x.2[s.2.toNat]'Af):=Am Af;have h3:=hall _ (A9 hx2);rw[Uu] at h3;rw[hx2,h3];rfl
  ·rw[Ac e]
 ·exact h
abbrev Lc(b bs bt:Nat):Ab:=(b,.cells (toArray [.pointer (some ⟨bs,0,none⟩),.pointer (some ⟨bt,0,none⟩)]) 235 (0,0))
structure HB(b bs bt:Nat)(H:HS)(ls lt lq:List Ab):Prop where
 eq:lq=Lc b bs bt::(ls++lt)
 s:IsS bs H.1 ls
 t:Tr.IsT bt H.2 lt
def IsH(b:Nat)(H:HS)(lq:List Ab):Prop:= ∃bs bt ls lt,HB b bs bt H ls lt lq
theorem HB.h{lt:List Ab}(h:HB b bs bt H ls lt lq):Lc b bs bt∈lq:=by rw[h.eq];exact .head _
theorem HB.m1{lt:List Ab}(h:HB b bs bt H ls lt lq): ∀c,c∈ls->c∈lq:=λc hc=>by rw[h.eq];exact .tail _ (Ai _ hc)
theorem HB.m2{lt:List Ab}(h:HB b bs bt H ls lt lq): ∀c,c∈lt->c∈lq:=λc hc=>by rw[h.eq];exact .tail _ (Aa _ hc)
theorem InvH.small(h:InvH H n)(hn:n<=1000):H.1.length<=2000/\H.2.length<=1000/\Tr.SmallD H.2:=⟨by have:=h.len;omega,by have:=h.tree.len;omega,h.tree.small Af⟩
set_option maxHeartbeats 400000
theorem V8(l:List Ab):Fn prog 130 [] l λv l'=> ∃b,v= .pointer (some ⟨b,0,none⟩)/\ ∃lq,IsH b ([],[]) lq/\l'=lq++l:=by refine AO func130 ntmps130 λE=>?_;refine Aj ?_;refine AS (Az rfl rfl (new_any _)) ?_;rintro _ _ ⟨bs,rfl,ls,hs,rfl⟩;refine Aj ?_;refine AS (Az rfl rfl (Tr.new_any _)) ?_;rintro _ _ ⟨bt,rfl,lt,ht,rfl⟩;refine AQ λb=>?_;exact A8 (l':=(Lc b bs bt::(ls++lt))++l) (AY (A:=Lc b bs bt::(lt++(ls++l))) []) ⟨b,rfl,_,⟨bs,bt,ls,lt,rfl,hs,ht⟩,rfl⟩
theorem JU(b bs bt:Nat)(l:List Ab)(hm:Lc b bs bt∈l):Fn prog 115 [.pointer (some ⟨b,0,none⟩)] l λv l'=>v= .pointer (some ⟨bs,0,none⟩)/\l'=l:=by refine AO func115 ntmps115 λE=>?_;exact Es
theorem Nl(b:Nat)(H:HS)(lq:List Ab)(hq:IsH b H lq)(id n:Int)(G:List Ab):
 Fn prog 140 [.pointer (some ⟨b,0,none⟩),.int .i64 id,.int .i64 n] (lq++G) λv l'=>v= .int .i64 (G4 H.1 id n).1/\ ∃lq',IsH b ((G4 H.1 id n).2,H.2) lq'/\l'=lq'++G:=by
 obtain⟨bs,bt,ls,lt,rfl,hs,ht⟩:=hq;refine AO func140 ntmps140 λE=>?_;simp only[Ad,Al];refine Aj ?_;refine Bc (AK rfl rfl λl2 hl=>JU b bs bt l2 (hl _ (.head _))) ?_;refine Aj ?_;refine AS (CZ rfl rfl (Fn.mvP (λA=>Lc b bs bt::(A++(lt++G))) (add_any bs H.1 ls hs id n (Lc b bs bt::(lt++G))))) ?_;rintro _ _ ⟨rfl,ls',hs',rfl⟩;refine Aj ?_;exact A8 (l':=(Lc b bs bt::(ls'++lt))++G) (.of_perm (.of_eq (by simp))) ⟨rfl,_,⟨bs,bt,ls',lt,rfl,hs',ht⟩,rfl⟩
theorem Im(b:Nat)(H:HS)(lq:List Ab)(hq:IsH b H lq)(s:CB)(l:List Ab)(hsub: ∀c,c∈lq->c∈l):
 Fn prog 166 [.pointer (some ⟨b,0,none⟩),.agg (toArray (Cj s))] l λv l'=>v= .tuple #[.agg (toArray (BR (getD' H.1 s).1)),.int .i64 (getD' H.1 s).2]/\l'=l:=by
 obtain⟨bs,bt,ls,lt,hb⟩:=hq;refine AO func166 ntmps166 λE=>?_;refine AQ λb3=>?_;refine AQ λb4=>?_;refine Ce [6] 8 (C8 b3 s::l) ?_;refine BI ?_;refine Vz (AK rfl rfl λl2 hl=>JU b bs bt l2 (hl _ (.tail _ (hsub _ hb.h)))) rfl rfl rfl ?_;refine BI ?_;refine Vz (AK rfl rfl λl2 hl=>get_any bs H.1 ls hb.s s l2 λc hc=>hl _ (.tail _ (hsub _ (hb.m1 c hc)))) rfl rfl rfl ?_;refine BI ?_;refine Aj ?_;exact Cy (l':=l) (Bp b4 (getD' H.1 s).1::C8 b3 s::l) .refl (.drop (.drop .refl)) ⟨rfl,rfl⟩
def TA(D:SD)(a c:CB):Int:=if(getD' D a).2=0 then(getD' D c).2 else(getD' D a).2
theorem Nm(b:Nat)(H:HS)(lq:List Ab)(hq:IsH b H lq)(a c:CB)(l:List Ab)(hsub: ∀c,c∈lq->c∈l):
 Fn prog 250 [.pointer (some ⟨b,0,none⟩),.agg (toArray (Cj a)),.agg (toArray (Cj c))] l λv l'=>v= .tuple #[.agg (toArray (BR (getD' H.1 a).1)),.agg (toArray (BR (getD' H.1 c).1)),.int .i64 (TA H.1 a c)]/\l'=l:=by
 refine AO func250 ntmps250 λE=>?_;refine AQ λb4=>?_;refine AQ λb5=>?_;refine AQ λb6=>?_;refine AQ λb7=>?_;refine Bc (AK rfl rfl λl2 hl=>Im b H lq hq a l2 λc hc=>hl c (.tail _ (.tail _ (.tail _ (.tail _ (hsub c hc)))))) ?_;refine AQ λb9=>?_;refine Bc (AK rfl rfl λl2 hl=>Im b H lq hq c l2 λc hc=>hl c (.tail _ (.tail _ (.tail _ (.tail _ (.tail _ (hsub c hc))))))) ?_;refine AQ λb11=>?_;unfold TA;by_cases h:(getD' H.1 a).2=0
 case' pos=>rw[Ae h]
 case' neg=>rw[Ac h]
 all_goals
  refine Aj ?_;refine Ce [3,4] 6 ([Bp b11 (getD' H.1 c).1,Bp b9 (getD' H.1 a).1]) ?_;refine BI ?_;refine Aj ?_;exact Cy (l':=l) (Bp b7 (getD' H.1 c).1::Bp b6 (getD' H.1 a).1::l) (.drop (.drop (.pick .here (.pick .here (.drop (.drop .refl)))))) (.drop (.drop .refl)) ⟨rfl,rfl⟩
theorem TC(b:Nat)(H:HS)(lq:List Ab)(hq:IsH b H lq)(hn:H.1.length<=2000)(l:List Ab)(hsub: ∀c,c∈lq->c∈l):
 Fn prog 75 [.pointer (some ⟨b,0,none⟩)] l λv l'=> ∃cs,OwnSl 132 10 v (DC H.1).length (MM (DC H.1)) cs/\l'=cs++l:=by
 obtain⟨bs,bt,ls,lt,hb⟩:=hq;refine AO func75 ntmps75 λE=>?_;refine Aj ?_;refine Bc (AK rfl rfl λl2 hl=>JU b bs bt l2 (hl _ (hsub _ hb.h))) ?_;refine Aj ?_;refine AS (Az rfl rfl (all_any bs H.1 ls hb.s Af _ λc hc=>hsub _ (hb.m1 c hc))) ?_;rintro v _ ⟨cs,ho,rfl⟩;refine Aj ?_;refine A8 (l':=cs++l) .refl ?_;exact⟨cs,ho,rfl⟩
theorem aT(b:Nat)(H:HS)(lq:List Ab)(hq:IsH b H lq)(hn:H.2.length<=1000)(l:List Ab)(hsub: ∀c,c∈lq->c∈l):
 Fn prog 76 [.pointer (some ⟨b,0,none⟩)] l λv l'=> ∃cs,OwnSl 130 3 v H.2.length (Tr.ncs H.2) cs/\l'=cs++l:=by
 obtain⟨bs,bt,ls,lt,hb⟩:=hq;have hm:=hsub _ hb.h;refine AO func76 ntmps76 λE=>?_;refine Aj ?_;refine AS (Az rfl rfl (Tr.all_any bt H.2 lt hb.t Af _ λc hc=>hsub _ (hb.m2 c hc))) ?_;rintro v _ ⟨cs,ho,rfl⟩;refine Aj ?_;refine A8 (l':=cs++l) .refl ?_;exact⟨cs,ho,rfl⟩
theorem rl:(Fc D s=true/\getD' D s=(DH D s,0))\/(Fc D s=false/\getD' D s=(Cv,3)):=by
 unfold getD';cases Fc D s with
 |false=>exact .inr ⟨rfl,rfl⟩
 |true=>exact .inl ⟨rfl,rfl⟩
theorem Ky(h:Fc D s=true):getD' D s=(DH D s,0):=by unfold getD';rw[h];rfl
theorem TD(h:Fc D s=false):getD' D s=(Cv,3):=by unfold getD';rw[h];rfl
theorem UD{c:CB}(ha:Fc D a=true)(hc:Fc D c=true):TA D a c=0:=by unfold TA;rw[Ky ha,Ky hc];rfl
theorem UE{c:CB}(h:Fc D a=false\/Fc D c=false):TA D a c=3:=by
 unfold TA;rcases h with h|h
 ·rw[TD h];rfl
 ·rw[TD h];split
  ·rfl
  ·rename_i h2;rcases rl (D:=D) (s:=a) with⟨_,h3⟩|⟨_,h3⟩
   ·rw[h3] at h2;exact absurd rfl h2
   ·rw[h3]
theorem Zl{c:CB}(h:¬(Fc D a=false\/Fc D c=false)):Fc D a=true/\Fc D c=true:=by cases h1:Fc D a<;>cases h2:Fc D c<;>simp_all
theorem Fo(b:Nat)(H:HS)(n:Nat)(hI:InvH H n)(lq:List Ab)(hq:IsH b H lq)(s:CB)(c:CapT)(G:List Ab):
 Fn prog 145 [.pointer (some ⟨b,0,none⟩),.agg (toArray (Cj s)),.agg (toArray (BR c))] (lq++G) λv l'=>v= .int .i64 (FH H s c).1/\ ∃lq',IsH b (FH H s c).2 lq'/\l'=lq'++G:=by
 have hq0:=hq;refine AO func145 ntmps145 λE=>?_;refine AQ λb4=>?_;refine AQ λb5=>?_;refine Bc (AK rfl rfl λl2 hl=>Im b H lq hq s l2 λc hc=>hl c (.tail _ (.tail _ (Ai _ hc)))) ?_;have hret: ∀(d:CapT) (B:Nat),Keep (Bp B d::Bp b5 c::C8 b4 s::(lq++G)) (lq++G):=λ_ _=> .drop (.drop (.drop .refl));cases hok:Fc H.1 s with
 |false=>rw[TD hok,show FH H s c=(3,H) by unfold FH;rw[Ae hok]];refine AQ λb7=>?_;exact A8 (hret _ _) ⟨rfl,_,hq0,rfl⟩
 |true=>
 rw[Ky hok];have e0:FH H s c=if Ku c=false then(5,H) else if(DH H.1 s).kind≠0 then(11,H) else(0,(FS H.1 s c,(Tr.rootD H.2 s).2)):=by unfold FH;rw[Ac (by rw[hok];decide)]
 rw[e0];refine AQ λb7=>?_;refine Bc (AK rfl rfl λl2 hl=>Hq c l2) ?_;cases hm:E5 c with
 |false=>rw[Ae (by unfold Ku;rw[hm];rfl)];refine Aj ?_;exact A8 (hret _ _) ⟨rfl,_,hq0,rfl⟩
 |true=>
 by_cases hk:c.kind=0
 ·rw[Ae (by unfold Ku;rw[At hk,hm];rfl)];refine Aj ?_;exact A8 (hret _ _) ⟨rfl,_,hq0,rfl⟩
 rw[Ac (by unfold Ku;rw[Aw hk,hm];decide)];by_cases hw:(DH H.1 s).kind≠0
 ·rw[Ae hw];refine Aj ?_;exact A8 (hret _ _) ⟨rfl,_,hq0,rfl⟩
 rw[Ac hw];obtain⟨bs,bt,ls,lt,rfl,hs,ht⟩:=hq;have hr0:=(V6 (t:=s) (hI.no (by simpa using hw))).1;have H1:=Fn.mvP (λA=>Bp b7 (DH H.1 s)::Bp b5 c::C8 b4 s::Lc b bs bt::(A++(lt++G))) (set_any bs H.1 ls hs s c (Bp b7 (DH H.1 s)::Bp b5 c::C8 b4 s::Lc b bs bt::(lt++G)));have H2:=λls=>Fn.mvP (λA=>Bp b7 (DH H.1 s)::Bp b5 c::C8 b4 s::Lc b bs bt::(ls++(A++G))) (Tr.root_any bt H.2 lt ht s (Bp b7 (DH H.1 s)::Bp b5 c::C8 b4 s::Lc b bs bt::(ls++G)));rw[JT hok hm] at H1;rw[hr0] at H2;simp only[Ad,Al];refine Aj ?_;refine Ce [6] 7 ([Bp b5 c,C8 b4 s,Lc b bs bt]) ?_;refine BI ?_;apply CE
 ·exact CZ rfl rfl H1
 ·rfl
 ·rfl
 ·rfl
 ·rintro _ _ ⟨_,ls',_,rfl⟩;exact Sn
 rintro _ _ ⟨rfl,ls',hs',rfl⟩;refine BI ?_;refine Aj ?_;refine Ce [5] 7 ([C8 b4 s,Lc b bs bt]) ?_;refine BI ?_;apply CE
 ·exact CZ rfl rfl (H2 ls')
 ·rfl
 ·rfl
 ·rfl
 ·rintro _ _ ⟨_,lt',_,rfl⟩;exact Sn
 rintro _ _ ⟨rfl,lt',ht',rfl⟩;refine BI ?_;refine Aj ?_;exact A8 (l':=(Lc b bs bt::(ls'++lt'))++G) (.drop (.drop (.drop (.of_perm (.of_eq (by simp)))))) ⟨rfl,_,⟨bs,bt,ls',lt',rfl,hs',ht'⟩,rfl⟩
theorem Rz(b:Nat)(H:HS)(n:Nat)(hI:InvH H n)(hn:n<=1000)(lq:List Ab)(hq:IsH b H lq)(p s:CB)(c:CapT)(G:List Ab):
 Fn prog 251 [.pointer (some ⟨b,0,none⟩),.agg (toArray (Cj p)),.agg (toArray (Cj s)),.agg (toArray (BR c))] (lq++G) λv l'=>v= .int .i64 (IM H p s c).1/\ ∃lq',IsH b (IM H p s c).2 lq'/\l'=lq'++G:=by
 have hq0:=hq;refine AO func251 ntmps251 λE=>?_;refine AQ λb5=>?_;refine AQ λb6=>?_;refine AQ λb7=>?_;refine Bc (AK rfl rfl λl2 hl=>Nm b H lq hq p s l2 λc hc=>hl c (.tail _ (.tail _ (.tail _ (Ai _ hc))))) ?_;have hret: ∀(d e:CapT) (B C:Nat),Keep (Bp B d::Bp C e::Bp b7 c::C8 b6 s::C8 b5 p::(lq++G)) (lq++G):=λ_ _ _ _=> .drop (.drop (.drop (.drop (.drop .refl))));by_cases hok:Fc H.1 p=false\/Fc H.1 s=false
 ·rw[UE hok,show IM H p s c=(3,H) by unfold IM;rw[Ae hok]];refine Aj ?_;refine AS e_alloc ?_;rintro _ _ ⟨b9,_,rfl,rfl⟩;refine AQ λb10=>?_;exact A8 (hret _ _ _ _) ⟨rfl,_,hq0,rfl⟩
 obtain⟨okp,oks⟩:=Zl hok;rw[UD okp oks,Ky okp,Ky oks];have e0:IM H p s c=if Ku c=false then(5,H) else if(DH H.1 p).kind=0 then(10,H) else if(DH H.1 s).kind≠0 then(11,H) else(0,(FS H.1 s c,(Tr.childD H.2 p s).2)):=by unfold IM;rw[Ac hok]
 rw[e0];refine Aj ?_;refine AS e_alloc ?_;rintro _ _ ⟨b9,_,rfl,rfl⟩;refine AQ λb10=>?_;refine Bc (AK rfl rfl λl2 hl=>Hq c l2) ?_;cases hm:E5 c with
 |false=>rw[Ae (by unfold Ku;rw[hm];rfl)];refine Aj ?_;exact A8 (hret _ _ _ _) ⟨rfl,_,hq0,rfl⟩
 |true=>
 by_cases hk:c.kind=0
 ·rw[Ae (by unfold Ku;rw[At hk,hm];rfl)];refine Aj ?_;exact A8 (hret _ _ _ _) ⟨rfl,_,hq0,rfl⟩
 rw[Ac (by unfold Ku;rw[Aw hk,hm];decide)];by_cases hp:(DH H.1 p).kind=0
 ·rw[Ae hp];refine Aj ?_;exact A8 (hret _ _ _ _) ⟨rfl,_,hq0,rfl⟩
 rw[Ac hp];by_cases hw:(DH H.1 s).kind≠0
 ·rw[Ae hw];refine Aj ?_;exact A8 (hret _ _ _ _) ⟨rfl,_,hq0,rfl⟩
 rw[Ac hw];obtain⟨bs,bt,ls,lt,rfl,hs,ht⟩:=hq;have hr0:=(Tz (t:=s) ((hI.link p).2 ⟨okp,hp⟩) (hI.no (by simpa using hw))).1;obtain⟨X,hX⟩: ∃X,X=[Bp b10 (DH H.1 s),Bp b9 (DH H.1 p),Bp b7 c,C8 b6 s,C8 b5 p,Lc b bs bt]:=⟨_,rfl⟩
 have H1:=Fn.mvP (λA=>X++(A++(lt++G))) (set_any bs H.1 ls hs s c (X++(lt++G)));have H2:=λls=>Fn.mvP (λA=>X++(ls++(A++G))) (Tr.child_any bt H.2 lt ht (hI.small hn).2.2 p s (X++(ls++G)));rw[JT oks hm] at H1;rw[hr0] at H2;rw[hX] at H1 H2;simp only[Ad,Al,Ag] at H1 H2⊢;refine Aj ?_;refine Ce [6] 7 ([Bp b7 c,C8 b6 s,Lc b bs bt]) ?_;refine BI ?_;apply CE
 ·exact CZ rfl rfl H1
 ·rfl
 ·rfl
 ·rfl
 ·rintro _ _ ⟨_,ls',_,rfl⟩;exact Sn
 rintro _ _ ⟨rfl,ls',hs',rfl⟩;refine BI ?_;refine Aj ?_;refine Ce [6] 8 ([C8 b6 s,C8 b5 p,Lc b bs bt]) ?_;refine BI ?_;apply CE
 ·exact CZ rfl rfl (H2 ls')
 ·rfl
 ·rfl
 ·rfl
 ·rintro _ _ ⟨_,lt',_,rfl⟩;exact Sn
 rintro _ _ ⟨rfl,lt',ht',rfl⟩;refine BI ?_;refine Aj ?_;exact A8 (l':=(Lc b bs bt::(ls'++lt'))++G) (.drop (.drop (.drop (.drop (.drop (.of_perm (.of_eq (by simp)))))))) ⟨rfl,_,⟨bs,bt,ls',lt',rfl,hs',ht'⟩,rfl⟩
theorem aU{a:CapT}(h:HF a c=true):E5 c=true:=by unfold HF at h;simp only[AX] at h;exact h.1.1.1.2
theorem OI(b:Nat)(H:HS)(n:Nat)(hI:InvH H n)(hn:n<=1000)(lq:List Ab)(hq:IsH b H lq)(a c:CB)(gf:Nat)[EN prog gf](cs:List Value)(r:CapT->CapT×Int)(hr: ∀d,Ik d->Ik (r d).1)(X:List Ab)
 (hf: ∀d l2,Ik d->(∀x,x∈X->x∈l2)->Fn prog gf ([.agg (toArray (BR d))]++cs) l2 λv l'=>v= .tuple #[.agg (toArray (BR (r d).1)),.int .i64 (r d).2]/\l'=l2)(G:List Ab)(hX: ∀x,x∈X->x∈G):
 Fn prog 189 [.pointer (some ⟨b,0,none⟩),.agg (toArray (Cj a)),.agg (toArray (Cj c)),.func (.func gf) #[] (toArray cs)] (lq++G) λv l'=>v= .int .i64 (Gi H a c (r (DH H.1 a))).1/\ ∃lq',IsH b (Gi H a c (r (DH H.1 a))).2 lq'/\l'=lq'++G:=by
 refine AO func189 ntmps189 λE=>?_;refine AQ λb5=>?_;refine AQ λb6=>?_;refine Bc (AK rfl rfl λl2 hl=>Nm b H lq hq a c l2 λc hc=>hl c (.tail _ (.tail _ (Ai _ hc)))) ?_;have hret: ∀(d e:CapT) (B C:Nat),Keep (Bp B d::Bp C e::C8 b6 c::C8 b5 a::(lq++G)) (lq++G):=λ_ _ _ _=> .drop (.drop (.drop (.drop .refl)));by_cases hok:Fc H.1 a=false\/Fc H.1 c=false
 ·rw[UE hok];have e1:GN H a c=3:=by unfold GN;rw[Ae hok]
  rw[show Gi H a c (r (DH H.1 a))=(3,H) by unfold Gi;rw[Ae (by rw[e1];decide),e1]];refine Aj ?_;refine AS e_alloc ?_;rintro _ _ ⟨b9,_,rfl,rfl⟩;refine AQ λb10=>?_;exact A8 (hret _ _ _ _) ⟨rfl,_,hq,rfl⟩
 obtain⟨oka,okc⟩:=Zl hok;rw[UD oka okc,Ky oka,Ky okc];refine Aj ?_;refine AS e_alloc ?_;rintro _ _ ⟨b9,_,rfl,rfl⟩;refine AQ λb10=>?_;by_cases hp:(DH H.1 a).kind=0
 ·have e1:GN H a c=10:=by unfold GN;rw[Ac hok,Ae hp]
  rw[show Gi H a c (r (DH H.1 a))=(10,H) by unfold Gi;rw[Ae (by rw[e1];decide),e1]];refine Aj ?_;exact A8 (hret _ _ _ _) ⟨rfl,_,hq,rfl⟩
 by_cases hw:(DH H.1 c).kind≠0
 ·have e1:GN H a c=11:=by unfold GN;rw[Ac hok,Ac hp,Ae hw]
  rw[show Gi H a c (r (DH H.1 a))=(11,H) by unfold Gi;rw[Ae (by rw[e1];decide),e1]];refine Aj ?_;exact A8 (hret _ _ _ _) ⟨rfl,_,hq,rfl⟩
 have e1:GN H a c=0:=by unfold GN;rw[Ac hok,Ac hp,Ac hw]
 have hwa:=(hI.at a).2;have hwr:=hr _ hwa;refine Aj ?_;refine Bc (Fb rfl rfl λl2 hl=>by simpa using hf (DH H.1 a) l2 hwa λx hx=>hl x (.tail _ (.tail _ (.tail _ (.tail _ (Aa _ (hX x hx))))))) ?_;by_cases he:(r (DH H.1 a)).2≠0
 ·rw[show Gi H a c (r (DH H.1 a))=((r (DH H.1 a)).2,H) by unfold Gi;rw[Ac (by rw[e1];decide),Ae he]];refine AQ λb12=>?_;exact A8 (.drop (hret _ _ _ _)) ⟨rfl,_,hq,rfl⟩
 have he0:(r (DH H.1 a)).2=0:=by simpa using he
 rw[show Gi H a c (r (DH H.1 a))=IM H a c (r (DH H.1 a)).1 by unfold Gi;rw[Ac (by rw[e1];decide),Ac he]];rw[he0];refine AQ λb12=>?_;refine AS (CZ rfl rfl (Fn.mvP (λA=>Bp b12 (r (DH H.1 a)).1::Bp b10 (DH H.1 c)::Bp b9 (DH H.1 a)::C8 b6 c::C8 b5 a::(A++G)) (Rz b H n hI hn lq hq a c (r (DH H.1 a)).1 (Bp b12 (r (DH H.1 a)).1::Bp b10 (DH H.1 c)::Bp b9 (DH H.1 a)::C8 b6 c::C8 b5 a::G)))) ?_;rintro _ _ ⟨rfl,lq',hq',rfl⟩;refine Aj ?_;exact A8 (l':=lq'++G) (.drop (.drop (.drop (.drop (.drop .refl))))) ⟨rfl,_,hq',rfl⟩
theorem XH(c:CapT)(hw:Ik c)(b1:Nat)(mask:Int)(l:List Ab)(hm:FR b1 mask∈l):
 Fn prog 190 ([.agg (toArray (BR c))]++[.pointer (some ⟨b1,0,none⟩)]) l λv l'=>v= .tuple #[.agg (toArray (BR (Ej c mask).1)),.int .i64 (Ej c mask).2]/\l'=l:=by
 rw[show[Value.agg (toArray (BR c))]++[.pointer (some ⟨b1,0,none⟩)]=[.agg (toArray (BR c)),.pointer (some ⟨b1,0,none⟩)] from rfl];refine AO func190 ntmps190 λE=>?_;refine Aj ?_
 (first|refine AS (DZ rfl rfl) ?_|refine AS (CR rfl) ?_);rintro _ _ ⟨b2,_,rfl,rfl⟩
 have hm2:FR b1 mask∈Bp b2 c::l:= .tail _ hm;refine Aj ?_;refine AS e_alloc ?_;rintro _ _ ⟨b3,_,rfl,rfl⟩;have hm3:FR b1 mask∈Bp b3 Cv::Bp b2 c::l:= .tail _ (.tail _ hm);refine Aj ?_;refine Bc (AK rfl rfl λl2 hl=>ML c hw mask l2) ?_;refine Aj ?_;exact Cy (l':=l) (Bp b3 (Ej c mask).1::Bp b2 c::l) .refl (.drop (.drop .refl)) ⟨rfl,rfl⟩
theorem XI(c:CapT)(hw:Ik c)(b1 b2:Nat)(mask:Int)(data:Nat)(hd:data<18446744073709551616)(l:List Ab)(hm:FR b1 mask∈l)(hm':Pe b2 data∈l):
 Fn prog 196 ([.agg (toArray (BR c))]++[.pointer (some ⟨b1,0,none⟩),.pointer (some ⟨b2,0,none⟩)]) l λv l'=>v= .tuple #[.agg (toArray (BR (Il c mask data).1)),.int .i64 (Il c mask data).2]/\l'=l:=by
 rw[show[Value.agg (toArray (BR c))]++[.pointer (some ⟨b1,0,none⟩),.pointer (some ⟨b2,0,none⟩)]=[.agg (toArray (BR c)),.pointer (some ⟨b1,0,none⟩),.pointer (some ⟨b2,0,none⟩)] from rfl];refine AO func196 ntmps196 λE=>?_;refine AQ λb3=>?_;refine AS e_alloc ?_;rintro _ _ ⟨b4,_,rfl,rfl⟩;have hm3:FR b1 mask∈Bp b4 Cv::Bp b3 c::l:= .tail _ (.tail _ hm);have hm4:Pe b2 data∈Bp b4 Cv::Bp b3 c::l:= .tail _ (.tail _ hm');refine Aj ?_;refine Bc (AK rfl rfl λl2 hl=>ez c hw mask data hd l2) ?_;refine Aj ?_;exact Cy (l':=l) (Bp b4 (Il c mask data).1::Bp b3 c::l) .refl (.drop (.drop .refl)) ⟨rfl,rfl⟩
theorem Ld(b:Nat)(H:HS)(n:Nat)(hI:InvH H n)(hn:n<=1000)(lq:List Ab)(hq:IsH b H lq)(a c:CB)(mask:Int)(G:List Ab):
 Fn prog 146 [.pointer (some ⟨b,0,none⟩),.agg (toArray (Cj a)),.agg (toArray (Cj c)),.int .i64 mask] (lq++G) λv l'=>v= .int .i64 (Gi H a c (Ej (DH H.1 a) mask)).1/\ ∃lq',IsH b (Gi H a c (Ej (DH H.1 a) mask)).2 lq'/\l'=lq'++G:=by
 refine AO func146 ntmps146 λE=>?_;refine AQ λb5=>?_;refine AQ λb6=>?_;refine AQ λb7=>?_;refine AS (CZ (vs:=[.pointer (some ⟨b,0,none⟩),.agg (toArray (Cj a)),.agg (toArray (Cj c)),.func (.func 190) #[] (toArray [.pointer (some ⟨b7,0,none⟩)])]) rfl rfl (Fn.mvP (λA=>FR b7 mask::C8 b6 c::C8 b5 a::(A++G)) (OI b H n hI hn lq hq a c 190 [.pointer (some ⟨b7,0,none⟩)] (λd=>Ej d mask) (λd h=>MK h mask) [FR b7 mask] (λd l2 hd hx=>XH d hd b7 mask l2 (hx _ (.head _))) (FR b7 mask::C8 b6 c::C8 b5 a::G) (CM (.head _))))) ?_;rintro _ _ ⟨rfl,lq',hq',rfl⟩;refine Aj ?_;exact A8 (l':=lq'++G) (.drop (.drop (.drop .refl))) ⟨rfl,_,hq',rfl⟩
theorem Pi(b:Nat)(H:HS)(n:Nat)(hI:InvH H n)(hn:n<=1000)(lq:List Ab)(hq:IsH b H lq)(a c:CB)(mask:Int)(data:Nat)(hd:data<18446744073709551616)(G:List Ab):
 Fn prog 150 [.pointer (some ⟨b,0,none⟩),.agg (toArray (Cj a)),.agg (toArray (Cj c)),.int .i64 mask,.int .u64 (data:Nat)] (lq++G) λv l'=>v= .int .i64 (Gi H a c (Il (DH H.1 a) mask data)).1/\ ∃lq',IsH b (Gi H a c (Il (DH H.1 a) mask data)).2 lq'/\l'=lq'++G:=by
 refine AO func150 ntmps150 λE=>?_;refine AQ λb5=>?_;refine AQ λb6=>?_;refine AQ λb7=>?_;refine AQ λb8=>?_;refine AS (CZ (vs:=[.pointer (some ⟨b,0,none⟩),.agg (toArray (Cj a)),.agg (toArray (Cj c)),.func (.func 196) #[] (toArray [.pointer (some ⟨b7,0,none⟩),.pointer (some ⟨b8,0,none⟩)])]) rfl rfl (Fn.mvP (λA=>Pe b8 data::FR b7 mask::C8 b6 c::C8 b5 a::(A++G)) (OI b H n hI hn lq hq a c 196 [.pointer (some ⟨b7,0,none⟩),.pointer (some ⟨b8,0,none⟩)] (λd=>Il d mask data) (λd h=>Ro h mask data) [FR b7 mask,Pe b8 data] (λd l2 hd2 hx=>XI d hd2 b7 b8 mask data hd l2 (hx _ (.head _)) (hx _ (.tail _ (.head _)))) (Pe b8 data::FR b7 mask::C8 b6 c::C8 b5 a::G) (λx hx=>by
  rcases Aq.1 hx with rfl|hx
  ·exact .tail _ (.head _)
  ·rw[AA.1 hx];exact .head _)))) ?_
 rintro _ _ ⟨rfl,lq',hq',rfl⟩;refine Aj ?_;exact A8 (l':=lq'++G) (.drop (.drop (.drop (.drop .refl)))) ⟨rfl,_,hq',rfl⟩
end Go.Proofs.YtlkgekpmileobaaGreat
