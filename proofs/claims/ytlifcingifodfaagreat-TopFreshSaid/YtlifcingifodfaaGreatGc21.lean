/- Laws that the statement's proof leans on (joined out of several texts). -/
import Derived.Test.YtlifcingifodfaaGreatGc20
set_option maxHeartbeats 4000000
set_option linter.unusedVariables false
set_option linter.unusedSimpArgs false
namespace Go.Proofs.YtlifcingifodfaaGreat
open Tryz
open List(toArray)
open Go.RowKit
set_option maxRecDepth 20000
variable{n m b bs bt:Nat}{s t a:Ck}{D:SD}{c:CapT}{ls lq:Ad}{T:Tr.DT}
abbrev HS:=SD×Tr.DT
variable{H:HS}
def LH(c:CapT):Bool:=FD c&&!decide (c.kind=0)
def Gm(H:HS)(s:Ck)(c:CapT):Int×HS:=
 if FJ H.1 s=false then(3,H) else if LH c=false then(5,H) else if(D5 H.1 s).kind≠0 then(11,H) else(0,(Gn H.1 s c,(Tr.rootD H.2 s).2))
def ID(H:HS)(p s:Ck)(c:CapT):Int×HS:=
 if FJ H.1 p=false\/FJ H.1 s=false then(3,H) else if LH c=false then(5,H) else if(D5 H.1 p).kind=0 then(10,H) else if(D5 H.1 s).kind≠0 then(11,H) else(0,(Gn H.1 s c,(Tr.childD H.2 p s).2))
def Pd(H:HS)(s:Ck)(c:CapT):Int×HS:=
 if FJ H.1 s=false then(3,H) else if(D5 H.1 s).kind=0 then(10,H) else if IC (D5 H.1 s) c=false then(5,H) else(0,(Gn H.1 s c,H.2))
def HA(H:HS)(a b:Ck):Int:=
 if FJ H.1 a=false\/FJ H.1 b=false then 3 else if(D5 H.1 a).kind=0 then 10 else if(D5 H.1 b).kind≠0 then 11 else 0
def Gp(H:HS)(a b:Ck)(r:CapT×Int):Int×HS:=if HA H a b≠0 then(HA H a b,H) else if r.2≠0 then(r.2,H) else ID H a b r.1
def Jx(H:HS)(a b:Ck):Int×HS:=if HA H a b≠0 then(HA H a b,H) else(0,(Gn (Gn H.1 a CI) b (D5 H.1 a),(Tr.moveD H.2 a b).2))
def LI(H:HS)(a b:Ck):Int×HS:=if FJ H.1 a=false\/FJ H.1 b=false then(3,H) else(0,(Gn (Gn H.1 a (D5 H.1 b)) b (D5 H.1 a),Tr.swapD H.2 a b))
def Eb(H:HS)(s:Ck):(CapT×Int)×HS:=if FJ H.1 s=false then((CI,3),H) else if(D5 H.1 s).kind=0 then((CI,10),H) else((D5 H.1 s,0),(Gn H.1 s CI,(Tr.removeD H.2 s).2))
def LX(H:HS)(s:Ck):Bool:=FJ H.1 s&&!decide ((D5 H.1 s).kind=0)&&(DY H.1).all λx=>decide (x.1=s)||!IC x.2 (D5 H.1 s)
structure InvH(H:HS)(n:Nat):Prop where
 tree:Tr.GoodT H.2 n
 asc:H.1.Pairwise λx y=>x.1<y.1
 val: ∀x,x∈H.1-> ∀c,c∈x.2->FD c=true/\Jg c
 link: ∀s,Tr.hasD H.2 s=true<->FJ H.1 s=true/\(D5 H.1 s).kind≠0
 len:H.1.length<=n+3
theorem LJ:FD CI=true/\Jg CI:=⟨rfl,by decide,by decide⟩
theorem InvH.at(h:InvH H n)(s:Ck):FD (D5 H.1 s)=true/\Jg (D5 H.1 s):=by
 unfold D5
 split
 ·rename_i x hx;have hm:=(Fg hx).1;rw[Bk];cases hk:x.2[s.2.toNat]? with
  |none=>exact LJ
  |some c=>exact h.val x hm c (A6 hk)
 ·exact LJ
theorem InvH.mono(h:InvH H n)(hm:n<=m):InvH H m:=⟨h.tree.mono hm,h.asc,h.val,h.link,BY h.len Af⟩
theorem WJ(h:D.Pairwise λx y=>x.1<y.1)(s:Ck)(c:CapT):(Gn D s c).Pairwise λx y=>x.1<y.1:=by
 have e:(Gn D s c).map Prod.fst=D.map Prod.fst:=by
  unfold Gn;rw[CR];apply BA;intro x _;show(if x.1=s.1 then(x.1,x.2.set s.2.toNat c) else x).1=x.1
  split<;>rfl
 have h2:(D.map Prod.fst).Pairwise (· < ·):=Cu.2 h;rw[<-e] at h2;exact Cu.1 h2
theorem WK(h: ∀x,x∈D-> ∀c,c∈x.2->FD c=true/\Jg c)(s:Ck)(hc:FD c=true/\Jg c): ∀x,x∈Gn D s c-> ∀d,d∈x.2->FD d=true/\Jg d:=by
 intro x hx y hy;obtain⟨z,hz,rfl⟩:=Au.1 hx
 split at hy
 ·rcases Cq hy with hy|rfl
  ·exact h z hz y hy
  ·exact hc
 ·exact h z hz y hy
theorem WL(D:SD)(s:Ck)(c:CapT):(Gn D s c).length=D.length:=by simp[Gn]
theorem tW(h:FJ D s=true):0<=s.2:=by unfold FJ at h;rw[AW,Bj] at h;exact h.1
theorem OW(hs:FJ D s=true)(ht:FJ D t=true):D5 (Gn D s c) t=if t=s then c else D5 D t:=by
 by_cases h:t=s
 ·rw[Ac h,h,wj hs]
 ·rw[Ab h,gE (tW hs) (tW ht) h]
theorem K3(h:FJ D s=true)(hc:FD c=true):setD D s c=(0,Gn D s c):=by unfold setD;rw[Ac h,Ac hc]
theorem InvH.put(h:InvH H n)(hm:n<=m)(hs:FJ H.1 s=true)(hc:FD c=true/\Jg c)(hT:Tr.GoodT T m)(hl: ∀t,Tr.hasD T t=true<->FJ H.1 t=true/\(if t=s then c else D5 H.1 t).kind≠0):InvH (Gn H.1 s c,T) m:=
 ⟨hT,WJ h.asc s c,WK h.val s hc,λt=>by
   rw[hl t,Oj];constructor
   ·rintro⟨h1,h2⟩;exact⟨h1,by rw[OW hs h1];exact h2⟩
   ·rintro⟨h1,h2⟩;exact⟨h1,by rw[OW hs h1] at h2;exact h2⟩,by rw[WL];have:=h.len;omega⟩
theorem InvH.put2(h:InvH H n)(hm:n<=m){u:Ck}{d:CapT}(hs:FJ H.1 s=true)(hu:FJ H.1 u=true)(hc:FD c=true/\Jg c)(hd:FD d=true/\Jg d)(hT:Tr.GoodT T m)(hl: ∀t,Tr.hasD T t=true<->FJ H.1 t=true/\(if t=u then d else if t=s then c else D5 H.1 t).kind≠0):InvH (Gn (Gn H.1 s c) u d,T) m:=
 ⟨hT,WJ (WJ h.asc s c) u d,WK (WK h.val s hc) u hd,λt=>by
   have hu':FJ (Gn H.1 s c) u=true:=by rw[Oj];exact hu
   rw[hl t,Oj,Oj];constructor
   ·rintro⟨h1,h2⟩;exact⟨h1,by rw[OW hu' (by rw[Oj];exact h1),OW hs h1];exact h2⟩
   ·rintro⟨h1,h2⟩;exact⟨h1,by rw[OW hu' (by rw[Oj];exact h1),OW hs h1] at h2;exact h2⟩,by rw[WL,WL];have:=h.len;omega⟩
theorem lF(h:LH c=true):FD c=true/\c.kind≠0:=by unfold LH at h;rw[AW] at h;exact⟨h.1,by simpa using h.2⟩
theorem JS{D:Tr.DT}:Tr.hasD D s=true<->s∈D.map Prod.fst:=Tr.hasD_yes
theorem YC{D:Tr.DT}(h:Tr.hasD D s=false):(Tr.rootD D s).1=0/\(Tr.hasD (Tr.rootD D s).2 t=true<->t=s\/Tr.hasD D t=true):=by
 have e:Tr.rootD D s=(0,D++[(s,0)]):=by unfold Tr.rootD;rw[h];rfl
 rw[e];refine⟨rfl,?_⟩;rw[JS,JS];simp only[Aq,AJ,CQ,AH,AE];exact Or.comm
theorem VK{D:Tr.DT}{p:Ck}(hp:Tr.hasD D p=true)(h:Tr.hasD D s=false):(Tr.childD D p s).1=0/\(Tr.hasD (Tr.childD D p s).2 t=true<->t=s\/Tr.hasD D t=true):=by
 unfold Tr.hasD at hp;cases h2:Tr.splitD p D with
 |none=>rw[h2] at hp;cases hp
 |some z=>
  obtain⟨A,d,B⟩:=z;have e:Tr.childD D p s=(0,A++(p,d)::(s,d+1)::B):=by unfold Tr.childD;rw[h2];simp only;rw[Ab (by rw[h];decide)]
  rw[e];refine⟨rfl,?_⟩;have hD:=(Tr.splitD_some h2).1;rw[JS,JS,hD];simp only[Aq,AJ,AH,At];constructor
  ·rintro(h|h|h|h)
   ·exact .inr (.inl h)
   ·exact .inr (.inr (.inl h))
   ·exact .inl h
   ·exact .inr (.inr (.inr h))
  ·rintro(h|h|h|h)
   ·exact .inr (.inr (.inl h))
   ·exact .inl h
   ·exact .inr (.inl h)
   ·exact .inr (.inr (.inr h))
theorem lG{A B:List Ck}(h:(A++s::B).Nodup):t∈A++B<->t∈A++s::B/\t≠s:=by
 have h1:=AP.1 (AI.nodup_iff.1 h);constructor
 ·intro ht;refine⟨AI.symm.mem_iff.1 (.tail _ ht),λe=>h1.1 (e▸ht)⟩
 ·rintro⟨h2,h3⟩;rcases At.1 (AI.mem_iff.1 h2) with h4|h4
  ·exact absurd h4 h3
  ·exact h4
theorem az{D:Tr.DT}(hg:Tr.GoodT D n)(h:Tr.hasD D s=true):(Tr.removeD D s).1=0/\(Tr.hasD (Tr.removeD D s).2 t=true<->Tr.hasD D t=true/\t≠s):=by
 unfold Tr.hasD at h;cases h2:Tr.splitD s D with
 |none=>rw[h2] at h;cases h
 |some z=>
  obtain⟨A,d,B⟩:=z;have e:Tr.removeD D s=(0,A++Tr.decW d B):=by unfold Tr.removeD;rw[h2]
  rw[e];refine⟨rfl,?_⟩;have hD:=(Tr.splitD_some h2).1;have hn:=hg.nd;rw[JS,JS];rw[hD] at hn⊢;rw[Aq,AJ] at hn;rw[Aq,Aq,AJ,Tr.decW_fst];exact lG hn
theorem YD{D:Tr.DT}(hg:Tr.GoodT D n){b:Ck}(ha:Tr.hasD D a=true)(hb:Tr.hasD D b=false):(Tr.moveD D a b).1=0/\(Tr.hasD (Tr.moveD D a b).2 t=true<->t=b\/(Tr.hasD D t=true/\t≠a)):=by
 unfold Tr.hasD at ha;cases h2:Tr.splitD a D with
 |none=>rw[h2] at ha;cases ha
 |some z=>
  obtain⟨A,d,B⟩:=z;have e:Tr.moveD D a b=(0,A++(b,d)::B):=by unfold Tr.moveD;rw[h2];simp only;rw[Ab (by rw[hb];decide)]
  rw[e];refine⟨rfl,?_⟩;have hD:=(Tr.splitD_some h2).1;have hn:=hg.nd;rw[JS,JS];rw[hD] at hn⊢;rw[Aq,AJ] at hn;rw[Aq,Aq,AJ,AJ,<-lG hn,AI.mem_iff,At]
theorem lI(D:Tr.DT)(a b t:Ck):Tr.hasD (Tr.swapD D a b) t=Tr.hasD D (Tr.swf a b t):=by
 rw[Kc,JS,JS];unfold Tr.swapD;rw[CR];simp only[Au,Function.comp_apply,Tr.swpS_fst];constructor
 ·rintro⟨x,hx,rfl⟩;exact⟨x,hx,(Tr.swf_swf a b x.1).symm⟩
 ·rintro⟨x,hx,he⟩;exact⟨x,hx,by rw[he,Tr.swf_swf]⟩
theorem InvH.no(h:InvH H n)(hk:(D5 H.1 s).kind=0):Tr.hasD H.2 s=false:=by
 cases e:Tr.hasD H.2 s with
 |false=>rfl
 |true=>exact absurd hk ((h.link s).1 e).2
theorem InvH.root(h:InvH H n)(s:Ck)(c:CapT)(hw:Jg c):InvH (Gm H s c).2 (n+1):=by
 unfold Gm;by_cases h1:FJ H.1 s=false
 ·rw[Ac h1];exact h.mono Af
 rw[Ab h1];by_cases h2:LH c=false
 ·rw[Ac h2];exact h.mono Af
 rw[Ab h2];by_cases h3:(D5 H.1 s).kind≠0
 ·rw[Ac h3];exact h.mono Af
 rw[Ab h3];obtain⟨c1,c2⟩:=lF (by simpa using h2);have Dm:FJ H.1 s=true:=by simpa using h1
 refine h.put Af Dm ⟨c1,hw⟩ (h.tree.root s) λt=>?_;rw[(YC (h.no (by simpa using h3))).2,h.link];by_cases e:t=s
 ·subst e;simp[Dm,c2]
 ·simp[e]
theorem InvH.child(h:InvH H n)(p s:Ck)(c:CapT)(hw:Jg c):InvH (ID H p s c).2 (n+1):=by
 unfold ID;by_cases h1:FJ H.1 p=false\/FJ H.1 s=false
 ·rw[Ac h1];exact h.mono Af
 rw[Ab h1];by_cases h2:LH c=false
 ·rw[Ac h2];exact h.mono Af
 rw[Ab h2];by_cases h3:(D5 H.1 p).kind=0
 ·rw[Ac h3];exact h.mono Af
 rw[Ab h3];by_cases h4:(D5 H.1 s).kind≠0
 ·rw[Ac h4];exact h.mono Af
 rw[Ab h4];obtain⟨c1,c2⟩:=lF (by simpa using h2);have Dm:FJ H.1 s=true:=by cases e:FJ H.1 s<;>simp_all
 have AcI:FJ H.1 p=true:=by cases e:FJ H.1 p<;>simp_all
 refine h.put Af Dm ⟨c1,hw⟩ (h.tree.child p s) λt=>?_;rw[(VK ((h.link p).2 ⟨AcI,h3⟩) (h.no (by simpa using h4))).2,h.link];by_cases e:t=s
 ·subst e;simp[Dm,c2]
 ·simp[e]
theorem InvH.set(h:InvH H n)(s:Ck)(c:CapT)(hw:Jg c):InvH (Pd H s c).2 n:=by
 unfold Pd;by_cases h1:FJ H.1 s=false
 ·rw[Ac h1];exact h
 rw[Ab h1];by_cases h2:(D5 H.1 s).kind=0
 ·rw[Ac h2];exact h
 rw[Ab h2];by_cases h3:IC (D5 H.1 s) c=false
 ·rw[Ac h3];exact h
 rw[Ab h3];have h3':IC (D5 H.1 s) c=true:=by simpa using h3
 unfold IC at h3';simp only[AW,Ef,Bj,Fb] at h3';obtain⟨⟨⟨⟨a1,a2⟩,a3⟩,a4⟩,a5⟩:=h3';refine h.put (Bd _) (by simpa using h1) ⟨a2,hw⟩ h.tree λt=>?_;rw[h.link];by_cases e:t=s
 ·subst e;simp[h2,<-a4]
 ·simp[e]
theorem wn{b:Ck}(h:HA H a b=0):FJ H.1 a=true/\FJ H.1 b=true/\(D5 H.1 a).kind≠0/\(D5 H.1 b).kind=0:=by
 unfold HA at h
 split at h
 ·cases h
 rename_i h1
 split at h
 ·cases h
 rename_i h2
 split at h
 ·cases h
 rename_i h3;exact⟨by cases e:FJ H.1 a<;>simp_all,by cases e:FJ H.1 b<;>simp_all,h2,by simpa using h3⟩
theorem InvH.der(h:InvH H n)(a b:Ck)(r:CapT×Int)(hw:Jg r.1):InvH (Gp H a b r).2 (n+1):=by
 unfold Gp
 split
 ·exact h.mono Af
 split
 ·exact h.mono Af
 ·exact h.child a b _ hw
theorem InvH.move(h:InvH H n)(a b:Ck):InvH (Jx H a b).2 n:=by
 unfold Jx;by_cases h0:HA H a b=0
 ·rw[Ab (by simpa using h0)];obtain⟨h1,h2,h3,h4⟩:=wn h0;have G5:a≠b:=λe=>h3 (e▸h4);refine h.put2 (Bd _) h1 h2 LJ (h.at a) (h.tree.move a b) λt=>?_;rw[(YD h.tree ((h.link a).2 ⟨h1,h3⟩) (h.no h4)).2,h.link];by_cases e:t=b
  ·subst e;simp[h2,h3]
  ·by_cases e2:t=a
   ·subst e2;simp[e]
   ·simp[e,e2]
 ·rw[Ac h0];exact h
theorem InvH.swap(h:InvH H n)(a b:Ck):InvH (LI H a b).2 n:=by
 unfold LI;by_cases h1:FJ H.1 a=false\/FJ H.1 b=false
 ·rw[Ac h1];exact h
 rw[Ab h1];have ha:FJ H.1 a=true:=by cases e:FJ H.1 a<;>simp_all
 have hb:FJ H.1 b=true:=by cases e:FJ H.1 b<;>simp_all
 refine h.put2 (Bd _) ha hb (h.at b) (h.at a) (h.tree.swap a b) λt=>?_;rw[lI,h.link];unfold Tr.swf;by_cases e:t=a
 ·by_cases e2:t=b
  ·subst e;subst e2;simp
  ·subst e;simp[e2,ha,hb]
 ·by_cases e2:t=b
  ·subst e2;simp[e,ha,hb]
  ·simp[e,e2]
theorem InvH.clear(h:InvH H n)(s:Ck):InvH (Eb H s).2 n:=by
 unfold Eb;by_cases h1:FJ H.1 s=false
 ·rw[Ac h1];exact h
 rw[Ab h1];by_cases h2:(D5 H.1 s).kind=0
 ·rw[Ac h2];exact h
 rw[Ab h2];have Dm:FJ H.1 s=true:=by simpa using h1
 refine h.put (Bd _) Dm LJ (h.tree.remove s) λt=>?_;rw[(az h.tree ((h.link s).2 ⟨Dm,h2⟩)).2,h.link];by_cases e:t=s
 ·subst e;simp
 ·simp[e]
theorem lJ(h:D.Pairwise λx y=>x.1<y.1){x:Int×List CapT}(hn:D6 Prod.fst D x.1=none)(a:Int):D6 Prod.fst (Mt Prod.fst D x) a=if a=x.1 then some x else D6 Prod.fst D a:=by
 have ha:=Sm (key:=Prod.fst) h hn;by_cases e:a=x.1
 ·rw[Ac e,e];exact ax ha (OT.2 (.inl rfl))
 ·rw[Ab e];cases hf:D6 Prod.fst D a with
  |none=>
   refine Gj.2 λy hy=>?_;rcases OT.1 hy with rfl|hy
   ·exact λe2=>e e2.symm
   ·exact Gj.1 hf y hy
  |some y=>obtain⟨h1,h2⟩:=Fg hf;rw[<-h2];exact ax ha (OT.2 (.inr h1))
theorem InvH.add(h:InvH H n)(id k:Int):InvH ((Hg H.1 id k).2,H.2) (n+1):=by
 unfold Hg
 split
 ·exact h.mono Af
 split
 ·exact h.mono Af
 rename_i h1 h2;have hn:D6 Prod.fst H.1 id=none:=by cases e:D6 Prod.fst H.1 id<;>simp_all
 have hf:=lJ h.asc (x:=(id,List.replicate k.toNat CI)) hn;refine⟨h.tree.mono Af,Sm h.asc hn,λx hx c hc=>?_,λs=>?_,?_⟩
 ·rcases OT.1 hx with rfl|hx
  ·rw[Ek hc];exact LJ
  ·exact h.val x hx c hc
 ·rw[h.link];have e1:Jw H.1 id=0:=by unfold Jw;rw[hn]
  unfold FJ Jw D5;simp only;rw[hf];by_cases e:s.1=id
  ·rw[Ac e,e,hn];simp;intro _ _;have:List.getD (List.replicate k.toNat CI) s.2.toNat CI=CI:=by
    rw[Bk];cases e3:(List.replicate k.toNat CI)[s.2.toNat]? with
    |none=>rfl
    |some c=>rw[Ek (A6 e3)];rfl
   rw[Bk] at this;rw[this]
  ·rw[Ab e]
 ·show(Mt Prod.fst H.1 (id,_)).length<=_;rw[WA];have:=h.len;omega
theorem InvH.drop(h:InvH H n)(a:Int):InvH ((Hx H.1 a).2,H.2) n:=by
 unfold Hx
 split
 ·exact h
 split
 ·rename_i x hx Gv;rw[A3] at Gv;have hf: ∀b,D6 Prod.fst (H.1.filter λx=>decide (x.1≠a)) b=if b=a then none else D6 Prod.fst H.1 b:=λb=>by
   by_cases e:b=a
   ·rw[Ac e];refine Gj.2 λy hy=>?_;have:=(Co.1 hy).2;rw[e];simpa using this
   ·rw[Ab e];cases hb:D6 Prod.fst H.1 b with
    |none=>exact Gj.2 λy hy=>Gj.1 hb y (Co.1 hy).1
    |some y=>obtain⟨h1,h2⟩:=Fg hb;rw[<-h2];exact ax (h.asc.filter _) (Co.2 ⟨h1,by rw[h2];simpa using e⟩)
  refine⟨h.tree,h.asc.filter _,λy hy=>h.val y (Co.1 hy).1,λs=>?_,BY (C7 ..) h.len⟩;rw[h.link];unfold FJ Jw D5;simp only;rw[hf];by_cases e:s.1=a
  ·rw[Ac e,e,hx];simp;intro h0 h1;have Xs:x.2[s.2.toNat]?=some (x.2[s.2.toNat]'Af):=Al Af;have h3:=Gv _ (A6 Xs);rw[WD] at h3;rw[Xs,h3];rfl
  ·rw[Ab e]
 ·exact h
abbrev Mw(b bs bt:Nat):Bg:=(b,.cells (toArray [.pointer (some ⟨bs,0,none⟩),.pointer (some ⟨bt,0,none⟩)]) 234 (0,0))
structure HB(b bs bt:Nat)(H:HS)(ls lt lq:Ad):Prop where
 eq:lq=Mw b bs bt::(ls++lt)
 s:IsS bs H.1 ls
 t:Tr.IsT bt H.2 lt
def IsH(b:Nat)(H:HS)(lq:Ad):Prop:= ∃bs bt ls lt,HB b bs bt H ls lt lq
theorem HB.h{lt:Ad}(h:HB b bs bt H ls lt lq):Mw b bs bt∈lq:=by rw[h.eq];exact .head _
theorem HB.m1{lt:Ad}(h:HB b bs bt H ls lt lq): ∀c,c∈ls->c∈lq:=λc hc=>by rw[h.eq];exact .tail _ (Ai _ hc)
theorem HB.m2{lt:Ad}(h:HB b bs bt H ls lt lq): ∀c,c∈lt->c∈lq:=λc hc=>by rw[h.eq];exact .tail _ (Aa _ hc)
theorem InvH.small(h:InvH H n)(hn:n<=1000):H.1.length<=2000/\H.2.length<=1000/\Tr.SmallD H.2:=⟨by have:=h.len;omega,by have:=h.tree.len;omega,h.tree.small Af⟩
theorem YE(l:Ad):Fn prog 129 [] l λv l'=> ∃b,v= .pointer (some ⟨b,0,none⟩)/\ ∃lq,IsH b ([],[]) lq/\l'=lq++l:=by refine AO func129 ntmps129 λE=>?_;refine Aj ?_;refine AR (AA rfl rfl (new_any _)) ?_;rintro _ _ ⟨bs,rfl,ls,hs,rfl⟩;refine Aj ?_;refine AR (AA rfl rfl (Tr.new_any _)) ?_;rintro _ _ ⟨bt,rfl,lt,ht,rfl⟩;refine AQ λb=>?_;exact Bb (l':=(Mw b bs bt::(ls++lt))++l) (A8 (A:=Mw b bs bt::(lt++(ls++l))) []) ⟨b,rfl,_,⟨bs,bt,ls,lt,rfl,hs,ht⟩,rfl⟩
theorem K4(b bs bt:Nat)(l:Ad)(hm:Mw b bs bt∈l):Fn prog 114 [.pointer (some ⟨b,0,none⟩)] l λv l'=>v= .pointer (some ⟨bs,0,none⟩)/\l'=l:=by refine AO func114 ntmps114 λE=>?_;exact E4
theorem OX(b:Nat)(H:HS)(lq:Ad)(hq:IsH b H lq)(id n:Int)(G:Ad):
 Fn prog 139 [.pointer (some ⟨b,0,none⟩),.int .i64 id,.int .i64 n] (lq++G) λv l'=>v= .int .i64 (Hg H.1 id n).1/\ ∃DD,IsH b ((Hg H.1 id n).2,H.2) DD/\l'=DD++G:=by
 obtain⟨bs,bt,ls,lt,rfl,hs,ht⟩:=hq;refine AO func139 ntmps139 λE=>?_;simp only[Ae,Am];refine Aj ?_;refine Be (AL rfl rfl λl2 hl=>K4 b bs bt l2 (hl _ (.head _))) ?_;refine Aj ?_;refine AR (Dn rfl rfl (Fn.mvP (λA=>Mw b bs bt::(A++(lt++G))) (add_any bs H.1 ls hs id n (Mw b bs bt::(lt++G))))) ?_;rintro _ _ ⟨rfl,ls',hs',rfl⟩;refine Aj ?_;exact Bb (l':=(Mw b bs bt::(ls'++lt))++G) (.of_perm (.of_eq (by simp))) ⟨rfl,_,⟨bs,bt,ls',lt,rfl,hs',ht⟩,rfl⟩
theorem Jh(b:Nat)(H:HS)(lq:Ad)(hq:IsH b H lq)(s:Ck)(l:Ad)(CE: ∀c,c∈lq->c∈l):
 Fn prog 165 [.pointer (some ⟨b,0,none⟩),.agg (toArray (Ct s))] l λv l'=>v= .tuple #[.agg (toArray (B9 (getD' H.1 s).1)),.int .i64 (getD' H.1 s).2]/\l'=l:=by
 obtain⟨bs,bt,ls,lt,hb⟩:=hq;refine AO func165 ntmps165 λE=>?_;refine AQ λb3=>?_;refine AQ λb4=>?_;refine Cn [6] 8 (Dv b3 s::l) ?_;refine BS ?_;refine Z3 (AL rfl rfl λl2 hl=>K4 b bs bt l2 (hl _ (.tail _ (CE _ hb.h)))) rfl rfl rfl ?_;refine BS ?_;refine Z3 (AL rfl rfl λl2 hl=>get_any bs H.1 ls hb.s s l2 λc hc=>hl _ (.tail _ (CE _ (hb.m1 c hc)))) rfl rfl rfl ?_;refine BS ?_;refine Aj ?_;exact CM (l':=l) (Bv b4 (getD' H.1 s).1::Dv b3 s::l) .refl (.drop (.drop .refl)) ⟨rfl,rfl⟩
def VL(D:SD)(a c:Ck):Int:=if(getD' D a).2=0 then(getD' D c).2 else(getD' D a).2
theorem OY(b:Nat)(H:HS)(lq:Ad)(hq:IsH b H lq)(a c:Ck)(l:Ad)(CE: ∀c,c∈lq->c∈l):
 Fn prog 249 [.pointer (some ⟨b,0,none⟩),.agg (toArray (Ct a)),.agg (toArray (Ct c))] l λv l'=>v= .tuple #[.agg (toArray (B9 (getD' H.1 a).1)),.agg (toArray (B9 (getD' H.1 c).1)),.int .i64 (VL H.1 a c)]/\l'=l:=by
 refine AO func249 ntmps249 λE=>?_;refine AQ λb4=>?_;refine AQ λb5=>?_;refine AQ λb6=>?_;refine AQ λb7=>?_;refine Be (AL rfl rfl λl2 hl=>Jh b H lq hq a l2 λc hc=>hl c (.tail _ (.tail _ (.tail _ (.tail _ (CE c hc)))))) ?_;refine AQ λb9=>?_;refine Be (AL rfl rfl λl2 hl=>Jh b H lq hq c l2 λc hc=>hl c (.tail _ (.tail _ (.tail _ (.tail _ (.tail _ (CE c hc))))))) ?_;refine AQ λLT=>?_;unfold VL;by_cases h:(getD' H.1 a).2=0
 case' pos=>rw[Ac h]
 case' neg=>rw[Ab h]
 all_goals
  refine Aj ?_;refine Cn [3,4] 6 ([Bv LT (getD' H.1 c).1,Bv b9 (getD' H.1 a).1]) ?_;refine BS ?_;refine Aj ?_;exact CM (l':=l) (Bv b7 (getD' H.1 c).1::Bv b6 (getD' H.1 a).1::l) (.drop (.drop (.pick .here (.pick .here (.drop (.drop .refl)))))) (.drop (.drop .refl)) ⟨rfl,rfl⟩
theorem VM(b:Nat)(H:HS)(lq:Ad)(hq:IsH b H lq)(hn:H.1.length<=2000)(l:Ad)(CE: ∀c,c∈lq->c∈l):
 Fn prog 74 [.pointer (some ⟨b,0,none⟩)] l λv l'=> ∃cs,OwnSl 131 10 v (DY H.1).length (Og (DY H.1)) cs/\l'=cs++l:=by
 obtain⟨bs,bt,ls,lt,hb⟩:=hq;refine AO func74 ntmps74 λE=>?_;refine Aj ?_;refine Be (AL rfl rfl λl2 hl=>K4 b bs bt l2 (hl _ (CE _ hb.h))) ?_;refine Aj ?_;refine AR (AA rfl rfl (all_any bs H.1 ls hb.s Af _ λc hc=>CE _ (hb.m1 c hc))) ?_;rintro v _ ⟨cs,ho,rfl⟩;refine Aj ?_;refine Bb (l':=cs++l) .refl ?_;exact⟨cs,ho,rfl⟩
theorem gI(b:Nat)(H:HS)(lq:Ad)(hq:IsH b H lq)(hn:H.2.length<=1000)(l:Ad)(CE: ∀c,c∈lq->c∈l):
 Fn prog 75 [.pointer (some ⟨b,0,none⟩)] l λv l'=> ∃cs,OwnSl 129 3 v H.2.length (Tr.ncs H.2) cs/\l'=cs++l:=by
 obtain⟨bs,bt,ls,lt,hb⟩:=hq;have hm:=CE _ hb.h;refine AO func75 ntmps75 λE=>?_;refine Aj ?_;refine AR (AA rfl rfl (Tr.all_any bt H.2 lt hb.t Af _ λc hc=>CE _ (hb.m2 c hc))) ?_;rintro v _ ⟨cs,ho,rfl⟩;refine Aj ?_;refine Bb (l':=cs++l) .refl ?_;exact⟨cs,ho,rfl⟩
theorem AaE:(FJ D s=true/\getD' D s=(D5 D s,0))\/(FJ D s=false/\getD' D s=(CI,3)):=by
 unfold getD';cases FJ D s with
 |false=>exact .inr ⟨rfl,rfl⟩
 |true=>exact .inl ⟨rfl,rfl⟩
theorem LK(h:FJ D s=true):getD' D s=(D5 D s,0):=by unfold getD';rw[h];rfl
theorem VN(h:FJ D s=false):getD' D s=(CI,3):=by unfold getD';rw[h];rfl
theorem WM{c:Ck}(ha:FJ D a=true)(hc:FJ D c=true):VL D a c=0:=by unfold VL;rw[LK ha,LK hc];rfl
theorem WN{c:Ck}(h:FJ D a=false\/FJ D c=false):VL D a c=3:=by
 unfold VL;rcases h with h|h
 ·rw[VN h];rfl
 ·rw[VN h];split
  ·rfl
  ·rename_i h2;rcases AaE (D:=D) (s:=a) with⟨_,h3⟩|⟨_,h3⟩
   ·rw[h3] at h2;exact absurd rfl h2
   ·rw[h3]
theorem dE{c:Ck}(h:¬(FJ D a=false\/FJ D c=false)):FJ D a=true/\FJ D c=true:=by cases h1:FJ D a<;>cases h2:FJ D c<;>simp_all
theorem F0(b:Nat)(H:HS)(n:Nat)(hI:InvH H n)(lq:Ad)(hq:IsH b H lq)(s:Ck)(c:CapT)(G:Ad):
 Fn prog 144 [.pointer (some ⟨b,0,none⟩),.agg (toArray (Ct s)),.agg (toArray (B9 c))] (lq++G) λv l'=>v= .int .i64 (Gm H s c).1/\ ∃DD,IsH b (Gm H s c).2 DD/\l'=DD++G:=by
 have MJ:=hq;refine AO func144 ntmps144 λE=>?_;refine AQ λb4=>?_;refine AQ λb5=>?_;refine Be (AL rfl rfl λl2 hl=>Jh b H lq hq s l2 λc hc=>hl c (.tail _ (.tail _ (Ai _ hc)))) ?_;have Ke: ∀(d:CapT) (B:Nat),Keep (Bv B d::Bv b5 c::Dv b4 s::(lq++G)) (lq++G):=λ_ _=> .drop (.drop (.drop .refl));cases Dm:FJ H.1 s with
 |false=>rw[VN Dm,show Gm H s c=(3,H) by unfold Gm;rw[Ac Dm]];refine AQ λb7=>?_;exact Bb (Ke _ _) ⟨rfl,_,MJ,rfl⟩
 |true=>
 rw[LK Dm];have e0:Gm H s c=if LH c=false then(5,H) else if(D5 H.1 s).kind≠0 then(11,H) else(0,(Gn H.1 s c,(Tr.rootD H.2 s).2)):=by unfold Gm;rw[Ab (by rw[Dm];decide)]
 rw[e0];refine AQ λb7=>?_;refine Be (AL rfl rfl λl2 hl=>Io c l2) ?_;cases hm:FD c with
 |false=>rw[Ac (by unfold LH;rw[hm];rfl)];refine Aj ?_;exact Bb (Ke _ _) ⟨rfl,_,MJ,rfl⟩
 |true=>
 by_cases hk:c.kind=0
 ·rw[Ac (by unfold LH;rw[Av hk,hm];rfl)];refine Aj ?_;exact Bb (Ke _ _) ⟨rfl,_,MJ,rfl⟩
 rw[Ab (by unfold LH;rw[Ax hk,hm];decide)];by_cases hw:(D5 H.1 s).kind≠0
 ·rw[Ac hw];refine Aj ?_;exact Bb (Ke _ _) ⟨rfl,_,MJ,rfl⟩
 rw[Ab hw];obtain⟨bs,bt,ls,lt,rfl,hs,ht⟩:=hq;have cK:=(YC (t:=s) (hI.no (by simpa using hw))).1;have H1:=Fn.mvP (λA=>Bv b7 (D5 H.1 s)::Bv b5 c::Dv b4 s::Mw b bs bt::(A++(lt++G))) (set_any bs H.1 ls hs s c (Bv b7 (D5 H.1 s)::Bv b5 c::Dv b4 s::Mw b bs bt::(lt++G)));have H2:=λls=>Fn.mvP (λA=>Bv b7 (D5 H.1 s)::Bv b5 c::Dv b4 s::Mw b bs bt::(ls++(A++G))) (Tr.root_any bt H.2 lt ht s (Bv b7 (D5 H.1 s)::Bv b5 c::Dv b4 s::Mw b bs bt::(ls++G)));rw[K3 Dm hm] at H1;rw[cK] at H2;simp only[Ae,Am];refine Aj ?_;refine Cn [6] 7 ([Bv b5 c,Dv b4 s,Mw b bs bt]) ?_;refine BS ?_;apply CS
 ·exact Dn rfl rfl H1
 ·rfl
 ·rfl
 ·rfl
 ·rintro _ _ ⟨_,ls',_,rfl⟩;exact UM
 rintro _ _ ⟨rfl,ls',hs',rfl⟩;refine BS ?_;refine Aj ?_;refine Cn [5] 7 ([Dv b4 s,Mw b bs bt]) ?_;refine BS ?_;apply CS
 ·exact Dn rfl rfl (H2 ls')
 ·rfl
 ·rfl
 ·rfl
 ·rintro _ _ ⟨_,lt',_,rfl⟩;exact UM
 rintro _ _ ⟨rfl,lt',ht',rfl⟩;refine BS ?_;refine Aj ?_;exact Bb (l':=(Mw b bs bt::(ls'++lt'))++G) (.drop (.drop (.drop (.of_perm (.of_eq (by simp)))))) ⟨rfl,_,⟨bs,bt,ls',lt',rfl,hs',ht'⟩,rfl⟩
theorem TS(b:Nat)(H:HS)(n:Nat)(hI:InvH H n)(hn:n<=1000)(lq:Ad)(hq:IsH b H lq)(p s:Ck)(c:CapT)(G:Ad):
 Fn prog 250 [.pointer (some ⟨b,0,none⟩),.agg (toArray (Ct p)),.agg (toArray (Ct s)),.agg (toArray (B9 c))] (lq++G) λv l'=>v= .int .i64 (ID H p s c).1/\ ∃DD,IsH b (ID H p s c).2 DD/\l'=DD++G:=by
 have MJ:=hq;refine AO func250 ntmps250 λE=>?_;refine AQ λb5=>?_;refine AQ λb6=>?_;refine AQ λb7=>?_;refine Be (AL rfl rfl λl2 hl=>OY b H lq hq p s l2 λc hc=>hl c (.tail _ (.tail _ (.tail _ (Ai _ hc))))) ?_;have Ke: ∀(d e:CapT) (B C:Nat),Keep (Bv B d::Bv C e::Bv b7 c::Dv b6 s::Dv b5 p::(lq++G)) (lq++G):=λ_ _ _ _=> .drop (.drop (.drop (.drop (.drop .refl))));by_cases Dm:FJ H.1 p=false\/FJ H.1 s=false
 ·rw[WN Dm,show ID H p s c=(3,H) by unfold ID;rw[Ac Dm]];refine Aj ?_;refine AR e_alloc ?_;rintro _ _ ⟨b9,_,rfl,rfl⟩;refine AQ λGX=>?_;exact Bb (Ke _ _ _ _) ⟨rfl,_,MJ,rfl⟩
 obtain⟨okp,oks⟩:=dE Dm;rw[WM okp oks,LK okp,LK oks];have e0:ID H p s c=if LH c=false then(5,H) else if(D5 H.1 p).kind=0 then(10,H) else if(D5 H.1 s).kind≠0 then(11,H) else(0,(Gn H.1 s c,(Tr.childD H.2 p s).2)):=by unfold ID;rw[Ab Dm]
 rw[e0];refine Aj ?_;refine AR e_alloc ?_;rintro _ _ ⟨b9,_,rfl,rfl⟩;refine AQ λGX=>?_;refine Be (AL rfl rfl λl2 hl=>Io c l2) ?_;cases hm:FD c with
 |false=>rw[Ac (by unfold LH;rw[hm];rfl)];refine Aj ?_;exact Bb (Ke _ _ _ _) ⟨rfl,_,MJ,rfl⟩
 |true=>
 by_cases hk:c.kind=0
 ·rw[Ac (by unfold LH;rw[Av hk,hm];rfl)];refine Aj ?_;exact Bb (Ke _ _ _ _) ⟨rfl,_,MJ,rfl⟩
 rw[Ab (by unfold LH;rw[Ax hk,hm];decide)];by_cases hp:(D5 H.1 p).kind=0
 ·rw[Ac hp];refine Aj ?_;exact Bb (Ke _ _ _ _) ⟨rfl,_,MJ,rfl⟩
 rw[Ab hp];by_cases hw:(D5 H.1 s).kind≠0
 ·rw[Ac hw];refine Aj ?_;exact Bb (Ke _ _ _ _) ⟨rfl,_,MJ,rfl⟩
 rw[Ab hw];obtain⟨bs,bt,ls,lt,rfl,hs,ht⟩:=hq;have cK:=(VK (t:=s) ((hI.link p).2 ⟨okp,hp⟩) (hI.no (by simpa using hw))).1;obtain⟨X,hX⟩: ∃X,X=[Bv GX (D5 H.1 s),Bv b9 (D5 H.1 p),Bv b7 c,Dv b6 s,Dv b5 p,Mw b bs bt]:=⟨_,rfl⟩
 have H1:=Fn.mvP (λA=>X++(A++(lt++G))) (set_any bs H.1 ls hs s c (X++(lt++G)));have H2:=λls=>Fn.mvP (λA=>X++(ls++(A++G))) (Tr.child_any bt H.2 lt ht (hI.small hn).2.2 p s (X++(ls++G)));rw[K3 oks hm] at H1;rw[cK] at H2;rw[hX] at H1 H2;simp only[Ae,Am,Ag] at H1 H2⊢;refine Aj ?_;refine Cn [6] 7 ([Bv b7 c,Dv b6 s,Mw b bs bt]) ?_;refine BS ?_;apply CS
 ·exact Dn rfl rfl H1
 ·rfl
 ·rfl
 ·rfl
 ·rintro _ _ ⟨_,ls',_,rfl⟩;exact UM
 rintro _ _ ⟨rfl,ls',hs',rfl⟩;refine BS ?_;refine Aj ?_;refine Cn [6] 8 ([Dv b6 s,Dv b5 p,Mw b bs bt]) ?_;refine BS ?_;apply CS
 ·exact Dn rfl rfl (H2 ls')
 ·rfl
 ·rfl
 ·rfl
 ·rintro _ _ ⟨_,lt',_,rfl⟩;exact UM
 rintro _ _ ⟨rfl,lt',ht',rfl⟩;refine BS ?_;refine Aj ?_;exact Bb (l':=(Mw b bs bt::(ls'++lt'))++G) (.drop (.drop (.drop (.drop (.drop (.of_perm (.of_eq (by simp)))))))) ⟨rfl,_,⟨bs,bt,ls',lt',rfl,hs',ht'⟩,rfl⟩
theorem gJ{a:CapT}(h:IC a c=true):FD c=true:=by unfold IC at h;simp only[AW] at h;exact h.1.1.1.2
theorem Qk(b:Nat)(H:HS)(n:Nat)(hI:InvH H n)(hn:n<=1000)(lq:Ad)(hq:IsH b H lq)(a c:Ck)(gf:Nat)[EN prog gf](cs:Ap)(r:CapT->CapT×Int)(hr: ∀d,Jg d->Jg (r d).1)(X:Ad)
 (hf: ∀d l2,Jg d->(∀x,x∈X->x∈l2)->Fn prog gf ([.agg (toArray (B9 d))]++cs) l2 λv l'=>v= .tuple #[.agg (toArray (B9 (r d).1)),.int .i64 (r d).2]/\l'=l2)(G:Ad)(hX: ∀x,x∈X->x∈G):
 Fn prog 188 [.pointer (some ⟨b,0,none⟩),.agg (toArray (Ct a)),.agg (toArray (Ct c)),.func (.func gf) #[] (toArray cs)] (lq++G) λv l'=>v= .int .i64 (Gp H a c (r (D5 H.1 a))).1/\ ∃DD,IsH b (Gp H a c (r (D5 H.1 a))).2 DD/\l'=DD++G:=by
 refine AO func188 ntmps188 λE=>?_;refine AQ λb5=>?_;refine AQ λb6=>?_;refine Be (AL rfl rfl λl2 hl=>OY b H lq hq a c l2 λc hc=>hl c (.tail _ (.tail _ (Ai _ hc)))) ?_;have Ke: ∀(d e:CapT) (B C:Nat),Keep (Bv B d::Bv C e::Dv b6 c::Dv b5 a::(lq++G)) (lq++G):=λ_ _ _ _=> .drop (.drop (.drop (.drop .refl)));by_cases Dm:FJ H.1 a=false\/FJ H.1 c=false
 ·rw[WN Dm];have e1:HA H a c=3:=by unfold HA;rw[Ac Dm]
  rw[show Gp H a c (r (D5 H.1 a))=(3,H) by unfold Gp;rw[Ac (by rw[e1];decide),e1]];refine Aj ?_;refine AR e_alloc ?_;rintro _ _ ⟨b9,_,rfl,rfl⟩;refine AQ λGX=>?_;exact Bb (Ke _ _ _ _) ⟨rfl,_,hq,rfl⟩
 obtain⟨jK,okc⟩:=dE Dm;rw[WM jK okc,LK jK,LK okc];refine Aj ?_;refine AR e_alloc ?_;rintro _ _ ⟨b9,_,rfl,rfl⟩;refine AQ λGX=>?_;by_cases hp:(D5 H.1 a).kind=0
 ·have e1:HA H a c=10:=by unfold HA;rw[Ab Dm,Ac hp]
  rw[show Gp H a c (r (D5 H.1 a))=(10,H) by unfold Gp;rw[Ac (by rw[e1];decide),e1]];refine Aj ?_;exact Bb (Ke _ _ _ _) ⟨rfl,_,hq,rfl⟩
 by_cases hw:(D5 H.1 c).kind≠0
 ·have e1:HA H a c=11:=by unfold HA;rw[Ab Dm,Ab hp,Ac hw]
  rw[show Gp H a c (r (D5 H.1 a))=(11,H) by unfold Gp;rw[Ac (by rw[e1];decide),e1]];refine Aj ?_;exact Bb (Ke _ _ _ _) ⟨rfl,_,hq,rfl⟩
 have e1:HA H a c=0:=by unfold HA;rw[Ab Dm,Ab hp,Ab hw]
 have hwa:=(hI.at a).2;have hwr:=hr _ hwa;refine Aj ?_;refine Be (FI rfl rfl λl2 hl=>by simpa using hf (D5 H.1 a) l2 hwa λx hx=>hl x (.tail _ (.tail _ (.tail _ (.tail _ (Aa _ (hX x hx))))))) ?_;by_cases he:(r (D5 H.1 a)).2≠0
 ·rw[show Gp H a c (r (D5 H.1 a))=((r (D5 H.1 a)).2,H) by unfold Gp;rw[Ab (by rw[e1];decide),Ac he]];refine AQ λSP=>?_;exact Bb (.drop (Ke _ _ _ _)) ⟨rfl,_,hq,rfl⟩
 have yl:(r (D5 H.1 a)).2=0:=by simpa using he
 rw[show Gp H a c (r (D5 H.1 a))=ID H a c (r (D5 H.1 a)).1 by unfold Gp;rw[Ab (by rw[e1];decide),Ab he]];rw[yl];refine AQ λSP=>?_;refine AR (Dn rfl rfl (Fn.mvP (λA=>Bv SP (r (D5 H.1 a)).1::Bv GX (D5 H.1 c)::Bv b9 (D5 H.1 a)::Dv b6 c::Dv b5 a::(A++G)) (TS b H n hI hn lq hq a c (r (D5 H.1 a)).1 (Bv SP (r (D5 H.1 a)).1::Bv GX (D5 H.1 c)::Bv b9 (D5 H.1 a)::Dv b6 c::Dv b5 a::G)))) ?_;rintro _ _ ⟨rfl,DD,hq',rfl⟩;refine Aj ?_;exact Bb (l':=DD++G) (.drop (.drop (.drop (.drop (.drop .refl))))) ⟨rfl,_,hq',rfl⟩
theorem aA(c:CapT)(hw:Jg c)(b1:Nat)(DC:Int)(l:Ad)(hm:GA b1 DC∈l):
 Fn prog 189 ([.agg (toArray (B9 c))]++[.pointer (some ⟨b1,0,none⟩)]) l λv l'=>v= .tuple #[.agg (toArray (B9 (Eo c DC).1)),.int .i64 (Eo c DC).2]/\l'=l:=by
 rw[show[Value.agg (toArray (B9 c))]++[.pointer (some ⟨b1,0,none⟩)]=[.agg (toArray (B9 c)),.pointer (some ⟨b1,0,none⟩)] from rfl];refine AO func189 ntmps189 λE=>?_;refine Aj ?_
 (first|refine AR (Ex rfl rfl) ?_|refine AR (C4 rfl) ?_);rintro _ _ ⟨b2,_,rfl,rfl⟩
 have UL:GA b1 DC∈Bv b2 c::l:= .tail _ hm;refine Aj ?_;refine AR e_alloc ?_;rintro _ _ ⟨b3,_,rfl,rfl⟩;have jL:GA b1 DC∈Bv b3 CI::Bv b2 c::l:= .tail _ (.tail _ hm);refine Aj ?_;refine Be (AL rfl rfl λl2 hl=>Of c hw DC l2) ?_;refine Aj ?_;exact CM (l':=l) (Bv b3 (Eo c DC).1::Bv b2 c::l) .refl (.drop (.drop .refl)) ⟨rfl,rfl⟩
theorem aB(c:CapT)(hw:Jg c)(b1 b2:Nat)(DC:Int)(Ew:Nat)(hd:Ew<18446744073709551616)(l:Ad)(hm:GA b1 DC∈l)(ji:Q9 b2 Ew∈l):
 Fn prog 195 ([.agg (toArray (B9 c))]++[.pointer (some ⟨b1,0,none⟩),.pointer (some ⟨b2,0,none⟩)]) l λv l'=>v= .tuple #[.agg (toArray (B9 (Hy c DC Ew).1)),.int .i64 (Hy c DC Ew).2]/\l'=l:=by
 rw[show[Value.agg (toArray (B9 c))]++[.pointer (some ⟨b1,0,none⟩),.pointer (some ⟨b2,0,none⟩)]=[.agg (toArray (B9 c)),.pointer (some ⟨b1,0,none⟩),.pointer (some ⟨b2,0,none⟩)] from rfl];refine AO func195 ntmps195 λE=>?_;refine AQ λb3=>?_;refine AR e_alloc ?_;rintro _ _ ⟨b4,_,rfl,rfl⟩;have jL:GA b1 DC∈Bv b4 CI::Bv b3 c::l:= .tail _ (.tail _ hm);have zl:Q9 b2 Ew∈Bv b4 CI::Bv b3 c::l:= .tail _ (.tail _ ji);refine Aj ?_;refine Be (AL rfl rfl λl2 hl=>ld c hw DC Ew hd l2) ?_;refine Aj ?_;exact CM (l':=l) (Bv b4 (Hy c DC Ew).1::Bv b3 c::l) .refl (.drop (.drop .refl)) ⟨rfl,rfl⟩
theorem Mx(b:Nat)(H:HS)(n:Nat)(hI:InvH H n)(hn:n<=1000)(lq:Ad)(hq:IsH b H lq)(a c:Ck)(DC:Int)(G:Ad):
 Fn prog 145 [.pointer (some ⟨b,0,none⟩),.agg (toArray (Ct a)),.agg (toArray (Ct c)),.int .i64 DC] (lq++G) λv l'=>v= .int .i64 (Gp H a c (Eo (D5 H.1 a) DC)).1/\ ∃DD,IsH b (Gp H a c (Eo (D5 H.1 a) DC)).2 DD/\l'=DD++G:=by
 refine AO func145 ntmps145 λE=>?_;refine AQ λb5=>?_;refine AQ λb6=>?_;refine AQ λb7=>?_;refine AR (Dn (vs:=[.pointer (some ⟨b,0,none⟩),.agg (toArray (Ct a)),.agg (toArray (Ct c)),.func (.func 189) #[] (toArray [.pointer (some ⟨b7,0,none⟩)])]) rfl rfl (Fn.mvP (λA=>GA b7 DC::Dv b6 c::Dv b5 a::(A++G)) (Qk b H n hI hn lq hq a c 189 [.pointer (some ⟨b7,0,none⟩)] (λd=>Eo d DC) (λd h=>Oe h DC) [GA b7 DC] (λd l2 hd hx=>aA d hd b7 DC l2 (hx _ (.head _))) (GA b7 DC::Dv b6 c::Dv b5 a::G) (C5 (.head _))))) ?_;rintro _ _ ⟨rfl,DD,hq',rfl⟩;refine Aj ?_;exact Bb (l':=DD++G) (.drop (.drop (.drop .refl))) ⟨rfl,_,hq',rfl⟩
theorem Rd(b:Nat)(H:HS)(n:Nat)(hI:InvH H n)(hn:n<=1000)(lq:Ad)(hq:IsH b H lq)(a c:Ck)(DC:Int)(Ew:Nat)(hd:Ew<18446744073709551616)(G:Ad):
 Fn prog 149 [.pointer (some ⟨b,0,none⟩),.agg (toArray (Ct a)),.agg (toArray (Ct c)),.int .i64 DC,.int .u64 (Ew:Nat)] (lq++G) λv l'=>v= .int .i64 (Gp H a c (Hy (D5 H.1 a) DC Ew)).1/\ ∃DD,IsH b (Gp H a c (Hy (D5 H.1 a) DC Ew)).2 DD/\l'=DD++G:=by
 refine AO func149 ntmps149 λE=>?_;refine AQ λb5=>?_;refine AQ λb6=>?_;refine AQ λb7=>?_;refine AQ λb8=>?_;refine AR (Dn (vs:=[.pointer (some ⟨b,0,none⟩),.agg (toArray (Ct a)),.agg (toArray (Ct c)),.func (.func 195) #[] (toArray [.pointer (some ⟨b7,0,none⟩),.pointer (some ⟨b8,0,none⟩)])]) rfl rfl (Fn.mvP (λA=>Q9 b8 Ew::GA b7 DC::Dv b6 c::Dv b5 a::(A++G)) (Qk b H n hI hn lq hq a c 195 [.pointer (some ⟨b7,0,none⟩),.pointer (some ⟨b8,0,none⟩)] (λd=>Hy d DC Ew) (λd h=>TG h DC Ew) [GA b7 DC,Q9 b8 Ew] (λd l2 hd2 hx=>aB d hd2 b7 b8 DC Ew hd l2 (hx _ (.head _)) (hx _ (.tail _ (.head _)))) (Q9 b8 Ew::GA b7 DC::Dv b6 c::Dv b5 a::G) (λx hx=>by
  rcases At.1 hx with rfl|hx
  ·exact .tail _ (.head _)
  ·rw[AE.1 hx];exact .head _)))) ?_
 rintro _ _ ⟨rfl,DD,hq',rfl⟩;refine Aj ?_;exact Bb (l':=DD++G) (.drop (.drop (.drop (.drop .refl)))) ⟨rfl,_,hq',rfl⟩
end Go.Proofs.YtlifcingifodfaaGreat
