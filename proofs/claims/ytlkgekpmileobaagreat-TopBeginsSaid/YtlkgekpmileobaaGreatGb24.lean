/- Laws that the statement's proof leans on (joined out of several texts). -/
import Derived.Test.YtlkgekpmileobaaGreatGb8
import Derived.Test.YtlkgekpmileobaaGreatGb23
import Derived.Test.YtlkgekpmileobaaGreatGb10
import Derived.Test.YtlkgekpmileobaaGreatGb20
set_option linter.unusedVariables false
set_option linter.unusedSimpArgs false
namespace Go.Proofs.YtlkgekpmileobaaGreat.En
open Tryz
open List(toArray)
open Go.RowKit
set_option maxRecDepth 20000
variable{r:Row}{A B rows:List Row}{b m clock:Nat}{lq:List Ab}{t:Int}
section
variable{ro:Option Nat}{N:Nat}{fr:Fr}{d:Option Nat}{ty:TypeId}{pos:String}{aft:Array Edge}{g:Option (Nat×Bool)}
theorem fg{s x:Operand}{v:Value}{xs:List Int}{id:Int}{X cs F:List Ab}{bl:Nat}(hx:ev fr s=some v)(hy:ev fr x=some (.slice (some ⟨bl,0,none⟩) 1 1))(hown:OwnSl 3 1 v xs.length (xs.map CA) cs)(hlen:xs.length<=1000000):
 OpE prog ro N fr ((bl,.cells (toArray [.int .i64 id]) 3 (0,0))::(X++(cs++F))) ⟨d,.call {callee:= .builtin .append,args:=#[s,x],argTypes:=#[40,40]},ty,pos,aft,g⟩
  (λv' l'=> ∃c2,OwnSl 3 1 v' (xs++[id]).length ((xs++[id]).map CA) c2/\l'=X++(c2++F)):=by
 have hpm:((bl,Obj.cells (toArray [.int .i64 id]) 3 (0,0))::(X++(cs++F))).Perm (cs++(((bl,Obj.cells (toArray [.int .i64 id]) 3 (0,0))::X)++F)):=
  Ay ((bl,Obj.cells (toArray [.int .i64 id]) 3 (0,0))::X) cs F
 refine OpE.re (Keep.of_perm hpm) (Gk (k:=1) (yb:=8) (m:=1) (xs:=xs.map CA) (news:=[.int .i64 id]) (zs:=[.int .i64 0]) hx hy rfl hown (Aa _ Ak) (λj u hj=>by simpa using hj) rfl (by simp[Value.oneCell']) (by unfold maxLen;omega) Af) ?_;rintro v' _ ⟨c2,ho,rfl⟩;exact⟨_,Keep.trans (Keep.of_perm (Ay c2 ((bl,Obj.cells (toArray [.int .i64 id]) 3 (0,0))::X) F)) (.drop .refl),c2,by rw[Ah,Ap];exact ho,rfl⟩
end
theorem LE(A B:List Row)(r:Row)(x y:Ab):(x::y::(A++r::B).flatMap Row.ch).Perm (r.bl::(r.cs++(x::y::(A.flatMap Row.ch++B.flatMap Row.ch)))):=by rw[DL,Cm];have p1:(A.flatMap Row.ch++(r.ch++B.flatMap Row.ch)).Perm (r.bl::(r.cs++(A.flatMap Row.ch++B.flatMap Row.ch))):=Ay (A.flatMap Row.ch) r.ch (B.flatMap Row.ch);refine((p1.cons _).cons _).trans ?_;refine(Ay [x,y] [r.bl] (r.cs++(A.flatMap Row.ch++B.flatMap Row.ch))).trans (List.Perm.cons _ ?_);exact Ay [x,y] r.cs _
abbrev RA(b m clock:Nat)(es:List Kl)(A B:List Row):List Ab:=Pd b m::(m,Fh .i64 es clock)::(A.flatMap Row.ch++B.flatMap Row.ch)
theorem EB.focus(h:EB b (A++r::B) m clock lq):lq.Perm (r.bl::(r.cs++RA b m clock ((A++r::B).map Row.ent) A B)):=by rw[h.eq];exact LE A B r _ _
theorem EB.put(h:EB b (A++r::B) m clock lq)(xs:List Int)(s:Bool)(v:Value)(c2:List Ab)(ho:OwnSl 3 1 v xs.length (xs.map CA) c2):
 EB b (A++⟨r.id,xs,s,r.pb,v,c2,r.st⟩::B) m clock (Pd b m::(m,Fh .i64 ((A++r::B).map Row.ent) clock)::(A++⟨r.id,xs,s,r.pb,v,c2,r.st⟩::B).flatMap Row.ch):=by
 have e1:(A++⟨r.id,xs,s,r.pb,v,c2,r.st⟩::B).map Row.ent=(A++r::B).map Row.ent:=by simp[Row.ent]
 have e2:(A++⟨r.id,xs,s,r.pb,v,c2,r.st⟩::B).map Row.st=(A++r::B).map Row.st:=by simp
 have e3:(A++⟨r.id,xs,s,r.pb,v,c2,r.st⟩::B).map Row.id=(A++r::B).map Row.id:=by simp
 refine⟨by rw[e1],λx hx=>?_,λx hx=>?_,by rw[e2];exact h.nd,by rw[e3];exact h.ids⟩
 ·rcases AF.1 hx with hx|hx
  ·exact h.own x (Ai _ hx)
  ·rcases Aq.1 hx with rfl|hx
   ·exact ho
   ·exact h.own x (Aa _ (.tail _ hx))
 ·rcases AF.1 hx with hx|hx
  ·exact h.st x (Ai _ hx)
  ·rcases Aq.1 hx with rfl|hx
   ·exact h.st r (Aa _ (.head _))
   ·exact h.st x (Aa _ (.tail _ hx))
def updD(D:DE)(id:Int)(y:List Int×Bool):DE:=D.map λx=>if x.1=id then(x.1,y) else x
theorem RB(hA: ∀x,x∈A->x.id≠r.id)(hB: ∀x,x∈B->x.id≠r.id)(xs:List Int)(s:Bool)(v:Value)(c2:List Ab):updD ((A++r::B).map Row.d) r.id (xs,s)=(A++⟨r.id,xs,s,r.pb,v,c2,r.st⟩::B).map Row.d:=by
 have key: ∀(L:List Row),(∀x,x∈L->x.id≠r.id)->(L.map Row.d).map (λx=>if x.1=r.id then(x.1,(xs,s)) else x)=L.map Row.d:=λL hL=>by rw[CD];apply Bt;intro x hx;simp[Row.d,hL x hx]
 unfold updD;rw[Ap,Ap,AJ,AJ,key A hA,key B hB,Ap,AJ];simp[Row.d]
def jK(D:DE)(t:Int):Bool:=D.any λx=>decide (t∈x.2.1)
def waitD(D:DE)(id t:Int)(s:Bool):Int×DE:=match findD D id with
 |none=>(2,D)
 |some x=>if t<1 then(2,D) else if jK D t=true then(16,D) else if 0<x.1.length/\(!(x.2==s))=true then(16,D) else(0,updD D id (x.1++[t],s))
def removeD(D:DE)(t:Int):Bool×DE:=match D.find? λx=>decide (t∈x.2.1) with
 |none=>(false,D)
 |some x=>(true,updD D x.1 (x.2.1.eraseIdx (x.2.1.idxOf t),x.2.2))
theorem TE:jK (rows.map Row.d) t=true<-> ∃r,r∈rows/\t∈r.th:=by
 unfold jK;rw[GU];constructor
 ·rintro⟨x,hx,h⟩;rw[Au] at hx;obtain⟨r,hr,rfl⟩:=hx;exact⟨r,hr,Ey h⟩
 ·rintro⟨r,hr,h⟩;exact⟨r.d,Au.2 ⟨r,hr,rfl⟩,At h⟩
set_option maxHeartbeats 400000
theorem wait_any(b:Nat)(D:DE)(lq:List Ab)(id t:Int)(s:Bool)(hq:IsE b D lq)(hn: ∀x,x∈D->x.2.1.length<=1000000)(F:List Ab):
 Fn prog 265 [.pointer (some ⟨b,0,none⟩),.int .i64 id,.int .i64 t,.bool s] (lq++F) λv l'=>v= .int .i64 (waitD D id t s).1/\ ∃lq',IsE b (waitD D id t s).2 lq'/\l'=lq'++F:=by
 obtain⟨rows,m,clock,rfl,hE⟩:=hq;have hm1:Pd b m∈lq++F:=Ai _ hE.m1;have hm2:(m,Fh .i64 (rows.map Row.ent) clock)∈lq++F:=Ai _ hE.m2;have hth: ∀r,r∈rows->r.th.length<=1000000:=λr hr=>hn r.d (Au.2 ⟨r,hr,rfl⟩);refine AO func265 ntmps265 λE=>?_;refine Hj λb8=>?_;by_cases h1: ∃r,r∈rows/\r.id=id
 ·obtain⟨r,hr,rfl⟩:=h1;have hg:=Nc hE.ids hr;have hfd:=JO hE.ids hr;rw[hg];by_cases ht1:t<1
  ·rw[show waitD (rows.map Row.d) r.id t s=(2,rows.map Row.d) by unfold waitD;rw[hfd];simp only;rw[Ae ht1]];refine gz ?_;exact AU [] ((b8,.cells #[.int .i64 2] 29 (0,0))::(lq++F)) rfl (l':=lq++F) (by exact AR) (by exact A7) (by exact AR) ⟨rfl,_,⟨rows,m,clock,rfl,hE⟩,rfl⟩
  refine gz ?_;refine AS (CZ rfl rfl (Ij _ _ _)) ?_;rintro v l' ⟨B1,B2,rfl,rfl⟩;refine gz ?_;refine CU (α:=Row) (ps:=[27,28]) (lb:=[.pointer (some ⟨B1,0,none⟩),.pointer (some ⟨B2,0,none⟩)]) rfl (G1 B1 B2 b m clock t rows lq hE hth) (λ_=>rfl) rfl
   (λpre l=>l=[(B2,.cells #[.int .i64 t] 3 (0,0)),(B1,.cells #[.pointer (some ⟨b,0,none⟩)] 161 (0,0)),(b8,.cells #[.int .i64 0] 29 (0,0))]/\pre=[])
   (λc pre l=>c= .ret/\pre≠[]/\l=[(b8,.cells #[.int .i64 16] 29 (0,0))])
   _ (lq++F) (λpre l2 X2 hX h=>by rw[h.1];exact⟨.tail _ (.head _),.head _,λc hc=>Aa _ (hX _ (Ai _ hc))⟩) (by exact AR) ⟨rfl,rfl⟩ ?_ ?_ ?_
  ·rintro E r0 rec pre y l' T ⟨fn,tmps,D,rfl⟩ hT ⟨rfl,rfl⟩ hsp;simp only[Du,Ad,Ag];refine gz ?_;refine Cp (by exact Dw) ?_;refine gz ?_;refine D3 [(b8,.cells #[.int .i64 16] 29 (0,0))] (by exact AR) ⟨rfl,by simp,rfl⟩
  ·rintro D xs l' hall ⟨rfl,rfl⟩;have hno:¬jK (rows.map Row.d) t=true:=λh=>by
    obtain⟨r',hr',ht'⟩:=TE.1 h;cases hall r' hr' ht'
   obtain⟨A,B,rfl,hA,hB⟩:=hE.split hr;have ho:=hE.own r hr;obtain⟨pv,cap,hv⟩:=ho.shape;have hlen:=hth r hr;obtain⟨rest,hrest⟩: ∃rest,RA b m clock ((A++r::B).map Row.ent) A B=rest:=⟨_,rfl⟩
   have hfp:lq.Perm ((r.pb,.cells (toArray [.slice pv r.th.length cap,.bool r.sd]) 354 (0,0))::(r.cs++rest)):=by rw[<-hv,<-hrest];exact hE.focus
   rw[hv] at ho;simp only[Ad,Ag];refine Jh (l':=Cd D::(b8,.cells #[.int .i64 0] 29 (0,0))::(lq++F)) (by exact AR) ?_;refine Jh (Keep.of_perm (((hfp.append_right F).cons _).cons _)) ?_;simp only[Ad,Al];by_cases h0:0<r.th.length/\(!(r.sd==s))=true
   ·rw[show waitD ((A++r::B).map Row.d) r.id t s=(16,(A++r::B).map Row.d) by unfold waitD;rw[hfd];simp only;rw[Ac ht1,Ac hno,Ae h0]];obtain⟨h0a,h0b⟩:=h0;refine gz ?_;rw[h0b];refine gz ?_;exact AU [D] ((b8,.cells #[.int .i64 16] 29 (0,0))::(r.pb,.cells (toArray [.slice pv r.th.length cap,.bool r.sd]) 354 (0,0))::(r.cs++(rest++F))) rfl (l':=lq++F) (by exact AR) (by exact A7) (.drop (.of_perm (by have:=(hfp.append_right F).symm;simpa using this))) ⟨rfl,_,⟨A++r::B,m,clock,rfl,hE⟩,rfl⟩
   ·rw[show waitD ((A++r::B).map Row.d) r.id t s=(0,updD ((A++r::B).map Row.d) r.id (r.th++[t],s)) by unfold waitD;rw[hfd];simp only;rw[Ac ht1,Ac hno,Ac h0]];by_cases h0a:0<r.th.length
    ·have h0b:(!(r.sd==s))=false:=by cases h:(!(r.sd==s)) with|false=>rfl|true=>exact absurd ⟨h0a,h⟩ h0
     refine gz ?_;rw[h0b];refine gz ?_;refine AS (JL rfl rfl) ?_;rintro _ _ ⟨bl,_,rfl,rfl⟩;refine AS (fg (X:=[Cd D,(b8,.cells #[.int .i64 0] 29 (0,0)),(r.pb,.cells (toArray [.slice pv r.th.length cap,.bool r.sd]) 354 (0,0))]) rfl rfl ho hlen) ?_;rintro v' _ ⟨c2,ho2,rfl⟩;have hv1:v'.oneCell'=true:=ho2.one;simp only[Ad,Ag];refine gz ?_;refine AU [D] ((b8,.cells #[.int .i64 0] 29 (0,0))::(r.pb,.cells (toArray [v',.bool s]) 354 (0,0))::(c2++(rest++F))) rfl (l':=(Pd b m::(m,Fh .i64 ((A++r::B).map Row.ent) clock)::(A++⟨r.id,r.th++[t],s,r.pb,v',c2,r.st⟩::B).flatMap Row.ch)++F) (by exact AR) (by exact A7) (.drop (.of_perm ?_)) ⟨rfl,_,⟨_,m,clock,(RB hA hB _ _ v' c2).symm,hE.put _ s v' c2 ho2⟩,rfl⟩;rw[<-hrest];have:=((LE A B ⟨r.id,r.th++[t],s,r.pb,v',c2,r.st⟩ (Pd b m) (m,Fh .i64 ((A++r::B).map Row.ent) clock)).append_right F).symm;rw[Ad,Al] at this;exact this
    ·refine gz ?_;refine AS (JL rfl rfl) ?_;rintro _ _ ⟨bl,_,rfl,rfl⟩;refine AS (fg (X:=[Cd D,(b8,.cells #[.int .i64 0] 29 (0,0)),(r.pb,.cells (toArray [.slice pv r.th.length cap,.bool r.sd]) 354 (0,0))]) rfl rfl ho hlen) ?_;rintro v' _ ⟨c2,ho2,rfl⟩;have hv1:v'.oneCell'=true:=ho2.one;simp only[Ad,Ag];refine gz ?_;refine AU [D] ((b8,.cells #[.int .i64 0] 29 (0,0))::(r.pb,.cells (toArray [v',.bool s]) 354 (0,0))::(c2++(rest++F))) rfl (l':=(Pd b m::(m,Fh .i64 ((A++r::B).map Row.ent) clock)::(A++⟨r.id,r.th++[t],s,r.pb,v',c2,r.st⟩::B).flatMap Row.ch)++F) (by exact AR) (by exact A7) (.drop (.of_perm ?_)) ⟨rfl,_,⟨_,m,clock,(RB hA hB _ _ v' c2).symm,hE.put _ s v' c2 ho2⟩,rfl⟩;rw[<-hrest];have:=((LE A B ⟨r.id,r.th++[t],s,r.pb,v',c2,r.st⟩ (Pd b m) (m,Fh .i64 ((A++r::B).map Row.ent) clock)).append_right F).symm;rw[Ad,Al] at this;exact this
  ·rintro D c pre l' hsp ⟨rfl,hne,rfl⟩;obtain⟨r',hr'⟩:=List.exists_mem_of_ne_nil _ hne;have hyes:=TE.2 ⟨r',hsp r' hr'⟩;rw[show waitD (rows.map Row.d) r.id t s=(16,rows.map Row.d) by unfold waitD;rw[hfd];simp only;rw[Ac ht1,Ae hyes]];simp only[Ad,Ag];refine gz ?_;exact AU [D] ((b8,.cells #[.int .i64 16] 29 (0,0))::(lq++F)) rfl (l':=lq++F) (by exact AR) (by exact A7) (by exact AR) ⟨rfl,_,⟨rows,m,clock,rfl,hE⟩,rfl⟩
 ·have hno: ∀r,r∈rows->r.id≠id:=λr hr e=>h1 ⟨r,hr,e⟩;have hg:=Nb hno;rw[show waitD (rows.map Row.d) id t s=(2,rows.map Row.d) by unfold waitD;rw[Lx hno]];rw[hg];refine gz ?_;exact AU [] ((b8,.cells #[.int .i64 2] 29 (0,0))::(lq++F)) rfl (l':=lq++F) (by exact AR) (by exact A7) (by exact AR) ⟨rfl,_,⟨rows,m,clock,rfl,hE⟩,rfl⟩
theorem jL(v:Value)(xs:List Int)(i:Nat)(hi:i<xs.length)(X cs Y:List Ab)(h:OwnSl 3 1 v xs.length (xs.map CA) cs)(hn:xs.length<=1000000):
 Fn prog 200 [v,.int .i64 (i:Nat),.int .i64 ((i:Int)+1)] (X++(cs++Y)) λr l'=> ∃c2,OwnSl 3 1 r (xs.eraseIdx i).length ((xs.eraseIdx i).map CA) c2/\l'=X++(c2++Y):=by
 refine Fn.re (Keep.of_perm (Ay X cs Y)) (Qu.delete_any v xs i hi cs _ h hn) ?_;rintro v l' ⟨c2,h1,h2⟩;exact⟨_,by rw[h2];exact Keep.of_perm (Ay c2 X Y),c2,h1,rfl⟩
def OneAt(D:DE)(t:Int):Prop:= ∀x y,x∈D->y∈D->t∈x.2.1->t∈y.2.1->x.1=y.1
theorem n8(hn:(rows.map Row.id).Nodup)(hU:OneAt (rows.map Row.d) t)(hr:r∈rows)(ht:t∈r.th):(rows.map Row.d).find? (λx=>decide (t∈x.2.1))=some r.d:=by
 have hs:((rows.map Row.d).find? λx=>decide (t∈x.2.1)).isSome=true:=List.find?_isSome.2 ⟨r.d,Au.2 ⟨r,hr,rfl⟩,At ht⟩;obtain⟨x,hx⟩:=Hl.1 hs;have h1:t∈x.2.1:=by have:=Ei hx;simpa using this
 have hm:=BN hx;have hid:=hU x r.d hm (Au.2 ⟨r,hr,rfl⟩) h1 ht;rw[hx];rw[Au] at hm;obtain⟨r',hr',rfl⟩:=hm;have:r'=r:=Re hn hr' hr hid;rw[this]
theorem remove_any(b:Nat)(D:DE)(lq:List Ab)(t:Int)(hq:IsE b D lq)(hn: ∀x,x∈D->x.2.1.length<=1000000)(hU:OneAt D t)(F:List Ab):
 Fn prog 260 [.pointer (some ⟨b,0,none⟩),.int .i64 t] (lq++F) λv l'=>v= .bool (removeD D t).1/\ ∃lq',IsE b (removeD D t).2 lq'/\l'=lq'++F:=by
 obtain⟨rows,m,clock,rfl,hE⟩:=hq;have hth: ∀r,r∈rows->r.th.length<=1000000:=λr hr=>hn r.d (Au.2 ⟨r,hr,rfl⟩);refine AO func260 ntmps260 λE=>?_;refine Hj λb4=>?_;refine AS (CZ rfl rfl (Ij _ _ _)) ?_;rintro v l' ⟨B1,B2,rfl,rfl⟩;refine gz ?_;refine CU (α:=Row) (ps:=[10,11]) (lb:=[.pointer (some ⟨B1,0,none⟩),.pointer (some ⟨B2,0,none⟩)]) rfl (G1 B1 B2 b m clock t rows lq hE hth) (λ_=>rfl) rfl
  (λpre l=>l=[(B2,.cells #[.int .i64 t] 3 (0,0)),(B1,.cells #[.pointer (some ⟨b,0,none⟩)] 161 (0,0)),(b4,.cells #[.bool false] 4 (0,0))]++lq/\pre=[])
  (λc pre l=>c= .ret/\ ∃A r B v' c2,rows=A++r::B/\(∀x,x∈A->x.id≠r.id)/\(∀x,x∈B->x.id≠r.id)/\t∈r.th/\OwnSl 3 1 v' (r.th.eraseIdx (r.th.idxOf t)).length ((r.th.eraseIdx (r.th.idxOf t)).map CA) c2/\l=(b4,.cells #[.bool true] 4 (0,0))::(r.pb,.cells (toArray [v',.bool r.sd]) 354 (0,0))::(c2++RA b m clock (rows.map Row.ent) A B))
  _ F (λpre l2 X2 hX h=>by rw[h.1];exact⟨.tail _ (.head _),.head _,λc hc=>Ai _ (Aa _ hc)⟩) (by exact AR) ⟨rfl,rfl⟩ ?_ ?_ ?_
 ·rintro E r0 rec pre r l' T ⟨fn,tmps,D,rfl⟩ hT ⟨rfl,rfl⟩ hsp;obtain⟨hr,ht⟩:=hsp r (by simp);obtain⟨A,B,rfl,hA,hB⟩:=hE.split hr;have ho:=hE.own r hr;obtain⟨pv,cap,hv⟩:=ho.shape;have hlen:=hth r hr;obtain⟨rest,hrest⟩: ∃rest,RA b m clock ((A++r::B).map Row.ent) A B=rest:=⟨_,rfl⟩
  have hfp:lq.Perm ((r.pb,.cells (toArray [.slice pv r.th.length cap,.bool r.sd]) 354 (0,0))::(r.cs++rest)):=by rw[<-hv,<-hrest];exact hE.focus
  rw[hv] at ho;have hlt:=Gp ht;simp only[Du,Ad,Ag];refine gz ?_;refine Cp (.there (.there (.there (Fa _ _ _ _ _)))) ?_;refine DQ (.drop (.drop (.of_perm ((hfp.append_right _).cons _)))) ?_;simp only[Ad,Al];refine gz ?_;refine AS (CZ rfl rfl (jL _ r.th (r.th.idxOf t) hlt [(b4,.cells #[.bool false] 4 (0,0)),(r.pb,.cells (toArray [.slice pv r.th.length cap,.bool r.sd]) 354 (0,0))] r.cs _ ho hlen)) ?_;rintro v' _ ⟨c2,ho2,rfl⟩;have hv1:v'.oneCell'=true:=ho2.one;simp only[Ad,Ag];refine gz ?_;refine D3 _ ?_ ⟨rfl,A,r,B,v',c2,rfl,hA,hB,ht,ho2,rfl⟩;rw[hrest];simp only[Ad,Al];exact .refl
 ·rintro D xs l' hall ⟨rfl,rfl⟩;have hno:(rows.map Row.d).find? (λx=>decide (t∈x.2.1))=none:=Bu.2 λx hx=>by
   rw[Au] at hx;obtain⟨r,hr,rfl⟩:=hx;intro h;cases hall r hr (Ey h)
  rw[show removeD (rows.map Row.d) t=(false,rows.map Row.d) by unfold removeD;rw[hno]];simp only[Ad,Ag];refine gz ?_;exact AU [D] ((b4,.cells #[.bool false] 4 (0,0))::(lq++F)) rfl (l':=lq++F) (by exact AR) (by exact A7) (by exact AR) ⟨rfl,_,⟨rows,m,clock,rfl,hE⟩,rfl⟩
 ·rintro D c pre l' hsp ⟨rfl,A,r,B,v',c2,rfl,hA,hB,ht,ho2,rfl⟩;rw[show removeD ((A++r::B).map Row.d) t=(true,updD ((A++r::B).map Row.d) r.id (r.th.eraseIdx (r.th.idxOf t),r.sd)) by unfold removeD;rw[n8 hE.ids hU (Aa _ (.head _)) ht];rfl];obtain⟨rest,hrest⟩: ∃rest,RA b m clock ((A++r::B).map Row.ent) A B=rest:=⟨_,rfl⟩
  rw[hrest];simp only[Ad,Al];refine gz ?_;refine AU [D] ((b4,.cells #[.bool true] 4 (0,0))::(r.pb,.cells (toArray [v',.bool r.sd]) 354 (0,0))::(c2++(rest++F))) rfl (l':=(Pd b m::(m,Fh .i64 ((A++r::B).map Row.ent) clock)::(A++⟨r.id,r.th.eraseIdx (r.th.idxOf t),r.sd,r.pb,v',c2,r.st⟩::B).flatMap Row.ch)++F) (by exact AR) (by exact A7) (.drop (.of_perm ?_)) ⟨rfl,_,⟨_,m,clock,(RB hA hB _ _ v' c2).symm,hE.put _ r.sd v' c2 ho2⟩,rfl⟩;rw[<-hrest];have:=((LE A B ⟨r.id,r.th.eraseIdx (r.th.idxOf t),r.sd,r.pb,v',c2,r.st⟩ (Pd b m) (m,Fh .i64 ((A++r::B).map Row.ent) clock)).append_right F).symm;rw[Ad,Al] at this;exact this
end Go.Proofs.YtlkgekpmileobaaGreat.En
namespace Go.Proofs.YtlkgekpmileobaaGreat.Tr
open Tryz
open List(toArray)
open Go.RowKit
set_option maxRecDepth 20000
set_option maxHeartbeats 400000
section
variable{P:Program}{ro:Option Nat}{N:Nat}{E:World}{ops:Array Oper}{Q:Exit->Act->World->Prop}{R:List Ab}{tbl:List (List Nat)}{sw:Sw}{sp:Fd}{pl:List BC}{o:Oper}{fr fr':Fr}{ds:List Deferred}{l l':List Ab}{K:Value->List Ab->Prop}{v:Value}{i:Nat}{k:Bool}
end
theorem TF(b p:Nat)(l:List Ab):Fn prog 360 [.pointer (some ⟨b,0,none⟩),.pointer (some ⟨p,0,none⟩)] l λv l'=> ∃B1 B2,v= .func (.func 384) #[] #[.pointer (some ⟨B2,0,none⟩),.pointer (some ⟨B1,0,none⟩)]/\l'=V3 B1 p::W3 B2 b::l:=by refine AO func360 ntmps360 λE=>?_;refine Hj λb2=>?_;refine Hj λb3=>?_;exact A8 .refl ⟨b3,b2,rfl,rfl⟩
theorem RC(B1 B2 b rb m p:Nat)(F:Nat->NdT)(all os:List Nat)(es:List (Gv CC))(clock:Nat)(lq:List Ab)(hT:TB b rb m F all os es clock lq)(X Y:List Nat)(hX:rb::os=X++p::Y):
 E2 prog 384 [.pointer (some ⟨B2,0,none⟩),.pointer (some ⟨B1,0,none⟩)] (λq:Nat=>[.pointer (some ⟨q,0,none⟩)]) (λxs=>xs=Y.takeWhile λq=>decide ((F p).dp<(F q).dp)) (λpre=>pre<+:Y.takeWhile λq=>decide ((F p).dp<(F q).dp))
  (λpre l=>V3 B1 p∈l/\W3 B2 b∈l/\JS b rb m∈l/\vm F (rb::os) pre l):=by
 refine⟨λr I Ix G0 hneed hY l G hG h0=>?_⟩;have hnd:(p::Y).Nodup:=by have:=hT.ond;rw[hX] at this;exact(Bs.1 this).2.1
 have hpc:p∈rb::os:=by rw[hX];simp
 obtain⟨tw,htw⟩: ∃tw,tw=Y.takeWhile λq=>decide ((F p).dp<(F q).dp):=⟨_,rfl⟩
 rw[<-htw] at hY⊢;obtain⟨n1,n2,n3,n4⟩:=hneed _ _ G hG h0;refine AO func384 ntmps384 λE=>?_;refine Hj λb3=>?_;refine AS (CZ rfl rfl (Ru _ _ _)) ?_;rintro v l' ⟨C1,C2,rfl,rfl⟩;refine gz ?_;refine CU (α:=Nat) (ps:=[8]) (lb:=[.pointer (some ⟨C1,0,none⟩),.pointer (some ⟨C2,0,none⟩)]) rfl (PD C1 C2 b rb m p F all os es clock lq hT X Y hX) (λ_=>rfl) rfl
  (λpre l=> ∃l1,I pre l1/\pre<+:tw/\l=[V3 C1 p,W3 C2 b,(b3,.cells #[.func (.yield r) #[] #[]] 408 (0,0))]++l1)
  (λc pre l=>c= .exit 0/\ ∃l1,((pre<+:tw/\Ix pre l1)\/I tw l1)/\l=[V3 C1 p,W3 C2 b,(b3,.cells #[.func (.yield r) #[] #[]] 408 (0,0))]++l1)
  _ G (λpre l2 X2 hX2 h=>by obtain⟨l1,hI,_,rfl⟩:=h;obtain⟨k1,k2,k3,k4⟩:=hneed _ _ X2 (λc hc=>hX2 c (hG c hc)) hI;refine⟨.head _,.tail _ (.head _),.tail _ (.tail _ (.tail _ k3)),λq hq=>?_⟩;obtain⟨x,h1,h2,h3⟩:=k4 q hq;exact⟨x,.tail _ (.tail _ (.tail _ h1)),h2⟩) (by exact AR) ⟨l,h0,List.nil_prefix,rfl⟩ ?_ ?_ ?_
 ·rintro E r0 rec pre y l' T ⟨fn,tmps,D,rfl⟩ hT0 ⟨l1,hI,hpt,rfl⟩ hsp;simp only[Du,Ad,Ag];refine gz ?_;refine Cp (.there (.there (.there (Fa _ _ _ _ _)))) ?_;generalize hX1:(r0,Obj.loop (Dp fn tmps _ _ _ D .busy none))::T=X1;have hG1: ∀c,c∈G0->c∈X1:=λc hc=>by rw[<-hX1];exact .tail _ (hT0 c (hG c hc))
  have hyp:y∉pre/\p∉pre/\y∈rb::os:=by
   obtain⟨r9,h9⟩:=hsp;rw[<-h9] at hnd hX;refine⟨λh=>?_,λh=>?_,by rw[hX];simp⟩
   ·have:=(Bs.1 (Bs.1 (AM.1 hnd).2).1).2.2 y h y (by simp);exact this rfl
   ·exact(AM.1 hnd).1 (by simp[h])
  obtain⟨k1,k2,k3,k4⟩:=hneed _ _ X1 hG1 hI;obtain⟨xy,hxy,_,hyd⟩:=k4 y hyp.2.2;obtain⟨xp,hxp,_,hpd⟩:=k4 p hpc;have hyd:=hyd hyp.1;have hpd:=hpd hyp.2.1;by_cases hlt:(F p).dp<(F y).dp
  ·have hpt2:pre++[y]<+:tw:=by rw[htw] at hpt⊢;exact jH hsp hpt (At hlt)
   refine gz ?_;refine Ce [12] 15 ([(b3,.cells #[.func (.yield r) #[] #[]] 408 (0,0))]) ?_;refine pz ?_;apply FD (S:=[MS y xy])
   ·exact Dv rfl (.head _) rfl
   ·intro c hc;cases hc with
    |head=>exact .tail _ (.tail _ (.tail _ hxy))
    |tail _ h=>cases h
   ·rfl
   ·rfl
   ·rfl
   refine pz ?_;apply FD (S:=[V3 B1 p])
   ·exact Dv rfl (.head _) rfl
   ·intro c hc;cases hc with
    |head=>exact .tail _ (.tail _ (.tail _ k1))
    |tail _ h=>cases h
   ·rfl
   ·rfl
   ·rfl
   refine pz ?_;apply FD (S:=[MS p xp])
   ·exact Dv rfl (.head _) rfl
   ·intro c hc;cases hc with
    |head=>exact .tail _ (.tail _ (.tail _ hxp))
    |tail _ h=>cases h
   ·rfl
   ·rfl
   ·rfl
   refine pz ?_;apply nX
   ·apply OpE.re (K':=λv l3=> ∃l2,l3=V3 C1 p::W3 C2 b::(b3,.cells #[.func (.yield r) #[] #[]] 408 (0,0))::(l2++X1)/\((v= .bool true/\I (pre++[y]) l2)\/(v= .bool false/\Ix (pre++[y]) l2))) (Keep.in_mid [V3 C1 p,W3 C2 b,(b3,.cells #[.func (.yield r) #[] #[]] 408 (0,0))] l1 X1)
    ·exact CK rfl rfl (hY pre y l1 _ (λc hc=> .tail _ (.tail _ (.tail _ (hG1 c hc)))) hI hpt2)
    ·rintro v _ ⟨l2,rfl,hor⟩;exact⟨_,Keep.in_mid l2 [V3 C1 p,W3 C2 b,(b3,.cells #[.func (.yield r) #[] #[]] 408 (0,0))] X1,l2,rfl,hor⟩
   ·rfl
   ·rfl
   ·rfl
   ·rintro _ _ ⟨l2,rfl,_⟩ c hc;cases hc with
    |head=>exact .tail _ (.tail _ (.head _))
    |tail _ h=>cases h
   ·exact λ_ _ _ x hx ha=>CV Bv hx ha
   rintro v _ ⟨l2,rfl,⟨rfl,hI2⟩|⟨rfl,hI2⟩⟩
   ·refine pz ?_;refine gz ?_;rw[<-hX1];exact B9 _ (.refl) ⟨l2,hI2,hpt2,rfl⟩
   ·refine pz ?_;refine gz ?_;rw[<-hX1];exact Et _ (.refl) ⟨rfl,l2,.inl ⟨hpt2,hI2⟩,rfl⟩
  ·have hpt2:pre=tw:=by rw[htw] at hpt⊢;exact jI hsp hpt (Aw hlt)
   refine gz ?_;refine Ce [12] 15 _ ?_ (hR:=(λ_ h=>h));refine pz ?_;refine gz ?_;rw[<-hX1];exact Et _ (.refl) ⟨rfl,l1,.inr (hpt2▸hI),rfl⟩
 ·rintro D xs l' rfl ⟨l1,hI,hpt,rfl⟩;simp only[Ad,Ag];have hall:xs=tw:=by rw[htw] at hpt⊢;exact nY hpt
  refine gz ?_;exact AU [D] (l1++G) rfl (l':=l1++G) (by exact AR) (by exact A7) .refl ⟨l1,rfl,.inl ⟨_,rfl,hall▸hI⟩⟩
 ·rintro D c pre l' hsp ⟨rfl,l1,hor,rfl⟩;simp only[Ad,Ag];refine gz ?_;refine AU [D] (l1++G) rfl (l':=l1++G) (by exact AR) (by exact A7) .refl ⟨l1,rfl,?_⟩;rcases hor with⟨h1,h2⟩|h
  ·exact .inr ⟨_,h1,h2⟩
  ·exact .inl ⟨_,rfl,h⟩
theorem belowOf_any(b:Nat)(D:DT)(lq:List Ab)(hq:IsT b D lq)(hn:D.length<=1000000)(s:CC)(l:List Ab)(hsub: ∀c,c∈lq->c∈l):
 Fn prog 323 [.pointer (some ⟨b,0,none⟩),.agg (toArray (Cj s))] l λv l'=> ∃cs,OwnSl 61 2 v (belowD D s).length (scs (belowD D s)) cs/\l'=cs++l:=by
 obtain⟨rb,m,F,all,os,es,clock,rfl,hT⟩:=hq;have hnl:os.length<=1000000:=by simpa[ER] using hn
 have h1:=hsub _ hT.m1;have hnod: ∀q,q∈rb::os->MS q (F q)∈l:=λq hq=>by
  rcases Aq.1 hq with rfl|hq
  ·exact hsub _ (hT.m3 hT.rin)
  ·exact hsub _ (hT.m3 (hT.sub q hq))
 refine AO func323 ntmps323 λE=>?_;refine gz ?_;refine AS (CR rfl) ?_;rintro _ _ ⟨b0,hb0,rfl,rfl⟩;refine gz ?_;refine Bc (AK (R:=(b0,Obj.cells (toArray (Cj s)) 61 (0,0))::l) rfl rfl λl2 hl2=>of_any b rb m F all os es clock lq s hT l2 λc hc=>hl2 c (.tail _ (hsub c hc))) ?_;cases hbk:blk F os s with
 |none=>
  have e:belowD (ER F os) s=[]:=by unfold belowD;rw[IL hbk]
  rw[e];refine gz ?_;exact A8 (.drop .refl) ⟨[],OwnSl.nil _ _,rfl⟩
 |some p=>
  obtain⟨Ao,Bo,rfl,hsd⟩:=Gl hbk;have e:belowD (ER F (Ao++p::Bo)) s=(Bo.takeWhile λq=>decide ((F p).dp<(F q).dp)).map λq=>(F q).sl:=by unfold belowD;rw[hsd];exact Rv Bo
  rw[e];simp only[LA];refine Hj λb6=>?_;refine AS (CZ rfl rfl (TF _ _ _)) ?_;rintro v l' ⟨C1,C2,rfl,rfl⟩;refine gz ?_;refine CU (α:=Nat) (ps:=[16]) (lb:=[.pointer (some ⟨C2,0,none⟩),.pointer (some ⟨C1,0,none⟩)]) rfl (RC C1 C2 b rb m p F all (Ao++p::Bo) es clock lq hT (rb::Ao) Bo rfl) (λ_=>rfl) rfl
   (λpre l=> ∃v cs,OwnSl 61 2 v pre.length (scs (pre.map λq=>(F q).sl)) cs/\l=[V3 C1 p,W3 C2 b,(b6,.cells #[v] 64 (0,0))]++cs)
   (λc pre l=>False)
   _ l (λpre l2 X2 hX h=>by obtain⟨v,cs,_,rfl⟩:=h;exact⟨.head _,.tail _ (.head _),Aa _ (hX _ h1),λq hq=>⟨F q,Aa _ (hX _ (hnod q hq)),rfl,λ_=>rfl⟩⟩) (by exact AR) ⟨_,[],OwnSl.nil _ _,rfl⟩ ?_ ?_ ?_
  ·rintro E r0 rec pre y l' T ⟨fn,tmps,Dd,rfl⟩ hT0 ⟨v,cs',hown,rfl⟩ hsp;have hy:y∈rb::(Ao++p::Bo):=An _ (Aa _ (An _ ((E9 _).subset (hsp.subset (by simp)))));have hyT:=hT0 _ (hnod y hy);have hpl:pre.length<=1000000:=by have h1:=hsp.length_le;have h2:=(E9 (l:=Bo) λq=>decide ((F p).dp<(F q).dp)).length_le;simp at h1 hnl;omega
   simp only[Du,Ad,Ag];refine gz ?_;refine Cp (.there (.there (.there (Fa _ _ _ _ _)))) ?_;generalize hX1:(r0,Obj.loop (Dp fn tmps _ _ _ Dd .busy none))::T=X1;have hyX:MS y (F y)∈X1:=by rw[<-hX1];exact .tail _ hyT
   refine gz ?_;refine Ce [5,6,7] 8 ([]) ?_;refine pz ?_;apply FD (S:=[(b6,.cells #[v] 64 (0,0))])
   ·exact Dv rfl (.head _) rfl
   ·intro c hc;cases hc with
    |head=>exact .tail _ (.tail _ (.head _))
    |tail _ h=>cases h
   ·rfl
   ·rfl
   ·rfl
   refine pz ?_;apply FD (S:=[MS y (F y)])
   ·exact IR rfl (.head _) (by(repeat(first|with_reducible apply LSub.done|with_reducible apply LSub.take|with_reducible apply LSub.drop)))
   ·intro c hc;cases hc with
    |head=>exact .tail _ (.tail _ (.tail _ (Aa _ hyX)))
    |tail _ h=>cases h
   ·rfl
   ·rfl
   ·rfl
   refine pz ?_;apply Gq
   ·apply E3 (ws:=Cj (F y).sl) (k:=2)
    ·rfl
    ·rfl
    ·rfl
    ·decide
    ·decide
   ·rfl
   ·rfl
   ·rfl
   ·intro _ _ _ c hc;cases hc
   ·rintro _ _ ⟨bl,_,rfl,rfl⟩ x hx _ c hc;have h3: ∀o:Obj,(b6,o)∈(bl,Obj.cells (toArray (Cj (F y).sl)) 61 (0,0))::V3 C1 p::W3 C2 b::(b6,o)::(cs'++X1):=λo=> .tail _ (.tail _ (.tail _ (.head _)));simp only[Aq,BK,Ec] at hx;rcases hx with rfl|rfl<;>simp only[Aq,BK,Ec] at hc<;>subst hc
    ·exact .tail _ (.tail _ (.tail _ (.tail _ (Aa _ hyX))))
    ·exact h3 _
   rintro _ _ ⟨bl,_,rfl,rfl⟩;refine pz ?_;apply Gq
   ·apply GI (k:=2) (X:=[V3 C1 p,W3 C2 b,(b6,.cells #[v] 64 (0,0))]) (cs:=cs') (xs:=scs (pre.map λq=>(F q).sl)) (n:=pre.length) (zs:=[.int .i64 0,.int .i64 0]) (ws:=Cj (F y).sl)
    ·rfl
    ·rfl
    ·rfl
    ·exact hown
    ·rfl
    ·simp[Value.oneCell']
    ·omega
    ·decide
   ·rfl
   ·rfl
   ·rfl
   ·intro _ _ _ c hc;cases hc
   ·exact λ_ _ _ x hx ha=>CV Bv hx ha
   rintro v' _ ⟨c2,ho2,rfl⟩;have hv1:v'.oneCell'=true:=ho2.one;simp only[Ad,Ag];apply GH
   ·apply FP (cs:=[v])
    ·rfl
    ·rfl
    ·exact hv1
    ·exact BO
    ·exact .zero
    ·exact Dw
   ·rfl
   ·rfl
   ·intro _ _ _ c hc;cases hc
   ·exact λ_ _ _ x hx ha=>CV Bv hx ha
   rintro _ _ ⟨rfl,rfl⟩;refine pz ?_;refine gz ?_;rw[<-hX1];refine B9 _ (.refl) ⟨v',c2,?_,rfl⟩;rw[Ap,AJ,CY,scs_snoc,Ah];exact ho2
  ·rintro Dd xs l' rfl ⟨v,cs',hown,rfl⟩;have hv1:v.oneCell'=true:=hown.one;simp only[Ad,Ag];refine gz ?_;refine AU [Dd] (cs'++l) rfl (l':=cs'++l) (by exact AR) (by exact A7) .refl ?_;exact⟨cs',by rw[AZ];exact hown,rfl⟩
  ·rintro Dd c pre l' hsp h;exact h.elim
end Go.Proofs.YtlkgekpmileobaaGreat.Tr
