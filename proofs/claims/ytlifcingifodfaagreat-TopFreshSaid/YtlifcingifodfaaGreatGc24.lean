/- Laws that the statement's proof leans on (joined out of several texts). -/
import Derived.Test.YtlifcingifodfaaGreatGc23
set_option maxHeartbeats 4000000
set_option linter.unusedVariables false
set_option linter.unusedSimpArgs false
namespace Go.Proofs.YtlifcingifodfaaGreat
open Tryz
open List(toArray)
namespace En
open Go.RowKit
set_option maxRecDepth 20000
variable{r:Row}{A B rows:List Row}{b m clock:Nat}{lq:Ad}{t:Int}
section
variable{ro:Option Nat}{N:Nat}{fr:Fr}{d:Option Nat}{ty:TypeId}{pos:String}{aft:Array Edge}{g:Option (Nat×Bool)}
theorem lO{s x:Operand}{v:Value}{xs:A4}{id:Int}{X cs F:Ad}{bl:Nat}(hx:ev fr s=some v)(hy:ev fr x=some (.slice (some ⟨bl,0,none⟩) 1 1))(ET:OwnSl 3 1 v xs.length (xs.map CN) cs)(Ei:xs.length<=1000000):
 OpE prog ro N fr ((bl,.cells (toArray [.int .i64 id]) 3 (0,0))::(X++(cs++F))) ⟨d,.call {callee:= .builtin .append,args:=#[s,x],argTypes:=#[40,40]},ty,pos,aft,g⟩
  (λv' l'=> ∃c2,OwnSl 3 1 v' (xs++[id]).length ((xs++[id]).map CN) c2/\l'=X++(c2++F)):=by
 have o5:((bl,Obj.cells (toArray [.int .i64 id]) 3 (0,0))::(X++(cs++F))).Perm (cs++(((bl,Obj.cells (toArray [.int .i64 id]) 3 (0,0))::X)++F)):=
  Az ((bl,Obj.cells (toArray [.int .i64 id]) 3 (0,0))::X) cs F
 refine OpE.re (Keep.of_perm o5) (Gy (k:=1) (yb:=8) (m:=1) (xs:=xs.map CN) (news:=[.int .i64 id]) (zs:=[.int .i64 0]) hx hy rfl ET (Aa _ Ak) (λj u hj=>by simpa using hj) rfl (by simp[Value.oneCell']) (by unfold maxLen;omega) Af) ?_;rintro v' _ ⟨c2,ho,rfl⟩;exact⟨_,Keep.trans (Keep.of_perm (Az c2 ((bl,Obj.cells (toArray [.int .i64 id]) 3 (0,0))::X) F)) (.drop .refl),c2,by rw[Ah,Aq];exact ho,rfl⟩
end
theorem M5(A B:List Row)(r:Row)(x y:Bg):(x::y::(A++r::B).flatMap Row.ch).Perm (r.bl::(r.cs++(x::y::(A.flatMap Row.ch++B.flatMap Row.ch)))):=by rw[Ed,Cw];have p1:(A.flatMap Row.ch++(r.ch++B.flatMap Row.ch)).Perm (r.bl::(r.cs++(A.flatMap Row.ch++B.flatMap Row.ch))):=Az (A.flatMap Row.ch) r.ch (B.flatMap Row.ch);refine((p1.cons _).cons _).trans ?_;refine(Az [x,y] [r.bl] (r.cs++(A.flatMap Row.ch++B.flatMap Row.ch))).trans (List.Perm.cons _ ?_);exact Az [x,y] r.cs _
abbrev TT(b m clock:Nat)(es:List Lx)(A B:List Row):Ad:=Q8 b m::(m,FU .i64 es clock)::(A.flatMap Row.ch++B.flatMap Row.ch)
theorem EB.focus(h:EB b (A++r::B) m clock lq):lq.Perm (r.bl::(r.cs++TT b m clock ((A++r::B).map Row.ent) A B)):=by rw[h.eq];exact M5 A B r _ _
theorem EB.put(h:EB b (A++r::B) m clock lq)(xs:A4)(s:Bool)(v:Value)(c2:Ad)(ho:OwnSl 3 1 v xs.length (xs.map CN) c2):
 EB b (A++⟨r.id,xs,s,r.pb,v,c2,r.st⟩::B) m clock (Q8 b m::(m,FU .i64 ((A++r::B).map Row.ent) clock)::(A++⟨r.id,xs,s,r.pb,v,c2,r.st⟩::B).flatMap Row.ch):=by
 have e1:(A++⟨r.id,xs,s,r.pb,v,c2,r.st⟩::B).map Row.ent=(A++r::B).map Row.ent:=by simp[Row.ent]
 have e2:(A++⟨r.id,xs,s,r.pb,v,c2,r.st⟩::B).map Row.st=(A++r::B).map Row.st:=by simp
 have e3:(A++⟨r.id,xs,s,r.pb,v,c2,r.st⟩::B).map Row.id=(A++r::B).map Row.id:=by simp
 refine⟨by rw[e1],λx hx=>?_,λx hx=>?_,by rw[e2];exact h.nd,by rw[e3];exact h.ids⟩
 ·rcases AH.1 hx with hx|hx
  ·exact h.own x (Ai _ hx)
  ·rcases At.1 hx with rfl|hx
   ·exact ho
   ·exact h.own x (Aa _ (.tail _ hx))
 ·rcases AH.1 hx with hx|hx
  ·exact h.st x (Ai _ hx)
  ·rcases At.1 hx with rfl|hx
   ·exact h.st r (Aa _ (.head _))
   ·exact h.st x (Aa _ (.tail _ hx))
def updD(D:DE)(id:Int)(y:A4×Bool):DE:=D.map λx=>if x.1=id then(x.1,y) else x
theorem TU(hA: ∀x,x∈A->x.id≠r.id)(hB: ∀x,x∈B->x.id≠r.id)(xs:A4)(s:Bool)(v:Value)(c2:Ad):updD ((A++r::B).map Row.d) r.id (xs,s)=(A++⟨r.id,xs,s,r.pb,v,c2,r.st⟩::B).map Row.d:=by
 have key: ∀(L:List Row),(∀x,x∈L->x.id≠r.id)->(L.map Row.d).map (λx=>if x.1=r.id then(x.1,(xs,s)) else x)=L.map Row.d:=λL hL=>by rw[CR];apply BA;intro x hx;simp[Row.d,hL x hx]
 unfold updD;rw[Aq,Aq,AJ,AJ,key A hA,key B hB,Aq,AJ];simp[Row.d]
def qR(D:DE)(t:Int):Bool:=D.any λx=>decide (t∈x.2.1)
def waitD(D:DE)(id t:Int)(s:Bool):Int×DE:=match findD D id with
 |none=>(2,D)
 |some x=>if t<1 then(2,D) else if qR D t=true then(16,D) else if 0<x.1.length/\(!(x.2==s))=true then(16,D) else(0,updD D id (x.1++[t],s))
def removeD(D:DE)(t:Int):Bool×DE:=match D.find? λx=>decide (t∈x.2.1) with
 |none=>(false,D)
 |some x=>(true,updD D x.1 (x.2.1.eraseIdx (x.2.1.idxOf t),x.2.2))
theorem VO:qR (rows.map Row.d) t=true<-> ∃r,r∈rows/\t∈r.th:=by
 unfold qR;rw[HJ];constructor
 ·rintro⟨x,hx,h⟩;rw[Au] at hx;obtain⟨r,hr,rfl⟩:=hx;exact⟨r,hr,EL h⟩
 ·rintro⟨r,hr,h⟩;exact⟨r.d,Au.2 ⟨r,hr,rfl⟩,Av h⟩
theorem wait_any(b:Nat)(D:DE)(lq:Ad)(id t:Int)(s:Bool)(hq:IsE b D lq)(hn: ∀x,x∈D->x.2.1.length<=1000000)(F:Ad):
 Fn prog 264 [.pointer (some ⟨b,0,none⟩),.int .i64 id,.int .i64 t,.bool s] (lq++F) λv l'=>v= .int .i64 (waitD D id t s).1/\ ∃DD,IsE b (waitD D id t s).2 DD/\l'=DD++F:=by
 obtain⟨rows,m,clock,rfl,hE⟩:=hq;have Xr:Q8 b m∈lq++F:=Ai _ hE.m1;have UL:(m,FU .i64 (rows.map Row.ent) clock)∈lq++F:=Ai _ hE.m2;have pP: ∀r,r∈rows->r.th.length<=1000000:=λr hr=>hn r.d (Au.2 ⟨r,hr,rfl⟩);refine AO func264 ntmps264 λE=>?_;refine Ih λb8=>?_;by_cases h1: ∃r,r∈rows/\r.id=id
 ·obtain⟨r,hr,rfl⟩:=h1;have hg:=OO hE.ids hr;have ZH:=KW hE.ids hr;rw[hg];by_cases ZJ:t<1
  ·rw[show waitD (rows.map Row.d) r.id t s=(2,rows.map Row.d) by unfold waitD;rw[ZH];simp only;rw[Ac ZJ]];refine gz ?_;exact AV [] ((b8,.cells #[.int .i64 2] 29 (0,0))::(lq++F)) rfl (l':=lq++F) (by exact AU) (by exact Ba) (by exact AU) ⟨rfl,_,⟨rows,m,clock,rfl,hE⟩,rfl⟩
  refine gz ?_;refine AR (Dn rfl rfl (Jf _ _ _)) ?_;rintro v l' ⟨B1,B2,rfl,rfl⟩;refine gz ?_;refine Df (α:=Row) (ps:=[27,28]) (lb:=[.pointer (some ⟨B1,0,none⟩),.pointer (some ⟨B2,0,none⟩)]) rfl (HR B1 B2 b m clock t rows lq hE pP) (λ_=>rfl) rfl
   (λpre l=>l=[(B2,.cells #[.int .i64 t] 3 (0,0)),(B1,.cells #[.pointer (some ⟨b,0,none⟩)] 160 (0,0)),(b8,.cells #[.int .i64 0] 29 (0,0))]/\pre=[])
   (λc pre l=>c= .ret/\pre≠[]/\l=[(b8,.cells #[.int .i64 16] 29 (0,0))])
   _ (lq++F) (λpre l2 X2 hX h=>by rw[h.1];exact⟨.tail _ (.head _),.head _,λc hc=>Aa _ (hX _ (Ai _ hc))⟩) (by exact AU) ⟨rfl,rfl⟩ ?_ ?_ ?_
  ·rintro E r0 FS pre y l' T ⟨fn,tmps,D,rfl⟩ hT ⟨rfl,rfl⟩ DB;simp only[DU,Ae,Ag];refine gz ?_;refine CH (by exact DX) ?_;refine gz ?_;refine EC [(b8,.cells #[.int .i64 16] 29 (0,0))] (by exact AU) ⟨rfl,by simp,rfl⟩
  ·rintro D xs l' Gv ⟨rfl,rfl⟩;have I8:¬qR (rows.map Row.d) t=true:=λh=>by
    obtain⟨r',UH,ht'⟩:=VO.1 h;cases Gv r' UH ht'
   obtain⟨A,B,rfl,hA,hB⟩:=hE.split hr;have ho:=hE.own r hr;obtain⟨pv,cap,hv⟩:=ho.shape;have Ei:=pP r hr;obtain⟨A0,hrest⟩: ∃A0,TT b m clock ((A++r::B).map Row.ent) A B=A0:=⟨_,rfl⟩
   have yq:lq.Perm ((r.pb,.cells (toArray [.slice pv r.th.length cap,.bool r.sd]) 353 (0,0))::(r.cs++A0)):=by rw[<-hv,<-hrest];exact hE.focus
   rw[hv] at ho;simp only[Ae,Ag];refine Kf (l':=Cm D::(b8,.cells #[.int .i64 0] 29 (0,0))::(lq++F)) (by exact AU) ?_;refine Kf (Keep.of_perm (((yq.append_right F).cons _).cons _)) ?_;simp only[Ae,Am];by_cases h0:0<r.th.length/\(!(r.sd==s))=true
   ·rw[show waitD ((A++r::B).map Row.d) r.id t s=(16,(A++r::B).map Row.d) by unfold waitD;rw[ZH];simp only;rw[Ab ZJ,Ab I8,Ac h0]];obtain⟨h0a,h0b⟩:=h0;refine gz ?_;rw[h0b];refine gz ?_;exact AV [D] ((b8,.cells #[.int .i64 16] 29 (0,0))::(r.pb,.cells (toArray [.slice pv r.th.length cap,.bool r.sd]) 353 (0,0))::(r.cs++(A0++F))) rfl (l':=lq++F) (by exact AU) (by exact Ba) (.drop (.of_perm (by have:=(yq.append_right F).symm;simpa using this))) ⟨rfl,_,⟨A++r::B,m,clock,rfl,hE⟩,rfl⟩
   ·rw[show waitD ((A++r::B).map Row.d) r.id t s=(0,updD ((A++r::B).map Row.d) r.id (r.th++[t],s)) by unfold waitD;rw[ZH];simp only;rw[Ab ZJ,Ab I8,Ab h0]];by_cases h0a:0<r.th.length
    ·have h0b:(!(r.sd==s))=false:=by cases h:(!(r.sd==s)) with|false=>rfl|true=>exact absurd ⟨h0a,h⟩ h0
     refine gz ?_;rw[h0b];refine gz ?_;refine AR (KU rfl rfl) ?_;rintro _ _ ⟨bl,_,rfl,rfl⟩;refine AR (lO (X:=[Cm D,(b8,.cells #[.int .i64 0] 29 (0,0)),(r.pb,.cells (toArray [.slice pv r.th.length cap,.bool r.sd]) 353 (0,0))]) rfl rfl ho Ei) ?_;rintro v' _ ⟨c2,FK,rfl⟩;have Ju:v'.oneCell'=true:=FK.one;simp only[Ae,Ag];refine gz ?_;refine AV [D] ((b8,.cells #[.int .i64 0] 29 (0,0))::(r.pb,.cells (toArray [v',.bool s]) 353 (0,0))::(c2++(A0++F))) rfl (l':=(Q8 b m::(m,FU .i64 ((A++r::B).map Row.ent) clock)::(A++⟨r.id,r.th++[t],s,r.pb,v',c2,r.st⟩::B).flatMap Row.ch)++F) (by exact AU) (by exact Ba) (.drop (.of_perm ?_)) ⟨rfl,_,⟨_,m,clock,(TU hA hB _ _ v' c2).symm,hE.put _ s v' c2 FK⟩,rfl⟩;rw[<-hrest];have:=((M5 A B ⟨r.id,r.th++[t],s,r.pb,v',c2,r.st⟩ (Q8 b m) (m,FU .i64 ((A++r::B).map Row.ent) clock)).append_right F).symm;rw[Ae,Am] at this;exact this
    ·refine gz ?_;refine AR (KU rfl rfl) ?_;rintro _ _ ⟨bl,_,rfl,rfl⟩;refine AR (lO (X:=[Cm D,(b8,.cells #[.int .i64 0] 29 (0,0)),(r.pb,.cells (toArray [.slice pv r.th.length cap,.bool r.sd]) 353 (0,0))]) rfl rfl ho Ei) ?_;rintro v' _ ⟨c2,FK,rfl⟩;have Ju:v'.oneCell'=true:=FK.one;simp only[Ae,Ag];refine gz ?_;refine AV [D] ((b8,.cells #[.int .i64 0] 29 (0,0))::(r.pb,.cells (toArray [v',.bool s]) 353 (0,0))::(c2++(A0++F))) rfl (l':=(Q8 b m::(m,FU .i64 ((A++r::B).map Row.ent) clock)::(A++⟨r.id,r.th++[t],s,r.pb,v',c2,r.st⟩::B).flatMap Row.ch)++F) (by exact AU) (by exact Ba) (.drop (.of_perm ?_)) ⟨rfl,_,⟨_,m,clock,(TU hA hB _ _ v' c2).symm,hE.put _ s v' c2 FK⟩,rfl⟩;rw[<-hrest];have:=((M5 A B ⟨r.id,r.th++[t],s,r.pb,v',c2,r.st⟩ (Q8 b m) (m,FU .i64 ((A++r::B).map Row.ent) clock)).append_right F).symm;rw[Ae,Am] at this;exact this
  ·rintro D c pre l' DB ⟨rfl,G5,rfl⟩;obtain⟨r',UH⟩:=List.exists_mem_of_ne_nil _ G5;have AcO:=VO.2 ⟨r',DB r' UH⟩;rw[show waitD (rows.map Row.d) r.id t s=(16,rows.map Row.d) by unfold waitD;rw[ZH];simp only;rw[Ab ZJ,Ac AcO]];simp only[Ae,Ag];refine gz ?_;exact AV [D] ((b8,.cells #[.int .i64 16] 29 (0,0))::(lq++F)) rfl (l':=lq++F) (by exact AU) (by exact Ba) (by exact AU) ⟨rfl,_,⟨rows,m,clock,rfl,hE⟩,rfl⟩
 ·have I8: ∀r,r∈rows->r.id≠id:=λr hr e=>h1 ⟨r,hr,e⟩;have hg:=ON I8;rw[show waitD (rows.map Row.d) id t s=(2,rows.map Row.d) by unfold waitD;rw[MY I8]];rw[hg];refine gz ?_;exact AV [] ((b8,.cells #[.int .i64 2] 29 (0,0))::(lq++F)) rfl (l':=lq++F) (by exact AU) (by exact Ba) (by exact AU) ⟨rfl,_,⟨rows,m,clock,rfl,hE⟩,rfl⟩
open Go.RowKit
set_option maxRecDepth 20000
theorem qS(v:Value)(xs:A4)(i:Nat)(hi:i<xs.length)(X cs Y:Ad)(h:OwnSl 3 1 v xs.length (xs.map CN) cs)(hn:xs.length<=1000000):
 Fn prog 199 [v,.int .i64 (i:Nat),.int .i64 ((i:Int)+1)] (X++(cs++Y)) λr l'=> ∃c2,OwnSl 3 1 r (xs.eraseIdx i).length ((xs.eraseIdx i).map CN) c2/\l'=X++(c2++Y):=by
 refine Fn.re (Keep.of_perm (Az X cs Y)) (Qu.delete_any v xs i hi cs _ h hn) ?_;rintro v l' ⟨c2,h1,h2⟩;exact⟨_,by rw[h2];exact Keep.of_perm (Az c2 X Y),c2,h1,rfl⟩
def OneAt(D:DE)(t:Int):Prop:= ∀x y,x∈D->y∈D->t∈x.2.1->t∈y.2.1->x.1=y.1
theorem wp(hn:(rows.map Row.id).Nodup)(hU:OneAt (rows.map Row.d) t)(hr:r∈rows)(ht:t∈r.th):(rows.map Row.d).find? (λx=>decide (t∈x.2.1))=some r.d:=by
 have hs:((rows.map Row.d).find? λx=>decide (t∈x.2.1)).isSome=true:=List.find?_isSome.2 ⟨r.d,Au.2 ⟨r,hr,rfl⟩,Av ht⟩;obtain⟨x,hx⟩:=Ik.1 hs;have h1:t∈x.2.1:=by have:=Er hx;simpa using this
 have hm:=BK hx;have Va:=hU x r.d hm (Au.2 ⟨r,hr,rfl⟩) h1 ht;rw[hx];rw[Au] at hm;obtain⟨r',UH,rfl⟩:=hm;have:r'=r:=Tu hn UH hr Va;rw[this]
theorem remove_any(b:Nat)(D:DE)(lq:Ad)(t:Int)(hq:IsE b D lq)(hn: ∀x,x∈D->x.2.1.length<=1000000)(hU:OneAt D t)(F:Ad):
 Fn prog 259 [.pointer (some ⟨b,0,none⟩),.int .i64 t] (lq++F) λv l'=>v= .bool (removeD D t).1/\ ∃DD,IsE b (removeD D t).2 DD/\l'=DD++F:=by
 obtain⟨rows,m,clock,rfl,hE⟩:=hq;have pP: ∀r,r∈rows->r.th.length<=1000000:=λr hr=>hn r.d (Au.2 ⟨r,hr,rfl⟩);refine AO func259 ntmps259 λE=>?_;refine Ih λb4=>?_;refine AR (Dn rfl rfl (Jf _ _ _)) ?_;rintro v l' ⟨B1,B2,rfl,rfl⟩;refine gz ?_;refine Df (α:=Row) (ps:=[10,11]) (lb:=[.pointer (some ⟨B1,0,none⟩),.pointer (some ⟨B2,0,none⟩)]) rfl (HR B1 B2 b m clock t rows lq hE pP) (λ_=>rfl) rfl
  (λpre l=>l=[(B2,.cells #[.int .i64 t] 3 (0,0)),(B1,.cells #[.pointer (some ⟨b,0,none⟩)] 160 (0,0)),(b4,.cells #[.bool false] 4 (0,0))]++lq/\pre=[])
  (λc pre l=>c= .ret/\ ∃A r B v' c2,rows=A++r::B/\(∀x,x∈A->x.id≠r.id)/\(∀x,x∈B->x.id≠r.id)/\t∈r.th/\OwnSl 3 1 v' (r.th.eraseIdx (r.th.idxOf t)).length ((r.th.eraseIdx (r.th.idxOf t)).map CN) c2/\l=(b4,.cells #[.bool true] 4 (0,0))::(r.pb,.cells (toArray [v',.bool r.sd]) 353 (0,0))::(c2++TT b m clock (rows.map Row.ent) A B))
  _ F (λpre l2 X2 hX h=>by rw[h.1];exact⟨.tail _ (.head _),.head _,λc hc=>Ai _ (Aa _ hc)⟩) (by exact AU) ⟨rfl,rfl⟩ ?_ ?_ ?_
 ·rintro E r0 FS pre r l' T ⟨fn,tmps,D,rfl⟩ hT ⟨rfl,rfl⟩ DB;obtain⟨hr,ht⟩:=DB r (by simp);obtain⟨A,B,rfl,hA,hB⟩:=hE.split hr;have ho:=hE.own r hr;obtain⟨pv,cap,hv⟩:=ho.shape;have Ei:=pP r hr;obtain⟨A0,hrest⟩: ∃A0,TT b m clock ((A++r::B).map Row.ent) A B=A0:=⟨_,rfl⟩
  have yq:lq.Perm ((r.pb,.cells (toArray [.slice pv r.th.length cap,.bool r.sd]) 353 (0,0))::(r.cs++A0)):=by rw[<-hv,<-hrest];exact hE.focus
  rw[hv] at ho;have Dc:=G9 ht;simp only[DU,Ae,Ag];refine gz ?_;refine CH (.there (.there (.there (FH _ _ _ _ _)))) ?_;refine Em (.drop (.drop (.of_perm ((yq.append_right _).cons _)))) ?_;simp only[Ae,Am];refine gz ?_;refine AR (Dn rfl rfl (qS _ r.th (r.th.idxOf t) Dc [(b4,.cells #[.bool false] 4 (0,0)),(r.pb,.cells (toArray [.slice pv r.th.length cap,.bool r.sd]) 353 (0,0))] r.cs _ ho Ei)) ?_;rintro v' _ ⟨c2,FK,rfl⟩;have Ju:v'.oneCell'=true:=FK.one;simp only[Ae,Ag];refine gz ?_;refine EC _ ?_ ⟨rfl,A,r,B,v',c2,rfl,hA,hB,ht,FK,rfl⟩;rw[hrest];simp only[Ae,Am];exact .refl
 ·rintro D xs l' Gv ⟨rfl,rfl⟩;have I8:(rows.map Row.d).find? (λx=>decide (t∈x.2.1))=none:=Br.2 λx hx=>by
   rw[Au] at hx;obtain⟨r,hr,rfl⟩:=hx;intro h;cases Gv r hr (EL h)
  rw[show removeD (rows.map Row.d) t=(false,rows.map Row.d) by unfold removeD;rw[I8]];simp only[Ae,Ag];refine gz ?_;exact AV [D] ((b4,.cells #[.bool false] 4 (0,0))::(lq++F)) rfl (l':=lq++F) (by exact AU) (by exact Ba) (by exact AU) ⟨rfl,_,⟨rows,m,clock,rfl,hE⟩,rfl⟩
 ·rintro D c pre l' DB ⟨rfl,A,r,B,v',c2,rfl,hA,hB,ht,FK,rfl⟩;rw[show removeD ((A++r::B).map Row.d) t=(true,updD ((A++r::B).map Row.d) r.id (r.th.eraseIdx (r.th.idxOf t),r.sd)) by unfold removeD;rw[wp hE.ids hU (Aa _ (.head _)) ht];rfl];obtain⟨A0,hrest⟩: ∃A0,TT b m clock ((A++r::B).map Row.ent) A B=A0:=⟨_,rfl⟩
  rw[hrest];simp only[Ae,Am];refine gz ?_;refine AV [D] ((b4,.cells #[.bool true] 4 (0,0))::(r.pb,.cells (toArray [v',.bool r.sd]) 353 (0,0))::(c2++(A0++F))) rfl (l':=(Q8 b m::(m,FU .i64 ((A++r::B).map Row.ent) clock)::(A++⟨r.id,r.th.eraseIdx (r.th.idxOf t),r.sd,r.pb,v',c2,r.st⟩::B).flatMap Row.ch)++F) (by exact AU) (by exact Ba) (.drop (.of_perm ?_)) ⟨rfl,_,⟨_,m,clock,(TU hA hB _ _ v' c2).symm,hE.put _ r.sd v' c2 FK⟩,rfl⟩;rw[<-hrest];have:=((M5 A B ⟨r.id,r.th.eraseIdx (r.th.idxOf t),r.sd,r.pb,v',c2,r.st⟩ (Q8 b m) (m,FU .i64 ((A++r::B).map Row.ent) clock)).append_right F).symm;rw[Ae,Am] at this;exact this
end En
namespace Tr
open Go.RowKit
set_option maxRecDepth 20000
section
variable{P:Program}{ro:Option Nat}{N:Nat}{E:World}{ops:Array Oper}{Q:Exit->Act->World->Prop}{R:Ad}{tbl:List (List Nat)}{sw:Sw}{sp:FM}{pl:List BH}{o:Oper}{fr fr':Fr}{ds:List Deferred}{l l':Ad}{K:Value->Ad->Prop}{v:Value}{i:Nat}{k:Bool}
end
theorem VP(b p:Nat)(l:Ad):Fn prog 359 [.pointer (some ⟨b,0,none⟩),.pointer (some ⟨p,0,none⟩)] l λv l'=> ∃B1 B2,v= .func (.func 383) #[] #[.pointer (some ⟨B2,0,none⟩),.pointer (some ⟨B1,0,none⟩)]/\l'=Yz B1 p::Zx B2 b::l:=by refine AO func359 ntmps359 λE=>?_;refine Ih λb2=>?_;refine Ih λb3=>?_;exact Bb .refl ⟨b3,b2,rfl,rfl⟩
open Go.RowKit
set_option maxRecDepth 20000
theorem TV(B1 B2 b rb m p:Nat)(F:Nat->NdT)(all os:List Nat)(es:List (Hf CO))(clock:Nat)(lq:Ad)(hT:TB b rb m F all os es clock lq)(X Y:List Nat)(hX:rb::os=X++p::Y):
 FA prog 383 [.pointer (some ⟨B2,0,none⟩),.pointer (some ⟨B1,0,none⟩)] (λq:Nat=>[.pointer (some ⟨q,0,none⟩)]) (λxs=>xs=Y.takeWhile λq=>decide ((F p).dp<(F q).dp)) (λpre=>pre<+:Y.takeWhile λq=>decide ((F p).dp<(F q).dp))
  (λpre l=>Yz B1 p∈l/\Zx B2 b∈l/\K0 b rb m∈l/\Dps F (rb::os) pre l):=by
 refine⟨λr I Ix G0 Ca hY l G hG h0=>?_⟩;have KP:(p::Y).Nodup:=by have:=hT.ond;rw[hX] at this;exact(By.1 this).2.1
 have hpc:p∈rb::os:=by rw[hX];simp
 obtain⟨tw,Jq⟩: ∃tw,tw=Y.takeWhile λq=>decide ((F p).dp<(F q).dp):=⟨_,rfl⟩
 rw[<-Jq] at hY⊢;obtain⟨n1,n2,n3,n4⟩:=Ca _ _ G hG h0;refine AO func383 ntmps383 λE=>?_;refine Ih λb3=>?_;refine AR (Dn rfl rfl (TN _ _ _)) ?_;rintro v l' ⟨C1,C2,rfl,rfl⟩;refine gz ?_;refine Df (α:=Nat) (ps:=[8]) (lb:=[.pointer (some ⟨C1,0,none⟩),.pointer (some ⟨C2,0,none⟩)]) rfl (Rv C1 C2 b rb m p F all os es clock lq hT X Y hX) (λ_=>rfl) rfl
  (λpre l=> ∃l1,I pre l1/\pre<+:tw/\l=[Yz C1 p,Zx C2 b,(b3,.cells #[.func (.yield r) #[] #[]] 407 (0,0))]++l1)
  (λc pre l=>c= .exit 0/\ ∃l1,((pre<+:tw/\Ix pre l1)\/I tw l1)/\l=[Yz C1 p,Zx C2 b,(b3,.cells #[.func (.yield r) #[] #[]] 407 (0,0))]++l1)
  _ G (λpre l2 X2 hX2 h=>by obtain⟨l1,hI,_,rfl⟩:=h;obtain⟨k1,k2,k3,k4⟩:=Ca _ _ X2 (λc hc=>hX2 c (hG c hc)) hI;refine⟨.head _,.tail _ (.head _),.tail _ (.tail _ (.tail _ k3)),λq hq=>?_⟩;obtain⟨x,h1,h2,h3⟩:=k4 q hq;exact⟨x,.tail _ (.tail _ (.tail _ h1)),h2⟩) (by exact AU) ⟨l,h0,List.nil_prefix,rfl⟩ ?_ ?_ ?_
 ·rintro E r0 FS pre y l' T ⟨fn,tmps,D,rfl⟩ QY ⟨l1,hI,hpt,rfl⟩ DB;simp only[DU,Ae,Ag];refine gz ?_;refine CH (.there (.there (.there (FH _ _ _ _ _)))) ?_;generalize hX1:(r0,Obj.loop (DN fn tmps _ _ _ D .busy none))::T=X1;have hG1: ∀c,c∈G0->c∈X1:=λc hc=>by rw[<-hX1];exact .tail _ (QY c (hG c hc))
  have vk:y∉pre/\p∉pre/\y∈rb::os:=by
   obtain⟨r9,h9⟩:=DB;rw[<-h9] at KP hX;refine⟨λh=>?_,λh=>?_,by rw[hX];simp⟩
   ·have:=(By.1 (By.1 (AP.1 KP).2).1).2.2 y h y (by simp);exact this rfl
   ·exact(AP.1 KP).1 (by simp[h])
  obtain⟨k1,k2,k3,k4⟩:=Ca _ _ X1 hG1 hI;obtain⟨xy,UJ,_,hyd⟩:=k4 y vk.2.2;obtain⟨xp,hxp,_,ym⟩:=k4 p hpc;have hyd:=hyd vk.1;have ym:=ym vk.2.1;by_cases Dc:(F p).dp<(F y).dp
  ·have jM:pre++[y]<+:tw:=by rw[Jq] at hpt⊢;exact qO DB hpt (Av Dc)
   refine gz ?_;refine Cn [12] 15 ([(b3,.cells #[.func (.yield r) #[] #[]] 407 (0,0))]) ?_;refine pz ?_;apply Gi (S:=[Ol y xy])
   ·exact DP rfl (.head _) rfl
   ·intro c hc;cases hc with
    |head=>exact .tail _ (.tail _ (.tail _ UJ))
    |tail _ h=>cases h
   ·rfl
   ·rfl
   ·rfl
   refine pz ?_;apply Gi (S:=[Yz B1 p])
   ·exact DP rfl (.head _) rfl
   ·intro c hc;cases hc with
    |head=>exact .tail _ (.tail _ (.tail _ k1))
    |tail _ h=>cases h
   ·rfl
   ·rfl
   ·rfl
   refine pz ?_;apply Gi (S:=[Ol p xp])
   ·exact DP rfl (.head _) rfl
   ·intro c hc;cases hc with
    |head=>exact .tail _ (.tail _ (.tail _ hxp))
    |tail _ h=>cases h
   ·rfl
   ·rfl
   ·rfl
   refine pz ?_;apply wk
   ·apply OpE.re (K':=λv l3=> ∃l2,l3=Yz C1 p::Zx C2 b::(b3,.cells #[.func (.yield r) #[] #[]] 407 (0,0))::(l2++X1)/\((v= .bool true/\I (pre++[y]) l2)\/(v= .bool false/\Ix (pre++[y]) l2))) (Keep.in_mid [Yz C1 p,Zx C2 b,(b3,.cells #[.func (.yield r) #[] #[]] 407 (0,0))] l1 X1)
    ·exact C0 rfl rfl (hY pre y l1 _ (λc hc=> .tail _ (.tail _ (.tail _ (hG1 c hc)))) hI jM)
    ·rintro v _ ⟨l2,rfl,hor⟩;exact⟨_,Keep.in_mid l2 [Yz C1 p,Zx C2 b,(b3,.cells #[.func (.yield r) #[] #[]] 407 (0,0))] X1,l2,rfl,hor⟩
   ·rfl
   ·rfl
   ·rfl
   ·rintro _ _ ⟨l2,rfl,_⟩ c hc;cases hc with
    |head=>exact .tail _ (.tail _ (.head _))
    |tail _ h=>cases h
   ·exact λ_ _ _ x hx ha=>Dg BB hx ha
   rintro v _ ⟨l2,rfl,⟨rfl,NP⟩|⟨rfl,NP⟩⟩
   ·refine pz ?_;refine gz ?_;rw[<-hX1];exact Cg _ (.refl) ⟨l2,NP,jM,rfl⟩
   ·refine pz ?_;refine gz ?_;rw[<-hX1];exact E2 _ (.refl) ⟨rfl,l2,.inl ⟨jM,NP⟩,rfl⟩
  ·have jM:pre=tw:=by rw[Jq] at hpt⊢;exact qP DB hpt (Ax Dc)
   refine gz ?_;refine Cn [12] 15 _ ?_ (hR:=(λ_ h=>h));refine pz ?_;refine gz ?_;rw[<-hX1];exact E2 _ (.refl) ⟨rfl,l1,.inr (jM▸hI),rfl⟩
 ·rintro D xs l' rfl ⟨l1,hI,hpt,rfl⟩;simp only[Ae,Ag];have Gv:xs=tw:=by rw[Jq] at hpt⊢;exact wm hpt
  refine gz ?_;exact AV [D] (l1++G) rfl (l':=l1++G) (by exact AU) (by exact Ba) .refl ⟨l1,rfl,.inl ⟨_,rfl,Gv▸hI⟩⟩
 ·rintro D c pre l' DB ⟨rfl,l1,hor,rfl⟩;simp only[Ae,Ag];refine gz ?_;refine AV [D] (l1++G) rfl (l':=l1++G) (by exact AU) (by exact Ba) .refl ⟨l1,rfl,?_⟩;rcases hor with⟨h1,h2⟩|h
  ·exact .inr ⟨_,h1,h2⟩
  ·exact .inl ⟨_,rfl,h⟩
open Go.RowKit
set_option maxRecDepth 20000
theorem belowOf_any(b:Nat)(D:DT)(lq:Ad)(hq:IsT b D lq)(hn:D.length<=1000000)(s:CO)(l:Ad)(CE: ∀c,c∈lq->c∈l):
 Fn prog 322 [.pointer (some ⟨b,0,none⟩),.agg (toArray (Ct s))] l λv l'=> ∃cs,OwnSl 61 2 v (belowD D s).length (scs (belowD D s)) cs/\l'=cs++l:=by
 obtain⟨rb,m,F,all,os,es,clock,rfl,hT⟩:=hq;have jE:os.length<=1000000:=by simpa[Ft] using hn
 have h1:=CE _ hT.m1;have jI: ∀q,q∈rb::os->Ol q (F q)∈l:=λq hq=>by
  rcases At.1 hq with rfl|hq
  ·exact CE _ (hT.m3 hT.rin)
  ·exact CE _ (hT.m3 (hT.sub q hq))
 refine AO func322 ntmps322 λE=>?_;refine gz ?_;refine AR (C4 rfl) ?_;rintro _ _ ⟨b0,hb0,rfl,rfl⟩;refine gz ?_;refine Be (AL (R:=(b0,Obj.cells (toArray (Ct s)) 61 (0,0))::l) rfl rfl λl2 Lf=>of_any b rb m F all os es clock lq s hT l2 λc hc=>Lf c (.tail _ (CE c hc))) ?_;cases hbk:blk F os s with
 |none=>
  have e:belowD (Ft F os) s=[]:=by unfold belowD;rw[JL hbk]
  rw[e];refine gz ?_;exact Bb (.drop .refl) ⟨[],OwnSl.nil _ _,rfl⟩
 |some p=>
  obtain⟨Ao,Bo,rfl,hsd⟩:=G6 hbk;have e:belowD (Ft F (Ao++p::Bo)) s=(Bo.takeWhile λq=>decide ((F p).dp<(F q).dp)).map λq=>(F q).sl:=by unfold belowD;rw[hsd];exact TO Bo
  rw[e];simp only[M1];refine Ih λb6=>?_;refine AR (Dn rfl rfl (VP _ _ _)) ?_;rintro v l' ⟨C1,C2,rfl,rfl⟩;refine gz ?_;refine Df (α:=Nat) (ps:=[16]) (lb:=[.pointer (some ⟨C2,0,none⟩),.pointer (some ⟨C1,0,none⟩)]) rfl (TV C1 C2 b rb m p F all (Ao++p::Bo) es clock lq hT (rb::Ao) Bo rfl) (λ_=>rfl) rfl
   (λpre l=> ∃v cs,OwnSl 61 2 v pre.length (scs (pre.map λq=>(F q).sl)) cs/\l=[Yz C1 p,Zx C2 b,(b6,.cells #[v] 64 (0,0))]++cs)
   (λc pre l=>False)
   _ l (λpre l2 X2 hX h=>by obtain⟨v,cs,_,rfl⟩:=h;exact⟨.head _,.tail _ (.head _),Aa _ (hX _ h1),λq hq=>⟨F q,Aa _ (hX _ (jI q hq)),rfl,λ_=>rfl⟩⟩) (by exact AU) ⟨_,[],OwnSl.nil _ _,rfl⟩ ?_ ?_ ?_
  ·rintro E r0 FS pre y l' T ⟨fn,tmps,Dd,rfl⟩ QY ⟨v,cs',ET,rfl⟩ DB;have hy:y∈rb::(Ao++p::Bo):=An _ (Aa _ (An _ ((Ej _).subset (DB.subset (by simp)))));have hyT:=QY _ (jI y hy);have Xo:pre.length<=1000000:=by have h1:=DB.length_le;have h2:=(Ej (l:=Bo) λq=>decide ((F p).dp<(F q).dp)).length_le;simp at h1 jE;omega
   simp only[DU,Ae,Ag];refine gz ?_;refine CH (.there (.there (.there (FH _ _ _ _ _)))) ?_;generalize hX1:(r0,Obj.loop (DN fn tmps _ _ _ Dd .busy none))::T=X1;have vj:Ol y (F y)∈X1:=by rw[<-hX1];exact .tail _ hyT
   refine gz ?_;refine Cn [5,6,7] 8 ([]) ?_;refine pz ?_;apply Gi (S:=[(b6,.cells #[v] 64 (0,0))])
   ·exact DP rfl (.head _) rfl
   ·intro c hc;cases hc with
    |head=>exact .tail _ (.tail _ (.head _))
    |tail _ h=>cases h
   ·rfl
   ·rfl
   ·rfl
   refine pz ?_;apply Gi (S:=[Ol y (F y)])
   ·exact Jb rfl (.head _) (by(repeat(first|with_reducible apply LSub.done|with_reducible apply LSub.take|with_reducible apply LSub.drop)))
   ·intro c hc;cases hc with
    |head=>exact .tail _ (.tail _ (.tail _ (Aa _ vj)))
    |tail _ h=>cases h
   ·rfl
   ·rfl
   ·rfl
   refine pz ?_;apply Hb
   ·apply FB (ws:=Ct (F y).sl) (k:=2)
    ·rfl
    ·rfl
    ·rfl
    ·decide
    ·decide
   ·rfl
   ·rfl
   ·rfl
   ·intro _ _ _ c hc;cases hc
   ·rintro _ _ ⟨bl,_,rfl,rfl⟩ x hx _ c hc;have h3: ∀o:Obj,(b6,o)∈(bl,Obj.cells (toArray (Ct (F y).sl)) 61 (0,0))::Yz C1 p::Zx C2 b::(b6,o)::(cs'++X1):=λo=> .tail _ (.tail _ (.tail _ (.head _)));simp only[At,BL,Ez] at hx;rcases hx with rfl|rfl<;>simp only[At,BL,Ez] at hc<;>subst hc
    ·exact .tail _ (.tail _ (.tail _ (.tail _ (Aa _ vj))))
    ·exact h3 _
   rintro _ _ ⟨bl,_,rfl,rfl⟩;refine pz ?_;apply Hb
   ·apply Ht (k:=2) (X:=[Yz C1 p,Zx C2 b,(b6,.cells #[v] 64 (0,0))]) (cs:=cs') (xs:=scs (pre.map λq=>(F q).sl)) (n:=pre.length) (zs:=[.int .i64 0,.int .i64 0]) (ws:=Ct (F y).sl)
    ·rfl
    ·rfl
    ·rfl
    ·exact ET
    ·rfl
    ·simp[Value.oneCell']
    ·omega
    ·decide
   ·rfl
   ·rfl
   ·rfl
   ·intro _ _ _ c hc;cases hc
   ·exact λ_ _ _ x hx ha=>Dg BB hx ha
   rintro v' _ ⟨c2,FK,rfl⟩;have Ju:v'.oneCell'=true:=FK.one;simp only[Ae,Ag];apply Hs
   ·apply Gx (cs:=[v])
    ·rfl
    ·rfl
    ·exact Ju
    ·exact BW
    ·exact .zero
    ·exact DX
   ·rfl
   ·rfl
   ·intro _ _ _ c hc;cases hc
   ·exact λ_ _ _ x hx ha=>Dg BB hx ha
   rintro _ _ ⟨rfl,rfl⟩;refine pz ?_;refine gz ?_;rw[<-hX1];refine Cg _ (.refl) ⟨v',c2,?_,rfl⟩;rw[Aq,AJ,CQ,scs_snoc,Ah];exact FK
  ·rintro Dd xs l' rfl ⟨v,cs',ET,rfl⟩;have Ju:v.oneCell'=true:=ET.one;simp only[Ae,Ag];refine gz ?_;refine AV [Dd] (cs'++l) rfl (l':=cs'++l) (by exact AU) (by exact Ba) .refl ?_;exact⟨cs',by rw[A7];exact ET,rfl⟩
  ·rintro Dd c pre l' DB h;exact h.elim
end Tr
end Go.Proofs.YtlifcingifodfaaGreat
