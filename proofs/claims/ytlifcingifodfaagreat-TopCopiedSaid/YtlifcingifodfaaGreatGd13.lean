/- Laws. -/
import Derived.Test.YtlifcingifodfaaGreatGd12
import Derived.Laws.Externs
set_option maxHeartbeats 4000000
set_option linter.all false
namespace Go.Proofs.YtlifcingifodfaaGreat
open Tryz
open List(replicate)
open List renaming toArray→τ
open Go.RowKit
set_option maxRecDepth 20000
variable{W:A8}{i k b e n F C j N f m k':Nat}{page lv t a pg:Int}{S:KT}{p:RP}{P:Program}{ro:Option Nat}{R G:Ac}{os:Ar.OL}{s:RL}{E:World}{ops:Array Oper}{Q:Exit->Act->World->Prop}{tbl:List (List Nat)}{sp:F5}{ds:List Deferred}{v:Value}{A6 pl:List BI}{ty:TypeId}{pos:String}{x:Operand}{A:Ar.ArT}{o:Ar.ObT}{D:En.DE}{fr' fr0:Fr}{K:Value->Ac->Prop}{vs cs:Ap}{g:Option (Nat×Bool)}{α:Type}{ki:IntKind}
theorem UF(b:Nat)(p:RP)(l:Ac)(hm:CH b p∈l):Fn prog 86 [pV b] l λv l'=>v=pV p.m/\l'=l:=by refine AO func86 ntmps86 λE=>?_;exact Fd
theorem cQ(b:Nat)(p:RP)(l:Ac)(hm:CH b p∈l):Fn prog 99 [pV b] l λv l'=>v=pV p.c/\l'=l:=by refine AO func99 ntmps99 λE=>?_;exact Fd
theorem cR(b:Nat)(p:RP)(l:Ac)(hm:CH b p∈l):Fn prog 101 [pV b] l λv l'=>v=pV p.q/\l'=l:=by refine AO func101 ntmps101 λE=>?_;exact Fd
theorem WC(b:Nat)(p:RP)(l:Ac)(hm:CH b p∈l):Fn prog 262 [pV b] l λv l'=>v=pV p.e/\l'=l:=by refine AO func262 ntmps262 λE=>?_;exact Fd
section
theorem XJ{A':Ar.ArT}(h:VH A)(hs: ∀o,o∈A'.os-> ∃o',o'∈A.os/\o'.kd=o.kd/\o'.sz=o.sz):VH A':=λo ho hk=>by obtain⟨q,h1,h2,h3⟩:=hs o ho;rw[<-h3];exact h q h1 (by rw[h2];exact hk)
theorem S8{x:Ar.ObT}(h:x∈Ar.insD os o):x=o\/x∈os:=by
 unfold Ar.insD at h;rcases AB.1 h with h|h
 ·exact .inr (List.takeWhile_subset _ h)
 ·rcases Au.1 h with h|h
  ·exact .inl h
  ·exact .inr (List.dropWhile_subset _ h)
theorem fP{x:Ar.ObT}(h:x∈os.set j o):x=o\/x∈os:=by
 rcases CS h with h|h
 ·exact .inr h
 ·exact .inl h
theorem tB(h:VH A)(kd sz fi:Int):VH (Ar.addD A kd sz fi).2:=by
 unfold Ar.addD
 split
 ·rename_i he;intro o ho hk;rcases S8 ho with rfl|ho
  ·simp only[Ar.newO] at hk⊢;subst hk;unfold Ar.addE at he
   split at he
   ·omega
   rename_i hf;unfold Ar.framesD at hf;simp only[Ab (by decide:¬((2:Int)=1)),CV] at hf
   split at hf<;>first|omega|skip
   all_goals omega
  ·exact h o ho hk
 ·exact h
instance{kd sz fi:Int}:EK prog F C b p 137 [pV p.a,ι kd,ι sz,ι fi] k S k (.tuple #[iV (Ar.addD S.A kd sz fi).1.1,iV (Ar.addD S.A kd sz fi).1.2]) {S with A:=(Ar.addD S.A kd sz fi).2}:=⟨λs G h=>lfA h (Bf _) (by unfold Ar.addD;split<;>rfl) (tB h.rad kd sz fi) λG=>Ar.add_any p.a S.A s.A h.ar kd sz fi G⟩
instance{id:Int}:EK prog F C b p 366 [pV p.a,ι id] k S k (iV (Ar.dropD S.A id).1) {S with A:=(Ar.dropD S.A id).2}:=⟨λs G h=>lfA h (Bf _) (by unfold Ar.dropD;split<;>rfl) (XJ h.rad λo ho=>by
 unfold Ar.dropD at ho;split at ho
 ·exact⟨o,Gv ho,rfl,rfl⟩
 ·exact⟨o,ho,rfl,rfl⟩) λG=>Ar.drop_any p.a S.A s.A h.ar id G⟩
theorem XK{id:Int}(h:Ar.atO os id=some j):os.getD j Ar.obO∈os:=Bg (Ar.atO_get h).1
instance{id m:Int}:EK prog F C b p 285 [pV p.a,ι id,ι m] k S k (iV (Ar.markD' S.A id m).1) {S with A:=(Ar.markD' S.A id m).2}:=⟨λs G h=>lfA h (Bf _) (by unfold Ar.markD';(repeat' split)<;>rfl) (XJ h.rad λo ho=>by
 unfold Ar.markD' at ho
 split at ho
 case h_2=>exact⟨o,ho,rfl,rfl⟩
 rename_i hj
 split at ho
 ·exact⟨o,ho,rfl,rfl⟩
 split at ho
 ·exact⟨o,ho,rfl,rfl⟩
 rcases fP ho with rfl|ho
 ·exact⟨_,XK hj,rfl,rfl⟩
 ·exact⟨o,ho,rfl,rfl⟩) λG=>Ar.mark_any p.a S.A s.A h.ar id m G⟩
instance{id se pg lv:Int}:EK prog F C b p 295 [pV p.a,ι id,ι se,ι pg,ι lv] k S k (iV (Ar.placeD S.A id se pg lv).1) {S with A:=(Ar.placeD S.A id se pg lv).2}:=⟨λs G h=>lfA h (Bf _) (by unfold Ar.placeD;(repeat' split)<;>rfl) (XJ h.rad λo ho=>by
 unfold Ar.placeD at ho
 split at ho
 case h_2=>exact⟨o,ho,rfl,rfl⟩
 rename_i hj
 split at ho
 ·exact⟨o,ho,rfl,rfl⟩
 split at ho
 ·exact⟨o,ho,rfl,rfl⟩
 rcases fP ho with rfl|ho
 ·exact⟨_,XK hj,rfl,rfl⟩
 ·exact⟨o,ho,rfl,rfl⟩) λG=>Ar.place_any p.a S.A s.A h.ar id se pg lv G⟩
instance{id n:Int}:EK prog F C b p 139 [pV p.h,ι id,ι n] (k+1) S k (iV (Hv S.H.1 id n).1) {S with H:=((Hv S.H.1 id n).2,S.H.2)}:=⟨λs G h=>tu h Af (λm hm=>(hm.add id n).mono Af) λm G hm _=>Pq p.h S.H s.H h.ho id n G⟩
instance{id:Int}:EK prog F C b p 365 [pV p.h,ι id] k S k (iV (HR S.H.1 id).1) {S with H:=((HR S.H.1 id).2,S.H.2)}:=⟨λs G h=>tu h Af (λm hm=>(hm.drop id).mono Af) λm G hm _=>cC p.h S.H s.H h.ho id G⟩
instance{x y:Ch}{m:Int}:EK prog F C b p 145 [pV p.h,Fy x,Fy y,ι m] (k+1) S k (iV (F7 S.H x y (Ea (Dv S.H.1 x) m)).1) {S with H:=(F7 S.H x y (Ea (Dv S.H.1 x) m)).2}:=⟨λs G h=>tu h Af (λn hn=>(hn.der x y _ (Nw (hn.at x).2 m)).mono Af) λn G hn h9=>M2 p.h S.H n hn h9 s.H h.ho x y m G⟩
instance{x y:Ch}:EK prog F C b p 210 [pV p.h,Fy x,Fy y] k S k (iV (JR S.H x y).1) {S with H:=(JR S.H x y).2}:=⟨λs G h=>tu h Af (λn hn=>(hn.move x y).mono Af) λn G hn _=>jg p.h S.H n hn s.H h.ho x y G⟩
instance{x y:Ch}:EK prog F C b p 211 [pV p.h,Fy x,Fy y] k S k (iV (Mh S.H x y).1) {S with H:=(Mh S.H x y).2}:=⟨λs G h=>tu h Af (λn hn=>(hn.swap x y).mono Af) λn G hn _=>jh p.h S.H n hn s.H h.ho x y G⟩
instance{x:Ch}:EK prog F C b p 327 [pV p.h,Fy x] k S k (.tuple #[Vs (D3 S.H x).1.1,iV (D3 S.H x).1.2]) {S with H:=(D3 S.H x).2}:=⟨λs G h=>tu h Af (λn hn=>(hn.clear x).mono Af) λn G hn h9=>cD p.h S.H n hn h9 s.H h.ho x G⟩
instance{id:Int}:EK prog F C b p 147 [pV p.n,ι id] k S k (.tuple #[iV (As.addP S.N id).1,iV (As.addP S.N id).2.1]) {S with N:=(As.addP S.N id).2.2}:=⟨λs G h=>lfN h Af (λn hn=>by unfold As.addP;(repeat' split)<;>exact h.giv n hn) λG=>As.addPool_any p.n S.N id G⟩
instance{o r:Int}:EK prog F C b p 148 [pV p.n,ι o,ι r] (k+1) S k (.tuple #[iV (As.assignP S.N o r).1,iV (As.assignP S.N o r).2.1,iV (As.assignP S.N o r).2.2.1]) {S with N:=(As.assignP S.N o r).2.2.2}:=⟨λs G h=>lfN h Af (λn hn=>by
 have:=h.giv n hn;unfold As.assignP
 (repeat' split)<;>(try simp only[As.ASt.give,Qu.upd,As.upd])<;>(repeat' split)<;>(try subst_vars)<;>(try omega)) λG=>As.assign_any p.n S.N o r G λn hn=>by have:=h.giv n hn;omega⟩
instance{r:Int}:EK prog F C b p 385 [pV p.n,ι r] k S k (.tuple #[iV (As.unP S.N r).1,iV (As.unP S.N r).2.1]) {S with N:=(As.unP S.N r).2.2}:=⟨λs G h=>lfN h Af (λn hn=>by unfold As.unP;(repeat' split)<;>exact h.giv n hn) λG=>As.unassign_any p.n S.N r G⟩
theorem tC{u:Int}(h:En.OneAt D u):En.OneAt (En.removeD D t).2 u:=by
 unfold En.removeD
 split
 ·exact h
 ·rename_i x hx;refine fM h λhu y hy Tw=>?_;exact h y x hy (BE hx) Tw (Gv hu)
theorem tD(h: ∀x,x∈D->x.2.1.length<=m): ∀x,x∈(En.removeD D t).2->x.2.1.length<=m:=by
 unfold En.removeD
 split
 ·exact h
 ·rename_i x hx;refine fO h ?_;have:=h x (BE hx);simp only[Gm];split<;>omega
instance{t:Int}:EK prog F C b p 259 [pV p.e,ι t] k S k (.bool (En.removeD S.E t).1) {S with E:=(En.removeD S.E t).2}:=⟨λs G h=>lfE h Af (λy hy=>by have:=tD (m:=900-k) (λx hx=>by have:=h.el x hx;omega) y hy;have:=h.tl;omega) (λu=>tC (h.eo u)) λG=>En.remove_any p.e S.E s.E t h.en h.el9 (h.eo t) G⟩
instance{id:Int}:EK prog F C b p 263 [pV p.e,ι id] k S k (.tuple #[iV (En.firstD S.E id).1,.bool (En.firstD S.E id).2.1,.bool (En.firstD S.E id).2.2]) S:=⟨λs G h=>
 (En.first_any p.e S.E s.E id h.en h.el9 (AA b p s S G) (mE λ_ h=>h)).re .refl λv l' ⟨h1,cs,h2⟩=>⟨AA b p s S (cs++G),by rw[h2];exact .of_perm (Fv ..),h1,s,_,h,⟨cs,rfl⟩,rfl⟩⟩
end
section
instance:QF prog 136 [pV b] (AA b p s S G) (pV p.a):=⟨λl hl=>UE b p l (mR hl)⟩
instance:QF prog 143 [pV b] (AA b p s S G) (pV p.h):=⟨λl hl=>D4 b p l (mR hl)⟩
instance:QF prog 146 [pV b] (AA b p s S G) (pV p.n):=⟨λl hl=>LA b p l (mR hl)⟩
instance:QF prog 94 [pV b] (AA b p s S G) (pV p.t):=⟨λl hl=>NJ b p l (mR hl)⟩
instance:QF prog 86 [pV b] (AA b p s S G) (pV p.m):=⟨λl hl=>UF b p l (mR hl)⟩
instance:QF prog 99 [pV b] (AA b p s S G) (pV p.c):=⟨λl hl=>cQ b p l (mR hl)⟩
instance:QF prog 101 [pV b] (AA b p s S G) (pV p.q):=⟨λl hl=>cR b p l (mR hl)⟩
instance:QF prog 262 [pV b] (AA b p s S G) (pV p.e):=⟨λl hl=>WC b p l (mR hl)⟩
instance{kd sz:Int}{l:Ac}:QF prog 50 [ι kd,ι sz] l (iV (Ar.framesD kd sz)):=⟨λl _=>Ar.frames_any kd sz l⟩
instance{kd sz:Int}{l:Ac}:QF prog 68 [ι kd,ι sz] l (iV (Ar.slotsD kd sz)):=⟨λl _=>Ar.slots_any kd sz l⟩
instance{c:CapT}{l:Ac}:QF prog 185 [Vs c] l (.bool (E5 c)):=⟨λl _=>IH c l⟩
end
section
theorem fR{sw:Sw}{fr:Fr}{l l':Ac}(p:l.Perm l')(h:PlanS P ro N E ops Q R tbl sw sp pl fr ds l):PlanS P ro N E ops Q R tbl sw sp pl fr ds l':=by
 induction h generalizing l' with
 |nil h=>exact .nil (KG (.of_perm p.symm) h)
 |q h1 h2 h3 _ ih=>exact .q h1 h2 h3 (ih p)
 |gq h1 h2 h3 h4 h5 h6 _ ih=>exact .gq h1 h2 h3 h4 h5 h6 (ih p)
 |gs h1 h2 h3 h4 h5 h6 h7 h8 h9 _ ih=>exact .gs h1 h2 h3 h4 h5 h6 (λc hc=>p.mem_iff.1 (h7 c hc)) h8 (λhk x hx ha c hc=>p.mem_iff.1 (h9 hk x hx ha c hc)) (ih p)
 |gu h1 h2 h3 h4 h5 h7 h8 h9 _ ih=>exact .gu h1 h2 h3 h4 h5 (λc hc=>p.mem_iff.1 (h7 c hc)) h8 (λhk x hx ha c hc=>p.mem_iff.1 (h9 hk x hx ha c hc)) (ih p)
 |e h1 h2 h3 h4 h5 h6 ih=>exact .e (OpE.re (.of_perm p.symm) h1 λv l2 hk=>⟨l2,.refl,hk⟩) h2 h3 h4 h5 h6
 |ge h1 h2 h3 h4 h5 h6 h7 h8 h9 ih=>exact .ge (OpE.re (.of_perm p.symm) h1 λv l2 hk=>⟨l2,.refl,hk⟩) h2 h3 h4 h5 h6 h7 h8 h9
 |weak h1 _ ih=>exact .weak h1 (ih p)
 |sq h1 h2 h3 h4 _ ih=>exact .sq h1 (λc hc=>p.mem_iff.1 (h2 c hc)) h3 h4 (ih p)
 |alt oo K rf sf h1 h2 h3 h4 ih=>exact .alt oo K rf sf h1 (λj hj=>⟨OpE.re (.of_perm p.symm) (h2 j hj).1 λv l2 hk=>⟨l2,.refl,hk⟩,(h2 j hj).2⟩) h3 h4
 |alt2 h1 h2 h3 h4 _ _ ih1 ih2=>exact .alt2 h1 h2 h3 h4 (ih1 p) (ih2 p)
abbrev WD:=Nat×Oper×(Value->Ac->Prop)
abbrev VL(x:WD):BI:=(x.1,false,x.2.1)
def FLe(fr fr':Fr):Prop:= ∀d v,Cc fr d=some v->Cc fr' d=some v
structure IsAd(P:Program)(ro:Option Nat)(N:Nat)(fr:Fr)(l:Ac)(x:WD):Prop where
 law': ∀l',(∀c,c∈l->c∈l')->OpE P ro N fr l' x.2.1 λv l2=> ∃cs,x.2.2 v cs/\l2=cs++l'
 guard:x.2.1.guard=none
 dst: ∃d,x.2.1.dst=some d/\Nat.blt d N=true/\Cc fr d=none
theorem OpE.le{fr:Fr}{l:Ac}{o:Oper}(h:FLe fr fr')(ho:OpE P ro N fr l o K):OpE P ro N fr' l o K:=⟨ho.nodef,λE a W hf hs=>ho.val E a W (hf.sub h) hs⟩
theorem OpQ.le{fr fr':Fr}{l:Ac}{o:Oper}{v:Value}(h:FLe fr fr')(ho:OpQ P ro N fr l o v):OpQ P ro N fr' l o v:=⟨λl' hl=>(ho.run l' hl).le h⟩
theorem IsAd.law{fr:Fr}{l:Ac}{x:WD}(h:IsAd P ro N fr l x)(fr':Fr)(l':Ac)(h1:FLe fr fr')(h2: ∀c,c∈l->c∈l'):OpE P ro N fr' l' x.2.1 λv l2=> ∃cs,x.2.2 v cs/\l2=cs++l':=(h.law' l' h2).le h1
def AddK:List WD->Fr->Ac->(Fr->Ac->Prop)->Prop
 |[],fr,l,k=>k fr l
 |x::xs,fr,l,k=> ∀v cs,x.2.2 v cs->AddK xs (ID x.2.1.dst v fr) (cs++l) k
theorem AddK.mono{k k':Fr->Ac->Prop}(h: ∀fr l,k fr l->k' fr l): ∀{xs:List WD} {fr:Fr} {l:Ac},AddK xs fr l k->AddK xs fr l k'
 |[],_,_,hk=>h _ _ hk
 |x::xs,_,_,hk=>λv cs hx=>AddK.mono h (hk v cs hx)
def Inv(k:Fr->Ac->Prop):Prop:= ∀fr fr' l l',FLe fr fr'->l.Perm l'->k fr l->k fr' l'
theorem HV{d:Nat}{fr:Fr}:Cc (ID (some d) v fr) e=if d=e then some v else Cc fr e:=by
 show(bif Nat.beq d e then some v else Cc fr e)=_;by_cases h:d=e
 ·subst h;simp
 ·rw[Ab h];have:Nat.beq d e=false:=by cases hb:Nat.beq d e;rfl;exact absurd (FU hb) h
  rw[this];rfl
theorem FLe.put{fr:Fr}(h:FLe fr fr')(d:Option Nat)(v:Value):FLe (ID d v fr) (ID d v fr'):=by
 cases d with
 |none=>exact h
 |some d=>intro e u hu;rw[HV] at hu⊢;split at hu<;>simp_all [FLe]
theorem AddK.inv{k:Fr->Ac->Prop}(hk:Inv k): ∀{xs:List WD} {fr fr':Fr} {l l':Ac},FLe fr fr'->l.Perm l'->AddK xs fr l k->AddK xs fr' l' k
 |[],_,_,_,_,h1,h2,h=>hk _ _ _ _ h1 h2 h
 |x::xs,_,_,_,_,h1,h2,h=>λv cs hx=>AddK.inv hk (h1.put _ _) (h2.append_left cs) (h v cs hx)
theorem ZI{d:Nat}(h:d≠e)(u v:Value)(fr:Fr):FLe (ID (some d) u (ID (some e) v fr)) (ID (some e) v (ID (some d) u fr)):=by
 intro k w hw;simp only[HV] at hw⊢;by_cases h1:d=k
 ·subst h1;rw[Ad rfl] at hw;rw[Ab (FW h),Ad rfl];exact hw
 ·rw[Ab h1] at hw;rw[Ab h1];exact hw
theorem AddK.first{k:Fr->Ac->Prop}(hk:Inv k){a:WD}{da:Nat}(ha:a.2.1.dst=some da): ∀{xs:List WD} {fr:Fr} {l:Ac},(∀x,x∈xs-> ∃d,x.2.1.dst=some d/\d≠da)->AddK (xs++[a]) fr l k->AddK (a::xs) fr l k
 |[],_,_,_,h=>h
 |x::xs,fr,l,hx,h=>λv cs hv u us hu=>by
  have h1:=AddK.first hk ha (λy hy=>hx y (An _ hy)) (h u us hu) v cs hv;obtain⟨d,hd,GS⟩:=hx x Al;refine AddK.inv hk ?_ ?_ h1
  ·rw[hd,ha];exact ZI (FW GS) _ _ _
  ·exact AC cs us l
theorem fS{sp:F5}{ds:List Deferred}{A6:List BI}: ∀(xs:List WD) {fr0 fr:Fr} {l0 l:Ac},FLe fr0 fr->(∀c,c∈l0->c∈l)->(∀x,x∈xs->IsAd P ro N fr0 l0 x)->(xs.map λx=>x.2.1.dst).Nodup->(∀x,x∈xs-> ∀d,x.2.1.dst=some d->Cc fr0 d=none)->(∀c,c∈R->c∈l0)->(∀x,x∈sp-> ∀c,c∈x.2->c∈l0)->
 AddK xs fr l (λfr' l'=>PlanS P ro N E ops Q R tbl none sp A6 fr' ds l')->PlanS P ro N E ops Q R tbl none sp (xs.map VL++A6) fr ds l
 |[],_,_,_,_,_,_,_,_,_,_,_,h=>h
 |x::xs,fr0,fr,l0,l,h1,h2,hx,hn,hf,hR,hS,h=>by
  have hI:=hx x Al;obtain⟨d,hd,hb,aO⟩:=hI.dst;refine .e (hI.law fr l h1 h2) hI.guard (by rw[hd];exact hb) ?_ ?_ ?_
  ·rintro v l' ⟨cs,_,rfl⟩ c hc;exact Aa _ (h2 _ (hR c hc))
  ·rintro v l' ⟨cs,_,rfl⟩ y hy _ c hc;exact Aa _ (h2 _ (hS y hy c hc))
  ·rintro v l' ⟨cs,hk,rfl⟩;refine fS xs (fr0:=fr0) ?_ (λc hc=>Aa _ (h2 c hc)) (λy hy=>hx y (An _ hy)) (AQ.1 hn).2 (λy hy=>hf y (An _ hy)) hR hS (h v cs hk);intro e u hu;show Cc (ID x.2.1.dst v fr) e=_;rw[hd,HV]
   split
   ·rename_i e1;subst e1;rw[aO] at hu;cases hu
   ·exact h1 e u hu
abbrev q8(x:Nat×Oper):BI:=(x.1,true,x.2)
def QK(P:Program)(ro:Option Nat)(N:Nat)(R:Ac):List (Nat×Oper)->Fr->(Fr->Prop)->Prop
 |[],fr,k=>k fr
 |x::xs,fr,k=> ∃v d,OpQ P ro N fr R x.2 v/\x.2.guard=none/\x.2.dst=some d/\Nat.blt d N=true/\QK P ro N R xs ((d,v)::fr) k
theorem QK.plan{sw:Sw}{sp:F5}{ds:List Deferred}{A6:List BI}{l:Ac}: ∀{qs:List (Nat×Oper)} {fr:Fr},QK P ro N R qs fr (λfr'=>PlanS P ro N E ops Q R tbl sw sp A6 fr' ds l)->PlanS P ro N E ops Q R tbl sw sp (qs.map q8++A6) fr ds l
 |[],_,h=>h
 |x::qs,fr,h=>by obtain⟨v,d,h1,h2,h3,h4,h5⟩:=h;exact .q h1 h2 (by rw[h3];exact h4) (by rw[h3];exact QK.plan h5)
theorem QK.mono{k k':Fr->Prop}(h: ∀fr,k fr->k' fr): ∀{qs:List (Nat×Oper)} {fr:Fr},QK P ro N R qs fr k->QK P ro N R qs fr k'
 |[],_,hk=>h _ hk
 |x::qs,_,⟨v,d,h1,h2,h3,h4,h5⟩=>⟨v,d,h1,h2,h3,h4,QK.mono h h5⟩
theorem QK.le{k:Fr->Prop}(hk: ∀fr fr',FLe fr fr'->k fr->k fr'): ∀{qs:List (Nat×Oper)} {fr fr':Fr},FLe fr fr'->QK P ro N R qs fr k->QK P ro N R qs fr' k
 |[],_,_,h,hq=>hk _ _ h hq
 |x::qs,_,_,h,⟨v,d,h1,h2,h3,h4,h5⟩=>⟨v,d,h1.le h,h2,h3,h4,QK.le hk (h.put (some d) v) h5⟩
theorem FLe.low{fr:Fr}{d:Nat}(h1:FLe fr0 fr)(hd:Cc fr0 d=none):FLe fr0 (ID (some d) v fr):=λe u hu=>by
 rw[HV]
 split
 ·rename_i e1;subst e1;rw[hd] at hu;cases hu
 ·exact h1 e u hu
theorem QK.low{fr0:Fr}{k:Fr->Prop}: ∀{qs:List (Nat×Oper)} {fr:Fr},(∀x,x∈qs-> ∀d,x.2.dst=some d->Cc fr0 d=none)->FLe fr0 fr->QK P ro N R qs fr k->QK P ro N R qs fr (λeu=>FLe fr0 eu/\k eu)
 |[],_,_,h,hk=>⟨h,hk⟩
 |x::qs,_,hq,h,⟨v,d,h1,h2,h3,h4,h5⟩=>⟨v,d,h1,h2,h3,h4,QK.low (λy hy=>hq y (An _ hy)) (h.low (hq x Al d h3)) h5⟩
theorem QK.first{k:Fr->Ac->Prop}(hk:Inv k){a:WD}{da:Nat}(ha:a.2.1.dst=some da): ∀{qs:List (Nat×Oper)} {fr:Fr} {l:Ac},Cc fr da=none->(∀x,x∈qs->x.2.dst≠some da)->QK P ro N R qs fr (λfr'=>AddK [a] fr' l k)->AddK [a] fr l (λfr' l'=>QK P ro N R qs fr' (λeu=>k eu l'))
 |[],_,_,_,_,h=>h
 |x::qs,fr,l,hn,hx,⟨v,d,h1,h2,h3,h4,h5⟩=>by
  have GS:d≠da:=λe=>hx x Al (by rw[h3,e]);intro u us hu;show QK P ro N R (x::qs) (ID a.2.1.dst u fr) _;rw[ha];refine⟨v,d,h1.le ?_,h2,h3,h4,?_⟩
  ·intro e w hw;rw[HV]
   split
   ·rename_i e1;subst e1;rw[hn] at hw;cases hw
   ·exact hw
  ·have h6:=QK.first hk ha (fr:=(d,v)::fr) (by show Cc (ID (some d) v fr) da=none;rw[HV,Ab GS];exact hn) (λy hy=>hx y (An _ hy)) h5 u us hu;have h7:QK P ro N R qs (ID a.2.1.dst u ((d,v)::fr)) (λeu=>k eu (us++l)):=h6;rw[ha] at h7;exact QK.le (λfr fr' h h'=>hk _ _ _ _ h (.refl _) h') (ZI (FW GS) u v fr) h7
def XL(ops:Array Oper)(tbl:List (List Nat))(qs:List BI)(a:BI)(A6:List BI):List BI->Bool
 |[]=>GE ops tbl none A6
 |x::xs=>x.1 !=a.1&&GE ops tbl (some (xs.map λy=>(y.1,a.1))) (xs++(qs++a::A6))&&GE ops tbl none (x::xs++(qs++A6))&&XL ops tbl qs a A6 xs
theorem jr{a:BI}(xs:List WD):VC (some (xs.map λy=>(y.1,a.1))) (xs.map VL++A6)=true:=by show(xs.map λy=>(y.1,a.1)).all _=true;rw[AS];intro p hp;obtain⟨y,hy,rfl⟩:=Ax.1 hp;rw[Ia];exact⟨VL y,Ai _ (List.mem_map_of_mem hy),by simp⟩
theorem AddK.snoc{a:WD}{k:Fr->Ac->Prop}: ∀{xs:List WD} {fr:Fr} {l:Ac},AddK xs fr l (λfr' l'=>AddK [a] fr' l' k)->AddK (xs++[a]) fr l k
 |[],_,_,h=>h
 |x::xs,_,_,h=>λv cs hv=>AddK.snoc (h v cs hv)
theorem AddK.none'{fr0:Fr}{da:Nat}: ∀{xs:List WD} {fr:Fr} {l:Ac} {k:Fr->Ac->Prop},Cc fr da=none->(∀x,x∈xs-> ∃d,x.2.1.dst=some d/\d≠da)->AddK xs fr l k->AddK xs fr l (λfr' l'=>Cc fr' da=none/\k fr' l')
 |[],_,_,_,h,_,hk=>⟨h,hk⟩
 |x::xs,fr,l,k,h,hx,hk=>λv cs hv=>by obtain⟨d,hd,GS⟩:=hx x Al;exact AddK.none' (fr0:=fr0) (by rw[hd,HV,Ab GS];exact h) (λy hy=>hx y (An _ hy)) (hk v cs hv)
theorem oa{qs:List (Nat×Oper)}{a:WD}{l0:Ac}(hR: ∀c,c∈R->c∈l0)(hS: ∀x,x∈sp-> ∀c,c∈x.2->c∈l0)(ha:IsAd P ro N fr0 l0 a){da:Nat}(rP:a.2.1.dst=some da)(hq: ∀x,x∈qs->x.2.dst≠some da)(xI: ∀x,x∈qs-> ∀d,x.2.dst=some d->Cc fr0 d=none): ∀(xs:List WD) {fr:Fr} {l:Ac},FLe fr0 fr->Cc fr da=none->(∀c,c∈l0->c∈l)->(∀x,x∈xs->IsAd P ro N fr0 l0 x)->((xs++[a]).map λx=>x.2.1.dst).Nodup->XL ops tbl (qs.map q8) (VL a) A6 (xs.map VL)=true->
 AddK xs fr l (λfr1 l1=>QK P ro N R qs fr1 λeu=>AddK [a] eu l1 (λfr' l'=>PlanS P ro N E ops Q R tbl none sp A6 fr' ds l'))->PlanS P ro N E ops Q R tbl (some (xs.map λx=>(x.1,a.1))) sp (xs.map VL++(qs.map q8++VL a::A6)) fr ds l:=by
 have Afb:Inv (λfr' l'=>PlanS P ro N E ops Q R tbl none sp A6 fr' ds l'):=λfr fr' l l' h1 h2 h=>fR h2 (.weak h1 h);obtain⟨da',hda',hba,hfa⟩:=ha.dst;obtain rfl:da=da':=by rw[rP] at hda';cases hda';rfl
 have low: ∀{fr:Fr} {d:Nat} {v:Value},FLe fr0 fr->Cc fr0 d=none->FLe fr0 (ID (some d) v fr):=λ{fr d v} h1 hd=>h1.low hd;intro xs
 induction xs with
 |nil=>
  intro fr l h1 h0 h2 hx hn Dh hk;refine QK.plan (QK.mono ?_ (QK.low xI h1 hk))
  ·rintro eu ⟨JP,LH⟩;have ho:=ha.law eu l JP h2;refine .alt (λ_=>a.2.1) (λ_ v l2=> ∃cs,a.2.2 v cs/\l2=cs++l) (λ_=>A6) (λ_=>none) (λj hj=>?_) (λj hj=>⟨ho,by rw[ha.guard];rfl,by rw[rP];exact hba⟩) (λj hj=>?_) λj hj=>?_
   ·rcases hj with rfl|⟨h,_⟩
    ·exact⟨.refl _,Dh,rfl⟩
    ·simp[PD] at h
   ·rintro v l' ⟨cs,_,rfl⟩;exact⟨λc hc=>Aa _ (h2 _ (hR c hc)),λy hy _ c hc=>Aa _ (h2 _ (hS y hy c hc))⟩
   ·rintro v l' ⟨cs,hv,rfl⟩;exact LH v cs hv
 |cons x xs ih=>
  intro fr l h1 h0 h2 hx hn Dh hk;have hI:=hx x Al;obtain⟨d,hd,hb,aO⟩:=hI.dst;simp only[AK,XL,AM,P0,ne_eq] at Dh;obtain⟨⟨⟨GS,it⟩,P1⟩,Dh⟩:=Dh;have VU: ∀j,PE tbl (some ((x::xs).map λx=>(x.1,a.1))) x.1 (xs.map VL++(qs.map q8++VL a::A6)) j->j=x.1\/j=a.1:=λj hj=>by
   rcases hj with h|⟨h,_⟩
   ·exact .inl h
   ·simp only[PD,JM,Ax,Prod.mk.injEq] at h;obtain⟨y,_,_,h⟩:=h;exact .inr h.symm
  have ry: ∀y,y∈x::xs-> ∃d,y.2.1.dst=some d/\d≠da:=λy hy=>by obtain⟨d',rD,_⟩:=(hx y hy).dst;refine⟨d',rD,λe=>?_⟩;rw[At,BC] at hn;exact hn.2.2 y.2.1.dst (Ax.2 ⟨y,hy,rfl⟩) a.2.1.dst (Ax.2 ⟨a,Al,rfl⟩) (by rw[rD,rP,e])
  refine .alt (λk=>if k=x.1 then x.2.1 else a.2.1) (λk v l2=>if k=x.1 then∃cs,x.2.2 v cs/\l2=cs++l else∃cs,a.2.2 v cs/\l2=cs++l) (λk=>if k=x.1 then xs.map VL++(qs.map q8++VL a::A6) else(x::xs).map VL++(qs.map q8++A6)) (λk=>if k=x.1 then some (xs.map λx=>(x.1,a.1)) else none) (λk hk=>?_) (λk hk=>?_) (λk hk=>?_) λk hk=>?_;all_goals rcases VU k hk with h|h
  ·subst h;simp only[CV];exact⟨.refl _,by rw[CO] at it;exact it,jr (a:=VL a) xs⟩
  ·subst h;simp only[Ab (FW GS)];refine⟨?_,P1,rfl⟩;show(VL a::((x::xs).map VL++(qs.map q8++A6))).Perm ((x::xs).map VL++(qs.map q8++VL a::A6));rw[<-Am,<-Am];exact AJ.symm
  ·subst h;simp only[CV];exact⟨hI.law fr l h1 h2,by rw[hI.guard];rfl,by rw[hd];exact hb⟩
  ·subst h;simp only[Ab (FW GS)];exact⟨ha.law fr l h1 h2,by rw[ha.guard];rfl,by rw[rP];exact hba⟩
  ·subst h;simp only[CV];rintro v l' ⟨cs,_,rfl⟩;exact⟨λc hc=>Aa _ (h2 _ (hR c hc)),λy hy _ c hc=>Aa _ (h2 _ (hS y hy c hc))⟩
  ·subst h;simp only[Ab (FW GS)];rintro v l' ⟨cs,_,rfl⟩;exact⟨λc hc=>Aa _ (h2 _ (hR c hc)),λy hy _ c hc=>Aa _ (h2 _ (hS y hy c hc))⟩
  ·subst h;simp only[CV];rintro v l' ⟨cs,hv,rfl⟩;rename_i hk0;obtain⟨d',rD,rG⟩:=ry x Al;exact ih (by rw[hd];exact low h1 aO) (by rw[rD,HV,Ab rG];exact h0) (λc hc=>Aa _ (h2 c hc)) (λy hy=>hx y (An _ hy)) (AQ.1 hn).2 Dh (hk0 v cs hv)
  ·subst h;simp only[Ab (FW GS)];rintro v l' ⟨cs,hv,rfl⟩;rename_i hk0;rw[At,BC] at hn;refine fS (x::xs) (by rw[rP];exact low h1 hfa) (λc hc=>Aa _ (h2 c hc)) hx hn.1 (λy hy d hd=>by obtain⟨d',rD,_,h⟩:=(hx y hy).dst;rw[hd] at rD;cases rD;exact h) hR hS ?_;have h8:=AddK.mono (λfr l h=>QK.first Afb rP h.1 hq h.2) (AddK.none' (fr0:=fr0) h0 ry hk0);have AbR:Inv (λfr' l'=>QK P ro N R qs fr' λeu=>PlanS P ro N E ops Q R tbl none sp A6 eu ds l'):=λfr fr' l l' h1 h2 h=>QK.le (λ_ _ h h'=> .weak h h') h1 (QK.mono (λ_ h=>fR h2 h) h);have h9:=AddK.first AbR rP ry (AddK.snoc h8) v cs hv;exact AddK.mono (λ_ _ h=>QK.plan h) h9
def AllAd(P:Program)(ro:Option Nat)(N:Nat)(fr:Fr)(l:Ac):List WD->Prop
 |[]=>True
 |x::xs=>IsAd P ro N fr l x/\AllAd P ro N fr l xs
theorem AllAd.mem{fr:Fr}{l:Ac}: ∀{xs:List WD},AllAd P ro N fr l xs-> ∀x,x∈xs->IsAd P ro N fr l x
 |[],_,x,hx=>by cases hx
 |y::ys,h,x,hx=>by
  rcases Au.1 hx with rfl|hx
  ·exact h.1
  ·exact AllAd.mem h.2 x hx
def ndB:List (Option Nat)->Bool
 |[]=>true
 |x::xs=>!xs.contains x&&ndB xs
theorem ZJ: ∀{xs:List (Option Nat)},ndB xs=true->xs.Nodup
 |[],_=>List.nodup_nil
 |x::xs,h=>by simp only[ndB,AM,Ei,List.contains_eq_mem,Fp] at h;exact AQ.2 ⟨h.1,ZJ h.2⟩
def UG(fr:Fr):List (Option Nat)->Bool
 |[]=>true
 |some d::r=>(Cc fr d).isNone&&UG fr r
 |none::r=>UG fr r
theorem Mm{fr:Fr}: ∀{xs:List (Option Nat)},UG fr xs=true-> ∀d,some d∈xs->Cc fr d=none
 |[],_,d,h=>by cases h
 |some e::r,h,d,hd=>by
  simp only[UG,AM,Option.isNone_iff_eq_none] at h;rcases Au.1 hd with h2|h2
  ·cases h2;exact h.1
  ·exact Mm h.2 d h2
 |none::r,h,d,hd=>by
  rcases Au.1 hd with h2|h2
  ·cases h2
  ·exact Mm (xs:=r) h d h2
theorem tE{L:List (Nat×Nat)}{fr:Fr}{l:Ac}(xs:List WD)(qs:List (Nat×Oper))(a:WD)(da:Nat)(hL:xs.map (λx=>(x.1,a.1))=L)(Yj:xs.map VL++(qs.map q8++VL a::A6)=pl)(rP:a.2.1.dst=some da)(hR: ∀c,c∈R->c∈l)(hS: ∀x,x∈sp-> ∀c,c∈x.2->c∈l)(hx:AllAd P ro N fr l xs)(ha:IsAd P ro N fr l a)(hn:ndB ((xs++[a]).map λx=>x.2.1.dst)=true)(Dh:XL ops tbl (qs.map q8) (VL a) A6 (xs.map VL)=true)
 (hqd:(qs.all λx=>x.2.dst !=some da)=true)(xI:UG fr (some da::qs.map λx=>x.2.dst)=true)
 (hk:AddK xs fr l (λfr1 l1=>QK P ro N R qs fr1 λeu=>AddK [a] eu l1 (λfr' l'=>PlanS P ro N E ops Q R tbl none sp A6 fr' ds l'))):PlanS P ro N E ops Q R tbl (some L) sp pl fr ds l:=by
 subst hL Yj;exact oa hR hS ha rP (λx hx=>by simpa using AS.1 hqd x hx) (λx hx d hd=>Mm xI d (An _ (Ax.2 ⟨x,hx,hd⟩))) xs (λ_ _ h=>h) (Mm xI da Al) (λ_ h=>h) hx.mem (ZJ hn) Dh hk
variable{fr:Fr}{l:Ac}{d:Nat}{aft:Array Edge}
theorem Pv{xs:List Operand}{at_:Array TypeId}(hx:ev fr x=some (.func (.func f) #[] #[]))(hy:SC fr xs=some vs)[c:EN P f](h: ∀l',(∀c,c∈l->c∈l')->Fn P f vs l' λv l2=> ∃cs,K v cs/\l2=cs++l')(hb:Nat.blt d N=true)(hf:Cc fr d=none):IsAd P ro N fr l (i,⟨some d,.call {callee:= .value x,args:=xs.toArray,argTypes:=at_},ty,pos,aft,none⟩,K):=
 ⟨λl' h2=>Az hx hy (h l' h2),rfl,d,rfl,hb,hf⟩
theorem od{t:TypeId}{zs:Ap}[c:ZV P t zs](hb:Nat.blt d N=true)(hf:Cc fr d=none):IsAd P ro N fr l (i,⟨some d,.alloc t,ty,pos,aft,none⟩,λv cs=> ∃b,v= π b/\cs=[(b,.cells zs.toArray t (0,0))]):=
 ⟨λl' h2=>e_alloc.mono (by rintro v l2 ⟨b,_,h3,h4⟩;exact⟨_,⟨b,h3,rfl⟩,h4⟩),rfl,d,rfl,hb,hf⟩
end
section
end
section
variable{fr:Fr}{d:Option Nat}{aft:Array Edge}
theorem oe{T off:Nat}(hx:ev fr x=some (.pointer (some ⟨b,off,none⟩)))[c:AT P T n e k]:OpQ P ro N fr R ⟨d,.slice T x none none none,ty,pos,aft,g⟩ (.slice (some ⟨b,off,none⟩) n n):=BO rfl λρ l hρ _=>by
 obtain⟨HH,u1,u2,u3⟩:=MQ c.out;simp only[execOp,hρ x _ hx];rw[AE];unfold Instr.sliceAt;rw[Cg u1];simp only[Instr.sureAddr,AE,Bq,DP,Instr.sliceBounds];rw[HK u2];simp only[Bq,u3];refine⟨?_,trivial⟩
 split<;>simp[GL]
end
def tF(gb:Nat)(W:A8)(a:Int):Value:= .pointer (if OZ W a=0 then some ⟨gb,(a/8).toNat,none⟩ else none)
theorem fT(b gb F:Nat)(W:A8)(h1:F<=64)(hW:W.length=F*8)(a:Int)(a0:0<=a)(a1:a<18446744073709551616)(l:Ac)(hm:PR b gb F∈l):Fn prog 258 [pV b,Bb a] l λv l'=>v= .tuple #[tF gb W a,ι (OZ W a)]/\l'=l:=by
 unfold tF OZ;rw[hW];refine AO func258 ntmps258 λE=>?_;by_cases h8:a%8=0
 case neg=>rw[Ad h8];exact Fd
 rw[Ab (Gw h8)];by_cases hr:a>=((F*8:Nat):Int)*8
 ·rw[Ad hr];exact Fd
 rw[Ab hr];refine Aj ?_;refine Bc .refl ⟨?_,rfl⟩;exact BM (λx=>Value.tuple #[.pointer (some ⟨gb,x,none⟩),ι 0]) Af
theorem AcX(h:i<W.length):(τ (W.map Bb))[i]?=some (Bb (W.getD i 0)):=by rw[AF,A7,Ak h,List.getD,Ak h];rfl
theorem wD(a0:0<=a)(hc:OZ W a=0):(a/8).toNat<W.length:=by
 unfold OZ at hc
 (repeat' split at hc)<;>omega
theorem fV(b gb F:Nat)(W:A8)(h1:F<=64)(hW:W.length=F*8)(a:Int)(a0:0<=a)(a1:a<18446744073709551616)(l:Ac)(m1:PR b gb F∈l)(m2:Uz gb W∈l):Fn prog 202 [pV b,Bb a] l λv l'=>v= .tuple #[Bb (Pu W a).1,iV (Pu W a).2]/\l'=l:=by
 unfold Pu;refine AO func202 ntmps202 λE=>?_;refine Aj ?_;refine Be (AI rfl rfl λl2 JP=>fT b gb F W h1 hW a a0 a1 l2 (JP _ m1)) ?_;unfold tF;by_cases hc:OZ W a=0
 ·have hv:=AcX (wD a0 hc);rw[Ad hc,Ad hc,hc];refine Aj ?_;exact qr
 ·rw[Ab hc,Ab hc];refine Aj ?_;exact qr
section
theorem js(h:IsK F C k S p s)(a:Int)(a0:0<=a)(a1:a<18446744073709551616)(l:Ac)(hl: ∀c,c∈AA b p s S G->c∈l):Fn prog 202 [pV p.m,Bb a] l λv l'=>v= .tuple #[Bb (Pu S.W a).1,iV (Pu S.W a).2]/\l'=l:=by obtain⟨gb,f1,f2,hW,hu,hM⟩:=h.mem;exact fV p.m gb F S.W f2 hW a a0 a1 l (mM hl _ (by rw[hM];simp)) (mM hl _ (by rw[hM];simp))
theorem AcY(W:A8)(i:Nat)(v:Int):(τ (W.map Bb)).setIfInBounds i (Bb v)=τ ((W.set i v).map Bb):=by simp[Ie]
theorem jt{v:Int}(h: ∀w,w∈W->Jj w)(hv:Jj v): ∀w,w∈W.set i v->Jj w:=λw hw=>by
 rcases CS hw with h1|h1
 ·exact h w h1
 ·rw[h1];exact hv
theorem lfM{x:Value}{W':A8}(hK:IsK F C k S p s)(hk:k'<=k)(h: ∀gb G,S.W.length=F*8->F<=64->(∀w,w∈S.W->Jj w)->Fn prog f vs (PR p.m gb F::Uz gb S.W::G) λv l'=>v=x/\W'.length=F*8/\(∀w,w∈W'->Jj w)/\ ∃X,l'=X++PR p.m gb F::Uz gb W'::G):Fn prog f vs (AA b p s S G) (KK F C b p k' x {S with W:=W'} G):=by obtain⟨gb,f1,f2,hW,hu,hM⟩:=hK.mem;exact Fn.re (.of_perm (by unfold AA;rw[hM];exact BV)) (h gb (CH b p::As.asA p.n S.N::(s.C++(s.A++(s.H++(s.T++(s.Q++(s.E++(s.V++G)))))))) hW f2 hu) λv l' ⟨h1,h2,h3,X,h4⟩=>⟨AA b p {s with M:=[PR p.m gb F,Uz gb W']} {S with W:=W'} (X++G),by rw[h4];unfold AA;exact A9 [],h1,{s with M:=[PR p.m gb F,Uz gb W']},_,{hK.mono hk with mem:=⟨gb,f1,f2,h2,h3,rfl⟩},⟨X,rfl⟩,rfl⟩
theorem cT(hK:IsK F C k S p s)(a v:Int)(a0:0<=a)(a1:a<18446744073709551616)(hv:Jj v):Fn prog 201 [pV p.m,Bb a,Bb v] (AA b p s S G) (KK F C b p k (iV (jp S.W a v).1) {S with W:=(jp S.W a v).2} G):=by
 refine lfM hK (Bf _) λgb G hW f2 hu=>?_;have hA:=fT p.m gb F S.W f2 hW a a0 a1;refine AO func201 ntmps201 λE=>?_;refine Aj ?_;refine Be (AI rfl rfl λl2 JP=>hA l2 (JP _ (.head _))) ?_;unfold tF jp;by_cases hc:OZ S.W a=0
 ·have C7:=wD a0 hc;rw[Ad hc,Ad hc,hc];refine Aj ?_;refine Nk (Dy (l':=PR p.m gb F::Uz gb (S.W.set (a/8).toNat v)::G) rfl rfl rfl (by rw[AcY];exact .there .here) (by simpa using C7)) rfl rfl ?_;rintro _ _ ⟨rfl,rfl⟩;refine Aj ?_;exact BF [] rfl .refl Ba ⟨rfl,by simpa using hW,jt hu hv,[],rfl⟩
 ·rw[Ab hc,Ab hc];refine Aj ?_;exact Bc .refl ⟨rfl,hW,hu,[],rfl⟩
theorem Sf(b gb F:Nat)(l:Ac)(m1:PR b gb F∈l):Fn prog 344 [pV b] l λv l'=>v=iV (F:Nat)/\l'=l:=by refine AO func344 ntmps344 λE=>?_;refine Aj ?_;exact qr
end
def XM(W:A8)(f j:Nat):A8:=W.take (8*f)++(replicate (8*j) 0++W.drop (8*(f+j)))
theorem AcZ(W:A8)(f:Nat):XM W f 0=W:=by simp[XM]
theorem XN(hW:W.length=n*8)(h:f+j<=n):(XM W f j).length=n*8:=by unfold XM;simp;omega
theorem wE(f j:Nat)(h: ∀w,w∈W->Jj w): ∀w,w∈XM W f j->Jj w:=λw hw=>by
 rcases AB.1 hw with hw|hw
 ·exact h w (List.mem_of_mem_take hw)
 rcases AB.1 hw with hw|hw
 ·rw[(List.mem_replicate.1 hw).2];exact⟨by decide,by decide⟩
 ·exact h w (List.mem_of_mem_drop hw)
theorem tH(hW:W.length=n*8)(h:f+j<n):Dc (τ ((XM W f j).map Bb)) ((f+j)*8) z8=τ ((XM W f (j+1)).map Bb):=by
 have e1:(XM W f j).map Bb=(W.take (8*f)++replicate (8*j) 0).map Bb++((W.drop (8*(f+j))).take 8).map Bb++(W.drop (8*(f+j)+8)).map Bb:=by rw[<-At,<-At];congr 1;unfold XM;rw[Am,Am,<-Lk,Cs]
 have e2:(XM W f (j+1)).map Bb=(W.take (8*f)++replicate (8*j) 0).map Bb++z8++(W.drop (8*(f+j)+8)).map Bb:=by rw[show z8=(replicate 8 (0:Int)).map Bb from rfl,<-At,<-At];congr 1;unfold XM;rw[Am,Am,show 8*(j+1)=8*j+8 by omega,<-JK,Am];rfl
 rw[e1,e2,show(f+j)*8=((W.take (8*f)++replicate (8*j) 0).map Bb).length by simp;omega];exact Ar.setFrom_mid _ _ _ _ (by simp;omega)
section
theorem og(hK:IsK F C k S p s)(f n:Int):Fn prog 138 [pV p.m,ι f,ι n] (AA b p s S G) (KK F C b p k (iV (tk S.W f n).1) {S with W:=(tk S.W f n).2} G):=by
 refine lfM hK (Bf _) λgb G hW f2 hu=>?_;unfold tk;rw[show nF S.W=F by unfold nF;omega];refine AO func138 ntmps138 λE=>?_;refine Aj ?_;refine AP (EA rfl rfl) ?_;rintro _ _ ⟨b4,_,rfl,rfl⟩;refine AP (EA rfl rfl) ?_;rintro _ _ ⟨b5,_,rfl,rfl⟩;refine Aj ?_;refine Ct [] 27 _ ?_ (hR:=(λ_ h=>h));by_cases aU:f<0\/f>=F\/n<0\/n>F-f
 ·rw[Ad aU];by_cases h1:f<0<;>by_cases h2:f>=F<;>by_cases h3:n<0<;>by_cases h4:n>F-f;all_goals first
   |(exfalso;omega)
   |(refine BJ ?_
     refine Aj ?_;exact Bc θ ⟨rfl,hW,hu,[],rfl⟩)
 rw[Ab aU];obtain⟨f,rfl⟩: ∃q:Nat,f=q:=⟨f.toNat,Af⟩
 obtain⟨n,rfl⟩: ∃q:Nat,n=q:=⟨n.toNat,Af⟩
 refine BJ ?_;refine Aj ?_;refine AP (Az rfl rfl (Y5 p.m f _)) ?_;rintro _ _ ⟨B1,B2,rfl,rfl⟩;refine Aj ?_;refine Dj (α:=Nat) (ps:=[42,43]) (lb:=[π B1,π B2]) rfl (Wc B1 B2 p.m gb F f Af f2) (λ_=>rfl) rfl
  (λpre l=>pre.length<=n/\l=[BX B1 f,Yr B2 p.m,BX b5 n,BX b4 f,PR p.m gb F,Uz gb (XM S.W f pre.length)])
  (λc pre l=>c= .exit 1/\l=[BX B1 f,Yr B2 p.m,BX b5 n,BX b4 f,PR p.m gb F,Uz gb (XM S.W f n)])
  _ G (λpre l2 X2 hX h=>by rw[h.2];exact⟨Ai _ Ca,Ai _ Ca,Ai _ Ca⟩) (by rw[EW,AcZ];exact AY) ⟨Bm _,rfl⟩ ?_ ?_ ?_
 ·rintro E r0 Gb pre x l' T ⟨fn,tmps,D,rfl⟩ hT ⟨hj,rfl⟩ DG;obtain⟨j,hj2⟩:=ξ pre.length
  obtain⟨hx,hxF⟩:x=f+j/\x<F:=by have h3:=JN DG (i:=j) (by simp;omega);rw[Im Af] at h3;have h4:=DG.length_le;simp[hj2] at h3 h4;omega
  subst hx;rw[hj2] at hj⊢;simp only[DY,Ae,Ag];refine Aj ?_;refine CP D1 ?_;refine Aj ?_;by_cases hb:((f+j:Nat):Int)-f>=n
  ·have:j=n:=by omega
   subst this;refine Aj ?_;refine Fe [BX B1 f,Yr B2 p.m,BX b5 j,BX b4 f,PR p.m gb F,Uz gb (XM S.W f j)] AY ⟨rfl,rfl⟩
  ·refine Aj ?_;refine Be (FR (zs:=z8) (cs:=z8) rfl rfl) ?_;refine Acz ?_;refine Nk (EG (cs:=τ ((XM S.W f j).map Bb)) (ws:=τ z8) (n:=8) (off:=(f+j)*8) (l':=BX B1 f::Yr B2 p.m::BX b5 n::BX b4 f::PR p.m gb F::Uz gb (XM S.W f (j+1))::_) rfl rfl rfl (by simp[Value.oneCell']) (by rw[tH hW hxF];exact D1) (by simp[XN hW (by omega:f+j<=F)];omega)) rfl rfl ?_;rintro _ _ ⟨rfl,rfl⟩;refine Aj ?_;exact Cn [BX B1 f,Yr B2 p.m,BX b5 n,BX b4 f,PR p.m gb F,Uz gb (XM S.W f (j+1))] .refl ⟨by simp;omega,by simp[hj2]⟩
 ·rintro D xs l' rfl ⟨hj,rfl⟩;rw[List.length_range'] at hj⊢;have:F-f=n:=by omega
  rw[this];simp only[Ae,Ag];refine Aj ?_;exact AU [D] _ rfl (l':=PR p.m gb F::Uz gb (XM S.W f n)::G) AY Ba AY ⟨rfl,XN hW Af,wE f n hu,[],rfl⟩
 ·rintro D c pre l' DG ⟨rfl,rfl⟩;simp only[Ae,Ag];refine Aj ?_;exact AU [D] _ rfl (l':=PR p.m gb F::Uz gb (XM S.W f n)::G) AY Ba AY ⟨rfl,XN hW Af,wE f n hu,[],rfl⟩
instance{f n:Int}:EK prog F C b p 138 [pV p.m,ι f,ι n] k S k (iV (tk S.W f n).1) {S with W:=(tk S.W f n).2}:=⟨λs G h=>og h f n⟩
theorem Ac0: ∀(D:List α),D.length=8-> ∃a b c d e f g i,D=[a,b,c,d,e,f,g,i]
 |[a,b,c,d,e,f,g,i],_=>⟨a,b,c,d,e,f,g,i,rfl⟩
abbrev w8C(B:Nat)(ws:A8):Bh:=(B,.cells (τ (ws.map Bb)) 254 (0,0))
def IsWd(W:A8)(f:Int)(sl:Value)(X:Ac):Prop:=if 0<=f/\f<nF W then∃B,sl= .slice (some ⟨B,0,none⟩) 8 8/\X=[w8C B ((W.drop (8*f.toNat)).take 8)] else sl= .slice none 0 0/\X=[]
theorem cU(h:IsK F C k S p s)(f:Int):Fn prog 87 [pV p.m,ι f] (AA b p s S G) λv l'=> ∃sl X e,v= .tuple #[sl,iV e]/\IsWd S.W f sl X/\l'=X++AA b p s S G:=by
 obtain⟨gb,f1,f2,hW,hu,hM⟩:=h.mem;have m1:PR p.m gb F∈AA b p s S G:=mM (λ_ h=>h) _ (by rw[hM];simp);have m2:Uz gb S.W∈AA b p s S G:=mM (λ_ h=>h) _ (by rw[hM];simp);have eF:nF S.W=F:=by unfold nF;omega
 refine AO func87 ntmps87 λE=>?_;by_cases h1:f<0
 ·refine Aj ?_;exact BF [] rfl .refl Ba ⟨_,[],_,rfl,by unfold IsWd;rw[eF,Ab Af];exact⟨rfl,rfl⟩,rfl⟩
 by_cases h2:f>=F
 ·refine Aj ?_;exact BF [] rfl .refl Ba ⟨_,[],_,rfl,by unfold IsWd;rw[eF,Ab Af];exact⟨rfl,rfl⟩,rfl⟩
 obtain⟨f,rfl⟩: ∃q:Nat,f=q:=⟨f.toNat,Af⟩
 obtain⟨D,hD⟩:=ξ ((S.W.drop (8*f)).take 8)
 have hx:(τ (S.W.map Bb)).extract (f*8) (f*8+8)=τ (D.map Bb):=by rw[<-hD];simp only[Fi,Co];rw[Hm,List.map_drop,CN,Nb f 8]
 obtain⟨d0,d1,d2,d3,d4,d5,d6,d7,rfl⟩:=Ac0 D (by rw[<-hD];simp;omega);simp only[AK,CZ] at hx;refine Aj ?_;refine Be (Dp (n:=8) rfl m2 (by simp;omega) hx) ?_;refine AR λB=>?_;refine Be (oe rfl) ?_;refine Aj ?_;exact BF [] rfl .refl Ba ⟨_,[w8C B [d0,d1,d2,d3,d4,d5,d6,d7]],_,rfl,by unfold IsWd;rw[eF,Ad Af];exact⟨B,rfl,by rw[AV,hD]⟩,rfl⟩
end
def Hl(va:Int):Int×Int:=if va>=32768 then(0,3) else(va/64,0)
theorem ju(va:Int)(a0:0<=va)(a1:va<18446744073709551616)(l:Ac):Fn prog 257 [Bb va] l λv l'=>v= .tuple #[iV (Hl va).1,iV (Hl va).2]/\l'=l:=by
 unfold Hl;refine AO func257 ntmps257 λE=>?_;by_cases h:va>=32768
 ·rw[Ad h];exact Fd
 ·rw[Ab h];exact Fd
theorem cV(pg lv:Int)(l:Ac):Fn prog 373 [ι pg,ι lv] l λv l'=>v=iV (to pg lv)/\l'=l:=by
 unfold to;refine AO func373 ntmps373 λE=>?_;by_cases hb:pg<0\/pg>=512\/lv<1\/lv>3
 ·rw[Ad hb];by_cases h1:pg<0<;>by_cases h2:pg>=512<;>by_cases h3:lv<1<;>by_cases h4:lv>3;all_goals first
   |(exfalso;omega)
   |(refine Aj ?_
     exact Bc .refl ⟨rfl,rfl⟩)
 rw[Ab hb];obtain rfl|rfl|rfl:lv=1\/lv=2\/lv=3:=by omega
 ·refine Aj ?_;refine Io 3 ?_;refine Aj ?_;refine Fk ?_;refine Aj ?_;refine Fk ?_;refine Aj ?_;refine Bc .refl ⟨?_,rfl⟩;simp[JQ];omega
 ·refine Aj ?_;refine Io 3 ?_;refine Aj ?_;refine Fk ?_;refine Aj ?_;refine Bc .refl ⟨?_,rfl⟩;simp[JQ]
 ·refine Aj ?_;refine Io 3 ?_;refine Aj ?_;refine Bc .refl ⟨?_,rfl⟩;simp[JQ]
instance{pg lv:Int}{l:Ac}:QF prog 373 [ι pg,ι lv] l (iV (to pg lv)):=⟨λl _=>cV pg lv l⟩
theorem ZK(w a n v:Nat)(hw:w<18446744073709551616)(h1:1<=n)(h2:n<=63)(h3:a+n<=64)(hv:v<2^n)(l:Ac):
 Fn prog 333 [υ (w:Nat),ι (a:Nat),ι (n:Nat),υ (v:Nat)] l λr l'=>r= .tuple #[υ (PS w a n v:Nat),ι 0]/\l'=l:=by
 have AbS:v<18446744073709551616:=D8 hv (Cp (n:=2) Af (show n<=64 by omega));have hf:Jz v ((n:Nat):Int)=true:=by rw[Zk AbS Af];exact Aq hv
 have e1:IntKind.u64.wrap (((2^n-1:Nat):Int)*2^a)=(((2^n-1)*2^a:Nat):Int):=by rw[show(2:Int)^a=((2^a:Nat):Int) by simp,<-KB,V9 (Q0 h3)]
 have e2:IntKind.u64.wrap (((v:Nat):Int)*2^a)=((v*2^a:Nat):Int):=by rw[show(2:Int)^a=((2^a:Nat):Int) by simp,<-KB,V9 (fC h3 hv)]
 refine AO func333 ntmps333 λE=>?_;refine gz ?_;refine Be (AI rfl rfl λl2 _=>Zo a n h1 h3 l2) ?_;refine gz ?_;refine Be (AI rfl rfl λl2 _=>QZ v AbS n l2) ?_;rw[hf];refine gz ?_;refine Be (AI rfl rfl λl2 _=>Wp n h1 h2 l2) ?_;refine gz ?_;refine Be (QN (n:=a) (i:=((2^n-1:Nat):Int)) rfl rfl (by show a<=64;omega)) ?_;rw[e1];refine Be (nm rfl rfl hw (Q0 h3)) ?_;refine gz ?_;refine Be (QN (n:=a) (i:=((v:Nat):Int)) rfl rfl (by show a<=64;omega)) ?_;rw[e2];refine Be (Af6 rfl rfl (Ex KA hw) (fC h3 hv)) ?_;rw[sR hw h3 hv];exact Fd
section
variable{fr:Fr}{l:Ac}{d:Option Nat}{aft:Array Edge}{y z:Operand}{u w:Value}{t t2 T kt et:TypeId}
theorem cW{ws:Ap}(hx:ev fr x=some (.agg (τ cs)))(hy:ev fr y=some (.int ki (i:Nat)))[c:AT P t n e k][c2:AG P e k'](hi:i<n)(hw:(cs.drop (i*k)).take k=ws):OpQ P ro N fr R ⟨d,.index t x y,ty,pos,aft,g⟩ (.agg (τ ws)):=BO rfl λρ l hρ _=>by obtain⟨HH,h1,h2,h3⟩:=MQ c.out;obtain⟨u,inf2,u1,u2,u3,u4⟩:=Ki c2.out;rw[h2] at u3;cases u3;subst hw;simp only[execOp,hρ x _ hx,hρ y _ hy];rw[AE];unfold Instr.index;simp only[asIntOf,AE,Bq];rw[<-AE,Cg h1];simp only;rw[Ad ⟨Af,Af⟩,Fa h2];have:=V6 (P:=P) (f:=λv=>(pure v:Sem Value)) (l:=l) (Q:=λa l'=>sl P (pure (Next.value a)) l' λnx l'=>nx= .value (.agg (τ ((cs.drop (i*k)).take k)))/\l'=l) u1 u2 h2 cs (i*k);rw[AE] at this;rw[AV,h3];rw[h3] at this;exact this.2 ⟨rfl,rfl⟩
theorem cX(hx:ev fr x=some (.agg (τ cs)))(hy:ev fr y=some (.int ki (i:Nat)))[c:AT P t n e k][c2:OC P e](hi:i<n)(hv:cs[i*k]?=some v):OpQ P ro N fr R ⟨d,.index t x y,ty,pos,aft,g⟩ v:=BO rfl λρ l hρ _=>by obtain⟨HH,h1,h2,h3⟩:=MQ c.out;obtain⟨u,inf2,u1,u2,_,_⟩:=MR c2.out;simp only[execOp,hρ x _ hx,hρ y _ hy];rw[AE];unfold Instr.index;simp only[asIntOf,AE,Bq];rw[<-AE,Cg h1];simp only;rw[Ad ⟨Af,Af⟩,Fa h2];have:=V7 (P:=P) (f:=λv=>(pure v:Sem Value)) (l:=l) (Q:=λa l'=>sl P (pure (Next.value a)) l' λnx l'=>nx= .value v/\l'=l) u1 u2 cs (i*k) hv;rw[AE] at this;rw[AV,h3];exact this.2 ⟨rfl,rfl⟩
end
instance:EQ prog 389 [none,none,none,none,some .i64]:=⟨Bu⟩
abbrev RJ(B:Nat)(e:Vr):Bh:=(B,.cells (τ (UB e)) 389 (0,0))
abbrev ZL(e:Vr):Value:= .agg (τ (UB e))
theorem enK(e:Vr):AllK [none,none,none,none,some .i64] (UB e):=⟨_,_,rfl,⟨_,rfl⟩,_,_,rfl,⟨_,rfl⟩,_,_,rfl,⟨_,rfl⟩,_,_,rfl,⟨_,rfl⟩,_,_,rfl,⟨_,rfl⟩,rfl⟩
theorem eqE(e f:Vr):BU (UB e) (UB f)=decide (e=f):=by obtain⟨a,b,c,d,x⟩:=e;obtain⟨a',b',c',d',x'⟩:=f;rw[KD];simp[BU,OE]
theorem cY(e:Vr)(l:Ac):Fn prog 332 [ZL e] l λv l'=>v= .bool (VJ e)/\l'=l:=by
 unfold VJ;refine AO func332 ntmps332 λE=>?_;refine AR λb1=>?_;cases hv:e.vd with
 |false=>rw[Ad rfl];refine Aj ?_;refine Be (FC (xs:=UB e) (ys:=UB cM) rfl rfl (enK e) (enK cM)) ?_;rw[eqE];refine Aj ?_;exact qr
 |true=>
  rw[Ab A0];refine Aj ?_;by_cases h:e.fr<0\/e.fr>=64
  ·rw[Ad h];by_cases h1:e.fr<0<;>by_cases h2:e.fr>=64;all_goals first
    |(exfalso;omega)
    |(refine Aj ?_
      exact qr)
  ·rw[Ab h];refine Aj ?_;cases hr:e.rd;all_goals
    refine Aj ?_;exact qr
theorem WE(b:Nat)(l:Ac):Fn prog 334 [pV b] l λv l'=>v= .agg (τ [π b,.pointer (some ⟨b,1,none⟩),.pointer (some ⟨b,2,none⟩),.pointer (some ⟨b,3,none⟩)])/\l'=l:=by
 refine AO func334 ntmps334 λE=>?_;refine AR λb2=>?_;refine CC (Cy [13] 0 14) ?_;iterate 12 refine Y4 ?_
 refine Y4 ?_ (FR (zs:=[.pointer none,.pointer none,.pointer none,.pointer none]) (cs:=[π b,.pointer (some ⟨b,1,none⟩),.pointer (some ⟨b,2,none⟩),.pointer (some ⟨b,3,none⟩)]) rfl rfl);refine my ?_;refine RE ?_;refine Aj ?_;exact qr
theorem wF(w:Nat)(a:Int)(h0:0<=a)(h1:a<64)(hw:w<18446744073709551616)(l:Ac):Fn prog 333 [υ (w:Nat),ι a,ι 1,υ 1] l λr l'=>r= .tuple #[υ (PS w a.toNat 1 1:Nat),ι 0]/\l'=l:=by
 obtain⟨a,rfl⟩: ∃q:Nat,a=q:=⟨a.toNat,Af⟩
 exact ZK w a 1 1 hw A0 A0 Af A0 l
theorem y3(w a:Nat):PS w a 1 1=2^a*(2*(w/2^(a+1))+1)+w%2^a:=rfl
theorem y4(vd lf rd wr:Bool)(f:Nat)(hf:f<64)(hm:VJ ⟨vd,lf,rd,wr,f⟩=true)(l:Ac):Fn prog 294 [.agg (τ [.bool vd,.bool lf,.bool rd,.bool wr,ι (f:Nat)])] l λv l'=>v= .tuple #[Bb ((vd.toNat+2*lf.toNat+4*rd.toNat+8*wr.toNat:Nat)+256*(f:Int)),iV 0]/\l'=l:=by
 refine AO func294 ntmps294 λE=>?_;refine AR λb1=>?_;refine Be (AI rfl rfl λl2 _=>cY ⟨vd,lf,rd,wr,f⟩ l2) ?_;rw[hm];refine Aj ?_;refine Be (AI rfl rfl λl2 _=>ZK 0 8 6 f A0 A0 A0 A0 Af l2) ?_;refine Aj ?_;refine Be (AI rfl rfl λl2 _=>WE b1 l2) ?_;refine Aj ?_;refine Io 4 ?_;cases vd<;>cases lf<;>cases rd<;>cases wr;all_goals first
  |(exfalso;revert hm;simp[VJ];done)
  |(iterate 4
     refine Aj ?_;refine Be (cX rfl rfl A0 rfl) ?_;refine Aj ?_;try(refine Be (AI rfl rfl λl2 _=>wF _ _ A0 A0 (by simp[PS];omega) l2) ?_)
     refine Aj ?_;refine Fk ?_
    refine Aj ?_;refine qr (hx:=?_)
    first|(simp[JQ,PS];done)|(simp[JQ,PS];omega))
theorem ZM(e:Vr)(l:Ac):Fn prog 294 [ZL e] l λv l'=>v= .tuple #[Bb (Q6 e).1,iV (Q6 e).2]/\l'=l:=by
 unfold Q6;cases hm:VJ e with
 |true=>
  obtain⟨vd,lf,rd,wr,fr⟩:=e;obtain⟨f,rfl,hf⟩: ∃f:Nat,fr=f/\f<64:=by
   unfold VJ at hm;cases vd
   ·simp at hm;exact⟨0,Af,Af⟩
   ·simp only[Bool.true_eq_false,C0] at hm
    split at hm
    ·cases hm
    ·exact⟨fr.toNat,Af,Af⟩
  exact y4 vd lf rd wr f hf hm l
 |false=>
 refine AO func294 ntmps294 λE=>?_;refine AR λb1=>?_;refine Be (AI rfl rfl λl2 _=>cY e l2) ?_;rw[hm];refine Aj ?_;exact qr
def XO(w i:Nat):Vr:=⟨w.testBit 0&&decide (0<i),w.testBit 1&&decide (1<i),w.testBit 2&&decide (2<i),w.testBit 3&&decide (3<i),0⟩
def fX(w i:Nat):Nat:=w/256%2^(min i 14-8)
abbrev ZN(j:Nat):Prop:=j<4\/(8<=j/\j<14)
theorem Age{w:Nat}(h:w.testBit i=false):XO w (i+1)=XO w i:=by
 have key: ∀j,(w.testBit j&&decide (j<i+1))=(w.testBit j&&decide (j<i)):=λj=>by
  by_cases e:j=i
  ·subst e;rw[h];rfl
  ·congr 1;exact decide_eq_decide.2 Af
 unfold XO;rw[key,key,key,key]
theorem Ac1{w:Nat}(h:4<=i):XO w (i+1)=XO w i:=by
 have key: ∀j,j<4->(w.testBit j&&decide (j<i+1))=(w.testBit j&&decide (j<i)):=λj hj=>by congr 1;exact decide_eq_decide.2 Af
 unfold XO;rw[key 0 Af,key 1 Af,key 2 Af,key 3 Af]
theorem Agf{w:Nat}(h:w.testBit i=true)(hi:i<4):(τ (UB (XO w i))).setIfInBounds i (.bool true)=τ (UB (XO w (i+1))):=by
 rcases i with _|_|_|_|i
 ·simp[XO,UB,h]
 ·simp[XO,UB,h]
 ·simp[XO,UB,h]
 ·simp[XO,UB,h]
 ·omega
theorem Ac2{w:Nat}(h:w.testBit i=false\/i<8\/14<=i):fX w (i+1)=fX w i:=by
 unfold fX;by_cases h1:i<8
 ·rw[show min (i+1) 14-8=0 by omega,show min i 14-8=0 by omega]
 by_cases h2:14<=i
 ·rw[show min (i+1) 14=min i 14 by omega]
 have hb:w.testBit i=false:=by rcases h with h|h|h;exact h;omega;omega
 rw[show min (i+1) 14-8=(i-8)+1 by omega,show min i 14-8=i-8 by omega];rw[DX] at hb;have hb:¬w/2^i%2=1:=by simpa using hb
 have e:w/256/2^(i-8)=w/2^i:=by rw[Nat.div_div_eq_div_mul,show(256:Nat)=2^8 from rfl,<-Nat.pow_add,show 8+(i-8)=i by omega]
 rw[Nat.pow_succ,Nat.mod_mul,e,show w/2^i%2=0 by omega];simp
theorem Agg{w:Nat}(h:w.testBit i=true)(h1:8<=i)(h2:i<14):PS (fX w i) (i-8) 1 1=fX w (i+1)/\fX w i<64:=by
 unfold fX;rw[show min (i+1) 14-8=(i-8)+1 by omega,show min i 14-8=i-8 by omega];rw[DX] at h;have h:w/2^i%2=1:=by simpa using h
 have e:w/256/2^(i-8)=w/2^i:=by rw[Nat.div_div_eq_div_mul,show(256:Nat)=2^8 from rfl,<-Nat.pow_add,show 8+(i-8)=i by omega]
 have hl:=Hx (w/256) (show 2^(i-8)>0 from Nat.pow_pos Af);have hp:2^(i-8)<=2^5:=Cp Af Af;refine⟨?_,Af⟩;rw[y3,Nat.pow_succ,Nat.mod_mul,e,h,Nat.div_eq_of_lt Af,DB hl];omega
theorem jv(w i:Nat):DF w i 1=if w.testBit i=true then 1 else 0:=by
 unfold DF;rw[DX];by_cases h:w/2^i%2=1
 ·rw[Ad (by simpa using h)];simpa using h
 ·rw[Ab (by simpa using h)];simp;omega
theorem ZP{w:Nat}(hw:w<18446744073709551616):(w/16%16=0/\w/16384=0)<-> ∀j,j<64->w.testBit j=true->ZN j:=by
 constructor
 ·rintro⟨h1,h2⟩ j hj hb;by_cases hg:ZN j
  ·exact hg
  exfalso;by_cases h8:j<8
  ·have:(w/2^4%2^4).testBit (j-4)=true:=by
    rw[I5,Fo,show j-4+4=j by omega,hb];simp;omega
   rw[show w/2^4%2^4=0 from h1] at this;simp at this
  ·have:(w/2^14).testBit (j-14)=true:=by
    rw[Fo,show j-14+14=j by omega,hb]
   rw[show w/2^14=0 from h2] at this;simp at this
 ·intro h;have key: ∀j,w.testBit j=true->ZN j:=λj hb=>by
   by_cases hj:j<64
   ·exact h j hj hb
   ·rw[ER (D8 hw (show 2^64<=2^j from Cp Af Af))] at hb;cases hb
  constructor
  ·refine Kf λj=>?_;rw[show w/16%16=w/2^4%2^4 from rfl,I5,Fo,Nat.zero_testBit];by_cases hj:j<4
   ·cases hb:w.testBit (j+4) with
    |false=>simp
    |true=>have:=key _ hb;omega
   ·simp[hj]
  ·refine Kf λj=>?_;rw[show w/16384=w/2^14 from rfl,Fo,Nat.zero_testBit];cases hb:w.testBit (j+14) with
   |false=>rfl
   |true=>have:=key _ hb;omega
theorem wG(w:Nat):({XO w 64 with fr:=(fX w 64:Nat)}:Vr)=jq w:=by simp[XO,jq,fX]
theorem tI{w:Nat}(hw:w<18446744073709551616)(hi:i<64)(hb:w.testBit i=true)(hg:¬ZN i):Lz (w:Int)=(cM,5):=by unfold Lz;rw[Ab];rintro⟨h1,h2,_⟩;exact hg ((ZP hw).1 ⟨h1,h2⟩ i hi hb)
abbrev flC(B b:Nat):Bh:=(B,.cells (τ [π b,.pointer (some ⟨b,1,none⟩),.pointer (some ⟨b,2,none⟩),.pointer (some ⟨b,3,none⟩)]) 504 (0,0))
theorem ZQ(w:Nat)(hw:w<18446744073709551616)(l:Ac):Fn prog 343 [υ (w:Nat)] l λv l'=>v= .tuple #[ZL (Lz (w:Int)).1,iV (Lz (w:Int)).2]/\l'=l:=by
 refine AO func343 ntmps343 λE=>?_;refine AR λb2=>?_;refine AR λb4=>?_;refine Be (AI rfl rfl λl2 _=>WE b4 l2) ?_;refine AR λb5=>?_;refine CF (α:=Nat) (λi=>[(0,υ (w:Nat)),(2,pV b2),(4,pV b4),(5,pV b5),(6,υ (fX w i:Nat)),(11,ι (i:Nat))]) (λi=>flC b5 b4::RJ b4 (XO w i)::RJ b2 cM::l) (λi=>i<=64/\ ∀j,j<i->w.testBit j=true->ZN j) (λi=>64-i) 0 ⟨Af,λj hj=>by omega⟩ ⟨rfl,rfl,rfl,rfl,by rw[show fX w 0=0 from Nat.mod_one _];rfl,rfl,trivial⟩ (by rw[show XO w 0=cM by simp[XO]];exact .refl) ?_;rintro i ⟨hi,hg⟩;by_cases h64:i<64
 case neg=>
  obtain rfl:i=64:=by omega
  have vS:=(ZP hw).2 hg;have hf6:fX w 64<64:=Hx _ A0;refine Aj ?_;refine Be (AI rfl rfl λl2 _=>cY ({XO w 64 with fr:=(fX w 64:Nat)}:Vr) l2) ?_;rw[wG];unfold Lz;rw[AV];cases hm:VJ (jq w) with
  |false=>rw[Ab (by simp)];refine Aj ?_;exact qr
  |true=>rw[Ad ⟨vS.1,vS.2,rfl⟩];refine Aj ?_;refine qr (hx:=?_);rw[<-wG];rfl
 refine Aj ?_;refine Be (AI rfl rfl λl2 _=>RU w hw i 1 Af Af Af Af l2) ?_;rw[show(1:Int).toNat=1 from rfl,AV,jv];cases hb:w.testBit i with
 |false=>refine Aj ?_;exact BZ (i+1) ⟨Af,λj hj h=>by by_cases e:j=i;subst e;rw[hb] at h;cases h;exact hg j Af h⟩ Af ⟨rfl,rfl,rfl,rfl,by rw[Ac2 (.inl hb)];rfl,rfl,trivial⟩ (by rw[Age hb];exact .refl)
 |true=>
  rw[Ad rfl];by_cases h4:i<4
  ·refine Aj ?_;refine Be (DQ (v:= .pointer (some ⟨b4,i,none⟩)) rfl (.head _) (by rcases i with _|_|_|_|i<;>first|rfl|omega)) ?_;refine Aj ?_;refine Nk (Dy (l':=flC b5 b4::RJ b4 (XO w (i+1))::RJ b2 cM::l) rfl rfl rfl (by rw[Agf hb h4];exact .there .here) (by simp;omega)) rfl rfl ?_;rintro _ _ ⟨rfl,rfl⟩;refine Aj ?_;exact BZ (i+1) ⟨Af,λj hj h=>by by_cases e:j=i;subst e;exact .inl h4;exact hg j Af h⟩ Af ⟨rfl,rfl,rfl,rfl,by rw[Ac2 (.inr (.inl Af))];rfl,rfl,trivial⟩ .refl
  by_cases h8:8<=i/\i<14
  ·obtain⟨h8,vT⟩:=h8;obtain⟨f1,f2⟩:=Agg hb h8 vT;refine Aj ?_;refine Be (AI rfl rfl λl2 _=>wF (fX w i) ((i:Int)-8) Af Af Af l2) ?_;rw[show((i:Int)-8).toNat=i-8 by omega,f1];refine Aj ?_;exact BZ (i+1) ⟨Af,λj hj h=>by by_cases e:j=i;subst e;exact .inr ⟨h8,vT⟩;exact hg j Af h⟩ Af ⟨rfl,rfl,rfl,rfl,rfl,rfl,trivial⟩ (by rw[Ac1 Af];exact .refl)
  ·rw[tI hw h64 hb Af];by_cases h8':i<8;all_goals
    refine Aj ?_;exact qr
theorem y5(hu: ∀w,w∈W->Jj w)(a:Int):Jj (Pu W a).1:=by
 unfold Pu
 split
 ·rw[List.getD];cases h:W[(a/8).toNat]? with
  |none=>exact⟨by decide,by decide⟩
  |some w=>exact hu w (Bg h)
 ·show Jj 0;exact⟨by decide,by decide⟩
theorem tJ(w:Int):0<=(Lz w).1.fr/\(Lz w).1.fr<64:=by
 unfold Lz
 split
 ·simp only[jq];omega
 ·exact⟨by decide,by decide⟩
theorem UH(b gb F:Nat)(W:A8)(h1:F<=64)(hW:W.length=F*8)(hu: ∀w,w∈W->Jj w)(a:Int)(a0:0<=a)(a1:a<18446744073709551616)(N8:Bool)(l:Ac)(m1:PR b gb F∈l)(m2:Uz gb W∈l):Fn prog 305 [pV b,Bb a,.bool N8] l λv l'=>v= .tuple #[ZL (HU W a N8).1,iV (HU W a N8).2]/\l'=l:=by
 obtain⟨n,hn,hn6⟩: ∃n:Nat,(Pu W a).1=n/\n<18446744073709551616:=⟨(Pu W a).1.toNat,by have:=y5 hu a;omega,by have:=y5 hu a;omega⟩
 have hF:nF W=F:=by unfold nF;omega
 unfold HU;rw[hF,hn];refine AO func305 ntmps305 λE=>?_;refine AR λb6=>?_;refine Be (AI rfl rfl λl2 hl=>fV b gb F W h1 hW a a0 a1 l2 (hl _ (.tail _ m1)) (hl _ (.tail _ m2))) ?_;rw[hn];by_cases he:(Pu W a).2=0
 case neg=>rw[Ad he];refine Aj ?_;exact qr
 rw[Ab (Gw he)];refine Aj ?_;refine Be (AI rfl rfl λl2 hl=>ZQ n hn6 l2) ?_;obtain⟨x,hx⟩:=ξ ((Lz n).1)
 obtain⟨e,he2⟩:=ξ ((Lz n).2)
 rw[hx,he2];refine Aj ?_;refine AP e_alloc ?_;rintro _ _ ⟨GW,_,rfl,rfl⟩;by_cases h0:e=0
 case neg=>rw[Ad h0];refine Aj ?_;exact qr
 rw[Ab (Gw h0)];cases hv:x.vd with
 |false=>rw[Ad rfl];refine Aj ?_;rw[hv];refine Aj ?_;exact qr
 |true=>
 rw[Ab A0];refine Aj ?_;rw[hv];refine Aj ?_;refine IP ?_;by_cases hl:x.lf=N8
 case neg=>
  rw[Ad (.inl hl)];have:(x.lf==N8)=false:=by simpa using hl
  refine BJ ?_;rw[this];refine BJ ?_;refine Aj ?_;exact qr
 have:(x.lf==N8)=true:=by simpa using hl
 refine BJ ?_;rw[this];refine BJ ?_;refine pq (λl2 JP=>Sf b gb F l2 (JP _ (.tail _ (.tail _ m1)))) ?_;by_cases hf:x.fr>=F
 ·rw[Ad (.inr hf)];refine BJ ?_;refine Aj ?_;exact qr
 ·rw[Ab (by rintro(h|h)<;>contradiction)];refine BJ ?_;refine Aj ?_;exact qr
theorem oh(b gb F:Nat)(W:A8)(hF:nF W=F)(root page lv:Int)(l:Ac)(m1:PR b gb F∈l):Fn prog 337 [pV b,ι root,ι page,ι lv] l λv l'=>v=iV (UC W root page lv)/\l'=l:=by
 unfold UC;rw[hF];refine AO func337 ntmps337 λE=>?_;by_cases h1:root<0
 ·rw[Ad (.inl h1)];refine Aj ?_;exact qr
 refine Aj ?_;refine tq (λl2 hl=>Sf b gb F l2 (hl _ m1)) ?_;by_cases hb:root>=F\/page<0\/page>=512\/lv<1\/lv>3
 ·rw[Ad (.inr hb)];by_cases h2:root>=F<;>by_cases h3:page<0<;>by_cases h4:page>=512<;>by_cases h5:lv<1<;>by_cases h6:lv>3;all_goals first
   |(exfalso;omega)
   |(refine Aj ?_
     exact qr)
 ·rw[Ab Af];refine Aj ?_;exact qr
theorem ol(b:Nat)(root page:Int)(l:Ac):Fn prog 338 [pV b,ι root,ι page] l λv l'=> ∃B3 B4 B5,v= .func (.func 372) #[] #[pV B4,pV B5,pV B3]/\l'=BX B5 page::BX B4 root::Yr B3 b::l:=by refine AO func338 ntmps338 λE=>?_;refine AR λb3=>?_;refine AR λb4=>?_;refine AR λb5=>?_;exact Bc .refl ⟨_,_,_,rfl,rfl⟩
abbrev sV(x:Int×Int×Int):Ap:=[iV x.1,.agg (τ [Bb x.2.1,iV x.2.2])]
abbrev SF(B:Nat)(x:Int×Int):Bh:=(B,.cells (τ [Bb x.1,iV x.2]) 510 (0,0))
theorem RW(h1:0<=pg)(h2:pg<512)(h3:1<=lv)(h4:lv<=3):0<=to pg lv/\to pg lv<8:=by
 unfold to;rw[Ab Af]
 (repeat' split)<;>omega
theorem Td{lf:Bool}:0<=(HU W a lf).1.fr/\(HU W a lf).1.fr<64:=by
 unfold HU
 (repeat' split)
 all_goals first|exact⟨by decide,by decide⟩|exact tJ _
theorem wH{root:Int}(h:¬(HU W (GA root page 1) false).2=0):NG W root page=[(1,GA root page 1,0),(2,0,(HU W (GA root page 1) false).2)]:=by unfold NG;rw[Ad h]
theorem wI{root:Int}{x y:Vr}(h:HU W (GA root page 1) false=(x,0))(h2:¬(HU W (GA x.fr page 2) false).2=0):NG W root page=[(1,GA root page 1,0),(2,GA x.fr page 2,0),(3,0,(HU W (GA x.fr page 2) false).2)]:=by unfold NG;rw[h,Ab (by simp),Ad h2]
theorem wJ{root:Int}{x y:Vr}(h:HU W (GA root page 1) false=(x,0))(h2:HU W (GA x.fr page 2) false=(y,0)):NG W root page=[(1,GA root page 1,0),(2,GA x.fr page 2,0),(3,GA y.fr page 3,0)]:=by unfold NG;rw[h,Ab (by simp),h2,Ab (by simp)]
theorem jw(B3 B4 B5 b gb F:Nat)(W:A8)(h1:F<=64)(hW:W.length=F*8)(hu: ∀w,w∈W->Jj w)(root page:Int)(r0:0<=root)(r1:root<64)(p0:0<=page)(p1:page<512):
 FN prog 372 [pV B4,pV B5,pV B3] sV (λxs=>xs=NG W root page) (λpre=>pre<+:NG W root page)
  (λ_ l=>BX B5 page∈l/\BX B4 root∈l/\Yr B3 b∈l/\PR b gb F∈l/\Uz gb W∈l):=by
 refine⟨λr I Ix G0 Cf hY l G hG h0=>?_⟩;obtain⟨n1,n2,n3,n4,n5⟩:=Cf _ _ G hG h0;have i1:=RW p0 p1 (lv:=1) Af Af;have i2:=RW p0 p1 (lv:=2) Af Af;have i3:=RW p0 p1 (lv:=3) Af Af;refine AO func372 ntmps372 λE=>?_;refine Aj ?_;refine Io 3 ?_;refine Aj ?_;refine EO ?_;refine AR λb7=>?_;have it:[((1:Int),GA root page 1,(0:Int))]<+:NG W root page:=by unfold NG;exact⟨_,rfl⟩
 have hy:=hY [] (1,GA root page 1,0) l (SF b7 (GA root page 1,0)::G) (λc hc=> .tail _ (hG c hc)) h0 it;refine Bt (Keep.of_perm AJ.symm) ?_;refine IE (C8 rfl rfl hy) rfl rfl rfl ?_;rintro v _ ⟨l1,rfl,⟨rfl,hI⟩|⟨rfl,hx⟩⟩
 case' inr=>
  refine Aj ?_;exact Bc (Keep.appL l1 ζ) ⟨l1,rfl,.inr ⟨_,it,hx⟩⟩
 obtain⟨n1,n2,n3,n4,n5⟩:=Cf _ _ (SF b7 (GA root page 1,0)::G) (λc hc=> .tail _ (hG c hc)) hI;have q7:SF b7 (GA root page 1,0)∈l1++SF b7 (GA root page 1,0)::G:=Aa _ (.head _);refine Aj ?_;refine tq (λl2 hl=>UH b gb F W h1 hW hu (GA root page 1) (by unfold GA;omega) (by unfold GA;omega) false l2 (hl _ n4) (hl _ n5)) ?_;have xr:=Td (W:=W) (a:=GA root page 1) (lf:=false);obtain⟨x,hx⟩:=ξ ((HU W (GA root page 1) false).1)
 obtain⟨e,he⟩:=ξ ((HU W (GA root page 1) false).2)
 rw[hx] at xr;rw[hx,he];refine AR λb8=>?_;by_cases e0:e=0
 case neg=>
  have hs:=wH (W:=W) (root:=root) (page:=page) (by rw[he];exact e0);rw[he] at hs;have P1:[(1,GA root page 1,0),(2,0,e)]<+:NG W root page:=by rw[hs];exact⟨[],rfl⟩
  have Tw:=hY [(1,GA root page 1,0)] (2,0,e) l1 ((b8,Obj.cells (τ (UB x)) 389 (0,0))::SF b7 (GA root page 1,0)::G) (λc hc=> .tail _ (.tail _ (hG c hc))) hI P1;refine Aj ?_;refine Bt (Keep.of_perm AJ.symm) ?_;refine IE (C8 rfl rfl Tw) rfl rfl rfl ?_;rintro v _ ⟨l2,rfl,⟨rfl,N7⟩|⟨rfl,Yn⟩⟩
  ·refine Aj ?_;exact Bc (Keep.appL l2 θ) ⟨l2,rfl,.inl ⟨_,hs.symm,N7⟩⟩
  ·refine Aj ?_;exact Bc (Keep.appL l2 θ) ⟨l2,rfl,.inr ⟨_,P1,Yn⟩⟩
 have h1e:HU W (GA root page 1) false=(x,0):=Eu hx (he.trans e0);subst e0;have g8:(b8,Obj.cells (τ (UB x)) 389 (0,0))∈(b8,Obj.cells (τ (UB x)) 389 (0,0))::(l1++SF b7 (GA root page 1,0)::G):= .head _;refine Aj ?_;refine Fk ?_;refine Aj ?_;rw[show(1:Int)+1=2 from rfl];refine EO ?_;refine AR λb9=>?_;have P1:[(1,GA root page 1,0),(2,GA x.fr page 2,0)]<+:NG W root page:=by unfold NG;rw[h1e,Ab (by simp)];exact⟨_,rfl⟩
 obtain⟨T,hT⟩: ∃T,T=(b8,Obj.cells (τ (UB x)) 389 (0,0))::SF b7 (GA root page 1,0)::G:=⟨_,rfl⟩
 have hTG: ∀c,c∈G->c∈T:=λc hc=>by rw[hT];exact .tail _ (.tail _ hc)
 have Tw:=hY [(1,GA root page 1,0)] (2,GA x.fr page 2,0) l1 (SF b9 (GA x.fr page 2,0)::T) (λc hc=> .tail _ (hTG c (hG c hc))) hI P1;refine Bt (l':=l1++SF b9 (GA x.fr page 2,0)::T) (by rw[hT];exact Keep.in_mid [_,_] l1 _) ?_;refine IE (C8 rfl rfl Tw) rfl rfl rfl ?_;rintro v _ ⟨l2,rfl,⟨rfl,N7⟩|⟨rfl,Yn⟩⟩
 case' inr=>
  refine Aj ?_;exact Bc (Keep.appL l2 (by rw[hT];exact .drop θ)) ⟨l2,rfl,.inr ⟨_,P1,Yn⟩⟩
 obtain⟨n1,n2,n3,n4,n5⟩:=Cf _ _ (SF b9 (GA x.fr page 2,0)::T) (λc hc=> .tail _ (hTG c (hG c hc))) N7;have q9:SF b9 (GA x.fr page 2,0)∈l2++SF b9 (GA x.fr page 2,0)::T:=Aa _ (.head _);refine Aj ?_;refine tq (λl3 hl=>UH b gb F W h1 hW hu (GA x.fr page 2) (by unfold GA;omega) (by unfold GA;omega) false l3 (hl _ n4) (hl _ n5)) ?_;have yr:=Td (W:=W) (a:=GA x.fr page 2) (lf:=false);obtain⟨y,hy⟩:=ξ ((HU W (GA x.fr page 2) false).1)
 obtain⟨e,he⟩:=ξ ((HU W (GA x.fr page 2) false).2)
 rw[hy] at yr;rw[hy,he];refine AR λGW=>?_;by_cases e0:e=0
 case neg=>
  have hs:=wI (y:=y) h1e (by rw[he];exact e0);rw[he] at hs;have Yp:[(1,GA root page 1,0),(2,GA x.fr page 2,0),(3,0,e)]<+:NG W root page:=by rw[hs];exact⟨[],rfl⟩
  have hy3:=hY [(1,GA root page 1,0),(2,GA x.fr page 2,0)] (3,0,e) l2 ((GW,Obj.cells (τ (UB y)) 389 (0,0))::SF b9 (GA x.fr page 2,0)::T) (λc hc=> .tail _ (.tail _ (hTG c (hG c hc)))) N7 Yp;refine Aj ?_;refine Bt (Keep.of_perm AJ.symm) ?_;refine IE (C8 rfl rfl hy3) rfl rfl rfl ?_;rintro v _ ⟨l3,rfl,⟨rfl,aV⟩|⟨rfl,hx3⟩⟩
  ·refine Aj ?_;exact Bc (Keep.appL l3 (by rw[hT];exact .drop σ)) ⟨l3,rfl,.inl ⟨_,hs.symm,aV⟩⟩
  ·refine Aj ?_;exact Bc (Keep.appL l3 (by rw[hT];exact .drop σ)) ⟨l3,rfl,.inr ⟨_,Yp,hx3⟩⟩
 have h2e:HU W (GA x.fr page 2) false=(y,0):=Eu hy (he.trans e0);subst e0;have hs:=wJ h1e h2e;refine Aj ?_;refine Fk ?_;refine Aj ?_;rw[show(2:Int)+1=3 from rfl];refine EO ?_;refine AR λMs=>?_;have Yp:[(1,GA root page 1,0),(2,GA x.fr page 2,0),(3,GA y.fr page 3,0)]<+:NG W root page:=by rw[hs];exact⟨[],rfl⟩
 have hy3:=hY [(1,GA root page 1,0),(2,GA x.fr page 2,0)] (3,GA y.fr page 3,0) l2 (SF Ms (GA y.fr page 3,0)::(GW,Obj.cells (τ (UB y)) 389 (0,0))::SF b9 (GA x.fr page 2,0)::T) (λc hc=> .tail _ (.tail _ (.tail _ (hTG c (hG c hc))))) N7 Yp;refine Bt (l':=l2++SF Ms (GA y.fr page 3,0)::(GW,Obj.cells (τ (UB y)) 389 (0,0))::SF b9 (GA x.fr page 2,0)::T) (Keep.in_mid [_,_] l2 _) ?_;refine IE (C8 rfl rfl hy3) rfl rfl rfl ?_;have hK: ∀l3,Keep (l3++SF Ms (GA y.fr page 3,0)::(GW,Obj.cells (τ (UB y)) 389 (0,0))::SF b9 (GA x.fr page 2,0)::T) (l3++G):=λl3=>Keep.appL l3 (by rw[hT];exact .drop φ);rintro v _ ⟨l3,rfl,⟨rfl,aV⟩|⟨rfl,hx3⟩⟩
 ·refine Aj ?_;exact Bc (hK l3) ⟨l3,rfl,.inl ⟨_,hs.symm,aV⟩⟩
 ·refine Aj ?_;exact Bc (hK l3) ⟨l3,rfl,.inr ⟨_,Yp,hx3⟩⟩
theorem y6{root:Int}(h:¬UC W root page lv=0):UC W root page lv=3:=by
 unfold UC at h⊢
 split
 ·rfl
 ·rename_i hc;rw[Ab hc] at h;exact absurd rfl h
abbrev XP(lv:Int)(x:Int×Int×Int):Bool:=decide (x.1=lv)||!decide (x.2.2=0)
theorem tK(W:A8)(root page lv:Int)(h1:1<=lv)(h3:lv<=3): ∃x,x∈NG W root page/\XP lv x=true:=by
 by_cases e1:(HU W (GA root page 1) false).2=0
 case neg=>rw[wH e1];exact⟨_,.tail _ (.head _),by simp[XP,e1]⟩
 have p1:HU W (GA root page 1) false=((HU W (GA root page 1) false).1,0):=Eu rfl e1;by_cases e2:(HU W (GA (HU W (GA root page 1) false).1.fr page 2) false).2=0
 case neg=>rw[wI (y:=cM) p1 e2];exact⟨_,.tail _ ν,by simp[XP,e2]⟩
 rw[wJ p1 (Eu rfl e2)];obtain rfl|rfl|rfl:lv=1\/lv=2\/lv=3:=by omega
 ·exact⟨_,.head _,rfl⟩
 ·exact⟨_,.tail _ (.head _),rfl⟩
 ·exact⟨_,.tail _ ν,rfl⟩
theorem ZR{q:α->Bool}{xs pre:List α}{x:α}(hp:pre++[x]<+:xs)(hn: ∀y,y∈pre->q y=false)(hx:q x=true):xs.find? q=some x:=by obtain⟨r,rfl⟩:=hp;rw[Am,Ek,Bp.2 (λy hy=>by rw[hn y hy];decide)];simp[hx]
theorem XQ(b gb F:Nat)(W:A8)(h1:F<=64)(hW:W.length=F*8)(hu: ∀w,w∈W->Jj w)(root page lv:Int)(l:Ac)(m1:PR b gb F∈l)(m2:Uz gb W∈l):Fn prog 298 [pV b,ι root,ι page,ι lv] l λv l'=>v= .tuple #[Bb (Rr W root page lv).1,iV (Rr W root page lv).2]/\l'=l:=by
 have hF:nF W=F:=by unfold nF;omega
 unfold Rr;refine AO func298 ntmps298 λE=>?_;refine AR λb7=>?_;refine tq (λl2 hl=>oh b gb F W hF root page lv l2 (hl _ (.tail _ m1))) ?_;by_cases hb:UC W root page lv=0
 case neg=>have h3:UC W root page lv=3:=y6 hb;rw[Ad hb,h3];refine Aj ?_;exact qr
 rw[Ab (Gw hb),hb];obtain⟨r0,r1,p0,p1,v1,v3⟩:0<=root/\root<F/\0<=page/\page<512/\1<=lv/\lv<=3:=by
  unfold UC at hb;rw[hF] at hb
  split at hb<;>omega
 obtain⟨z,hz,vU⟩:=tK W root page lv v1 v3;refine AR λMs=>?_;refine AP (Az rfl rfl (ol b root page _)) ?_;rintro _ _ ⟨B3,B4,B5,rfl,rfl⟩;refine Aj ?_;refine Dj (α:=Int×Int×Int) (ps:=[26,27]) (lb:=[pV B4,pV B5,pV B3]) rfl (jw B3 B4 B5 b gb F W h1 hW hu root page r0 Af p0 p1) (λ_=>rfl) rfl
  (λpre l=>(∀x,x∈pre->XP lv x=false)/\ ∃y,l=[BX B5 page,BX B4 root,Yr B3 b,SF Ms y,BX b7 lv])
  (λc pre l=>c= .exit 0/\ ∃Hh x,pre=Hh++[x]/\(∀x,x∈Hh->XP lv x=false)/\XP lv x=true/\l=[BX B5 page,BX B4 root,Yr B3 b,SF Ms x.2,BX b7 lv])
  [BX B5 page,BX B4 root,Yr B3 b,SF Ms (0,0),BX b7 lv] l (λpre l2 X2 hX h=>by obtain⟨y,rfl⟩:=h.2;exact⟨Ai _ Ca,Ai _ Ca,Ai _ Ca,Aa _ (hX _ m1),Aa _ (hX _ m2)⟩) AY ⟨λ_ h=>(nomatch h),(0,0),rfl⟩ ?_ ?_ ?_
 ·rintro E r0 Gb pre ⟨x1,x2,x3⟩ l' T ⟨fn,tmps,D,rfl⟩ hT ⟨hn,⟨y1,y2⟩,rfl⟩ DG;simp only[DY,Ae,Ag];refine AR λQs=>?_;refine CP D1 ?_;refine Aj ?_;by_cases h1:x1=lv
  ·refine Aj ?_;exact Fe [BX B5 page,BX B4 root,Yr B3 b,SF Ms (x2,x3),BX b7 lv] AY ⟨rfl,_,_,rfl,hn,by simp[XP,h1],rfl⟩
  by_cases h2:x3=0
  ·refine Aj ?_;exact Cn [BX B5 page,BX B4 root,Yr B3 b,SF Ms (x2,x3),BX b7 lv] AY ⟨λz hz=>by
    rcases AB.1 hz with hz|hz
    ·exact hn z hz
    ·rw[Ay.1 hz];simp[XP,h1,h2],_,rfl⟩
  ·refine Aj ?_;exact Fe [BX B5 page,BX B4 root,Yr B3 b,SF Ms (x2,x3),BX b7 lv] AY ⟨rfl,_,_,rfl,hn,by simp[XP,h2],rfl⟩
 ·rintro D xs l' rfl ⟨hn,_⟩;rw[hn z hz] at vU;cases vU
 ·rintro D c pre l' DG ⟨rfl,Hh,⟨x1,x2,x3⟩,rfl,hn,hx,rfl⟩;simp only[Ae,Ag];rw[ZR DG hn hx];refine Aj ?_;refine IP ?_;refine BJ ?_;refine Aj ?_;exact AU [D] _ rfl (l':=l) AY Ba AY ⟨rfl,rfl⟩
theorem adU{f:Int}(h0:0<=f)(h1:f<64)(h2:0<=to pg lv/\to pg lv<8):Jj (GA f pg lv):=⟨by unfold GA;omega,by unfold GA;omega⟩
theorem Ac3{root:Int}(r0:0<=root)(r1:root<64)(p0:0<=page)(p1:page<512): ∀x,x∈NG W root page->Jj x.2.1:=by
 have i1:=RW p0 p1 (lv:=1) Af Af;have i2:=RW p0 p1 (lv:=2) Af Af;have i3:=RW p0 p1 (lv:=3) Af Af;intro x hx;have e1:=Td (W:=W) (a:=GA root page 1) (lf:=false);have e2:=Td (W:=W) (a:=GA (HU W (GA root page 1) false).1.fr page 2) (lf:=false);unfold NG at hx;have z:Jj 0:=⟨by decide,by decide⟩
 rcases Au.1 hx with rfl|hx
 ·exact adU r0 r1 i1
 split at hx
 ·rw[Ay.1 hx];exact z
 rcases Au.1 hx with rfl|hx
 ·exact adU e1.1 e1.2 i2
 split at hx
 ·rw[Ay.1 hx];exact z
 ·rw[Ay.1 hx];exact adU e2.1 e2.2 i3
theorem om(hW:W.length<=512){root:Int}:Jj (Rr W root page lv).1:=by
 have z:Jj 0:=⟨by decide,by decide⟩
 unfold Rr
 split
 ·exact z
 ·rename_i hb;have hb:UC W root page lv=0:=by simpa using hb
  unfold UC at hb
  split at hb
  ·cases hb
  rename_i hc;have:nF W<=64:=by unfold nF;omega
  split
  ·rename_i x hx;exact Ac3 Af Af Af Af x (BE hx)
  ·exact z
theorem jx(b gb F:Nat)(W:A8)(h1:F<=64)(hW:W.length=F*8)(hu: ∀w,w∈W->Jj w)(root page:Int)(l:Ac)(m1:PR b gb F∈l)(m2:Uz gb W∈l):Fn prog 227 [pV b,ι root,ι page] l λv l'=>v= .tuple #[ZL (O0 W root page).1,iV (O0 W root page).2]/\l'=l:=by
 unfold O0;refine AO func227 ntmps227 λE=>?_;refine AR λb6=>?_;refine tq (λl2 hl=>XQ b gb F W h1 hW hu root page 3 l2 (hl _ (.tail _ m1)) (hl _ (.tail _ m2))) ?_;by_cases h0:(Rr W root page 3).2=0
 case neg=>rw[Ad h0];refine Aj ?_;exact qr
 rw[Ab (Gw h0)];refine Aj ?_;have ar:=om (W:=W) Af (root:=root) (page:=page) (lv:=3);refine tq (λl2 hl=>UH b gb F W h1 hW hu (Rr W root page 3).1 ar.1 ar.2 true l2 (hl _ (.tail _ m1)) (hl _ (.tail _ m2))) ?_;refine Aj ?_;exact qr
end Go.Proofs.YtlifcingifodfaaGreat
