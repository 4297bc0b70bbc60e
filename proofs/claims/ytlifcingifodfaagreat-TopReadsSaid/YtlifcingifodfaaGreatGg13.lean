/- Laws that the statement's proof leans on (joined out of several texts). -/
import Derived.Test.YtlifcingifodfaaGreatGg12
import Derived.Laws.Externs
set_option maxHeartbeats 4000000
set_option linter.unusedVariables false
set_option linter.unusedSimpArgs false
namespace Go.Proofs.YtlifcingifodfaaGreat
open Tryz
open List(toArray replicate)
open Go.RowKit
set_option maxRecDepth 20000
variable{W:A4}{i k b e n F C j N f m k':Nat}{page lv t a pg:Int}{S:KT}{p:RP}{P:Program}{ro:Option Nat}{R G:Ac}{os:Ar.OL}{s:RL}{E:World}{ops:Array Oper}{Q:Exit->Act->World->Prop}{tbl:List (List Nat)}{sp:FP}{ds:List Deferred}{v:Value}{A3 pl:List BG}{ty:TypeId}{pos:String}{x:Operand}{A:Ar.ArT}{o:Ar.ObT}{D:En.DE}{fr' fr0:Fr}{K:Value->Ac->Prop}{vs:Ap}{g:Option (Nat×Bool)}{α:Type}{ki:IntKind}
theorem Ul(b:Nat)(p:RP)(l:Ac)(hm:CF b p∈l):Fn prog 86 [pV b] l λv l'=>v=pV p.m/\l'=l:=by refine AN func86 ntmps86 λE=>?_;exact E3
theorem bO(b:Nat)(p:RP)(l:Ac)(hm:CF b p∈l):Fn prog 99 [pV b] l λv l'=>v=pV p.c/\l'=l:=by refine AN func99 ntmps99 λE=>?_;exact E3
theorem bP(b:Nat)(p:RP)(l:Ac)(hm:CF b p∈l):Fn prog 101 [pV b] l λv l'=>v=pV p.q/\l'=l:=by refine AN func101 ntmps101 λE=>?_;exact E3
theorem Wa(b:Nat)(p:RP)(l:Ac)(hm:CF b p∈l):Fn prog 262 [pV b] l λv l'=>v=pV p.e/\l'=l:=by refine AN func262 ntmps262 λE=>?_;exact E3
section
theorem Xd{A':Ar.ArT}(h:rX A)(hs: ∀o,o∈A'.os-> ∃o',o'∈A.os/\o'.kd=o.kd/\o'.sz=o.sz):rX A':=λo ho hk=>by obtain⟨q,h1,h2,h3⟩:=hs o ho;rw[<-h3];exact h q h1 (by rw[h2];exact hk)
theorem SE{x:Ar.ObT}(h:x∈Ar.insD os o):x=o\/x∈os:=by
 unfold Ar.insD at h;rcases AF.1 h with h|h
 ·exact .inr (List.takeWhile_subset _ h)
 ·rcases At.1 h with h|h
  ·exact .inl h
  ·exact .inr (List.dropWhile_subset _ h)
theorem eN{x:Ar.ObT}(h:x∈os.set j o):x=o\/x∈os:=by
 rcases CQ h with h|h
 ·exact .inr h
 ·exact .inl h
theorem sg(h:rX A)(kd sz fi:Int):rX (Ar.addD A kd sz fi).2:=by
 unfold Ar.addD
 split
 ·rename_i he;intro o ho hk;rcases SE ho with rfl|ho
  ·simp only[Ar.newO] at hk⊢;subst hk;unfold Ar.addE at he
   split at he
   ·omega
   rename_i hf;unfold Ar.framesD at hf;simp only[Ab (by decide:¬((2:Int)=1)),CS] at hf
   split at hf<;>first|omega|skip
   all_goals omega
  ·exact h o ho hk
 ·exact h
instance{kd sz fi:Int}:EK prog F C b p 137 [pV p.a,.int .i64 kd,.int .i64 sz,.int .i64 fi] k S k (.tuple #[iV (Ar.addD S.A kd sz fi).1.1,iV (Ar.addD S.A kd sz fi).1.2]) {S with A:=(Ar.addD S.A kd sz fi).2}:=⟨λs G h=>lfA h (Bf _) (by unfold Ar.addD;split<;>rfl) (sg h.rad kd sz fi) λG=>Ar.add_any p.a S.A s.A h.ar kd sz fi G⟩
instance{id:Int}:EK prog F C b p 366 [pV p.a,.int .i64 id] k S k (iV (Ar.dropD S.A id).1) {S with A:=(Ar.dropD S.A id).2}:=⟨λs G h=>lfA h (Bf _) (by unfold Ar.dropD;split<;>rfl) (Xd h.rad λo ho=>by
 unfold Ar.dropD at ho;split at ho
 ·exact⟨o,Gl ho,rfl,rfl⟩
 ·exact⟨o,ho,rfl,rfl⟩) λG=>Ar.drop_any p.a S.A s.A h.ar id G⟩
theorem Xe{id:Int}(h:Ar.atO os id=some j):os.getD j Ar.obO∈os:=Bc (Ar.atO_get h).1
instance{id m:Int}:EK prog F C b p 285 [pV p.a,.int .i64 id,.int .i64 m] k S k (iV (Ar.markD' S.A id m).1) {S with A:=(Ar.markD' S.A id m).2}:=⟨λs G h=>lfA h (Bf _) (by unfold Ar.markD';(repeat' split)<;>rfl) (Xd h.rad λo ho=>by
 unfold Ar.markD' at ho
 split at ho
 case h_2=>exact⟨o,ho,rfl,rfl⟩
 rename_i hj
 split at ho
 ·exact⟨o,ho,rfl,rfl⟩
 split at ho
 ·exact⟨o,ho,rfl,rfl⟩
 rcases eN ho with rfl|ho
 ·exact⟨_,Xe hj,rfl,rfl⟩
 ·exact⟨o,ho,rfl,rfl⟩) λG=>Ar.mark_any p.a S.A s.A h.ar id m G⟩
instance{id se pg lv:Int}:EK prog F C b p 295 [pV p.a,.int .i64 id,.int .i64 se,.int .i64 pg,.int .i64 lv] k S k (iV (Ar.placeD S.A id se pg lv).1) {S with A:=(Ar.placeD S.A id se pg lv).2}:=⟨λs G h=>lfA h (Bf _) (by unfold Ar.placeD;(repeat' split)<;>rfl) (Xd h.rad λo ho=>by
 unfold Ar.placeD at ho
 split at ho
 case h_2=>exact⟨o,ho,rfl,rfl⟩
 rename_i hj
 split at ho
 ·exact⟨o,ho,rfl,rfl⟩
 split at ho
 ·exact⟨o,ho,rfl,rfl⟩
 rcases eN ho with rfl|ho
 ·exact⟨_,Xe hj,rfl,rfl⟩
 ·exact⟨o,ho,rfl,rfl⟩) λG=>Ar.place_any p.a S.A s.A h.ar id se pg lv G⟩
instance{id n:Int}:EK prog F C b p 139 [pV p.h,.int .i64 id,.int .i64 n] (k+1) S k (iV (Hn S.H.1 id n).1) {S with H:=((Hn S.H.1 id n).2,S.H.2)}:=⟨λs G h=>r7 h Af (λm hm=>(hm.add id n).mono Af) λm G hm _=>O9 p.h S.H s.H h.ho id n G⟩
instance{id:Int}:EK prog F C b p 365 [pV p.h,.int .i64 id] k S k (iV (HF S.H.1 id).1) {S with H:=((HF S.H.1 id).2,S.H.2)}:=⟨λs G h=>r7 h Af (λm hm=>(hm.drop id).mono Af) λm G hm _=>br p.h S.H s.H h.ho id G⟩
instance{x y:Cs}{m:Int}:EK prog F C b p 145 [pV p.h,F6 x,F6 y,.int .i64 m] (k+1) S k (iV (Gv S.H x y (Er (D5 S.H.1 x) m)).1) {S with H:=(Gv S.H x y (Er (D5 S.H.1 x) m)).2}:=⟨λs G h=>r7 h Af (λn hn=>(hn.der x y _ (Ow (hn.at x).2 m)).mono Af) λn G hn h9=>MO p.h S.H n hn h9 s.H h.ho x y m G⟩
instance{x y:Cs}:EK prog F C b p 210 [pV p.h,F6 x,F6 y] k S k (iV (JJ S.H x y).1) {S with H:=(JJ S.H x y).2}:=⟨λs G h=>r7 h Af (λn hn=>(hn.move x y).mono Af) λn G hn _=>iv p.h S.H n hn s.H h.ho x y G⟩
instance{x y:Cs}:EK prog F C b p 211 [pV p.h,F6 x,F6 y] k S k (iV (Mb S.H x y).1) {S with H:=(Mb S.H x y).2}:=⟨λs G h=>r7 h Af (λn hn=>(hn.swap x y).mono Af) λn G hn _=>iw p.h S.H n hn s.H h.ho x y G⟩
instance{x:Cs}:EK prog F C b p 327 [pV p.h,F6 x] k S k (.tuple #[Xb (Eb S.H x).1.1,iV (Eb S.H x).1.2]) {S with H:=(Eb S.H x).2}:=⟨λs G h=>r7 h Af (λn hn=>(hn.clear x).mono Af) λn G hn h9=>bA p.h S.H n hn h9 s.H h.ho x G⟩
instance{id:Int}:EK prog F C b p 147 [pV p.n,.int .i64 id] k S k (.tuple #[iV (As.addP S.N id).1,iV (As.addP S.N id).2.1]) {S with N:=(As.addP S.N id).2.2}:=⟨λs G h=>lfN h Af (λn hn=>by unfold As.addP;(repeat' split)<;>exact h.giv n hn) λG=>As.addPool_any p.n S.N id G⟩
instance{o r:Int}:EK prog F C b p 148 [pV p.n,.int .i64 o,.int .i64 r] (k+1) S k (.tuple #[iV (As.assignP S.N o r).1,iV (As.assignP S.N o r).2.1,iV (As.assignP S.N o r).2.2.1]) {S with N:=(As.assignP S.N o r).2.2.2}:=⟨λs G h=>lfN h Af (λn hn=>by
 have:=h.giv n hn;unfold As.assignP
 (repeat' split)<;>(try simp only[As.ASt.give,Qu.upd,As.upd])<;>(repeat' split)<;>(try subst_vars)<;>(try omega)) λG=>As.assign_any p.n S.N o r G λn hn=>by have:=h.giv n hn;omega⟩
instance{r:Int}:EK prog F C b p 385 [pV p.n,.int .i64 r] k S k (.tuple #[iV (As.unP S.N r).1,iV (As.unP S.N r).2.1]) {S with N:=(As.unP S.N r).2.2}:=⟨λs G h=>lfN h Af (λn hn=>by unfold As.unP;(repeat' split)<;>exact h.giv n hn) λG=>As.unassign_any p.n S.N r G⟩
theorem sm{u:Int}(h:En.OneAt D u):En.OneAt (En.removeD D t).2 u:=by
 unfold En.removeD
 split
 ·exact h
 ·rename_i x hx;refine eK h λhu y hy S8=>?_;exact h y x hy (Bt hx) S8 (Gl hu)
theorem sn(h: ∀x,x∈D->x.2.1.length<=m): ∀x,x∈(En.removeD D t).2->x.2.1.length<=m:=by
 unfold En.removeD
 split
 ·exact h
 ·rename_i x hx;refine eM h ?_;have:=h x (Bt hx);simp only[Ga];split<;>omega
instance{t:Int}:EK prog F C b p 259 [pV p.e,.int .i64 t] k S k (.bool (En.removeD S.E t).1) {S with E:=(En.removeD S.E t).2}:=⟨λs G h=>lfE h Af (λy hy=>by have:=sn (m:=900-k) (λx hx=>by have:=h.el x hx;omega) y hy;have:=h.tl;omega) (λu=>sm (h.eo u)) λG=>En.remove_any p.e S.E s.E t h.en h.el9 (h.eo t) G⟩
instance{id:Int}:EK prog F C b p 263 [pV p.e,.int .i64 id] k S k (.tuple #[iV (En.firstD S.E id).1,.bool (En.firstD S.E id).2.1,.bool (En.firstD S.E id).2.2]) S:=⟨λs G h=>
 (En.first_any p.e S.E s.E id h.en h.el9 (Ax b p s S G) (mE λ_ h=>h)).re .refl λv l' ⟨h1,cs,h2⟩=>⟨Ax b p s S (cs++G),by rw[h2];exact .of_perm (Fi ..),h1,s,_,h,⟨cs,rfl⟩,rfl⟩⟩
end
section
instance:QF prog 136 [pV b] (Ax b p s S G) (pV p.a):=⟨λl hl=>Uk b p l (mR hl)⟩
instance:QF prog 143 [pV b] (Ax b p s S G) (pV p.h):=⟨λl hl=>DZ b p l (mR hl)⟩
instance:QF prog 146 [pV b] (Ax b p s S G) (pV p.n):=⟨λl hl=>Lu b p l (mR hl)⟩
instance:QF prog 94 [pV b] (Ax b p s S G) (pV p.t):=⟨λl hl=>Nv b p l (mR hl)⟩
instance:QF prog 86 [pV b] (Ax b p s S G) (pV p.m):=⟨λl hl=>Ul b p l (mR hl)⟩
instance:QF prog 99 [pV b] (Ax b p s S G) (pV p.c):=⟨λl hl=>bO b p l (mR hl)⟩
instance:QF prog 101 [pV b] (Ax b p s S G) (pV p.q):=⟨λl hl=>bP b p l (mR hl)⟩
instance:QF prog 262 [pV b] (Ax b p s S G) (pV p.e):=⟨λl hl=>Wa b p l (mR hl)⟩
instance{kd sz:Int}{l:Ac}:QF prog 50 [.int .i64 kd,.int .i64 sz] l (iV (Ar.framesD kd sz)):=⟨λl _=>Ar.frames_any kd sz l⟩
instance{kd sz:Int}{l:Ac}:QF prog 68 [.int .i64 kd,.int .i64 sz] l (iV (Ar.slotsD kd sz)):=⟨λl _=>Ar.slots_any kd sz l⟩
instance{c:CapT}{l:Ac}:QF prog 185 [Xb c] l (.bool (FG c)):=⟨λl _=>It c l⟩
end
section
theorem eP{sw:Sw}{fr:Fr}{l l':Ac}(p:l.Perm l')(h:PlanS P ro N E ops Q R tbl sw sp pl fr ds l):PlanS P ro N E ops Q R tbl sw sp pl fr ds l':=by
 induction h generalizing l' with
 |nil h=>exact .nil (Ky (.of_perm p.symm) h)
 |q h1 h2 h3 _ ih=>exact .q h1 h2 h3 (ih p)
 |gq h1 h2 h3 h4 h5 h6 _ ih=>exact .gq h1 h2 h3 h4 h5 h6 (ih p)
 |gs h1 h2 h3 h4 h5 h6 h7 h8 h9 _ ih=>exact .gs h1 h2 h3 h4 h5 h6 (λc hc=>p.mem_iff.1 (h7 c hc)) h8 (λhk x hx ha c hc=>p.mem_iff.1 (h9 hk x hx ha c hc)) (ih p)
 |gu h1 h2 h3 h4 h5 h7 h8 h9 _ ih=>exact .gu h1 h2 h3 h4 h5 (λc hc=>p.mem_iff.1 (h7 c hc)) h8 (λhk x hx ha c hc=>p.mem_iff.1 (h9 hk x hx ha c hc)) (ih p)
 |e h1 h2 h3 h4 h5 h6 ih=>exact .e (OpE.re (.of_perm p.symm) h1 λv l2 hk=>⟨l2,.refl,hk⟩) h2 h3 h4 h5 h6
 |ge h1 h2 h3 h4 h5 h6 h7 h8 h9 ih=>exact .ge (OpE.re (.of_perm p.symm) h1 λv l2 hk=>⟨l2,.refl,hk⟩) h2 h3 h4 h5 h6 h7 h8 h9
 |weak h1 _ ih=>exact .weak h1 (ih p)
 |sq h1 h2 h3 h4 _ ih=>exact .sq h1 (λc hc=>p.mem_iff.1 (h2 c hc)) h3 h4 (ih p)
 |alt oo K rf sf h1 h2 h3 h4 ih=>exact .alt oo K rf sf h1 (λj hj=>⟨OpE.re (.of_perm p.symm) (h2 j hj).1 λv l2 hk=>⟨l2,.refl,hk⟩,(h2 j hj).2⟩) h3 h4
 |alt2 h1 h2 h3 h4 _ _ ih1 ih2=>exact .alt2 h1 h2 h3 h4 (ih1 p) (ih2 p)
abbrev Wb:=Nat×Oper×(Value->Ac->Prop)
abbrev Vf(x:Wb):BG:=(x.1,false,x.2.1)
def FLe(fr fr':Fr):Prop:= ∀d v,BZ fr d=some v->BZ fr' d=some v
structure IsAd(P:Program)(ro:Option Nat)(N:Nat)(fr:Fr)(l:Ac)(x:Wb):Prop where
 law': ∀l',(∀c,c∈l->c∈l')->OpE P ro N fr l' x.2.1 λv l2=> ∃cs,x.2.2 v cs/\l2=cs++l'
 guard:x.2.1.guard=none
 dst: ∃d,x.2.1.dst=some d/\Nat.blt d N=true/\BZ fr d=none
theorem OpE.le{fr:Fr}{l:Ac}{o:Oper}(h:FLe fr fr')(ho:OpE P ro N fr l o K):OpE P ro N fr' l o K:=⟨ho.nodef,λE a W hf hs=>ho.val E a W (hf.sub h) hs⟩
theorem OpQ.le{fr fr':Fr}{l:Ac}{o:Oper}{v:Value}(h:FLe fr fr')(ho:OpQ P ro N fr l o v):OpQ P ro N fr' l o v:=⟨λl' hl=>(ho.run l' hl).le h⟩
theorem IsAd.law{fr:Fr}{l:Ac}{x:Wb}(h:IsAd P ro N fr l x)(fr':Fr)(l':Ac)(h1:FLe fr fr')(h2: ∀c,c∈l->c∈l'):OpE P ro N fr' l' x.2.1 λv l2=> ∃cs,x.2.2 v cs/\l2=cs++l':=(h.law' l' h2).le h1
def AddK:List Wb->Fr->Ac->(Fr->Ac->Prop)->Prop
 |[],fr,l,k=>k fr l
 |x::xs,fr,l,k=> ∀v cs,x.2.2 v cs->AddK xs (Iq x.2.1.dst v fr) (cs++l) k
theorem AddK.mono{k k':Fr->Ac->Prop}(h: ∀fr l,k fr l->k' fr l): ∀{xs:List Wb} {fr:Fr} {l:Ac},AddK xs fr l k->AddK xs fr l k'
 |[],_,_,hk=>h _ _ hk
 |x::xs,_,_,hk=>λv cs hx=>AddK.mono h (hk v cs hx)
def Inv(k:Fr->Ac->Prop):Prop:= ∀fr fr' l l',FLe fr fr'->l.Perm l'->k fr l->k fr' l'
theorem HK{d:Nat}{fr:Fr}:BZ (Iq (some d) v fr) e=if d=e then some v else BZ fr e:=by
 show(bif Nat.beq d e then some v else BZ fr e)=_;by_cases h:d=e
 ·subst h;simp
 ·rw[Ab h];have:Nat.beq d e=false:=by cases hb:Nat.beq d e;rfl;exact absurd (FI hb) h
  rw[this];rfl
theorem FLe.put{fr:Fr}(h:FLe fr fr')(d:Option Nat)(v:Value):FLe (Iq d v fr) (Iq d v fr'):=by
 cases d with
 |none=>exact h
 |some d=>intro e u hu;rw[HK] at hu⊢;split at hu<;>simp_all [FLe]
theorem AddK.inv{k:Fr->Ac->Prop}(hk:Inv k): ∀{xs:List Wb} {fr fr':Fr} {l l':Ac},FLe fr fr'->l.Perm l'->AddK xs fr l k->AddK xs fr' l' k
 |[],_,_,_,_,h1,h2,h=>hk _ _ _ _ h1 h2 h
 |x::xs,_,_,_,_,h1,h2,h=>λv cs hx=>AddK.inv hk (h1.put _ _) (h2.append_left cs) (h v cs hx)
theorem Za{d:Nat}(h:d≠e)(u v:Value)(fr:Fr):FLe (Iq (some d) u (Iq (some e) v fr)) (Iq (some e) v (Iq (some d) u fr)):=by
 intro k w hw;simp only[HK] at hw⊢;by_cases h1:d=k
 ·subst h1;rw[Ad rfl] at hw;rw[Ab (FJ h),Ad rfl];exact hw
 ·rw[Ab h1] at hw;rw[Ab h1];exact hw
theorem AddK.first{k:Fr->Ac->Prop}(hk:Inv k){a:Wb}{da:Nat}(ha:a.2.1.dst=some da): ∀{xs:List Wb} {fr:Fr} {l:Ac},(∀x,x∈xs-> ∃d,x.2.1.dst=some d/\d≠da)->AddK (xs++[a]) fr l k->AddK (a::xs) fr l k
 |[],_,_,_,h=>h
 |x::xs,fr,l,hx,h=>λv cs hv u us hu=>by
  have h1:=AddK.first hk ha (λy hy=>hx y (An _ hy)) (h u us hu) v cs hv;obtain⟨d,hd,He⟩:=hx x Ak;refine AddK.inv hk ?_ ?_ h1
  ·rw[hd,ha];exact Za (FJ He) _ _ _
  ·exact AA cs us l
theorem eR{sp:FP}{ds:List Deferred}{A3:List BG}: ∀(xs:List Wb) {fr0 fr:Fr} {l0 l:Ac},FLe fr0 fr->(∀c,c∈l0->c∈l)->(∀x,x∈xs->IsAd P ro N fr0 l0 x)->(xs.map λx=>x.2.1.dst).Nodup->(∀x,x∈xs-> ∀d,x.2.1.dst=some d->BZ fr0 d=none)->(∀c,c∈R->c∈l0)->(∀x,x∈sp-> ∀c,c∈x.2->c∈l0)->
 AddK xs fr l (λfr' l'=>PlanS P ro N E ops Q R tbl none sp A3 fr' ds l')->PlanS P ro N E ops Q R tbl none sp (xs.map Vf++A3) fr ds l
 |[],_,_,_,_,_,_,_,_,_,_,_,h=>h
 |x::xs,fr0,fr,l0,l,h1,h2,hx,hn,hf,hR,hS,h=>by
  have hI:=hx x Ak;obtain⟨d,hd,hb,ae⟩:=hI.dst;refine .e (hI.law fr l h1 h2) hI.guard (by rw[hd];exact hb) ?_ ?_ ?_
  ·rintro v l' ⟨cs,_,rfl⟩ c hc;exact Aa _ (h2 _ (hR c hc))
  ·rintro v l' ⟨cs,_,rfl⟩ y hy _ c hc;exact Aa _ (h2 _ (hS y hy c hc))
  ·rintro v l' ⟨cs,hk,rfl⟩;refine eR xs (fr0:=fr0) ?_ (λc hc=>Aa _ (h2 c hc)) (λy hy=>hx y (An _ hy)) (AP.1 hn).2 (λy hy=>hf y (An _ hy)) hR hS (h v cs hk);intro e u hu;show BZ (Iq x.2.1.dst v fr) e=_;rw[hd,HK]
   split
   ·rename_i e1;subst e1;rw[ae] at hu;cases hu
   ·exact h1 e u hu
abbrev p8(x:Nat×Oper):BG:=(x.1,true,x.2)
def QK(P:Program)(ro:Option Nat)(N:Nat)(R:Ac):List (Nat×Oper)->Fr->(Fr->Prop)->Prop
 |[],fr,k=>k fr
 |x::xs,fr,k=> ∃v d,OpQ P ro N fr R x.2 v/\x.2.guard=none/\x.2.dst=some d/\Nat.blt d N=true/\QK P ro N R xs ((d,v)::fr) k
theorem QK.plan{sw:Sw}{sp:FP}{ds:List Deferred}{A3:List BG}{l:Ac}: ∀{qs:List (Nat×Oper)} {fr:Fr},QK P ro N R qs fr (λfr'=>PlanS P ro N E ops Q R tbl sw sp A3 fr' ds l)->PlanS P ro N E ops Q R tbl sw sp (qs.map p8++A3) fr ds l
 |[],_,h=>h
 |x::qs,fr,h=>by obtain⟨v,d,h1,h2,h3,h4,h5⟩:=h;exact .q h1 h2 (by rw[h3];exact h4) (by rw[h3];exact QK.plan h5)
theorem QK.mono{k k':Fr->Prop}(h: ∀fr,k fr->k' fr): ∀{qs:List (Nat×Oper)} {fr:Fr},QK P ro N R qs fr k->QK P ro N R qs fr k'
 |[],_,hk=>h _ hk
 |x::qs,_,⟨v,d,h1,h2,h3,h4,h5⟩=>⟨v,d,h1,h2,h3,h4,QK.mono h h5⟩
theorem QK.le{k:Fr->Prop}(hk: ∀fr fr',FLe fr fr'->k fr->k fr'): ∀{qs:List (Nat×Oper)} {fr fr':Fr},FLe fr fr'->QK P ro N R qs fr k->QK P ro N R qs fr' k
 |[],_,_,h,hq=>hk _ _ h hq
 |x::qs,_,_,h,⟨v,d,h1,h2,h3,h4,h5⟩=>⟨v,d,h1.le h,h2,h3,h4,QK.le hk (h.put (some d) v) h5⟩
theorem FLe.low{fr:Fr}{d:Nat}(h1:FLe fr0 fr)(hd:BZ fr0 d=none):FLe fr0 (Iq (some d) v fr):=λe u hu=>by
 rw[HK]
 split
 ·rename_i e1;subst e1;rw[hd] at hu;cases hu
 ·exact h1 e u hu
theorem QK.low{fr0:Fr}{k:Fr->Prop}: ∀{qs:List (Nat×Oper)} {fr:Fr},(∀x,x∈qs-> ∀d,x.2.dst=some d->BZ fr0 d=none)->FLe fr0 fr->QK P ro N R qs fr k->QK P ro N R qs fr (λdC=>FLe fr0 dC/\k dC)
 |[],_,_,h,hk=>⟨h,hk⟩
 |x::qs,_,hq,h,⟨v,d,h1,h2,h3,h4,h5⟩=>⟨v,d,h1,h2,h3,h4,QK.low (λy hy=>hq y (An _ hy)) (h.low (hq x Ak d h3)) h5⟩
theorem QK.first{k:Fr->Ac->Prop}(hk:Inv k){a:Wb}{da:Nat}(ha:a.2.1.dst=some da): ∀{qs:List (Nat×Oper)} {fr:Fr} {l:Ac},BZ fr da=none->(∀x,x∈qs->x.2.dst≠some da)->QK P ro N R qs fr (λfr'=>AddK [a] fr' l k)->AddK [a] fr l (λfr' l'=>QK P ro N R qs fr' (λdC=>k dC l'))
 |[],_,_,_,_,h=>h
 |x::qs,fr,l,hn,hx,⟨v,d,h1,h2,h3,h4,h5⟩=>by
  have He:d≠da:=λe=>hx x Ak (by rw[h3,e]);intro u us hu;show QK P ro N R (x::qs) (Iq a.2.1.dst u fr) _;rw[ha];refine⟨v,d,h1.le ?_,h2,h3,h4,?_⟩
  ·intro e w hw;rw[HK]
   split
   ·rename_i e1;subst e1;rw[hn] at hw;cases hw
   ·exact hw
  ·have h6:=QK.first hk ha (fr:=(d,v)::fr) (by show BZ (Iq (some d) v fr) da=none;rw[HK,Ab He];exact hn) (λy hy=>hx y (An _ hy)) h5 u us hu;have h7:QK P ro N R qs (Iq a.2.1.dst u ((d,v)::fr)) (λdC=>k dC (us++l)):=h6;rw[ha] at h7;exact QK.le (λfr fr' h h'=>hk _ _ _ _ h (.refl _) h') (Za (FJ He) u v fr) h7
def Xf(ops:Array Oper)(tbl:List (List Nat))(qs:List BG)(a:BG)(A3:List BG):List BG->Bool
 |[]=>Gw ops tbl none A3
 |x::xs=>x.1 !=a.1&&Gw ops tbl (some (xs.map λy=>(y.1,a.1))) (xs++(qs++a::A3))&&Gw ops tbl none (x::xs++(qs++A3))&&Xf ops tbl qs a A3 xs
theorem iF{a:BG}(xs:List Wb):U9 (some (xs.map λy=>(y.1,a.1))) (xs.map Vf++A3)=true:=by show(xs.map λy=>(y.1,a.1)).all _=true;rw[A5];intro p hp;obtain⟨y,hy,rfl⟩:=Av.1 hp;rw[HP];exact⟨Vf y,Ai _ (List.mem_map_of_mem hy),by simp⟩
theorem AddK.snoc{a:Wb}{k:Fr->Ac->Prop}: ∀{xs:List Wb} {fr:Fr} {l:Ac},AddK xs fr l (λfr' l'=>AddK [a] fr' l' k)->AddK (xs++[a]) fr l k
 |[],_,_,h=>h
 |x::xs,_,_,h=>λv cs hv=>AddK.snoc (h v cs hv)
theorem AddK.none'{fr0:Fr}{da:Nat}: ∀{xs:List Wb} {fr:Fr} {l:Ac} {k:Fr->Ac->Prop},BZ fr da=none->(∀x,x∈xs-> ∃d,x.2.1.dst=some d/\d≠da)->AddK xs fr l k->AddK xs fr l (λfr' l'=>BZ fr' da=none/\k fr' l')
 |[],_,_,_,h,_,hk=>⟨h,hk⟩
 |x::xs,fr,l,k,h,hx,hk=>λv cs hv=>by obtain⟨d,hd,He⟩:=hx x Ak;exact AddK.none' (fr0:=fr0) (by rw[hd,HK,Ab He];exact h) (λy hy=>hx y (An _ hy)) (hk v cs hv)
theorem nj{qs:List (Nat×Oper)}{a:Wb}{l0:Ac}(hR: ∀c,c∈R->c∈l0)(hS: ∀x,x∈sp-> ∀c,c∈x.2->c∈l0)(ha:IsAd P ro N fr0 l0 a){da:Nat}(qH:a.2.1.dst=some da)(hq: ∀x,x∈qs->x.2.dst≠some da)(v7: ∀x,x∈qs-> ∀d,x.2.dst=some d->BZ fr0 d=none): ∀(xs:List Wb) {fr:Fr} {l:Ac},FLe fr0 fr->BZ fr da=none->(∀c,c∈l0->c∈l)->(∀x,x∈xs->IsAd P ro N fr0 l0 x)->((xs++[a]).map λx=>x.2.1.dst).Nodup->Xf ops tbl (qs.map p8) (Vf a) A3 (xs.map Vf)=true->
 AddK xs fr l (λfr1 l1=>QK P ro N R qs fr1 λdC=>AddK [a] dC l1 (λfr' l'=>PlanS P ro N E ops Q R tbl none sp A3 fr' ds l'))->PlanS P ro N E ops Q R tbl (some (xs.map λx=>(x.1,a.1))) sp (xs.map Vf++(qs.map p8++Vf a::A3)) fr ds l:=by
 have Aea:Inv (λfr' l'=>PlanS P ro N E ops Q R tbl none sp A3 fr' ds l'):=λfr fr' l l' h1 h2 h=>eP h2 (.weak h1 h);obtain⟨da',hda',hba,hfa⟩:=ha.dst;obtain rfl:da=da':=by rw[qH] at hda';cases hda';rfl
 have low: ∀{fr:Fr} {d:Nat} {v:Value},FLe fr0 fr->BZ fr0 d=none->FLe fr0 (Iq (some d) v fr):=λ{fr d v} h1 hd=>h1.low hd;intro xs
 induction xs with
 |nil=>
  intro fr l h1 h0 h2 hx hn Dm hk;refine QK.plan (QK.mono ?_ (QK.low v7 h1 hk))
  ·rintro dC ⟨Lf,LA⟩;have ho:=ha.law dC l Lf h2;refine .alt (λ_=>a.2.1) (λ_ v l2=> ∃cs,a.2.2 v cs/\l2=cs++l) (λ_=>A3) (λ_=>none) (λj hj=>?_) (λj hj=>⟨ho,by rw[ha.guard];rfl,by rw[qH];exact hba⟩) (λj hj=>?_) λj hj=>?_
   ·rcases hj with rfl|⟨h,_⟩
    ·exact⟨.refl _,Dm,rfl⟩
    ·simp[Pm] at h
   ·rintro v l' ⟨cs,_,rfl⟩;exact⟨λc hc=>Aa _ (h2 _ (hR c hc)),λy hy _ c hc=>Aa _ (h2 _ (hS y hy c hc))⟩
   ·rintro v l' ⟨cs,hv,rfl⟩;exact LA v cs hv
 |cons x xs ih=>
  intro fr l h1 h0 h2 hx hn Dm hk;have hI:=hx x Ak;obtain⟨d,hd,hb,ae⟩:=hI.dst;simp only[AJ,Xf,AV,PF,ne_eq] at Dm;obtain⟨⟨⟨He,kG⟩,Q0⟩,Dm⟩:=Dm;have Vq: ∀j,Pn tbl (some ((x::xs).map λx=>(x.1,a.1))) x.1 (xs.map Vf++(qs.map p8++Vf a::A3)) j->j=x.1\/j=a.1:=λj hj=>by
   rcases hj with h|⟨h,_⟩
   ·exact .inl h
   ·simp only[Pm,JE,Av,Prod.mk.injEq] at h;obtain⟨y,_,_,h⟩:=h;exact .inr h.symm
  have qo: ∀y,y∈x::xs-> ∃d,y.2.1.dst=some d/\d≠da:=λy hy=>by obtain⟨d',qt,_⟩:=(hx y hy).dst;refine⟨d',qt,λe=>?_⟩;rw[Aq,BC] at hn;exact hn.2.2 y.2.1.dst (Av.2 ⟨y,hy,rfl⟩) a.2.1.dst (Av.2 ⟨a,Ak,rfl⟩) (by rw[qt,qH,e])
  refine .alt (λk=>if k=x.1 then x.2.1 else a.2.1) (λk v l2=>if k=x.1 then∃cs,x.2.2 v cs/\l2=cs++l else∃cs,a.2.2 v cs/\l2=cs++l) (λk=>if k=x.1 then xs.map Vf++(qs.map p8++Vf a::A3) else(x::xs).map Vf++(qs.map p8++A3)) (λk=>if k=x.1 then some (xs.map λx=>(x.1,a.1)) else none) (λk hk=>?_) (λk hk=>?_) (λk hk=>?_) λk hk=>?_;all_goals rcases Vq k hk with h|h
  ·subst h;simp only[CS];exact⟨.refl _,by rw[CY] at kG;exact kG,iF (a:=Vf a) xs⟩
  ·subst h;simp only[Ab (FJ He)];refine⟨?_,Q0,rfl⟩;show(Vf a::((x::xs).map Vf++(qs.map p8++A3))).Perm ((x::xs).map Vf++(qs.map p8++Vf a::A3));rw[<-Am,<-Am];exact AI.symm
  ·subst h;simp only[CS];exact⟨hI.law fr l h1 h2,by rw[hI.guard];rfl,by rw[hd];exact hb⟩
  ·subst h;simp only[Ab (FJ He)];exact⟨ha.law fr l h1 h2,by rw[ha.guard];rfl,by rw[qH];exact hba⟩
  ·subst h;simp only[CS];rintro v l' ⟨cs,_,rfl⟩;exact⟨λc hc=>Aa _ (h2 _ (hR c hc)),λy hy _ c hc=>Aa _ (h2 _ (hS y hy c hc))⟩
  ·subst h;simp only[Ab (FJ He)];rintro v l' ⟨cs,_,rfl⟩;exact⟨λc hc=>Aa _ (h2 _ (hR c hc)),λy hy _ c hc=>Aa _ (h2 _ (hS y hy c hc))⟩
  ·subst h;simp only[CS];rintro v l' ⟨cs,hv,rfl⟩;rename_i hk0;obtain⟨d',qt,qy⟩:=qo x Ak;exact ih (by rw[hd];exact low h1 ae) (by rw[qt,HK,Ab qy];exact h0) (λc hc=>Aa _ (h2 c hc)) (λy hy=>hx y (An _ hy)) (AP.1 hn).2 Dm (hk0 v cs hv)
  ·subst h;simp only[Ab (FJ He)];rintro v l' ⟨cs,hv,rfl⟩;rename_i hk0;rw[Aq,BC] at hn;refine eR (x::xs) (by rw[qH];exact low h1 hfa) (λc hc=>Aa _ (h2 c hc)) hx hn.1 (λy hy d hd=>by obtain⟨d',qt,_,h⟩:=(hx y hy).dst;rw[hd] at qt;cases qt;exact h) hR hS ?_;have h8:=AddK.mono (λfr l h=>QK.first Aea qH h.1 hq h.2) (AddK.none' (fr0:=fr0) h0 qo hk0);have AaO:Inv (λfr' l'=>QK P ro N R qs fr' λdC=>PlanS P ro N E ops Q R tbl none sp A3 dC ds l'):=λfr fr' l l' h1 h2 h=>QK.le (λ_ _ h h'=> .weak h h') h1 (QK.mono (λ_ h=>eP h2 h) h);have h9:=AddK.first AaO qH qo (AddK.snoc h8) v cs hv;exact AddK.mono (λ_ _ h=>QK.plan h) h9
def AllAd(P:Program)(ro:Option Nat)(N:Nat)(fr:Fr)(l:Ac):List Wb->Prop
 |[]=>True
 |x::xs=>IsAd P ro N fr l x/\AllAd P ro N fr l xs
theorem AllAd.mem{fr:Fr}{l:Ac}: ∀{xs:List Wb},AllAd P ro N fr l xs-> ∀x,x∈xs->IsAd P ro N fr l x
 |[],_,x,hx=>by cases hx
 |y::ys,h,x,hx=>by
  rcases At.1 hx with rfl|hx
  ·exact h.1
  ·exact AllAd.mem h.2 x hx
def ndB:List (Option Nat)->Bool
 |[]=>true
 |x::xs=>!xs.contains x&&ndB xs
theorem Zb: ∀{xs:List (Option Nat)},ndB xs=true->xs.Nodup
 |[],_=>List.nodup_nil
 |x::xs,h=>by simp only[ndB,AV,DU,List.contains_eq_mem,EF] at h;exact AP.2 ⟨h.1,Zb h.2⟩
def Um(fr:Fr):List (Option Nat)->Bool
 |[]=>true
 |some d::r=>(BZ fr d).isNone&&Um fr r
 |none::r=>Um fr r
theorem Me{fr:Fr}: ∀{xs:List (Option Nat)},Um fr xs=true-> ∀d,some d∈xs->BZ fr d=none
 |[],_,d,h=>by cases h
 |some e::r,h,d,hd=>by
  simp only[Um,AV,Option.isNone_iff_eq_none] at h;rcases At.1 hd with h2|h2
  ·cases h2;exact h.1
  ·exact Me h.2 d h2
 |none::r,h,d,hd=>by
  rcases At.1 hd with h2|h2
  ·cases h2
  ·exact Me (xs:=r) h d h2
theorem sr{L:List (Nat×Nat)}{fr:Fr}{l:Ac}(xs:List Wb)(qs:List (Nat×Oper))(a:Wb)(da:Nat)(hL:xs.map (λx=>(x.1,a.1))=L)(XI:xs.map Vf++(qs.map p8++Vf a::A3)=pl)(qH:a.2.1.dst=some da)(hR: ∀c,c∈R->c∈l)(hS: ∀x,x∈sp-> ∀c,c∈x.2->c∈l)(hx:AllAd P ro N fr l xs)(ha:IsAd P ro N fr l a)(hn:ndB ((xs++[a]).map λx=>x.2.1.dst)=true)(Dm:Xf ops tbl (qs.map p8) (Vf a) A3 (xs.map Vf)=true)
 (hqd:(qs.all λx=>x.2.dst !=some da)=true)(v7:Um fr (some da::qs.map λx=>x.2.dst)=true)
 (hk:AddK xs fr l (λfr1 l1=>QK P ro N R qs fr1 λdC=>AddK [a] dC l1 (λfr' l'=>PlanS P ro N E ops Q R tbl none sp A3 fr' ds l'))):PlanS P ro N E ops Q R tbl (some L) sp pl fr ds l:=by
 subst hL XI;exact nj hR hS ha qH (λx hx=>by simpa using A5.1 hqd x hx) (λx hx d hd=>Me v7 d (An _ (Av.2 ⟨x,hx,hd⟩))) xs (λ_ _ h=>h) (Me v7 da Ak) (λ_ h=>h) hx.mem (Zb hn) Dm hk
variable{fr:Fr}{l:Ac}{d:Nat}{aft:Array Edge}
theorem Pd{xs:List Operand}{at_:Array TypeId}(hx:ev fr x=some (.func (.func f) #[] #[]))(hy:Sd fr xs=some vs)[c:EN P f](h: ∀l',(∀c,c∈l->c∈l')->Fn P f vs l' λv l2=> ∃cs,K v cs/\l2=cs++l')(hb:Nat.blt d N=true)(hf:BZ fr d=none):IsAd P ro N fr l (i,⟨some d,.call {callee:= .value x,args:=xs.toArray,argTypes:=at_},ty,pos,aft,none⟩,K):=
 ⟨λl' h2=>Az hx hy (h l' h2),rfl,d,rfl,hb,hf⟩
theorem nk{t:TypeId}{zs:Ap}[c:ZV P t zs](hb:Nat.blt d N=true)(hf:BZ fr d=none):IsAd P ro N fr l (i,⟨some d,.alloc t,ty,pos,aft,none⟩,λv cs=> ∃b,v= .pointer (some ⟨b,0,none⟩)/\cs=[(b,.cells zs.toArray t (0,0))]):=
 ⟨λl' h2=>e_alloc.mono (by rintro v l2 ⟨b,_,h3,h4⟩;exact⟨_,⟨b,h3,rfl⟩,h4⟩),rfl,d,rfl,hb,hf⟩
end
section
end
section
variable{fr:Fr}{d:Option Nat}{aft:Array Edge}
theorem nl{T off:Nat}(hx:ev fr x=some (.pointer (some ⟨b,off,none⟩)))[c:AT P T n e k]:OpQ P ro N fr R ⟨d,.slice T x none none none,ty,pos,aft,g⟩ (.slice (some ⟨b,off,none⟩) n n):=BN rfl λρ l hρ _=>by
 obtain⟨Hv,u1,u2,u3⟩:=MD c.out;simp only[execOp,hρ x _ hx];rw[AB];unfold Instr.sliceAt;rw[Cc u1];simp only[Instr.sureAddr,AB,Bn,DK,Instr.sliceBounds];rw[Hx u2];simp only[Bn,u3];refine⟨?_,trivial⟩
 split<;>simp[GE]
end
def ss(gb:Nat)(W:A4)(a:Int):Value:= .pointer (if KG W a=0 then some ⟨gb,(a/8).toNat,none⟩ else none)
theorem eU(b gb F:Nat)(W:A4)(h1:F<=64)(hW:W.length=F*8)(a:Int)(a0:0<=a)(a1:a<18446744073709551616)(l:Ac)(hm:Pz b gb F∈l):Fn prog 258 [pV b,Be a] l λv l'=>v= .tuple #[ss gb W a,.int .i64 (KG W a)]/\l'=l:=by
 unfold ss KG;rw[hW];refine AN func258 ntmps258 λE=>?_;by_cases h8:a%8=0
 case neg=>rw[Ad h8];exact E3
 rw[Ab (Gm h8)];by_cases hr:a>=((F*8:Nat):Int)*8
 ·rw[Ad hr];exact E3
 rw[Ab hr];refine Aj ?_;refine Bb .refl ⟨?_,rfl⟩;exact BI (λx=>Value.tuple #[.pointer (some ⟨gb,x,none⟩),.int .i64 0]) Af
theorem AbT(h:i<W.length):(toArray (W.map Be))[i]?=some (Be (W.getD i 0)):=by rw[AE,A6,Al h,List.getD,Al h];rfl
theorem vg(a0:0<=a)(hc:KG W a=0):(a/8).toNat<W.length:=by
 unfold KG at hc
 (repeat' split at hc)<;>omega
theorem eV(b gb F:Nat)(W:A4)(h1:F<=64)(hW:W.length=F*8)(a:Int)(a0:0<=a)(a1:a<18446744073709551616)(l:Ac)(m1:Pz b gb F∈l)(m2:Ug gb W∈l):Fn prog 202 [pV b,Be a] l λv l'=>v= .tuple #[Be (N1 W a).1,iV (N1 W a).2]/\l'=l:=by
 unfold N1;refine AN func202 ntmps202 λE=>?_;refine Aj ?_;refine Bh (AL rfl rfl λl2 Lf=>eU b gb F W h1 hW a a0 a1 l2 (Lf _ m1)) ?_;unfold ss;by_cases hc:KG W a=0
 ·have hv:=AbT (vg a0 hc);rw[Ad hc,Ad hc,hc];refine Aj ?_;exact qr
 ·rw[Ab hc,Ab hc];refine Aj ?_;exact qr
section
theorem iG(h:IsK F C k S p s)(a:Int)(a0:0<=a)(a1:a<18446744073709551616)(l:Ac)(hl: ∀c,c∈Ax b p s S G->c∈l):Fn prog 202 [pV p.m,Be a] l λv l'=>v= .tuple #[Be (N1 S.W a).1,iV (N1 S.W a).2]/\l'=l:=by obtain⟨gb,f1,f2,hW,hu,hM⟩:=h.mem;exact eV p.m gb F S.W f2 hW a a0 a1 l (mM hl _ (by rw[hM];simp)) (mM hl _ (by rw[hM];simp))
theorem AbU(W:A4)(i:Nat)(v:Int):(toArray (W.map Be)).setIfInBounds i (Be v)=toArray ((W.set i v).map Be):=by simp[HT]
theorem iH{v:Int}(h: ∀w,w∈W->Lt w)(hv:Lt v): ∀w,w∈W.set i v->Lt w:=λw hw=>by
 rcases CQ hw with h1|h1
 ·exact h w h1
 ·rw[h1];exact hv
theorem lfM{x:Value}{W':A4}(hK:IsK F C k S p s)(hk:k'<=k)(h: ∀gb G,S.W.length=F*8->F<=64->(∀w,w∈S.W->Lt w)->Fn prog f vs (Pz p.m gb F::Ug gb S.W::G) λv l'=>v=x/\W'.length=F*8/\(∀w,w∈W'->Lt w)/\ ∃X,l'=X++Pz p.m gb F::Ug gb W'::G):Fn prog f vs (Ax b p s S G) (KK F C b p k' x {S with W:=W'} G):=by obtain⟨gb,f1,f2,hW,hu,hM⟩:=hK.mem;exact Fn.re (.of_perm (by unfold Ax;rw[hM];exact BX)) (h gb (CF b p::As.asA p.n S.N::(s.C++(s.A++(s.H++(s.T++(s.Q++(s.E++(s.V++G)))))))) hW f2 hu) λv l' ⟨h1,h2,h3,X,h4⟩=>⟨Ax b p {s with M:=[Pz p.m gb F,Ug gb W']} {S with W:=W'} (X++G),by rw[h4];unfold Ax;exact A8 [],h1,{s with M:=[Pz p.m gb F,Ug gb W']},_,{hK.mono hk with mem:=⟨gb,f1,f2,h2,h3,rfl⟩},⟨X,rfl⟩,rfl⟩
theorem bQ(hK:IsK F C k S p s)(a v:Int)(a0:0<=a)(a1:a<18446744073709551616)(hv:Lt v):Fn prog 201 [pV p.m,Be a,Be v] (Ax b p s S G) (KK F C b p k (iV (V9 S.W a v).1) {S with W:=(V9 S.W a v).2} G):=by
 refine lfM hK (Bf _) λgb G hW f2 hu=>?_;have hA:=eU p.m gb F S.W f2 hW a a0 a1;refine AN func201 ntmps201 λE=>?_;refine Aj ?_;refine Bh (AL rfl rfl λl2 Lf=>hA l2 (Lf _ (.head _))) ?_;unfold ss V9;by_cases hc:KG S.W a=0
 ·have C9:=vg a0 hc;rw[Ad hc,Ad hc,hc];refine Aj ?_;refine M9 (Du (l':=Pz p.m gb F::Ug gb (S.W.set (a/8).toNat v)::G) rfl rfl rfl (by rw[AbU];exact .there .here) (by simpa using C9)) rfl rfl ?_;rintro _ _ ⟨rfl,rfl⟩;refine Aj ?_;exact BE [] rfl .refl (by exact Ba) ⟨rfl,by simpa using hW,iH hu hv,[],rfl⟩
 ·rw[Ab hc,Ab hc];refine Aj ?_;exact Bb .refl ⟨rfl,hW,hu,[],rfl⟩
theorem RM(b gb F:Nat)(l:Ac)(m1:Pz b gb F∈l):Fn prog 344 [pV b] l λv l'=>v=iV (F:Nat)/\l'=l:=by refine AN func344 ntmps344 λE=>?_;refine Aj ?_;exact qr
end
def Xg(W:A4)(f j:Nat):A4:=W.take (8*f)++(replicate (8*j) 0++W.drop (8*(f+j)))
theorem AbV(W:A4)(f:Nat):Xg W f 0=W:=by simp[Xg]
theorem Xh(hW:W.length=n*8)(h:f+j<=n):(Xg W f j).length=n*8:=by unfold Xg;simp;omega
theorem vi(f j:Nat)(h: ∀w,w∈W->Lt w): ∀w,w∈Xg W f j->Lt w:=λw hw=>by
 rcases AF.1 hw with hw|hw
 ·exact h w (List.mem_of_mem_take hw)
 rcases AF.1 hw with hw|hw
 ·rw[(List.mem_replicate.1 hw).2];exact⟨by decide,by decide⟩
 ·exact h w (List.mem_of_mem_drop hw)
theorem sv(hW:W.length=n*8)(h:f+j<n):Da (toArray ((Xg W f j).map Be)) ((f+j)*8) z8=toArray ((Xg W f (j+1)).map Be):=by
 have e1:(Xg W f j).map Be=(W.take (8*f)++replicate (8*j) 0).map Be++((W.drop (8*(f+j))).take 8).map Be++(W.drop (8*(f+j)+8)).map Be:=by rw[<-Aq,<-Aq];congr 1;unfold Xg;rw[Am,Am,<-Lc,Cp]
 have e2:(Xg W f (j+1)).map Be=(W.take (8*f)++replicate (8*j) 0).map Be++z8++(W.drop (8*(f+j)+8)).map Be:=by rw[show z8=(replicate 8 (0:Int)).map Be from rfl,<-Aq,<-Aq];congr 1;unfold Xg;rw[Am,Am,show 8*(j+1)=8*j+8 by omega,<-Jy,Am];rfl
 rw[e1,e2,show(f+j)*8=((W.take (8*f)++replicate (8*j) 0).map Be).length by simp;omega];exact Ar.setFrom_mid _ _ _ _ (by simp;omega)
section
theorem nm(hK:IsK F C k S p s)(f n:Int):Fn prog 138 [pV p.m,.int .i64 f,.int .i64 n] (Ax b p s S G) (KK F C b p k (iV (r4 S.W f n).1) {S with W:=(r4 S.W f n).2} G):=by
 refine lfM hK (Bf _) λgb G hW f2 hu=>?_;unfold r4;rw[show nF S.W=F by unfold nF;omega];refine AN func138 ntmps138 λE=>?_;refine Aj ?_;refine AS (Ez rfl rfl) ?_;rintro _ _ ⟨b4,_,rfl,rfl⟩;refine AS (Ez rfl rfl) ?_;rintro _ _ ⟨b5,_,rfl,rfl⟩;refine Aj ?_;refine Cm [] 27 _ ?_ (hR:=(λ_ h=>h));by_cases aj:f<0\/f>=F\/n<0\/n>F-f
 ·rw[Ad aj];by_cases h1:f<0<;>by_cases h2:f>=F<;>by_cases h3:n<0<;>by_cases h4:n>F-f;all_goals first
   |(exfalso;omega)
   |(refine BM ?_
     refine Aj ?_;exact Bb (.drop (.drop .refl)) ⟨rfl,hW,hu,[],rfl⟩)
 rw[Ab aj];obtain⟨f,rfl⟩: ∃q:Nat,f=q:=⟨f.toNat,Af⟩
 obtain⟨n,rfl⟩: ∃q:Nat,n=q:=⟨n.toNat,Af⟩
 refine BM ?_;refine Aj ?_;refine AS (Az rfl rfl (Yv p.m f _)) ?_;rintro _ _ ⟨B1,B2,rfl,rfl⟩;refine Aj ?_;refine Dg (α:=Nat) (ps:=[42,43]) (lb:=[.pointer (some ⟨B1,0,none⟩),.pointer (some ⟨B2,0,none⟩)]) rfl (VJ B1 B2 p.m gb F f Af f2) (λ_=>rfl) rfl
  (λpre l=>pre.length<=n/\l=[BS B1 f,XM B2 p.m,BS b5 n,BS b4 f,Pz p.m gb F,Ug gb (Xg S.W f pre.length)])
  (λc pre l=>c= .exit 1/\l=[BS B1 f,XM B2 p.m,BS b5 n,BS b4 f,Pz p.m gb F,Ug gb (Xg S.W f n)])
  _ G (λpre l2 X2 hX h=>by rw[h.2];exact⟨Ai _ (by exact BW),Ai _ (by exact BW),Ai _ (by exact BW)⟩) (by rw[Fe,AbV];exact AW) ⟨Bp _,rfl⟩ ?_ ?_ ?_
 ·rintro E r0 FU pre x l' T ⟨fn,tmps,D,rfl⟩ hT ⟨hj,rfl⟩ Dw;obtain⟨j,hj2⟩: ∃j,pre.length=j:=⟨_,rfl⟩
  obtain⟨hx,hxF⟩:x=f+j/\x<F:=by have h3:=JF Dw (i:=j) (by simp;omega);rw[Ic Af] at h3;have h4:=Dw.length_le;simp[hj2] at h3 h4;omega
  subst hx;rw[hj2] at hj⊢;simp only[DX,Ae,Ag];refine Aj ?_;refine CK (by exact DY) ?_;refine Aj ?_;by_cases hb:((f+j:Nat):Int)-f>=n
  ·have:j=n:=by omega
   subst this;refine Aj ?_;refine E5 [BS B1 f,XM B2 p.m,BS b5 j,BS b4 f,Pz p.m gb F,Ug gb (Xg S.W f j)] (by exact AW) ⟨rfl,rfl⟩
  ·refine Aj ?_;refine Bh (GT (zs:=z8) (cs:=z8) rfl rfl) ?_;refine Abv ?_;refine M9 (EH (cs:=toArray ((Xg S.W f j).map Be)) (ws:=toArray z8) (n:=8) (off:=(f+j)*8) (l':=BS B1 f::XM B2 p.m::BS b5 n::BS b4 f::Pz p.m gb F::Ug gb (Xg S.W f (j+1))::_) rfl rfl rfl (by simp[Value.oneCell']) (by rw[sv hW hxF];exact DY) (by simp[Xh hW (by omega:f+j<=F)];omega)) rfl rfl ?_;rintro _ _ ⟨rfl,rfl⟩;refine Aj ?_;exact Ci [BS B1 f,XM B2 p.m,BS b5 n,BS b4 f,Pz p.m gb F,Ug gb (Xg S.W f (j+1))] .refl ⟨by simp;omega,by simp[hj2]⟩
 ·rintro D xs l' rfl ⟨hj,rfl⟩;rw[List.length_range'] at hj⊢;have:F-f=n:=by omega
  rw[this];simp only[Ae,Ag];refine Aj ?_;exact AU [D] _ rfl (l':=Pz p.m gb F::Ug gb (Xg S.W f n)::G) (by exact AW) (by exact Ba) (by exact AW) ⟨rfl,Xh hW Af,vi f n hu,[],rfl⟩
 ·rintro D c pre l' Dw ⟨rfl,rfl⟩;simp only[Ae,Ag];refine Aj ?_;exact AU [D] _ rfl (l':=Pz p.m gb F::Ug gb (Xg S.W f n)::G) (by exact AW) (by exact Ba) (by exact AW) ⟨rfl,Xh hW Af,vi f n hu,[],rfl⟩
instance{f n:Int}:EK prog F C b p 138 [pV p.m,.int .i64 f,.int .i64 n] k S k (iV (r4 S.W f n).1) {S with W:=(r4 S.W f n).2}:=⟨λs G h=>nm h f n⟩
theorem AbW: ∀(D:List α),D.length=8-> ∃a b c d e f g i,D=[a,b,c,d,e,f,g,i]
 |[a,b,c,d,e,f,g,i],_=>⟨a,b,c,d,e,f,g,i,rfl⟩
abbrev w8C(B:Nat)(ws:A4):Bd:=(B,.cells (toArray (ws.map Be)) 254 (0,0))
def IsWd(W:A4)(f:Int)(sl:Value)(X:Ac):Prop:=if 0<=f/\f<nF W then∃B,sl= .slice (some ⟨B,0,none⟩) 8 8/\X=[w8C B ((W.drop (8*f.toNat)).take 8)] else sl= .slice none 0 0/\X=[]
theorem bR(h:IsK F C k S p s)(f:Int):Fn prog 87 [pV p.m,.int .i64 f] (Ax b p s S G) λv l'=> ∃sl X e,v= .tuple #[sl,iV e]/\IsWd S.W f sl X/\l'=X++Ax b p s S G:=by
 obtain⟨gb,f1,f2,hW,hu,hM⟩:=h.mem;have m1:Pz p.m gb F∈Ax b p s S G:=mM (λ_ h=>h) _ (by rw[hM];simp);have m2:Ug gb S.W∈Ax b p s S G:=mM (λ_ h=>h) _ (by rw[hM];simp);have eF:nF S.W=F:=by unfold nF;omega
 refine AN func87 ntmps87 λE=>?_;by_cases h1:f<0
 ·refine Aj ?_;exact BE [] rfl .refl (by exact Ba) ⟨_,[],_,rfl,by unfold IsWd;rw[eF,Ab Af];exact⟨rfl,rfl⟩,rfl⟩
 by_cases h2:f>=F
 ·refine Aj ?_;exact BE [] rfl .refl (by exact Ba) ⟨_,[],_,rfl,by unfold IsWd;rw[eF,Ab Af];exact⟨rfl,rfl⟩,rfl⟩
 obtain⟨f,rfl⟩: ∃q:Nat,f=q:=⟨f.toNat,Af⟩
 obtain⟨D,hD⟩: ∃D,(S.W.drop (8*f)).take 8=D:=⟨_,rfl⟩
 have hx:(toArray (S.W.map Be)).extract (f*8) (f*8+8)=toArray (D.map Be):=by rw[<-hD];simp only[E7,Cj];rw[Hd,List.map_drop,CJ,MZ f 8]
 obtain⟨d0,d1,d2,d3,d4,d5,d6,d7,rfl⟩:=AbW D (by rw[<-hD];simp;omega);simp only[AJ,CX] at hx;refine Aj ?_;refine Bh (Dt (n:=8) rfl m2 (by simp;omega) hx) ?_;refine AQ λB=>?_;refine Bh (nl rfl) ?_;refine Aj ?_;exact BE [] rfl .refl (by exact Ba) ⟨_,[w8C B [d0,d1,d2,d3,d4,d5,d6,d7]],_,rfl,by unfold IsWd;rw[eF,Ad Af];exact⟨B,rfl,by rw[A0,hD]⟩,rfl⟩
end
def E4(va:Int):Int×Int:=if va>=32768 then(0,3) else(va/64,0)
theorem iI(va:Int)(a0:0<=va)(a1:va<18446744073709551616)(l:Ac):Fn prog 257 [Be va] l λv l'=>v= .tuple #[iV (E4 va).1,iV (E4 va).2]/\l'=l:=by
 unfold E4;refine AN func257 ntmps257 λE=>?_;by_cases h:va>=32768
 ·rw[Ad h];exact E3
 ·rw[Ab h];exact E3
theorem bS(pg lv:Int)(l:Ac):Fn prog 373 [.int .i64 pg,.int .i64 lv] l λv l'=>v=iV (r5 pg lv)/\l'=l:=by
 unfold r5;refine AN func373 ntmps373 λE=>?_;by_cases hb:pg<0\/pg>=512\/lv<1\/lv>3
 ·rw[Ad hb];by_cases h1:pg<0<;>by_cases h2:pg>=512<;>by_cases h3:lv<1<;>by_cases h4:lv>3;all_goals first
   |(exfalso;omega)
   |(refine Aj ?_
     exact Bb .refl ⟨rfl,rfl⟩)
 rw[Ab hb];obtain rfl|rfl|rfl:lv=1\/lv=2\/lv=3:=by omega
 ·refine Aj ?_;refine Ie 3 ?_;refine Aj ?_;refine E9 ?_;refine Aj ?_;refine E9 ?_;refine Aj ?_;refine Bb .refl ⟨?_,rfl⟩;simp[JH];omega
 ·refine Aj ?_;refine Ie 3 ?_;refine Aj ?_;refine E9 ?_;refine Aj ?_;refine Bb .refl ⟨?_,rfl⟩;simp[JH]
 ·refine Aj ?_;refine Ie 3 ?_;refine Aj ?_;refine Bb .refl ⟨?_,rfl⟩;simp[JH]
instance{pg lv:Int}{l:Ac}:QF prog 373 [.int .i64 pg,.int .i64 lv] l (iV (r5 pg lv)):=⟨λl _=>bS pg lv l⟩
theorem Zc(w a n v:Nat)(hw:w<18446744073709551616)(h1:1<=n)(h2:n<=63)(h3:a+n<=64)(hv:v<2^n)(l:Ac):
 Fn prog 333 [.int .u64 (w:Nat),.int .i64 (a:Nat),.int .i64 (n:Nat),.int .u64 (v:Nat)] l λr l'=>r= .tuple #[.int .u64 (PA w a n v:Nat),.int .i64 0]/\l'=l:=by
 have AaP:v<18446744073709551616:=Ex hv (CZ (n:=2) Af (show n<=64 by omega));have hf:Ln v ((n:Nat):Int)=true:=by rw[YL AaP Af];exact Au hv
 have e1:IntKind.u64.wrap (((2^n-1:Nat):Int)*2^a)=(((2^n-1)*2^a:Nat):Int):=by rw[show(2:Int)^a=((2^a:Nat):Int) by simp,<-Ks,VG (Qt h3)]
 have e2:IntKind.u64.wrap (((v:Nat):Int)*2^a)=((v*2^a:Nat):Int):=by rw[show(2:Int)^a=((2^a:Nat):Int) by simp,<-Ks,VG (ej h3 hv)]
 refine AN func333 ntmps333 λE=>?_;refine gz ?_;refine Bh (AL rfl rfl λl2 _=>YO a n h1 h3 l2) ?_;refine gz ?_;refine Bh (AL rfl rfl λl2 _=>Qs v AaP n l2) ?_;rw[hf];refine gz ?_;refine Bh (AL rfl rfl λl2 _=>VW n h1 h2 l2) ?_;refine gz ?_;refine Bh (Tx (n:=a) (i:=((2^n-1:Nat):Int)) rfl rfl (by show a<=64;omega)) ?_;rw[e1];refine Bh (lZ rfl rfl hw (Qt h3)) ?_;refine gz ?_;refine Bh (Tx (n:=a) (i:=((v:Nat):Int)) rfl rfl (by show a<=64;omega)) ?_;rw[e2];refine Bh (Ae2 rfl rfl (Ev Kr hw) (ej h3 hv)) ?_;rw[rJ hw h3 hv];exact E3
section
variable{fr:Fr}{l:Ac}{d:Option Nat}{aft:Array Edge}{y z:Operand}{u w:Value}{t t2 T kt et:TypeId}
theorem bT{cs ws:Ap}(hx:ev fr x=some (.agg (toArray cs)))(hy:ev fr y=some (.int ki (i:Nat)))[c:AT P t n e k][c2:AG P e k'](hi:i<n)(hw:(cs.drop (i*k)).take k=ws):OpQ P ro N fr R ⟨d,.index t x y,ty,pos,aft,g⟩ (.agg (toArray ws)):=BN rfl λρ l hρ _=>by obtain⟨Hv,h1,h2,h3⟩:=MD c.out;obtain⟨u,inf2,u1,u2,u3,u4⟩:=Kc c2.out;rw[h2] at u3;cases u3;subst hw;simp only[execOp,hρ x _ hx,hρ y _ hy];rw[AB];unfold Instr.index;simp only[asIntOf,AB,Bn];rw[<-AB,Cc h1];simp only;rw[Ad ⟨Af,Af⟩,E2 h2];have:=VD (P:=P) (f:=λv=>(pure v:Sem Value)) (l:=l) (Q:=λa l'=>sl P (pure (Next.value a)) l' λnx l'=>nx= .value (.agg (toArray ((cs.drop (i*k)).take k)))/\l'=l) u1 u2 h2 cs (i*k);rw[AB] at this;rw[A0,h3];rw[h3] at this;exact this.2 ⟨rfl,rfl⟩
theorem bU{cs:Ap}(hx:ev fr x=some (.agg (toArray cs)))(hy:ev fr y=some (.int ki (i:Nat)))[c:AT P t n e k][c2:OC P e](hi:i<n)(hv:cs[i*k]?=some v):OpQ P ro N fr R ⟨d,.index t x y,ty,pos,aft,g⟩ v:=BN rfl λρ l hρ _=>by obtain⟨Hv,h1,h2,h3⟩:=MD c.out;obtain⟨u,inf2,u1,u2,_,_⟩:=ME c2.out;simp only[execOp,hρ x _ hx,hρ y _ hy];rw[AB];unfold Instr.index;simp only[asIntOf,AB,Bn];rw[<-AB,Cc h1];simp only;rw[Ad ⟨Af,Af⟩,E2 h2];have:=VE (P:=P) (f:=λv=>(pure v:Sem Value)) (l:=l) (Q:=λa l'=>sl P (pure (Next.value a)) l' λnx l'=>nx= .value v/\l'=l) u1 u2 cs (i*k) hv;rw[AB] at this;rw[A0,h3];exact this.2 ⟨rfl,rfl⟩
end
instance:EQ prog 389 [none,none,none,none,some .i64]:=⟨BA⟩
abbrev Ri(B:Nat)(e:UY):Bd:=(B,.cells (toArray (Ui e)) 389 (0,0))
abbrev Zd(e:UY):Value:= .agg (toArray (Ui e))
theorem enK(e:UY):AllK [none,none,none,none,some .i64] (Ui e):=⟨_,_,rfl,⟨_,rfl⟩,_,_,rfl,⟨_,rfl⟩,_,_,rfl,⟨_,rfl⟩,_,_,rfl,⟨_,rfl⟩,_,_,rfl,⟨_,rfl⟩,rfl⟩
theorem eqE(e f:UY):Ca (Ui e) (Ui f)=decide (e=f):=by obtain⟨a,b,c,d,x⟩:=e;obtain⟨a',b',c',d',x'⟩:=f;rw[Kt];simp[Ca,Oh]
theorem bV(e:UY)(l:Ac):Fn prog 332 [Zd e] l λv l'=>v= .bool (Ve e)/\l'=l:=by
 unfold Ve;refine AN func332 ntmps332 λE=>?_;refine AQ λb1=>?_;cases hv:e.vd with
 |false=>rw[Ad rfl];refine Aj ?_;refine Bh (Gx (xs:=Ui e) (ys:=Ui bL) rfl rfl (enK e) (enK bL)) ?_;rw[eqE];refine Aj ?_;exact qr
 |true=>
  rw[Ab AX];refine Aj ?_;by_cases h:e.fr<0\/e.fr>=64
  ·rw[Ad h];by_cases h1:e.fr<0<;>by_cases h2:e.fr>=64;all_goals first
    |(exfalso;omega)
    |(refine Aj ?_
      exact qr)
  ·rw[Ab h];refine Aj ?_;cases hr:e.rd;all_goals
    refine Aj ?_;exact qr
theorem Wc(b:Nat)(l:Ac):Fn prog 334 [pV b] l λv l'=>v= .agg (toArray [.pointer (some ⟨b,0,none⟩),.pointer (some ⟨b,1,none⟩),.pointer (some ⟨b,2,none⟩),.pointer (some ⟨b,3,none⟩)])/\l'=l:=by
 refine AN func334 ntmps334 λE=>?_;refine AQ λb2=>?_;refine CA (Cu [13] 0 14) ?_;iterate 12 refine Yu ?_
 refine Yu ?_ (GT (zs:=[.pointer none,.pointer none,.pointer none,.pointer none]) (cs:=[.pointer (some ⟨b,0,none⟩),.pointer (some ⟨b,1,none⟩),.pointer (some ⟨b,2,none⟩),.pointer (some ⟨b,3,none⟩)]) rfl rfl);refine lr ?_;refine Rd ?_;refine Aj ?_;exact qr
theorem vj(w:Nat)(a:Int)(h0:0<=a)(h1:a<64)(hw:w<18446744073709551616)(l:Ac):Fn prog 333 [.int .u64 (w:Nat),.int .i64 a,.int .i64 1,.int .u64 1] l λr l'=>r= .tuple #[.int .u64 (PA w a.toNat 1 1:Nat),.int .i64 0]/\l'=l:=by
 obtain⟨a,rfl⟩: ∃q:Nat,a=q:=⟨a.toNat,Af⟩
 exact Zc w a 1 1 hw AX AX Af AX l
theorem xU(w a:Nat):PA w a 1 1=2^a*(2*(w/2^(a+1))+1)+w%2^a:=rfl
theorem xV(vd lf rd wr:Bool)(f:Nat)(hf:f<64)(hm:Ve ⟨vd,lf,rd,wr,f⟩=true)(l:Ac):Fn prog 294 [.agg (toArray [.bool vd,.bool lf,.bool rd,.bool wr,.int .i64 (f:Nat)])] l λv l'=>v= .tuple #[Be ((vd.toNat+2*lf.toNat+4*rd.toNat+8*wr.toNat:Nat)+256*(f:Int)),iV 0]/\l'=l:=by
 refine AN func294 ntmps294 λE=>?_;refine AQ λb1=>?_;refine Bh (AL rfl rfl λl2 _=>bV ⟨vd,lf,rd,wr,f⟩ l2) ?_;rw[hm];refine Aj ?_;refine Bh (AL rfl rfl λl2 _=>Zc 0 8 6 f AX AX AX AX Af l2) ?_;refine Aj ?_;refine Bh (AL rfl rfl λl2 _=>Wc b1 l2) ?_;refine Aj ?_;refine Ie 4 ?_;cases vd<;>cases lf<;>cases rd<;>cases wr;all_goals first
  |(exfalso;revert hm;simp[Ve];done)
  |(iterate 4
     refine Aj ?_;refine Bh (bU rfl rfl AX rfl) ?_;refine Aj ?_;try(refine Bh (AL rfl rfl λl2 _=>vj _ _ AX AX (by simp[PA];omega) l2) ?_)
     refine Aj ?_;refine E9 ?_
    refine Aj ?_;refine qr (hx:=?_)
    first|(simp[JH,PA];done)|(simp[JH,PA];omega))
theorem Ze(e:UY)(l:Ac):Fn prog 294 [Zd e] l λv l'=>v= .tuple #[Be (QA e).1,iV (QA e).2]/\l'=l:=by
 unfold QA;cases hm:Ve e with
 |true=>
  obtain⟨vd,lf,rd,wr,fr⟩:=e;obtain⟨f,rfl,hf⟩: ∃f:Nat,fr=f/\f<64:=by
   unfold Ve at hm;cases vd
   ·simp at hm;exact⟨0,Af,Af⟩
   ·simp only[Bool.true_eq_false,C6] at hm
    split at hm
    ·cases hm
    ·exact⟨fr.toNat,Af,Af⟩
  exact xV vd lf rd wr f hf hm l
 |false=>
 refine AN func294 ntmps294 λE=>?_;refine AQ λb1=>?_;refine Bh (AL rfl rfl λl2 _=>bV e l2) ?_;rw[hm];refine Aj ?_;exact qr
def Xi(w i:Nat):UY:=⟨w.testBit 0&&decide (0<i),w.testBit 1&&decide (1<i),w.testBit 2&&decide (2<i),w.testBit 3&&decide (3<i),0⟩
def eW(w i:Nat):Nat:=w/256%2^(min i 14-8)
abbrev Zf(j:Nat):Prop:=j<4\/(8<=j/\j<14)
theorem Afa{w:Nat}(h:w.testBit i=false):Xi w (i+1)=Xi w i:=by
 have key: ∀j,(w.testBit j&&decide (j<i+1))=(w.testBit j&&decide (j<i)):=λj=>by
  by_cases e:j=i
  ·subst e;rw[h];rfl
  ·congr 1;exact decide_eq_decide.2 Af
 unfold Xi;rw[key,key,key,key]
theorem AbX{w:Nat}(h:4<=i):Xi w (i+1)=Xi w i:=by
 have key: ∀j,j<4->(w.testBit j&&decide (j<i+1))=(w.testBit j&&decide (j<i)):=λj hj=>by congr 1;exact decide_eq_decide.2 Af
 unfold Xi;rw[key 0 Af,key 1 Af,key 2 Af,key 3 Af]
theorem Afb{w:Nat}(h:w.testBit i=true)(hi:i<4):(toArray (Ui (Xi w i))).setIfInBounds i (.bool true)=toArray (Ui (Xi w (i+1))):=by
 rcases i with _|_|_|_|i
 ·simp[Xi,Ui,h]
 ·simp[Xi,Ui,h]
 ·simp[Xi,Ui,h]
 ·simp[Xi,Ui,h]
 ·omega
theorem AbY{w:Nat}(h:w.testBit i=false\/i<8\/14<=i):eW w (i+1)=eW w i:=by
 unfold eW;by_cases h1:i<8
 ·rw[show min (i+1) 14-8=0 by omega,show min i 14-8=0 by omega]
 by_cases h2:14<=i
 ·rw[show min (i+1) 14=min i 14 by omega]
 have hb:w.testBit i=false:=by rcases h with h|h|h;exact h;omega;omega
 rw[show min (i+1) 14-8=(i-8)+1 by omega,show min i 14-8=i-8 by omega];rw[DW] at hb;have hb:¬w/2^i%2=1:=by simpa using hb
 have e:w/256/2^(i-8)=w/2^i:=by rw[Nat.div_div_eq_div_mul,show(256:Nat)=2^8 from rfl,<-Nat.pow_add,show 8+(i-8)=i by omega]
 rw[Nat.pow_succ,Nat.mod_mul,e,show w/2^i%2=0 by omega];simp
theorem Afc{w:Nat}(h:w.testBit i=true)(h1:8<=i)(h2:i<14):PA (eW w i) (i-8) 1 1=eW w (i+1)/\eW w i<64:=by
 unfold eW;rw[show min (i+1) 14-8=(i-8)+1 by omega,show min i 14-8=i-8 by omega];rw[DW] at h;have h:w/2^i%2=1:=by simpa using h
 have e:w/256/2^(i-8)=w/2^i:=by rw[Nat.div_div_eq_div_mul,show(256:Nat)=2^8 from rfl,<-Nat.pow_add,show 8+(i-8)=i by omega]
 have hl:=Ho (w/256) (show 2^(i-8)>0 from Nat.pow_pos Af);have hp:2^(i-8)<=2^5:=CZ Af Af;refine⟨?_,Af⟩;rw[xU,Nat.pow_succ,Nat.mod_mul,e,h,Nat.div_eq_of_lt Af,Dy hl];omega
theorem iJ(w i:Nat):Ed w i 1=if w.testBit i=true then 1 else 0:=by
 unfold Ed;rw[DW];by_cases h:w/2^i%2=1
 ·rw[Ad (by simpa using h)];simpa using h
 ·rw[Ab (by simpa using h)];simp;omega
theorem Zg{w:Nat}(hw:w<18446744073709551616):(w/16%16=0/\w/16384=0)<-> ∀j,j<64->w.testBit j=true->Zf j:=by
 constructor
 ·rintro⟨h1,h2⟩ j hj hb;by_cases hg:Zf j
  ·exact hg
  exfalso;by_cases h8:j<8
  ·have:(w/2^4%2^4).testBit (j-4)=true:=by
    rw[IR,Fb,show j-4+4=j by omega,hb];simp;omega
   rw[show w/2^4%2^4=0 from h1] at this;simp at this
  ·have:(w/2^14).testBit (j-14)=true:=by
    rw[Fb,show j-14+14=j by omega,hb]
   rw[show w/2^14=0 from h2] at this;simp at this
 ·intro h;have key: ∀j,w.testBit j=true->Zf j:=λj hb=>by
   by_cases hj:j<64
   ·exact h j hj hb
   ·rw[Fk (Ex hw (show 2^64<=2^j from CZ Af Af))] at hb;cases hb
  constructor
  ·refine J9 λj=>?_;rw[show w/16%16=w/2^4%2^4 from rfl,IR,Fb,Nat.zero_testBit];by_cases hj:j<4
   ·cases hb:w.testBit (j+4) with
    |false=>simp
    |true=>have:=key _ hb;omega
   ·simp[hj]
  ·refine J9 λj=>?_;rw[show w/16384=w/2^14 from rfl,Fb,Nat.zero_testBit];cases hb:w.testBit (j+14) with
   |false=>rfl
   |true=>have:=key _ hb;omega
theorem vk(w:Nat):({Xi w 64 with fr:=(eW w 64:Nat)}:UY)=bM w:=by simp[Xi,bM,eW]
theorem sx{w:Nat}(hw:w<18446744073709551616)(hi:i<64)(hb:w.testBit i=true)(hg:¬Zf i):Kl (w:Int)=(bL,5):=by unfold Kl;rw[Ab];rintro⟨h1,h2,_⟩;exact hg ((Zg hw).1 ⟨h1,h2⟩ i hi hb)
abbrev flC(B b:Nat):Bd:=(B,.cells (toArray [.pointer (some ⟨b,0,none⟩),.pointer (some ⟨b,1,none⟩),.pointer (some ⟨b,2,none⟩),.pointer (some ⟨b,3,none⟩)]) 504 (0,0))
theorem Zh(w:Nat)(hw:w<18446744073709551616)(l:Ac):Fn prog 343 [.int .u64 (w:Nat)] l λv l'=>v= .tuple #[Zd (Kl (w:Int)).1,iV (Kl (w:Int)).2]/\l'=l:=by
 refine AN func343 ntmps343 λE=>?_;refine AQ λb2=>?_;refine AQ λb4=>?_;refine Bh (AL rfl rfl λl2 _=>Wc b4 l2) ?_;refine AQ λb5=>?_;refine CN (α:=Nat) (λi=>[(0,.int .u64 (w:Nat)),(2,pV b2),(4,pV b4),(5,pV b5),(6,.int .u64 (eW w i:Nat)),(11,.int .i64 (i:Nat))]) (λi=>flC b5 b4::Ri b4 (Xi w i)::Ri b2 bL::l) (λi=>i<=64/\ ∀j,j<i->w.testBit j=true->Zf j) (λi=>64-i) 0 ⟨Af,λj hj=>by omega⟩ ⟨rfl,rfl,rfl,rfl,by rw[show eW w 0=0 from Nat.mod_one _];rfl,rfl,trivial⟩ (by rw[show Xi w 0=bL by simp[Xi]];exact .refl) ?_;rintro i ⟨hi,hg⟩;by_cases h64:i<64
 case neg=>
  obtain rfl:i=64:=by omega
  have uC:=(Zg hw).2 hg;have hf6:eW w 64<64:=Ho _ AX;refine Aj ?_;refine Bh (AL rfl rfl λl2 _=>bV ({Xi w 64 with fr:=(eW w 64:Nat)}:UY) l2) ?_;rw[vk];unfold Kl;rw[A0];cases hm:Ve (bM w) with
  |false=>rw[Ab (by simp)];refine Aj ?_;exact qr
  |true=>rw[Ad ⟨uC.1,uC.2,rfl⟩];refine Aj ?_;refine qr (hx:=?_);rw[<-vk];rfl
 refine Aj ?_;refine Bh (AL rfl rfl λl2 _=>Ro w hw i 1 Af Af Af Af l2) ?_;rw[show(1:Int).toNat=1 from rfl,A0,iJ];cases hb:w.testBit i with
 |false=>refine Aj ?_;exact BO (i+1) ⟨Af,λj hj h=>by by_cases e:j=i;subst e;rw[hb] at h;cases h;exact hg j Af h⟩ Af ⟨rfl,rfl,rfl,rfl,by rw[AbY (.inl hb)];rfl,rfl,trivial⟩ (by rw[Afa hb];exact .refl)
 |true=>
  rw[Ad rfl];by_cases h4:i<4
  ·refine Aj ?_;refine Bh (DS (v:= .pointer (some ⟨b4,i,none⟩)) rfl (.head _) (by rcases i with _|_|_|_|i<;>first|rfl|omega)) ?_;refine Aj ?_;refine M9 (Du (l':=flC b5 b4::Ri b4 (Xi w (i+1))::Ri b2 bL::l) rfl rfl rfl (by rw[Afb hb h4];exact .there .here) (by simp;omega)) rfl rfl ?_;rintro _ _ ⟨rfl,rfl⟩;refine Aj ?_;exact BO (i+1) ⟨Af,λj hj h=>by by_cases e:j=i;subst e;exact .inl h4;exact hg j Af h⟩ Af ⟨rfl,rfl,rfl,rfl,by rw[AbY (.inr (.inl Af))];rfl,rfl,trivial⟩ .refl
  by_cases h8:8<=i/\i<14
  ·obtain⟨h8,uD⟩:=h8;obtain⟨f1,f2⟩:=Afc hb h8 uD;refine Aj ?_;refine Bh (AL rfl rfl λl2 _=>vj (eW w i) ((i:Int)-8) Af Af Af l2) ?_;rw[show((i:Int)-8).toNat=i-8 by omega,f1];refine Aj ?_;exact BO (i+1) ⟨Af,λj hj h=>by by_cases e:j=i;subst e;exact .inr ⟨h8,uD⟩;exact hg j Af h⟩ Af ⟨rfl,rfl,rfl,rfl,rfl,rfl,trivial⟩ (by rw[AbX Af];exact .refl)
  ·rw[sx hw h64 hb Af];by_cases h8':i<8;all_goals
    refine Aj ?_;exact qr
theorem xW(hu: ∀w,w∈W->Lt w)(a:Int):Lt (N1 W a).1:=by
 unfold N1
 split
 ·rw[List.getD];cases h:W[(a/8).toNat]? with
  |none=>exact⟨by decide,by decide⟩
  |some w=>exact hu w (Bc h)
 ·show Lt 0;exact⟨by decide,by decide⟩
theorem sy(w:Int):0<=(Kl w).1.fr/\(Kl w).1.fr<64:=by
 unfold Kl
 split
 ·simp only[bM];omega
 ·exact⟨by decide,by decide⟩
theorem Un(b gb F:Nat)(W:A4)(h1:F<=64)(hW:W.length=F*8)(hu: ∀w,w∈W->Lt w)(a:Int)(a0:0<=a)(a1:a<18446744073709551616)(NR:Bool)(l:Ac)(m1:Pz b gb F∈l)(m2:Ug gb W∈l):Fn prog 305 [pV b,Be a,.bool NR] l λv l'=>v= .tuple #[Zd (GV W a NR).1,iV (GV W a NR).2]/\l'=l:=by
 obtain⟨n,hn,hn6⟩: ∃n:Nat,(N1 W a).1=n/\n<18446744073709551616:=⟨(N1 W a).1.toNat,by have:=xW hu a;omega,by have:=xW hu a;omega⟩
 have hF:nF W=F:=by unfold nF;omega
 unfold GV;rw[hF,hn];refine AN func305 ntmps305 λE=>?_;refine AQ λb6=>?_;refine Bh (AL rfl rfl λl2 hl=>eV b gb F W h1 hW a a0 a1 l2 (hl _ (.tail _ m1)) (hl _ (.tail _ m2))) ?_;rw[hn];by_cases he:(N1 W a).2=0
 case neg=>rw[Ad he];refine Aj ?_;exact qr
 rw[Ab (Gm he)];refine Aj ?_;refine Bh (AL rfl rfl λl2 hl=>Zh n hn6 l2) ?_;obtain⟨x,hx⟩: ∃x,(Kl n).1=x:=⟨_,rfl⟩
 obtain⟨e,he2⟩: ∃e,(Kl n).2=e:=⟨_,rfl⟩
 rw[hx,he2];refine Aj ?_;refine AS e_alloc ?_;rintro _ _ ⟨Gd,_,rfl,rfl⟩;by_cases h0:e=0
 case neg=>rw[Ad h0];refine Aj ?_;exact qr
 rw[Ab (Gm h0)];cases hv:x.vd with
 |false=>rw[Ad rfl];refine Aj ?_;rw[hv];refine Aj ?_;exact qr
 |true=>
 rw[Ab AX];refine Aj ?_;rw[hv];refine Aj ?_;refine IB ?_;by_cases hl:x.lf=NR
 case neg=>
  rw[Ad (.inl hl)];have:(x.lf==NR)=false:=by simpa using hl
  refine BM ?_;rw[this];refine BM ?_;refine Aj ?_;exact qr
 have:(x.lf==NR)=true:=by simpa using hl
 refine BM ?_;rw[this];refine BM ?_;refine pq (λl2 Lf=>RM b gb F l2 (Lf _ (.tail _ (.tail _ m1)))) ?_;by_cases hf:x.fr>=F
 ·rw[Ad (.inr hf)];refine BM ?_;refine Aj ?_;exact qr
 ·rw[Ab (by rintro(h|h)<;>contradiction)];refine BM ?_;refine Aj ?_;exact qr
theorem np(b gb F:Nat)(W:A4)(hF:nF W=F)(root page lv:Int)(l:Ac)(m1:Pz b gb F∈l):Fn prog 337 [pV b,.int .i64 root,.int .i64 page,.int .i64 lv] l λv l'=>v=iV (Uj W root page lv)/\l'=l:=by
 unfold Uj;rw[hF];refine AN func337 ntmps337 λE=>?_;by_cases h1:root<0
 ·rw[Ad (.inl h1)];refine Aj ?_;exact qr
 refine Aj ?_;refine tq (λl2 hl=>RM b gb F l2 (hl _ m1)) ?_;by_cases hb:root>=F\/page<0\/page>=512\/lv<1\/lv>3
 ·rw[Ad (.inr hb)];by_cases h2:root>=F<;>by_cases h3:page<0<;>by_cases h4:page>=512<;>by_cases h5:lv<1<;>by_cases h6:lv>3;all_goals first
   |(exfalso;omega)
   |(refine Aj ?_
     exact qr)
 ·rw[Ab Af];refine Aj ?_;exact qr
theorem nq(b:Nat)(root page:Int)(l:Ac):Fn prog 338 [pV b,.int .i64 root,.int .i64 page] l λv l'=> ∃B3 B4 B5,v= .func (.func 372) #[] #[pV B4,pV B5,pV B3]/\l'=BS B5 page::BS B4 root::XM B3 b::l:=by refine AN func338 ntmps338 λE=>?_;refine AQ λb3=>?_;refine AQ λb4=>?_;refine AQ λb5=>?_;exact Bb .refl ⟨_,_,_,rfl,rfl⟩
abbrev sV(x:Int×Int×Int):Ap:=[iV x.1,.agg (toArray [Be x.2.1,iV x.2.2])]
abbrev Sg(B:Nat)(x:Int×Int):Bd:=(B,.cells (toArray [Be x.1,iV x.2]) 510 (0,0))
theorem Rr(h1:0<=pg)(h2:pg<512)(h3:1<=lv)(h4:lv<=3):0<=r5 pg lv/\r5 pg lv<8:=by
 unfold r5;rw[Ab Af]
 (repeat' split)<;>omega
theorem SJ{lf:Bool}:0<=(GV W a lf).1.fr/\(GV W a lf).1.fr<64:=by
 unfold GV
 (repeat' split)
 all_goals first|exact⟨by decide,by decide⟩|exact sy _
theorem vm{root:Int}(h:¬(GV W (Gr root page 1) false).2=0):Nt W root page=[(1,Gr root page 1,0),(2,0,(GV W (Gr root page 1) false).2)]:=by unfold Nt;rw[Ad h]
theorem vn{root:Int}{x y:UY}(h:GV W (Gr root page 1) false=(x,0))(h2:¬(GV W (Gr x.fr page 2) false).2=0):Nt W root page=[(1,Gr root page 1,0),(2,Gr x.fr page 2,0),(3,0,(GV W (Gr x.fr page 2) false).2)]:=by unfold Nt;rw[h,Ab (by simp),Ad h2]
theorem vu{root:Int}{x y:UY}(h:GV W (Gr root page 1) false=(x,0))(h2:GV W (Gr x.fr page 2) false=(y,0)):Nt W root page=[(1,Gr root page 1,0),(2,Gr x.fr page 2,0),(3,Gr y.fr page 3,0)]:=by unfold Nt;rw[h,Ab (by simp),h2,Ab (by simp)]
theorem iK(B3 B4 B5 b gb F:Nat)(W:A4)(h1:F<=64)(hW:W.length=F*8)(hu: ∀w,w∈W->Lt w)(root page:Int)(r0:0<=root)(r1:root<64)(p0:0<=page)(p1:page<512):
 FC prog 372 [pV B4,pV B5,pV B3] sV (λxs=>xs=Nt W root page) (λpre=>pre<+:Nt W root page)
  (λ_ l=>BS B5 page∈l/\BS B4 root∈l/\XM B3 b∈l/\Pz b gb F∈l/\Ug gb W∈l):=by
 refine⟨λr I Ix G0 Cb hY l G hG h0=>?_⟩;obtain⟨n1,n2,n3,n4,n5⟩:=Cb _ _ G hG h0;have i1:=Rr p0 p1 (lv:=1) Af Af;have i2:=Rr p0 p1 (lv:=2) Af Af;have i3:=Rr p0 p1 (lv:=3) Af Af;refine AN func372 ntmps372 λE=>?_;refine Aj ?_;refine Ie 3 ?_;refine Aj ?_;refine EM ?_;refine AQ λb7=>?_;have kG:[((1:Int),Gr root page 1,(0:Int))]<+:Nt W root page:=by unfold Nt;exact⟨_,rfl⟩
 have hy:=hY [] (1,Gr root page 1,0) l (Sg b7 (Gr root page 1,0)::G) (λc hc=> .tail _ (hG c hc)) h0 kG;refine Bs (Keep.of_perm AI.symm) ?_;refine JB (C5 rfl rfl hy) rfl rfl rfl ?_;rintro v _ ⟨l1,rfl,⟨rfl,hI⟩|⟨rfl,hx⟩⟩
 case' inr=>
  refine Aj ?_;exact Bb (Keep.appL l1 (.drop .refl)) ⟨l1,rfl,.inr ⟨_,kG,hx⟩⟩
 obtain⟨n1,n2,n3,n4,n5⟩:=Cb _ _ (Sg b7 (Gr root page 1,0)::G) (λc hc=> .tail _ (hG c hc)) hI;have q7:Sg b7 (Gr root page 1,0)∈l1++Sg b7 (Gr root page 1,0)::G:=Aa _ (.head _);refine Aj ?_;refine tq (λl2 hl=>Un b gb F W h1 hW hu (Gr root page 1) (by unfold Gr;omega) (by unfold Gr;omega) false l2 (hl _ n4) (hl _ n5)) ?_;have xr:=SJ (W:=W) (a:=Gr root page 1) (lf:=false);obtain⟨x,hx⟩: ∃x,(GV W (Gr root page 1) false).1=x:=⟨_,rfl⟩
 obtain⟨e,he⟩: ∃e,(GV W (Gr root page 1) false).2=e:=⟨_,rfl⟩
 rw[hx] at xr;rw[hx,he];refine AQ λb8=>?_;by_cases e0:e=0
 case neg=>
  have hs:=vm (W:=W) (root:=root) (page:=page) (by rw[he];exact e0);rw[he] at hs;have Q0:[(1,Gr root page 1,0),(2,0,e)]<+:Nt W root page:=by rw[hs];exact⟨[],rfl⟩
  have S8:=hY [(1,Gr root page 1,0)] (2,0,e) l1 ((b8,Obj.cells (toArray (Ui x)) 389 (0,0))::Sg b7 (Gr root page 1,0)::G) (λc hc=> .tail _ (.tail _ (hG c hc))) hI Q0;refine Aj ?_;refine Bs (Keep.of_perm AI.symm) ?_;refine JB (C5 rfl rfl S8) rfl rfl rfl ?_;rintro v _ ⟨l2,rfl,⟨rfl,N6⟩|⟨rfl,XL⟩⟩
  ·refine Aj ?_;exact Bb (Keep.appL l2 (.drop (.drop .refl))) ⟨l2,rfl,.inl ⟨_,hs.symm,N6⟩⟩
  ·refine Aj ?_;exact Bb (Keep.appL l2 (.drop (.drop .refl))) ⟨l2,rfl,.inr ⟨_,Q0,XL⟩⟩
 have h1e:GV W (Gr root page 1) false=(x,0):=G3 hx (he.trans e0);subst e0;have g8:(b8,Obj.cells (toArray (Ui x)) 389 (0,0))∈(b8,Obj.cells (toArray (Ui x)) 389 (0,0))::(l1++Sg b7 (Gr root page 1,0)::G):= .head _;refine Aj ?_;refine E9 ?_;refine Aj ?_;rw[show(1:Int)+1=2 from rfl];refine EM ?_;refine AQ λb9=>?_;have Q0:[(1,Gr root page 1,0),(2,Gr x.fr page 2,0)]<+:Nt W root page:=by unfold Nt;rw[h1e,Ab (by simp)];exact⟨_,rfl⟩
 obtain⟨T,hT⟩: ∃T,T=(b8,Obj.cells (toArray (Ui x)) 389 (0,0))::Sg b7 (Gr root page 1,0)::G:=⟨_,rfl⟩
 have hTG: ∀c,c∈G->c∈T:=λc hc=>by rw[hT];exact .tail _ (.tail _ hc)
 have S8:=hY [(1,Gr root page 1,0)] (2,Gr x.fr page 2,0) l1 (Sg b9 (Gr x.fr page 2,0)::T) (λc hc=> .tail _ (hTG c (hG c hc))) hI Q0;refine Bs (l':=l1++Sg b9 (Gr x.fr page 2,0)::T) (by rw[hT];exact Keep.in_mid [_,_] l1 _) ?_;refine JB (C5 rfl rfl S8) rfl rfl rfl ?_;rintro v _ ⟨l2,rfl,⟨rfl,N6⟩|⟨rfl,XL⟩⟩
 case' inr=>
  refine Aj ?_;exact Bb (Keep.appL l2 (by rw[hT];exact .drop (.drop (.drop .refl)))) ⟨l2,rfl,.inr ⟨_,Q0,XL⟩⟩
 obtain⟨n1,n2,n3,n4,n5⟩:=Cb _ _ (Sg b9 (Gr x.fr page 2,0)::T) (λc hc=> .tail _ (hTG c (hG c hc))) N6;have q9:Sg b9 (Gr x.fr page 2,0)∈l2++Sg b9 (Gr x.fr page 2,0)::T:=Aa _ (.head _);refine Aj ?_;refine tq (λl3 hl=>Un b gb F W h1 hW hu (Gr x.fr page 2) (by unfold Gr;omega) (by unfold Gr;omega) false l3 (hl _ n4) (hl _ n5)) ?_;have yr:=SJ (W:=W) (a:=Gr x.fr page 2) (lf:=false);obtain⟨y,hy⟩: ∃y,(GV W (Gr x.fr page 2) false).1=y:=⟨_,rfl⟩
 obtain⟨e,he⟩: ∃e,(GV W (Gr x.fr page 2) false).2=e:=⟨_,rfl⟩
 rw[hy] at yr;rw[hy,he];refine AQ λGd=>?_;by_cases e0:e=0
 case neg=>
  have hs:=vn (y:=y) h1e (by rw[he];exact e0);rw[he] at hs;have XY:[(1,Gr root page 1,0),(2,Gr x.fr page 2,0),(3,0,e)]<+:Nt W root page:=by rw[hs];exact⟨[],rfl⟩
  have hy3:=hY [(1,Gr root page 1,0),(2,Gr x.fr page 2,0)] (3,0,e) l2 ((Gd,Obj.cells (toArray (Ui y)) 389 (0,0))::Sg b9 (Gr x.fr page 2,0)::T) (λc hc=> .tail _ (.tail _ (hTG c (hG c hc)))) N6 XY;refine Aj ?_;refine Bs (Keep.of_perm AI.symm) ?_;refine JB (C5 rfl rfl hy3) rfl rfl rfl ?_;rintro v _ ⟨l3,rfl,⟨rfl,ak⟩|⟨rfl,hx3⟩⟩
  ·refine Aj ?_;exact Bb (Keep.appL l3 (by rw[hT];exact .drop (.drop (.drop (.drop .refl))))) ⟨l3,rfl,.inl ⟨_,hs.symm,ak⟩⟩
  ·refine Aj ?_;exact Bb (Keep.appL l3 (by rw[hT];exact .drop (.drop (.drop (.drop .refl))))) ⟨l3,rfl,.inr ⟨_,XY,hx3⟩⟩
 have h2e:GV W (Gr x.fr page 2) false=(y,0):=G3 hy (he.trans e0);subst e0;have hs:=vu h1e h2e;refine Aj ?_;refine E9 ?_;refine Aj ?_;rw[show(2:Int)+1=3 from rfl];refine EM ?_;refine AQ λM4=>?_;have XY:[(1,Gr root page 1,0),(2,Gr x.fr page 2,0),(3,Gr y.fr page 3,0)]<+:Nt W root page:=by rw[hs];exact⟨[],rfl⟩
 have hy3:=hY [(1,Gr root page 1,0),(2,Gr x.fr page 2,0)] (3,Gr y.fr page 3,0) l2 (Sg M4 (Gr y.fr page 3,0)::(Gd,Obj.cells (toArray (Ui y)) 389 (0,0))::Sg b9 (Gr x.fr page 2,0)::T) (λc hc=> .tail _ (.tail _ (.tail _ (hTG c (hG c hc))))) N6 XY;refine Bs (l':=l2++Sg M4 (Gr y.fr page 3,0)::(Gd,Obj.cells (toArray (Ui y)) 389 (0,0))::Sg b9 (Gr x.fr page 2,0)::T) (Keep.in_mid [_,_] l2 _) ?_;refine JB (C5 rfl rfl hy3) rfl rfl rfl ?_;have hK: ∀l3,Keep (l3++Sg M4 (Gr y.fr page 3,0)::(Gd,Obj.cells (toArray (Ui y)) 389 (0,0))::Sg b9 (Gr x.fr page 2,0)::T) (l3++G):=λl3=>Keep.appL l3 (by rw[hT];exact .drop (.drop (.drop (.drop (.drop .refl)))));rintro v _ ⟨l3,rfl,⟨rfl,ak⟩|⟨rfl,hx3⟩⟩
 ·refine Aj ?_;exact Bb (hK l3) ⟨l3,rfl,.inl ⟨_,hs.symm,ak⟩⟩
 ·refine Aj ?_;exact Bb (hK l3) ⟨l3,rfl,.inr ⟨_,XY,hx3⟩⟩
theorem xX{root:Int}(h:¬Uj W root page lv=0):Uj W root page lv=3:=by
 unfold Uj at h⊢
 split
 ·rfl
 ·rename_i hc;rw[Ab hc] at h;exact absurd rfl h
abbrev Xj(lv:Int)(x:Int×Int×Int):Bool:=decide (x.1=lv)||!decide (x.2.2=0)
theorem sA(W:A4)(root page lv:Int)(h1:1<=lv)(h3:lv<=3): ∃x,x∈Nt W root page/\Xj lv x=true:=by
 by_cases e1:(GV W (Gr root page 1) false).2=0
 case neg=>rw[vm e1];exact⟨_,.tail _ (.head _),by simp[Xj,e1]⟩
 have p1:GV W (Gr root page 1) false=((GV W (Gr root page 1) false).1,0):=G3 rfl e1;by_cases e2:(GV W (Gr (GV W (Gr root page 1) false).1.fr page 2) false).2=0
 case neg=>rw[vn (y:=bL) p1 e2];exact⟨_,.tail _ (.tail _ (.head _)),by simp[Xj,e2]⟩
 rw[vu p1 (G3 rfl e2)];obtain rfl|rfl|rfl:lv=1\/lv=2\/lv=3:=by omega
 ·exact⟨_,.head _,rfl⟩
 ·exact⟨_,.tail _ (.head _),rfl⟩
 ·exact⟨_,.tail _ (.tail _ (.head _)),rfl⟩
theorem Zi{q:α->Bool}{xs pre:List α}{x:α}(hp:pre++[x]<+:xs)(hn: ∀y,y∈pre->q y=false)(hx:q x=true):xs.find? q=some x:=by obtain⟨r,rfl⟩:=hp;rw[Am,Eg,Bq.2 (λy hy=>by rw[hn y hy];decide)];simp[hx]
theorem Xk(b gb F:Nat)(W:A4)(h1:F<=64)(hW:W.length=F*8)(hu: ∀w,w∈W->Lt w)(root page lv:Int)(l:Ac)(m1:Pz b gb F∈l)(m2:Ug gb W∈l):Fn prog 298 [pV b,.int .i64 root,.int .i64 page,.int .i64 lv] l λv l'=>v= .tuple #[Be (Q4 W root page lv).1,iV (Q4 W root page lv).2]/\l'=l:=by
 have hF:nF W=F:=by unfold nF;omega
 unfold Q4;refine AN func298 ntmps298 λE=>?_;refine AQ λb7=>?_;refine tq (λl2 hl=>np b gb F W hF root page lv l2 (hl _ (.tail _ m1))) ?_;by_cases hb:Uj W root page lv=0
 case neg=>have h3:Uj W root page lv=3:=xX hb;rw[Ad hb,h3];refine Aj ?_;exact qr
 rw[Ab (Gm hb),hb];obtain⟨r0,r1,p0,p1,v1,v3⟩:0<=root/\root<F/\0<=page/\page<512/\1<=lv/\lv<=3:=by
  unfold Uj at hb;rw[hF] at hb
  split at hb<;>omega
 obtain⟨z,hz,uE⟩:=sA W root page lv v1 v3;refine AQ λM4=>?_;refine AS (Az rfl rfl (nq b root page _)) ?_;rintro _ _ ⟨B3,B4,B5,rfl,rfl⟩;refine Aj ?_;refine Dg (α:=Int×Int×Int) (ps:=[26,27]) (lb:=[pV B4,pV B5,pV B3]) rfl (iK B3 B4 B5 b gb F W h1 hW hu root page r0 Af p0 p1) (λ_=>rfl) rfl
  (λpre l=>(∀x,x∈pre->Xj lv x=false)/\ ∃y,l=[BS B5 page,BS B4 root,XM B3 b,Sg M4 y,BS b7 lv])
  (λc pre l=>c= .exit 0/\ ∃G8 x,pre=G8++[x]/\(∀x,x∈G8->Xj lv x=false)/\Xj lv x=true/\l=[BS B5 page,BS B4 root,XM B3 b,Sg M4 x.2,BS b7 lv])
  [BS B5 page,BS B4 root,XM B3 b,Sg M4 (0,0),BS b7 lv] l (λpre l2 X2 hX h=>by obtain⟨y,rfl⟩:=h.2;exact⟨Ai _ (by exact BW),Ai _ (by exact BW),Ai _ (by exact BW),Aa _ (hX _ m1),Aa _ (hX _ m2)⟩) (by exact AW) ⟨λ_ h=>(nomatch h),(0,0),rfl⟩ ?_ ?_ ?_
 ·rintro E r0 FU pre ⟨x1,x2,x3⟩ l' T ⟨fn,tmps,D,rfl⟩ hT ⟨hn,⟨y1,y2⟩,rfl⟩ Dw;simp only[DX,Ae,Ag];refine AQ λWA=>?_;refine CK (by exact DY) ?_;refine Aj ?_;by_cases h1:x1=lv
  ·refine Aj ?_;exact E5 [BS B5 page,BS B4 root,XM B3 b,Sg M4 (x2,x3),BS b7 lv] (by exact AW) ⟨rfl,_,_,rfl,hn,by simp[Xj,h1],rfl⟩
  by_cases h2:x3=0
  ·refine Aj ?_;exact Ci [BS B5 page,BS B4 root,XM B3 b,Sg M4 (x2,x3),BS b7 lv] (by exact AW) ⟨λz hz=>by
    rcases AF.1 hz with hz|hz
    ·exact hn z hz
    ·rw[AC.1 hz];simp[Xj,h1,h2],_,rfl⟩
  ·refine Aj ?_;exact E5 [BS B5 page,BS B4 root,XM B3 b,Sg M4 (x2,x3),BS b7 lv] (by exact AW) ⟨rfl,_,_,rfl,hn,by simp[Xj,h2],rfl⟩
 ·rintro D xs l' rfl ⟨hn,_⟩;rw[hn z hz] at uE;cases uE
 ·rintro D c pre l' Dw ⟨rfl,G8,⟨x1,x2,x3⟩,rfl,hn,hx,rfl⟩;simp only[Ae,Ag];rw[Zi Dw hn hx];refine Aj ?_;refine IB ?_;refine BM ?_;refine Aj ?_;exact AU [D] _ rfl (l':=l) (by exact AW) (by exact Ba) (by exact AW) ⟨rfl,rfl⟩
theorem adU{f:Int}(h0:0<=f)(h1:f<64)(h2:0<=r5 pg lv/\r5 pg lv<8):Lt (Gr f pg lv):=⟨by unfold Gr;omega,by unfold Gr;omega⟩
theorem AbZ{root:Int}(r0:0<=root)(r1:root<64)(p0:0<=page)(p1:page<512): ∀x,x∈Nt W root page->Lt x.2.1:=by
 have i1:=Rr p0 p1 (lv:=1) Af Af;have i2:=Rr p0 p1 (lv:=2) Af Af;have i3:=Rr p0 p1 (lv:=3) Af Af;intro x hx;have e1:=SJ (W:=W) (a:=Gr root page 1) (lf:=false);have e2:=SJ (W:=W) (a:=Gr (GV W (Gr root page 1) false).1.fr page 2) (lf:=false);unfold Nt at hx;have z:Lt 0:=⟨by decide,by decide⟩
 rcases At.1 hx with rfl|hx
 ·exact adU r0 r1 i1
 split at hx
 ·rw[AC.1 hx];exact z
 rcases At.1 hx with rfl|hx
 ·exact adU e1.1 e1.2 i2
 split at hx
 ·rw[AC.1 hx];exact z
 ·rw[AC.1 hx];exact adU e2.1 e2.2 i3
theorem nr(hW:W.length<=512){root:Int}:Lt (Q4 W root page lv).1:=by
 have z:Lt 0:=⟨by decide,by decide⟩
 unfold Q4
 split
 ·exact z
 ·rename_i hb;have hb:Uj W root page lv=0:=by simpa using hb
  unfold Uj at hb
  split at hb
  ·cases hb
  rename_i hc;have:nF W<=64:=by unfold nF;omega
  split
  ·rename_i x hx;exact AbZ Af Af Af Af x (Bt hx)
  ·exact z
theorem iL(b gb F:Nat)(W:A4)(h1:F<=64)(hW:W.length=F*8)(hu: ∀w,w∈W->Lt w)(root page:Int)(l:Ac)(m1:Pz b gb F∈l)(m2:Ug gb W∈l):Fn prog 227 [pV b,.int .i64 root,.int .i64 page] l λv l'=>v= .tuple #[Zd (KH W root page).1,iV (KH W root page).2]/\l'=l:=by
 unfold KH;refine AN func227 ntmps227 λE=>?_;refine AQ λb6=>?_;refine tq (λl2 hl=>Xk b gb F W h1 hW hu root page 3 l2 (hl _ (.tail _ m1)) (hl _ (.tail _ m2))) ?_;by_cases h0:(Q4 W root page 3).2=0
 case neg=>rw[Ad h0];refine Aj ?_;exact qr
 rw[Ab (Gm h0)];refine Aj ?_;have ar:=nr (W:=W) Af (root:=root) (page:=page) (lv:=3);refine tq (λl2 hl=>Un b gb F W h1 hW hu (Q4 W root page 3).1 ar.1 ar.2 true l2 (hl _ (.tail _ m1)) (hl _ (.tail _ m2))) ?_;refine Aj ?_;exact qr
end Go.Proofs.YtlifcingifodfaaGreat
