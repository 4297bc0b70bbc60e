/- Laws that the statement's proof leans on (joined out of several texts). -/
import Derived.Test.YtlkgekpmileobaaGreatGd8
import Derived.Laws.Externs
set_option maxHeartbeats 4000000
set_option linter.unusedVariables false
set_option linter.unusedSimpArgs false
namespace Go.Proofs.YtlkgekpmileobaaGreat
open Tryz
open List(toArray replicate)
open Go.RowKit
set_option maxRecDepth 20000
variable{k i b f s j F C e n N k' gb cap m:Nat}{W:List Int}{ks:List (Ic×Nat)}{page lv t a pg:Int}{S:KT}{p:RP}{sp vs cs B:List Value}{G R:List Ab}{P:Program}{ro:Option Nat}{v:Value}{T:KA}{os:Ar.OL}{E:World}{ops:Array Oper}{Q:Exit->Act->World->Prop}{tbl:List (List Nat)}{ds:List Deferred}{rest pl:List BF}{ty:TypeId}{pos:String}{x:Operand}{c c':Ic×Nat}{A:Ar.ArT}{o:Ar.ObT}{D:En.DE}{fr' fr0:Fr}{K:Value->List Ab->Prop}{g:Option (Nat×Bool)}{α:Type}{ki:IntKind}{q:Nat->Bool}
section
theorem Va{A':Ar.ArT}(h:mO A)(hs: ∀o,o∈A'.os-> ∃o',o'∈A.os/\o'.kd=o.kd/\o'.sz=o.sz):mO A':=λo ho hk=>by obtain⟨q,h1,h2,h3⟩:=hs o ho;rw[<-h3];exact h q h1 (by rw[h2];exact hk)
theorem QL{x:Ar.ObT}(h:x∈Ar.insD os o):x=o\/x∈os:=by
 unfold Ar.insD at h;rcases AE.1 h with h|h
 ·exact .inr (List.takeWhile_subset _ h)
 ·rcases Ap.1 h with h|h
  ·exact .inl h
  ·exact .inr (List.dropWhile_subset _ h)
theorem ad{x:Ar.ObT}(h:x∈os.set j o):x=o\/x∈os:=by
 rcases CC h with h|h
 ·exact .inr h
 ·exact .inl h
theorem ng(h:mO A)(kd sz fi:Int):mO (Ar.addD A kd sz fi).2:=by
 unfold Ar.addD
 split
 ·rename_i he;intro o ho hk;rcases QL ho with rfl|ho
  ·simp only[Ar.newO] at hk⊢;subst hk;unfold Ar.addE at he
   split at he
   ·omega
   rename_i hf;unfold Ar.framesD at hf;simp only[Ac (by decide:¬((2:Int)=1)),CT] at hf
   split at hf<;>first|omega|skip
   all_goals omega
  ·exact h o ho hk
 ·exact h
instance{kd sz fi:Int}:EK prog F C b p 138 [pV p.a,.int .i64 kd,.int .i64 sz,.int .i64 fi] k S k (.tuple #[iV (Ar.addD S.A kd sz fi).1.1,iV (Ar.addD S.A kd sz fi).1.2]) {S with A:=(Ar.addD S.A kd sz fi).2}:=⟨λs G h=>vU h (A7 _) (by unfold Ar.addD;split<;>rfl) (ng h.rad kd sz fi) λG=>Ar.add_any p.a S.A s.A h.ar kd sz fi G⟩
instance{id:Int}:EK prog F C b p 367 [pV p.a,.int .i64 id] k S k (iV (Ar.dropD S.A id).1) {S with A:=(Ar.dropD S.A id).2}:=⟨λs G h=>vU h (A7 _) (by unfold Ar.dropD;split<;>rfl) (Va h.rad λo ho=>by
 unfold Ar.dropD at ho;split at ho
 ·exact⟨o,FK ho,rfl,rfl⟩
 ·exact⟨o,ho,rfl,rfl⟩) λG=>Ar.drop_any p.a S.A s.A h.ar id G⟩
theorem Vb{id:Int}(h:Ar.atO os id=some j):os.getD j Ar.obO∈os:=A6 (Ar.atO_get h).1
instance{id m:Int}:EK prog F C b p 286 [pV p.a,.int .i64 id,.int .i64 m] k S k (iV (Ar.markD' S.A id m).1) {S with A:=(Ar.markD' S.A id m).2}:=⟨λs G h=>vU h (A7 _) (by unfold Ar.markD';(repeat' split)<;>rfl) (Va h.rad λo ho=>by
 unfold Ar.markD' at ho
 split at ho
 case h_2=>exact⟨o,ho,rfl,rfl⟩
 rename_i hj
 split at ho
 ·exact⟨o,ho,rfl,rfl⟩
 split at ho
 ·exact⟨o,ho,rfl,rfl⟩
 rcases ad ho with rfl|ho
 ·exact⟨_,Vb hj,rfl,rfl⟩
 ·exact⟨o,ho,rfl,rfl⟩) λG=>Ar.mark_any p.a S.A s.A h.ar id m G⟩
instance{id se pg lv:Int}:EK prog F C b p 296 [pV p.a,.int .i64 id,.int .i64 se,.int .i64 pg,.int .i64 lv] k S k (iV (Ar.placeD S.A id se pg lv).1) {S with A:=(Ar.placeD S.A id se pg lv).2}:=⟨λs G h=>vU h (A7 _) (by unfold Ar.placeD;(repeat' split)<;>rfl) (Va h.rad λo ho=>by
 unfold Ar.placeD at ho
 split at ho
 case h_2=>exact⟨o,ho,rfl,rfl⟩
 rename_i hj
 split at ho
 ·exact⟨o,ho,rfl,rfl⟩
 split at ho
 ·exact⟨o,ho,rfl,rfl⟩
 rcases ad ho with rfl|ho
 ·exact⟨_,Vb hj,rfl,rfl⟩
 ·exact⟨o,ho,rfl,rfl⟩) λG=>Ar.place_any p.a S.A s.A h.ar id se pg lv G⟩
instance{id n:Int}:EK prog F C b p 140 [pV p.h,.int .i64 id,.int .i64 n] (k+1) S k (iV (GI S.H.1 id n).1) {S with H:=((GI S.H.1 id n).2,S.H.2)}:=⟨λs G h=>mZ h Af (λm hm=>(hm.add id n).mono Af) λm G hm _=>NV p.h S.H s.H h.ho id n G⟩
instance{id:Int}:EK prog F C b p 366 [pV p.h,.int .i64 id] k S k (iV (G4 S.H.1 id).1) {S with H:=((G4 S.H.1 id).2,S.H.2)}:=⟨λs G h=>mZ h Af (λm hm=>(hm.drop id).mono Af) λm G hm _=>Yr p.h S.H s.H h.ho id G⟩
instance{x y:Ce}{m:Int}:EK prog F C b p 146 [pV p.h,Fz x,Fz y,.int .i64 m] (k+1) S k (iV (Fs S.H x y (D4 (DJ S.H.1 x) m)).1) {S with H:=(Fs S.H x y (D4 (DJ S.H.1 x) m)).2}:=⟨λs G h=>mZ h Af (λn hn=>(hn.der x y _ (Ni (hn.at x).2 m)).mono Af) λn G hn h9=>LF p.h S.H n hn h9 s.H h.ho x y m G⟩
instance{x y:Ce}:EK prog F C b p 211 [pV p.h,Fz x,Fz y] k S k (iV (HN S.H x y).1) {S with H:=(HN S.H x y).2}:=⟨λs G h=>mZ h Af (λn hn=>(hn.move x y).mono Af) λn G hn _=>cO p.h S.H n hn s.H h.ho x y G⟩
instance{x y:Ce}:EK prog F C b p 212 [pV p.h,Fz x,Fz y] k S k (iV (Jy S.H x y).1) {S with H:=(Jy S.H x y).2}:=⟨λs G h=>mZ h Af (λn hn=>(hn.swap x y).mono Af) λn G hn _=>cP p.h S.H n hn s.H h.ho x y G⟩
instance{x:Ce}:EK prog F C b p 328 [pV p.h,Fz x] k S k (.tuple #[U8 (DS S.H x).1.1,iV (DS S.H x).1.2]) {S with H:=(DS S.H x).2}:=⟨λs G h=>mZ h Af (λn hn=>(hn.clear x).mono Af) λn G hn h9=>Ys p.h S.H n hn h9 s.H h.ho x G⟩
instance{id:Int}:EK prog F C b p 148 [pV p.n,.int .i64 id] k S k (.tuple #[iV (As.addP S.N id).1,iV (As.addP S.N id).2.1]) {S with N:=(As.addP S.N id).2.2}:=⟨λs G h=>wN h Af (λn hn=>by unfold As.addP;(repeat' split)<;>exact h.giv n hn) λG=>As.addPool_any p.n S.N id G⟩
instance{o r:Int}:EK prog F C b p 149 [pV p.n,.int .i64 o,.int .i64 r] (k+1) S k (.tuple #[iV (As.assignP S.N o r).1,iV (As.assignP S.N o r).2.1,iV (As.assignP S.N o r).2.2.1]) {S with N:=(As.assignP S.N o r).2.2.2}:=⟨λs G h=>wN h Af (λn hn=>by
 have:=h.giv n hn;unfold As.assignP
 (repeat' split)<;>(try simp only[As.ASt.give,Qu.upd,As.upd])<;>(repeat' split)<;>(try subst_vars)<;>(try omega)) λG=>As.assign_any p.n S.N o r G λn hn=>by have:=h.giv n hn;omega⟩
instance{r:Int}:EK prog F C b p 386 [pV p.n,.int .i64 r] k S k (.tuple #[iV (As.unP S.N r).1,iV (As.unP S.N r).2.1]) {S with N:=(As.unP S.N r).2.2}:=⟨λs G h=>wN h Af (λn hn=>by unfold As.unP;(repeat' split)<;>exact h.giv n hn) λG=>As.unassign_any p.n S.N r G⟩
theorem nh{u:Int}(h:En.OneAt D u):En.OneAt (En.removeD D t).2 u:=by
 unfold En.removeD
 split
 ·exact h
 ·rename_i x hx;refine aa h λhu y hy hy2=>?_;exact h y x hy (Bz hx) hy2 (FK hu)
theorem ni(h: ∀x,x∈D->x.2.1.length<=m): ∀x,x∈(En.removeD D t).2->x.2.1.length<=m:=by
 unfold En.removeD
 split
 ·exact h
 ·rename_i x hx;refine ac h ?_;have:=h x (Bz hx);simp only[FC];split<;>omega
instance{t:Int}:EK prog F C b p 260 [pV p.e,.int .i64 t] k S k (.bool (En.removeD S.E t).1) {S with E:=(En.removeD S.E t).2}:=⟨λs G h=>wM h Af (λy hy=>by have:=ni (m:=900-k) (λx hx=>by have:=h.el x hx;omega) y hy;have:=h.tl;omega) (λu=>nh (h.eo u)) λG=>En.remove_any p.e S.E s.E t h.en h.el9 (h.eo t) G⟩
instance{id:Int}:EK prog F C b p 264 [pV p.e,.int .i64 id] k S k (.tuple #[iV (En.firstD S.E id).1,.bool (En.firstD S.E id).2.1,.bool (En.firstD S.E id).2.2]) S:=⟨λs G h=>
 (En.first_any p.e S.E s.E id h.en h.el9 (Aw b p s S G) (mE λ_ h=>h)).re .refl λv l' ⟨h1,cs,h2⟩=>⟨Aw b p s S (cs++G),by rw[h2];exact .of_perm (ET ..),h1,s,_,h,⟨cs,rfl⟩,rfl⟩⟩
end
section
variable{s:RL}
instance:QF prog 137 [pV b] (Aw b p s S G) (pV p.a):=⟨λl hl=>Sj b p l (mR hl)⟩
instance:QF prog 144 [pV b] (Aw b p s S G) (pV p.h):=⟨λl hl=>DK b p l (mR hl)⟩
instance:QF prog 147 [pV b] (Aw b p s S G) (pV p.n):=⟨λl hl=>Kt b p l (mR hl)⟩
instance:QF prog 95 [pV b] (Aw b p s S G) (pV p.t):=⟨λl hl=>Ml b p l (mR hl)⟩
instance:QF prog 87 [pV b] (Aw b p s S G) (pV p.m):=⟨λl hl=>Sk b p l (mR hl)⟩
instance:QF prog 100 [pV b] (Aw b p s S G) (pV p.c):=⟨λl hl=>YE b p l (mR hl)⟩
instance:QF prog 102 [pV b] (Aw b p s S G) (pV p.q):=⟨λl hl=>YF b p l (mR hl)⟩
instance:QF prog 263 [pV b] (Aw b p s S G) (pV p.e):=⟨λl hl=>Ue b p l (mR hl)⟩
instance{kd sz:Int}{l:List Ab}:QF prog 51 [.int .i64 kd,.int .i64 sz] l (iV (Ar.framesD kd sz)):=⟨λl _=>Ar.frames_any kd sz l⟩
instance{kd sz:Int}{l:List Ab}:QF prog 69 [.int .i64 kd,.int .i64 sz] l (iV (Ar.slotsD kd sz)):=⟨λl _=>Ar.slots_any kd sz l⟩
instance{c:CapT}{l:List Ab}:QF prog 186 [U8 c] l (.bool (Fd c)):=⟨λl _=>HL c l⟩
end
section
theorem ae{sw:Sw}{sp:Fj}{fr:Fr}{l l':List Ab}(p:l.Perm l')(h:PlanS P ro N E ops Q R tbl sw sp pl fr ds l):PlanS P ro N E ops Q R tbl sw sp pl fr ds l':=by
 induction h generalizing l' with
 |nil h=>exact .nil (JF (.of_perm p.symm) h)
 |q h1 h2 h3 _ ih=>exact .q h1 h2 h3 (ih p)
 |gq h1 h2 h3 h4 h5 h6 _ ih=>exact .gq h1 h2 h3 h4 h5 h6 (ih p)
 |gs h1 h2 h3 h4 h5 h6 h7 h8 h9 _ ih=>exact .gs h1 h2 h3 h4 h5 h6 (λc hc=>p.mem_iff.1 (h7 c hc)) h8 (λhk x hx ha c hc=>p.mem_iff.1 (h9 hk x hx ha c hc)) (ih p)
 |gu h1 h2 h3 h4 h5 h7 h8 h9 _ ih=>exact .gu h1 h2 h3 h4 h5 (λc hc=>p.mem_iff.1 (h7 c hc)) h8 (λhk x hx ha c hc=>p.mem_iff.1 (h9 hk x hx ha c hc)) (ih p)
 |e h1 h2 h3 h4 h5 h6 ih=>exact .e (OpE.re (.of_perm p.symm) h1 λv l2 hk=>⟨l2,.refl,hk⟩) h2 h3 h4 h5 h6
 |ge h1 h2 h3 h4 h5 h6 h7 h8 h9 ih=>exact .ge (OpE.re (.of_perm p.symm) h1 λv l2 hk=>⟨l2,.refl,hk⟩) h2 h3 h4 h5 h6 h7 h8 h9
 |weak h1 _ ih=>exact .weak h1 (ih p)
 |sq h1 h2 h3 h4 _ ih=>exact .sq h1 (λc hc=>p.mem_iff.1 (h2 c hc)) h3 h4 (ih p)
 |alt oo K rf sf h1 h2 h3 h4 ih=>exact .alt oo K rf sf h1 (λj hj=>⟨OpE.re (.of_perm p.symm) (h2 j hj).1 λv l2 hk=>⟨l2,.refl,hk⟩,(h2 j hj).2⟩) h3 h4
 |alt2 h1 h2 h3 h4 _ _ ih1 ih2=>exact .alt2 h1 h2 h3 h4 (ih1 p) (ih2 p)
abbrev Uf:=Nat×Oper×(Value->List Ab->Prop)
abbrev Tl(x:Uf):BF:=(x.1,false,x.2.1)
def FLe(fr fr':Fr):Prop:= ∀d v,BU fr d=some v->BU fr' d=some v
structure IsAd(P:Program)(ro:Option Nat)(N:Nat)(fr:Fr)(l:List Ab)(x:Uf):Prop where
 law': ∀l',(∀c,c∈l->c∈l')->OpE P ro N fr l' x.2.1 λv l2=> ∃cs,x.2.2 v cs/\l2=cs++l'
 guard:x.2.1.guard=none
 dst: ∃d,x.2.1.dst=some d/\Nat.blt d N=true/\BU fr d=none
theorem OpE.le{fr:Fr}{l:List Ab}{o:Oper}(h:FLe fr fr')(ho:OpE P ro N fr l o K):OpE P ro N fr' l o K:=⟨ho.nodef,λE a W hf hs=>ho.val E a W (hf.sub h) hs⟩
theorem OpQ.le{fr fr':Fr}{l:List Ab}{o:Oper}{v:Value}(h:FLe fr fr')(ho:OpQ P ro N fr l o v):OpQ P ro N fr' l o v:=⟨λl' hl=>(ho.run l' hl).le h⟩
theorem IsAd.law{fr:Fr}{l:List Ab}{x:Uf}(h:IsAd P ro N fr l x)(fr':Fr)(l':List Ab)(h1:FLe fr fr')(h2: ∀c,c∈l->c∈l'):OpE P ro N fr' l' x.2.1 λv l2=> ∃cs,x.2.2 v cs/\l2=cs++l':=(h.law' l' h2).le h1
def AddK:List Uf->Fr->List Ab->(Fr->List Ab->Prop)->Prop
 |[],fr,l,k=>k fr l
 |x::xs,fr,l,k=> ∀v cs,x.2.2 v cs->AddK xs (HI x.2.1.dst v fr) (cs++l) k
theorem AddK.mono{k k':Fr->List Ab->Prop}(h: ∀fr l,k fr l->k' fr l): ∀{xs:List Uf} {fr:Fr} {l:List Ab},AddK xs fr l k->AddK xs fr l k'
 |[],_,_,hk=>h _ _ hk
 |x::xs,_,_,hk=>λv cs hx=>AddK.mono h (hk v cs hx)
def uk(k:Fr->List Ab->Prop):Prop:= ∀fr fr' l l',FLe fr fr'->l.Perm l'->k fr l->k fr' l'
theorem G9{d:Nat}{fr:Fr}:BU (HI (some d) v fr) e=if d=e then some v else BU fr e:=by
 show(bif Nat.beq d e then some v else BU fr e)=_;by_cases h:d=e
 ·subst h;simp
 ·rw[Ac h];have:Nat.beq d e=false:=by cases hb:Nat.beq d e;rfl;exact absurd (Fe hb) h
  rw[this];rfl
theorem FLe.put{fr:Fr}(h:FLe fr fr')(d:Option Nat)(v:Value):FLe (HI d v fr) (HI d v fr'):=by
 cases d with
 |none=>exact h
 |some d=>intro e u hu;rw[G9] at hu⊢;split at hu<;>simp_all [FLe]
theorem AddK.inv{k:Fr->List Ab->Prop}(hk:uk k): ∀{xs:List Uf} {fr fr':Fr} {l l':List Ab},FLe fr fr'->l.Perm l'->AddK xs fr l k->AddK xs fr' l' k
 |[],_,_,_,_,h1,h2,h=>hk _ _ _ _ h1 h2 h
 |x::xs,_,_,_,_,h1,h2,h=>λv cs hx=>AddK.inv hk (h1.put _ _) (h2.append_left cs) (h v cs hx)
theorem WL{d:Nat}(h:d≠e)(u v:Value)(fr:Fr):FLe (HI (some d) u (HI (some e) v fr)) (HI (some e) v (HI (some d) u fr)):=by
 intro k w hw;simp only[G9] at hw⊢;by_cases h1:d=k
 ·subst h1;rw[Ad rfl] at hw;rw[Ac (Ff h),Ad rfl];exact hw
 ·rw[Ac h1] at hw;rw[Ac h1];exact hw
theorem AddK.first{k:Fr->List Ab->Prop}(hk:uk k){a:Uf}{da:Nat}(ha:a.2.1.dst=some da): ∀{xs:List Uf} {fr:Fr} {l:List Ab},(∀x,x∈xs-> ∃d,x.2.1.dst=some d/\d≠da)->AddK (xs++[a]) fr l k->AddK (a::xs) fr l k
 |[],_,_,_,h=>h
 |x::xs,fr,l,hx,h=>λv cs hv u us hu=>by
  have h1:=AddK.first hk ha (λy hy=>hx y (An _ hy)) (h u us hu) v cs hv;obtain⟨d,hd,hne⟩:=hx x Ak;refine AddK.inv hk ?_ ?_ h1
  ·rw[hd,ha];exact WL (Ff hne) _ _ _
  ·exact AA cs us l
theorem af{sp:Fj}{ds:List Deferred}{rest:List BF}: ∀(xs:List Uf) {fr0 fr:Fr} {l0 l:List Ab},FLe fr0 fr->(∀c,c∈l0->c∈l)->(∀x,x∈xs->IsAd P ro N fr0 l0 x)->(xs.map λx=>x.2.1.dst).Nodup->(∀x,x∈xs-> ∀d,x.2.1.dst=some d->BU fr0 d=none)->(∀c,c∈R->c∈l0)->(∀x,x∈sp-> ∀c,c∈x.2->c∈l0)->
 AddK xs fr l (λfr' l'=>PlanS P ro N E ops Q R tbl none sp rest fr' ds l')->PlanS P ro N E ops Q R tbl none sp (xs.map Tl++rest) fr ds l
 |[],_,_,_,_,_,_,_,_,_,_,_,h=>h
 |x::xs,fr0,fr,l0,l,h1,h2,hx,hn,hf,hR,hS,h=>by
  have hI:=hx x Ak;obtain⟨d,hd,hb,hfd⟩:=hI.dst;refine .e (hI.law fr l h1 h2) hI.guard (by rw[hd];exact hb) ?_ ?_ ?_
  ·rintro v l' ⟨cs,_,rfl⟩ c hc;exact Aa _ (h2 _ (hR c hc))
  ·rintro v l' ⟨cs,_,rfl⟩ y hy _ c hc;exact Aa _ (h2 _ (hS y hy c hc))
  ·rintro v l' ⟨cs,hk,rfl⟩;refine af xs (fr0:=fr0) ?_ (λc hc=>Aa _ (h2 c hc)) (λy hy=>hx y (An _ hy)) (AN.1 hn).2 (λy hy=>hf y (An _ hy)) hR hS (h v cs hk);intro e u hu;show BU (HI x.2.1.dst v fr) e=_;rw[hd,G9]
   split
   ·rename_i e1;subst e1;rw[hfd] at hu;cases hu
   ·exact h1 e u hu
abbrev kS(x:Nat×Oper):BF:=(x.1,true,x.2)
def QK(P:Program)(ro:Option Nat)(N:Nat)(R:List Ab):List (Nat×Oper)->Fr->(Fr->Prop)->Prop
 |[],fr,k=>k fr
 |x::xs,fr,k=> ∃v d,OpQ P ro N fr R x.2 v/\x.2.guard=none/\x.2.dst=some d/\Nat.blt d N=true/\QK P ro N R xs ((d,v)::fr) k
theorem QK.plan{sw:Sw}{sp:Fj}{ds:List Deferred}{rest:List BF}{l:List Ab}: ∀{qs:List (Nat×Oper)} {fr:Fr},QK P ro N R qs fr (λfr'=>PlanS P ro N E ops Q R tbl sw sp rest fr' ds l)->PlanS P ro N E ops Q R tbl sw sp (qs.map kS++rest) fr ds l
 |[],_,h=>h
 |x::qs,fr,h=>by obtain⟨v,d,h1,h2,h3,h4,h5⟩:=h;exact .q h1 h2 (by rw[h3];exact h4) (by rw[h3];exact QK.plan h5)
theorem QK.mono{k k':Fr->Prop}(h: ∀fr,k fr->k' fr): ∀{qs:List (Nat×Oper)} {fr:Fr},QK P ro N R qs fr k->QK P ro N R qs fr k'
 |[],_,hk=>h _ hk
 |x::qs,_,⟨v,d,h1,h2,h3,h4,h5⟩=>⟨v,d,h1,h2,h3,h4,QK.mono h h5⟩
theorem QK.le{k:Fr->Prop}(hk: ∀fr fr',FLe fr fr'->k fr->k fr'): ∀{qs:List (Nat×Oper)} {fr fr':Fr},FLe fr fr'->QK P ro N R qs fr k->QK P ro N R qs fr' k
 |[],_,_,h,hq=>hk _ _ h hq
 |x::qs,_,_,h,⟨v,d,h1,h2,h3,h4,h5⟩=>⟨v,d,h1.le h,h2,h3,h4,QK.le hk (h.put (some d) v) h5⟩
theorem FLe.low{fr:Fr}{d:Nat}(h1:FLe fr0 fr)(hd:BU fr0 d=none):FLe fr0 (HI (some d) v fr):=λe u hu=>by
 rw[G9]
 split
 ·rename_i e1;subst e1;rw[hd] at hu;cases hu
 ·exact h1 e u hu
theorem QK.low{fr0:Fr}{k:Fr->Prop}: ∀{qs:List (Nat×Oper)} {fr:Fr},(∀x,x∈qs-> ∀d,x.2.dst=some d->BU fr0 d=none)->FLe fr0 fr->QK P ro N R qs fr k->QK P ro N R qs fr (λfr2=>FLe fr0 fr2/\k fr2)
 |[],_,_,h,hk=>⟨h,hk⟩
 |x::qs,_,hq,h,⟨v,d,h1,h2,h3,h4,h5⟩=>⟨v,d,h1,h2,h3,h4,QK.low (λy hy=>hq y (An _ hy)) (h.low (hq x Ak d h3)) h5⟩
theorem QK.first{k:Fr->List Ab->Prop}(hk:uk k){a:Uf}{da:Nat}(ha:a.2.1.dst=some da): ∀{qs:List (Nat×Oper)} {fr:Fr} {l:List Ab},BU fr da=none->(∀x,x∈qs->x.2.dst≠some da)->QK P ro N R qs fr (λfr'=>AddK [a] fr' l k)->AddK [a] fr l (λfr' l'=>QK P ro N R qs fr' (λfr2=>k fr2 l'))
 |[],_,_,_,_,h=>h
 |x::qs,fr,l,hn,hx,⟨v,d,h1,h2,h3,h4,h5⟩=>by
  have hne:d≠da:=λe=>hx x Ak (by rw[h3,e]);intro u us hu;show QK P ro N R (x::qs) (HI a.2.1.dst u fr) _;rw[ha];refine⟨v,d,h1.le ?_,h2,h3,h4,?_⟩
  ·intro e w hw;rw[G9]
   split
   ·rename_i e1;subst e1;rw[hn] at hw;cases hw
   ·exact hw
  ·have h6:=QK.first hk ha (fr:=(d,v)::fr) (by show BU (HI (some d) v fr) da=none;rw[G9,Ac hne];exact hn) (λy hy=>hx y (An _ hy)) h5 u us hu;have h7:QK P ro N R qs (HI a.2.1.dst u ((d,v)::fr)) (λfr2=>k fr2 (us++l)):=h6;rw[ha] at h7;exact QK.le (λfr fr' h h'=>hk _ _ _ _ h (.refl _) h') (WL (Ff hne) u v fr) h7
def Vc(ops:Array Oper)(tbl:List (List Nat))(qs:List BF)(a:BF)(rest:List BF):List BF->Bool
 |[]=>FT ops tbl none rest
 |x::xs=>x.1 !=a.1&&FT ops tbl (some (xs.map λy=>(y.1,a.1))) (xs++(qs++a::rest))&&FT ops tbl none (x::xs++(qs++rest))&&Vc ops tbl qs a rest xs
theorem db{a:BF}(xs:List Uf):Td (some (xs.map λy=>(y.1,a.1))) (xs.map Tl++rest)=true:=by show(xs.map λy=>(y.1,a.1)).all _=true;rw[AZ];intro p hp;obtain⟨y,hy,rfl⟩:=Au.1 hp;rw[Hf];exact⟨Tl y,Ah _ (List.mem_map_of_mem hy),by simp⟩
theorem AddK.snoc{a:Uf}{k:Fr->List Ab->Prop}: ∀{xs:List Uf} {fr:Fr} {l:List Ab},AddK xs fr l (λfr' l'=>AddK [a] fr' l' k)->AddK (xs++[a]) fr l k
 |[],_,_,h=>h
 |x::xs,_,_,h=>λv cs hv=>AddK.snoc (h v cs hv)
theorem AddK.none'{fr0:Fr}{da:Nat}: ∀{xs:List Uf} {fr:Fr} {l:List Ab} {k:Fr->List Ab->Prop},BU fr da=none->(∀x,x∈xs-> ∃d,x.2.1.dst=some d/\d≠da)->AddK xs fr l k->AddK xs fr l (λfr' l'=>BU fr' da=none/\k fr' l')
 |[],_,_,_,h,_,hk=>⟨h,hk⟩
 |x::xs,fr,l,k,h,hx,hk=>λv cs hv=>by obtain⟨d,hd,hne⟩:=hx x Ak;exact AddK.none' (fr0:=fr0) (by rw[hd,G9,Ac hne];exact h) (λy hy=>hx y (An _ hy)) (hk v cs hv)
theorem iD{sp:Fj}{qs:List (Nat×Oper)}{a:Uf}{l0:List Ab}(hR: ∀c,c∈R->c∈l0)(hS: ∀x,x∈sp-> ∀c,c∈x.2->c∈l0)(ha:IsAd P ro N fr0 l0 a){da:Nat}(hda:a.2.1.dst=some da)(hq: ∀x,x∈qs->x.2.dst≠some da)(hqf: ∀x,x∈qs-> ∀d,x.2.dst=some d->BU fr0 d=none): ∀(xs:List Uf) {fr:Fr} {l:List Ab},FLe fr0 fr->BU fr da=none->(∀c,c∈l0->c∈l)->(∀x,x∈xs->IsAd P ro N fr0 l0 x)->((xs++[a]).map λx=>x.2.1.dst).Nodup->Vc ops tbl (qs.map kS) (Tl a) rest (xs.map Tl)=true->
 AddK xs fr l (λfr1 l1=>QK P ro N R qs fr1 λfr2=>AddK [a] fr2 l1 (λfr' l'=>PlanS P ro N E ops Q R tbl none sp rest fr' ds l'))->PlanS P ro N E ops Q R tbl (some (xs.map λx=>(x.1,a.1))) sp (xs.map Tl++(qs.map kS++Tl a::rest)) fr ds l:=by
 have hInv:uk (λfr' l'=>PlanS P ro N E ops Q R tbl none sp rest fr' ds l'):=λfr fr' l l' h1 h2 h=>ae h2 (.weak h1 h);obtain⟨da',hda',hba,hfa⟩:=ha.dst;obtain rfl:da=da':=by rw[hda] at hda';cases hda';rfl
 have low: ∀{fr:Fr} {d:Nat} {v:Value},FLe fr0 fr->BU fr0 d=none->FLe fr0 (HI (some d) v fr):=λ{fr d v} h1 hd=>h1.low hd;intro xs
 induction xs with
 |nil=>
  intro fr l h1 h0 h2 hx hn hok hk;refine QK.plan (QK.mono ?_ (QK.low hqf h1 hk))
  ·rintro fr2 ⟨hl2,hk2⟩;have ho:=ha.law fr2 l hl2 h2;refine .alt (λ_=>a.2.1) (λ_ v l2=> ∃cs,a.2.2 v cs/\l2=cs++l) (λ_=>rest) (λ_=>none) (λj hj=>?_) (λj hj=>⟨ho,by rw[ha.guard];rfl,by rw[hda];exact hba⟩) (λj hj=>?_) λj hj=>?_
   ·rcases hj with rfl|⟨h,_⟩
    ·exact⟨.refl _,hok,rfl⟩
    ·simp[N7] at h
   ·rintro v l' ⟨cs,_,rfl⟩;exact⟨λc hc=>Aa _ (h2 _ (hR c hc)),λy hy _ c hc=>Aa _ (h2 _ (hS y hy c hc))⟩
   ·rintro v l' ⟨cs,hv,rfl⟩;exact hk2 v cs hv
 |cons x xs ih=>
  intro fr l h1 h0 h2 hx hn hok hk;have hI:=hx x Ak;obtain⟨d,hd,hb,hfd⟩:=hI.dst;simp only[AI,Vc,AR,bne_iff_ne,ne_eq] at hok;obtain⟨⟨⟨hne,hp1⟩,hp2⟩,hok⟩:=hok;have hcand: ∀j,N8 tbl (some ((x::xs).map λx=>(x.1,a.1))) x.1 (xs.map Tl++(qs.map kS++Tl a::rest)) j->j=x.1\/j=a.1:=λj hj=>by
   rcases hj with h|⟨h,_⟩
   ·exact .inl h
   ·simp only[N7,IV,Au,Prod.mk.injEq] at h;obtain⟨y,_,_,h⟩:=h;exact .inr h.symm
  have hna: ∀y,y∈x::xs-> ∃d,y.2.1.dst=some d/\d≠da:=λy hy=>by obtain⟨d',hd',_⟩:=(hx y hy).dst;refine⟨d',hd',λe=>?_⟩;rw[Aq,Bu] at hn;exact hn.2.2 y.2.1.dst (Au.2 ⟨y,hy,rfl⟩) a.2.1.dst (Au.2 ⟨a,Ak,rfl⟩) (by rw[hd',hda,e])
  refine .alt (λk=>if k=x.1 then x.2.1 else a.2.1) (λk v l2=>if k=x.1 then∃cs,x.2.2 v cs/\l2=cs++l else∃cs,a.2.2 v cs/\l2=cs++l) (λk=>if k=x.1 then xs.map Tl++(qs.map kS++Tl a::rest) else(x::xs).map Tl++(qs.map kS++rest)) (λk=>if k=x.1 then some (xs.map λx=>(x.1,a.1)) else none) (λk hk=>?_) (λk hk=>?_) (λk hk=>?_) λk hk=>?_;all_goals rcases hcand k hk with h|h
  ·subst h;simp only[CT];exact⟨.refl _,by rw[CJ] at hp1;exact hp1,db (a:=Tl a) xs⟩
  ·subst h;simp only[Ac (Ff hne)];refine⟨?_,hp2,rfl⟩;show(Tl a::((x::xs).map Tl++(qs.map kS++rest))).Perm ((x::xs).map Tl++(qs.map kS++Tl a::rest));rw[<-Am,<-Am];exact AH.symm
  ·subst h;simp only[CT];exact⟨hI.law fr l h1 h2,by rw[hI.guard];rfl,by rw[hd];exact hb⟩
  ·subst h;simp only[Ac (Ff hne)];exact⟨ha.law fr l h1 h2,by rw[ha.guard];rfl,by rw[hda];exact hba⟩
  ·subst h;simp only[CT];rintro v l' ⟨cs,_,rfl⟩;exact⟨λc hc=>Aa _ (h2 _ (hR c hc)),λy hy _ c hc=>Aa _ (h2 _ (hS y hy c hc))⟩
  ·subst h;simp only[Ac (Ff hne)];rintro v l' ⟨cs,_,rfl⟩;exact⟨λc hc=>Aa _ (h2 _ (hR c hc)),λy hy _ c hc=>Aa _ (h2 _ (hS y hy c hc))⟩
  ·subst h;simp only[CT];rintro v l' ⟨cs,hv,rfl⟩;rename_i hk0;obtain⟨d',hd',hne'⟩:=hna x Ak;exact ih (by rw[hd];exact low h1 hfd) (by rw[hd',G9,Ac hne'];exact h0) (λc hc=>Aa _ (h2 c hc)) (λy hy=>hx y (An _ hy)) (AN.1 hn).2 hok (hk0 v cs hv)
  ·subst h;simp only[Ac (Ff hne)];rintro v l' ⟨cs,hv,rfl⟩;rename_i hk0;rw[Aq,Bu] at hn;refine af (x::xs) (by rw[hda];exact low h1 hfa) (λc hc=>Aa _ (h2 c hc)) hx hn.1 (λy hy d hd=>by obtain⟨d',hd',_,h⟩:=(hx y hy).dst;rw[hd] at hd';cases hd';exact h) hR hS ?_;have h8:=AddK.mono (λfr l h=>QK.first hInv hda h.1 hq h.2) (AddK.none' (fr0:=fr0) h0 hna hk0);have hInv2:uk (λfr' l'=>QK P ro N R qs fr' λfr2=>PlanS P ro N E ops Q R tbl none sp rest fr2 ds l'):=λfr fr' l l' h1 h2 h=>QK.le (λ_ _ h h'=> .weak h h') h1 (QK.mono (λ_ h=>ae h2 h) h);have h9:=AddK.first hInv2 hda hna (AddK.snoc h8) v cs hv;exact AddK.mono (λ_ _ h=>QK.plan h) h9
def AllAd(P:Program)(ro:Option Nat)(N:Nat)(fr:Fr)(l:List Ab):List Uf->Prop
 |[]=>True
 |x::xs=>IsAd P ro N fr l x/\AllAd P ro N fr l xs
theorem AllAd.mem{fr:Fr}{l:List Ab}: ∀{xs:List Uf},AllAd P ro N fr l xs-> ∀x,x∈xs->IsAd P ro N fr l x
 |[],_,x,hx=>by cases hx
 |y::ys,h,x,hx=>by
  rcases Ap.1 hx with rfl|hx
  ·exact h.1
  ·exact AllAd.mem h.2 x hx
def vV:List (Option Nat)->Bool
 |[]=>true
 |x::xs=>!xs.contains x&&vV xs
theorem WM: ∀{xs:List (Option Nat)},vV xs=true->xs.Nodup
 |[],_=>List.nodup_nil
 |x::xs,h=>by simp only[vV,AR,DC,List.contains_eq_mem,Ef] at h;exact AN.2 ⟨h.1,WM h.2⟩
def Sl(fr:Fr):List (Option Nat)->Bool
 |[]=>true
 |some d::r=>(BU fr d).isNone&&Sl fr r
 |none::r=>Sl fr r
theorem K6{fr:Fr}: ∀{xs:List (Option Nat)},Sl fr xs=true-> ∀d,some d∈xs->BU fr d=none
 |[],_,d,h=>by cases h
 |some e::r,h,d,hd=>by
  simp only[Sl,AR,Option.isNone_iff_eq_none] at h;rcases Ap.1 hd with h2|h2
  ·cases h2;exact h.1
  ·exact K6 h.2 d h2
 |none::r,h,d,hd=>by
  rcases Ap.1 hd with h2|h2
  ·cases h2
  ·exact K6 (xs:=r) h d h2
theorem nj{sp:Fj}{L:List (Nat×Nat)}{fr:Fr}{l:List Ab}(xs:List Uf)(qs:List (Nat×Oper))(a:Uf)(da:Nat)(hL:xs.map (λx=>(x.1,a.1))=L)(hpl:xs.map Tl++(qs.map kS++Tl a::rest)=pl)(hda:a.2.1.dst=some da)(hR: ∀c,c∈R->c∈l)(hS: ∀x,x∈sp-> ∀c,c∈x.2->c∈l)(hx:AllAd P ro N fr l xs)(ha:IsAd P ro N fr l a)(hn:vV ((xs++[a]).map λx=>x.2.1.dst)=true)(hok:Vc ops tbl (qs.map kS) (Tl a) rest (xs.map Tl)=true)
 (hqd:(qs.all λx=>x.2.dst !=some da)=true)(hqf:Sl fr (some da::qs.map λx=>x.2.dst)=true)
 (hk:AddK xs fr l (λfr1 l1=>QK P ro N R qs fr1 λfr2=>AddK [a] fr2 l1 (λfr' l'=>PlanS P ro N E ops Q R tbl none sp rest fr' ds l'))):PlanS P ro N E ops Q R tbl (some L) sp pl fr ds l:=by
 subst hL hpl;exact iD hR hS ha hda (λx hx=>by simpa using AZ.1 hqd x hx) (λx hx d hd=>K6 hqf d (An _ (Au.2 ⟨x,hx,hd⟩))) xs (λ_ _ h=>h) (K6 hqf da Ak) (λ_ h=>h) hx.mem (WM hn) hok hk
variable{fr:Fr}{l:List Ab}{d:Nat}{aft:Array Edge}
theorem N0{xs:List Operand}{at_:Array TypeId}(hx:ev fr x=some (.func (.func f) #[] #[]))(hy:Qm fr xs=some vs)[c:EN P f](h: ∀l',(∀c,c∈l->c∈l')->Fn P f vs l' λv l2=> ∃cs,K v cs/\l2=cs++l')(hb:Nat.blt d N=true)(hf:BU fr d=none):IsAd P ro N fr l (i,⟨some d,.call {callee:= .value x,args:=xs.toArray,argTypes:=at_},ty,pos,aft,none⟩,K):=
 ⟨λl' h2=>Az hx hy (h l' h2),rfl,d,rfl,hb,hf⟩
theorem iE{t:TypeId}{zs:List Value}[c:ZV P t zs](hb:Nat.blt d N=true)(hf:BU fr d=none):IsAd P ro N fr l (i,⟨some d,.alloc t,ty,pos,aft,none⟩,λv cs=> ∃b,v= .pointer (some ⟨b,0,none⟩)/\cs=[(b,.cells zs.toArray t (0,0))]):=
 ⟨λl' h2=>e_alloc.mono (by rintro v l2 ⟨b,_,h3,h4⟩;exact⟨_,⟨b,h3,rfl⟩,h4⟩),rfl,d,rfl,hb,hf⟩
end
section
end
section
variable{fr:Fr}{d:Option Nat}{aft:Array Edge}
theorem iF{T off:Nat}(hx:ev fr x=some (.pointer (some ⟨b,off,none⟩)))[c:AT P T n e k]:OpQ P ro N fr R ⟨d,.slice T x none none none,ty,pos,aft,g⟩ (.slice (some ⟨b,off,none⟩) n n):=BK rfl λρ l hρ _=>by
 obtain⟨inf,u1,u2,u3⟩:=Lv c.out;simp only[execOp,hρ x _ hx];rw[AB];unfold Instr.sliceAt;rw[B9 u1];simp only[Instr.sureAddr,AB,Bj,Dt,Instr.sliceBounds];rw[GV u2];simp only[Bj,u3];refine⟨?_,trivial⟩
 split<;>simp[FZ]
end
def nk(gb:Nat)(W:List Int)(a:Int):Value:= .pointer (if Nt W a=0 then some ⟨gb,(a/8).toNat,none⟩ else none)
theorem ag(b gb F:Nat)(W:List Int)(h1:F<=64)(hW:W.length=F*8)(a:Int)(a0:0<=a)(a1:a<18446744073709551616)(l:List Ab)(hm:Oj b gb F∈l):Fn prog 259 [pV b,Ba a] l λv l'=>v= .tuple #[nk gb W a,.int .i64 (Nt W a)]/\l'=l:=by
 unfold nk Nt;rw[hW];refine AM func259 ntmps259 λE=>?_;by_cases h8:a%8=0
 case neg=>rw[Ad h8];exact EA
 rw[Ac (FL h8)];by_cases hr:a>=((F*8:Nat):Int)*8
 ·rw[Ad hr];exact EA
 rw[Ac hr];refine Aj ?_;refine A9 .refl ⟨?_,rfl⟩;exact BN (λx=>Value.tuple #[.pointer (some ⟨gb,x,none⟩),.int .i64 0]) Af
theorem um(h:i<W.length):(toArray (W.map Ba))[i]?=some (Ba (W.getD i 0)):=by rw[AC,A0,Al h,List.getD,Al h];rfl
theorem ph(a0:0<=a)(hc:Nt W a=0):(a/8).toNat<W.length:=by
 unfold Nt at hc
 (repeat' split at hc)<;>omega
theorem ah(b gb F:Nat)(W:List Int)(h1:F<=64)(hW:W.length=F*8)(a:Int)(a0:0<=a)(a1:a<18446744073709551616)(l:List Ab)(m1:Oj b gb F∈l)(m2:Se gb W∈l):Fn prog 203 [pV b,Ba a] l λv l'=>v= .tuple #[Ba (NZ W a).1,iV (NZ W a).2]/\l'=l:=by
 unfold NZ;refine AM func203 ntmps203 λE=>?_;refine Aj ?_;refine Bb (AJ rfl rfl λl2 hl2=>ag b gb F W h1 hW a a0 a1 l2 (hl2 _ m1)) ?_;unfold nk;by_cases hc:Nt W a=0
 ·have hv:=um (ph a0 hc);rw[Ad hc,Ad hc,hc];refine Aj ?_;exact qr
 ·rw[Ac hc,Ac hc];refine Aj ?_;exact qr
section
variable{s:RL}
theorem dc(h:IsK F C k S p s)(a:Int)(a0:0<=a)(a1:a<18446744073709551616)(l:List Ab)(hl: ∀c,c∈Aw b p s S G->c∈l):Fn prog 203 [pV p.m,Ba a] l λv l'=>v= .tuple #[Ba (NZ S.W a).1,iV (NZ S.W a).2]/\l'=l:=by obtain⟨gb,f1,f2,hW,hu,hM⟩:=h.mem;exact ah p.m gb F S.W f2 hW a a0 a1 l (mM hl _ (by rw[hM];simp)) (mM hl _ (by rw[hM];simp))
theorem uo(W:List Int)(i:Nat)(v:Int):(toArray (W.map Ba)).setIfInBounds i (Ba v)=toArray ((W.set i v).map Ba):=by simp[Hj]
theorem dd{v:Int}(h: ∀w,w∈W->Kr w)(hv:Kr v): ∀w,w∈W.set i v->Kr w:=λw hw=>by
 rcases CC hw with h1|h1
 ·exact h w h1
 ·rw[h1];exact hv
theorem xX{x:Value}{W':List Int}(hK:IsK F C k S p s)(hk:k'<=k)(h: ∀gb G,S.W.length=F*8->F<=64->(∀w,w∈S.W->Kr w)->Fn prog f vs (Oj p.m gb F::Se gb S.W::G) λv l'=>v=x/\W'.length=F*8/\(∀w,w∈W'->Kr w)/\ ∃X,l'=X++Oj p.m gb F::Se gb W'::G):Fn prog f vs (Aw b p s S G) (KK F C b p k' x {S with W:=W'} G):=by obtain⟨gb,f1,f2,hW,hu,hM⟩:=hK.mem;exact Fn.re (.of_perm (by unfold Aw;rw[hM];exact BR)) (h gb (Cw b p::As.asA p.n S.N::(s.C++(s.A++(s.H++(s.T++(s.Q++(s.E++(s.V++G)))))))) hW f2 hu) λv l' ⟨h1,h2,h3,X,h4⟩=>⟨Aw b p {s with M:=[Oj p.m gb F,Se gb W']} {S with W:=W'} (X++G),by rw[h4];unfold Aw;exact A4 [],h1,{s with M:=[Oj p.m gb F,Se gb W']},_,{hK.mono hk with mem:=⟨gb,f1,f2,h2,h3,rfl⟩},⟨X,rfl⟩,rfl⟩
theorem YG(hK:IsK F C k S p s)(a v:Int)(a0:0<=a)(a1:a<18446744073709551616)(hv:Kr v):Fn prog 202 [pV p.m,Ba a,Ba v] (Aw b p s S G) (KK F C b p k (iV (cY S.W a v).1) {S with W:=(cY S.W a v).2} G):=by
 refine xX hK (A7 _) λgb G hW f2 hu=>?_;have hA:=ag p.m gb F S.W f2 hW a a0 a1;refine AM func202 ntmps202 λE=>?_;refine Aj ?_;refine Bb (AJ rfl rfl λl2 hl2=>hA l2 (hl2 _ (.head _))) ?_;unfold nk cY;by_cases hc:Nt S.W a=0
 ·have hlt:=ph a0 hc;rw[Ad hc,Ad hc,hc];refine Aj ?_;refine Mu (Dg (l':=Oj p.m gb F::Se gb (S.W.set (a/8).toNat v)::G) rfl rfl rfl (by rw[uo];exact .there .here) (by simpa using hlt)) rfl rfl ?_;rintro _ _ ⟨rfl,rfl⟩;refine Aj ?_;exact BA [] rfl .refl (by exact A8) ⟨rfl,by simpa using hW,dd hu hv,[],rfl⟩
 ·rw[Ac hc,Ac hc];refine Aj ?_;exact A9 .refl ⟨rfl,hW,hu,[],rfl⟩
theorem Qc(b gb F:Nat)(l:List Ab)(m1:Oj b gb F∈l):Fn prog 345 [pV b] l λv l'=>v=iV (F:Nat)/\l'=l:=by refine AM func345 ntmps345 λE=>?_;refine Aj ?_;exact qr
end
def Vd(W:List Int)(f j:Nat):List Int:=W.take (8*f)++(replicate (8*j) 0++W.drop (8*(f+j)))
theorem uq(W:List Int)(f:Nat):Vd W f 0=W:=by simp[Vd]
theorem Ve(hW:W.length=n*8)(h:f+j<=n):(Vd W f j).length=n*8:=by unfold Vd;simp;omega
theorem pj(f j:Nat)(h: ∀w,w∈W->Kr w): ∀w,w∈Vd W f j->Kr w:=λw hw=>by
 rcases AE.1 hw with hw|hw
 ·exact h w (List.mem_of_mem_take hw)
 rcases AE.1 hw with hw|hw
 ·rw[(List.mem_replicate.1 hw).2];exact⟨by decide,by decide⟩
 ·exact h w (List.mem_of_mem_drop hw)
theorem nl(hW:W.length=n*8)(h:f+j<n):CV (toArray ((Vd W f j).map Ba)) ((f+j)*8) z8=toArray ((Vd W f (j+1)).map Ba):=by
 have e1:(Vd W f j).map Ba=(W.take (8*f)++replicate (8*j) 0).map Ba++((W.drop (8*(f+j))).take 8).map Ba++(W.drop (8*(f+j)+8)).map Ba:=by rw[<-Aq,<-Aq];congr 1;unfold Vd;rw[Am,Am,<-Kb,Cd]
 have e2:(Vd W f (j+1)).map Ba=(W.take (8*f)++replicate (8*j) 0).map Ba++z8++(W.drop (8*(f+j)+8)).map Ba:=by rw[show z8=(replicate 8 (0:Int)).map Ba from rfl,<-Aq,<-Aq];congr 1;unfold Vd;rw[Am,Am,show 8*(j+1)=8*j+8 by omega,<-IU,Am];rfl
 rw[e1,e2,show(f+j)*8=((W.take (8*f)++replicate (8*j) 0).map Ba).length by simp;omega];exact Ar.setFrom_mid _ _ _ _ (by simp;omega)
section
variable{s:RL}
theorem iG(hK:IsK F C k S p s)(f n:Int):Fn prog 139 [pV p.m,.int .i64 f,.int .i64 n] (Aw b p s S G) (KK F C b p k (iV (mU S.W f n).1) {S with W:=(mU S.W f n).2} G):=by
 refine xX hK (A7 _) λgb G hW f2 hu=>?_;unfold mU;rw[show nF S.W=F by unfold nF;omega];refine AM func139 ntmps139 λE=>?_;refine Aj ?_;refine AP (Eb rfl rfl) ?_;rintro _ _ ⟨b4,_,rfl,rfl⟩;refine AP (Eb rfl rfl) ?_;rintro _ _ ⟨b5,_,rfl,rfl⟩;refine Aj ?_;refine Ch [] 27 _ ?_ (hR:=(λ_ h=>h));by_cases hbad:f<0\/f>=F\/n<0\/n>F-f
 ·rw[Ad hbad];by_cases h1:f<0<;>by_cases h2:f>=F<;>by_cases h3:n<0<;>by_cases h4:n>F-f;all_goals first
   |(exfalso;omega)
   |(refine BM ?_
     refine Aj ?_;exact A9 (.drop (.drop .refl)) ⟨rfl,hW,hu,[],rfl⟩)
 rw[Ac hbad];obtain⟨f,rfl⟩: ∃q:Nat,f=q:=⟨f.toNat,Af⟩
 obtain⟨n,rfl⟩: ∃q:Nat,n=q:=⟨n.toNat,Af⟩
 refine BM ?_;refine Aj ?_;refine AP (Az rfl rfl (V9 p.m f _)) ?_;rintro _ _ ⟨B1,B2,rfl,rfl⟩;refine Aj ?_;refine C0 (α:=Nat) (ps:=[42,43]) (lb:=[.pointer (some ⟨B1,0,none⟩),.pointer (some ⟨B2,0,none⟩)]) rfl (TM B1 B2 p.m gb F f Af f2) (λ_=>rfl) rfl
  (λpre l=>pre.length<=n/\l=[BJ B1 f,VG B2 p.m,BJ b5 n,BJ b4 f,Oj p.m gb F,Se gb (Vd S.W f pre.length)])
  (λc pre l=>c= .exit 1/\l=[BJ B1 f,VG B2 p.m,BJ b5 n,BJ b4 f,Oj p.m gb F,Se gb (Vd S.W f n)])
  _ G (λpre l2 X2 hX h=>by rw[h.2];exact⟨Ah _ (by exact BS),Ah _ (by exact BS),Ah _ (by exact BS)⟩) (by rw[ER,uq];exact AS) ⟨Bl _,rfl⟩ ?_ ?_ ?_
 ·rintro E r0 rec pre x l' T ⟨fn,tmps,D,rfl⟩ hT ⟨hj,rfl⟩ hsp;obtain⟨j,hj2⟩: ∃j,pre.length=j:=⟨_,rfl⟩
  obtain⟨hx,hxF⟩:x=f+j/\x<F:=by have h3:=IW hsp (i:=j) (by simp;omega);rw[Ht Af] at h3;have h4:=hsp.length_le;simp[hj2] at h3 h4;omega
  subst hx;rw[hj2] at hj⊢;simp only[DG,Ae,Ag];refine Aj ?_;refine Cy (by exact DI) ?_;refine Aj ?_;by_cases hb:((f+j:Nat):Int)-f>=n
  ·have:j=n:=by omega
   subst this;refine Aj ?_;refine EE [BJ B1 f,VG B2 p.m,BJ b5 j,BJ b4 f,Oj p.m gb F,Se gb (Vd S.W f j)] (by exact AS) ⟨rfl,rfl⟩
  ·refine Aj ?_;refine Bb (Gf (zs:=z8) (cs:=z8) rfl rfl) ?_;refine tN ?_;refine Mu (Et (cs:=toArray ((Vd S.W f j).map Ba)) (ws:=toArray z8) (n:=8) (off:=(f+j)*8) (l':=BJ B1 f::VG B2 p.m::BJ b5 n::BJ b4 f::Oj p.m gb F::Se gb (Vd S.W f (j+1))::_) rfl rfl rfl (by simp[Value.oneCell']) (by rw[nl hW hxF];exact DI) (by simp[Ve hW (by omega:f+j<=F)];omega)) rfl rfl ?_;rintro _ _ ⟨rfl,rfl⟩;refine Aj ?_;exact B0 [BJ B1 f,VG B2 p.m,BJ b5 n,BJ b4 f,Oj p.m gb F,Se gb (Vd S.W f (j+1))] .refl ⟨by simp;omega,by simp[hj2]⟩
 ·rintro D xs l' rfl ⟨hj,rfl⟩;rw[List.length_range'] at hj⊢;have:F-f=n:=by omega
  rw[this];simp only[Ae,Ag];refine Aj ?_;exact AW [D] _ rfl (l':=Oj p.m gb F::Se gb (Vd S.W f n)::G) (by exact AS) (by exact A8) (by exact AS) ⟨rfl,Ve hW Af,pj f n hu,[],rfl⟩
 ·rintro D c pre l' hsp ⟨rfl,rfl⟩;simp only[Ae,Ag];refine Aj ?_;exact AW [D] _ rfl (l':=Oj p.m gb F::Se gb (Vd S.W f n)::G) (by exact AS) (by exact A8) (by exact AS) ⟨rfl,Ve hW Af,pj f n hu,[],rfl⟩
instance{f n:Int}:EK prog F C b p 139 [pV p.m,.int .i64 f,.int .i64 n] k S k (iV (mU S.W f n).1) {S with W:=(mU S.W f n).2}:=⟨λs G h=>iG h f n⟩
theorem ur: ∀(D:List α),D.length=8-> ∃a b c d e f g i,D=[a,b,c,d,e,f,g,i]
 |[a,b,c,d,e,f,g,i],_=>⟨a,b,c,d,e,f,g,i,rfl⟩
abbrev xY(B:Nat)(ws:List Int):Ab:=(B,.cells (toArray (ws.map Ba)) 255 (0,0))
def IsWd(W:List Int)(f:Int)(sl:Value)(X:List Ab):Prop:=if 0<=f/\f<nF W then∃B,sl= .slice (some ⟨B,0,none⟩) 8 8/\X=[xY B ((W.drop (8*f.toNat)).take 8)] else sl= .slice none 0 0/\X=[]
theorem YH(h:IsK F C k S p s)(f:Int):Fn prog 88 [pV p.m,.int .i64 f] (Aw b p s S G) λv l'=> ∃sl X e,v= .tuple #[sl,iV e]/\IsWd S.W f sl X/\l'=X++Aw b p s S G:=by
 obtain⟨gb,f1,f2,hW,hu,hM⟩:=h.mem;have m1:Oj p.m gb F∈Aw b p s S G:=mM (λ_ h=>h) _ (by rw[hM];simp);have m2:Se gb S.W∈Aw b p s S G:=mM (λ_ h=>h) _ (by rw[hM];simp);have eF:nF S.W=F:=by unfold nF;omega
 refine AM func88 ntmps88 λE=>?_;by_cases h1:f<0
 ·refine Aj ?_;exact BA [] rfl .refl (by exact A8) ⟨_,[],_,rfl,by unfold IsWd;rw[eF,Ac Af];exact⟨rfl,rfl⟩,rfl⟩
 by_cases h2:f>=F
 ·refine Aj ?_;exact BA [] rfl .refl (by exact A8) ⟨_,[],_,rfl,by unfold IsWd;rw[eF,Ac Af];exact⟨rfl,rfl⟩,rfl⟩
 obtain⟨f,rfl⟩: ∃q:Nat,f=q:=⟨f.toNat,Af⟩
 obtain⟨D,hD⟩: ∃D,(S.W.drop (8*f)).take 8=D:=⟨_,rfl⟩
 have hx:(toArray (S.W.map Ba)).extract (f*8) (f*8+8)=toArray (D.map Ba):=by rw[<-hD];simp only[EG,Cj];rw[Gx,List.map_drop,Cx,LP f 8]
 obtain⟨d0,d1,d2,d3,d4,d5,d6,d7,rfl⟩:=ur D (by rw[<-hD];simp;omega);simp only[AI,CI] at hx;refine Aj ?_;refine Bb (Dn (n:=8) rfl m2 (by simp;omega) hx) ?_;refine AO λB=>?_;refine Bb (iF rfl) ?_;refine Aj ?_;exact BA [] rfl .refl (by exact A8) ⟨_,[xY B [d0,d1,d2,d3,d4,d5,d6,d7]],_,rfl,by unfold IsWd;rw[eF,Ad Af];exact⟨B,rfl,by rw[AY,hD]⟩,rfl⟩
end
def Gu(va:Int):Int×Int:=if va>=32768 then(0,3) else(va/64,0)
theorem de(va:Int)(a0:0<=va)(a1:va<18446744073709551616)(l:List Ab):Fn prog 258 [Ba va] l λv l'=>v= .tuple #[iV (Gu va).1,iV (Gu va).2]/\l'=l:=by
 unfold Gu;refine AM func258 ntmps258 λE=>?_;by_cases h:va>=32768
 ·rw[Ad h];exact EA
 ·rw[Ac h];exact EA
theorem YI(pg lv:Int)(l:List Ab):Fn prog 374 [.int .i64 pg,.int .i64 lv] l λv l'=>v=iV (mW pg lv)/\l'=l:=by
 unfold mW;refine AM func374 ntmps374 λE=>?_;by_cases hb:pg<0\/pg>=512\/lv<1\/lv>3
 ·rw[Ad hb];by_cases h1:pg<0<;>by_cases h2:pg>=512<;>by_cases h3:lv<1<;>by_cases h4:lv>3;all_goals first
   |(exfalso;omega)
   |(refine Aj ?_
     exact A9 .refl ⟨rfl,rfl⟩)
 rw[Ac hb];obtain rfl|rfl|rfl:lv=1\/lv=2\/lv=3:=by omega
 ·refine Aj ?_;refine Hu 3 ?_;refine Aj ?_;refine EI ?_;refine Aj ?_;refine EI ?_;refine Aj ?_;refine A9 .refl ⟨?_,rfl⟩;simp[Iw];omega
 ·refine Aj ?_;refine Hu 3 ?_;refine Aj ?_;refine EI ?_;refine Aj ?_;refine A9 .refl ⟨?_,rfl⟩;simp[Iw]
 ·refine Aj ?_;refine Hu 3 ?_;refine Aj ?_;refine A9 .refl ⟨?_,rfl⟩;simp[Iw]
instance{pg lv:Int}{l:List Ab}:QF prog 374 [.int .i64 pg,.int .i64 lv] l (iV (mW pg lv)):=⟨λl _=>YI pg lv l⟩
theorem WN(w a n v:Nat)(hw:w<18446744073709551616)(h1:1<=n)(h2:n<=63)(h3:a+n<=64)(hv:v<2^n)(l:List Ab):
 Fn prog 334 [.int .u64 (w:Nat),.int .i64 (a:Nat),.int .i64 (n:Nat),.int .u64 (v:Nat)] l λr l'=>r= .tuple #[.int .u64 (Ol w a n v:Nat),.int .i64 0]/\l'=l:=by
 have hv64:v<18446744073709551616:=Ea hv (CN (n:=2) Af (show n<=64 by omega));have hf:Kl v ((n:Nat):Int)=true:=by rw[Wp hv64 Af];exact At hv
 have e1:IntKind.u64.wrap (((2^n-1:Nat):Int)*2^a)=(((2^n-1)*2^a:Nat):Int):=by rw[show(2:Int)^a=((2^a:Nat):Int) by simp,<-JC,TI (Pd h3)]
 have e2:IntKind.u64.wrap (((v:Nat):Int)*2^a)=((v*2^a:Nat):Int):=by rw[show(2:Int)^a=((2^a:Nat):Int) by simp,<-JC,TI (Z2 h3 hv)]
 refine AM func334 ntmps334 λE=>?_;refine gz ?_;refine Bb (AJ rfl rfl λl2 _=>Ws a n h1 h3 l2) ?_;refine gz ?_;refine Bb (AJ rfl rfl λl2 _=>Pc v hv64 n l2) ?_;rw[hf];refine gz ?_;refine Bb (AJ rfl rfl λl2 _=>T0 n h1 h2 l2) ?_;refine gz ?_;refine Bb (Rs (n:=a) (i:=((2^n-1:Nat):Int)) rfl rfl (by show a<=64;omega)) ?_;rw[e1];refine Bb (gJ rfl rfl hw (Pd h3)) ?_;refine gz ?_;refine Bb (Rs (n:=a) (i:=((v:Nat):Int)) rfl rfl (by show a<=64;omega)) ?_;rw[e2];refine Bb (wH rfl rfl (D8 JB hw) (Z2 h3 hv)) ?_;rw[mm hw h3 hv];exact EA
section
variable{fr:Fr}{l:List Ab}{d:Option Nat}{aft:Array Edge}{y z:Operand}{u w:Value}{t t2 T kt et:TypeId}
theorem YJ{ws:List Value}(hx:ev fr x=some (.agg (toArray cs)))(hy:ev fr y=some (.int ki (i:Nat)))[c:AT P t n e k][c2:AG P e k'](hi:i<n)(hw:(cs.drop (i*k)).take k=ws):OpQ P ro N fr R ⟨d,.index t x y,ty,pos,aft,g⟩ (.agg (toArray ws)):=BK rfl λρ l hρ _=>by obtain⟨inf,h1,h2,h3⟩:=Lv c.out;obtain⟨u,inf2,u1,u2,u3,u4⟩:=Ke c2.out;rw[h2] at u3;cases u3;subst hw;simp only[execOp,hρ x _ hx,hρ y _ hy];rw[AB];unfold Instr.index;simp only[asIntOf,AB,Bj];rw[<-AB,B9 h1];simp only;rw[Ad ⟨Af,Af⟩,EP h2];have:=TF (P:=P) (f:=λv=>(pure v:Sem Value)) (l:=l) (Q:=λa l'=>sl P (pure (Next.value a)) l' λnx l'=>nx= .value (.agg (toArray ((cs.drop (i*k)).take k)))/\l'=l) u1 u2 h2 cs (i*k);rw[AB] at this;rw[AY,h3];rw[h3] at this;exact this.2 ⟨rfl,rfl⟩
theorem YK(hx:ev fr x=some (.agg (toArray cs)))(hy:ev fr y=some (.int ki (i:Nat)))[c:AT P t n e k][c2:OC P e](hi:i<n)(hv:cs[i*k]?=some v):OpQ P ro N fr R ⟨d,.index t x y,ty,pos,aft,g⟩ v:=BK rfl λρ l hρ _=>by obtain⟨inf,h1,h2,h3⟩:=Lv c.out;obtain⟨u,inf2,u1,u2,_,_⟩:=Lw c2.out;simp only[execOp,hρ x _ hx,hρ y _ hy];rw[AB];unfold Instr.index;simp only[asIntOf,AB,Bj];rw[<-AB,B9 h1];simp only;rw[Ad ⟨Af,Af⟩,EP h2];have:=TG (P:=P) (f:=λv=>(pure v:Sem Value)) (l:=l) (Q:=λa l'=>sl P (pure (Next.value a)) l' λnx l'=>nx= .value v/\l'=l) u1 u2 cs (i*k) hv;rw[AB] at this;rw[AY,h3];exact this.2 ⟨rfl,rfl⟩
end
instance:EQ prog 390 [none,none,none,none,some .i64]:=⟨Bs⟩
abbrev PK(B:Nat)(e:SZ):Ab:=(B,.cells (toArray (Sg e)) 390 (0,0))
abbrev WO(e:SZ):Value:= .agg (toArray (Sg e))
theorem xZ(e:SZ):AllK [none,none,none,none,some .i64] (Sg e):=⟨_,_,rfl,⟨_,rfl⟩,_,_,rfl,⟨_,rfl⟩,_,_,rfl,⟨_,rfl⟩,_,_,rfl,⟨_,rfl⟩,_,_,rfl,⟨_,rfl⟩,rfl⟩
theorem yD(e f:SZ):BX (Sg e) (Sg f)=decide (e=f):=by obtain⟨a,b,c,d,x⟩:=e;obtain⟨a',b',c',d',x'⟩:=f;rw[JD];simp[BX,M6]
theorem YL(e:SZ)(l:List Ab):Fn prog 333 [WO e] l λv l'=>v= .bool (Tj e)/\l'=l:=by
 unfold Tj;refine AM func333 ntmps333 λE=>?_;refine AO λb1=>?_;cases hv:e.vd with
 |false=>rw[Ad rfl];refine Aj ?_;refine Bb (FU (xs:=Sg e) (ys:=Sg YB) rfl rfl (xZ e) (xZ YB)) ?_;rw[yD];refine Aj ?_;exact qr
 |true=>
  rw[Ac AX];refine Aj ?_;by_cases h:e.fr<0\/e.fr>=64
  ·rw[Ad h];by_cases h1:e.fr<0<;>by_cases h2:e.fr>=64;all_goals first
    |(exfalso;omega)
    |(refine Aj ?_
      exact qr)
  ·rw[Ac h];refine Aj ?_;cases hr:e.rd;all_goals
    refine Aj ?_;exact qr
theorem Ug(b:Nat)(l:List Ab):Fn prog 335 [pV b] l λv l'=>v= .agg (toArray [.pointer (some ⟨b,0,none⟩),.pointer (some ⟨b,1,none⟩),.pointer (some ⟨b,2,none⟩),.pointer (some ⟨b,3,none⟩)])/\l'=l:=by
 refine AM func335 ntmps335 λE=>?_;refine AO λb2=>?_;refine Cn (Ck [13] 0 14) ?_;iterate 12 refine V8 ?_
 refine V8 ?_ (Gf (zs:=[.pointer none,.pointer none,.pointer none,.pointer none]) (cs:=[.pointer (some ⟨b,0,none⟩),.pointer (some ⟨b,1,none⟩),.pointer (some ⟨b,2,none⟩),.pointer (some ⟨b,3,none⟩)]) rfl rfl);refine fZ ?_;refine PF ?_;refine Aj ?_;exact qr
theorem pk(w:Nat)(a:Int)(h0:0<=a)(h1:a<64)(hw:w<18446744073709551616)(l:List Ab):Fn prog 334 [.int .u64 (w:Nat),.int .i64 a,.int .i64 1,.int .u64 1] l λr l'=>r= .tuple #[.int .u64 (Ol w a.toNat 1 1:Nat),.int .i64 0]/\l'=l:=by
 obtain⟨a,rfl⟩: ∃q:Nat,a=q:=⟨a.toNat,Af⟩
 exact WN w a 1 1 hw AX AX Af AX l
theorem qL(w a:Nat):Ol w a 1 1=2^a*(2*(w/2^(a+1))+1)+w%2^a:=rfl
theorem qM(vd lf rd wr:Bool)(f:Nat)(hf:f<64)(hm:Tj ⟨vd,lf,rd,wr,f⟩=true)(l:List Ab):Fn prog 295 [.agg (toArray [.bool vd,.bool lf,.bool rd,.bool wr,.int .i64 (f:Nat)])] l λv l'=>v= .tuple #[Ba ((vd.toNat+2*lf.toNat+4*rd.toNat+8*wr.toNat:Nat)+256*(f:Int)),iV 0]/\l'=l:=by
 refine AM func295 ntmps295 λE=>?_;refine AO λb1=>?_;refine Bb (AJ rfl rfl λl2 _=>YL ⟨vd,lf,rd,wr,f⟩ l2) ?_;rw[hm];refine Aj ?_;refine Bb (AJ rfl rfl λl2 _=>WN 0 8 6 f AX AX AX AX Af l2) ?_;refine Aj ?_;refine Bb (AJ rfl rfl λl2 _=>Ug b1 l2) ?_;refine Aj ?_;refine Hu 4 ?_;cases vd<;>cases lf<;>cases rd<;>cases wr;all_goals first
  |(exfalso;revert hm;simp[Tj];done)
  |(iterate 4
     refine Aj ?_;refine Bb (YK rfl rfl AX rfl) ?_;refine Aj ?_;try(refine Bb (AJ rfl rfl λl2 _=>pk _ _ AX AX (by simp[Ol];omega) l2) ?_)
     refine Aj ?_;refine EI ?_
    refine Aj ?_;refine qr (hx:=?_)
    first|(simp[Iw,Ol];done)|(simp[Iw,Ol];omega))
theorem WP(e:SZ)(l:List Ab):Fn prog 295 [WO e] l λv l'=>v= .tuple #[Ba (Pi e).1,iV (Pi e).2]/\l'=l:=by
 unfold Pi;cases hm:Tj e with
 |true=>
  obtain⟨vd,lf,rd,wr,fr⟩:=e;obtain⟨f,rfl,hf⟩: ∃f:Nat,fr=f/\f<64:=by
   unfold Tj at hm;cases vd
   ·simp at hm;exact⟨0,Af,Af⟩
   ·simp only[Bool.true_eq_false,CR] at hm
    split at hm
    ·cases hm
    ·exact⟨fr.toNat,Af,Af⟩
  exact qM vd lf rd wr f hf hm l
 |false=>
 refine AM func295 ntmps295 λE=>?_;refine AO λb1=>?_;refine Bb (AJ rfl rfl λl2 _=>YL e l2) ?_;rw[hm];refine Aj ?_;exact qr
def Vf(w i:Nat):SZ:=⟨w.testBit 0&&decide (0<i),w.testBit 1&&decide (1<i),w.testBit 2&&decide (2<i),w.testBit 3&&decide (3<i),0⟩
def ai(w i:Nat):Nat:=w/256%2^(min i 14-8)
abbrev WQ(j:Nat):Prop:=j<4\/(8<=j/\j<14)
theorem wP{w:Nat}(h:w.testBit i=false):Vf w (i+1)=Vf w i:=by
 have key: ∀j,(w.testBit j&&decide (j<i+1))=(w.testBit j&&decide (j<i)):=λj=>by
  by_cases e:j=i
  ·subst e;rw[h];rfl
  ·congr 1;exact decide_eq_decide.2 Af
 unfold Vf;rw[key,key,key,key]
theorem ut{w:Nat}(h:4<=i):Vf w (i+1)=Vf w i:=by
 have key: ∀j,j<4->(w.testBit j&&decide (j<i+1))=(w.testBit j&&decide (j<i)):=λj hj=>by congr 1;exact decide_eq_decide.2 Af
 unfold Vf;rw[key 0 Af,key 1 Af,key 2 Af,key 3 Af]
theorem wQ{w:Nat}(h:w.testBit i=true)(hi:i<4):(toArray (Sg (Vf w i))).setIfInBounds i (.bool true)=toArray (Sg (Vf w (i+1))):=by
 rcases i with _|_|_|_|i
 ·simp[Vf,Sg,h]
 ·simp[Vf,Sg,h]
 ·simp[Vf,Sg,h]
 ·simp[Vf,Sg,h]
 ·omega
theorem uv{w:Nat}(h:w.testBit i=false\/i<8\/14<=i):ai w (i+1)=ai w i:=by
 unfold ai;by_cases h1:i<8
 ·rw[show min (i+1) 14-8=0 by omega,show min i 14-8=0 by omega]
 by_cases h2:14<=i
 ·rw[show min (i+1) 14=min i 14 by omega]
 have hb:w.testBit i=false:=by rcases h with h|h|h;exact h;omega;omega
 rw[show min (i+1) 14-8=(i-8)+1 by omega,show min i 14-8=i-8 by omega];rw[DF] at hb;have hb:¬w/2^i%2=1:=by simpa using hb
 have e:w/256/2^(i-8)=w/2^i:=by rw[Nat.div_div_eq_div_mul,show(256:Nat)=2^8 from rfl,<-Nat.pow_add,show 8+(i-8)=i by omega]
 rw[Nat.pow_succ,Nat.mod_mul,e,show w/2^i%2=0 by omega];simp
theorem wR{w:Nat}(h:w.testBit i=true)(h1:8<=i)(h2:i<14):Ol (ai w i) (i-8) 1 1=ai w (i+1)/\ai w i<64:=by
 unfold ai;rw[show min (i+1) 14-8=(i-8)+1 by omega,show min i 14-8=i-8 by omega];rw[DF] at h;have h:w/2^i%2=1:=by simpa using h
 have e:w/256/2^(i-8)=w/2^i:=by rw[Nat.div_div_eq_div_mul,show(256:Nat)=2^8 from rfl,<-Nat.pow_add,show 8+(i-8)=i by omega]
 have hl:=GN (w/256) (show 2^(i-8)>0 from Nat.pow_pos Af);have hp:2^(i-8)<=2^5:=CN Af Af;refine⟨?_,Af⟩;rw[qL,Nat.pow_succ,Nat.mod_mul,e,h,Nat.div_eq_of_lt Af,Dj hl];omega
theorem df(w i:Nat):DX w i 1=if w.testBit i=true then 1 else 0:=by
 unfold DX;rw[DF];by_cases h:w/2^i%2=1
 ·rw[Ad (by simpa using h)];simpa using h
 ·rw[Ac (by simpa using h)];simp;omega
theorem WR{w:Nat}(hw:w<18446744073709551616):(w/16%16=0/\w/16384=0)<-> ∀j,j<64->w.testBit j=true->WQ j:=by
 constructor
 ·rintro⟨h1,h2⟩ j hj hb;by_cases hg:WQ j
  ·exact hg
  exfalso;by_cases h8:j<8
  ·have:(w/2^4%2^4).testBit (j-4)=true:=by
    rw[Ii,EL,show j-4+4=j by omega,hb];simp;omega
   rw[show w/2^4%2^4=0 from h1] at this;simp at this
  ·have:(w/2^14).testBit (j-14)=true:=by
    rw[EL,show j-14+14=j by omega,hb]
   rw[show w/2^14=0 from h2] at this;simp at this
 ·intro h;have key: ∀j,w.testBit j=true->WQ j:=λj hb=>by
   by_cases hj:j<64
   ·exact h j hj hb
   ·rw[EW (Ea hw (show 2^64<=2^j from CN Af Af))] at hb;cases hb
  constructor
  ·refine Jp λj=>?_;rw[show w/16%16=w/2^4%2^4 from rfl,Ii,EL,Nat.zero_testBit];by_cases hj:j<4
   ·cases hb:w.testBit (j+4) with
    |false=>simp
    |true=>have:=key _ hb;omega
   ·simp[hj]
  ·refine Jp λj=>?_;rw[show w/16384=w/2^14 from rfl,EL,Nat.zero_testBit];cases hb:w.testBit (j+14) with
   |false=>rfl
   |true=>have:=key _ hb;omega
theorem pm(w:Nat):({Vf w 64 with fr:=(ai w 64:Nat)}:SZ)=cZ w:=by simp[Vf,cZ,ai]
theorem nm{w:Nat}(hw:w<18446744073709551616)(hi:i<64)(hb:w.testBit i=true)(hg:¬WQ i):Ks (w:Int)=(YB,5):=by unfold Ks;rw[Ac];rintro⟨h1,h2,_⟩;exact hg ((WR hw).1 ⟨h1,h2⟩ i hi hb)
abbrev x5(B b:Nat):Ab:=(B,.cells (toArray [.pointer (some ⟨b,0,none⟩),.pointer (some ⟨b,1,none⟩),.pointer (some ⟨b,2,none⟩),.pointer (some ⟨b,3,none⟩)]) 505 (0,0))
theorem WS(w:Nat)(hw:w<18446744073709551616)(l:List Ab):Fn prog 344 [.int .u64 (w:Nat)] l λv l'=>v= .tuple #[WO (Ks (w:Int)).1,iV (Ks (w:Int)).2]/\l'=l:=by
 refine AM func344 ntmps344 λE=>?_;refine AO λb2=>?_;refine AO λb4=>?_;refine Bb (AJ rfl rfl λl2 _=>Ug b4 l2) ?_;refine AO λb5=>?_;refine CE (α:=Nat) (λi=>[(0,.int .u64 (w:Nat)),(2,pV b2),(4,pV b4),(5,pV b5),(6,.int .u64 (ai w i:Nat)),(11,.int .i64 (i:Nat))]) (λi=>x5 b5 b4::PK b4 (Vf w i)::PK b2 YB::l) (λi=>i<=64/\ ∀j,j<i->w.testBit j=true->WQ j) (λi=>64-i) 0 ⟨Af,λj hj=>by omega⟩ ⟨rfl,rfl,rfl,rfl,by rw[show ai w 0=0 from Nat.mod_one _];rfl,rfl,trivial⟩ (by rw[show Vf w 0=YB by simp[Vf]];exact .refl) ?_;rintro i ⟨hi,hg⟩;by_cases h64:i<64
 case neg=>
  obtain rfl:i=64:=by omega
  have hgood:=(WR hw).2 hg;have hf6:ai w 64<64:=GN _ AX;refine Aj ?_;refine Bb (AJ rfl rfl λl2 _=>YL ({Vf w 64 with fr:=(ai w 64:Nat)}:SZ) l2) ?_;rw[pm];unfold Ks;rw[AY];cases hm:Tj (cZ w) with
  |false=>rw[Ac (by simp)];refine Aj ?_;exact qr
  |true=>rw[Ad ⟨hgood.1,hgood.2,rfl⟩];refine Aj ?_;refine qr (hx:=?_);rw[<-pm];rfl
 refine Aj ?_;refine Bb (AJ rfl rfl λl2 _=>PR w hw i 1 Af Af Af Af l2) ?_;rw[show(1:Int).toNat=1 from rfl,AY,df];cases hb:w.testBit i with
 |false=>refine Aj ?_;exact BV (i+1) ⟨Af,λj hj h=>by by_cases e:j=i;subst e;rw[hb] at h;cases h;exact hg j Af h⟩ Af ⟨rfl,rfl,rfl,rfl,by rw[uv (.inl hb)];rfl,rfl,trivial⟩ (by rw[wP hb];exact .refl)
 |true=>
  rw[Ad rfl];by_cases h4:i<4
  ·refine Aj ?_;refine Bb (DH (v:= .pointer (some ⟨b4,i,none⟩)) rfl (.head _) (by rcases i with _|_|_|_|i<;>first|rfl|omega)) ?_;refine Aj ?_;refine Mu (Dg (l':=x5 b5 b4::PK b4 (Vf w (i+1))::PK b2 YB::l) rfl rfl rfl (by rw[wQ hb h4];exact .there .here) (by simp;omega)) rfl rfl ?_;rintro _ _ ⟨rfl,rfl⟩;refine Aj ?_;exact BV (i+1) ⟨Af,λj hj h=>by by_cases e:j=i;subst e;exact .inl h4;exact hg j Af h⟩ Af ⟨rfl,rfl,rfl,rfl,by rw[uv (.inr (.inl Af))];rfl,rfl,trivial⟩ .refl
  by_cases h8:8<=i/\i<14
  ·obtain⟨h8,h14⟩:=h8;obtain⟨f1,f2⟩:=wR hb h8 h14;refine Aj ?_;refine Bb (AJ rfl rfl λl2 _=>pk (ai w i) ((i:Int)-8) Af Af Af l2) ?_;rw[show((i:Int)-8).toNat=i-8 by omega,f1];refine Aj ?_;exact BV (i+1) ⟨Af,λj hj h=>by by_cases e:j=i;subst e;exact .inr ⟨h8,h14⟩;exact hg j Af h⟩ Af ⟨rfl,rfl,rfl,rfl,rfl,rfl,trivial⟩ (by rw[ut Af];exact .refl)
  ·rw[nm hw h64 hb Af];by_cases h8':i<8;all_goals
    refine Aj ?_;exact qr
theorem qN(hu: ∀w,w∈W->Kr w)(a:Int):Kr (NZ W a).1:=by
 unfold NZ
 split
 ·rw[List.getD];cases h:W[(a/8).toNat]? with
  |none=>exact⟨by decide,by decide⟩
  |some w=>exact hu w (A6 h)
 ·show Kr 0;exact⟨by decide,by decide⟩
theorem np(w:Int):0<=(Ks w).1.fr/\(Ks w).1.fr<64:=by
 unfold Ks
 split
 ·simp only[cZ];omega
 ·exact⟨by decide,by decide⟩
theorem Sm(b gb F:Nat)(W:List Int)(h1:F<=64)(hW:W.length=F*8)(hu: ∀w,w∈W->Kr w)(a:Int)(a0:0<=a)(a1:a<18446744073709551616)(leaf:Bool)(l:List Ab)(m1:Oj b gb F∈l)(m2:Se gb W∈l):Fn prog 306 [pV b,Ba a,.bool leaf] l λv l'=>v= .tuple #[WO (G8 W a leaf).1,iV (G8 W a leaf).2]/\l'=l:=by
 obtain⟨n,hn,hn6⟩: ∃n:Nat,(NZ W a).1=n/\n<18446744073709551616:=⟨(NZ W a).1.toNat,by have:=qN hu a;omega,by have:=qN hu a;omega⟩
 have hF:nF W=F:=by unfold nF;omega
 unfold G8;rw[hF,hn];refine AM func306 ntmps306 λE=>?_;refine AO λb6=>?_;refine Bb (AJ rfl rfl λl2 hl=>ah b gb F W h1 hW a a0 a1 l2 (hl _ (.tail _ m1)) (hl _ (.tail _ m2))) ?_;rw[hn];by_cases he:(NZ W a).2=0
 case neg=>rw[Ad he];refine Aj ?_;exact qr
 rw[Ac (FL he)];refine Aj ?_;refine Bb (AJ rfl rfl λl2 hl=>WS n hn6 l2) ?_;obtain⟨x,hx⟩: ∃x,(Ks n).1=x:=⟨_,rfl⟩
 obtain⟨e,he2⟩: ∃e,(Ks n).2=e:=⟨_,rfl⟩
 rw[hx,he2];refine Aj ?_;refine AP e_alloc ?_;rintro _ _ ⟨b10,_,rfl,rfl⟩;by_cases h0:e=0
 case neg=>rw[Ad h0];refine Aj ?_;exact qr
 rw[Ac (FL h0)];cases hv:x.vd with
 |false=>rw[Ad rfl];refine Aj ?_;rw[hv];refine Aj ?_;exact qr
 |true=>
 rw[Ac AX];refine Aj ?_;rw[hv];refine Aj ?_;refine HU ?_;by_cases hl:x.lf=leaf
 case neg=>
  rw[Ad (.inl hl)];have:(x.lf==leaf)=false:=by simpa using hl
  refine BM ?_;rw[this];refine BM ?_;refine Aj ?_;exact qr
 have:(x.lf==leaf)=true:=by simpa using hl
 refine BM ?_;rw[this];refine BM ?_;refine pq (λl2 hl2=>Qc b gb F l2 (hl2 _ (.tail _ (.tail _ m1)))) ?_;by_cases hf:x.fr>=F
 ·rw[Ad (.inr hf)];refine BM ?_;refine Aj ?_;exact qr
 ·rw[Ac (by rintro(h|h)<;>contradiction)];refine BM ?_;refine Aj ?_;exact qr
theorem iH(b gb F:Nat)(W:List Int)(hF:nF W=F)(root page lv:Int)(l:List Ab)(m1:Oj b gb F∈l):Fn prog 338 [pV b,.int .i64 root,.int .i64 page,.int .i64 lv] l λv l'=>v=iV (Sh W root page lv)/\l'=l:=by
 unfold Sh;rw[hF];refine AM func338 ntmps338 λE=>?_;by_cases h1:root<0
 ·rw[Ad (.inl h1)];refine Aj ?_;exact qr
 refine Aj ?_;refine tq (λl2 hl=>Qc b gb F l2 (hl _ m1)) ?_;by_cases hb:root>=F\/page<0\/page>=512\/lv<1\/lv>3
 ·rw[Ad (.inr hb)];by_cases h2:root>=F<;>by_cases h3:page<0<;>by_cases h4:page>=512<;>by_cases h5:lv<1<;>by_cases h6:lv>3;all_goals first
   |(exfalso;omega)
   |(refine Aj ?_
     exact qr)
 ·rw[Ac Af];refine Aj ?_;exact qr
theorem iI(b:Nat)(root page:Int)(l:List Ab):Fn prog 339 [pV b,.int .i64 root,.int .i64 page] l λv l'=> ∃B3 B4 B5,v= .func (.func 373) #[] #[pV B4,pV B5,pV B3]/\l'=BJ B5 page::BJ B4 root::VG B3 b::l:=by refine AM func339 ntmps339 λE=>?_;refine AO λb3=>?_;refine AO λb4=>?_;refine AO λb5=>?_;exact A9 .refl ⟨_,_,_,rfl,rfl⟩
abbrev sV(x:Int×Int×Int):List Value:=[iV x.1,.agg (toArray [Ba x.2.1,iV x.2.2])]
abbrev Qp(B:Nat)(x:Int×Int):Ab:=(B,.cells (toArray [Ba x.1,iV x.2]) 511 (0,0))
theorem PU(h1:0<=pg)(h2:pg<512)(h3:1<=lv)(h4:lv<=3):0<=mW pg lv/\mW pg lv<8:=by
 unfold mW;rw[Ac Af]
 (repeat' split)<;>omega
theorem QP{lf:Bool}:0<=(G8 W a lf).1.fr/\(G8 W a lf).1.fr<64:=by
 unfold G8
 (repeat' split)
 all_goals first|exact⟨by decide,by decide⟩|exact np _
theorem pn{root:Int}(h:¬(G8 W (FP root page 1) false).2=0):Mi W root page=[(1,FP root page 1,0),(2,0,(G8 W (FP root page 1) false).2)]:=by unfold Mi;rw[Ad h]
theorem po{root:Int}{x y:SZ}(h:G8 W (FP root page 1) false=(x,0))(h2:¬(G8 W (FP x.fr page 2) false).2=0):Mi W root page=[(1,FP root page 1,0),(2,FP x.fr page 2,0),(3,0,(G8 W (FP x.fr page 2) false).2)]:=by unfold Mi;rw[h,Ac (by simp),Ad h2]
theorem pu{root:Int}{x y:SZ}(h:G8 W (FP root page 1) false=(x,0))(h2:G8 W (FP x.fr page 2) false=(y,0)):Mi W root page=[(1,FP root page 1,0),(2,FP x.fr page 2,0),(3,FP y.fr page 3,0)]:=by unfold Mi;rw[h,Ac (by simp),h2,Ac (by simp)]
theorem dg(B3 B4 B5 b gb F:Nat)(W:List Int)(h1:F<=64)(hW:W.length=F*8)(hu: ∀w,w∈W->Kr w)(root page:Int)(r0:0<=root)(r1:root<64)(p0:0<=page)(p1:page<512):
 Fa prog 373 [pV B4,pV B5,pV B3] sV (λxs=>xs=Mi W root page) (λpre=>pre<+:Mi W root page)
  (λ_ l=>BJ B5 page∈l/\BJ B4 root∈l/\VG B3 b∈l/\Oj b gb F∈l/\Se gb W∈l):=by
 refine⟨λr I Ix G0 hneed hY l G hG h0=>?_⟩;obtain⟨n1,n2,n3,n4,n5⟩:=hneed _ _ G hG h0;have i1:=PU p0 p1 (lv:=1) Af Af;have i2:=PU p0 p1 (lv:=2) Af Af;have i3:=PU p0 p1 (lv:=3) Af Af;refine AM func373 ntmps373 λE=>?_;refine Aj ?_;refine Hu 3 ?_;refine Aj ?_;refine El ?_;refine AO λb7=>?_;have hp1:[((1:Int),FP root page 1,(0:Int))]<+:Mi W root page:=by unfold Mi;exact⟨_,rfl⟩
 have hy:=hY [] (1,FP root page 1,0) l (Qp b7 (FP root page 1,0)::G) (λc hc=> .tail _ (hG c hc)) h0 hp1;refine Bk (Keep.of_perm AH.symm) ?_;refine Ia (CQ rfl rfl hy) rfl rfl rfl ?_;rintro v _ ⟨l1,rfl,⟨rfl,hI⟩|⟨rfl,hx⟩⟩
 case' inr=>
  refine Aj ?_;exact A9 (Keep.appL l1 (.drop .refl)) ⟨l1,rfl,.inr ⟨_,hp1,hx⟩⟩
 obtain⟨n1,n2,n3,n4,n5⟩:=hneed _ _ (Qp b7 (FP root page 1,0)::G) (λc hc=> .tail _ (hG c hc)) hI;have q7:Qp b7 (FP root page 1,0)∈l1++Qp b7 (FP root page 1,0)::G:=Aa _ (.head _);refine Aj ?_;refine tq (λl2 hl=>Sm b gb F W h1 hW hu (FP root page 1) (by unfold FP;omega) (by unfold FP;omega) false l2 (hl _ n4) (hl _ n5)) ?_;have xr:=QP (W:=W) (a:=FP root page 1) (lf:=false);obtain⟨x,hx⟩: ∃x,(G8 W (FP root page 1) false).1=x:=⟨_,rfl⟩
 obtain⟨e,he⟩: ∃e,(G8 W (FP root page 1) false).2=e:=⟨_,rfl⟩
 rw[hx] at xr;rw[hx,he];refine AO λb8=>?_;by_cases e0:e=0
 case neg=>
  have hs:=pn (W:=W) (root:=root) (page:=page) (by rw[he];exact e0);rw[he] at hs;have hp2:[(1,FP root page 1,0),(2,0,e)]<+:Mi W root page:=by rw[hs];exact⟨[],rfl⟩
  have hy2:=hY [(1,FP root page 1,0)] (2,0,e) l1 ((b8,Obj.cells (toArray (Sg x)) 390 (0,0))::Qp b7 (FP root page 1,0)::G) (λc hc=> .tail _ (.tail _ (hG c hc))) hI hp2;refine Aj ?_;refine Bk (Keep.of_perm AH.symm) ?_;refine Ia (CQ rfl rfl hy2) rfl rfl rfl ?_;rintro v _ ⟨l2,rfl,⟨rfl,hI2⟩|⟨rfl,hx2⟩⟩
  ·refine Aj ?_;exact A9 (Keep.appL l2 (.drop (.drop .refl))) ⟨l2,rfl,.inl ⟨_,hs.symm,hI2⟩⟩
  ·refine Aj ?_;exact A9 (Keep.appL l2 (.drop (.drop .refl))) ⟨l2,rfl,.inr ⟨_,hp2,hx2⟩⟩
 have h1e:G8 W (FP root page 1) false=(x,0):=Gn hx (he.trans e0);subst e0;have g8:(b8,Obj.cells (toArray (Sg x)) 390 (0,0))∈(b8,Obj.cells (toArray (Sg x)) 390 (0,0))::(l1++Qp b7 (FP root page 1,0)::G):= .head _;refine Aj ?_;refine EI ?_;refine Aj ?_;rw[show(1:Int)+1=2 from rfl];refine El ?_;refine AO λb9=>?_;have hp2:[(1,FP root page 1,0),(2,FP x.fr page 2,0)]<+:Mi W root page:=by unfold Mi;rw[h1e,Ac (by simp)];exact⟨_,rfl⟩
 obtain⟨T,hT⟩: ∃T,T=(b8,Obj.cells (toArray (Sg x)) 390 (0,0))::Qp b7 (FP root page 1,0)::G:=⟨_,rfl⟩
 have hTG: ∀c,c∈G->c∈T:=λc hc=>by rw[hT];exact .tail _ (.tail _ hc)
 have hy2:=hY [(1,FP root page 1,0)] (2,FP x.fr page 2,0) l1 (Qp b9 (FP x.fr page 2,0)::T) (λc hc=> .tail _ (hTG c (hG c hc))) hI hp2;refine Bk (l':=l1++Qp b9 (FP x.fr page 2,0)::T) (by rw[hT];exact Keep.in_mid [_,_] l1 _) ?_;refine Ia (CQ rfl rfl hy2) rfl rfl rfl ?_;rintro v _ ⟨l2,rfl,⟨rfl,hI2⟩|⟨rfl,hx2⟩⟩
 case' inr=>
  refine Aj ?_;exact A9 (Keep.appL l2 (by rw[hT];exact .drop (.drop (.drop .refl)))) ⟨l2,rfl,.inr ⟨_,hp2,hx2⟩⟩
 obtain⟨n1,n2,n3,n4,n5⟩:=hneed _ _ (Qp b9 (FP x.fr page 2,0)::T) (λc hc=> .tail _ (hTG c (hG c hc))) hI2;have q9:Qp b9 (FP x.fr page 2,0)∈l2++Qp b9 (FP x.fr page 2,0)::T:=Aa _ (.head _);refine Aj ?_;refine tq (λl3 hl=>Sm b gb F W h1 hW hu (FP x.fr page 2) (by unfold FP;omega) (by unfold FP;omega) false l3 (hl _ n4) (hl _ n5)) ?_;have yr:=QP (W:=W) (a:=FP x.fr page 2) (lf:=false);obtain⟨y,hy⟩: ∃y,(G8 W (FP x.fr page 2) false).1=y:=⟨_,rfl⟩
 obtain⟨e,he⟩: ∃e,(G8 W (FP x.fr page 2) false).2=e:=⟨_,rfl⟩
 rw[hy] at yr;rw[hy,he];refine AO λb10=>?_;by_cases e0:e=0
 case neg=>
  have hs:=po (y:=y) h1e (by rw[he];exact e0);rw[he] at hs;have hp3:[(1,FP root page 1,0),(2,FP x.fr page 2,0),(3,0,e)]<+:Mi W root page:=by rw[hs];exact⟨[],rfl⟩
  have hy3:=hY [(1,FP root page 1,0),(2,FP x.fr page 2,0)] (3,0,e) l2 ((b10,Obj.cells (toArray (Sg y)) 390 (0,0))::Qp b9 (FP x.fr page 2,0)::T) (λc hc=> .tail _ (.tail _ (hTG c (hG c hc)))) hI2 hp3;refine Aj ?_;refine Bk (Keep.of_perm AH.symm) ?_;refine Ia (CQ rfl rfl hy3) rfl rfl rfl ?_;rintro v _ ⟨l3,rfl,⟨rfl,hI3⟩|⟨rfl,hx3⟩⟩
  ·refine Aj ?_;exact A9 (Keep.appL l3 (by rw[hT];exact .drop (.drop (.drop (.drop .refl))))) ⟨l3,rfl,.inl ⟨_,hs.symm,hI3⟩⟩
  ·refine Aj ?_;exact A9 (Keep.appL l3 (by rw[hT];exact .drop (.drop (.drop (.drop .refl))))) ⟨l3,rfl,.inr ⟨_,hp3,hx3⟩⟩
 have h2e:G8 W (FP x.fr page 2) false=(y,0):=Gn hy (he.trans e0);subst e0;have hs:=pu h1e h2e;refine Aj ?_;refine EI ?_;refine Aj ?_;rw[show(2:Int)+1=3 from rfl];refine El ?_;refine AO λb11=>?_;have hp3:[(1,FP root page 1,0),(2,FP x.fr page 2,0),(3,FP y.fr page 3,0)]<+:Mi W root page:=by rw[hs];exact⟨[],rfl⟩
 have hy3:=hY [(1,FP root page 1,0),(2,FP x.fr page 2,0)] (3,FP y.fr page 3,0) l2 (Qp b11 (FP y.fr page 3,0)::(b10,Obj.cells (toArray (Sg y)) 390 (0,0))::Qp b9 (FP x.fr page 2,0)::T) (λc hc=> .tail _ (.tail _ (.tail _ (hTG c (hG c hc))))) hI2 hp3;refine Bk (l':=l2++Qp b11 (FP y.fr page 3,0)::(b10,Obj.cells (toArray (Sg y)) 390 (0,0))::Qp b9 (FP x.fr page 2,0)::T) (Keep.in_mid [_,_] l2 _) ?_;refine Ia (CQ rfl rfl hy3) rfl rfl rfl ?_;have hK: ∀l3,Keep (l3++Qp b11 (FP y.fr page 3,0)::(b10,Obj.cells (toArray (Sg y)) 390 (0,0))::Qp b9 (FP x.fr page 2,0)::T) (l3++G):=λl3=>Keep.appL l3 (by rw[hT];exact .drop (.drop (.drop (.drop (.drop .refl)))));rintro v _ ⟨l3,rfl,⟨rfl,hI3⟩|⟨rfl,hx3⟩⟩
 ·refine Aj ?_;exact A9 (hK l3) ⟨l3,rfl,.inl ⟨_,hs.symm,hI3⟩⟩
 ·refine Aj ?_;exact A9 (hK l3) ⟨l3,rfl,.inr ⟨_,hp3,hx3⟩⟩
theorem qO{root:Int}(h:¬Sh W root page lv=0):Sh W root page lv=3:=by
 unfold Sh at h⊢
 split
 ·rfl
 ·rename_i hc;rw[Ac hc] at h;exact absurd rfl h
abbrev Vg(lv:Int)(x:Int×Int×Int):Bool:=decide (x.1=lv)||!decide (x.2.2=0)
theorem nq(W:List Int)(root page lv:Int)(h1:1<=lv)(h3:lv<=3): ∃x,x∈Mi W root page/\Vg lv x=true:=by
 by_cases e1:(G8 W (FP root page 1) false).2=0
 case neg=>rw[pn e1];exact⟨_,.tail _ (.head _),by simp[Vg,e1]⟩
 have p1:G8 W (FP root page 1) false=((G8 W (FP root page 1) false).1,0):=Gn rfl e1;by_cases e2:(G8 W (FP (G8 W (FP root page 1) false).1.fr page 2) false).2=0
 case neg=>rw[po (y:=YB) p1 e2];exact⟨_,.tail _ (.tail _ (.head _)),by simp[Vg,e2]⟩
 rw[pu p1 (Gn rfl e2)];obtain rfl|rfl|rfl:lv=1\/lv=2\/lv=3:=by omega
 ·exact⟨_,.head _,rfl⟩
 ·exact⟨_,.tail _ (.head _),rfl⟩
 ·exact⟨_,.tail _ (.tail _ (.head _)),rfl⟩
theorem WT{q:α->Bool}{xs pre:List α}{x:α}(hp:pre++[x]<+:xs)(hn: ∀y,y∈pre->q y=false)(hx:q x=true):xs.find? q=some x:=by obtain⟨r,rfl⟩:=hp;rw[Am,Dm,By.2 (λy hy=>by rw[hn y hy];decide)];simp[hx]
theorem Vh(b gb F:Nat)(W:List Int)(h1:F<=64)(hW:W.length=F*8)(hu: ∀w,w∈W->Kr w)(root page lv:Int)(l:List Ab)(m1:Oj b gb F∈l)(m2:Se gb W∈l):Fn prog 299 [pV b,.int .i64 root,.int .i64 page,.int .i64 lv] l λv l'=>v= .tuple #[Ba (PA W root page lv).1,iV (PA W root page lv).2]/\l'=l:=by
 have hF:nF W=F:=by unfold nF;omega
 unfold PA;refine AM func299 ntmps299 λE=>?_;refine AO λb7=>?_;refine tq (λl2 hl=>iH b gb F W hF root page lv l2 (hl _ (.tail _ m1))) ?_;by_cases hb:Sh W root page lv=0
 case neg=>have h3:Sh W root page lv=3:=qO hb;rw[Ad hb,h3];refine Aj ?_;exact qr
 rw[Ac (FL hb),hb];obtain⟨r0,r1,p0,p1,v1,v3⟩:0<=root/\root<F/\0<=page/\page<512/\1<=lv/\lv<=3:=by
  unfold Sh at hb;rw[hF] at hb
  split at hb<;>omega
 obtain⟨z,hz,hz2⟩:=nq W root page lv v1 v3;refine AO λb11=>?_;refine AP (Az rfl rfl (iI b root page _)) ?_;rintro _ _ ⟨B3,B4,B5,rfl,rfl⟩;refine Aj ?_;refine C0 (α:=Int×Int×Int) (ps:=[26,27]) (lb:=[pV B4,pV B5,pV B3]) rfl (dg B3 B4 B5 b gb F W h1 hW hu root page r0 Af p0 p1) (λ_=>rfl) rfl
  (λpre l=>(∀x,x∈pre->Vg lv x=false)/\ ∃y,l=[BJ B5 page,BJ B4 root,VG B3 b,Qp b11 y,BJ b7 lv])
  (λc pre l=>c= .exit 0/\ ∃pre' x,pre=pre'++[x]/\(∀x,x∈pre'->Vg lv x=false)/\Vg lv x=true/\l=[BJ B5 page,BJ B4 root,VG B3 b,Qp b11 x.2,BJ b7 lv])
  [BJ B5 page,BJ B4 root,VG B3 b,Qp b11 (0,0),BJ b7 lv] l (λpre l2 X2 hX h=>by obtain⟨y,rfl⟩:=h.2;exact⟨Ah _ (by exact BS),Ah _ (by exact BS),Ah _ (by exact BS),Aa _ (hX _ m1),Aa _ (hX _ m2)⟩) (by exact AS) ⟨λ_ h=>(nomatch h),(0,0),rfl⟩ ?_ ?_ ?_
 ·rintro E r0 rec pre ⟨x1,x2,x3⟩ l' T ⟨fn,tmps,D,rfl⟩ hT ⟨hn,⟨y1,y2⟩,rfl⟩ hsp;simp only[DG,Ae,Ag];refine AO λb13=>?_;refine Cy (by exact DI) ?_;refine Aj ?_;by_cases h1:x1=lv
  ·refine Aj ?_;exact EE [BJ B5 page,BJ B4 root,VG B3 b,Qp b11 (x2,x3),BJ b7 lv] (by exact AS) ⟨rfl,_,_,rfl,hn,by simp[Vg,h1],rfl⟩
  by_cases h2:x3=0
  ·refine Aj ?_;exact B0 [BJ B5 page,BJ B4 root,VG B3 b,Qp b11 (x2,x3),BJ b7 lv] (by exact AS) ⟨λz hz=>by
    rcases AE.1 hz with hz|hz
    ·exact hn z hz
    ·rw[Ax.1 hz];simp[Vg,h1,h2],_,rfl⟩
  ·refine Aj ?_;exact EE [BJ B5 page,BJ B4 root,VG B3 b,Qp b11 (x2,x3),BJ b7 lv] (by exact AS) ⟨rfl,_,_,rfl,hn,by simp[Vg,h2],rfl⟩
 ·rintro D xs l' rfl ⟨hn,_⟩;rw[hn z hz] at hz2;cases hz2
 ·rintro D c pre l' hsp ⟨rfl,pre',⟨x1,x2,x3⟩,rfl,hn,hx,rfl⟩;simp only[Ae,Ag];rw[WT hsp hn hx];refine Aj ?_;refine HU ?_;refine BM ?_;refine Aj ?_;exact AW [D] _ rfl (l':=l) (by exact AS) (by exact A8) (by exact AS) ⟨rfl,rfl⟩
theorem wS{f:Int}(h0:0<=f)(h1:f<64)(h2:0<=mW pg lv/\mW pg lv<8):Kr (FP f pg lv):=⟨by unfold FP;omega,by unfold FP;omega⟩
theorem uw{root:Int}(r0:0<=root)(r1:root<64)(p0:0<=page)(p1:page<512): ∀x,x∈Mi W root page->Kr x.2.1:=by
 have i1:=PU p0 p1 (lv:=1) Af Af;have i2:=PU p0 p1 (lv:=2) Af Af;have i3:=PU p0 p1 (lv:=3) Af Af;intro x hx;have e1:=QP (W:=W) (a:=FP root page 1) (lf:=false);have e2:=QP (W:=W) (a:=FP (G8 W (FP root page 1) false).1.fr page 2) (lf:=false);unfold Mi at hx;have z:Kr 0:=⟨by decide,by decide⟩
 rcases Ap.1 hx with rfl|hx
 ·exact wS r0 r1 i1
 split at hx
 ·rw[Ax.1 hx];exact z
 rcases Ap.1 hx with rfl|hx
 ·exact wS e1.1 e1.2 i2
 split at hx
 ·rw[Ax.1 hx];exact z
 ·rw[Ax.1 hx];exact wS e2.1 e2.2 i3
theorem iJ(hW:W.length<=512){root:Int}:Kr (PA W root page lv).1:=by
 have z:Kr 0:=⟨by decide,by decide⟩
 unfold PA
 split
 ·exact z
 ·rename_i hb;have hb:Sh W root page lv=0:=by simpa using hb
  unfold Sh at hb
  split at hb
  ·cases hb
  rename_i hc;have:nF W<=64:=by unfold nF;omega
  split
  ·rename_i x hx;exact uw Af Af Af Af x (Bz hx)
  ·exact z
theorem dh(b gb F:Nat)(W:List Int)(h1:F<=64)(hW:W.length=F*8)(hu: ∀w,w∈W->Kr w)(root page:Int)(l:List Ab)(m1:Oj b gb F∈l)(m2:Se gb W∈l):Fn prog 228 [pV b,.int .i64 root,.int .i64 page] l λv l'=>v= .tuple #[WO (Nu W root page).1,iV (Nu W root page).2]/\l'=l:=by
 unfold Nu;refine AM func228 ntmps228 λE=>?_;refine AO λb6=>?_;refine tq (λl2 hl=>Vh b gb F W h1 hW hu root page 3 l2 (hl _ (.tail _ m1)) (hl _ (.tail _ m2))) ?_;by_cases h0:(PA W root page 3).2=0
 case neg=>rw[Ad h0];refine Aj ?_;exact qr
 rw[Ac (FL h0)];refine Aj ?_;have ar:=iJ (W:=W) Af (root:=root) (page:=page) (lv:=3);refine tq (λl2 hl=>Sm b gb F W h1 hW hu (PA W root page 3).1 ar.1 ar.2 true l2 (hl _ (.tail _ m1)) (hl _ (.tail _ m2))) ?_;refine Aj ?_;exact qr
abbrev fg(B b:Nat):Ab:=(B,.cells (toArray [pV b]) 308 (0,0))
theorem Uh(b:Nat)(l:List Ab):Fn prog 305 [pV b] l λv l'=> ∃B,v= .func (.func 343) #[] #[pV B]/\l'=fg B b::l:=by refine AM func305 ntmps305 λE=>?_;refine AO λb1=>?_;exact A9 .refl ⟨_,rfl,rfl⟩
theorem Vi(T:KA)(s:Nat):(bU T s).length=11:=by simp[bU]
theorem OH(T:KA)(hs:s<4)(hf:f<11):(toArray (QG T))[s*11+f]?=(bU T s)[f]?:=by
 rw[AC];unfold QG;have h: ∀j,(bU T j).length=11:=Vi T;obtain rfl|rfl|rfl|rfl:s=0\/s=1\/s=2\/s=3:=by omega
 ·rw[AF (by rw[h];omega),Gb,BC]
 ·rw[AU (by rw[h];omega),AF (by rw[h,h];omega),h];congr 1;omega
 ·rw[AU (by rw[h];omega),AU (by rw[h,h];omega),AF (by rw[h,h,h];omega),h,h];congr 1;omega
 ·rw[AU (by rw[h];omega),AU (by rw[h,h];omega),AU (by rw[h,h,h];omega),h,h,h];congr 1;omega
def IP(k:Nat):Nat:=k/2*11+k%2*5
theorem Sn(T:KA)(hk:k<8)(hf:f<5):(toArray (QG T))[IP k+f]?=(PG (T.w k))[f]?:=by
 unfold IP;rw[show k/2*11+k%2*5+f=k/2*11+(k%2*5+f) by omega,OH T Af Af];unfold bU;rcases Nat.mod_two_eq_zero_or_one k with h|h
 ·rw[h,Gb,BC,show 2*(k/2)=k by omega,AF (by simp;omega)]
 ·rw[h,AU (by simp),AF (by simp;omega),show 2*(k/2)+1=k by omega];congr 1;simp
abbrev aj(T:KA)(k:Nat):Bool:=!decide ((T.w k).sp=0)
theorem N1(q:Nat->Bool)(h:k<=8):(List.range k).filter q<+:(List.range 8).filter q:=by
 obtain⟨j,hj⟩: ∃j,8=k+j:=⟨8-k,Af⟩
 rw[hj,List.range_add,Dr];exact⟨_,rfl⟩
theorem Vj(h:q k=false):(List.range (k+1)).filter q=(List.range k).filter q:=by rw[Cu,Dr];simp[h]
theorem QQ(h:q k=true):(List.range (k+1)).filter q=(List.range k).filter q++[k]:=by rw[Cu,Dr];simp[h]
abbrev wT(B b:Nat)(T:KA)(pre:List Nat)(l:List Ab):Prop:=fg B b∈l/\ ∃T':KA,MU b T'∈l/\ ∀j,j<8->(∀x,x∈pre->x<j)->T'.w j=T.w j
theorem So(B b:Nat)(T:KA):Fa prog 343 [pV B] (λk:Nat=>[.pointer (some ⟨b,IP k,none⟩)]) (λxs=>xs=Lg T) (λpre=>pre<+:Lg T) (wT B b T):=by
 refine⟨λr I Ix G0 hneed hY l G hG h0=>?_⟩;have key: ∀k l,k<8->I ((List.range k).filter (aj T)) l->fg B b∈l++G/\ ∃T':KA,MU b T'∈l++G/\(toArray (QG T'))[IP k+0]?=some (.int .i64 (T.w k).sp):=λk l hk hI=>by
  obtain⟨n1,T',n2,n3⟩:=hneed _ _ G hG hI;have e:=n3 k hk λx hx=>by have:=(Ci.1 hx).1;simpa using this
  exact⟨n1,T',n2,by rw[Sn T' hk AX,e];rfl⟩
 have hy: ∀k l,k<8->aj T k=true->I ((List.range k).filter (aj T)) l->_:=λk l hk hn hI=>hY _ k l G hG hI (by rw[<-QQ hn];exact N1 _ hk);refine AM func343 ntmps343 λE=>?_;have n1:=(hneed _ _ G hG h0).1;refine Aj ?_;refine CE (α:=Nat×List Ab) (λx=>[(0,.func (.yield r) #[] #[]),(1,pV B),(7,.int .i64 (x.1:Nat))]) (λx=>x.2++G) (λx=>x.1<=4/\I ((List.range (2*x.1)).filter (aj T)) x.2) (λx=>4-x.1) (0,l) ⟨Bl _,h0⟩ ⟨rfl,rfl,rfl,trivial⟩ .refl ?_;clear n1 h0;rintro⟨s,l⟩ ⟨hs,hI⟩;simp only at hs hI⊢;by_cases h4:s<4
 case neg=>
  obtain rfl:s=4:=by omega
  refine Aj ?_;exact A9 .refl ⟨l,rfl,.inl ⟨_,rfl,hI⟩⟩
 have o1:IP (2*s)=s*11+Int.toNat 0*5:=by unfold IP;first|(simp;done)|(simp;omega)
 have o2:IP (2*s+1)=s*11+Int.toNat (0+1)*5:=by unfold IP;first|(simp;done)|(simp;omega)
 obtain⟨n1,T',n2,n3⟩:=key (2*s) l Af hI;rw[CH,o1] at n3;have hy1:=hy (2*s) l Af;have hy2:=λl=>hy (2*s+1) l Af;rw[o1] at hy1;rw[o2] at hy2;refine Aj ?_;refine Hu 2 ?_;refine Aj ?_;by_cases hz:(T.w (2*s)).sp=0
 ·have hI2:I ((List.range (2*s+1)).filter (aj T)) l:=by rw[Vj (by simpa[aj] using hz)];exact hI
  refine Aj ?_;refine EI ?_;obtain⟨n1,T',n2,n3⟩:=key (2*s+1) l Af hI2;rw[CH,o2] at n3;refine Aj ?_;by_cases hz2:(T.w (2*s+1)).sp=0
  ·refine Aj ?_;refine EI ?_;refine Aj ?_;exact BV (s+1,l) ⟨by simp only;omega,by simp only;rw[show 2*(s+1)=2*s+1+1 by omega,Vj (by simpa[aj] using hz2)];exact hI2⟩ (by simp only;omega) ⟨rfl,rfl,rfl,trivial⟩ .refl
  ·have hn:aj T (2*s+1)=true:=by simpa[aj] using hz2
   refine Aj ?_;refine Ia (CQ rfl rfl (hy2 l hn hI2)) rfl rfl rfl ?_;rw[<-QQ hn];rintro v _ ⟨l1,rfl,⟨rfl,hI3⟩|⟨rfl,hx⟩⟩
   ·refine Aj ?_;refine EI ?_;refine Aj ?_;exact BV (s+1,l1) ⟨by simp only;omega,hI3⟩ (by simp only;omega) ⟨rfl,rfl,rfl,trivial⟩ .refl
   ·refine Aj ?_;exact BA [] rfl .refl (by exact A8) ⟨l1,rfl,.inr ⟨_,N1 _ Af,hx⟩⟩
 ·have hn:aj T (2*s)=true:=by simpa[aj] using hz
  refine Aj ?_;refine Ia (CQ rfl rfl (hy1 hn hI)) rfl rfl rfl ?_;rw[<-QQ hn];rintro v _ ⟨l1,rfl,⟨rfl,hI2⟩|⟨rfl,hx⟩⟩
  case' inr=>
   refine Aj ?_;exact BA [] rfl .refl (by exact A8) ⟨l1,rfl,.inr ⟨_,N1 _ Af,hx⟩⟩
  refine Aj ?_;refine EI ?_;obtain⟨n1,T',n2,n3⟩:=key (2*s+1) l1 Af hI2;rw[CH,o2] at n3;refine Aj ?_;by_cases hz2:(T.w (2*s+1)).sp=0
  ·refine Aj ?_;refine EI ?_;refine Aj ?_;exact BV (s+1,l1) ⟨by simp only;omega,by simp only;rw[show 2*(s+1)=2*s+1+1 by omega,Vj (by simpa[aj] using hz2)];exact hI2⟩ (by simp only;omega) ⟨rfl,rfl,rfl,trivial⟩ .refl
  ·have hn:aj T (2*s+1)=true:=by simpa[aj] using hz2
   refine Aj ?_;refine Ia (CQ rfl rfl (hy2 l1 hn hI2)) rfl rfl rfl ?_;rw[<-QQ hn];rintro v _ ⟨l2,rfl,⟨rfl,hI3⟩|⟨rfl,hx⟩⟩
   ·refine Aj ?_;refine EI ?_;refine Aj ?_;exact BV (s+1,l2) ⟨by simp only;omega,hI3⟩ (by simp only;omega) ⟨rfl,rfl,rfl,trivial⟩ .refl
   ·refine Aj ?_;exact BA [] rfl .refl (by exact A8) ⟨l2,rfl,.inr ⟨_,N1 _ Af,hx⟩⟩
theorem pw(T:KA)(hk:k<8):(toArray (QG T)).extract (IP k) (IP k+5)=toArray (PG (T.w k)):=by
 apply Dq;intro j;rw[EX];have hs:(toArray (QG T)).size=44:=by simp[QG,Vi]
 by_cases h:j<5
 ·rw[Ad (by rw[hs];unfold IP;omega),Sn T hk h,AC]
 ·rw[Ac Af,AC,Bc (by simp;omega)]
theorem Jz(T:KA):(toArray (QG T)).size=44:=by simp[QG,Vi]
theorem QR(h:k<8):IP k+5<=44:=by unfold IP;omega
theorem px{A A':List Value}(h:A.length=A'.length)(hf:A.length<=f):(A++B)[f]?=(A'++B)[f]?:=by rw[AU hf,AU (h▸hf),h]
theorem py{A B':List Value}(hf:f<A.length):(A++B)[f]?=(A++B')[f]?:=by rw[AF hf,AF hf]
theorem WU(T:KA)(hk:k<8)(x:Lm):CV (toArray (QG T)) (IP k) (PG x)=toArray (QG (Pj T k x)):=by
 apply Dq;intro j;rw[Rt,Jz];have hl:=QR hk;have hx:(PG x).length=5:=rfl;rw[hx];by_cases hj:j<44
 case neg=>rw[Ac Af,AC,AC,Bc (by have:=Jz T;simp at this;omega),Bc (by have:=Jz (Pj T k x);simp at this;omega)]
 obtain⟨s,f,rfl,hs,hf⟩: ∃s f,j=s*11+f/\s<4/\f<11:=⟨j/11,j%11,Af,Af,Af⟩
 rw[OH _ hs hf,OH _ hs hf];have e1:(Pj T k x).d=T.d:=rfl;have e2: ∀i,(Pj T k x).w i=if i=k then x else T.w i:=λi=>rfl
 unfold bU;rw[e1,e2,e2];by_cases hin:IP k<=s*11+f/\s*11+f<IP k+5
 ·rw[Ad ⟨hin.1,Af,Af⟩];unfold IP at hin⊢;obtain rfl:s=k/2:=by omega
  rcases Nat.mod_two_eq_zero_or_one k with h|h
  ·rw[h] at hin⊢;rw[Ad Af,AF (by simp;omega)];congr 1;omega
  ·rw[h] at hin⊢;rw[Ac Af,Ad Af,AU (by simp;omega),AF (by simp;omega)];congr 1;simp;omega
 ·rw[Ac Af];unfold IP at hin;by_cases a:2*s=k
  ·rw[Ad a,Ac Af];exact px rfl (by simp;omega)
  ·by_cases c:2*s+1=k
   ·rw[Ac a,Ad c];by_cases hf5:f<5
    ·exact py (by simp;omega)
    ·rw[<-Am,<-Am];exact px rfl (by simp;omega)
   ·rw[Ac a,Ac c]
abbrev Kn(B:Nat)(x:Lm):Ab:=(B,.cells (toArray (PG x)) 302 (0,0))
abbrev qP(x:Lm):Value:= .agg (toArray (PG x))
abbrev VI(B:Nat)(x:Bool):Ab:=(B,.cells (toArray [.bool x]) 4 (0,0))
theorem di(b:Nat)(T:KA)(sp pg:Int)(l:List Ab)(m1:MU b T∈l):Fn prog 227 [pV b,.int .i64 sp,.int .i64 pg] l λv l'=>v= .tuple #[qP (Si T sp pg).1,.bool (Si T sp pg).2]/\l'=l:=by
 unfold Si;refine AM func227 ntmps227 λE=>?_;refine AO λb4=>?_;refine AO λb5=>?_;refine AO λb6=>?_;refine AO λb7=>?_;refine AP (Az rfl rfl (Uh b _)) ?_;rintro _ _ ⟨B,rfl,rfl⟩;refine Aj ?_;refine C0 (α:=Nat) (ps:=[11]) (lb:=[pV B]) rfl (So B b T) (λ_=>rfl) rfl
  (λpre l=>(∀k,k∈pre->(decide ((T.w k).sp=sp)&&decide ((T.w k).pg=pg))=false)/\l=[fg B b,VI b7 false,Kn b6 Pz,BJ b5 pg,BJ b4 sp])
  (λc pre l=>c= .ret/\ ∃pre' k,pre=pre'++[k]/\(∀k,k∈pre'->(decide ((T.w k).sp=sp)&&decide ((T.w k).pg=pg))=false)/\(decide ((T.w k).sp=sp)&&decide ((T.w k).pg=pg))=true/\l=[VI b7 true,Kn b6 (T.w k)])
  [fg B b,VI b7 false,Kn b6 Pz,BJ b5 pg,BJ b4 sp] l (λpre l2 X2 hX h=>⟨by rw[h.2];exact Ah _ (.head _),T,Aa _ (hX _ m1),λ_ _ _=>rfl⟩) (by exact AS) ⟨λ_ h=>(nomatch h),rfl⟩ ?_ ?_ ?_
 ·rintro E r0 rec pre k l' X ⟨fn,tmps,D,rfl⟩ hX ⟨hn,rfl⟩ hsp;have hk:k<8:=by
   have h3:k∈Lg T:=hsp.subset (by simp);have:=(Ci.1 h3).1;simpa using this
  have mX:=hX _ m1;have c0:=Sn T hk (f:=0) AX;have c1:=Sn T hk (f:=1) AX;simp only[DG,Ae,Ag,CH] at c0 c1⊢;refine Aj ?_;refine Cy (by exact DI) ?_;refine Aj ?_;refine HU ?_;have c0:(toArray (QG T))[IP k]?=some (.int .i64 (T.w k).sp):=c0;have c1:(toArray (QG T))[IP k+1]?=some (.int .i64 (T.w k).pg):=c1;by_cases h1:(T.w k).sp=sp
  case neg=>
   refine BM ?_;refine Aj ?_;exact B0 [fg B b,VI b7 false,Kn b6 Pz,BJ b5 pg,BJ b4 sp] (by exact AS) ⟨λz hz=>by
    rcases AE.1 hz with hz|hz
    ·exact hn z hz
    ·rw[Ax.1 hz];simp[h1],rfl⟩
  by_cases h2:(T.w k).pg=pg
  case neg=>
   refine BM ?_;refine Aj ?_;exact B0 [fg B b,VI b7 false,Kn b6 Pz,BJ b5 pg,BJ b4 sp] (by exact AS) ⟨λz hz=>by
    rcases AE.1 hz with hz|hz
    ·exact hn z hz
    ·rw[Ax.1 hz];simp[h2],rfl⟩
  refine BM ?_;refine Aj ?_;refine Bb (Dn (n:=5) rfl (by first|exact .tail _ (.tail _ (.tail _ (.tail _ (.tail _ (.tail _ mX)))))) (by rw[Jz];exact QR hk) (pw T hk)) ?_;refine Aj ?_;exact Eg [VI b7 true,Kn b6 (T.w k)] (by exact AS) ⟨rfl,pre,k,rfl,hn,by simp[h1,h2],rfl⟩
 ·rintro D xs l' rfl ⟨hn,rfl⟩;rw[By.2 λy hy=>by rw[hn y hy];decide];simp only[Ae,Ag];refine Aj ?_;exact AW [D] _ rfl (l':=l) (by exact AS) (by exact A8) (by exact AS) ⟨rfl,rfl⟩
 ·rintro D c pre l' hsp ⟨rfl,pre',k,rfl,hn,hx,rfl⟩;rw[WT hsp hn hx];simp only[Ae,Ag];refine Aj ?_;exact AW [D] _ rfl (l':=l) (by exact AS) (by exact A8) (by exact AS) ⟨rfl,rfl⟩
theorem YM(b:Nat)(T:KA)(st wy:Int)(F:List Ab):Fn prog 165 [pV b,.int .i64 st,.int .i64 wy] (MU b T::F) λv l'=>v= .bool (Mj T st wy).1/\l'=MU b (Mj T st wy).2::F:=by
 unfold Mj;refine AM func165 ntmps165 λE=>?_;by_cases hb:st<0\/st>=4\/wy<0\/wy>=2
 ·rw[Ad hb];by_cases h1:st<0<;>by_cases h2:st>=4<;>by_cases h3:wy<0<;>by_cases h4:wy>=2;all_goals first
   |(exfalso;omega)
   |(refine Aj ?_
     exact qr)
 rw[Ac hb];obtain⟨s,rfl⟩: ∃q:Nat,st=q:=⟨st.toNat,Af⟩
 obtain⟨w,rfl⟩: ∃q:Nat,wy=q:=⟨wy.toNat,Af⟩
 have hk:2*s+w<8:=by omega
 have ho:s*11+w*5=IP (2*s+w):=by unfold IP;omega
 have c0:=Sn T hk (f:=0) AX;have c0:(toArray (QG T))[s*11+w*5]?=some (.int .i64 (T.w (2*s+w)).sp):=by rw[ho];exact c0
 rw[AY,AY];refine Aj ?_;refine Mu (Et (n:=5) (l':=MU b (Pj T (2*s+w) Pz)::F) rfl rfl rfl (by simp[Value.oneCell']) (by rw[show(toArray _).toList=PG Pz from rfl,ho,WU T hk];exact .here) (by rw[Jz,ho];exact QR hk)) rfl rfl ?_;rintro _ _ ⟨rfl,rfl⟩;refine Aj ?_;exact BA [] rfl .refl (by exact A8) ⟨by simp[Iw],rfl⟩
def dropL(T:KA)(f:Lm->Bool)(pre:List Nat):KA:={T with w:=λk=>if k∈pre/\f (T.w k)=true then Pz else T.w k}
abbrev ux(B gf:Nat)(cs:List Value):Ab:=(B,.cells (toArray [.func (.func gf) #[] (toArray cs)]) 541 (0,0))
theorem Sq{f:Lm->Bool}{pre:List Nat}:dropL T f (pre++[k])=if f (T.w k)=true then Pj (dropL T f pre) k Pz else dropL T f pre:=by
 unfold dropL Pj
 split
 ·rename_i h;congr 1;funext j;simp only[Qu.upd,AE,Ax];by_cases e:j=k
  ·subst e;simp[h]
  ·simp[e]
 ·rename_i h;congr 1;funext j;simp only[AE,Ax];by_cases e:j=k
  ·subst e;simp[h]
  ·simp[e]
theorem dk(T:KA)(f:Lm->Bool):dropL T f (Lg T)=On T f:=by unfold dropL On;congr 1;funext k;unfold mY Lg;simp[Ci,and_assoc]
theorem Ui(b:Nat)(T:KA)(gf:Nat)[EN prog gf](cs:List Value)(f:Lm->Bool)(R F:List Ab)(hR: ∀c,c∈R->c∈F)(hf: ∀x l2,(∀c,c∈R->c∈l2)->Fn prog gf (qP x::cs) l2 λv l'=>v= .bool (f x)/\l'=l2):
 Fn prog 376 [pV b,.func (.func gf) #[] (toArray cs)] (MU b T::F) λv l'=>v=iV (Mx T f:Nat)/\l'=MU b (On T f)::F:=by
 refine AM func376 ntmps376 λE=>?_;refine AO λb3=>?_;refine AO λb5=>?_;refine AP (Az rfl rfl (Uh b _)) ?_;rintro _ _ ⟨B,rfl,rfl⟩;refine Aj ?_;refine C0 (α:=Nat) (ps:=[9]) (lb:=[pV B]) rfl (So B b T) (λ_=>rfl) rfl
  (λpre l=>l=[fg B b,BJ b5 ((pre.filter λk=>f (T.w k)).length:Nat),ux b3 gf cs,MU b (dropL T f pre)])
  (λc pre l=>False)
  [fg B b,BJ b5 0,ux b3 gf cs,MU b T] F (λpre l2 X2 hX h=>by
   subst h;refine⟨Ah _ (.head _),dropL T f pre,Ah _ (.tail _ (.tail _ (.tail _ (.head _)))),λj _ hj=>?_⟩;have:¬j∈pre:=λhm=>by have:=hj j hm;omega
   simp[dropL,this]) (by exact AS) (by simp[dropL]) ?_ ?_ ?_
 ·rintro E r0 rec pre k l' X ⟨fn,tmps,D,rfl⟩ hX rfl hsp;have hk:k<8:=by
   have h3:k∈Lg T:=hsp.subset (by simp);have:=(Ci.1 h3).1;simpa using this
  have hkn:¬k∈pre:=λhm=>by have h3:=(List.nodup_range (n:=8)).filter (λk=>!decide ((T.w k).sp=0));have h4:=h3.sublist hsp.sublist;exact absurd rfl ((Bu.1 h4).2.2 k hm k (by simp))
  have ew:(dropL T f pre).w k=T.w k:=by simp[dropL,hkn]
  have hl:=QR hk;have hx:=pw (dropL T f pre) hk;rw[ew] at hx;simp only[DG,Ae,Ag];refine Aj ?_;refine Cy (by exact DI) ?_;refine Aj ?_;refine Cn (Ck [] 0 5) ?_;refine ZR ?_;refine V8 ?_;refine V8 ?_;refine ZR ?_ (Dn (n:=5) rfl (.tail _ (.tail _ (.tail _ (.head _)))) (by rw[Jz];exact hl) hx);refine ZR ?_ (Fh rfl rfl λl2 hl2=>hf (T.w k) l2 λc hc=>hl2 _ (.tail _ (.tail _ (.tail _ (.tail _ (.tail _ (hX _ (hR _ hc))))))));refine PF ?_;have hc: ∀n:Nat,((pre++[k]).filter λk=>f (T.w k)).length=n->n=(pre.filter λk=>f (T.w k)).length+if f (T.w k)=true then 1 else 0:=λn h=>by rw[<-h,Dr,Ai];simp[E4];split<;>rfl
  cases hfk:f (T.w k) with
  |false=>refine Aj ?_;exact B0 [fg B b,BJ b5 ((pre.filter λk=>f (T.w k)).length:Nat),ux b3 gf cs,MU b (dropL T f pre)] (by exact AS) (by rw[Sq,Ac (by rw[hfk];decide),hc _ rfl,Ac (by rw[hfk];decide)];rfl)
  |true=>
   have hpl:=(hsp.length_le:(pre++[k]).length<=_)
   have hpl2:(Lg T).length<=8:=CU _ _;have hpf:=CU (λk=>f (T.w k)) pre;rw[Ai] at hpl;refine Aj ?_;refine Mu (Et (n:=5) (b:=b) (off:=IP k) (cs:=toArray (QG (dropL T f pre))) (l':=fg B b::BJ b5 ((pre.filter λk=>f (T.w k)).length:Nat)::ux b3 gf cs::MU b (Pj (dropL T f pre) k Pz)::_) rfl rfl rfl (by simp[Value.oneCell']) (by rw[show(toArray _).toList=PG Pz from rfl,WU _ hk];exact DI) (by rw[Jz];exact hl)) rfl rfl ?_;rintro _ _ ⟨rfl,rfl⟩;refine Aj ?_;exact B0 [fg B b,BJ b5 (((pre.filter λk=>f (T.w k)).length:Nat)+1),ux b3 gf cs,MU b (Pj (dropL T f pre) k Pz)] (by exact AS) (by rw[Sq,Ad hfk,hc _ rfl,Ad hfk];rfl)
 ·rintro D xs l' rfl rfl;have hd:((Lg T).filter λk=>f (T.w k)).length=Mx T f:=by
   unfold Mx Lg mY;rw[List.filter_filter];congr 1;exact List.filter_congr λk hk=>by rw[At (by simpa using hk:k<8),Bp,Bool.and_comm]
  rw[hd,dk];simp only[Ae,Ag];refine Aj ?_;exact AW [D] _ rfl (l':=MU b (On T f)::F) (by exact AS) (by exact A8) (by exact AS) ⟨rfl,rfl⟩
 ·rintro D c pre l' hsp h;exact h.elim
theorem nr(b4 b5:Nat)(sp pg:Int)(x:Lm)(l:List Ab)(m4:BJ b4 sp∈l)(m5:BJ b5 pg∈l):Fn prog 377 [qP x,pV b4,pV b5] l λv l'=>v= .bool (JI sp pg x)/\l'=l:=by
 refine AM func377 ntmps377 λE=>?_;refine Aj ?_
 (first|refine AP (Eb rfl rfl) ?_|refine AP (CK rfl) ?_);rintro _ _ ⟨b3,_,rfl,rfl⟩
 have m4':=An (Kn b3 x) m4;have m5':=An (Kn b3 x) m5;by_cases h1:x.sp=sp<;>by_cases h2:x.pg=pg;all_goals
  refine Aj ?_;refine qr (hx:=?_);simp[Iw,h1,h2]
theorem nt(b4:Nat)(sp:Int)(x:Lm)(l:List Ab)(m4:BJ b4 sp∈l):Fn prog 391 [qP x,pV b4] l λv l'=>v= .bool (PB sp x)/\l'=l:=by
 refine AM func391 ntmps391 λE=>?_;refine Aj ?_
 (first|refine AP (Eb rfl rfl) ?_|refine AP (CK rfl) ?_);rintro _ _ ⟨b3,_,rfl,rfl⟩
 have m4':=An (Kn b3 x) m4;refine Aj ?_;exact qr
theorem YN(b:Nat)(T:KA)(sp pg:Int)(F:List Ab):Fn prog 342 [pV b,.int .i64 sp,.int .i64 pg] (MU b T::F) λv l'=>v=iV (Mx T (JI sp pg):Nat)/\l'=MU b (On T (JI sp pg))::F:=by refine AM func342 ntmps342 λE=>?_;refine AO λb4=>?_;refine AO λb5=>?_;refine Bk (l':=MU b T::BJ b5 pg::BJ b4 sp::F) (.pick (.there (.there .here)) .refl) ?_;refine AP (Az rfl rfl (Ui b T _ [pV b4,pV b5] (JI sp pg) [BJ b5 pg,BJ b4 sp] (BJ b5 pg::BJ b4 sp::F) (by simp) λx l2 h2=>nr b4 b5 sp pg x l2 (h2 _ (.tail _ (.head _))) (h2 _ (.head _)))) ?_;rintro _ _ ⟨rfl,rfl⟩;refine Aj ?_;exact A9 (.pick .here (.drop (.drop .refl))) ⟨rfl,rfl⟩
theorem YO(b:Nat)(T:KA)(sp:Int)(F:List Ab):Fn prog 372 [pV b,.int .i64 sp] (MU b T::F) λv l'=>v=iV (Mx T (PB sp):Nat)/\l'=MU b (On T (PB sp))::F:=by refine AM func372 ntmps372 λE=>?_;refine AO λb4=>?_;refine Bk (l':=MU b T::BJ b4 sp::F) (.pick (.there .here) .refl) ?_;refine AP (Az rfl rfl (Ui b T _ [pV b4] (PB sp) [BJ b4 sp] (BJ b4 sp::F) (by simp) λx l2 h2=>nt b4 sp x l2 (h2 _ (.head _)))) ?_;rintro _ _ ⟨rfl,rfl⟩;refine Aj ?_;exact A9 (.pick .here (.drop .refl)) ⟨rfl,rfl⟩
theorem qQ(T:KA)(hs:s<4):(toArray (QG T))[s*11+10]?=some (.int .i64 (T.d s)):=by rw[OH T hs AX];simp[bU]
theorem uy(T:KA)(hs:s<4)(v:Int):(toArray (QG T)).setIfInBounds (s*11+10) (.int .i64 v)=toArray (QG {T with d:=Qu.upd T.d s v}):=by
 apply Dq;intro j;rw[Array.getElem?_setIfInBounds,Jz];by_cases hj:j<44
 case neg=>rw[Ac Af,AC,AC,Bc (by have:=Jz T;simp at this;omega),Bc (by have:=Jz {T with d:=Qu.upd T.d s v};simp at this;omega)]
 obtain⟨r,f,rfl,hr,hf⟩: ∃r f,j=r*11+f/\r<4/\f<11:=⟨j/11,j%11,Af,Af,Af⟩
 rw[OH _ hr hf,OH _ hr hf];unfold bU;by_cases e:s*11+10=r*11+f
 ·obtain⟨rfl,rfl⟩:r=s/\f=10:=by omega
  rw[Ad rfl,Ad Af];simp[Qu.upd]
 ·rw[Ac e];by_cases e2:r=s
  ·subst e2;rw[<-Am,<-Am];exact py (by simp;omega)
  ·simp[Qu.upd,e2]
theorem qR(T:KA)(hs:s<4):(toArray (QG T)).extract (s*11) (s*11+10)=toArray (PG (T.w (2*s))++PG (T.w (2*s+1))):=by
 apply Dq;intro j;rw[EX,Jz];by_cases h:j<10
 ·rw[Ad Af,OH T hs Af,AC];unfold bU;rw[<-Am,AF (by simp;omega)]
 ·rw[Ac Af,AC,Bc (by simp;omega)]
theorem qS{x:Lm}(hb:¬Tk x)(e4:(x.pg%4).toNat=s)(hk:k<2)(hn: ∀j,j<k->¬((T.w (2*s+j)).sp=x.sp/\(T.w (2*s+j)).pg=x.pg))(h:(T.w (2*s+k)).sp=x.sp/\(T.w (2*s+k)).pg=x.pg):JM T x=(0,Pj T (2*s+k) x):=by
 have:YC T x=some (2*s+k):=by
  unfold YC;simp only[e4];rcases k with _|_|k
  ·rw[CH] at h;rw[Ad h];rfl
  ·have h0:=hn 0 Af;rw[CH] at h0;rw[Ac h0,Ad h]
  ·omega
 unfold JM;rw[Ac hb,this]
theorem qT{x:Lm}(hb:¬Tk x)(e4:(x.pg%4).toNat=s)(hk:k<2)(hn: ∀j,j<2->¬((T.w (2*s+j)).sp=x.sp/\(T.w (2*s+j)).pg=x.pg))(hz: ∀j,j<k->¬(T.w (2*s+j)).sp=0)(h:(T.w (2*s+k)).sp=0):JM T x=(0,Pj T (2*s+k) x):=by
 have:YC T x=some (2*s+k):=by
  have n0:=hn 0 Af;rw[CH] at n0;unfold YC;simp only[e4];rw[Ac n0,Ac (hn 1 Af)];rcases k with _|_|k
  ·rw[CH] at h;rw[Ad h];rfl
  ·have h0:=hz 0 Af;rw[CH] at h0;rw[Ac h0,Ad h]
  ·omega
 unfold JM;rw[Ac hb,this]
theorem qU{x:Lm}(hb:¬Tk x)(e4:(x.pg%4).toNat=s)(hn: ∀j,j<2->¬((T.w (2*s+j)).sp=x.sp/\(T.w (2*s+j)).pg=x.pg))(hz: ∀j,j<2->¬(T.w (2*s+j)).sp=0):JM T x=(0,Pj {T with d:=Qu.upd T.d s ((T.d s+1)%2)} (2*s+(T.d s).toNat) x):=by
 have:YC T x=none:=by have n0:=hn 0 Af;rw[CH] at n0;have h0:=hz 0 Af;rw[CH] at h0;unfold YC;simp only[e4];rw[Ac n0,Ac (hn 1 Af),Ac h0,Ac (hz 1 Af)]
 unfold JM;rw[Ac hb,this];simp only[e4];rfl
theorem dl(b:Nat)(T:KA)(hd: ∀s,s<4->T.d s=0\/T.d s=1)(x:Lm)(F:List Ab):Fn prog 229 [pV b,qP x] (MU b T::F) λv l'=>v=iV (JM T x).1/\l'=MU b (JM T x).2::F:=by
 refine AM func229 ntmps229 λE=>?_;refine Aj ?_
 (first|refine AP (Eb rfl rfl) ?_|refine AP (CK rfl) ?_);rintro _ _ ⟨b3,_,rfl,rfl⟩
 by_cases hb:Tk x
 ·rw[show JM T x=(2,T) by unfold JM;rw[Ad hb]];unfold Tk at hb;refine Aj ?_;iterate 7
   all_goals first
    |(refine tC rfl rfl rfl rfl (λ_=>?_) (λ_=>?_))
    |(refine tD rfl rfl rfl rfl (λ_=>?_) (λ_=>?_))
    |(refine fI rfl (λ_=>?_) (λ_=>?_))
    |skip
   all_goals refine Aj ?_
  all_goals first
   |exact qr
   |(exfalso;rcases hb with h|h|h|h|h|h<;>first|omega|(simp_all;done))
 obtain⟨z1,z2,z3,z4,z5,z6⟩:1<=x.sp/\0<=x.pg/\x.pg<512/\0<=x.fr/\x.fr<64/\¬(x.rd=false/\x.wr=false):=by unfold Tk at hb;refine⟨Af,Af,Af,Af,Af,λh=>hb ?_⟩;simp[h]
 obtain⟨s,hs,hs4⟩: ∃s:Nat,x.pg%4=s/\s<4:=⟨(x.pg%4).toNat,Af,Af⟩
 have hx:=qR T hs4;have hc0:=qQ T hs4;have e4:(x.pg%4).toNat=s:=by omega
 refine Aj ?_;refine tD rfl rfl rfl rfl (λh1=>?_) (λh1=>?_);all_goals refine Aj ?_
 case' refine_1=>refine fI rfl (λh2=>(by exfalso;simp_all)) (λh2=>?_)
 all_goals refine Aj ?_
 all_goals
  refine HU ?_;iterate 4 refine kP ?_
  rw[hs];refine BM ?_;refine Aj ?_;refine Bb (Gf (zs:=[.bool false,.bool false]) (cs:=[.bool false,.bool true]) rfl rfl) ?_;refine Aj ?_;refine Hu 2 ?_;refine Aj ?_;refine Bb (YK rfl rfl AX rfl) ?_;refine Aj ?_;refine Bb (Dn (n:=10) rfl (.tail _ (.head _)) (by rw[Jz];omega) hx) ?_;refine Aj ?_;refine CE (α:=Nat) (λk=>[(0,pV b),(3,pV b3),(5,.pointer (some ⟨b,s*11,none⟩)),(6,.int .i64 (-1)),(8,.bool false),(55,.agg (toArray [.bool false,.bool true])),(56,.int .i64 0),(62,.agg (toArray (PG (T.w (2*s))++PG (T.w (2*s+1))))),(63,.int .i64 (k:Nat))]) (λ_=>Kn b3 x::MU b T::F) (λk=>k<=2/\ ∀j,j<k->¬((T.w (2*s+j)).sp=x.sp/\(T.w (2*s+j)).pg=x.pg)) (λk=>2-k) 0 ⟨Af,λj hj=>by omega⟩ ⟨rfl,rfl,rfl,rfl,rfl,rfl,rfl,rfl,rfl,trivial⟩ .refl ?_;rintro k ⟨hk,hn⟩;by_cases hk2:k<2
  ·refine Aj ?_;refine Bb (YJ (i:=k) (ws:=PG (T.w (2*s+k))) rfl rfl hk2 (by rcases k with _|_|k<;>first|rfl|omega)) ?_;refine AO λb10=>?_;by_cases P:(T.w (2*s+k)).sp=x.sp/\(T.w (2*s+k)).pg=x.pg
   ·rw[qS hb e4 hk2 hn P];obtain⟨p0,q0⟩:=P;refine Aj ?_;refine Cn (Ck [6] 0 7) ?_;refine V8 ?_;refine V8 ?_;refine ZR ?_;iterate 3 refine V8 ?_
    refine fZ ?_ (Et (n:=5) (b:=b) (ws:=toArray (PG x)) (cs:=toArray (QG T)) rfl rfl rfl (by simp[Value.oneCell']) (by rw[show(toArray (PG x)).toList=PG x from rfl,show s*11+k*5=IP (2*s+k) by unfold IP;omega,WU T Af];exact DI) (by rw[Jz];omega));refine PF ?_;refine Aj ?_;exact qr
   have hn2: ∀j,j<k+1->¬((T.w (2*s+j)).sp=x.sp/\(T.w (2*s+j)).pg=x.pg):=λj hj=>by
    by_cases e:j=k
    ·subst e;exact P
    ·exact hn j Af
   have hp0:(T.w (2*s+k)).sp=x.sp->¬(T.w (2*s+k)).pg=x.pg:=λa c=>P ⟨a,c⟩;by_cases p0:(T.w (2*s+k)).sp=x.sp
   case' pos=>have q0:=hp0 p0
   all_goals
    refine Aj ?_;exact BV (k+1) ⟨Af,hn2⟩ Af ⟨rfl,rfl,rfl,rfl,rfl,rfl,rfl,rfl,rfl,trivial⟩ (.drop .refl)
  obtain rfl:k=2:=by omega
  refine Aj ?_;refine EI ?_;refine Aj ?_;rw[show(0:Int)+1=1 from rfl];refine Bb (YK (i:=1) rfl rfl AX rfl) ?_;refine Aj ?_;refine Bb (Dn (n:=10) rfl (.tail _ (.head _)) (by rw[Jz];omega) hx) ?_;refine Aj ?_;refine CE (α:=Nat) (λk=>[(0,pV b),(3,pV b3),(5,.pointer (some ⟨b,s*11,none⟩)),(6,.int .i64 (-1)),(8,.bool true),(55,.agg (toArray [.bool false,.bool true])),(56,.int .i64 1),(62,.agg (toArray (PG (T.w (2*s))++PG (T.w (2*s+1))))),(63,.int .i64 (k:Nat))]) (λ_=>Kn b3 x::MU b T::F) (λk=>k<=2/\ ∀j,j<k->¬(T.w (2*s+j)).sp=0) (λk=>2-k) 0 ⟨Af,λj hj=>by omega⟩ ⟨rfl,rfl,rfl,rfl,rfl,rfl,rfl,rfl,rfl,trivial⟩ .refl ?_;rintro k ⟨hk,hz⟩;by_cases hk2:k<2
  ·refine Aj ?_;refine Bb (YJ (i:=k) (ws:=PG (T.w (2*s+k))) rfl rfl hk2 (by rcases k with _|_|k<;>first|rfl|omega)) ?_;refine AO λb10=>?_;by_cases z0:(T.w (2*s+k)).sp=0
   ·rw[qT hb e4 hk2 hn hz z0];refine Aj ?_;refine Cn (Ck [6] 0 7) ?_;refine V8 ?_;refine V8 ?_;refine ZR ?_;iterate 3 refine V8 ?_
    refine fZ ?_ (Et (n:=5) (b:=b) (ws:=toArray (PG x)) (cs:=toArray (QG T)) rfl rfl rfl (by simp[Value.oneCell']) (by rw[show(toArray (PG x)).toList=PG x from rfl,show s*11+k*5=IP (2*s+k) by unfold IP;omega,WU T Af];exact DI) (by rw[Jz];omega));refine PF ?_;refine Aj ?_;exact qr
   ·refine Aj ?_;exact BV (k+1) ⟨Af,λj hj=>by by_cases e:j=k;subst e;exact z0;exact hz j Af⟩ Af ⟨rfl,rfl,rfl,rfl,rfl,rfl,rfl,rfl,rfl,trivial⟩ (.drop .refl)
  obtain rfl:k=2:=by omega
  rw[qU hb e4 hn hz];have hds:=hd s hs4;refine Aj ?_;refine EI ?_;refine Aj ?_;refine Mu (Dg (b:=b) (off:=s*11+10) (cs:=toArray (QG T)) (l':=Kn b3 x::MU b {T with d:=Qu.upd T.d s ((T.d s+1)%2)}::F) rfl rfl rfl (by rw[uy T hs4];exact DI) (by rw[Jz];omega)) rfl rfl ?_;rintro _ _ ⟨rfl,rfl⟩;refine Aj ?_;refine Cn (Ck [6] 0 7) ?_;refine V8 ?_;refine V8 ?_;refine ZR ?_;iterate 3 refine V8 ?_
  refine fZ ?_ (Et (n:=5) (b:=b) (ws:=toArray (PG x)) (cs:=toArray (QG {T with d:=Qu.upd T.d s ((T.d s+1)%2)})) rfl rfl rfl (by simp[Value.oneCell']) (by rw[show(toArray (PG x)).toList=PG x from rfl,show s*11+(T.d s).toNat*5=IP (2*s+(T.d s).toNat) by unfold IP;omega,WU {T with d:=Qu.upd T.d s ((T.d s+1)%2)} Af];exact DI) (by rw[Jz];omega));refine PF ?_;refine Aj ?_;exact qr
theorem iK{α:Type}{enc:α->List Value}{m j:Nat}(hm: ∀x,(enc x).length=m)(hj:j<m)(sp:List Value): ∀{L:List α} {i:Nat} {x:α},L[i]?=some x->(toArray (L.flatMap enc++sp))[i*m+j]?=(enc x)[j]?
 |a::L,0,x,h=>by cases h;rw[AC,Cr,Am,AF (by rw[hm];omega),Gb,BC]
 |a::L,i+1,x,h=>by
  have ih:=iK hm hj sp (L:=L) (i:=i) (x:=x) (by simpa using h);rw[AC] at ih⊢;have e:(i+1)*m+j-m=i*m+j:=by rw[E0];omega
  rw[Cr,Am,AU (by rw[hm,E0];omega),hm,e];exact ih
theorem iL{α:Type}{enc:α->List Value}{m j:Nat}{v:Value}(hm: ∀x,(enc x).length=m)(hj:j<m)(sp:List Value): ∀{L:List α} {i:Nat} {x x':α},L[i]?=some x->(enc x).set j v=enc x'->(L.flatMap enc++sp).set (i*m+j) v=(L.set i x').flatMap enc++sp
 |a::L,0,x,x',h,he=>by cases h;rw[Cr,Am,GQ _ _ (by rw[hm];omega),Gb,BC,he,E6,Cr,Am]
 |a::L,i+1,x,x',h,he=>by
  have ih:=iL hm hj sp (L:=L) (i:=i) (x:=x) (x':=x') (by simpa using h) he;have e:(i+1)*m+j-m=i*m+j:=by rw[E0];omega
  rw[Cr,Am,Cm _ _ (by rw[hm,E0];omega),hm,e,ih,HY,Cr,Am]
abbrev S6(gb:Nat)(ks:List (Ic×Nat))(sp:List Value):Ab:=(gb,.cells (toArray (ks.flatMap O3++sp)) 310 (0,0))
def ak(b gb cap:Nat)(sp:List Value)(ks:List (Ic×Nat)):List Ab:=Rv b (.slice (some ⟨gb,0,none⟩) ks.length cap)::S6 gb ks sp::F5 ks
abbrev Pk(ks:List (Ic×Nat)):Prop:= ∀c,c∈ks-> ∀s,s<4->c.1.tb.d s=0\/c.1.tb.d s=1
theorem Vk(ks:List (Ic×Nat)):(ks.flatMap O3).length=ks.length*3:=by
 induction ks with
 |nil=>rfl
 |cons c ks ih=>rw[Cr,Ai,ih,Br];simp;omega
theorem IsCos.form{K:List Ic}{lq:List Ab}(h:IsCos b K lq)(h1:1<=K.length): ∃gb cap sp ks,ks.map Prod.fst=K/\Pk ks/\lq=ak b gb cap sp ks/\ks.length<=cap/\cap<=maxLen/\ks.length*3+sp.length=cap*3:=by
 obtain⟨v,cs,ks,rfl,⟨ho,⟨_,h0,_⟩|⟨gb,cap,sp,rfl,rfl,z1,z2,z3⟩⟩,hd,rfl⟩:=h
 ·rw[A3] at h1;omega
 ·exact⟨gb,cap,sp,ks,rfl,hd,rfl,z1,z2,by rw[<-z3,Ai,ho]⟩
theorem IsCos.of(hd:Pk ks)(h1:ks.length<=cap)(h2:cap<=maxLen)(h3:ks.length*3+sp.length=cap*3):IsCos b (ks.map Prod.fst) (ak b gb cap sp ks):=
 ⟨_,_,ks,rfl,⟨Vk ks,.inr ⟨gb,cap,sp,rfl,rfl,h1,h2,by rw[Ai,Vk,h3]⟩⟩,hd,rfl⟩
section
variable{s:RL}
theorem uz{x:Value}{K':List Ic}(hK:IsK F C k S p s)(hk:k'<=k)(h: ∀gb cap sp ks G,ks.map Prod.fst=S.K->Pk ks->(∀c,c∈s.M->c∈G)->Fn prog f vs (ak p.c gb cap sp ks++G) λv l'=>v=x/\ ∃ks' X,ks'.map Prod.fst=K'/\Pk ks'/\ks'.length=ks.length/\l'=X++(ak p.c gb cap sp ks'++G)):Fn prog f vs (Aw b p s S G) (KK F C b p k' x {S with K:=K'} G):=by obtain⟨gb,cap,sp,ks,e1,hd,hC,h1,h2,h3⟩:=hK.co.form (by have:=hK.kl;have:=hK.c1;omega);exact Fn.re (.of_perm (by unfold Aw;rw[hC];exact BR)) (h gb cap sp ks (Cw b p::As.asA p.n S.N::(s.M++(s.A++(s.H++(s.T++(s.Q++(s.E++(s.V++G)))))))) e1 hd (λc hc=>by simp[hc])) λv l' ⟨g1,ks',X,g2,g3,g4,g5⟩=>⟨Aw b p {s with C:=ak p.c gb cap sp ks'} {S with K:=K'} (X++G),by rw[g5];unfold Aw;exact A4 [],g1,{s with C:=ak p.c gb cap sp ks'},_,{hK.mono hk with co:=by rw[<-g2];exact .of g3 (by rw[g4];exact h1) h2 (by rw[g4];exact h3),kl:=by rw[<-hK.kl,<-g2,<-e1,A3,A3,g4]},⟨X,rfl⟩,rfl⟩
theorem iM:Rv b (.slice (some ⟨gb,0,none⟩) ks.length cap)∈ak b gb cap sp ks:= .head _
theorem uC:S6 gb ks sp∈ak b gb cap sp ks:= .tail _ (.head _)
theorem iN(b gb n cap:Nat)(l:List Ab)(m1:Rv b (.slice (some ⟨gb,0,none⟩) n cap)∈l):Fn prog 101 [pV b] l λv l'=>v=iV (n:Nat)/\l'=l:=by refine AM func101 ntmps101 λE=>?_;refine Aj ?_;exact qr
instance[h:IsK F C k S p s]:QF prog 101 [pV p.c] (Aw b p s S G) (iV (S.K.length:Nat)):=⟨λl hl=>by obtain⟨gb,cap,sp,ks,e1,hd,hC,h1,h2,h3⟩:=h.co.form (by have:=h.kl;have:=h.c1;omega);rw[<-e1,A3];exact iN p.c gb ks.length cap l (mC hl _ (by rw[hC];exact iM))⟩
abbrev dm(gb n:Nat)(i:Int):Value:= .pointer (if i<0\/i>=n then none else some ⟨gb,i.toNat*3,none⟩)
theorem QU(b gb n cap:Nat)(i:Int)(l:List Ab)(m1:Rv b (.slice (some ⟨gb,0,none⟩) n cap)∈l):Fn prog 164 [pV b,.int .i64 i] l λv l'=>v= .tuple #[dm gb n i,iV (if i<0\/i>=n then 3 else 0)]/\l'=l:=by
 unfold dm;refine AM func164 ntmps164 λE=>?_;by_cases h1:i<0
 ·rw[Ad (.inl h1),Ad (.inl h1)];refine Aj ?_;exact qr
 by_cases h2:i>=n
 ·rw[Ad (.inr h2),Ad (.inr h2)];refine Aj ?_;exact qr
 rw[Ac Af,Ac Af];obtain⟨i,rfl⟩: ∃q:Nat,i=q:=⟨i.toNat,Af⟩
 refine Aj ?_;exact qr
theorem iO(h:ks[i]?=some c)(hj:j<3)(he:(O3 c).set j v=O3 c'):(toArray (ks.flatMap O3++sp)).setIfInBounds (i*3+j) v=toArray ((ks.set i c').flatMap O3++sp):=by rw[Bt,iL (enc:=O3) (m:=3) (λ_=>rfl) hj sp h he]
theorem OI(h:ks[i]?=some c)(hj:j<3):(toArray (ks.flatMap O3++sp))[i*3+j]?=(O3 c)[j]?:=iK (enc:=O3) (m:=3) (λ_=>rfl) hj sp h
theorem Vm(h:Pk ks)(h2: ∀s,s<4->c'.1.tb.d s=0\/c'.1.tb.d s=1):Pk (ks.set i c'):=λc hc=>by
 rcases CC hc with h1|h1
 ·exact h c h1
 ·rw[h1];exact h2
theorem iP{r sp:Int}(h:ks[i]?=some c):F5 (ks.set i ({c.1 with ro:=r,sp:=sp},c.2))=F5 ks:=by
 unfold F5;rw[Hj];refine C9 λj=>?_;rw[GA]
 split
 ·rename_i e;subst e;have hl:=(Ay.1 h).1;rw[Ad (by rw[A3];exact hl),A0,h];rfl
 ·rfl
theorem iQ(hK:IsK F C k S p s)(n root sp:Int):Fn prog 112 [pV p.c,.int .i64 n,.int .i64 root,.int .i64 sp] (Aw b p s S G) (KK F C b p k (iV (setC S.K n root sp).1) {S with K:=(setC S.K n root sp).2} G):=by
 refine uz hK (A7 _) λgb cap sp' ks G e1 hd _=>?_;have hl:S.K.length=ks.length:=by rw[<-e1,A3]
 refine AM func112 ntmps112 λE=>?_;refine Aj ?_;refine tq (λl2 h2=>QU p.c gb ks.length cap n l2 (h2 _ (Ah _ iM))) ?_;unfold dm;by_cases hb:n<0\/n>=ks.length
 ·rw[Ad hb,Ad hb,show setC S.K n root sp=(3,S.K) by unfold setC Mk;rw[hl,Ad (by rw[Ad hb];decide)]];refine Aj ?_;exact A9 .refl ⟨rfl,ks,[],e1,hd,rfl,rfl⟩
 rw[Ac hb,Ac hb];have e0:¬¬Mk S.K n=0:=by unfold Mk;rw[hl,Ac hb];decide
 obtain⟨i,rfl⟩: ∃q:Nat,n=q:=⟨n.toNat,Af⟩
 by_cases hr:K5 root sp
 case neg=>
  rw[show setC S.K i root sp=(2,S.K) by unfold setC;rw[Ac e0,Ad hr]];unfold K5 at hr;by_cases h1:root= -1<;>by_cases h2:sp=0<;>by_cases h3:root<0<;>by_cases h4:root>=64<;>by_cases h5:sp<1;all_goals first
   |(exfalso;omega)
   |(refine Aj ?_
     try(rw[show(!decide (sp=0))=true by simp[h2]];refine Aj ?_)
     exact A9 .refl ⟨rfl,ks,[],e1,hd,rfl,rfl⟩)
 have hi:i<ks.length:=by omega
 have h0:ks[i]?=some ks[i]:=Al hi;obtain⟨c,hc⟩: ∃c,ks[i]=c:=⟨_,rfl⟩
 rw[hc] at h0;have hcg:PC S.K (i:Nat)=c.1:=by unfold PC;rw[AY,<-e1,List.getD,A0,h0];rfl
 rw[show setC S.K i root sp=(0,S.K.set i {c.1 with ro:=root,sp:=sp}) by unfold setC;rw[Ac e0,Ac (FL hr),hcg,AY]];have s0:=iO (sp:=sp') (v:=iV root) (c':=({c.1 with ro:=root},c.2)) h0 (j:=0) AX rfl;have g1:(ks.set i ({c.1 with ro:=root},c.2))[i]?=some ({c.1 with ro:=root},c.2):=by rw[DR hi]
 have s1:=iO (sp:=sp') (v:=iV sp) (c':=({c.1 with ro:=root,sp:=sp},c.2)) g1 (j:=1) AX rfl;rw[JQ] at s1;have hds:Pk (ks.set i ({c.1 with ro:=root,sp:=sp},c.2)):=Vm hd λs hs=>hd c (by rw[<-hc];exact Hg hi) s hs;have hmp:(ks.set i ({c.1 with ro:=root,sp:=sp},c.2)).map Prod.fst=S.K.set i {c.1 with ro:=root,sp:=sp}:=by rw[Hj,e1]
 have Nl:=iP (r:=root) (sp:=sp) h0;unfold K5 at hr;by_cases h1:root= -1<;>by_cases h2:sp=0<;>by_cases h3:root<0<;>by_cases h4:root>=64<;>by_cases h5:sp<1;all_goals first
  |(exfalso;omega)
  |(refine Aj ?_
    try(rw[show(!decide (sp=0))=false by simp[h2]];refine Aj ?_)
    try(rw[show(!decide (sp=0))=true by simp[h2]];refine Aj ?_)
    refine Mu (Dg (cs:=toArray (ks.flatMap O3++sp')) (l':=Rv p.c (.slice (some ⟨gb,0,none⟩) ks.length cap)::S6 gb (ks.set i ({c.1 with ro:=root},c.2)) sp'::(F5 ks++G)) (b:=gb) (off:=i*3) rfl rfl rfl (by rw[show i*3=i*3+0 from rfl,s0];exact .there .here) (by rw[Bn,Ai,Vk];(try rw[Cv]);omega)) rfl rfl ?_;rintro _ _ ⟨rfl,rfl⟩;refine Aj ?_;refine Mu (Dg (cs:=toArray ((ks.set i ({c.1 with ro:=root},c.2)).flatMap O3++sp')) (l':=Rv p.c (.slice (some ⟨gb,0,none⟩) ks.length cap)::S6 gb (ks.set i ({c.1 with ro:=root,sp:=sp},c.2)) sp'::(F5 ks++G)) (b:=gb) (off:=i*3+1) rfl rfl rfl (by rw[s1];exact .there .here) (by rw[Bn,Ai,Vk];(try rw[Cv]);omega)) rfl rfl ?_;rintro _ _ ⟨rfl,rfl⟩;refine Aj ?_;exact BA [] rfl .refl (by exact A8) ⟨rfl,_,[],hmp,hds,by simp,by unfold ak;rw[Nl,Cv];rfl⟩)
instance{n root sp:Int}:EK prog F C b p 112 [pV p.c,.int .i64 n,.int .i64 root,.int .i64 sp] k S k (iV (setC S.K n root sp).1) {S with K:=(setC S.K n root sp).2}:=⟨λs G h=>iQ h n root sp⟩
instance[h:IsK F C k S p s]{n:Int}:QF prog 257 [pV p.c,.int .i64 n] (Aw b p s S G) (.tuple #[iV (Oo S.K n).1,iV (Oo S.K n).2.1,iV (Oo S.K n).2.2]):=⟨λl hm=>by
 obtain⟨gb,cap,sp,ks,e1,hd,hC,h1,h2,h3⟩:=h.co.form (by have:=h.kl;have:=h.c1;omega);have hl:S.K.length=ks.length:=by rw[<-e1,A3]
 have m1:=mC hm _ (by rw[hC];exact iM);have m2:=mC hm _ (by rw[hC];exact uC);refine AM func257 ntmps257 λE=>?_;refine Aj ?_;refine tq (λl2 h2=>QU p.c gb ks.length cap n l2 (h2 _ m1)) ?_;unfold dm;by_cases hb:n<0\/n>=ks.length
 ·rw[Ad hb,Ad hb,show Oo S.K n=(0,0,3) by unfold Oo Mk;rw[hl,Ad (by rw[Ad hb];decide)]];refine Aj ?_;exact qr
 rw[Ac hb,Ac hb];obtain⟨i,rfl⟩: ∃q:Nat,n=q:=⟨n.toNat,Af⟩
 rw[AY];have hi:i<ks.length:=by omega
 obtain⟨c,h0⟩: ∃c,ks[i]?=some c:=⟨_,Al hi⟩
 have hcg:PC S.K (i:Nat)=c.1:=by unfold PC;rw[AY,<-e1,List.getD,A0,h0];rfl
 rw[show Oo S.K i=(c.1.ro,c.1.sp,0) by unfold Oo Mk;rw[hl,Ac (by rw[Ac hb];decide),hcg]];have c0:(toArray (ks.flatMap O3++sp))[i*3]?=some (iV c.1.ro):=OI h0 (j:=0) AX;have c1:(toArray (ks.flatMap O3++sp))[i*3+1]?=some (iV c.1.sp):=OI h0 (j:=1) AX;refine Aj ?_;refine HU ?_;refine BM ?_;refine Aj ?_;exact qr⟩
end
end Go.Proofs.YtlkgekpmileobaaGreat
