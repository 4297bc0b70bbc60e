/- Laws that the statement's proof leans on (joined out of several texts). -/
import Derived.Test.YtlkgekpmileobaaGreatGb6
import Derived.Test.YtlkgekpmileobaaGreatGb7
import Derived.Test.YtlkgekpmileobaaGreatGb1
set_option linter.unusedVariables false
set_option linter.unusedSimpArgs false
namespace Go.Proofs.YtlkgekpmileobaaGreat
open List(toArray)
open Go.RowKit
variable{p G H:Prop}{l l2 l' R:List Ab}{j N t n:Nat}{oj o:Oper}{P:Program}{ro:Option Nat}{fr:Fr}{w:Bool}{ops:Array Oper}{K K':Value->List Ab->Prop}{v:Value}{a b ks:List (Option IntKind)}{x xs:List Value}{α:Type}{E:World}{rest:List Oper}{ds:List Deferred}{ty:TypeId}{pos:String}{g:Option (Nat×Bool)}{y:Operand}
section
variable{Q:Exit->Act->World->Prop}{fr':Fr}{d:Nat}
theorem zq(h:p:=by first|(show OpQ _ _ _ _ _ ⟨_,.move _,_,_,_,_⟩ _;exact nB rfl)|(show OpQ _ _ _ _ _ ⟨_,.load _ _,_,_,_,_⟩ _;first|exact Dv rfl (by((repeat(first|with_reducible apply Ak|with_reducible apply An));try with_reducible assumption)) (by(first|with_reducible assumption|((with_reducible apply Ms);(repeat(first|with_reducible apply LGet.zero|with_reducible apply LGet.succ)))))|exact IR rfl (by((repeat(first|with_reducible apply Ak|with_reducible apply An));try with_reducible assumption)) (by(repeat(first|with_reducible apply LSub.done|with_reducible apply LSub.take|with_reducible apply LSub.drop))))|(show OpQ _ _ _ _ _ ⟨_,.fieldAddr _ _ _,_,_,_,_⟩ _;exact Vo rfl (by(first|with_reducible exact Bw _|with_reducible exact CN _|exact rfl)))|(show OpQ _ _ _ _ _ ⟨_,.nilCheck _,_,_,_,_⟩ _;first|exact W9 rfl|exact q_nilCheck_f rfl|exact q_nilCheck_y rfl)|(show OpQ _ _ _ _ _ ⟨_,.assign _,_,_,_,_⟩ _;exact dk rfl)|(show OpQ _ _ _ _ _ ⟨_,.indexAddr _ _ _,_,_,_,_⟩ _;first|exact Vp rfl rfl Af (by(first|with_reducible exact Bw _|with_reducible exact CN _|exact rfl))|exact Xa rfl rfl Af (by(first|with_reducible exact Bw _|with_reducible exact CN _|exact rfl))|exact QN rfl rfl Af|exact SU rfl rfl Af)|(show OpQ _ _ _ _ _ ⟨_,.binOp .eql _ _ _ _,_,_,_,_⟩ _;first|exact qA rfl rfl|exact jf rfl rfl|exact qE rfl rfl Tryz.underlying4|exact aw rfl rfl)|(show OpQ _ _ _ _ _ ⟨_,.binOp .add _ _ _ _,_,_,_,_⟩ _;exact qp rfl rfl (by first|exact Qa Af Af|exact Oi Af Af))|(show OpQ _ _ _ _ _ ⟨_,.binOp .lss _ _ _ _,_,_,_,_⟩ _;exact qw rfl rfl)|(show OpQ _ _ _ _ _ ⟨_,.pick _ _ _,_,_,_,_⟩ _;first|exact dl rfl rfl|exact dm rfl rfl)|(show OpQ _ _ _ _ _ ⟨_,.extract _ _,_,_,_,_⟩ _;exact aq rfl rfl)|(show OpQ _ _ _ _ _ ⟨_,.binOp .neq _ _ _ _,_,_,_,_⟩ _;first|exact qB rfl rfl|exact jg rfl rfl|exact qF rfl rfl Tryz.underlying4|exact q_nenilsl rfl rfl)|(show OpQ _ _ _ _ _ ⟨_,.binOp .geq _ _ _ _,_,_,_,_⟩ _;exact qz rfl rfl)|(show OpQ _ _ _ _ _ ⟨_,.binOp .gtr _ _ _ _,_,_,_,_⟩ _;exact qy rfl rfl)|(show OpQ _ _ _ _ _ ⟨_,.binOp .leq _ _ _ _,_,_,_,_⟩ _;exact qx rfl rfl)|(show OpQ _ _ _ _ _ ⟨_,.unOp .not _ _,_,_,_,_⟩ _;exact qD rfl)|(show OpQ _ _ _ _ _ ⟨_,.binOp .sub _ _ _ _,_,_,_,_⟩ _;exact lZ rfl rfl (by first|exact Qa Af Af|exact Oi Af Af))|(show OpQ _ _ _ _ _ ⟨_,.call {callee:= .builtin .len,args:=_,argTypes:=_},_,_,_,_⟩ _;first|exact du rfl|exact q_len_map rfl (by((repeat(first|with_reducible apply Ak|with_reducible apply An));try with_reducible assumption)))|(show OpQ _ _ _ _ _ ⟨_,.field _ _ _,_,_,_,_⟩ _;first|exact q_field rfl (by(first|with_reducible assumption|((with_reducible apply Ms);(repeat(first|with_reducible apply LGet.zero|with_reducible apply LGet.succ)))))|exact q_fieldL rfl (by(repeat(first|with_reducible apply LSub.done|with_reducible apply LSub.take|with_reducible apply LSub.drop))))|(show OpQ _ _ _ _ _ ⟨_,.build _ _,_,_,_,_⟩ _;exact YW rfl (by(repeat(first|apply BuildS.nil|(apply BuildS.one;(·infer_instance);(·infer_instance);(·rfl);(·(repeat(first|with_reducible apply LSet.zero|with_reducible apply LSet.succ))))|(apply BuildS.agg;(·infer_instance);(·infer_instance);(·rfl);(·(repeat(first|with_reducible apply LSetA.done|with_reducible apply LSetA.put|with_reducible apply LSetA.skip))))))))|(show OpQ _ _ _ _ _ ⟨_,.makeFunc _ _ _,_,_,_,_⟩ _;first|exact Xd rfl|exact q_makeFunc0)|(show OpQ _ _ _ _ _ ⟨_,.convert _ _ _,_,_,_,_⟩ _;exact nE rfl (by exact⟨Af,Af⟩))|(show OpQ _ _ _ _ _ ⟨_,.binOp .mul _ _ _ _,_,_,_,_⟩ _;exact qq rfl rfl (by first|exact Qa Af Af|exact Oi Af Af))|(show OpQ _ _ _ _ _ ⟨_,.binOp .quo _ _ _ _,_,_,_,_⟩ _;exact qt rfl rfl Af Af (by first|exact Qa Af Af|exact Oi Af Af))|(show OpQ _ _ _ _ _ ⟨_,.binOp .rem _ _ _ _,_,_,_,_⟩ _;exact qv rfl rfl Af Af)|(show OpQ _ _ _ _ _ ⟨_,.lookup _ _ _ _,_,_,_,_⟩ _;first|exact dC rfl rfl (by((repeat(first|with_reducible apply Ak|with_reducible apply An));try with_reducible assumption))|exact av rfl rfl (by((repeat(first|with_reducible apply Ak|with_reducible apply An));try with_reducible assumption)))|fail):p:=h
theorem ts(h:p:=by first|(apply FP;(·rfl);(·rfl);(·first|rfl|assumption);(·((repeat(first|with_reducible apply Ak|with_reducible apply An));try with_reducible assumption));(·(repeat(first|with_reducible apply LSet.zero|with_reducible apply LSet.succ)));(·(repeat(first|apply Upd.here|apply Upd.there))))|(apply SW;(·rfl);(·rfl);(·rfl);(·simp[Value.oneCell']);(·((repeat(first|with_reducible apply Ak|with_reducible apply An));try with_reducible assumption));(·(repeat(first|with_reducible apply LSetA.done|with_reducible apply LSetA.put|with_reducible apply LSetA.skip)));(·(repeat(first|apply Upd.here|apply Upd.there))))|fail):p:=h
theorem tt(h:l.Sublist l':=by(repeat(first|with_reducible apply Eb|with_reducible apply GV|with_reducible apply List.Sublist.cons_cons|with_reducible apply List.Sublist.cons))): ∀c,c∈l->c∈l':=λ_ hc=>h.subset hc
theorem sH(hk:Df P ro N E ops Q rest ((d,v)::fr) ds l)(h:OpQ P ro N fr l o v:=by exact zq)(hw:Pz ops fr o.guard=some true:=by rfl)(hd:o.dst=some d:=by rfl)(hb:Nat.blt d N=true:=by rfl):Df P ro N E ops Q (o::rest) fr ds l:=N9 h hw hd hb hk
theorem sI(hk:Df P ro N E ops Q rest ((d,undef)::fr) ds l)(hw:Pz ops fr o.guard=some false:=by rfl)(hd:o.dst=some d:=by rfl)(hb:Nat.blt d N=true:=by rfl):Df P ro N E ops Q (o::rest) fr ds l:=tk hw hd hb hk
theorem sJ{ip:Decidable p}(h:Df P ro N E ops Q (o::rest) ((t,.bool true)::fr) ds l)(hw:o.guard=some (j,w):=by rfl)(hj:ops[j]?=some oj:=by rfl)(hjd:oj.dst=some t:=by rfl)(hc:BP fr t=some (.bool (@decide p ip)):=by rfl)(hp:p:=by omega):Df P ro N E ops Q (o::rest) fr ds l:=YS hw hj hjd hc hp h
theorem sK{ip:Decidable p}(h:Df P ro N E ops Q (o::rest) ((t,.bool false)::fr) ds l)(hw:o.guard=some (j,w):=by rfl)(hj:ops[j]?=some oj:=by rfl)(hjd:oj.dst=some t:=by rfl)(hc:BP fr t=some (.bool (@decide p ip)):=by rfl)(hp:¬p:=by omega):Df P ro N E ops Q (o::rest) fr ds l:=YT hw hj hjd hc hp h
theorem tu(hk:Df P ro N E ops Q rest fr ds l2)(h:OpE P ro N fr l o (λv' l'=>v'=undef/\l'=l2):=by exact ts)(hw:o.guard=none:=by rfl)(hd:o.dst=none:=by rfl):Df P ro N E ops Q (o::rest) fr ds l:=LV h hw hd λv l' h=>by rw[h.2];exact hk
variable{tbl:List (List Nat)}{sw:Sw}{sp:Fd}{pl:List BC}{i:Nat}{k:Bool}
theorem iK(hk:PlanS P ro N E ops Q R tbl sw sp pl ((d,v)::fr) ds l)(h:OpQ P ro N fr R o v:=by exact zq)(hw:Pz ops fr o.guard=some true:=by rfl)(hd:o.dst=some d:=by rfl)(hb:Nat.blt d N=true:=by rfl):PlanS P ro N E ops Q R tbl sw sp ((i,true,o)::pl) fr ds l:=Vz h hw hd hb hk
theorem tv(hk:PlanS P ro N E ops Q R tbl none [] pl ((d,undef)::fr) ds l)(hR: ∀c,c∈R->c∈l:=by exact tt)(hw:Pz ops fr o.guard=some false:=by rfl)(hd:o.dst=some d:=by rfl)(hb:Nat.blt d N=true:=by rfl):PlanS P ro N E ops Q R tbl none [] ((i,k,o)::pl) fr ds l:=qL hR hw hd hb hk
theorem pY{ip:Decidable p}(h:PlanS P ro N E ops Q R tbl sw sp ((i,k,o)::pl) ((t,.bool true)::fr) ds l)(hw:o.guard=some (j,w):=by rfl)(hj:ops[j]?=some oj:=by rfl)(hjd:oj.dst=some t:=by rfl)(hc:BP fr t=some (.bool (@decide p ip)):=by rfl)(hp:p:=by omega):PlanS P ro N E ops Q R tbl sw sp ((i,k,o)::pl) fr ds l:=dz hw hj hjd hc hp h
theorem pZ{ip:Decidable p}(h:PlanS P ro N E ops Q R tbl sw sp ((i,k,o)::pl) ((t,.bool false)::fr) ds l)(hw:o.guard=some (j,w):=by rfl)(hj:ops[j]?=some oj:=by rfl)(hjd:oj.dst=some t:=by rfl)(hc:BP fr t=some (.bool (@decide p ip)):=by rfl)(hp:¬p:=by omega):PlanS P ro N E ops Q R tbl sw sp ((i,k,o)::pl) fr ds l:=dA hw hj hjd hc hp h
theorem mf(hk:PlanS P ro N E ops Q R tbl none [] pl fr ds l2)(h:OpE P ro N fr l o (λv' l'=>v'=undef/\l'=l2):=by exact ts)(hw:o.guard=none:=by rfl)(hd:o.dst=none:=by rfl)(hR: ∀c,c∈R->c∈l2:=by exact tt):PlanS P ro N E ops Q R tbl none [] ((i,false,o)::pl) fr ds l:=Mu h hw hd (λv l' h=>by rw[h.2];exact hR) λv l' h=>by rw[h.2];exact hk
theorem tx(hk:PlanS P ro N E ops Q R tbl none [] pl ((d,v)::fr) ds l)(h:OpQ P ro N fr l o v:=by first|(show OpQ _ _ _ _ _ ⟨_,.load _ _,_,_,_,_⟩ _;first|exact Dv rfl (by((repeat(first|with_reducible apply Ak|with_reducible apply An));try with_reducible assumption)) (by(first|with_reducible assumption|((with_reducible apply Ms);(repeat(first|with_reducible apply LGet.zero|with_reducible apply LGet.succ)))))|exact IR rfl (by((repeat(first|with_reducible apply Ak|with_reducible apply An));try with_reducible assumption)) (by(repeat(first|with_reducible apply LSub.done|with_reducible apply LSub.take|with_reducible apply LSub.drop))))|fail)(hw:o.guard=none:=by rfl)(hd:o.dst=some d:=by rfl)(hb:Nat.blt d N=true:=by rfl)(hR: ∀c,c∈R->c∈l:=by exact tt):PlanS P ro N E ops Q R tbl none [] ((i,false,o)::pl) fr ds l:=qK h hw hd hb hR hk
end
theorem OpE.re(k:Keep l l2)(h:OpE P ro N fr l2 o K)(hk: ∀v l',K v l'-> ∃l3,Keep l' l3/\K' v l3):OpE P ro N fr l o K':=
 ⟨h.nodef,λE a W hf hs=>(h.val E a W hf (k.sat hs)).mono λv W' ⟨l',h1,h2⟩=>by obtain⟨l3,h3,h4⟩:=hk v l' h1;exact⟨l3,h4,h3.sat h2⟩⟩
theorem Fn.re{f:FuncId}{args:List Value}(k:Keep l l2)(h:Fn P f args l2 K)(hk: ∀v l',K v l'-> ∃l3,Keep l' l3/\K' v l3):Fn P f args l K':=
 ⟨λE W hs=>(h.run E W (k.sat hs)).mono λe W' he=>by obtain⟨v,l',h1,h2,h3⟩:=he;obtain⟨l3,h4,h5⟩:=hk v l' h2;exact⟨v,l3,h1,h5,h4.sat h3⟩⟩
theorem Y4{l l':List Ab}{b:Nat}{o o':Obj}(h:Upd l b o o' l'): ∀(c:List Ab),Upd (c++l) b o o' (c++l')
 |[]=>h
 |x::c=> .there (Y4 h c)
section
variable{d:Option Nat}{aft:Array Edge}{x z s:Operand}{u w:Value}{b:Nat}
theorem GI{T e k yb bl:Nat}{ws zs:List Value}{X cs F:List Ab}(hx:ev fr s=some v)(hy:ev fr x=some (.slice (some ⟨bl,0,none⟩) 1 1))[c:ST P T e k yb][cz:ZV P e zs](hzs:zs.length=k)(hown:OwnSl e k v n xs cs)(hw:ws.length=k)(h1: ∀u∈ws,u.oneCell'=true)(hn:n<=1000000)(hby:yb<=1000):
 OpE P ro N fr ((bl,.cells (toArray ws) e (0,0))::(X++(cs++F))) ⟨d,.call {callee:= .builtin .append,args:=#[s,x],argTypes:=#[T,T]},ty,pos,aft,g⟩ (λv' l'=> ∃c2,OwnSl e k v' (n+1) (xs++ws) c2/\l'=X++(c2++F)):=by
 have hpm:((bl,Obj.cells (toArray ws) e (0,0))::(X++(cs++F))).Perm (cs++(((bl,Obj.cells (toArray ws) e (0,0))::X)++F)):=
  Ay ((bl,Obj.cells (toArray ws) e (0,0))::X) cs F
 have hb:(n+1)*yb<=140737488355328:=by have:=H9 (show n+1<=1000001 by omega) hby;omega
 refine OpE.re (Keep.of_perm hpm) (Gk (m:=1) (xs:=xs) (news:=ws) (zs:=zs) hx hy hzs hown (Aa _ Ak) (λj u hj=>by simpa using hj) (by rw[hw,Nat.one_mul]) h1 (by unfold maxLen;omega) hb) ?_;rintro v' _ ⟨c2,ho,rfl⟩;exact⟨_,Keep.trans (Keep.of_perm (Ay c2 ((bl,Obj.cells (toArray ws) e (0,0))::X) F)) (.drop .refl),c2,ho,rfl⟩
theorem Xn{a:Act}{d:Nat}(hf:FSat N fr a)(hj:ops[j]?=some oj)(hd:oj.dst=some d)(hb:BP fr d=some undef):yielded ops a.tmps j=none:=by have:=hf.at_ d _ hb;simp[yielded,hj,hd,this,undef]
theorem nK{Q:Exit->Act->World->Prop}{d dj:Nat}{bw:Bool}(hw:o.guard=some (j,bw))(hj:ops[j]?=some oj)(hjd:oj.dst=some dj)(hb:BP fr dj=some undef)(hd:o.dst=some d)(hbl:Nat.blt d N=true)(hk:Df P ro N E ops Q rest ((d,undef)::fr) ds l):Df P ro N E ops Q (o::rest) fr ds l:=
 ⟨λa W hf hds hs=>by have hy:=Xn hf hj hjd hb;refine wpListIn_step λK' hK'=>?_;rw[Ac (by simp[Region.wanted,hw,hy])];refine⟨λ_ _=>trivial,hK' _ _ (hk.run _ _ ?_ ((Ed _ _ _).trans hds) hs)⟩;have:=hf.put (d:=o.dst) undef (by rw[hd];exact hbl);rw[hd] at this⊢;exact this⟩
end
structure Bx(H:Prop):Prop where
 h:H
theorem qO(k:H)(h:Bx H->G:=by(intro k;((first|(show Df _ _ _ _ _ _ (_::_) _ _ _;first|refine sH ?_|refine sI ?_|refine ozs0 ?_|refine sJ ?_|refine sK ?_|refine tu ?_)|refine YN ?_|refine Mo ?_|refine Oe ?_|refine SS ?_|refine KZ rfl ?_|refine K0 rfl ?_|refine Od ?_|refine Uc ?_|refine QI ?_|refine Og ?_|refine Kg ?_|refine If ?_|refine Ln rfl ?_|refine YO ?_|refine Lm ?_|refine Kh ?_|refine Ud ?_|refine P8 ?_|refine P9 ?_|refine Ki ?_|refine p_scope_exit ?_|refine YQ ?_|refine QO rfl Af ?_|refine QP rfl Af ?_));exact k.h)):G:=h ⟨k⟩
theorem Xo(k:H)(h:Bx H->G:=by(intro k;((first|(show Df _ _ _ _ _ _ (_::_) _ _ _;first|refine sH ?_|refine sI ?_|refine ozs0 ?_|refine sJ ?_|refine sK ?_|refine nK rfl rfl rfl rfl rfl rfl ?_|refine tu ?_)|refine YN ?_|refine Mo ?_|refine Oe ?_|refine SS ?_|refine KZ rfl ?_|refine K0 rfl ?_|refine Od ?_|refine Uc ?_|refine QI ?_|refine Og ?_|refine Kg ?_|refine If ?_|refine Ln rfl ?_|refine YO ?_|refine Lm ?_|refine Kh ?_|refine Ud ?_|refine P8 ?_|refine P9 ?_|refine Ki ?_|refine p_scope_exit ?_|refine YQ ?_|refine QO rfl Af ?_|refine QP rfl Af ?_));exact k.h)):G:=h ⟨k⟩
theorem gz(k:H)(h:Bx H->G:=by(intro k;(repeat refine qO ?_);exact k.h)):G:=h ⟨k⟩
theorem Aj(k:H)(h:Bx H->G:=by(intro k;(repeat refine Xo ?_);exact k.h)):G:=h ⟨k⟩
theorem qP(k:H)(h:Bx H->G:=by(intro k;(repeat(first|(show Df _ _ _ _ _ _ (_::_) _ _ _;first|refine sH ?_|refine sI ?_|refine ozs0 ?_|refine sJ ?_|refine sK ?_|refine nK rfl rfl rfl rfl rfl rfl ?_)|refine YN ?_|refine Mo ?_|refine Oe ?_|refine SS ?_|refine KZ rfl ?_|refine K0 rfl ?_|refine Od ?_|refine Uc ?_|refine QI ?_|refine Og ?_|refine Kg ?_|refine If ?_|refine Ln rfl ?_|refine YO ?_|refine Lm ?_|refine Kh ?_|refine Ud ?_|refine P8 ?_|refine P9 ?_|refine Ki ?_|refine p_scope_exit ?_|refine YQ ?_|refine QO rfl Af ?_|refine QP rfl Af ?_));exact k.h)):G:=h ⟨k⟩
theorem Hj{H:Nat->Prop}(k: ∀b,H b)(h:Bx (∀b,H b)->G:=by(intro k;(repeat refine qO ?_);(first|refine db (DZ rfl rfl) rfl rfl rfl ?_|refine db (CR rfl) rfl rfl rfl ?_|refine db e_alloc rfl rfl rfl ?_);rintro _ _ ⟨b,_,rfl,rfl⟩;(repeat refine qO ?_);exact k.h b)):G:=h ⟨k⟩
theorem AQ{H:Nat->Prop}(k: ∀b,H b)(h:Bx (∀b,H b)->G:=by(intro k;(repeat refine Xo ?_);(first|refine db (DZ rfl rfl) rfl rfl rfl ?_|refine db (CR rfl) rfl rfl rfl ?_|refine db e_alloc rfl rfl rfl ?_);rintro _ _ ⟨b,_,rfl,rfl⟩;(repeat refine Xo ?_);exact k.h b)):G:=h ⟨k⟩
theorem pz(k:H)(h:Bx H->G:=by(intro k;(repeat(first|refine Xg ?_|(show PlanS _ _ _ _ _ _ _ _ _ _ ((_,true,_)::_) _ _ _;first|refine iK ?_|refine pY ?_|refine pZ ?_)|(show PlanS _ _ _ _ _ _ _ _ none [] ((_,_,_)::_) _ _ _;first|refine tv ?_|refine pzs0 ?_)|(show PlanS _ _ _ _ _ _ _ _ _ _ ((_,_,_)::_) _ _ _;first|refine pY ?_|refine pZ ?_)|(show PlanS _ _ _ _ _ _ _ _ none [] ((_,false,_)::_) _ _ _;first|refine mf ?_|refine tx ?_)));exact k.h)):G:=h ⟨k⟩
theorem BI(k:H)(h:Bx H->G:=by(intro k;(repeat(first|refine Xg ?_|(show PlanS _ _ _ _ _ _ _ _ _ _ ((_,true,_)::_) _ _ _;first|refine iK ?_|refine pY ?_|refine pZ ?_)|(show PlanS _ _ _ _ _ _ _ _ none [] ((_,_,_)::_) _ _ _;first|refine tv ?_|refine pzs0 ?_|refine pl_hu (BZ (by(repeat(first|with_reducible apply Eb|with_reducible apply GV|with_reducible apply List.Sublist.cons_cons|with_reducible apply List.Sublist.cons)))) rfl rfl rfl rfl rfl rfl ?_)|(show PlanS _ _ _ _ _ _ _ _ _ _ ((_,_,_)::_) _ _ _;first|refine pY ?_|refine pZ ?_)|(show PlanS _ _ _ _ _ _ _ _ none [] ((_,false,_)::_) _ _ _;first|refine mf ?_|refine tx ?_)));exact k.h)):G:=h ⟨k⟩
theorem VC(k:H)(h:Bx H->G:=by(intro k;((first|refine Xg ?_|(show PlanS _ _ _ _ _ _ _ _ _ _ ((_,true,_)::_) _ _ _;first|refine iK ?_|refine pY ?_|refine pZ ?_)|(show PlanS _ _ _ _ _ _ _ _ none [] ((_,_,_)::_) _ _ _;first|refine tv ?_|refine pzs0 ?_|refine pl_hu (BZ (by(repeat(first|with_reducible apply Eb|with_reducible apply GV|with_reducible apply List.Sublist.cons_cons|with_reducible apply List.Sublist.cons)))) rfl rfl rfl rfl rfl rfl ?_)|(show PlanS _ _ _ _ _ _ _ _ _ _ ((_,_,_)::_) _ _ _;first|refine pY ?_|refine pZ ?_)|(show PlanS _ _ _ _ _ _ _ _ none [] ((_,false,_)::_) _ _ _;first|refine mf ?_|refine tx ?_)));exact k.h)):G:=h ⟨k⟩
theorem BO(h:p:=by(((repeat(first|with_reducible apply Ak|with_reducible apply An));try with_reducible assumption))):p:=h
theorem Dw(h:p:=by((repeat(first|apply Upd.here|apply Upd.there)))):p:=h
theorem K5(h:p:=by((repeat(first|with_reducible apply Eb|with_reducible apply GV|with_reducible apply List.Sublist.cons_cons|with_reducible apply List.Sublist.cons)))):p:=h
theorem A7(h:p:=by((repeat(first|apply ResS.nil|(apply nI;(·rfl))|(apply dB;(·rfl);(·((repeat(first|with_reducible apply Ak|with_reducible apply An));try with_reducible assumption));(·rfl))|(apply Cq;(·rfl);(·((repeat(first|with_reducible apply Ak|with_reducible apply An));try with_reducible assumption));(·(repeat(first|with_reducible apply LSub.done|with_reducible apply LSub.take|with_reducible apply LSub.drop)))))))):p:=h
theorem AR(h:p:=by(((try simp only[Ad,Ag,AJ,CY]);repeat(first|with_reducible apply Keep.refl|(apply Keep.pick;·(repeat(first|apply Pick.here|apply Pick.there)))|apply Keep.drop)))):p:=h
theorem SA(h:p:=by(first|exact Dv rfl (.head _) (by(first|with_reducible assumption|((with_reducible apply Ms);(repeat(first|with_reducible apply LGet.zero|with_reducible apply LGet.succ)))))|exact IR rfl (.head _) (by(repeat(first|with_reducible apply LSub.done|with_reducible apply LSub.take|with_reducible apply LSub.drop))))):p:=h
theorem Gh(h:p:=by((repeat(first|apply Attach.nil|(apply Attach.cons;·rfl))))):p:=h
theorem Sn(h:l.Sublist l':=by((repeat(first|with_reducible apply Eb|with_reducible apply GV|with_reducible apply List.Sublist.cons_cons|with_reducible apply List.Sublist.cons)))): ∀c,c∈l->c∈l':=λ_ hc=>h.subset hc
def qQ:Option IntKind->Value->Prop
 |some k,v=> ∃a:Int,v= .int k a
 |none,v=> ∃b:Bool,v= .bool b
def AllK:List (Option IntKind)->List Value->Prop
 |[],cs=>cs=[]
 |k::ks,cs=> ∃c r,cs=c::r/\qQ k c/\AllK ks r
theorem AllK.len(h:AllK a x):x.length=a.length:=by
 induction a generalizing x with
 |nil=>cases h;rfl
 |cons q a ih=>obtain⟨c,r,rfl,h1,h2⟩:=h;simp[ih h2]
def J5(P:Program)(t:TypeId):Bool:=match P.underlying t with
 |some (.struct _)|some (.array _ _)=>true
 |_=>false
def ax(P:Program):Nat->TypeId->Option (List (Option IntKind))
 |0,_=>none
 |n+1,t=>match P.underlying t with
  |some (.int k)=>some [some k]
  |some .bool=>some [none]
  |some (.struct fs)=>if P.stoodInHeld t then none else
   fs.toList.foldl (λacc f=>acc.bind λl=>(ax P n f.type).bind λks=>if f.offset=l.length/\f.name≠ "_" /\(P.info? f.type).map (·.size)=some ks.length then some (l++ks) else none) (some [])
  |some (.array len e)=>(ax P n e).bind λks=>if(P.info? e).map (·.size)=some ks.length then some (List.replicate len ks).flatten else none
  |_=>none
def HO(P:Program)(t:TypeId)(xs:List Value):Value:=if J5 P t then .agg xs.toArray else xs.headD undef
section
variable{t:TypeId}{f:Value->Sem α}{Q:α->List Ab->Prop}
theorem Ta{d:TypeDesc}{inf:TypeInfo}(hu:P.underlying t=some d)(ha:Mp d=true)(hi:P.info? t=some inf)(cs:List Value)(off:Nat):
 sl P (part t cs.toArray off>>=f) l Q<->sl P (f (.agg ((cs.drop off).take inf.size).toArray)) l Q:=by
 unfold part;rw[AB,Mq hu,ha];simp only[CT];rw[EW hi];have e:cs.toArray.extract off (off+inf.size)=((cs.drop off).take inf.size).toArray:=by apply BJ.1;rw[Gw,Cx];simp
 rw[e];exact Di
theorem Tb{d:TypeDesc}(hu:P.underlying t=some d)(ha:Mp d=false)(cs:List Value)(off:Nat)(hv:cs[off]?=some v):
 sl P (part t cs.toArray off>>=f) l Q<->sl P (f v) l Q:=by
 unfold part;rw[AB,Mq hu,ha];simp only[Bg,CS,AE,hv];exact Di
def Mx:Value->Value->Bool
 | .int _ a,.int _ b=>a==b
 | .bool a,.bool b=>a==b
 |_,_=>false
def BQ:List Value->List Value->Bool
 |x::xs,y::ys=>Mx x y&&BQ xs ys
 |_,_=>true
theorem My: ∀(a b c d:List Value),a.length=b.length->BQ (a++c) (b++d)=(BQ a b&&BQ c d)
 |[],[],c,d,_=>by simp[BQ]
 |x::a,y::b,c,d,h=>by simp only[Ad,BQ,My a b c d (by simpa using h),Bool.and_assoc]
theorem F4: ∀{ks:List (Option IntKind)} {a:List Value},AllK ks a->BQ a a=true
 |[],a,h=>by cases h;rfl
 |none::ks,a,h=>by obtain⟨c,r,rfl,⟨b,rfl⟩,h2⟩:=h;simp[BQ,Mx,F4 h2]
 |some k::ks,a,h=>by obtain⟨c,r,rfl,⟨b,rfl⟩,h2⟩:=h;simp[BQ,Mx,F4 h2]
theorem Xp{β:Type}(r:β->Bool)(body:β->Option Bool×Unit->Sem (ForInStep (Option Bool×Unit)))(k:Option Bool×Unit->Sem Bool)(k1:k (none,())=pure true)(k2:k (some false,())=pure false){Q:Bool->List Ab->Prop}{l:List Ab}: ∀(xs:List β),(∀x∈xs,∀(Q:ForInStep (Option Bool×Unit)->List Ab->Prop) l,sl P (body x (none,())) l Q<->Q (if r x then .yield (none,()) else .done (some false,())) l)->
 (sl P (forIn xs ((none:Option Bool),()) body>>=k) l Q<->Q (xs.all r) l)
 |[],_=>by simp only[List.forIn_nil,AB,Bj,List.all_nil,k1]
 |x::xs,h=>by
  rw[AB,List.forIn_cons,AB,h x Ak,Hk];cases hr:r x with
  |true=>simp only[CT,Bn];rw[<-AB];exact Xp r body k k1 k2 xs λy hy=>h y (An _ hy)
  |false=>simp only[Bg,CS,Bd,Bj,k2]
theorem AllK.take_left(h:AllK (a++b) x):AllK a (x.take a.length):=by
 induction a generalizing x with
 |nil=>simp[AllK]
 |cons k a ih=>obtain⟨c,r,rfl,h1,h2⟩:=h;exact⟨c,r.take a.length,by simp,h1,ih h2⟩
theorem AllK.drop_left(h:AllK (a++b) x):AllK b (x.drop a.length):=by
 induction a generalizing x with
 |nil=>simpa using h
 |cons k a ih=>obtain⟨c,r,rfl,h1,h2⟩:=h;simpa using ih h2
theorem NG(xs ys:List Value)(m:Nat)(h:xs.length=ys.length):BQ xs ys=(BQ (xs.take m) (ys.take m)&&BQ (xs.drop m) (ys.drop m)):=by rw[<-My _ _ _ _ (by simp[h]),Cb,Cb]
def Y5(P:Program)(t:TypeId):Nat:=((P.info? t).map (·.size)).getD 0
def Qd(P:Program)(xs ys:List Value)(f:Field):Bool:=BQ ((xs.drop f.offset).take (Y5 P f.type)) ((ys.drop f.offset).take (Y5 P f.type))
structure jm(P:Program)(n:Nat)(xs ys:List Value)(f:Field)(kf:List (Option IntKind)):Prop where
 kinds:ax P n f.type=some kf
 named:f.name≠ "_"
 size:(P.info? f.type).map (·.size)=some kf.length
 x:AllK kf ((xs.drop f.offset).take kf.length)
 y:AllK kf ((ys.drop f.offset).take kf.length)
theorem Q0(n:Nat)(xs ys:List Value): ∀(fs:List Field) (l ks:List (Option IntKind)),
 fs.foldl (λacc f=>acc.bind λl=>(ax P n f.type).bind λks=>if f.offset=l.length/\f.name≠ "_" /\(P.info? f.type).map (·.size)=some ks.length then some (l++ks) else none) (some l)=some ks->
 ∃rest,ks=l++rest/\(AllK ks xs->AllK ks ys->(∀f∈fs,∃kf,jm P n xs ys f kf)/\BQ (xs.drop l.length) (ys.drop l.length)=fs.all (Qd P xs ys)):=by
 intro fs
 induction fs with
 |nil=>intro l ks h;simp only[FM,H0] at h;subst h;refine⟨[],by simp,λhx hy=>⟨by simp,?_⟩⟩;rw[Dj (by rw[hx.len];exact A5 _),Dj (by rw[hy.len];exact A5 _)];rfl
 |cons f fs ih=>
  intro l ks h;simp only[Eg,GT] at h;cases hk:ax P n f.type with
  |none=>rw[hk] at h;simp only[Option.bind_none] at h;rw[Lk] at h;cases h
  |some kf=>
   rw[hk] at h;simp only[GT] at h;by_cases hc:f.offset=l.length/\f.name≠ "_" /\(P.info? f.type).map (·.size)=some kf.length
   ·rw[Ae hc] at h;obtain⟨rest,hr,hrest⟩:=ih _ _ h;refine⟨kf++rest,by rw[hr,Al],λhx hy=>?_⟩;obtain⟨g1,g2⟩:=hrest hx hy;have hx1:AllK kf ((xs.drop f.offset).take kf.length):=by rw[hc.1];rw[hr,Al] at hx;exact hx.drop_left.take_left
    have hy1:AllK kf ((ys.drop f.offset).take kf.length):=by rw[hc.1];rw[hr,Al] at hy;exact hy.drop_left.take_left
    refine⟨λg hg=>?_,?_⟩
    ·rcases Aq.1 hg with rfl|hg
     ·exact⟨kf,hk,hc.2.1,hc.2.2,hx1,hy1⟩
     ·exact g1 g hg
    ·rw[Hk,<-g2,NG _ _ kf.length (by simp[hx.len,hy.len])];simp only[Qd,Y5,hc.2.2,Dn,hc.1,JI,Ah]
   ·rw[Ac hc,Lk] at h;cases h
theorem K6{t:TypeId}{f:Value->Sem α}{Q:α->List Ab->Prop}{kf:List (Option IntKind)}(h:ax P n t=some kf)(hs:(P.info? t).map (·.size)=some kf.length)(cs:List Value)(off:Nat)(hx:AllK kf ((cs.drop off).take kf.length)):
 sl P (part t cs.toArray off>>=f) l Q<->sl P (f (HO P t ((cs.drop off).take kf.length))) l Q:=by
 have hi: ∃inf,P.info? t=some inf/\inf.size=kf.length:=by
  cases hh:P.info? t with
  |none=>rw[hh] at hs;cases hs
  |some inf=>rw[hh] at hs;exact⟨inf,rfl,by simpa using hs⟩
 obtain⟨inf,hi1,hi2⟩:=hi;have scal: ∀{d:TypeDesc} {k:Option IntKind},P.underlying t=some d->Mp d=false->J5 P t=false->kf=[k]->(sl P (part t cs.toArray off>>=f) l Q<->sl P (f (HO P t ((cs.drop off).take kf.length))) l Q):=by
  intro d k hu ha hb hkf;subst hkf;obtain⟨c,r,e1,_,e2⟩:=hx;have hg:cs[off]?=some c:=by have:=BM (λz=>z[0]?) e1;simpa using this
  rw[Tb hu ha cs off hg];unfold HO;rw[hb,e1];exact Di
 have agg: ∀{d:TypeDesc},P.underlying t=some d->Mp d=true->J5 P t=true->(sl P (part t cs.toArray off>>=f) l Q<->sl P (f (HO P t ((cs.drop off).take kf.length))) l Q):=by intro d hu ha hb;rw[Ta hu ha hi1 cs off,hi2];unfold HO;rw[hb];exact Di
 cases n with
 |zero=>cases h
 |succ n=>
  unfold ax at h
  split at h
  ·rename_i k hu;cases h;exact scal hu rfl (by unfold J5;rw[hu]) rfl
  ·rename_i hu;cases h;exact scal hu rfl (by unfold J5;rw[hu]) rfl
  ·rename_i fs hu;exact agg hu rfl (by unfold J5;rw[hu])
  ·rename_i len e hu;exact agg hu rfl (by unfold J5;rw[hu])
  ·cases h
theorem VD(kf:List (Option IntKind)): ∀(len:Nat) (xs ys:List Value),AllK (List.replicate len kf).flatten xs->AllK (List.replicate len kf).flatten ys->
 (∀i,i<len->AllK kf ((xs.drop (i*kf.length)).take kf.length)/\AllK kf ((ys.drop (i*kf.length)).take kf.length))/\
   BQ xs ys=(List.range' 0 len).all λi=>BQ ((xs.drop (i*kf.length)).take kf.length) ((ys.drop (i*kf.length)).take kf.length):=by
 intro len
 induction len with
 |zero=>intro xs ys hx hy;cases hx;cases hy;exact⟨λi hi=>by omega,rfl⟩
 |succ len ih=>
  intro xs ys hx hy;rw[BE,Cl] at hx hy;obtain⟨h1,h2⟩:=ih _ _ hx.drop_left hy.drop_left;have sh: ∀i (z:List Value),(z.drop kf.length).drop (i*kf.length)=z.drop ((i+1)*kf.length):=λi z=>by rw[JI];congr 1;rw[Fq];omega
  refine⟨λi hi=>?_,?_⟩
  ·cases i with
   |zero=>simpa using And.intro hx.take_left hy.take_left
   |succ i=>have:=h1 i Af;rw[sh,sh] at this;exact this
  ·rw[NG _ _ kf.length (by rw[hx.len,hy.len]),h2,List.range'_succ,Hk];congr 1
   ·simp
   ·have e:List.range' (0+1) len=(List.range' 0 len).map (· +1):=by simp[List.range'_eq_map_range,Function.comp_def,Js]
    rw[e,List.all_map];congr 1;funext i;simp only[Function.comp,sh]
theorem Ul: ∀(n d:Nat) (t:TypeId) (ks:List (Option IntKind)),ax P n t=some ks->n<=d-> ∀(xs ys:List Value),AllK ks xs->AllK ks ys-> ∀(Q:Bool->List Ab->Prop) (l:List Ab),
 (sl P (Op.equalIn d t (HO P t xs) (HO P t ys)) l Q<->Q (BQ xs ys) l):=by
 intro n
 induction n with
 |zero=>intro d t ks h;cases h
 |succ n ih=>
  intro d t ks h hd xs ys hx hy Q l;obtain⟨d,rfl⟩: ∃e,d=e+1:=⟨d-1,Af⟩
  unfold ax at h
  split at h
  ·rename_i k hu;cases h;obtain⟨_,_,rfl,⟨a,rfl⟩,rfl⟩:=hx;obtain⟨_,_,rfl,⟨b,rfl⟩,rfl⟩:=hy;simp only[HO,J5,hu,Bg,CS,Ht];unfold Op.equalIn;rw[BX hu];simp[BQ,Mx,Bj]
  ·rename_i hu;cases h;obtain⟨_,_,rfl,⟨a,rfl⟩,rfl⟩:=hx;obtain⟨_,_,rfl,⟨b,rfl⟩,rfl⟩:=hy;simp only[HO,J5,hu,Bg,CS,Ht];unfold Op.equalIn;rw[BX hu];simp[BQ,Mx,Bj]
  ·rename_i fs hu;by_cases hst:P.stoodInHeld t=true
   ·rw[Ae hst] at h;cases h
   rw[Ac hst] at h;obtain⟨rest,hr,hrest⟩:=Q0 n xs ys fs.toList [] ks h;obtain⟨g1,g2⟩:=hrest hx hy;simp only[Eh,List.drop_zero] at g2;have hag:J5 P t=true:=by unfold J5;rw[hu]
   simp only[HO,hag,CT];unfold Op.equalIn;rw[BX hu];simp only;rw[NR,Bool.eq_false_iff.2 hst];simp only[Bg,CS];rw[g2,<-Array.forIn_toList];refine Xp (Qd P xs ys) _ _ rfl rfl fs.toList λf hf Q l=>?_;obtain⟨kf,ok⟩:=g1 f hf;rw[Ae ok.named,K6 ok.kinds ok.size xs f.offset ok.x,K6 ok.kinds ok.size ys f.offset ok.y,AB,ih d f.type kf ok.kinds Af _ _ ok.x ok.y];simp only[Qd,Y5,ok.size,Dn];cases BQ (List.take kf.length (List.drop f.offset xs)) (List.take kf.length (List.drop f.offset ys))<;>simp[Bj]
  ·rename_i len e hu;obtain⟨kf,hk,hk2⟩:=HI.1 h;by_cases hs:(P.info? e).map (·.size)=some kf.length
   ·rw[Ae hs] at hk2;cases hk2;obtain⟨g1,g2⟩:=VD kf len xs ys hx hy;have hag:J5 P t=true:=by unfold J5;rw[hu]
    have hi: ∃inf,P.info? e=some inf/\inf.size=kf.length:=by
     cases hh:P.info? e with
     |none=>rw[hh] at hs;cases hs
     |some inf=>rw[hh] at hs;exact⟨inf,rfl,by simpa using hs⟩
    obtain⟨inf,hi1,hi2⟩:=hi;simp only[HO,hag,CT];unfold Op.equalIn;rw[BX hu];simp only;rw[EW hi1,hi2,g2];rw[Gz];have hsz:Std.Legacy.Range.size [:len]=len:=by simp[Std.Legacy.Range.size]
    rw[hsz];refine Xp (λi=>BQ ((xs.drop (i*kf.length)).take kf.length) ((ys.drop (i*kf.length)).take kf.length)) _ _ rfl rfl (List.range' 0 len) λi hf Q l=>?_;have hil:i<len:=by have:=Kc.1 hf;omega
    obtain⟨o1,o2⟩:=g1 i hil;rw[K6 hk hs xs _ o1,K6 hk hs ys _ o2,AB,ih d e kf hk Af _ _ o1 o2];cases BQ (List.take kf.length (List.drop (i*kf.length) xs)) (List.take kf.length (List.drop (i*kf.length) ys))<;>simp[Bj]
   ·rw[Ac hs] at hk2;cases hk2
  ·cases h
def nL(P:Program)(t:TypeId):Option (List (Option IntKind)):=if J5 P t=true/\P.eqGuardType P.depth t=false then ax P 20 t else none
class EQ(P:Program)(t:Nat)(ks:outParam (List (Option IntKind))):Prop where out:nL P t=some ks
theorem Mz{t:TypeId}(h:nL P t=some ks):J5 P t=true/\P.eqGuardType P.depth t=false/\ax P 20 t=some ks:=by
 unfold nL at h
 split at h
 ·rename_i hc;exact⟨hc.1,hc.2,h⟩
 ·cases h
variable{d:Option Nat}{aft:Array Edge}{x:Operand}{t t2:TypeId}{ys:List Value}
theorem Q3{op:BinOp}{xa ya:Array Value}{f:Unit->Sem α}{Q:α->List Ab->Prop}(hg:P.eqGuardType P.depth t=false):sl P (eqGuard op t x y (.agg xa) (.agg ya)>>=f) l Q<->sl P (f ()) l Q:=by
 have key: ∀bb:Bool,sl P ((if(!bb)=true then(pure ():Sem Unit) else do
  let p<-program
  let q<-program
  if(!p.eqGuardType q.depth t)=true then pure () else do
   let r<-Op.eqGuardIn Op.maxDepth t (.agg xa) (.agg ya)
   if r=true then unsupported (Unsupported.noEntry "binop/eql: two nil values of an interface type with methods, in a part of a struct or an array") else pure ())>>=f) l Q<->sl P (f ()) l Q:=by
  intro bb;cases bb with
  |false=>exact Di
  |true=>rw[AB];simp only[Bool.not_true,Bg,CS];rw[NR,NR,hg];exact Di
 unfold eqGuard
 split
 ·exact key true
 ·exact key true
 ·exact key false
theorem FJ[c:EQ P t ks](hx:ev fr x=some (.agg (toArray xs)))(hy:ev fr y=some (.agg (toArray ys)))(kx:AllK ks xs)(ky:AllK ks ys):OpQ P ro N fr R ⟨d,.binOp .eql t x y t2,ty,pos,aft,g⟩ (.bool (BQ xs ys)):=BL rfl λρ l hρ _=>by obtain⟨e1,e2,e3⟩:=Mz c.out;simp only[execOp,hρ x _ hx,hρ y _ hy];rw[AB,Q3 e2];have h:=Ul 20 Op.maxDepth t ks e3 AW xs ys kx ky;unfold HO at h;rw[e1] at h;simp only[CT] at h;simp only[binOp,Op.equal,AB,h,Bj];exact⟨trivial,trivial⟩
theorem Qe[c:EQ P t ks](hx:ev fr x=some (.agg (toArray xs)))(hy:ev fr y=some (.agg (toArray ys)))(kx:AllK ks xs)(ky:AllK ks ys):OpQ P ro N fr R ⟨d,.binOp .neq t x y t2,ty,pos,aft,g⟩ (.bool (!BQ xs ys)):=BL rfl λρ l hρ _=>by obtain⟨e1,e2,e3⟩:=Mz c.out;simp only[execOp,hρ x _ hx,hρ y _ hy];rw[AB,Q3 e2];have h:=Ul 20 Op.maxDepth t ks e3 AW xs ys kx ky;unfold HO at h;rw[e1] at h;simp only[CT] at h;simp only[binOp,Op.equal,AB,h,Bj];exact⟨trivial,trivial⟩
theorem dH[c:EQ P t ks](hx:ev fr x=some (.agg (toArray xs)))(hy:ev fr y=some (.agg (toArray xs)))(kx:AllK ks xs):OpQ P ro N fr R ⟨d,.binOp .eql t x y t2,ty,pos,aft,g⟩ (.bool true):=by have:=FJ (P:=P) (ro:=ro) (N:=N) (R:=R) (d:=d) (ty:=ty) (pos:=pos) (aft:=aft) (g:=g) (t2:=t2) (c:=c) hx hy kx kx;rwa [F4 kx] at this
theorem dI[c:EQ P t ks](hx:ev fr x=some (.agg (toArray xs)))(hy:ev fr y=some (.agg (toArray xs)))(kx:AllK ks xs):OpQ P ro N fr R ⟨d,.binOp .neq t x y t2,ty,pos,aft,g⟩ (.bool false):=by have:=Qe (P:=P) (ro:=ro) (N:=N) (R:=R) (d:=d) (ty:=ty) (pos:=pos) (aft:=aft) (g:=g) (t2:=t2) (c:=c) hx hy kx kx;rwa [F4 kx] at this
end
def Y6:List (Option IntKind)->List Value->Bool
 |[],[]=>true
 |some k::ks,.int k' _::cs=>decide (k=k')&&Y6 ks cs
 |none::ks,.bool _::cs=>Y6 ks cs
 |_,_=>false
theorem IW: ∀{ks:List (Option IntKind)} {cs:List Value},Y6 ks cs=true->AllK ks cs
 |[],[],_=>rfl
 |some k::ks,.int k' a::cs,h=>by simp only[Y6,AX,Br] at h;exact⟨_,_,rfl,⟨a,by rw[h.1]⟩,IW h.2⟩
 |none::ks,.bool b::cs,h=>⟨_,_,rfl,⟨b,rfl⟩,IW h⟩
end Go.Proofs.YtlkgekpmileobaaGreat
